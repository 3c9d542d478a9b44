/- Lemmas. -/
import Derived.Test.YthpkmilhiganjaaGreatPEb
import Derived.Test.YthpkmilhiganjaaGreatPLg
import Derived.Test.YthpkmilhiganjaaGreatPEa
import Derived.Test.YthpkmilhiganjaaGreatPLd
set_option linter.all false
set_option maxHeartbeats 32000000
set_option maxRecDepth 100000
namespace Go.Proofs.YthpkmilhiganjaaGreat
open Go Go.Fi
structure C6(C:Nat->Nat->Int)(n c row:Nat)(ow:List Int)(w:Ws):Prop where
 mi:MI C n c row w.u w.v ow
 la:w.ah.length=c+n
 a0:0<=w.at_
 a1:w.at_<((c+n:Nat):Int)
 a2:nth ow w.at_.toNat=-1
 a3:nth w.sn w.at_.toNat=true
 hs:∀j,j<c+n->nth w.sn j=true->(j:Int)≠w.at_->0<=nth ow j
 pth:∀j,j<c+n->nth w.sn j=true->Via (c+n) row ow w j λl=>nth w.u l+nth w.v j=C l j
 rk:∃rk:Nat->Nat,(∀j,j<c+n->nth w.sn j=true->rk j<c+n)/\(∀j,j<c+n->nth w.sn j=true->0<=nth w.ah j->rk (nth w.ah j).toNat<rk j)/\∀j,j<c+n->nth w.sn j=true->rk j<=rk w.at_.toNat
section
variable{C:Nat->Nat->Int}{n c row:Nat}{ow:List Int}{w:Ws}
structure ze9(C:Nat->Nat->Int)(n c row:Nat)(ow:List Int)(w:Ws)(s:ScS)(t:List Int×List Int×List Int):Prop where
 l1:t.1.length=n
 l2:t.2.1.length=c+n
 l3:t.2.2.length=c+n
 uT:∀l,Tv (c+n) row ow w l->nth t.1 l=nth w.u l+s.least
 uF:∀l,¬Tv (c+n) row ow w l->nth t.1 l=nth w.u l
 vT:∀j,j<c+n->nth w.sn j=true->nth t.2.1 j=nth w.v j-s.least
 vF:∀j,nth w.sn j=false->nth t.2.1 j=nth w.v j
 sF:∀j,j<c+n->nth w.sn j=false->nth t.2.2 j=nth s.sl j-s.least
theorem za7(hr:row<n)(g:GI C n c row ow w)(hs:zbn C n c row ow w (bl C (c+n) w)):ze9 C n c row ow w (bl C (c+n) w) (kH C (c+n) ow row w):=by
 unfold kH;generalize bl C (c+n) w=s at hs ⊢
 have d3:s.sl.length=c+n:=by rw[hs.ok.l1,g.ls]
 have aw:row<w.u.length:=by rw[g.mi.lu];exact hr
 have ok:=za6 w.sn ow s.least (w.u.set row (nth w.u row+s.least)) w.v s.sl (by rw[d3,g.mi.lv]) (λj hj hn=>by
  rw[g.mi.lv] at hj;have h1:=(g.hs j hj hn).1;rw[nP,g.mi.lu]
  rcases g.mi.how j hj with h|h<;>omega) (λj k hj hk h0 he=>g.mi.dO j k (by rw[<-g.mi.lv];exact hj) (by rw[<-g.mi.lv];exact hk) h0 he) (c+n) (by rw[g.mi.lv];omega)
 generalize bL w.sn ow s.least (w.u.set row (nth w.u row+s.least)) w.v s.sl (c+n)=t at ok ⊢
 have dl:¬∃j,j<c+n/\nth w.sn j=true/\nth ow j=(row:Int):=by
  rintro⟨j,hj,_,he⟩
  rcases g.mi.how j hj with h|h<;>omega
 refine⟨by rw[ok.l1,nP,g.mi.lu],by rw[ok.l2,g.mi.lv],by rw[ok.l3,d3],λl hl=>?_,λl hl=>?_,λj hj hn=>?_,λj hn=>?_,λj hj hn=>?_⟩
 .by_cases cf:l=row
  .subst cf;rw[ok.uf _ dl,cL _ _ _ _ aw,az rfl]
  .rw[ok.ut l (hl.resolve_left cf),cL _ _ _ _ aw,ai (bT cf)]
 .have h1:l≠row:=λe=>hl (.inl e)
  rw[ok.uf l (λh=>hl (.inr h)),cL _ _ _ _ aw,ai (bT h1)]
 .rw[ok.ev,az ⟨hj,hn⟩]
 .rw[ok.ev,ai]
  rintro⟨_,h⟩;rw[hn] at h;cases h
 .rw[ok.esl,az ⟨hj,hn⟩]
theorem zce(hp:Hp C n c)(hr:row<n)(g:GI C n c row ow w):MI C n c row (bM C (c+n) ow row w).u (bM C (c+n) ow row w).v ow:=by
 have hs:=C1 hp hr g;have ht:=za7 hr g hs;show MI C n c row (kH C (c+n) ow row w).1 (kH C (c+n) ow row w).2.1 ow;generalize kH C (c+n) ow row w=t at ht ⊢;generalize bl C (c+n) w=s at hs ht;have hd:=hs.d0
 have hvp:∀l,l<n->nth t.2.1 (c+l)=0:=λl hl=>by
  have:nth w.sn (c+l)=false:=by
   cases h:nth w.sn (c+l) with
   |false=>rfl
   |true=>have:=(g.hs _ (by omega) h).2;omega
  rw[ht.vF _ this,g.mi.hvp l hl]
 refine⟨ht.l1,ht.l2,g.mi.lo,λl hl=>?_,λj hj=>?_,λj hj ho=>?_,hvp,λl j hl hj=>?_,g.mi.how,g.mi.dO,λj hj h0=>?_,g.mi.Bm⟩
 .have:=g.mi.hu l hl;by_cases h:Tv (c+n) row ow w l
  .rw[ht.uT l h];omega
  .rw[ht.uF l h];omega
 .have:=g.mi.hv j hj
  cases h:nth w.sn j with
  |true=>rw[ht.vT j hj h];omega
  |false=>rw[ht.vF j h];omega
 .cases h:nth w.sn j with
  |true=>have:=(g.hs j hj h).1;omega
  |false=>rw[ht.vF j h];exact g.mi.hvz j hj ho
 .have hf:=g.mi.hf l j hl hj;by_cases h:Tv (c+n) row ow w l
  .rw[ht.uT l h]
   cases hn:nth w.sn j with
   |true=>rw[ht.vT j hj hn];omega
   |false=>
    rw[ht.vF j hn];have h1:=hs.lo j hj hn l h;have h2:=hs.ok.lo j hj hn;omega
  .rw[ht.uF l h]
   cases hn:nth w.sn j with
   |true=>rw[ht.vT j hj hn];omega
   |false=>rw[ht.vF j hn];omega
 .have he:=g.mi.ht j hj h0
  cases hn:nth w.sn j with
  |true=>
   rw[ht.vT j hj hn,ht.uT _ (.inr ⟨j,hj,hn,by omega⟩)];omega
  |false=>
   have dm:¬Tv (c+n) row ow w (nth ow j).toNat:=by
    rintro (h|⟨k,hk,hh,b4⟩)
    .rcases g.mi.how j hj with h1|h1<;>omega
    .have:=g.mi.dO j k hj hk h0 (by omega);subst this;rw[hn] at hh;cases hh
   rw[ht.vF j hn,ht.uF _ dm];exact he
structure Rnd(C:Nat->Nat->Int)(n c row:Nat)(ow:List Int)(w w':Ws):Prop where
 a0:0<=w'.at_
 a1:w'.at_<((c+n:Nat):Int)
 new:nth w.sn w'.at_.toNat=false
 sn:w'.sn=w.sn.set w'.at_.toNat true
 la:w'.ah.length=c+n
 pth:∀j,j<c+n->nth w'.sn j=true->Via (c+n) row ow w' j λl=>nth w'.u l+nth w'.v j=C l j
 rk:∃rk:Nat->Nat,(∀j,j<c+n->nth w'.sn j=true->rk j+bF w'.sn<c+n)/\(∀j,j<c+n->nth w'.sn j=true->0<=nth w'.ah j->rk (nth w'.ah j).toNat<rk j)/\∀j,j<c+n->nth w'.sn j=true->rk j<=rk w'.at_.toNat
theorem zdy(l:List Bool):bF l<=l.length:=by unfold bF;exact Io
theorem zcf(hp:Hp C n c)(hr:row<n)(g:GI C n c row ow w):Rnd C n c row ow w (bM C (c+n) ow row w):=by
 have hs:=C1 hp hr g;have ht:=za7 hr g hs;unfold bM;generalize kH C (c+n) ow row w=t at ht ⊢;generalize bl C (c+n) w=s at hs ht ⊢
 have bn:s.next.toNat<w.sn.length:=by rw[g.ln];have:=hs.nx1;have:=hs.nx0;omega
 have aa:s.next.toNat<c+n:=by rw[<-g.ln];exact bn
 have a6:∀j,nth (w.sn.set s.next.toNat true) j=if s.next.toNat=j then true else nth w.sn j:=λj=>cL _ _ _ _ bn
 have up:∀j,nth w.sn j=true->nth (w.sn.set s.next.toNat true) j=true:=λj h=>by rw[a6];split<;>simp[h]
 have bf:Tv (c+n) row ow w row:=.inl rfl;refine⟨hs.nx0,hs.nx1,hs.nx2,rfl,by dsimp only;rw[hs.ok.l2,g.la],λj hj hn=>?_,?_⟩
 .dsimp only[Via] at hn ⊢;rw[a6] at hn;by_cases he:s.next.toNat=j
  .subst he;have hv:=ht.vF _ hs.nx2;rw[hv];have dt:=hs.dn
   rcases hs.via _ aa hs.nx2 with ⟨h1,h2⟩|⟨h1,h2,h3,h4⟩
   .left;refine⟨h1,?_⟩;rw[ht.uT _ bf];omega
   .right;refine⟨h1,h2,up _ h3,?_⟩;have:=(g.hs _ (by omega) h3).1;rw[ht.uT _ (.inr ⟨_,by omega,h3,by omega⟩)];omega
  .rw[ai he] at hn;rw[hs.old j hn,ht.vT j hj hn]
   rcases g.pth j hj hn with ⟨h1,h2⟩|⟨h1,h2,h3,h4⟩
   .left;refine⟨h1,?_⟩;rw[ht.uT _ bf];omega
   .right;refine⟨h1,h2,up _ h3,?_⟩;have:=(g.hs _ (by omega) h3).1;rw[ht.uT _ (.inr ⟨_,by omega,h3,by omega⟩)];omega
 .obtain⟨rk,r1,r2⟩:=g.rk;have a5:=WK w.sn s.next.toNat bn hs.nx2;have cj:=zdy w.sn;rw[g.ln] at cj;dsimp only;refine⟨λx=>if x=s.next.toNat then c+n-bF w.sn else rk x,λj hj hn=>?_,λj hj hn h0=>?_,λj hj hn=>?_⟩
  .rw[a6] at hn;dsimp only;split
   .omega
   .rename_i he;rw[ai (bT he)] at hn;have:=r1 j hj hn;omega
  .rw[a6] at hn;dsimp only;by_cases he:j=s.next.toNat
   .subst he;rw[az rfl]
    rcases hs.via _ aa hs.nx2 with ⟨h1,_⟩|⟨h1,h2,h3,_⟩
    .omega
    .have h':(nth s.ah s.next.toNat).toNat≠s.next.toNat:=λe=>by
      rw[e,hs.nx2] at h3;cases h3
     rw[ai h'];have:=r1 _ (by omega) h3;omega
   .rw[ai (bT he)] at hn;rw[hs.old j hn] at h0 ⊢;rw[ai he]
    have h3:nth w.sn (nth w.ah j).toNat=true:=by
     rcases g.pth j hj hn with ⟨h1,_⟩|⟨_,_,h3,_⟩
     .omega
     .exact h3
    have h':(nth w.ah j).toNat≠s.next.toNat:=λe=>by
     rw[e,hs.nx2] at h3;cases h3
    rw[ai h'];exact r2 j hj hn h0
  .rw[a6] at hn;dsimp only;rw[az rfl];split
   .omega
   .rename_i he;rw[ai (bT he)] at hn;have:=r1 j hj hn;omega
theorem zdz(hp:Hp C n c)(hr:row<n)(g:GI C n c row ow w)(ho:nth ow (bl C (c+n) w).next.toNat<0):C6 C n c row ow (bM C (c+n) ow row w):=by
 have hm:=zce hp hr g;have hq:=zcf hp hr g;have hat:(bM C (c+n) ow row w).at_=(bl C (c+n) w).next:=rfl;rw[<-hat] at ho;generalize bM C (c+n) ow row w=w' at *
 have aa:w'.at_.toNat<w.sn.length:=by rw[g.ln];have:=hq.a0;have:=hq.a1;omega
 have h1:w'.at_.toNat<c+n:=by rw[<-g.ln];exact aa
 refine⟨hm,hq.la,hq.a0,hq.a1,(hm.how _ h1).resolve_right (by omega),by rw[hq.sn,cL _ _ _ _ aa,az rfl],λj hj hn h'=>?_,hq.pth,?_⟩
 .rw[hq.sn,cL _ _ _ _ aa,ai (by have:=hq.a0;omega)] at hn;exact (g.hs j hj hn).1
 .obtain⟨rk,r1,r2,r3⟩:=hq.rk;exact⟨rk,λj hj hn=>by have:=r1 j hj hn;omega,r2,r3⟩
theorem zcg(hp:Hp C n c)(hr:row<n)(g:GI C n c row ow w)(ho:¬nth ow (bl C (c+n) w).next.toNat<0):GI C n c row ow (bM C (c+n) ow row w):=by
 have hm:=zce hp hr g;have hq:=zcf hp hr g;have hs:=C1 hp hr g;have ht:=za7 hr g hs;have e1:(bM C (c+n) ow row w).at_=(bl C (c+n) w).next:=rfl;have e2:(bM C (c+n) ow row w).u=(kH C (c+n) ow row w).1:=rfl;have e3:(bM C (c+n) ow row w).v=(kH C (c+n) ow row w).2.1:=rfl;have e4:(bM C (c+n) ow row w).sl=(kH C (c+n) ow row w).2.2:=rfl;have e5:(bM C (c+n) ow row w).ah=(bl C (c+n) w).ah:=rfl;have e6:(bM C (c+n) ow row w).i=(nth ow (bl C (c+n) w).next.toNat).toNat:=rfl;generalize bM C (c+n) ow row w=w' at *;generalize kH C (c+n) ow row w=t at *;generalize bl C (c+n) w=s at *
 have aa:s.next.toNat<w.sn.length:=by rw[g.ln];have:=hs.nx0;have:=hs.nx1;omega
 have bn:s.next.toNat<c+n:=by rw[<-g.ln];exact aa
 have a6:∀j,nth w'.sn j=if s.next.toNat=j then true else nth w.sn j:=λj=>by rw[hq.sn,e1];exact cL _ _ _ _ aa
 have off:∀j,nth w'.sn j=false->nth w.sn j=false/\s.next.toNat≠j:=λj h=>by
  rw[a6] at h;split at h
  .cases h
  .rename_i h';exact⟨h,h'⟩
 have up:∀j,nth w.sn j=true->nth w'.sn j=true:=λj h=>by rw[a6];split<;>simp[h]
 have c6:s.next.toNat<c:=hs.car.resolve_right (by omega);refine⟨hm,by rw[e4,ht.l3],hq.la,by rw[hq.sn,nP,g.ln],λj hj hn=>?_,.inr ⟨hq.a0,hq.a1,by rw[a6,e1,az rfl],by rw[e1,e6];omega⟩,λj hj hn l hl h'=>?_,λj hj hn=>.inr ?_,hq.pth,let ⟨rk,r1,r2,_⟩:=hq.rk;⟨rk,r1,r2⟩⟩
 .rw[a6] at hn;split at hn
  .rename_i he;subst he;exact⟨by omega,c6⟩
  .exact g.hs j hj hn
 .obtain⟨hn,cg⟩:=off j hn
  have ct:Tv (c+n) row ow w l:=by
   rcases hl with h|⟨k,hk,hh,b4⟩
   .exact .inl h
   .rw[a6] at hh;split at hh
    .rename_i he;subst he;exact absurd (by rw[e6];omega) h'
    .exact .inr ⟨k,hk,hh,b4⟩
  have:=hs.lo j hj hn l ct;rw[e4,ht.sF j hj hn,e2,ht.uT l ct,e3,ht.vF j hn];omega
 .obtain⟨hn,cg⟩:=off j hn;dsimp only[Via];rw[e4,ht.sF j hj hn,e2,e3,ht.vF j hn,e5]
  rcases hs.via j hj hn with ⟨h1,h2⟩|⟨h1,h2,h3,h4⟩
  .left;refine⟨h1,?_⟩;rw[ht.uT _ (.inl rfl)];omega
  .right;refine⟨h1,h2,up _ h3,?_⟩;have:=(g.hs _ (by omega) h3).1;rw[ht.uT _ (.inr ⟨_,by omega,h3,by omega⟩)];omega
theorem za8(hp:Hp C n c)(hr:row<n)(g:GI C n c row ow w):bF (bM C (c+n) ow row w).sn+1=bF w.sn:=by
 have hs:=C1 hp hr g;refine WK _ _ ?_ hs.nx2;rw[g.ln];have:=hs.nx0;have:=hs.nx1;omega
end
theorem zch{C:Nat->Nat->Int}{n c row:Nat}{ow:List Int}(hp:Hp C n c)(hr:row<n):∀(f:Nat)(w:Ws),GI C n c row ow w->bF w.sn<=f->C6 C n c row ow (m6 C (c+n) ow row f w)
 |0,w,g,h=>by have:=za8 hp hr g;omega
 |f+1,w,g,h=>by
  unfold m6;split
  .rename_i ho;exact zdz hp hr g ho
  .rename_i ho;exact zch hp hr f _ (zcg hp hr g ho) (by have:=za8 hp hr g;omega)
theorem tE{α:Type}[Inhabited α](m:Nat)(a:α)(j:Nat)(h:j<m):nth (List.replicate m a) j=a:=by
 simp[nth,da,h]
theorem zci{C:Nat->Nat->Int}{n c row:Nat}{s:Hs}(m:MI C n c row s.u s.v s.ow):GI C n c row s.ow (ws0 (c+n) s row):=by
 have hf:∀j,j<c+n->nth (List.replicate (c+n) false) j=false:=λj hj=>tE _ _ _ hj
 refine⟨m,by simp[ws0],by simp[ws0],by simp[ws0],λj hj hn=>?_,.inl ⟨rfl,rfl,λj hj=>hf j hj⟩,λj hj hn l hl h'=>?_,λj hj hn=>.inl ⟨tE _ _ _ hj,rfl⟩,λj hj hn=>?_,⟨λ_=>0,λj hj hn=>?_,λj hj hn=>?_⟩⟩
 .have:=hf j hj;have h2:nth (List.replicate (c+n) false) j=true:=hn;rw[this] at h2;cases h2
 .rcases hl with h|⟨k,hk,hh,_⟩
  .exact absurd h h'
  .have:=hf k hk;have h2:nth (List.replicate (c+n) false) k=true:=hh;rw[this] at h2;cases h2
 all_goals
  have:=hf j hj;have h2:nth (List.replicate (c+n) false) j=true:=hn;rw[this] at h2;cases h2
theorem zcj{C:Nat->Nat->Int}{n c row:Nat}{s:Hs}(hp:Hp C n c)(hr:row<n)(m:MI C n c row s.u s.v s.ow):C6 C n c row s.ow (lp C (c+n) s row):=
 zch hp hr _ _ (zci m) (by show bF (List.replicate (c+n) false)<=_;rw[zcd];omega)
structure AI(C:Nat->Nat->Int)(n c row:Nat)(u v ow:List Int)(sn:List Bool)(rk:Nat->Nat)(at_:Nat)(ow1:List Int):Prop where
 lo:ow1.length=c+n
 how:∀j,j<c+n->j≠at_->nth ow1 j=-1\/(0<=nth ow1 j/\nth ow1 j<(row:Int))
 dO:∀j k,j<c+n->k<c+n->j≠at_->k≠at_->0<=nth ow1 j->nth ow1 j=nth ow1 k->j=k
 ht:∀j,j<c+n->j≠at_->0<=nth ow1 j->nth u (nth ow1 j).toNat+nth v j=C (nth ow1 j).toNat j
 Bm:∀l,l<row->∃j,j<c+n/\j≠at_/\nth ow1 j=(l:Int)
 hz:∀j,j<c+n->j≠at_->nth ow1 j=-1->nth ow j=-1
 same:∀j,j<c+n->nth sn j=true->rk j<rk at_->nth ow1 j=nth ow j
theorem zck{C:Nat->Nat->Int}{n c row:Nat}{ow:List Int}{w:Ws}(hr:row<n)(d:C6 C n c row ow w)(rk:Nat->Nat)(cy:∀j,j<c+n->nth w.sn j=true->0<=nth w.ah j->rk (nth w.ah j).toNat<rk j)(cv:∀j,j<c+n->nth w.sn j=true->rk j<=rk w.at_.toNat):∀(f:Nat)(at_:Nat)(ow1:List Int),at_<c+n->nth w.sn at_=true->rk at_<f->AI C n c row w.u w.v ow w.sn rk at_ ow1->MI C n c (row+1) w.u w.v (dX w.ah row f at_ ow1)
 |0,_,_,_,_,h,_=>absurd h (by omega)
 |f+1,at_,ow1,ha,hn,hf,a=>by
  unfold dX;rw[ai (by omega),fM]
  have bu:∀(z:Int)(j:Nat),nth (ow1.set at_ z) j=if at_=j then z else nth ow1 j:=λz j=>cL _ _ _ _ (by rw[a.lo];exact ha)
  rcases d.pth at_ ha hn with ⟨h1,h2⟩|⟨h1,h2,h3,h4⟩
  .rw[h1,az (by omega)]
   have e:∀g,dX w.ah row g (-1) (ow1.set at_ (row:Int))=ow1.set at_ (row:Int):=λg=>by
    cases g with
    |zero=>rfl
    |succ g=>unfold dX;rw[az (by omega)]
   rw[e];have m:=d.mi;refine⟨m.lu,m.lv,by rw[nP,a.lo],m.hu,m.hv,λj hj ho=>?_,m.hvp,m.hf,λj hj=>?_,λj k hj hk h0 he=>?_,λj hj h0=>?_,λl hl=>?_⟩
   .rw[bu] at ho;split at ho
    .omega
    .rename_i h';exact m.hvz j hj (a.hz j hj (bT h') ho)
   .rw[bu];split
    .right;omega
    .rename_i h'
     rcases a.how j hj (bT h') with h|h
     .exact .inl h
     .right;omega
   .rw[bu] at h0 he;rw[bu] at he;by_cases h8:at_=j
    .by_cases hy:at_=k
     .omega
     .rw[az h8,ai hy] at he
      rcases a.how k hk (bT hy) with h|h<;>omega
    .by_cases hy:at_=k
     .rw[ai h8,az hy] at he
      rcases a.how j hj (bT h8) with h|h<;>omega
     .rw[ai h8] at h0;rw[ai h8,ai hy] at he;exact a.dO j k hj hk (bT h8) (bT hy) h0 he
   .rw[bu] at h0 ⊢;by_cases h8:at_=j
    .subst h8;rw[az rfl,fM];exact h2
    .rw[ai h8] at h0 ⊢;exact a.ht j hj (bT h8) h0
   .by_cases c8:l=row
    .exact⟨at_,ha,by rw[bu,az rfl,c8]⟩
    .obtain⟨j,hj,h',he⟩:=a.Bm l (by omega);exact⟨j,hj,by rw[bu,ai (bT h')];exact he⟩
  .rw[ai (by omega)];obtain⟨b,hb⟩:∃b:Nat,nth w.ah at_=b:=⟨(nth w.ah at_).toNat,by omega⟩;have av:=cy at_ ha hn (by omega);rw[hb] at h1 h2 h3 h4 av ⊢;simp only[fM] at h3 h4 av ⊢
   have ax:b<c+n:=by omega
   have c4:b≠at_:=λe=>by rw[e] at av;omega
   have ay:=a.same b ax h3 av;have dg:=cv at_ ha hn
   have c3:0<=nth ow b:=d.hs b ax h3 (λe=>by
    have:w.at_.toNat=b:=by omega
    rw[this] at dg;omega)
   rw[ay];refine zck hr d rk cy cv f b (ow1.set at_ (nth ow b)) ax h3 (by omega) ?_
   have d6:nth ow b<(row:Int):=by
    rcases d.mi.how b ax with h|h<;>omega
   refine⟨by rw[nP,a.lo],λj hj h'=>?_,λj k hj hk cg dk h0 he=>?_,λj hj h' h0=>?_,λl hl=>?_,λj hj h' ho=>?_,λj hj c7 hc=>?_⟩
   .rw[bu];split
    .exact .inr ⟨c3,d6⟩
    .rename_i h8;exact a.how j hj (bT h8)
   .rw[bu] at h0 he;rw[bu] at he;by_cases h8:at_=j
    .by_cases hy:at_=k
     .omega
     .rw[az h8,ai hy,<-ay] at he;have:=a.dO b k ax hk c4 (bT hy) (by omega) he;exact absurd this (bT dk)
    .by_cases hy:at_=k
     .rw[ai h8,az hy,<-ay] at he;rw[ai h8] at h0;have:=a.dO j b hj ax (bT h8) c4 h0 he;exact absurd this cg
     .rw[ai h8] at h0;rw[ai h8,ai hy] at he;exact a.dO j k hj hk (bT h8) (bT hy) h0 he
   .rw[bu] at h0 ⊢;by_cases h8:at_=j
    .subst h8;rw[az rfl];exact h4
    .rw[ai h8] at h0 ⊢;exact a.ht j hj (bT h8) h0
   .obtain⟨j,hj,h',he⟩:=a.Bm l hl;by_cases cq:j=b
    .exact⟨at_,ha,bT c4,by rw[bu,az rfl,<-ay,<-cq];exact he⟩
    .exact⟨j,hj,cq,by rw[bu,ai (bT h')];exact he⟩
   .rw[bu] at ho;split at ho
    .omega
    .rename_i h8;exact a.hz j hj (bT h8) ho
   .rw[bu,ai (λe=>by rw[<-e] at hc;omega)];exact a.same j hj c7 (by omega)
theorem zd0{C:Nat->Nat->Int}{n c row:Nat}{s:Hs}(hp:Hp C n c)(hr:row<n)(m:MI C n c row s.u s.v s.ow):MI C n c (row+1) (qi C (c+n) s row).u (qi C (c+n) s row).v (qi C (c+n) s row).ow:=by
 have d:=zcj hp hr m;unfold qi;dsimp only;generalize lp C (c+n) s row=w at d ⊢;obtain⟨rk,r1,r2,r3⟩:=d.rk;obtain⟨a,ha⟩:∃a:Nat,w.at_=a:=⟨w.at_.toNat,by have:=d.a0;omega⟩;have a1:=d.a1;have a3:=d.a3;have a2:=d.a2;rw[ha] at a1 a3 a2 ⊢;simp only[fM] at a3 a2;have r4:=r1 a (by omega) a3;refine zck hr d rk r2 r3 (c+n+1) a s.ow (by omega) a3 (by omega) ⟨m.lo,λj hj _=>m.how j hj,λj k hj hk _ _ h0 he=>m.dO j k hj hk h0 he,λj hj _ h0=>d.mi.ht j hj h0,λl hl=>?_,λj hj _ ho=>ho,λj _ _ _=>rfl⟩;obtain⟨j,hj,he⟩:=m.Bm l hl;exact⟨j,hj,λe=>by rw[e,a2] at he;omega,he⟩
theorem za9{C:Nat->Nat->Int}{n c:Nat}(hp:Hp C n c):∀r,r<=n->MI C n c r (l9 C n (c+n) r).u (l9 C n (c+n) r).v (l9 C n (c+n) r).ow
 |0,_=>by
  have e0:∀l,l<n->nth (List.replicate n (0:Int)) l=0:=λl hl=>tE _ _ _ hl
  have e1:∀j,j<c+n->nth (List.replicate (c+n) (0:Int)) j=0:=λl hl=>tE _ _ _ hl
  have e2:∀j,j<c+n->nth (List.replicate (c+n) (-1:Int)) j=-1:=λl hl=>tE _ _ _ hl
  simp only[l9];refine⟨by simp,by simp,by simp,λl hl=>by rw[e0 l hl];omega,λj hj=>by rw[e1 j hj];omega,λj hj _=>e1 j hj,λl hl=>e1 _ (by omega),λl j hl hj=>by rw[e0 l hl,e1 j hj];have:=(hp.bd hl hj).1;omega,λj hj=>.inl (e2 j hj),λj k hj _ h0=>by rw[e2 j hj] at h0;omega,λj hj h0=>by rw[e2 j hj] at h0;omega,λl hl=>absurd hl (by omega)⟩
 |r+1,h=>zd0 hp (by omega) (za9 hp r (by omega))
structure zbo(C:Nat->Nat->Int)(n m row:Nat)(ow:List Int)(w:Ws):Prop where
 hin:w.i<n
 lu:w.u.length=n
 lv:w.v.length=m
 ls:w.sl.length=m
 la:w.ah.length=m
 ln:w.sn.length=m
 nv:∀k,k<m->inI .i64 (C w.i k-nth w.u w.i)/\inI .i64 (C w.i k-nth w.u w.i-nth w.v k)
 sk:∀k,k<=m->(bo C w.u w.v w.sn w.i w.at_ w.sl w.ah k).sl.length=m/\(bo C w.u w.v w.sn w.i w.at_ w.sl w.ah k).ah.length=m
 ur:inI .i64 (nth w.u row+(bl C m w).least)
 tk:∀k,k<=m->(bL w.sn ow (bl C m w).least (w.u.set row (nth w.u row+(bl C m w).least)) w.v (bl C m w).sl k).1.length=n/\(bL w.sn ow (bl C m w).least (w.u.set row (nth w.u row+(bl C m w).least)) w.v (bl C m w).sl k).2.1.length=m /\
  (bL w.sn ow (bl C m w).least (w.u.set row (nth w.u row+(bl C m w).least)) w.v (bl C m w).sl k).2.2.length=m
 ts:∀k,k<m->nth w.sn k=true->∃l:Nat,nth ow k=l/\l<n/\inI .i64 (nth (bL w.sn ow (bl C m w).least (w.u.set row (nth w.u row+(bl C m w).least)) w.v (bl C m w).sl k).1 l+(bl C m w).least) /\
  inI .i64 (nth (bL w.sn ow (bl C m w).least (w.u.set row (nth w.u row+(bl C m w).least)) w.v (bl C m w).sl k).2.1 k-(bl C m w).least)
 tf:∀k,k<m->nth w.sn k=false->inI .i64 (nth (bL w.sn ow (bl C m w).least (w.u.set row (nth w.u row+(bl C m w).least)) w.v (bl C m w).sl k).2.2 k-(bl C m w).least)
 nx:∃a:Nat,(bl C m w).next=a/\a<m
theorem zd1{C:Nat->Nat->Int}{n c row:Nat}{ow:List Int}{w:Ws}(hp:Hp C n c)(hr:row<n)(g:GI C n c row ow w):zbo C n (c+n) row ow w:=by
 have hs:=C1 hp hr g;have hi:=g.ib hr;have dy:=g.mi.ub hp hi;have dx:=g.mi.hu w.i hi;have av:=g.mi.ub hp hr;have dw:=g.mi.hu row hr
 have bg:∀k,k<=c+n->_:=λk hk=>WS C w.u w.v w.sn w.i w.at_ w.sl w.ah (by rw[g.la,g.ls]) k (by rw[g.ls];exact hk)
 have dq:=hs.d0;have dr:=hs.d1
 have a4:∀k,k<=c+n->zda w.sn ow (bl C (c+n) w).least (w.u.set row (nth w.u row+(bl C (c+n) w).least)) w.v (bl C (c+n) w).sl k (bL w.sn ow (bl C (c+n) w).least (w.u.set row (nth w.u row+(bl C (c+n) w).least)) w.v (bl C (c+n) w).sl k):=λk hk=>
  za6 w.sn ow (bl C (c+n) w).least (w.u.set row (nth w.u row+(bl C (c+n) w).least)) w.v (bl C (c+n) w).sl (by rw[hs.ok.l1,g.ls,g.mi.lv]) (λj hj hn=>by
   rw[g.mi.lv] at hj;have h1:=(g.hs j hj hn).1;rw[nP,g.mi.lu]
   rcases g.mi.how j hj with h|h<;>omega) (λj k hj hk h0 he=>g.mi.dO j k (by rw[<-g.mi.lv];exact hj) (by rw[<-g.mi.lv];exact hk) h0 he) k (by rw[g.mi.lv];exact hk)
 have dp:∀l,l<n->0<=nth (w.u.set row (nth w.u row+(bl C (c+n) w).least)) l/\nth (w.u.set row (nth w.u row+(bl C (c+n) w).least)) l<=2000000000000:=λl hl=>by
  rw[cL _ _ _ _ (by rw[g.mi.lu];exact hr)];have:=g.mi.ub hp hl;have:=g.mi.hu l hl
  split<;>omega
 refine⟨hi,g.mi.lu,g.mi.lv,g.ls,g.la,g.ln,λk hk=>?_,λk hk=>⟨by rw[(bg k hk).l1,g.ls],by rw[(bg k hk).l2,g.la]⟩,aN (by omega) (by omega),λk hk=>⟨by rw[(a4 k hk).l1,nP,g.mi.lu],by rw[(a4 k hk).l2,g.mi.lv],by rw[(a4 k hk).l3,hs.ok.l1,g.ls]⟩,λk hk hn=>?_,λk hk hn=>?_,⟨(bl C (c+n) w).next.toNat,by have:=hs.nx0;omega,by have:=hs.nx0;have:=hs.nx1;omega⟩⟩
 .have h1:=hp.bd hi hk;have h2:=g.mi.hv k hk;have h3:=g.mi.vb hp (by omega) hk;exact⟨aN (by omega) (by omega),aN (by omega) (by omega)⟩
 .have h1:=(g.hs k hk hn).1
  have h2:nth ow k<(row:Int):=by rcases g.mi.how k hk with h|h<;>omega
  refine⟨(nth ow k).toNat,by omega,by omega,?_,?_⟩
  .have ht:=a4 k (by omega);have hl:=dp (nth ow k).toNat (by omega)
   have:nth (bL w.sn ow (bl C (c+n) w).least (w.u.set row (nth w.u row+(bl C (c+n) w).least)) w.v (bl C (c+n) w).sl k).1 (nth ow k).toNat=nth (w.u.set row (nth w.u row+(bl C (c+n) w).least)) (nth ow k).toNat:=by
    refine ht.uf _ ?_
    rintro⟨j,hj,c7,he⟩
    have:=g.mi.dO j k (by omega) hk (g.hs j (by omega) c7).1 (by omega);omega
   rw[this];exact aN (by omega) (by omega)
  .have ht:=a4 k (by omega);rw[ht.ev k,ai (by omega)];have h3:=g.mi.hv k hk;have h4:=g.mi.vb hp (by omega) hk;exact aN (by omega) (by omega)
 .have ht:=a4 k (by omega);rw[ht.esl k,ai (by omega)];have h3:=hs.lo k hk hn w.i g.tvi;have h4:=hs.ok.lo k hk hn;have h5:=hp.bd hi hk;have h6:=g.mi.vb hp (by omega) hk;exact aN (by omega) (by omega)
end Go.Proofs.YthpkmilhiganjaaGreat
namespace Go.Proofs.YthpkmilhiganjaaGreat
open Go Go.Fi
variable[ak]
def bA(l:List Bool):List AV:=(nJ l).map (AV.w false false)
@[simp]theorem zf1(l:List Bool):(bA l).length=l.length:=by simp[bA]
@[simp]theorem zf2(l:List Bool)(i:Nat)(h:i<l.length):kZ (bA l) i=.w false false (.bool (nth l i)):=by
 unfold bA;rw[FH _ _ _ (by simpa using h),NZ l i h]
@[simp]theorem zf3(l:List Bool)(i:Nat)(v:Bool):(bA l).set i (.w false false (.bool v))=bA (l.set i v):=by
 simp[bA,nJ,List.map_set]
@[simp]theorem zgf(l:List Bool)(n:Nat):AV.lt.ltL n (bA l)=true:=sT n false false (nJ l)
@[simp]theorem zf4{D:List Nat}{h:ae}{n n':Nat}(l:List Bool):gD D h n n' (bA l) (bA l)=True:=eq_true (og false false _)
theorem zcl(n:Nat)(b:Bool):bA (List.replicate n b)=List.replicate n (.w false false (.bool b)):=by simp[bA,nJ]
def zbp(L:List (List Int))(n m:Nat)(u v ow ah:List Int):ae:=
 [(3,iA ow),(4,[.w false false (.sl n (kx L)),.msl 0 n 1 0 n,.msl 1 m 1 0 m,.msl 3 m 1 0 m,.msl 9 m 1 0 m]),(9,iA ah),(0,iA u),(1,iA v)]
theorem zfa(L:List (List Int))(n c m:Nat)(hm:m=c+n)(hL:L.length=n)(aq:∀i,i<n->(nth L i).length=m)(hp:Hp (λi j=>nth (nth L i) j) n c)(row:Nat)(hr:row<n)(s:Hs)(mi:MI (λi j=>nth (nth L i) j) n c row s.u s.v s.ow)(p0:PV)(K:AV->ae->Nat->Prop)(hK:∀ah,ah.length=m->K (.tup []) (zbp L n m (qi (λi j=>nth (nth L i) j) m s row).u (qi (λi j=>nth (nth L i) j) m s row).v (qi (λi j=>nth (nth L i) j) m s row).ow ah) 10):aS ⟨5,none⟩ Tz.prog (Tryz.f117.body.getD .skip) ⟨fq 0 ([.ptr 4 5 0,.w false false (.int .i64 row)]),[(4,[.w false false (.sl n (kx L)),.msl 0 n 1 0 n,.msl 1 m 1 0 m,.msl 3 m 1 0 m,.w false false p0]),(0,iA s.u),(1,iA s.v),(3,iA s.ow)],5,Tryz.f117.ntmps⟩ (gF Tz.prog Tryz.f117.results.toList K):=by
 have d:=zcj hp hr mi;have g0:=zci (c:=c) (row:=row) mi
 have eG:∀f w,m6 (λi j=>nth (nth L i) j) m s.ow row (f+1) w=if nth s.ow (bl (λi j=>nth (nth L i) j) m w).next.toNat<0 then bM (λi j=>nth (nth L i) j) m s.ow row w else m6 (λi j=>nth (nth L i) j) m s.ow row f (bM (λi j=>nth (nth L i) j) m s.ow row w):=λ_ _=>rfl
 have hS:qi (λi j=>nth (nth L i) j) m s row=⟨(lp (λi j=>nth (nth L i) j) m s row).u,(lp (λi j=>nth (nth L i) j) m s row).v,dX (lp (λi j=>nth (nth L i) j) m s row).ah row (m+1) (lp (λi j=>nth (nth L i) j) m s row).at_ s.ow⟩:=rfl;rw[hS] at hK;clear hS
 have hW:m6 (λi j=>nth (nth L i) j) m s.ow row (bF (ws0 m s row).sn+1) (ws0 m s row)=lp (λi j=>nth (nth L i) j) m s row:=by
  rw[show bF (ws0 m s row).sn=m from zcd m];rfl
 have bh:m<17:=by have:=hp.nn;have:=hp.cc;omega
 have hC:(λi j=>nth (nth L i) j)=λi j=>nth (nth L i) j:=rfl
 have c5:∀w,GI (λi j=>nth (nth L i) j) n c row s.ow w->zbo (λi j=>nth (nth L i) j) n m row s.ow w:=λw g=>by rw[hm];exact zd1 hp hr g
 have hgo:∀w,GI (λi j=>nth (nth L i) j) n c row s.ow w->¬nth s.ow (bl (λi j=>nth (nth L i) j) m w).next.toNat<0->GI (λi j=>nth (nth L i) j) n c row s.ow (bM (λi j=>nth (nth L i) j) m s.ow row w):=λw g h=>by rw[hm] at h ⊢;exact zcg hp hr g h
 have a5:∀w,GI (λi j=>nth (nth L i) j) n c row s.ow w->bF (bM (λi j=>nth (nth L i) j) m s.ow row w).sn+1=bF w.sn:=λw g=>by rw[hm];exact za8 hp hr g
 rw[<-hm] at d g0;have lu:=mi.lu
 have lv:s.v.length=m:=by rw[hm];exact mi.lv
 have lo:s.ow.length=m:=by rw[hm];exact mi.lo
 clear hC hp mi
 obtain⟨C,hC⟩:∃C:Nat->Nat->Int,C=λi j=>nth (nth L i) j:=⟨_,rfl⟩
 have hCe:∀i j,C i j=nth (nth L i) j:=λi j=>by rw[hC]
 rw[<-hC] at d g0 eG hK hW c5 hgo a5;clear hC;generalize lp C m s row=W at d hK hW;have r1:=D5 10000000000000000 m (by omega);have r2:=D5 (-1) m (by omega);have dj:inI .i64 (m:Int):=aN (by omega) (by omega)
 have df:(m:Int)<=1000000000:=by omega
 have kd:=keep d;have kG:=keep eG;have kK:=keep hK;have kr:=keep aq;have kb:=keep c5;have kgo:=keep hgo;have kun:=keep a5;have kC:=keep hCe;have kg:=keep g0;have kW:=keep hW;have km:=keep hm;have k17:=keep bh;clear d eG hK aq c5 hgo a5 hCe g0 hW hm bh;have hb:Tryz.f117.body=some _:=rfl;rw[hb];clear hb;simp only[nO,Tryz.ntmps117,Tryz.results117]
 repeat' first|(with_reducible first|apply Gm|apply Gn|apply aj|apply af|refine bm (id:=1) 7 mixed (by decide +kernel) ?_|refine cwM (r1) ?_|refine cwM (r2) ?_|intro _)|(simp[*,lv,dj,df])
 clear r1 r2;refine gj 10 (λ(w:Ws)=>GI C n c row s.ow w/\m6 C m s.ow row (bF w.sn+1) w=W) [0,1,4,5,6] (λ(w:Ws)=>[(7,.w false false (.int .i64 w.at_)),(8,.w false false (.int .i64 w.i))]) [4,3] (λ(w:Ws)=>[(7,bA w.sn),(6,iA w.sl),(9,iA w.ah),(0,iA w.u),(1,iA w.v)]) (λ(w:Ws)=>bF w.sn) (λ(_u:Unit)=>True) [0,1] (λ(_u:Unit)=>[(7,.w false false (.int .i64 W.at_))]) [4,3] (λ(_u:Unit)=>[(9,iA W.ah),(0,iA W.u),(1,iA W.v)]) (ws0 m s row) ⟨kg,kW⟩ (bU [] (by simp[ws0,zcl]) (by simp[ws0,zcl])) (λw hk=>?_) (λ_u hf=>?_)
 .obtain⟨hg,hw⟩:=hk;have hb:zbo C n m row s.ow w:=kb w hg;have h9:¬nth s.ow (bl C m w).next.toNat<0->GI C n c row s.ow (bM C m s.ow row w):=kgo w hg;have a5:bF (bM C m s.ow row w).sn+1=bF w.sn:=kun w hg
  have cp:m6 C m s.ow row (bF w.sn+1) w=if nth s.ow (bl C m w).next.toNat<0 then bM C m s.ow row w else m6 C m s.ow row (bF w.sn) (bM C m s.ow row w):=kG _ w
  rw[cp,<-a5] at hw;have hCe:∀i j,C i j=nth (nth L i) j:=kC;have d2:∀i,i<n->(nth L i).length=m:=kr;have ag:m<17:=k17;clear kd kG kK kb kgo kun kg kW kr k17 cp hg;obtain⟨u,v,sl,ah,sn,at_,i⟩:=w;have hin:=hb.hin;have wu:=hb.lu;have wv:=hb.lv;have wl:=hb.ls;have wa:=hb.la;have wn:=hb.ln;have bnv:=hb.nv;have bsk:=hb.sk;have bur:=hb.ur;have btk:=hb.tk;have bts:=hb.ts;have btf:=hb.tf;have bnx:=hb.nx;dsimp only at hin wu wv wl wa wn bnv bsk bur btk bts btf bnx h9 a5 hw ⊢;have eS0:bo C u v sn i at_ sl ah 0=⟨sl,ah,10000000000000000,-1⟩:=rfl
  have eSs:∀k,bo C u v sn i at_ sl ah (k+1)=if nth sn k=true then bo C u v sn i at_ sl ah k else
   if nth (if nvS C u v i k<nth (bo C u v sn i at_ sl ah k).sl k then (⟨(bo C u v sn i at_ sl ah k).sl.set k (nvS C u v i k),(bo C u v sn i at_ sl ah k).ah.set k at_,(bo C u v sn i at_ sl ah k).least,(bo C u v sn i at_ sl ah k).next⟩:ScS) else bo C u v sn i at_ sl ah k).sl k <
    (if nvS C u v i k<nth (bo C u v sn i at_ sl ah k).sl k then (⟨(bo C u v sn i at_ sl ah k).sl.set k (nvS C u v i k),(bo C u v sn i at_ sl ah k).ah.set k at_,(bo C u v sn i at_ sl ah k).least,(bo C u v sn i at_ sl ah k).next⟩:ScS) else bo C u v sn i at_ sl ah k).least
   then ⟨(if nvS C u v i k<nth (bo C u v sn i at_ sl ah k).sl k then (⟨(bo C u v sn i at_ sl ah k).sl.set k (nvS C u v i k),(bo C u v sn i at_ sl ah k).ah.set k at_,(bo C u v sn i at_ sl ah k).least,(bo C u v sn i at_ sl ah k).next⟩:ScS) else bo C u v sn i at_ sl ah k).sl,
    (if nvS C u v i k<nth (bo C u v sn i at_ sl ah k).sl k then (⟨(bo C u v sn i at_ sl ah k).sl.set k (nvS C u v i k),(bo C u v sn i at_ sl ah k).ah.set k at_,(bo C u v sn i at_ sl ah k).least,(bo C u v sn i at_ sl ah k).next⟩:ScS) else bo C u v sn i at_ sl ah k).ah,
    nth (if nvS C u v i k<nth (bo C u v sn i at_ sl ah k).sl k then (⟨(bo C u v sn i at_ sl ah k).sl.set k (nvS C u v i k),(bo C u v sn i at_ sl ah k).ah.set k at_,(bo C u v sn i at_ sl ah k).least,(bo C u v sn i at_ sl ah k).next⟩:ScS) else bo C u v sn i at_ sl ah k).sl k,k⟩
   else (if nvS C u v i k<nth (bo C u v sn i at_ sl ah k).sl k then (⟨(bo C u v sn i at_ sl ah k).sl.set k (nvS C u v i k),(bo C u v sn i at_ sl ah k).ah.set k at_,(bo C u v sn i at_ sl ah k).least,(bo C u v sn i at_ sl ah k).next⟩:ScS) else bo C u v sn i at_ sl ah k):=λ_=>rfl
  have eW:bl C m ⟨u,v,sl,ah,sn,at_,i⟩=bo C u v sn i at_ sl ah m:=rfl
  have eR:bM C m s.ow row ⟨u,v,sl,ah,sn,at_,i⟩=⟨(bL sn s.ow (bo C u v sn i at_ sl ah m).least (u.set row (nth u row+(bo C u v sn i at_ sl ah m).least)) v (bo C u v sn i at_ sl ah m).sl m).1,(bL sn s.ow (bo C u v sn i at_ sl ah m).least (u.set row (nth u row+(bo C u v sn i at_ sl ah m).least)) v (bo C u v sn i at_ sl ah m).sl m).2.1,
   (bL sn s.ow (bo C u v sn i at_ sl ah m).least (u.set row (nth u row+(bo C u v sn i at_ sl ah m).least)) v (bo C u v sn i at_ sl ah m).sl m).2.2,(bo C u v sn i at_ sl ah m).ah,sn.set (bo C u v sn i at_ sl ah m).next.toNat true,(bo C u v sn i at_ sl ah m).next,(nth s.ow (bo C u v sn i at_ sl ah m).next.toNat).toNat⟩:=rfl
  rw[eW] at bur btk bts btf bnx h9 hw;generalize bM C m s.ow row ⟨u,v,sl,ah,sn,at_,i⟩=w' at eR h9 a5 hw;clear eW hb;generalize bo C u v sn i at_ sl ah=S at *;have kS:=keep eSs;have knv:=keep bnv;have ksk:=keep bsk;have kC2:=keep hCe;have kur:=keep bur;have ktk:=keep btk;have kts:=keep bts;have ktf:=keep btf;have knx:=keep bnx;have kcon:=keep h9;have kun:=keep a5;have kgw:=keep hw;have kR:=keep eR;have krw:=keep d2;have k17:=keep ag;clear eSs bnv bsk hCe bur btk bts btf bnx h9 a5 hw eR d2 ag
  repeat' first|(with_reducible first|apply aj|apply aI|apply af|intro _)|(simp[*])
  refine gj 10 (λ(k:Nat)=>k<=m) [0,1,4,5,6,7,8,32] (λ(k:Nat)=>[(9,.w false false (.int .i64 (S k).least)),(10,.w false false (.int .i64 (S k).next)),(33,.w false false (.int .i64 k))]) [7,0,1,4,3] (λ(k:Nat)=>[(6,iA (S k).sl),(9,iA (S k).ah)]) (λ(k:Nat)=>m-k) (λ(_u:Unit)=>True) [0,1,4,5,6] (λ(_u:Unit)=>[(9,.w false false (.int .i64 (S m).least)),(10,.w false false (.int .i64 (S m).next))]) [7,0,1,4,3] (λ(_u:Unit)=>[(6,iA (S m).sl),(9,iA (S m).ah)]) (0) (aR _) (bU [] (by simp[eS0]) (by simp[eS0])) (λk hk=>?_) (λ_u hf=>?_)
  .clear eS0 kur ktk kts ktf knx kcon kun kgw kR;by_cases hc:k<m
   .have ao:inI .i64 ((k:Int)+1):=aN (by have:=k17;unfold br at this;omega) (by have:=k17;unfold br at this;omega)
    have hz:k+1<=m:=by omega
    have hCe:∀i j,C i j=nth (nth L i) j:=kC2;have bp:(nth L i).length=m:=krw i hin;obtain⟨l1,l2⟩:(S k).sl.length=m/\(S k).ah.length=m:=ksk k hk;obtain⟨n1,n2⟩:inI .i64 (C i k-nth u i)/\inI .i64 (C i k-nth u i-nth v k):=knv k hc;have eSk:S (k+1)=_:=kS k
    have cx:nvS C u v i k=nth (nth L i) k-nth u i-nth v k:=by unfold nvS;rw[hCe]
    rw[cx] at eSk;rw[hCe] at n1 n2
    have hh:k<sn.length:=by omega
    have hkL:k<(nth L i).length:=by omega
    have hiL:i<L.length:=by omega
    have bj:i<u.length:=by omega
    have b5:k<v.length:=by omega
    clear kS knv ksk kC2 krw k17 hCe cx;generalize S k=sk at *;obtain⟨sl1,ah1,le1,nx1⟩:=sk;dsimp only at l1 l2 eSk ⊢
    cases hx:nth sn k with
    |true=>
     rw[az hx] at eSk
     repeat' first|(with_reducible first|apply aj|apply aI|apply aE|apply aK|apply af|apply au|intro _)|(simp[*,hc,ao,hx,hh,wn])
     all_goals first
      |omega
      |assumption
      |(refine nx (k+1) ?_ ?_;(· exact hz);(refine aM ?_ ?_<;>first|trivial|(simp[*,eSk];done)))
    |false=>
     rw[ai (by rw[hx];decide)] at eSk;have hq:∃q,nth (nth L i) k-nth u i-nth v k=q:=⟨_,rfl⟩;obtain⟨q,hq⟩:=hq;rw[hq] at eSk n2
     have b9:k<sl1.length:=by omega
     have bk:k<ah1.length:=by omega
     by_cases c1:q<nth sl1 k
     .rw[az c1] at eSk;dsimp only at eSk
      have e1:nth (sl1.set k q) k=q:=by rw[cL _ _ _ _ b9,az rfl]
      rw[e1] at eSk
      have l3:(sl1.set k q).length=m:=by simpa using l1
      by_cases c2:q<le1
      .rw[az c2] at eSk
       repeat' first|(with_reducible first|apply aj|apply aI|apply aE|apply af|refine bm (id:=9) 27 mixed (by decide +kernel) ?_|apply au|intro _)|(simp[*,hc,ao,hx,hh,wn,hin,hiL,hkL,bj,b5,bp,wu,wv,hq,n1,n2,c1,c2,b9,bk,l1,l2,e1,l3])
       all_goals first
        |omega
        |assumption
        |(refine nx (k+1) ?_ ?_;(· exact hz);(refine aM ?_ ?_<;>first|trivial|(simp[*,eSk];done)))
      .rw[ai c2] at eSk
       repeat' first|(with_reducible first|apply aj|apply aI|apply aE|apply af|refine bm (id:=9) 27 mixed (by decide +kernel) ?_|apply au|intro _)|(simp[*,hc,ao,hx,hh,wn,hin,hiL,hkL,bj,b5,bp,wu,wv,hq,n1,n2,c1,c2,b9,bk,l1,l2,e1,l3])
       all_goals first
        |omega
        |assumption
        |(refine nx (k+1) ?_ ?_;(· exact hz);(refine aM ?_ ?_<;>first|trivial|(simp[*,eSk];done)))
     .rw[ai c1] at eSk;dsimp only at eSk;by_cases c2:nth sl1 k<le1
      .rw[az c2] at eSk
       repeat' first|(with_reducible first|apply aj|apply aI|apply aE|apply af|refine bm (id:=9) 27 mixed (by decide +kernel) ?_|apply au|intro _)|(simp[*,hc,ao,hx,hh,wn,hin,hiL,hkL,bj,b5,bp,wu,wv,hq,n1,n2,c1,c2,b9,bk,l1,l2])
       all_goals first
        |omega
        |assumption
        |(refine nx (k+1) ?_ ?_;(· exact hz);(refine aM ?_ ?_<;>first|trivial|(simp[*,eSk];done)))
      .rw[ai c2] at eSk
       repeat' first|(with_reducible first|apply aj|apply aI|apply aE|apply af|refine bm (id:=9) 27 mixed (by decide +kernel) ?_|apply au|intro _)|(simp[*,hc,ao,hx,hh,wn,hin,hiL,hkL,bj,b5,bp,wu,wv,hq,n1,n2,c1,c2,b9,bk,l1,l2])
       all_goals first
        |omega
        |assumption
        |(refine nx (k+1) ?_ ?_;(· exact hz);(refine aM ?_ ?_<;>first|trivial|(simp[*,eSk];done)))
   .have b4:k=m:=by omega
    subst b4
    repeat' first|(with_reducible first|apply aj|apply aK|apply af|apply au|intro _)|(simp[*,hc])
    all_goals first
     |omega
     |(refine bN () ?_ ?_;(· trivial);(refine aM ?_ ?_<;>first|trivial|(simp[*];done)))
  .have co:(S m).sl.length=m/\(S m).ah.length=m:=ksk m (aD m);obtain⟨a,cw,ar⟩:=knx;have bz:inI .i64 (nth u row+(S m).least):=kur;have ag:m<17:=k17;clear eS0 kS knv ksk kC2 krw kur kC k17;generalize S m=sm at *;obtain⟨sl1,ah1,d,nx⟩:=sm;dsimp only at co cw bz ⊢;subst cw;obtain⟨d',c8⟩:=co
   have aw:row<u.length:=by omega
   have eT0:bL sn s.ow d (u.set row (nth u row+d)) v sl1 0=(u.set row (nth u row+d),v,sl1):=rfl
   have eTs:∀k,bL sn s.ow d (u.set row (nth u row+d)) v sl1 (k+1)=if nth sn k=true then
    ((bL sn s.ow d (u.set row (nth u row+d)) v sl1 k).1.set (nth s.ow k).toNat (nth (bL sn s.ow d (u.set row (nth u row+d)) v sl1 k).1 (nth s.ow k).toNat+d),(bL sn s.ow d (u.set row (nth u row+d)) v sl1 k).2.1.set k (nth (bL sn s.ow d (u.set row (nth u row+d)) v sl1 k).2.1 k-d),(bL sn s.ow d (u.set row (nth u row+d)) v sl1 k).2.2)
    else ((bL sn s.ow d (u.set row (nth u row+d)) v sl1 k).1,(bL sn s.ow d (u.set row (nth u row+d)) v sl1 k).2.1,(bL sn s.ow d (u.set row (nth u row+d)) v sl1 k).2.2.set k (nth (bL sn s.ow d (u.set row (nth u row+d)) v sl1 k).2.2 k-d)):=λ_=>rfl
   dsimp only at ktk kts ktf kcon kgw kR;generalize bL sn s.ow d (u.set row (nth u row+d)) v sl1=T at *;have kT:=keep eTs;clear eTs
   repeat' first|(with_reducible first|apply aj|apply af|refine And.intro ?_ ?_|intro _)|(simp[*,hr,aw,wu,bz])
   all_goals try first|omega|assumption
   refine gj 10 (λ(k:Nat)=>k<=m) [0,1,4,5,6,9,10,105] (λ(k:Nat)=>[(106,.w false false (.int .i64 k))]) [7,9,4,3] (λ(k:Nat)=>[(0,iA (T k).1),(1,iA (T k).2.1),(6,iA (T k).2.2)]) (λ(k:Nat)=>m-k) (λ(_u:Unit)=>True) [0,1,4,5,6,10] (λ(_u:Unit)=>[]) [7,9,4,3] (λ(_u:Unit)=>[(0,iA (T m).1),(1,iA (T m).2.1),(6,iA (T m).2.2)]) (0) (aR _) (bU [] (by simp[eT0]) (by simp[eT0])) (λk hk=>?_) (λ_u hf=>?_)
   .clear eT0 kcon kun kgw kR;by_cases hc:k<m
    .have ao:inI .i64 ((k:Int)+1):=aN (by omega) (by omega)
     have hz:k+1<=m:=by omega
     obtain⟨t1,t2,t3⟩:(T k).1.length=n/\(T k).2.1.length=m/\(T k).2.2.length=m:=ktk k hk;have bv:nth sn k=true->∃l:Nat,nth s.ow k=l/\l<n/\inI .i64 (nth (T k).1 l+d)/\inI .i64 (nth (T k).2.1 k-d):=kts k hc;have bq:nth sn k=false->inI .i64 (nth (T k).2.2 k-d):=ktf k hc;have eTk:T (k+1)=_:=kT k
     have hh:k<sn.length:=by omega
     have d8:k<s.ow.length:=by omega
     clear ktk kts ktf kT ag bz aw;generalize T k=tk at *;obtain⟨tu,tv,tl⟩:=tk;dsimp only at t1 t2 t3 bv bq eTk ⊢
     have b5:k<tv.length:=by omega
     have d7:k<tl.length:=by omega
     cases hx:nth sn k with
     |true=>
      rw[az hx] at eTk;obtain⟨l,ba,dh,b1,b2⟩:=bv hx;rw[ba] at eTk;simp only[fM] at eTk
      have dc:l<tu.length:=by omega
      clear bv bq
      repeat' first|(with_reducible first|apply aj|apply aI|apply aE|apply af|refine bm (id:=20) 16 mixed (by decide +kernel) ?_|apply au|refine And.intro ?_ ?_|intro _)|(simp[*,hc,ao,hx,hh,wn,ba,dh,dc,b5,t1,t2,b1,b2,d8,lo])
      all_goals first
       |omega
       |assumption
       |(refine nx (k+1) ?_ ?_;(· exact hz);(refine aM ?_ ?_<;>first|trivial|(simp[*,eTk];done)))
     |false=>
      rw[ai (by rw[hx];decide)] at eTk;have b1:=bq hx;clear bv bq
      repeat' first|(with_reducible first|apply aj|apply aI|apply aE|apply af|apply au|intro _)|(simp[*,hc,ao,hx,hh,wn,d7,t3,b1])
      all_goals first
       |omega
       |assumption
       |(refine nx (k+1) ?_ ?_;(· exact hz);(refine aM ?_ ?_<;>first|trivial|(simp[*,eTk];done)))
    .have b4:k=m:=by omega
     subst b4
     repeat' first|(with_reducible first|apply aj|apply aK|apply af|apply au|intro _)|(simp[*,hc])
     all_goals first
      |omega
      |(refine bN () ?_ ?_;(· trivial);(refine aM ?_ ?_<;>first|trivial|(simp[*];done)))
   .clear eT0 kT kts ktf;have hR:w'=_:=kR;have hw:(if nth s.ow ((a:Nat):Int).toNat<0 then w' else m6 C m s.ow row (bF w'.sn+1) w')=W:=kgw;have h9:¬nth s.ow ((a:Nat):Int).toNat<0->GI C n c row s.ow w':=kcon;have a5:bF w'.sn+1=bF sn:=kun
    have cm:a<sn.length:=by omega
    have b6:a<s.ow.length:=by omega
    clear kR kgw kcon kun ktk d' c8 aw bz ag;rw[fM] at hw h9 hR;generalize T m=tm at *;obtain⟨tu,tv,tl⟩:=tm;dsimp only at hR ⊢;by_cases ho:nth s.ow a<0
    .rw[az ho] at hw;rw[hw] at hR;subst hR;clear h9 a5 hw w'
     repeat' first|(with_reducible first|apply aj|apply aK|apply af|apply au|refine And.intro ?_ ?_|intro _)|(simp[*,wn,cm,lo,b6,ar,ho])
     all_goals first
      |omega
      |assumption
      |(refine bN () ?_ ?_;(· trivial);(refine bU [] ?_ ?_<;>first|trivial|(simp[*];done)))
    .rw[ai ho] at hw;have hg:=h9 ho;have kg:=keep (And.intro hg hw);obtain⟨l,ba⟩:∃l:Nat,nth s.ow a=l:=⟨(nth s.ow a).toNat,by omega⟩
     have d9:¬((l:Nat):Int)<0:=by omega
     rw[ba,fM] at hR
     have dv:bF w'.sn<bF sn:=by omega
     clear h9 a5 hw hg ho
     repeat' first|(with_reducible first|apply aj|apply aE|apply af|apply au|refine And.intro ?_ ?_|intro _)|(simp[*,wn,cm,lo,b6,ar,ba,d9])
     all_goals first
      |omega
      |assumption
      |(refine FF _ _ _ _ _ w' _ ?_ (by first|omega|(dsimp only;omega)|(simp;omega)) ?_;(· exact kg);(refine bU [] ?_ ?_<;>first|trivial|(simp[*,hR];done)))
 .have d:C6 C n c row s.ow W:=kd;have hm:m=c+n:=km;have ag:m<17:=k17;have hKK:=kK;unfold br zbp at hKK;dsimp only at hKK
  have c9:W.ah.length=m:=by rw[hm];exact d.la
  have kF:=keep (hKK W.ah c9);clear kG kK kr kb kgo kun kC kg kW k17 hKK;obtain⟨rk,r1,r2,r3⟩:=d.rk
  have bi:∀j,j<m->nth W.sn j=true->(nth W.ah j=-1\/(0<=nth W.ah j/\nth W.ah j<(m:Int)/\nth W.sn (nth W.ah j).toNat=true)):=λj hj hn=>by
   rcases d.pth j (by omega) hn with ⟨h1,_⟩|⟨h1,h2,h3,_⟩
   .exact .inl h1
   .exact .inr ⟨h1,by rw[hm];exact h2,h3⟩
  have bc:∀j,j<m->nth W.sn j=true->0<=nth W.ah j->rk (nth W.ah j).toNat<rk j:=λj hj=>r2 j (by omega)
  have eA:∀f a (o:List Int),dX W.ah row (f+1) ((a:Nat):Int) o=dX W.ah row f (nth W.ah a) (o.set a (if nth W.ah a<0 then (row:Int) else nth o (nth W.ah a).toNat)):=λf a o=>by
   conv=>lhs;unfold dX
   rw[ai (by omega),fM]
  have eN:∀f (o:List Int),dX W.ah row f (-1) o=o:=λf o=>by
   cases f with
   |zero=>rfl
   |succ f=>unfold dX;rw[az (by omega)]
  have a0:=d.a0;have a1:=d.a1;have a3:=d.a3;have d4:=r1 W.at_.toNat (by omega) a3;generalize hOW:dX W.ah row (m+1) W.at_ s.ow=OW at kF;generalize W.at_=at0 at *;generalize W.ah=ah at *;generalize W.sn=sn at *
  have kJ:br (dX ah row (m+1) at0 s.ow=OW/\s.ow.length=m/\(at0=-1\/(0<=at0/\at0<(m:Int)/\nth sn at0.toNat=true/\rk at0.toNat<m+1))):=
   ⟨hOW,lo,.inr ⟨a0,by rw[hm];exact a1,a3,by omega⟩⟩
  have kV:=keep bi;have kk2:=keep bc;have kA:=keep eA;have kN:=keep eN;have k17:=keep ag;clear bi bc eA eN hOW a0 a1 a3 d4 r1 r2 r3 d kd ag hm km
  repeat' first|(with_reducible first|intro _)|(simp[*])
  refine gj 10 (λ(y:Int×List Int×Nat)=>dX ah row y.2.2 y.1 y.2.1=OW/\y.2.1.length=m/\(y.1=-1\/(0<=y.1/\y.1<(m:Int)/\nth sn y.1.toNat=true/\rk y.1.toNat<y.2.2))) [0,1] (λ(y:Int×List Int×Nat)=>[(7,.w false false (.int .i64 y.1))]) [4,9,0,1] (λ(y:Int×List Int×Nat)=>[(3,iA y.2.1)]) (λ(y:Int×List Int×Nat)=>y.2.2) (λ(_u:Unit)=>True) [] (λ(_u:Unit)=>[]) [4,9,0,1] (λ(_u:Unit)=>[(3,iA OW)]) ((at0,s.ow,m+1)) kJ (bU [] (by simp) (by simp)) (λy hk=>?_) (λ_u hf=>?_)
  .clear kJ kF;obtain⟨a',o,f⟩:=y;obtain⟨hj,b',ha⟩:=hk;dsimp only at hj b' ha ⊢;have eN:∀f (o:List Int),dX ah row f (-1) o=o:=kN
   rcases ha with ha|⟨h1,h2,h3,h4⟩
   .subst ha;rw[eN] at hj;clear kV kk2 kA kN k17 eN
    repeat' first|(with_reducible first|apply aj|apply aK|apply af|apply au|intro _)|(simp[*])
    all_goals first
     |omega
     |(refine bN () ?_ ?_;(· trivial);(refine aM ?_ ?_<;>first|trivial|(simp[*,hj];done)))
   .obtain⟨a,rfl⟩:∃a:Nat,a'=a:=⟨a'.toNat,by omega⟩;rw[fM] at h3 h4
    have ar:a<m:=by omega
    obtain⟨f',rfl⟩:∃f',f=f'+1:=⟨f-1,by omega⟩;have hA:dX ah row (f'+1) ((a:Nat):Int) o=_:=kA f' a o;rw[hA] at hj
    have cl:a<ah.length:=by omega
    have b6:a<o.length:=by omega
    have ck:(0:Int)<=a:=by omega
    have hv:nth ah a=-1\/(0<=nth ah a/\nth ah a<(m:Int)/\nth sn (nth ah a).toNat=true):=kV a ar h3;have bb:0<=nth ah a->rk (nth ah a).toNat<rk a:=kk2 a ar h3;have du:f'<f'+1:=xF _
    rcases hv with hv|⟨v1,v2,v3⟩
    .rw[hv,az (by omega)] at hj;have kj:br (dX ah row f' (-1) (o.set a (row:Int))=OW/\(o.set a (row:Int)).length=m/\((-1:Int)=-1\/(0<=(-1:Int)/\(-1:Int)<(m:Int)/\nth sn (-1:Int).toNat=true/\rk (-1:Int).toNat<f'))):=⟨hj,by rw[nP,b'],.inl rfl⟩;clear kV kk2 kA kN k17 eN hj hA bb h1 h2 h3 h4
     repeat' first|(with_reducible first|apply aj|apply aI|apply aE|apply af|apply au|refine And.intro ?_ ?_|intro _)|(simp[*,cl,b6,c9,b',hv,ar,ck])
     all_goals first
      |omega
      |assumption
      |(refine nx (-1,o.set a (row:Int),f') ?_ ?_;(· exact kj);(refine aM ?_ ?_<;>first|trivial|(simp[*];done)))
    .obtain⟨b,hb⟩:∃b:Nat,nth ah a=b:=⟨(nth ah a).toNat,by omega⟩;rw[hb,ai (by omega)] at hj;rw[hb] at v1 v2 v3 bb;rw[fM] at hj v3 bb
     have ay:b<o.length:=by omega
     have d5:b<m:=by omega
     have c3:¬((b:Nat):Int)<0:=by omega
     have av:=bb (by omega)
     have kj:br (dX ah row f' (b:Int) (o.set a (nth o b))=OW/\(o.set a (nth o b)).length=m/\((b:Int)=-1\/(0<=(b:Int)/\(b:Int)<(m:Int)/\nth sn (b:Int).toNat=true/\rk (b:Int).toNat<f'))):=
      ⟨hj,by rw[nP,b'],.inr ⟨by omega,by omega,by rw[fM];exact v3,by rw[fM];omega⟩⟩
     clear kV kk2 kA kN k17 eN hj hA bb h1 h2 h3 h4 av v1 v2 v3
     repeat' first|(with_reducible first|apply aj|apply aI|apply aE|apply af|refine bm (id:=32) 13 mixed (by decide +kernel) ?_|apply au|refine And.intro ?_ ?_|intro _)|(simp[*,cl,b6,c9,b',hb,ay,d5,ar,ck,c3])
     all_goals first
      |omega
      |assumption
      |(refine nx ((b:Int),o.set a (nth o b),f') ?_ ?_;(· exact kj);(refine aM ?_ ?_<;>first|trivial|(simp[*];done)))
  .clear kJ kV kk2 kA kN
   repeat' first|(with_reducible first|intro _)|(simp[*])
   all_goals first
    |(simp[fI,iM,nD,oneOf];exact kF)
end Go.Proofs.YthpkmilhiganjaaGreat
