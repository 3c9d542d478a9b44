/- Lemmas. -/
import Derived.Test.YthpkmilhiganjaaGreatPEa
import Derived.Test.YthpkmilhiganjaaGreatPLg
set_option linter.all false
set_option maxHeartbeats 32000000
set_option maxRecDepth 100000
namespace Go.Proofs.YthpkmilhiganjaaGreat
open Go Go.Fi
structure zcg(C:Nat->Nat->Int)(n c row:Nat)(ow:List Int)(w:Ws):Prop where
 mi:MI C n c row w.u w.v ow
 la:w.ah.length=c+n
 a0:0<=w.at_
 a1:w.at_<((c+n:Nat):Int)
 a2:nth ow w.at_.toNat=-1
 a3:nth w.sn w.at_.toNat=true
 hs:∀j,j<c+n->nth w.sn j=true->(j:Int)≠w.at_->0<=nth ow j
 pth:∀j,j<c+n->nth w.sn j=true->Via (c+n) row ow w j λl=>nth w.u l+nth w.v j=C l j
 rk:∃rk:Nat->Nat,(∀j,j<c+n->nth w.sn j=true->rk j<c+n)/\(∀j,j<c+n->nth w.sn j=true->0<=nth w.ah j->rk (nth w.ah j).toNat<rk j)/\∀j,j<c+n->nth w.sn j=true->rk j<=rk w.at_.toNat
section
variable{C:Nat->Nat->Int}{n c row:Nat}{ow:List Int}{w:Ws}
structure zij(C:Nat->Nat->Int)(n c row:Nat)(ow:List Int)(w:Ws)(s:ScS)(t:List Int×List Int×List Int):Prop where
 l1:t.1.length=n
 l2:t.2.1.length=c+n
 l3:t.2.2.length=c+n
 uT:∀l,Tv (c+n) row ow w l->nth t.1 l=nth w.u l+s.least
 uF:∀l,¬Tv (c+n) row ow w l->nth t.1 l=nth w.u l
 vT:∀j,j<c+n->nth w.sn j=true->nth t.2.1 j=nth w.v j-s.least
 vF:∀j,nth w.sn j=false->nth t.2.1 j=nth w.v j
 sF:∀j,j<c+n->nth w.sn j=false->nth t.2.2 j=nth s.sl j-s.least
theorem zc3(hr:row<n)(g:GI C n c row ow w)(hs:zdx C n c row ow w (bj C (c+n) w)):zij C n c row ow w (bj C (c+n) w) (oc C (c+n) ow row w):=by
 unfold oc;generalize bj C (c+n) w=s at hs ⊢
 have bi:s.sl.length=c+n:=by rw[hs.ok.l1,g.ls]
 have b6:row<w.u.length:=by rw[g.mi.lu];exact hr
 have ok:=zc2 w.sn ow s.least (w.u.set row (nth w.u row+s.least)) w.v s.sl (by rw[bi,g.mi.lv]) (λj hj hn=>by
  rw[g.mi.lv] at hj;have h1:=(g.hs j hj hn).1;rw[oM,g.mi.lu]
  rcases g.mi.how j hj with h|h<;>omega) (λj k hj hk h0 he=>g.mi.fA j k (by rw[<-g.mi.lv];exact hj) (by rw[<-g.mi.lv];exact hk) h0 he) (c+n) (by rw[g.mi.lv];omega)
 generalize cC w.sn ow s.least (w.u.set row (nth w.u row+s.least)) w.v s.sl (c+n)=t at ok ⊢
 have br:¬∃j,j<c+n/\nth w.sn j=true/\nth ow j=(row:Int):=by
  rintro⟨j,hj,_,he⟩
  rcases g.mi.how j hj with h|h<;>omega
 refine⟨by rw[ok.l1,oM,g.mi.lu],by rw[ok.l2,g.mi.lv],by rw[ok.l3,bi],λl hl=>?_,λl hl=>?_,λj hj hn=>?_,λj hn=>?_,λj hj hn=>?_⟩
 .by_cases b5:l=row
  .subst b5;rw[ok.uf _ br,ku _ _ _ _ b6,bX rfl]
  .rw[ok.ut l (hl.resolve_left b5),ku _ _ _ _ b6,bH (dZ b5)]
 .have h1:l≠row:=λe=>hl (.inl e)
  rw[ok.uf l (λh=>hl (.inr h)),ku _ _ _ _ b6,bH (dZ h1)]
 .rw[ok.ev,bX ⟨hj,hn⟩]
 .rw[ok.ev,bH];simp_all
 .rw[ok.esl,bX ⟨hj,hn⟩]
theorem zee(hp:Hp C n c)(hr:row<n)(g:GI C n c row ow w):MI C n c row (cH C (c+n) ow row w).u (cH C (c+n) ow row w).v ow:=by
 have hs:=RR hp hr g;have ht:=zc3 hr g hs;show MI C n c row (oc C (c+n) ow row w).1 (oc C (c+n) ow row w).2.1 ow;generalize oc C (c+n) ow row w=t at ht ⊢;generalize bj C (c+n) w=s at hs ht;have hd:=hs.d0
 have hvp:∀l,l<n->nth t.2.1 (c+l)=0:=λl hl=>by
  have:nth w.sn (c+l)=false:=by
   cases h:nth w.sn (c+l) with
   |false=>rfl
   |true=>have:=(g.hs _ ab h).2;omega
  rw[ht.vF _ this,g.mi.hvp l hl]
 refine⟨ht.l1,ht.l2,g.mi.lo,λl hl=>?_,λj hj=>?_,λj hj ho=>?_,hvp,λl j hl hj=>?_,g.mi.how,g.mi.fA,λj hj h0=>?_,g.mi.MS⟩
 .have:=g.mi.hu l hl;by_cases h:Tv (c+n) row ow w l
  .rw[ht.uT l h];omega
  .rw[ht.uF l h];omega
 .have:=g.mi.hv j hj
  cases h:nth w.sn j with
  |true=>rw[ht.vT j hj h];omega
  |false=>rw[ht.vF j h];omega
 .cases h:nth w.sn j with
  |true=>have:=(g.hs j hj h).1;omega
  |false=>rw[ht.vF j h];exact g.mi.hvz j hj ho
 .have hf:=g.mi.hf l j hl hj;by_cases h:Tv (c+n) row ow w l
  .rw[ht.uT l h]
   cases hn:nth w.sn j with
   |true=>rw[ht.vT j hj hn];omega
   |false=>
    rw[ht.vF j hn];have h1:=hs.lo j hj hn l h;have h2:=hs.ok.lo j hj hn;omega
  .rw[ht.uF l h]
   cases hn:nth w.sn j with
   |true=>rw[ht.vT j hj hn];omega
   |false=>rw[ht.vF j hn];omega
 .have he:=g.mi.ht j hj h0
  cases hn:nth w.sn j with
  |true=>
   rw[ht.vT j hj hn,ht.uT _ (.inr ⟨j,hj,hn,ab⟩)];omega
  |false=>
   have bt:¬Tv (c+n) row ow w (nth ow j).toNat:=by
    rintro (h|⟨k,hk,hw,ag⟩)
    .rcases g.mi.how j hj with h1|h1<;>omega
    .have:=g.mi.fA j k hj hk h0 ab
     grind
   rw[ht.vF j hn,ht.uF _ bt];exact he
structure Rnd(C:Nat->Nat->Int)(n c row:Nat)(ow:List Int)(w w':Ws):Prop where
 a0:0<=w'.at_
 a1:w'.at_<((c+n:Nat):Int)
 new:nth w.sn w'.at_.toNat=false
 sn:w'.sn=w.sn.set w'.at_.toNat true
 la:w'.ah.length=c+n
 pth:∀j,j<c+n->nth w'.sn j=true->Via (c+n) row ow w' j λl=>nth w'.u l+nth w'.v j=C l j
 rk:∃rk:Nat->Nat,(∀j,j<c+n->nth w'.sn j=true->rk j+bL w'.sn<c+n)/\(∀j,j<c+n->nth w'.sn j=true->0<=nth w'.ah j->rk (nth w'.ah j).toNat<rk j)/\∀j,j<c+n->nth w'.sn j=true->rk j<=rk w'.at_.toNat
theorem zgp(l:List Bool):bL l<=l.length:=by unfold bL;grind
theorem zef(hp:Hp C n c)(hr:row<n)(g:GI C n c row ow w):Rnd C n c row ow w (cH C (c+n) ow row w):=by
 have hs:=RR hp hr g;have ht:=zc3 hr g hs;unfold cH;generalize oc C (c+n) ow row w=t at ht ⊢;generalize bj C (c+n) w=s at hs ht ⊢
 have aq:s.next.toNat<w.sn.length:=by rw[g.ln];have:=hs.nx1;have:=hs.nx0;omega
 have hg:s.next.toNat<c+n:=by rw[<-g.ln];exact aq
 have hc:∀j,nth (w.sn.set s.next.toNat true) j=if s.next.toNat=j then true else nth w.sn j:=λj=>ku _ _ _ _ aq
 have up:∀j,nth w.sn j=true->nth (w.sn.set s.next.toNat true) j=true:=λj h=>by rw[hc];split<;>simp[h]
 have a6:Tv (c+n) row ow w row:=.inl rfl;refine⟨hs.nx0,hs.nx1,hs.nx2,rfl,by dsimp only;rw[hs.ok.l2,g.la],λj hj hn=>?_,?_⟩
 .dsimp only[Via] at hn ⊢;rw[hc] at hn;by_cases he:s.next.toNat=j
  .subst he;have hv:=ht.vF _ hs.nx2;rw[hv];have c7:=hs.dn
   rcases hs.via _ hg hs.nx2 with ⟨h1,h2⟩|⟨h1,h2,h3,h4⟩
   .left;refine⟨h1,?_⟩;rw[ht.uT _ a6];omega
   .right;refine⟨h1,h2,up _ h3,?_⟩;have:=(g.hs _ ab h3).1;rw[ht.uT _ (.inr ⟨_,ab,h3,ab⟩)];omega
  .rw[bH he] at hn;rw[hs.old j hn,ht.vT j hj hn]
   rcases g.pth j hj hn with ⟨h1,h2⟩|⟨h1,h2,h3,h4⟩
   .left;refine⟨h1,?_⟩;rw[ht.uT _ a6];omega
   .right;refine⟨h1,h2,up _ h3,?_⟩;have:=(g.hs _ ab h3).1;rw[ht.uT _ (.inr ⟨_,ab,h3,ab⟩)];omega
 .obtain⟨rk,r1,r2⟩:=g.rk;have ck:=zc0 w.sn s.next.toNat aq hs.nx2;have b7:=zgp w.sn;rw[g.ln] at b7;dsimp only;refine⟨λx=>if x=s.next.toNat then c+n-bL w.sn else rk x,λj hj hn=>?_,λj hj hn h0=>?_,λj hj hn=>?_⟩
  .rw[hc] at hn;dsimp only;split
   .omega
   grind
  .rw[hc] at hn;dsimp only;by_cases he:j=s.next.toNat
   .subst he;rw[bX rfl]
    rcases hs.via _ hg hs.nx2 with ⟨h1,_⟩|⟨h1,h2,h3,_⟩
    .omega
    .have h9:(nth s.ah s.next.toNat).toNat≠s.next.toNat:=λe=>by
      rw[e,hs.nx2] at h3;cases h3
     rw[bH h9];have:=r1 _ ab h3;omega
   .rw[bH (dZ he)] at hn;rw[hs.old j hn] at h0 ⊢;rw[bH he]
    have h3:nth w.sn (nth w.ah j).toNat=true:=by
     rcases g.pth j hj hn with ⟨h1,_⟩|⟨_,_,h3,_⟩
     .omega
     .exact h3
    have h9:(nth w.ah j).toNat≠s.next.toNat:=λe=>by
     rw[e,hs.nx2] at h3;cases h3
    rw[bH h9];simp_all
  .rw[hc] at hn;dsimp only;rw[bX rfl];split
   .omega
   grind
theorem zgq(hp:Hp C n c)(hr:row<n)(g:GI C n c row ow w)(ho:nth ow (bj C (c+n) w).next.toNat<0):zcg C n c row ow (cH C (c+n) ow row w):=by
 have hm:=zee hp hr g;have hq:=zef hp hr g;have hat:(cH C (c+n) ow row w).at_=(bj C (c+n) w).next:=rfl;rw[<-hat] at ho;generalize cH C (c+n) ow row w=w' at *
 have hg:w'.at_.toNat<w.sn.length:=by rw[g.ln];have:=hq.a0;have:=hq.a1;omega
 have h1:w'.at_.toNat<c+n:=by rw[<-g.ln];exact hg
 refine⟨hm,hq.la,hq.a0,hq.a1,(hm.how _ h1).resolve_right ab,by rw[hq.sn,ku _ _ _ _ hg,bX rfl],λj hj hn h9=>?_,hq.pth,?_⟩
 .rw[hq.sn,ku _ _ _ _ hg,bH (by have:=hq.a0;omega)] at hn;exact (g.hs j hj hn).1
 .obtain⟨rk,r1,r2,r3⟩:=hq.rk;exact⟨rk,λj hj hn=>by have:=r1 j hj hn;omega,r2,r3⟩
theorem zeg(hp:Hp C n c)(hr:row<n)(g:GI C n c row ow w)(ho:¬nth ow (bj C (c+n) w).next.toNat<0):GI C n c row ow (cH C (c+n) ow row w):=by
 have hm:=zee hp hr g;have hq:=zef hp hr g;have hs:=RR hp hr g;have ht:=zc3 hr g hs;have e1:(cH C (c+n) ow row w).at_=(bj C (c+n) w).next:=rfl;have e2:(cH C (c+n) ow row w).u=(oc C (c+n) ow row w).1:=rfl;have e3:(cH C (c+n) ow row w).v=(oc C (c+n) ow row w).2.1:=rfl;have e4:(cH C (c+n) ow row w).sl=(oc C (c+n) ow row w).2.2:=rfl;have e5:(cH C (c+n) ow row w).ah=(bj C (c+n) w).ah:=rfl;have e6:(cH C (c+n) ow row w).i=(nth ow (bj C (c+n) w).next.toNat).toNat:=rfl;generalize cH C (c+n) ow row w=w' at *;generalize oc C (c+n) ow row w=t at *;generalize bj C (c+n) w=s at *
 have hg:s.next.toNat<w.sn.length:=by rw[g.ln];have:=hs.nx0;have:=hs.nx1;omega
 have aq:s.next.toNat<c+n:=by rw[<-g.ln];exact hg
 have hc:∀j,nth w'.sn j=if s.next.toNat=j then true else nth w.sn j:=λj=>by rw[hq.sn,e1];exact ku _ _ _ _ hg
 have off:∀j,nth w'.sn j=false->nth w.sn j=false/\s.next.toNat≠j:=λj h=>by
  rw[hc] at h;simp_all
 have up:∀j,nth w.sn j=true->nth w'.sn j=true:=λj h=>by rw[hc];split<;>simp[h]
 have bk:s.next.toNat<c:=hs.car.resolve_right ab;refine⟨hm,by rw[e4,ht.l3],hq.la,by rw[hq.sn,oM,g.ln],λj hj hn=>?_,.inr ⟨hq.a0,hq.a1,by rw[hc,e1,bX rfl],by rw[e1,e6];omega⟩,λj hj hn l hl h9=>?_,λj hj hn=>.inr ?_,hq.pth,let ⟨rk,r1,r2,_⟩:=hq.rk;⟨rk,r1,r2⟩⟩
 .rw[hc] at hn;split at hn
  .simp_all
  .exact g.hs j hj hn
 .obtain⟨hn,bf⟩:=off j hn
  have bh:Tv (c+n) row ow w l:=by
   rcases hl with h|⟨k,hk,hw,ag⟩
   .exact .inl h
   .rw[hc] at hw;split at hw
    .simp_all
    .exact .inr ⟨k,hk,hw,ag⟩
  have:=hs.lo j hj hn l bh;rw[e4,ht.sF j hj hn,e2,ht.uT l bh,e3,ht.vF j hn];omega
 .obtain⟨hn,bf⟩:=off j hn;dsimp only[Via];rw[e4,ht.sF j hj hn,e2,e3,ht.vF j hn,e5]
  rcases hs.via j hj hn with ⟨h1,h2⟩|⟨h1,h2,h3,h4⟩
  .left;refine⟨h1,?_⟩;rw[ht.uT _ (.inl rfl)];omega
  .right;refine⟨h1,h2,up _ h3,?_⟩;have:=(g.hs _ ab h3).1;rw[ht.uT _ (.inr ⟨_,ab,h3,ab⟩)];omega
theorem zc4(hp:Hp C n c)(hr:row<n)(g:GI C n c row ow w):bL (cH C (c+n) ow row w).sn+1=bL w.sn:=by
 have hs:=RR hp hr g;refine zc0 _ _ ?_ hs.nx2;rw[g.ln];have:=hs.nx0;have:=hs.nx1;omega
end
theorem zeh{C:Nat->Nat->Int}{n c row:Nat}{ow:List Int}(hp:Hp C n c)(hr:row<n):∀(f:Nat)(w:Ws),GI C n c row ow w->bL w.sn<=f->zcg C n c row ow (Ak C (c+n) ow row f w)
 |0,w,g,h=>by have:=zc4 hp hr g;omega
 |f+1,w,g,h=>by
  unfold Ak;split
  .rename_i ho;exact zgq hp hr g ho
  .rename_i ho;exact zeh hp hr f _ (zeg hp hr g ho) (by have:=zc4 hp hr g;omega)
theorem D7{α:Type}[Inhabited α](m:Nat)(a:α)(j:Nat)(h:j<m):nth (List.replicate m a) j=a:=by
 simp_all
theorem zei{C:Nat->Nat->Int}{n c row:Nat}{s:Hs}(m:MI C n c row s.u s.v s.ow):GI C n c row s.ow (ws0 (c+n) s row):=by
 have hf:∀j,j<c+n->nth (List.replicate (c+n) false) j=false:=λj hj=>D7 _ _ _ hj
 refine⟨m,by simp[ws0],by simp[ws0],by simp[ws0],λj hj hn=>?_,.inl ⟨rfl,rfl,λj hj=>hf j hj⟩,λj hj hn l hl h9=>?_,λj hj hn=>.inl ⟨D7 _ _ _ hj,rfl⟩,λj hj hn=>?_,⟨λ_=>0,λj hj hn=>?_,λj hj hn=>?_⟩⟩
 .have:=hf j hj;have h2:nth (List.replicate (c+n) false) j=true:=hn;rw[this] at h2;cases h2
 .rcases hl with h|⟨k,hk,hw,_⟩
  .trivial
  .have:=hf k hk;have h2:nth (List.replicate (c+n) false) k=true:=hw;rw[this] at h2;cases h2
 all_goals
  have:=hf j hj;have h2:nth (List.replicate (c+n) false) j=true:=hn;rw[this] at h2;cases h2
theorem zej{C:Nat->Nat->Int}{n c row:Nat}{s:Hs}(hp:Hp C n c)(hr:row<n)(m:MI C n c row s.u s.v s.ow):zcg C n c row s.ow (qi C (c+n) s row):=
 zeh hp hr _ _ (zei m) (by show bL (List.replicate (c+n) false)<=_;rw[zed];omega)
structure AI(C:Nat->Nat->Int)(n c row:Nat)(u v ow:List Int)(sn:List Bool)(rk:Nat->Nat)(at_:Nat)(ow1:List Int):Prop where
 lo:ow1.length=c+n
 how:∀j,j<c+n->j≠at_->nth ow1 j=-1\/(0<=nth ow1 j/\nth ow1 j<(row:Int))
 fA:∀j k,j<c+n->k<c+n->j≠at_->k≠at_->0<=nth ow1 j->nth ow1 j=nth ow1 k->j=k
 ht:∀j,j<c+n->j≠at_->0<=nth ow1 j->nth u (nth ow1 j).toNat+nth v j=C (nth ow1 j).toNat j
 MS:∀l,l<row->∃j,j<c+n/\j≠at_/\nth ow1 j=(l:Int)
 hz:∀j,j<c+n->j≠at_->nth ow1 j=-1->nth ow j=-1
 same:∀j,j<c+n->nth sn j=true->rk j<rk at_->nth ow1 j=nth ow j
theorem zek{C:Nat->Nat->Int}{n c row:Nat}{ow:List Int}{w:Ws}(hr:row<n)(d:zcg C n c row ow w)(rk:Nat->Nat)(bg:∀j,j<c+n->nth w.sn j=true->0<=nth w.ah j->rk (nth w.ah j).toNat<rk j)(bc:∀j,j<c+n->nth w.sn j=true->rk j<=rk w.at_.toNat):∀(f:Nat)(at_:Nat)(ow1:List Int),at_<c+n->nth w.sn at_=true->rk at_<f->AI C n c row w.u w.v ow w.sn rk at_ ow1->MI C n c (row+1) w.u w.v (kB w.ah row f at_ ow1)
 |0,_,_,_,_,h,_=>absurd h ab
 |f+1,at_,ow1,ha,hn,hf,a=>by
  unfold kB;rw[bH ab,fH]
  have dz:∀(z:Int)(j:Nat),nth (ow1.set at_ z) j=if at_=j then z else nth ow1 j:=λz j=>ku _ _ _ _ (by rw[a.lo];exact ha)
  rcases d.pth at_ ha hn with ⟨h1,h2⟩|⟨h1,h2,h3,h4⟩
  .rw[h1,bX ab]
   have e:∀g,kB w.ah row g (-1) (ow1.set at_ (row:Int))=ow1.set at_ (row:Int):=λg=>by
    cases g with
    |zero=>rfl
    |succ g=>rfl
   rw[e];have m:=d.mi;refine⟨m.lu,m.lv,by rw[oM,a.lo],m.hu,m.hv,λj hj ho=>?_,m.hvp,m.hf,λj hj=>?_,λj k hj hk h0 he=>?_,λj hj h0=>?_,λl hl=>?_⟩
   .rw[dz] at ho;split at ho
    .omega
    .rename_i h9;exact m.hvz j hj (a.hz j hj (dZ h9) ho)
   .rw[dz];split
    .right;omega
    .rename_i h9
     rcases a.how j hj (dZ h9) with h|h
     .exact .inl h
     omega
   .rw[dz] at h0 he;rw[dz] at he;by_cases h8:at_=j
    .by_cases h':at_=k
     .omega
     .rw[bX h8,bH h'] at he
      rcases a.how k hk (dZ h') with h|h<;>omega
    .by_cases h':at_=k
     .rw[bH h8,bX h'] at he
      rcases a.how j hj (dZ h8) with h|h<;>omega
     .rw[bH h8] at h0;rw[bH h8,bH h'] at he;exact a.fA j k hj hk (dZ h8) (dZ h') h0 he
   .rw[dz] at h0 ⊢;by_cases h8:at_=j
    .simp_all
    .rw[bH h8] at h0 ⊢;exact a.ht j hj (dZ h8) h0
   .by_cases b4:l=row
    .exact⟨at_,ha,by rw[dz,bX rfl,b4]⟩
    .obtain⟨j,hj,h9,he⟩:=a.MS l ab;exact⟨j,hj,by rw[dz,bH (dZ h9)];exact he⟩
  .rw[bH ab];obtain⟨b,hb⟩:∃b:Nat,nth w.ah at_=b:=⟨(nth w.ah at_).toNat,ab⟩;have a5:=bg at_ ha hn ab;rw[hb] at h1 h2 h3 h4 a5 ⊢;simp only[fH] at h3 h4 a5 ⊢
   have hx:b<c+n:=ab
   have aw:b≠at_:=λe=>by rw[e] at a5;omega
   have aa:=a.same b hx h3 a5;have bq:=bc at_ ha hn
   have c3:0<=nth ow b:=d.hs b hx h3 (λe=>by
    have:w.at_.toNat=b:=ab
    rw[this] at bq;omega)
   rw[aa];refine zek hr d rk bg bc f b (ow1.set at_ (nth ow b)) hx h3 ab ?_
   have c4:nth ow b<(row:Int):=by
    rcases d.mi.how b hx with h|h<;>omega
   refine⟨by rw[oM,a.lo],λj hj h9=>?_,λj k hj hk bf c8 h0 he=>?_,λj hj h9 h0=>?_,λl hl=>?_,λj hj h9 ho=>?_,λj hj ax ao=>?_⟩
   .rw[dz];split
    .omega
    .rename_i h8;exact a.how j hj (dZ h8)
   .rw[dz] at h0 he;rw[dz] at he;by_cases h8:at_=j
    .by_cases h':at_=k
     .omega
     .rw[bX h8,bH h',<-aa] at he;have:=a.fA b k hx hk aw (dZ h') ab he;omega
    .by_cases h':at_=k
     .rw[bH h8,bX h',<-aa] at he;rw[bH h8] at h0;have:=a.fA j b hj hx (dZ h8) aw h0 he;trivial
     .rw[bH h8] at h0;rw[bH h8,bH h'] at he;exact a.fA j k hj hk (dZ h8) (dZ h') h0 he
   .rw[dz] at h0 ⊢;by_cases h8:at_=j
    .simp_all
    .rw[bH h8] at h0 ⊢;exact a.ht j hj (dZ h8) h0
   .obtain⟨j,hj,h9,he⟩:=a.MS l hl;by_cases b':j=b
    .exact⟨at_,ha,dZ aw,by rw[dz,bX rfl,<-aa,<-b'];exact he⟩
    .exact⟨j,hj,b',by rw[dz,bH (dZ h9)];exact he⟩
   .rw[dz] at ho;split at ho
    .omega
    .rename_i h8;exact a.hz j hj (dZ h8) ho
   .rw[dz,bH (λe=>by rw[<-e] at ao;omega)];exact a.same j hj ax ab
theorem zgr{C:Nat->Nat->Int}{n c row:Nat}{s:Hs}(hp:Hp C n c)(hr:row<n)(m:MI C n c row s.u s.v s.ow):MI C n c (row+1) (C3 C (c+n) s row).u (C3 C (c+n) s row).v (C3 C (c+n) s row).ow:=by
 have d:=zej hp hr m;unfold C3;dsimp only;generalize qi C (c+n) s row=w at d ⊢;obtain⟨rk,r1,r2,r3⟩:=d.rk;obtain⟨a,ha⟩:∃a:Nat,w.at_=a:=⟨w.at_.toNat,by have:=d.a0;omega⟩;have a1:=d.a1;have a3:=d.a3;have a2:=d.a2;rw[ha] at a1 a3 a2 ⊢;simp only[fH] at a3 a2;have r4:=r1 a ab a3;refine zek hr d rk r2 r3 (c+n+1) a s.ow ab a3 ab ⟨m.lo,λj hj _=>m.how j hj,λj k hj hk _ _ h0 he=>m.fA j k hj hk h0 he,λj hj _ h0=>d.mi.ht j hj h0,λl hl=>?_,λj hj _ ho=>ho,λj _ _ _=>rfl⟩;obtain⟨j,hj,he⟩:=m.MS l hl
 grind
theorem zc5{C:Nat->Nat->Int}{n c:Nat}(hp:Hp C n c):∀r,r<=n->MI C n c r (qk C n (c+n) r).u (qk C n (c+n) r).v (qk C n (c+n) r).ow
 |0,_=>by
  have e0:∀l,l<n->nth (List.replicate n (0:Int)) l=0:=λl hl=>D7 _ _ _ hl
  have e1:∀j,j<c+n->nth (List.replicate (c+n) (0:Int)) j=0:=λl hl=>D7 _ _ _ hl
  have e2:∀j,j<c+n->nth (List.replicate (c+n) (-1:Int)) j=-1:=λl hl=>D7 _ _ _ hl
  simp only[qk];refine⟨ae,ae,ae,λl hl=>by rw[e0 l hl];omega,λj hj=>by rw[e1 j hj];omega,λj hj _=>e1 j hj,λl hl=>e1 _ ab,λl j hl hj=>by rw[e0 l hl,e1 j hj];have:=(hp.bd hl hj).1;omega,λj hj=>.inl (e2 j hj),λj k hj _ h0=>by rw[e2 j hj] at h0;omega,λj hj h0=>by rw[e2 j hj] at h0;omega,λl hl=>absurd hl ab⟩
 |r+1,h=>zgr hp ab (zc5 hp r ab)
structure zdy(C:Nat->Nat->Int)(n m row:Nat)(ow:List Int)(w:Ws):Prop where
 hin:w.i<n
 lu:w.u.length=n
 lv:w.v.length=m
 ls:w.sl.length=m
 la:w.ah.length=m
 ln:w.sn.length=m
 nv:∀k,k<m->inI .i64 (C w.i k-nth w.u w.i)/\inI .i64 (C w.i k-nth w.u w.i-nth w.v k)
 sk:∀k,k<=m->(bm C w.u w.v w.sn w.i w.at_ w.sl w.ah k).sl.length=m/\(bm C w.u w.v w.sn w.i w.at_ w.sl w.ah k).ah.length=m
 ur:inI .i64 (nth w.u row+(bj C m w).least)
 tk:∀k,k<=m->(cC w.sn ow (bj C m w).least (w.u.set row (nth w.u row+(bj C m w).least)) w.v (bj C m w).sl k).1.length=n/\(cC w.sn ow (bj C m w).least (w.u.set row (nth w.u row+(bj C m w).least)) w.v (bj C m w).sl k).2.1.length=m /\
  (cC w.sn ow (bj C m w).least (w.u.set row (nth w.u row+(bj C m w).least)) w.v (bj C m w).sl k).2.2.length=m
 ts:∀k,k<m->nth w.sn k=true->∃l:Nat,nth ow k=l/\l<n/\inI .i64 (nth (cC w.sn ow (bj C m w).least (w.u.set row (nth w.u row+(bj C m w).least)) w.v (bj C m w).sl k).1 l+(bj C m w).least) /\
  inI .i64 (nth (cC w.sn ow (bj C m w).least (w.u.set row (nth w.u row+(bj C m w).least)) w.v (bj C m w).sl k).2.1 k-(bj C m w).least)
 tf:∀k,k<m->nth w.sn k=false->inI .i64 (nth (cC w.sn ow (bj C m w).least (w.u.set row (nth w.u row+(bj C m w).least)) w.v (bj C m w).sl k).2.2 k-(bj C m w).least)
 nx:∃a:Nat,(bj C m w).next=a/\a<m
theorem zgs{C:Nat->Nat->Int}{n c row:Nat}{ow:List Int}{w:Ws}(hp:Hp C n c)(hr:row<n)(g:GI C n c row ow w):zdy C n (c+n) row ow w:=by
 have hs:=RR hp hr g;have hi:=g.ib hr;have cj:=g.mi.ub hp hi;have cf:=g.mi.hu w.i hi;have a5:=g.mi.ub hp hr;have c9:=g.mi.hu row hr
 have a9:∀k,k<=c+n->_:=λk hk=>zc1 C w.u w.v w.sn w.i w.at_ w.sl w.ah (by rw[g.la,g.ls]) k (by rw[g.ls];exact hk)
 have c5:=hs.d0;have c6:=hs.d1
 have hh:∀k,k<=c+n->zf7 w.sn ow (bj C (c+n) w).least (w.u.set row (nth w.u row+(bj C (c+n) w).least)) w.v (bj C (c+n) w).sl k (cC w.sn ow (bj C (c+n) w).least (w.u.set row (nth w.u row+(bj C (c+n) w).least)) w.v (bj C (c+n) w).sl k):=λk hk=>
  zc2 w.sn ow (bj C (c+n) w).least (w.u.set row (nth w.u row+(bj C (c+n) w).least)) w.v (bj C (c+n) w).sl (by rw[hs.ok.l1,g.ls,g.mi.lv]) (λj hj hn=>by
   rw[g.mi.lv] at hj;have h1:=(g.hs j hj hn).1;rw[oM,g.mi.lu]
   rcases g.mi.how j hj with h|h<;>omega) (λj k hj hk h0 he=>g.mi.fA j k (by rw[<-g.mi.lv];exact hj) (by rw[<-g.mi.lv];exact hk) h0 he) k (by rw[g.mi.lv];exact hk)
 have bw:∀l,l<n->0<=nth (w.u.set row (nth w.u row+(bj C (c+n) w).least)) l/\nth (w.u.set row (nth w.u row+(bj C (c+n) w).least)) l<=2000000000000:=λl hl=>by
  rw[ku _ _ _ _ (by rw[g.mi.lu];exact hr)];have:=g.mi.ub hp hl;have:=g.mi.hu l hl
  split<;>omega
 refine⟨hi,g.mi.lu,g.mi.lv,g.ls,g.la,g.ln,λk hk=>?_,λk hk=>⟨by rw[(a9 k hk).l1,g.ls],by rw[(a9 k hk).l2,g.la]⟩,cu ab ab,λk hk=>⟨by rw[(hh k hk).l1,oM,g.mi.lu],by rw[(hh k hk).l2,g.mi.lv],by rw[(hh k hk).l3,hs.ok.l1,g.ls]⟩,λk hk hn=>?_,λk hk hn=>?_,⟨(bj C (c+n) w).next.toNat,by have:=hs.nx0;omega,by have:=hs.nx0;have:=hs.nx1;omega⟩⟩
 .have h1:=hp.bd hi hk;have h2:=g.mi.hv k hk;have h3:=g.mi.vb hp ab hk;exact⟨cu ab ab,cu ab ab⟩
 .have h1:=(g.hs k hk hn).1
  have h2:nth ow k<(row:Int):=by rcases g.mi.how k hk with h|h<;>omega
  refine⟨(nth ow k).toNat,ab,ab,?_,?_⟩
  .have ht:=hh k ab;have hl:=bw (nth ow k).toNat ab
   have:nth (cC w.sn ow (bj C (c+n) w).least (w.u.set row (nth w.u row+(bj C (c+n) w).least)) w.v (bj C (c+n) w).sl k).1 (nth ow k).toNat=nth (w.u.set row (nth w.u row+(bj C (c+n) w).least)) (nth ow k).toNat:=by
    refine ht.uf _ ?_
    rintro⟨j,hj,ax,he⟩
    have:=g.mi.fA j k ab hk (g.hs j ab ax).1 ab;omega
   rw[this];exact cu ab ab
  .have ht:=hh k ab;rw[ht.ev k,bH ab];have h3:=g.mi.hv k hk;have h4:=g.mi.vb hp ab hk;exact cu ab ab
 .have ht:=hh k ab;rw[ht.esl k,bH ab];have h3:=hs.lo k hk hn w.i g.tvi;have h4:=hs.ok.lo k hk hn;have h5:=hp.bd hi hk;have h6:=g.mi.vb hp ab hk;exact cu ab ab
end Go.Proofs.YthpkmilhiganjaaGreat
namespace Go.Proofs.YthpkmilhiganjaaGreat
open Go Go.Fi
variable[bJ]
def bA(l:List Bool):List AV:=(oG l).map (AV.w false false)
@[simp]theorem zjf(l:List Bool):(bA l).length=l.length:=by simp[bA]
@[simp]theorem zjg(l:List Bool)(i:Nat)(h:i<l.length):mj (bA l) i=.w false false (.bool (nth l i)):=by
 unfold bA;rw[Gi _ _ _ av,OF l i h]
@[simp]theorem zjh(l:List Bool)(i:Nat)(v:Bool):(bA l).set i (.w false false (.bool v))=bA (l.set i v):=by
 simp[bA,oG,List.map_set]
@[simp]theorem zjy(l:List Bool)(n:Nat):AV.lt.ltL n (bA l)=true:=tY n false false (oG l)
@[simp]theorem zji{D:List Nat}{h:bD}{n n':Nat}(l:List Bool):iq D h n n' (bA l) (bA l)=True:=eq_true (qu false false _)
theorem zel(n:Nat)(b:Bool):bA (List.replicate n b)=List.replicate n (.w false false (.bool b)):=by simp[bA,oG]
theorem zgt(n:Nat)(h:n<4294967296):bT Tz.prog 154 [.int .u64 1,.int .u64 n] (.tup [.int .u64 0,.int .u64 n]) true:=by
 have h1:(n:Int) / 4294967296=0:=ab
 have h2:(n:Int)<4294967296:=ab
 have h3:inI .u64 (n:Int):=aR
 have h0:inI .u64 0:=by constructor<;>simp[IntKind.min,IntKind.max,IntKind.bits,IntKind.signed]
 refine rcK Tz.func154 ?_;simp only[Tryz.results154,Tryz.ntmps154]
 repeat' first|(with_reducible first|apply bG|apply bU|apply bE|intro _)|simp[*,h1,h2,h3,h0]
 all_goals exact h0
theorem zik(n:Nat)(h:n<4294967296):bT Tz.prog 118 [.int .u64 1,.int .u64 n] (.tup [.int .u64 0,.int .u64 n]) true:=by
 have c:=zgt n h;refine rcK Tz.func118 ?_;simp only[Tryz.results118,Tryz.ntmps118]
 repeat' first|(with_reducible first|apply bG|apply bS|apply bU|apply bE|apply bP|refine And.intro ?_ ?_|intro _)|simp[*]|(refine bN (c) ?_ ?_;· simp[*];done)
theorem zem:∀(r c:List AV)(o:Nat),o+r.length<=c.length->∀j,(setAt c o r)[j]?=if o<=j/\j<o+r.length then r[j-o]? else c[j]?
 |[],c,o,_,j=>by
  unfold setAt;rw[bH ae]
 |a::r,c,o,h,j=>by
  unfold setAt;rw[zem r (c.set o a) (o+1) (by simp at h ⊢;omega) j]
  grind
theorem zc6(v:Int)(n m j:Nat)(h:m<=n):(iA (cN (λ_=>v) 0 n m))[j]?=if j<m then some (AV.w false false (.int .i64 v)) else if j<n then some (AV.w false false (.int .i64 0)) else none:=by
 unfold iA ints cN
 grind
theorem zgu(v:Int)(n m k:Nat)(h1:m+k<=n)(h2:k<=m):setAt (iA (cN (λ_=>v) 0 n m)) m ((iA (cN (λ_=>v) 0 n m)).take k)=iA (cN (λ_=>v) 0 n (m+k)):=by
 have hl:((iA (cN (λ_=>v) 0 n m)).take k).length=k:=by simp[cN];omega
 refine uY λj=>?_
 have b4:(iA (cN (λ_=>v) 0 n m)).length=n:=by rw[zgj,zcy _ _ _ _ ab]
 rw[zem _ _ _ (by rw[hl,b4];omega),hl,zc6 _ _ _ _ ab,zc6 _ _ _ _ h1,k8,zc6 _ _ _ _ ab]
 grind
@[simp]theorem zjz(c:Nat)(l:List Int):AV.sh.shL c (iA l)=iA l:=by
 unfold iA
 induction ints l with
 |nil=>rfl
 |cons x l ih=>simp only[oK,AV.sh.shL,AV.sh,ih]
theorem zen(l:List Int):AV.frs.mq (iA l)=true:=by
 unfold iA ints
 induction l with
 |nil=>rfl
 |cons x l ih=>trivial
theorem zci(v:Int)(n:Nat)(h:n<100000):og Tz.prog 81 [.sl 1 [.int .i64 v],.int .i64 n] [iA (List.replicate n v)] (.msl 0 n 1 0 n):=by
 have c:=zik n ab
 have h3:inI .u64 (n:Int):=aR
 have a':inI .u64 1:=by constructor<;>simp[IntKind.min,IntKind.max,IntKind.bits,IntKind.signed]
 have h4:¬(n:Int)<0:=ab
 have h5:¬(9223372036854775807:Int)<(n:Int):=ab
 have h6:inI .i64 (n:Int):=cu ab ab
 have h7:(n:Int)<=1000000000:=ab
 have hE:=zen (List.replicate n v);refine xk 0 [] Tz.func81 aj rfl (gH aj) ae ak ?_;simp only[Tryz.results81,Tryz.ntmps81];clear hE
 rcases k9 n with h0|h0
 .subst h0;have b8:inI .u64 0:=h3;have b9:inI .i64 0:=h6;clear h3 h4 h5 h6 h7
  repeat' first|(with_reducible first|apply bG|apply bS|apply bE|apply bP|refine And.intro ?_ ?_|intro _)|simp[*,b8,a',b9]|(refine bN (c) ?_ ?_;· simp[*];done)
  all_goals try first|exact b8|exact b9|exact a'
  clear c;refine fI 1 (λ(m:Nat)=>m=0) [7] (λ(m:Nat)=>[(8,.w false false (.int .i64 0))]) [] (λ(m:Nat)=>[(0,[])]) (λ(m:Nat)=>0) (λ(_u:Unit)=>True) [7] (λ(_u:Unit)=>[]) [] (λ(_u:Unit)=>[(0,[])]) (0) rfl (de [] ae ae) (λm hk=>?_) (λ_u hf=>?_)
  .subst hk
   repeat' first|(with_reducible first|apply bG|apply cK|apply bE|apply bP|intro _)|simp[*]
   all_goals (refine dp () ?_ ?_;(· trivial);(refine cg ?_ ?_<;>first|trivial|(simp[*];done)))
  .repeat' first|(with_reducible first|apply bG|apply bU|apply bE|intro _)|simp[*]
   trivial
 .have a4:min 1 n=1:=ab
  have e1:(List.replicate n (AV.w false false (.int .i64 0))).set 0 (.w false false (.int .i64 v))=iA (cN (λ_=>v) 0 n 1):=by
   have:=zd9 (λ_=>v) 0 n 0 h0;rw[<-this,<-zgk,zea]
  repeat' first|(with_reducible first|apply bG|apply bS|apply bE|apply bP|refine And.intro ?_ ?_|intro _)|simp[*,h3,a',h4,h5,h6,h7,a4]|(refine bN (c) ?_ ?_;· simp[*];done)
  all_goals try omega
  clear c a4 h4 h5;refine fI 1 (λ(m:Nat)=>m<=n/\1<=m) [7] (λ(m:Nat)=>[(8,.w false false (.int .i64 m))]) [] (λ(m:Nat)=>[(0,iA (cN (λ_=>v) 0 n m))]) (λ(m:Nat)=>n-m) (λ(_u:Unit)=>True) [7] (λ(_u:Unit)=>[]) [] (λ(_u:Unit)=>[(0,iA (List.replicate n v))]) (1) ⟨h0,bV _⟩ (de [] (by simp[e1]) (by simp[e1])) (λm hk=>?_) (λ_u hf=>?_)
  .clear e1;obtain⟨hk,h'⟩:=hk;by_cases ao:m<n
   .have hl:(cN (λ_=>v) 0 n m).length=n:=zcy _ _ _ _ hk;obtain⟨kk,bo⟩:∃kk,min m (n-m)=kk:=⟨_,rfl⟩
    have bp:kk<=m:=ab
    have bb:m+kk<=n:=ab
    have hw:¬kk=n:=ab
    have ay:kk<=n:=ab
    have bn:1<=kk:=ab
    have bu:eh ((iA (cN (λ_=>v) 0 n m)).take kk)=true:=by
     unfold iA;rw[<-Jf];refine tX false false _ (gz.2 λy hy=>?_);obtain⟨z,_,rfl⟩:=gA.1 (List.mem_of_mem_take hy);rfl
    have bv:=zgu v n m kk bb bp;have bl:inI .i64 ((m:Int)+(kk:Int)):=cu ab ab;have c2:m+kk<=n/\1<=m+kk:=⟨bb,ab⟩;clear h3 a' h6 h7 h0
    repeat' first|(with_reducible first|apply bG|apply ry|apply bS|apply bE|refine j8 (id:=9) [0,1,2,3,4,5,6] [7,8,9] [[.slot 7],[],[],[],[],[],[]] [[.slot 7],[],[]] mixed ai ?_|apply bP|refine And.intro ?_ ?_|intro _)|simp[*,ao,hl,bo,hw,bu,bl,bv,ay]
    all_goals first
     |omega
     |assumption
     |exact qW.2 rfl
     |(refine dJ _ _ _ _ _ (m+kk) _ ?_ ab ?_;(· exact c2);(refine cg ?_ ?_<;>first|trivial|(simp[*];done)))
   .have ag:m=n:=ab
    subst ag
    have e2:cN (λ_=>v) 0 m m=List.replicate m v:=by
     rw[zeb]
     refine uY λj=>?_
     grind
    repeat' first|(with_reducible first|apply bG|apply cK|apply bE|apply bP|intro _)|simp[*,ao]
    all_goals first
     |omega
     |(refine dp () ?_ ?_;(· trivial);(refine cg ?_ ?_<;>first|trivial|simp))
  .clear e1
   repeat' first|(with_reducible first|apply bG|apply bU|apply bE|intro _)|simp[*]
end Go.Proofs.YthpkmilhiganjaaGreat
