/- Lemmas. -/
import Derived.Test.YthpkmilhiganjaaGreatPEa
import Derived.Test.YthpkmilhiganjaaGreatPLg
set_option linter.all false
set_option maxHeartbeats 32000000
set_option maxRecDepth 100000
namespace Go.Proofs.YthpkmilhiganjaaGreat
open Go Go.Fi
structure PE(C:Nat->Nat->Int)(n c row:Nat)(ow:List Int)(w:Ws):Prop where
 mi:MI C n c row w.u w.v ow
 la:w.ah.length=c+n
 a0:0<=w.at_
 a1:w.at_<((c+n:Nat):Int)
 a2:nth ow w.at_.toNat=-1
 a3:nth w.sn w.at_.toNat=true
 hs:∀j,j<c+n->nth w.sn j=true->(j:Int)≠w.at_->0<=nth ow j
 pth:∀j,j<c+n->nth w.sn j=true->Via (c+n) row ow w j λl=>nth w.u l+nth w.v j=C l j
 rk:∃rk:Nat->Nat,(∀j,j<c+n->nth w.sn j=true->rk j<c+n)/\(∀j,j<c+n->nth w.sn j=true->0<=nth w.ah j->rk (nth w.ah j).toNat<rk j)/\∀j,j<c+n->nth w.sn j=true->rk j<=rk w.at_.toNat
section
variable{C:Nat->Nat->Int}{n c row:Nat}{ow:List Int}{w:Ws}
structure zg5(C:Nat->Nat->Int)(n c row:Nat)(ow:List Int)(w:Ws)(s:ScS)(t:List Int×List Int×List Int):Prop where
 l1:t.1.length=n
 l2:t.2.1.length=c+n
 l3:t.2.2.length=c+n
 uT:∀l,Tv (c+n) row ow w l->nth t.1 l=nth w.u l+s.least
 uF:∀l,¬Tv (c+n) row ow w l->nth t.1 l=nth w.u l
 vT:∀j,j<c+n->nth w.sn j=true->nth t.2.1 j=nth w.v j-s.least
 vF:∀j,nth w.sn j=false->nth t.2.1 j=nth w.v j
 sF:∀j,j<c+n->nth w.sn j=false->nth t.2.2 j=nth s.sl j-s.least
theorem zcp(hr:row<n)(g:GI C n c row ow w)(hs:zde C n c row ow w (bo C (c+n) w)):zg5 C n c row ow w (bo C (c+n) w) (n5 C (c+n) ow row w):=by
 unfold n5;generalize bo C (c+n) w=s at hs ⊢
 have bf:s.sl.length=c+n:=by rw[hs.ok.l1,g.ls]
 have b5:row<w.u.length:=by rw[g.mi.lu];exact hr
 have ok:=zco w.sn ow s.least (w.u.set row (nth w.u row+s.least)) w.v s.sl (by rw[bf,g.mi.lv]) (λj hj hn=>by
  rw[g.mi.lv] at hj;have h1:=(g.hs j hj hn).1;rw[oB,g.mi.lu]
  rcases g.mi.how j hj with h|h<;>omega) (λj k hj hk h0 he=>g.mi.dL j k (by rw[<-g.mi.lv];exact hj) (by rw[<-g.mi.lv];exact hk) h0 he) (c+n) (by rw[g.mi.lv];omega)
 generalize dS w.sn ow s.least (w.u.set row (nth w.u row+s.least)) w.v s.sl (c+n)=t at ok ⊢
 have bv:¬∃j,j<c+n/\nth w.sn j=true/\nth ow j=(row:Int):=by
  rintro⟨j,hj,_,he⟩
  rcases g.mi.how j hj with h|h<;>omega
 refine⟨by rw[ok.l1,oB,g.mi.lu],by rw[ok.l2,g.mi.lv],by rw[ok.l3,bf],λl hl=>?_,λl hl=>?_,λj hj hn=>?_,λj hn=>?_,λj hj hn=>?_⟩
 .by_cases ay:l=row
  .subst ay;rw[ok.uf _ bv,fb _ _ _ _ b5,aB rfl]
  .rw[ok.ut l (hl.resolve_left ay),fb _ _ _ _ b5,ar (cK ay)]
 .have h1:l≠row:=λe=>hl (.inl e)
  rw[ok.uf l (λh=>hl (.inr h)),fb _ _ _ _ b5,ar (cK h1)]
 .rw[ok.ev,aB ⟨hj,hn⟩]
 .rw[ok.ev,ar]
  rintro⟨_,h⟩;rw[hn] at h;cases h
 .rw[ok.esl,aB ⟨hj,hn⟩]
theorem zds(hp:Hp C n c)(hr:row<n)(g:GI C n c row ow w):MI C n c row (dX C (c+n) ow row w).u (dX C (c+n) ow row w).v ow:=by
 have hs:=D8 hp hr g;have ht:=zcp hr g hs;show MI C n c row (n5 C (c+n) ow row w).1 (n5 C (c+n) ow row w).2.1 ow;generalize n5 C (c+n) ow row w=t at ht ⊢;generalize bo C (c+n) w=s at hs ht;have hd:=hs.d0
 have hvp:∀l,l<n->nth t.2.1 (c+l)=0:=λl hl=>by
  have:nth w.sn (c+l)=false:=by
   cases h:nth w.sn (c+l) with
   |false=>rfl
   |true=>have:=(g.hs _ (by omega) h).2;omega
  rw[ht.vF _ this,g.mi.hvp l hl]
 refine⟨ht.l1,ht.l2,g.mi.lo,λl hl=>?_,λj hj=>?_,λj hj ho=>?_,hvp,λl j hl hj=>?_,g.mi.how,g.mi.dL,λj hj h0=>?_,g.mi.D7⟩
 .have:=g.mi.hu l hl;by_cases h:Tv (c+n) row ow w l
  .rw[ht.uT l h];omega
  .rw[ht.uF l h];omega
 .have:=g.mi.hv j hj
  cases h:nth w.sn j with
  |true=>rw[ht.vT j hj h];omega
  |false=>rw[ht.vF j h];omega
 .cases h:nth w.sn j with
  |true=>have:=(g.hs j hj h).1;omega
  |false=>rw[ht.vF j h];exact g.mi.hvz j hj ho
 .have hf:=g.mi.hf l j hl hj;by_cases h:Tv (c+n) row ow w l
  .rw[ht.uT l h]
   cases hn:nth w.sn j with
   |true=>rw[ht.vT j hj hn];omega
   |false=>
    rw[ht.vF j hn];have h1:=hs.lo j hj hn l h;have h2:=hs.ok.lo j hj hn;omega
  .rw[ht.uF l h]
   cases hn:nth w.sn j with
   |true=>rw[ht.vT j hj hn];omega
   |false=>rw[ht.vF j hn];omega
 .have he:=g.mi.ht j hj h0
  cases hn:nth w.sn j with
  |true=>
   rw[ht.vT j hj hn,ht.uT _ (.inr ⟨j,hj,hn,by omega⟩)];omega
  |false=>
   have c2:¬Tv (c+n) row ow w (nth ow j).toNat:=by
    rintro (h|⟨k,hk,hg,a'⟩)
    .rcases g.mi.how j hj with h1|h1<;>omega
    .have:=g.mi.dL j k hj hk h0 (by omega);subst this;rw[hn] at hg;cases hg
   rw[ht.vF j hn,ht.uF _ c2];exact he
structure Rnd(C:Nat->Nat->Int)(n c row:Nat)(ow:List Int)(w w':Ws):Prop where
 a0:0<=w'.at_
 a1:w'.at_<((c+n:Nat):Int)
 new:nth w.sn w'.at_.toNat=false
 sn:w'.sn=w.sn.set w'.at_.toNat true
 la:w'.ah.length=c+n
 pth:∀j,j<c+n->nth w'.sn j=true->Via (c+n) row ow w' j λl=>nth w'.u l+nth w'.v j=C l j
 rk:∃rk:Nat->Nat,(∀j,j<c+n->nth w'.sn j=true->rk j+cM w'.sn<c+n)/\(∀j,j<c+n->nth w'.sn j=true->0<=nth w'.ah j->rk (nth w'.ah j).toNat<rk j)/\∀j,j<c+n->nth w'.sn j=true->rk j<=rk w'.at_.toNat
theorem zfr(l:List Bool):cM l<=l.length:=by unfold cM;exact IZ
theorem zdt(hp:Hp C n c)(hr:row<n)(g:GI C n c row ow w):Rnd C n c row ow w (dX C (c+n) ow row w):=by
 have hs:=D8 hp hr g;have ht:=zcp hr g hs;unfold dX;generalize n5 C (c+n) ow row w=t at ht ⊢;generalize bo C (c+n) w=s at hs ht ⊢
 have ag:s.next.toNat<w.sn.length:=by rw[g.ln];have:=hs.nx1;have:=hs.nx0;omega
 have hw:s.next.toNat<c+n:=by rw[<-g.ln];exact ag
 have hc:∀j,nth (w.sn.set s.next.toNat true) j=if s.next.toNat=j then true else nth w.sn j:=λj=>fb _ _ _ _ ag
 have up:∀j,nth w.sn j=true->nth (w.sn.set s.next.toNat true) j=true:=λj h=>by rw[hc];split<;>simp[h]
 have a6:Tv (c+n) row ow w row:=.inl rfl;refine⟨hs.nx0,hs.nx1,hs.nx2,rfl,by dsimp only;rw[hs.ok.l2,g.la],λj hj hn=>?_,?_⟩
 .dsimp only[Via] at hn ⊢;rw[hc] at hn;by_cases he:s.next.toNat=j
  .subst he;have hv:=ht.vF _ hs.nx2;rw[hv];have c9:=hs.dn
   rcases hs.via _ hw hs.nx2 with ⟨h1,h2⟩|⟨h1,h2,h3,h4⟩
   .left;refine⟨h1,?_⟩;rw[ht.uT _ a6];omega
   .right;refine⟨h1,h2,up _ h3,?_⟩;have:=(g.hs _ (by omega) h3).1;rw[ht.uT _ (.inr ⟨_,by omega,h3,by omega⟩)];omega
  .rw[ar he] at hn;rw[hs.old j hn,ht.vT j hj hn]
   rcases g.pth j hj hn with ⟨h1,h2⟩|⟨h1,h2,h3,h4⟩
   .left;refine⟨h1,?_⟩;rw[ht.uT _ a6];omega
   .right;refine⟨h1,h2,up _ h3,?_⟩;have:=(g.hs _ (by omega) h3).1;rw[ht.uT _ (.inr ⟨_,by omega,h3,by omega⟩)];omega
 .obtain⟨rk,r1,r2⟩:=g.rk;have cl:=zcm w.sn s.next.toNat ag hs.nx2;have b6:=zfr w.sn;rw[g.ln] at b6;dsimp only;refine⟨λx=>if x=s.next.toNat then c+n-cM w.sn else rk x,λj hj hn=>?_,λj hj hn h0=>?_,λj hj hn=>?_⟩
  .rw[hc] at hn;dsimp only;split
   .omega
   .rename_i he;rw[ar (cK he)] at hn;have:=r1 j hj hn;omega
  .rw[hc] at hn;dsimp only;by_cases he:j=s.next.toNat
   .subst he;rw[aB rfl]
    rcases hs.via _ hw hs.nx2 with ⟨h1,_⟩|⟨h1,h2,h3,_⟩
    .omega
    .have h9:(nth s.ah s.next.toNat).toNat≠s.next.toNat:=λe=>by
      rw[e,hs.nx2] at h3;cases h3
     rw[ar h9];have:=r1 _ (by omega) h3;omega
   .rw[ar (cK he)] at hn;rw[hs.old j hn] at h0 ⊢;rw[ar he]
    have h3:nth w.sn (nth w.ah j).toNat=true:=by
     rcases g.pth j hj hn with ⟨h1,_⟩|⟨_,_,h3,_⟩
     .omega
     .exact h3
    have h9:(nth w.ah j).toNat≠s.next.toNat:=λe=>by
     rw[e,hs.nx2] at h3;cases h3
    rw[ar h9];exact r2 j hj hn h0
  .rw[hc] at hn;dsimp only;rw[aB rfl];split
   .omega
   .rename_i he;rw[ar (cK he)] at hn;have:=r1 j hj hn;omega
theorem zfs(hp:Hp C n c)(hr:row<n)(g:GI C n c row ow w)(ho:nth ow (bo C (c+n) w).next.toNat<0):PE C n c row ow (dX C (c+n) ow row w):=by
 have hm:=zds hp hr g;have hq:=zdt hp hr g;have hat:(dX C (c+n) ow row w).at_=(bo C (c+n) w).next:=rfl;rw[<-hat] at ho;generalize dX C (c+n) ow row w=w' at *
 have hw:w'.at_.toNat<w.sn.length:=by rw[g.ln];have:=hq.a0;have:=hq.a1;omega
 have h1:w'.at_.toNat<c+n:=by rw[<-g.ln];exact hw
 refine⟨hm,hq.la,hq.a0,hq.a1,(hm.how _ h1).resolve_right (by omega),by rw[hq.sn,fb _ _ _ _ hw,aB rfl],λj hj hn h9=>?_,hq.pth,?_⟩
 .rw[hq.sn,fb _ _ _ _ hw,ar (by have:=hq.a0;omega)] at hn;exact (g.hs j hj hn).1
 .obtain⟨rk,r1,r2,r3⟩:=hq.rk;exact⟨rk,λj hj hn=>by have:=r1 j hj hn;omega,r2,r3⟩
theorem zdu(hp:Hp C n c)(hr:row<n)(g:GI C n c row ow w)(ho:¬nth ow (bo C (c+n) w).next.toNat<0):GI C n c row ow (dX C (c+n) ow row w):=by
 have hm:=zds hp hr g;have hq:=zdt hp hr g;have hs:=D8 hp hr g;have ht:=zcp hr g hs;have e1:(dX C (c+n) ow row w).at_=(bo C (c+n) w).next:=rfl;have e2:(dX C (c+n) ow row w).u=(n5 C (c+n) ow row w).1:=rfl;have e3:(dX C (c+n) ow row w).v=(n5 C (c+n) ow row w).2.1:=rfl;have e4:(dX C (c+n) ow row w).sl=(n5 C (c+n) ow row w).2.2:=rfl;have e5:(dX C (c+n) ow row w).ah=(bo C (c+n) w).ah:=rfl;have e6:(dX C (c+n) ow row w).i=(nth ow (bo C (c+n) w).next.toNat).toNat:=rfl;generalize dX C (c+n) ow row w=w' at *;generalize n5 C (c+n) ow row w=t at *;generalize bo C (c+n) w=s at *
 have hw:s.next.toNat<w.sn.length:=by rw[g.ln];have:=hs.nx0;have:=hs.nx1;omega
 have ag:s.next.toNat<c+n:=by rw[<-g.ln];exact hw
 have hc:∀j,nth w'.sn j=if s.next.toNat=j then true else nth w.sn j:=λj=>by rw[hq.sn,e1];exact fb _ _ _ _ hw
 have off:∀j,nth w'.sn j=false->nth w.sn j=false/\s.next.toNat≠j:=λj h=>by
  rw[hc] at h;split at h
  .cases h
  .rename_i h9;exact⟨h,h9⟩
 have up:∀j,nth w.sn j=true->nth w'.sn j=true:=λj h=>by rw[hc];split<;>simp[h]
 have ao:s.next.toNat<c:=hs.car.resolve_right (by omega);refine⟨hm,by rw[e4,ht.l3],hq.la,by rw[hq.sn,oB,g.ln],λj hj hn=>?_,.inr ⟨hq.a0,hq.a1,by rw[hc,e1,aB rfl],by rw[e1,e6];omega⟩,λj hj hn l hl h9=>?_,λj hj hn=>.inr ?_,hq.pth,let ⟨rk,r1,r2,_⟩:=hq.rk;⟨rk,r1,r2⟩⟩
 .rw[hc] at hn;split at hn
  .rename_i he;subst he;exact⟨by omega,ao⟩
  .exact g.hs j hj hn
 .obtain⟨hn,b4⟩:=off j hn
  have bh:Tv (c+n) row ow w l:=by
   rcases hl with h|⟨k,hk,hg,a'⟩
   .exact .inl h
   .rw[hc] at hg;split at hg
    .rename_i he;subst he;exact absurd (by rw[e6];omega) h9
    .exact .inr ⟨k,hk,hg,a'⟩
  have:=hs.lo j hj hn l bh;rw[e4,ht.sF j hj hn,e2,ht.uT l bh,e3,ht.vF j hn];omega
 .obtain⟨hn,b4⟩:=off j hn;dsimp only[Via];rw[e4,ht.sF j hj hn,e2,e3,ht.vF j hn,e5]
  rcases hs.via j hj hn with ⟨h1,h2⟩|⟨h1,h2,h3,h4⟩
  .left;refine⟨h1,?_⟩;rw[ht.uT _ (.inl rfl)];omega
  .right;refine⟨h1,h2,up _ h3,?_⟩;have:=(g.hs _ (by omega) h3).1;rw[ht.uT _ (.inr ⟨_,by omega,h3,by omega⟩)];omega
theorem zcq(hp:Hp C n c)(hr:row<n)(g:GI C n c row ow w):cM (dX C (c+n) ow row w).sn+1=cM w.sn:=by
 have hs:=D8 hp hr g;refine zcm _ _ ?_ hs.nx2;rw[g.ln];have:=hs.nx0;have:=hs.nx1;omega
end
theorem zdv{C:Nat->Nat->Int}{n c row:Nat}{ow:List Int}(hp:Hp C n c)(hr:row<n):∀(f:Nat)(w:Ws),GI C n c row ow w->cM w.sn<=f->PE C n c row ow (rE C (c+n) ow row f w)
 |0,w,g,h=>by have:=zcq hp hr g;omega
 |f+1,w,g,h=>by
  unfold rE;split
  .rename_i ho;exact zfs hp hr g ho
  .rename_i ho;exact zdv hp hr f _ (zdu hp hr g ho) (by have:=zcq hp hr g;omega)
theorem C7{α:Type}[Inhabited α](m:Nat)(a:α)(j:Nat)(h:j<m):nth (List.replicate m a) j=a:=by
 simp[nth,bS,h]
theorem zdw{C:Nat->Nat->Int}{n c row:Nat}{s:Hs}(m:MI C n c row s.u s.v s.ow):GI C n c row s.ow (ws0 (c+n) s row):=by
 have hf:∀j,j<c+n->nth (List.replicate (c+n) false) j=false:=λj hj=>C7 _ _ _ hj
 refine⟨m,by simp[ws0],by simp[ws0],by simp[ws0],λj hj hn=>?_,.inl ⟨rfl,rfl,λj hj=>hf j hj⟩,λj hj hn l hl h9=>?_,λj hj hn=>.inl ⟨C7 _ _ _ hj,rfl⟩,λj hj hn=>?_,⟨λ_=>0,λj hj hn=>?_,λj hj hn=>?_⟩⟩
 .have:=hf j hj;have h2:nth (List.replicate (c+n) false) j=true:=hn;rw[this] at h2;cases h2
 .rcases hl with h|⟨k,hk,hg,_⟩
  .exact absurd h h9
  .have:=hf k hk;have h2:nth (List.replicate (c+n) false) k=true:=hg;rw[this] at h2;cases h2
 all_goals
  have:=hf j hj;have h2:nth (List.replicate (c+n) false) j=true:=hn;rw[this] at h2;cases h2
theorem zdx{C:Nat->Nat->Int}{n c row:Nat}{s:Hs}(hp:Hp C n c)(hr:row<n)(m:MI C n c row s.u s.v s.ow):PE C n c row s.ow (pw C (c+n) s row):=
 zdv hp hr _ _ (zdw m) (by show cM (List.replicate (c+n) false)<=_;rw[zdr];omega)
structure AI(C:Nat->Nat->Int)(n c row:Nat)(u v ow:List Int)(sn:List Bool)(rk:Nat->Nat)(at_:Nat)(ow1:List Int):Prop where
 lo:ow1.length=c+n
 how:∀j,j<c+n->j≠at_->nth ow1 j=-1\/(0<=nth ow1 j/\nth ow1 j<(row:Int))
 dL:∀j k,j<c+n->k<c+n->j≠at_->k≠at_->0<=nth ow1 j->nth ow1 j=nth ow1 k->j=k
 ht:∀j,j<c+n->j≠at_->0<=nth ow1 j->nth u (nth ow1 j).toNat+nth v j=C (nth ow1 j).toNat j
 D7:∀l,l<row->∃j,j<c+n/\j≠at_/\nth ow1 j=(l:Int)
 hz:∀j,j<c+n->j≠at_->nth ow1 j=-1->nth ow j=-1
 same:∀j,j<c+n->nth sn j=true->rk j<rk at_->nth ow1 j=nth ow j
theorem zdy{C:Nat->Nat->Int}{n c row:Nat}{ow:List Int}{w:Ws}(hr:row<n)(d:PE C n c row ow w)(rk:Nat->Nat)(bc:∀j,j<c+n->nth w.sn j=true->0<=nth w.ah j->rk (nth w.ah j).toNat<rk j)(bb:∀j,j<c+n->nth w.sn j=true->rk j<=rk w.at_.toNat):∀(f:Nat)(at_:Nat)(ow1:List Int),at_<c+n->nth w.sn at_=true->rk at_<f->AI C n c row w.u w.v ow w.sn rk at_ ow1->MI C n c (row+1) w.u w.v (hH w.ah row f at_ ow1)
 |0,_,_,_,_,h,_=>absurd h (by omega)
 |f+1,at_,ow1,ha,hn,hf,a=>by
  unfold hH;rw[ar (by omega),bT]
  have bP:∀(z:Int)(j:Nat),nth (ow1.set at_ z) j=if at_=j then z else nth ow1 j:=λz j=>fb _ _ _ _ (by rw[a.lo];exact ha)
  rcases d.pth at_ ha hn with ⟨h1,h2⟩|⟨h1,h2,h3,h4⟩
  .rw[h1,aB (by omega)]
   have e:∀g,hH w.ah row g (-1) (ow1.set at_ (row:Int))=ow1.set at_ (row:Int):=λg=>by
    cases g with
    |zero=>rfl
    |succ g=>unfold hH;rw[aB (by omega)]
   rw[e];have m:=d.mi;refine⟨m.lu,m.lv,by rw[oB,a.lo],m.hu,m.hv,λj hj ho=>?_,m.hvp,m.hf,λj hj=>?_,λj k hj hk h0 he=>?_,λj hj h0=>?_,λl hl=>?_⟩
   .rw[bP] at ho;split at ho
    .omega
    .rename_i h9;exact m.hvz j hj (a.hz j hj (cK h9) ho)
   .rw[bP];split
    .right;omega
    .rename_i h9
     rcases a.how j hj (cK h9) with h|h
     .exact .inl h
     .right;omega
   .rw[bP] at h0 he;rw[bP] at he;by_cases h8:at_=j
    .by_cases h':at_=k
     .omega
     .rw[aB h8,ar h'] at he
      rcases a.how k hk (cK h') with h|h<;>omega
    .by_cases h':at_=k
     .rw[ar h8,aB h'] at he
      rcases a.how j hj (cK h8) with h|h<;>omega
     .rw[ar h8] at h0;rw[ar h8,ar h'] at he;exact a.dL j k hj hk (cK h8) (cK h') h0 he
   .rw[bP] at h0 ⊢;by_cases h8:at_=j
    .subst h8;rw[aB rfl,bT];exact h2
    .rw[ar h8] at h0 ⊢;exact a.ht j hj (cK h8) h0
   .by_cases ax:l=row
    .exact⟨at_,ha,by rw[bP,aB rfl,ax]⟩
    .obtain⟨j,hj,h9,he⟩:=a.D7 l (by omega);exact⟨j,hj,by rw[bP,ar (cK h9)];exact he⟩
  .rw[ar (by omega)];obtain⟨b,hb⟩:∃b:Nat,nth w.ah at_=b:=⟨(nth w.ah at_).toNat,by omega⟩;have a5:=bc at_ ha hn (by omega);rw[hb] at h1 h2 h3 h4 a5 ⊢;simp only[bT] at h3 h4 a5 ⊢
   have hx:b<c+n:=by omega
   have aj:b≠at_:=λe=>by rw[e] at a5;omega
   have a9:=a.same b hx h3 a5;have bp:=bb at_ ha hn
   have bg:0<=nth ow b:=d.hs b hx h3 (λe=>by
    have:w.at_.toNat=b:=by omega
    rw[this] at bp;omega)
   rw[a9];refine zdy hr d rk bc bb f b (ow1.set at_ (nth ow b)) hx h3 (by omega) ?_
   have bi:nth ow b<(row:Int):=by
    rcases d.mi.how b hx with h|h<;>omega
   refine⟨by rw[oB,a.lo],λj hj h9=>?_,λj k hj hk b4 bq h0 he=>?_,λj hj h9 h0=>?_,λl hl=>?_,λj hj h9 ho=>?_,λj hj aq aa=>?_⟩
   .rw[bP];split
    .exact .inr ⟨bg,bi⟩
    .rename_i h8;exact a.how j hj (cK h8)
   .rw[bP] at h0 he;rw[bP] at he;by_cases h8:at_=j
    .by_cases h':at_=k
     .omega
     .rw[aB h8,ar h',<-a9] at he;have:=a.dL b k hx hk aj (cK h') (by omega) he;exact absurd this (cK bq)
    .by_cases h':at_=k
     .rw[ar h8,aB h',<-a9] at he;rw[ar h8] at h0;have:=a.dL j b hj hx (cK h8) aj h0 he;exact absurd this b4
     .rw[ar h8] at h0;rw[ar h8,ar h'] at he;exact a.dL j k hj hk (cK h8) (cK h') h0 he
   .rw[bP] at h0 ⊢;by_cases h8:at_=j
    .subst h8;rw[aB rfl];exact h4
    .rw[ar h8] at h0 ⊢;exact a.ht j hj (cK h8) h0
   .obtain⟨j,hj,h9,he⟩:=a.D7 l hl;by_cases b':j=b
    .exact⟨at_,ha,cK aj,by rw[bP,aB rfl,<-a9,<-b'];exact he⟩
    .exact⟨j,hj,b',by rw[bP,ar (cK h9)];exact he⟩
   .rw[bP] at ho;split at ho
    .omega
    .rename_i h8;exact a.hz j hj (cK h8) ho
   .rw[bP,ar (λe=>by rw[<-e] at aa;omega)];exact a.same j hj aq (by omega)
theorem zft{C:Nat->Nat->Int}{n c row:Nat}{s:Hs}(hp:Hp C n c)(hr:row<n)(m:MI C n c row s.u s.v s.ow):MI C n c (row+1) (tE C (c+n) s row).u (tE C (c+n) s row).v (tE C (c+n) s row).ow:=by
 have d:=zdx hp hr m;unfold tE;dsimp only;generalize pw C (c+n) s row=w at d ⊢;obtain⟨rk,r1,r2,r3⟩:=d.rk;obtain⟨a,ha⟩:∃a:Nat,w.at_=a:=⟨w.at_.toNat,by have:=d.a0;omega⟩;have a1:=d.a1;have a3:=d.a3;have a2:=d.a2;rw[ha] at a1 a3 a2 ⊢;simp only[bT] at a3 a2;have r4:=r1 a (by omega) a3;refine zdy hr d rk r2 r3 (c+n+1) a s.ow (by omega) a3 (by omega) ⟨m.lo,λj hj _=>m.how j hj,λj k hj hk _ _ h0 he=>m.dL j k hj hk h0 he,λj hj _ h0=>d.mi.ht j hj h0,λl hl=>?_,λj hj _ ho=>ho,λj _ _ _=>rfl⟩;obtain⟨j,hj,he⟩:=m.D7 l hl;exact⟨j,hj,λe=>by rw[e,a2] at he;omega,he⟩
theorem zcr{C:Nat->Nat->Int}{n c:Nat}(hp:Hp C n c):∀r,r<=n->MI C n c r (qc C n (c+n) r).u (qc C n (c+n) r).v (qc C n (c+n) r).ow
 |0,_=>by
  have e0:∀l,l<n->nth (List.replicate n (0:Int)) l=0:=λl hl=>C7 _ _ _ hl
  have e1:∀j,j<c+n->nth (List.replicate (c+n) (0:Int)) j=0:=λl hl=>C7 _ _ _ hl
  have e2:∀j,j<c+n->nth (List.replicate (c+n) (-1:Int)) j=-1:=λl hl=>C7 _ _ _ hl
  simp only[qc];refine⟨by simp,by simp,by simp,λl hl=>by rw[e0 l hl];omega,λj hj=>by rw[e1 j hj];omega,λj hj _=>e1 j hj,λl hl=>e1 _ (by omega),λl j hl hj=>by rw[e0 l hl,e1 j hj];have:=(hp.bd hl hj).1;omega,λj hj=>.inl (e2 j hj),λj k hj _ h0=>by rw[e2 j hj] at h0;omega,λj hj h0=>by rw[e2 j hj] at h0;omega,λl hl=>absurd hl (by omega)⟩
 |r+1,h=>zft hp (by omega) (zcr hp r (by omega))
structure zdf(C:Nat->Nat->Int)(n m row:Nat)(ow:List Int)(w:Ws):Prop where
 hin:w.i<n
 lu:w.u.length=n
 lv:w.v.length=m
 ls:w.sl.length=m
 la:w.ah.length=m
 ln:w.sn.length=m
 nv:∀k,k<m->inI .i64 (C w.i k-nth w.u w.i)/\inI .i64 (C w.i k-nth w.u w.i-nth w.v k)
 sk:∀k,k<=m->(bB C w.u w.v w.sn w.i w.at_ w.sl w.ah k).sl.length=m/\(bB C w.u w.v w.sn w.i w.at_ w.sl w.ah k).ah.length=m
 ur:inI .i64 (nth w.u row+(bo C m w).least)
 tk:∀k,k<=m->(dS w.sn ow (bo C m w).least (w.u.set row (nth w.u row+(bo C m w).least)) w.v (bo C m w).sl k).1.length=n/\(dS w.sn ow (bo C m w).least (w.u.set row (nth w.u row+(bo C m w).least)) w.v (bo C m w).sl k).2.1.length=m /\
  (dS w.sn ow (bo C m w).least (w.u.set row (nth w.u row+(bo C m w).least)) w.v (bo C m w).sl k).2.2.length=m
 ts:∀k,k<m->nth w.sn k=true->∃l:Nat,nth ow k=l/\l<n/\inI .i64 (nth (dS w.sn ow (bo C m w).least (w.u.set row (nth w.u row+(bo C m w).least)) w.v (bo C m w).sl k).1 l+(bo C m w).least) /\
  inI .i64 (nth (dS w.sn ow (bo C m w).least (w.u.set row (nth w.u row+(bo C m w).least)) w.v (bo C m w).sl k).2.1 k-(bo C m w).least)
 tf:∀k,k<m->nth w.sn k=false->inI .i64 (nth (dS w.sn ow (bo C m w).least (w.u.set row (nth w.u row+(bo C m w).least)) w.v (bo C m w).sl k).2.2 k-(bo C m w).least)
 nx:∃a:Nat,(bo C m w).next=a/\a<m
theorem zfu{C:Nat->Nat->Int}{n c row:Nat}{ow:List Int}{w:Ws}(hp:Hp C n c)(hr:row<n)(g:GI C n c row ow w):zdf C n (c+n) row ow w:=by
 have hs:=D8 hp hr g;have hi:=g.ib hr;have cj:=g.mi.ub hp hi;have cg:=g.mi.hu w.i hi;have a5:=g.mi.ub hp hr;have cf:=g.mi.hu row hr
 have a7:∀k,k<=c+n->_:=λk hk=>zcn C w.u w.v w.sn w.i w.at_ w.sl w.ah (by rw[g.la,g.ls]) k (by rw[g.ls];exact hk)
 have c7:=hs.d0;have c8:=hs.d1
 have hh:∀k,k<=c+n->zfb w.sn ow (bo C (c+n) w).least (w.u.set row (nth w.u row+(bo C (c+n) w).least)) w.v (bo C (c+n) w).sl k (dS w.sn ow (bo C (c+n) w).least (w.u.set row (nth w.u row+(bo C (c+n) w).least)) w.v (bo C (c+n) w).sl k):=λk hk=>
  zco w.sn ow (bo C (c+n) w).least (w.u.set row (nth w.u row+(bo C (c+n) w).least)) w.v (bo C (c+n) w).sl (by rw[hs.ok.l1,g.ls,g.mi.lv]) (λj hj hn=>by
   rw[g.mi.lv] at hj;have h1:=(g.hs j hj hn).1;rw[oB,g.mi.lu]
   rcases g.mi.how j hj with h|h<;>omega) (λj k hj hk h0 he=>g.mi.dL j k (by rw[<-g.mi.lv];exact hj) (by rw[<-g.mi.lv];exact hk) h0 he) k (by rw[g.mi.lv];exact hk)
 have c5:∀l,l<n->0<=nth (w.u.set row (nth w.u row+(bo C (c+n) w).least)) l/\nth (w.u.set row (nth w.u row+(bo C (c+n) w).least)) l<=2000000000000:=λl hl=>by
  rw[fb _ _ _ _ (by rw[g.mi.lu];exact hr)];have:=g.mi.ub hp hl;have:=g.mi.hu l hl
  split<;>omega
 refine⟨hi,g.mi.lu,g.mi.lv,g.ls,g.la,g.ln,λk hk=>?_,λk hk=>⟨by rw[(a7 k hk).l1,g.ls],by rw[(a7 k hk).l2,g.la]⟩,aG (by omega) (by omega),λk hk=>⟨by rw[(hh k hk).l1,oB,g.mi.lu],by rw[(hh k hk).l2,g.mi.lv],by rw[(hh k hk).l3,hs.ok.l1,g.ls]⟩,λk hk hn=>?_,λk hk hn=>?_,⟨(bo C (c+n) w).next.toNat,by have:=hs.nx0;omega,by have:=hs.nx0;have:=hs.nx1;omega⟩⟩
 .have h1:=hp.bd hi hk;have h2:=g.mi.hv k hk;have h3:=g.mi.vb hp (by omega) hk;exact⟨aG (by omega) (by omega),aG (by omega) (by omega)⟩
 .have h1:=(g.hs k hk hn).1
  have h2:nth ow k<(row:Int):=by rcases g.mi.how k hk with h|h<;>omega
  refine⟨(nth ow k).toNat,by omega,by omega,?_,?_⟩
  .have ht:=hh k (by omega);have hl:=c5 (nth ow k).toNat (by omega)
   have:nth (dS w.sn ow (bo C (c+n) w).least (w.u.set row (nth w.u row+(bo C (c+n) w).least)) w.v (bo C (c+n) w).sl k).1 (nth ow k).toNat=nth (w.u.set row (nth w.u row+(bo C (c+n) w).least)) (nth ow k).toNat:=by
    refine ht.uf _ ?_
    rintro⟨j,hj,aq,he⟩
    have:=g.mi.dL j k (by omega) hk (g.hs j (by omega) aq).1 (by omega);omega
   rw[this];exact aG (by omega) (by omega)
  .have ht:=hh k (by omega);rw[ht.ev k,ar (by omega)];have h3:=g.mi.hv k hk;have h4:=g.mi.vb hp (by omega) hk;exact aG (by omega) (by omega)
 .have ht:=hh k (by omega);rw[ht.esl k,ar (by omega)];have h3:=hs.lo k hk hn w.i g.tvi;have h4:=hs.ok.lo k hk hn;have h5:=hp.bd hi hk;have h6:=g.mi.vb hp (by omega) hk;exact aG (by omega) (by omega)
end Go.Proofs.YthpkmilhiganjaaGreat
namespace Go.Proofs.YthpkmilhiganjaaGreat
open Go Go.Fi
variable[av]
def bA(l:List Bool):List AV:=(oe l).map (AV.w false false)
@[simp]theorem zhq(l:List Bool):(bA l).length=l.length:=by simp[bA]
@[simp]theorem zhr(l:List Bool)(i:Nat)(h:i<l.length):lh (bA l) i=.w false false (.bool (nth l i)):=by
 unfold bA;rw[Ge _ _ _ (by simpa using h),OE l i h]
@[simp]theorem zhs(l:List Bool)(i:Nat)(v:Bool):(bA l).set i (.w false false (.bool v))=bA (l.set i v):=by
 simp[bA,oe,List.map_set]
@[simp]theorem zh9(l:List Bool)(n:Nat):AV.lt.ltL n (bA l)=true:=qv n false false (oe l)
@[simp]theorem zht{D:List Nat}{h:ak}{n n':Nat}(l:List Bool):gZ D h n n' (bA l) (bA l)=True:=eq_true (oM false false _)
theorem zdz(n:Nat)(b:Bool):bA (List.replicate n b)=List.replicate n (.w false false (.bool b)):=by simp[bA,oe]
theorem zfv(n:Nat)(h:n<4294967296):aC Tz.prog 154 [.int .u64 1,.int .u64 n] (.tup [.int .u64 0,.int .u64 n]) true:=by
 have h1:(n:Int) / 4294967296=0:=by omega
 have h2:(n:Int)<4294967296:=by omega
 have h3:inI .u64 (n:Int):=by constructor<;>simp[IntKind.min,IntKind.max,IntKind.bits,IntKind.signed]<;>omega
 have h0:inI .u64 0:=by constructor<;>simp[IntKind.min,IntKind.max,IntKind.bits,IntKind.signed]
 refine rcK Tz.func154 ?_;simp only[Tryz.results154,Tryz.ntmps154]
 repeat' first|(with_reducible first|apply ai|apply az|apply af|intro _)|(simp[*,h1,h2,h3,h0])
 all_goals exact h0
theorem zg6(n:Nat)(h:n<4294967296):aC Tz.prog 118 [.int .u64 1,.int .u64 n] (.tup [.int .u64 0,.int .u64 n]) true:=by
 have c:=zfv n h;refine rcK Tz.func118 ?_;simp only[Tryz.results118,Tryz.ntmps118]
 repeat' first|(with_reducible first|apply ai|apply au|apply az|apply af|apply al|refine And.intro ?_ ?_|refine cw (c) ?_|intro _)|(simp[*])|(refine ae (c) ?_ ?_;(· (simp[*];done)))
theorem zd0:∀(r c:List AV)(o:Nat),o+r.length<=c.length->∀j,(setAt c o r)[j]?=if o<=j/\j<o+r.length then r[j-o]? else c[j]?
 |[],c,o,_,j=>by
  unfold setAt;rw[ar (by simp)]
 |a::r,c,o,h,j=>by
  unfold setAt;rw[zd0 r (c.set o a) (o+1) (by simp at h ⊢;omega) j];simp only[eI] at h ⊢;by_cases h1:o=j
  .subst h1;rw[ar (by omega),aB (by omega),uU];simp only[xV];rw[List.getElem?_set_self (by omega)]
  .by_cases h2:o+1<=j/\j<o+1+r.length
   .rw[aB h2,aB (by omega),show j-o=(j-(o+1))+1 by omega,uK]
   .rw[ar h2,ar (by omega),List.getElem?_set_ne h1]
theorem zcs(v:Int)(n m j:Nat)(h:m<=n):(iA (eB (λ_=>v) 0 n m))[j]?=if j<m then some (AV.w false false (.int .i64 v)) else if j<n then some (AV.w false false (.int .i64 0)) else none:=by
 unfold iA ints eB;simp only[ou,qW,List.map_replicate,IU,fI,pO,gD,SJ];split
 .rename_i hj;rw[sI hj];rfl
 .split
  .rw[aB (by omega)]
  .rw[ar (by omega)]
theorem zfw(v:Int)(n m k:Nat)(h1:m+k<=n)(h2:k<=m):setAt (iA (eB (λ_=>v) 0 n m)) m ((iA (eB (λ_=>v) 0 n m)).take k)=iA (eB (λ_=>v) 0 n (m+k)):=by
 have hl:((iA (eB (λ_=>v) 0 n m)).take k).length=k:=by simp[eB];omega
 refine uQ λj=>?_
 have ax:(iA (eB (λ_=>v) 0 n m)).length=n:=by rw[zfl,zck _ _ _ _ (by omega)]
 rw[zd0 _ _ _ (by rw[hl,ax];omega),hl,zcs _ _ _ _ (by omega),zcs _ _ _ _ h1,jk,zcs _ _ _ _ (by omega)];by_cases ha:m<=j/\j<m+k
 .rw[aB ha,aB (by omega),aB (by omega),aB (by omega)]
 .rw[ar ha];by_cases hb:j<m
  .rw[aB hb,aB (by omega)]
  .rw[ar hb,ar (show ¬j<m+k by omega)]
@[simp]theorem zia(c:Nat)(l:List Int):AV.sh.shL c (iA l)=iA l:=by
 unfold iA
 induction ints l with
 |nil=>rfl
 |cons x l ih=>simp only[mV,AV.sh.shL,AV.sh,ih]
theorem zd1(l:List Int):AV.frs.j1 (iA l)=true:=by
 unfold iA ints
 induction l with
 |nil=>rfl
 |cons x l ih=>simpa[AV.frs.j1,AV.frs,flat] using ih
theorem WK(v:Int)(n:Nat)(h:n<100000):nI Tz.prog 81 [.sl 1 [.int .i64 v],.int .i64 n] [iA (List.replicate n v)] (.msl 0 n 1 0 n):=by
 have c:=zg6 n (by omega)
 have h3:inI .u64 (n:Int):=by constructor<;>simp[IntKind.min,IntKind.max,IntKind.bits,IntKind.signed]<;>omega
 have a8:inI .u64 1:=by constructor<;>simp[IntKind.min,IntKind.max,IntKind.bits,IntKind.signed]
 have h4:¬(n:Int)<0:=by omega
 have h5:¬(9223372036854775807:Int)<(n:Int):=by omega
 have h6:inI .i64 (n:Int):=aG (by omega) (by omega)
 have h7:(n:Int)<=1000000000:=by omega
 have hE:=zd1 (List.replicate n v);refine xg 0 [] Tz.func81 (by kernel_rfl) rfl (di (by kernel_rfl)) (by simp) (by simpa using hE) ?_;simp only[Tryz.results81,Tryz.ntmps81];clear hE
 rcases jL n with h0|h0
 .subst h0;have b7:inI .u64 0:=h3;have b9:inI .i64 0:=h6;clear h3 h4 h5 h6 h7
  repeat' first|(with_reducible first|apply ai|apply au|apply af|apply al|refine And.intro ?_ ?_|refine cw (c) ?_|intro _)|(simp[*,b7,a8,b9])|(refine ae (c) ?_ ?_;(· (simp[*];done)))
  all_goals try first|exact b7|exact b9|exact a8
  clear c;refine df 1 (λ(m:Nat)=>m=0) [7] (λ(m:Nat)=>[(8,.w false false (.int .i64 0))]) [] (λ(m:Nat)=>[(0,[])]) (λ(m:Nat)=>0) (λ(_u:Unit)=>True) [7] (λ(_u:Unit)=>[]) [] (λ(_u:Unit)=>[(0,[])]) (0) rfl (aO [] (by simp) (by simp)) (λm hk=>?_) (λ_u hf=>?_)
  .subst hk
   repeat' first|(with_reducible first|apply ai|apply aL|apply af|apply al|intro _)|(simp[*])
   all_goals (refine aZ () ?_ ?_;(· trivial);(refine aD ?_ ?_<;>first|trivial|(simp[*];done)))
  .repeat' first|(with_reducible first|apply ai|apply az|apply af|intro _)|(simp[*])
   exact oM false false []
 .have a4:min 1 n=1:=by omega
  have e1:(List.replicate n (AV.w false false (.int .i64 0))).set 0 (.w false false (.int .i64 v))=iA (eB (λ_=>v) 0 n 1):=by
   have:=zdn (λ_=>v) 0 n 0 h0;rw[<-this,<-zfm,zdo]
  repeat' first|(with_reducible first|apply ai|apply au|apply af|apply al|refine And.intro ?_ ?_|refine cw (c) ?_|intro _)|(simp[*,h3,a8,h4,h5,h6,h7,a4])|(refine ae (c) ?_ ?_;(· (simp[*];done)))
  all_goals try omega
  clear c a4 h4 h5;refine df 1 (λ(m:Nat)=>m<=n/\1<=m) [7] (λ(m:Nat)=>[(8,.w false false (.int .i64 m))]) [] (λ(m:Nat)=>[(0,iA (eB (λ_=>v) 0 n m))]) (λ(m:Nat)=>n-m) (λ(_u:Unit)=>True) [7] (λ(_u:Unit)=>[]) [] (λ(_u:Unit)=>[(0,iA (List.replicate n v))]) (1) ⟨h0,aE _⟩ (aO [] (by simp[e1]) (by simp[e1])) (λm hk=>?_) (λ_u hf=>?_)
  .clear e1;obtain⟨hk,h'⟩:=hk;by_cases aa:m<n
   .have hl:(eB (λ_=>v) 0 n m).length=n:=zck _ _ _ _ hk;obtain⟨kk,bl⟩:∃kk,min m (n-m)=kk:=⟨_,rfl⟩
    have bm:kk<=m:=by omega
    have ba:m+kk<=n:=by omega
    have hg:¬kk=n:=by omega
    have aw:kk<=n:=by omega
    have bk:1<=kk:=by omega
    have c3:dj ((iA (eB (λ_=>v) 0 n m)).take kk)=true:=by
     unfold iA;rw[<-Jb];refine tV false false _ (eh.2 λy hy=>?_);obtain⟨z,_,rfl⟩:=dW.1 (List.mem_of_mem_take hy);rfl
    have c4:=zfw v n m kk ba bm;have bj:inI .i64 ((m:Int)+(kk:Int)):=aG (by omega) (by omega);have c6:m+kk<=n/\1<=m+kk:=⟨ba,by omega⟩;clear h3 a8 h6 h7 h0
    repeat' first|(with_reducible first|apply ai|apply iV|apply au|apply af|refine iX (id:=9) [0,1,2,3,4,5,6] [7,8,9] [[.slot 7],[],[],[],[],[],[]] [[.slot 7],[],[]] mixed (by decide +kernel) ?_|apply al|refine And.intro ?_ ?_|intro _)|(simp[*,aa,hl,bl,hg,c3,bj,c4,aw])
    all_goals first
     |omega
     |assumption
     |exact pT.2 rfl
     |(refine nx (m+kk) ?_ ?_;(· exact c6);(refine aD ?_ ?_<;>first|trivial|(simp[*];done)))
   .have a':m=n:=by omega
    subst a'
    have e2:eB (λ_=>v) 0 m m=List.replicate m v:=by
     rw[zdp]
     refine uQ λj=>?_
     simp only[gD,SJ];split
     .rename_i hj;rw[sI hj];rfl
     .rename_i hj;rw[IX (by simp;omega)];rfl
    repeat' first|(with_reducible first|apply ai|apply aL|apply af|apply al|intro _)|(simp[*,aa])
    all_goals first
     |omega
     |(refine aZ () ?_ ?_;(· trivial);(refine aD ?_ ?_<;>first|trivial|(simp[*,e2];done)))
  .clear e1
   repeat' first|(with_reducible first|apply ai|apply az|apply af|intro _)|(simp[*])
end Go.Proofs.YthpkmilhiganjaaGreat
