/- Lemmas. -/
import Derived.Test.YthpkmilhiganjaaGreatPEc
import Derived.Test.YthpkmilhiganjaaGreatPEa
import Derived.Test.YthpkmilhiganjaaGreatPDb
set_option linter.all false
set_option maxHeartbeats 32000000
set_option maxRecDepth 100000
namespace Go.Proofs.YthpkmilhiganjaaGreat
open Go Go.Fi
variable[ak]
theorem zd2{fk:Fk}{a b c:St}(h:Lek fk a b)(k:Lek fk b c):Lek fk a c:=λB w0 x w m hs=>let ⟨m',h'⟩:=h B w0 x w m hs;k B w0 x w m' h'
def zbq(L:List (List Int))(n m:Nat)(s:Hs):PV:=.ip [.sl n (kx L),.sl n (ints s.u),.sl m (ints s.v),.sl m (ints s.ow),.undef] 0
theorem zd3(L:List (List Int))(n c m:Nat)(hm:m=c+n)(hL:L.length=n)(a5:∀i,i<n->(nth L i).length=m)(hp:Hp (λi j=>nth (nth L i) j) n c):aB Tz.prog 79 [.sl n (kx L),.int .i64 m] (zbq L n m (l9 (λi j=>nth (nth L i) j) n m n)) false:=by
 have hA:=λr (hr:r<=n)=>za9 hp r hr
 have eA:∀r,l9 (λi j=>nth (nth L i) j) n m (r+1)=qi (λi j=>nth (nth L i) j) m (l9 (λi j=>nth (nth L i) j) n m r) r:=λ_=>rfl
 have e0:l9 (λi j=>nth (nth L i) j) n m 0=⟨List.replicate n 0,List.replicate m 0,List.replicate m (-1)⟩:=rfl
 have hw:=λr (hr:r<n) (s:Hs) mi p0 K=>zfa L n c m hm hL a5 hp r hr s mi p0 K
 rw[<-hm] at hA;generalize l9 (λi j=>nth (nth L i) j) n m=A at *
 have hq:m<17:=by have:=hp.nn;have:=hp.cc;omega
 have ax:n<9:=by have:=hp.nn;omega
 have r1:=D5 (-1) m (by omega);have i1:inI .i64 (n:Int):=aN (by omega) (by omega);have i2:inI .i64 (m:Int):=aN (by omega) (by omega)
 have i3:(n:Int)<=1000000000:=by omega
 have i4:(m:Int)<=1000000000:=by omega
 have kk:=keep (And.intro hA (And.intro eA (And.intro hw (And.intro hq ax))))
 have f1:iA (A 0).u=List.replicate n (.w false false (.int .i64 0)):=by rw[e0];simp[iA,ints]
 have f2:iA (A 0).v=List.replicate m (.w false false (.int .i64 0)):=by rw[e0];simp[iA,ints]
 have f3:(A 0).ow=List.replicate m (-1):=by rw[e0]
 clear hA eA hw hq ax e0 hp a5;unfold zbq;have kL:=keep hL;have km:=keep hm;clear hL hm;refine rcK Tz.func79 ?_;simp only[Tryz.results79,Tryz.ntmps79]
 repeat' first|(with_reducible first|apply aj|apply af|refine bm (id:=1) 12 mixed (by decide +kernel) ?_|refine cwM (r1) ?_|intro _)|(simp[*,i1,i2,i3,i4])
 all_goals try first|omega|assumption
 clear r1;refine gj 5 (λ(r:Nat)=>r<=n) [5,19] (λ(r:Nat)=>[(20,.w false false (.int .i64 r))]) [] (λ(r:Nat)=>[(4,[.w false false (.sl n (kx L)),.msl 0 n 1 0 n,.msl 1 m 1 0 m,.msl 3 m 1 0 m,.w false false .undef]),(0,iA (A r).u),(1,iA (A r).v),(3,iA (A r).ow)]) (λ(r:Nat)=>n-r) (λ(_u:Unit)=>True) [5] (λ(_u:Unit)=>[]) [] (λ(_u:Unit)=>[(4,[.w false false (.sl n (kx L)),.msl 0 n 1 0 n,.msl 1 m 1 0 m,.msl 3 m 1 0 m,.w false false .undef]),(0,iA (A n).u),(1,iA (A n).v),(3,iA (A n).ow)]) (0) (aR _) (bU [] (by simp[f1,f2,f3]) (by simp[f1,f2,f3])) (λr hk=>?_) (λ_u hf=>?_)
 .clear f1 f2 f3;by_cases h5:r<n
  .obtain⟨hA,eA,hw,hq,ax⟩:=kk;have a':=hA r hk;have hs:=hw r h5 (A r) a' .undef;rw[<-eA r] at hs;have bk:inI .i64 ((r:Int)+1):=aN (by omega) (by omega)
   have hz:r+1<=n:=by omega
   unfold zbp at hs;have khs:=keep hs;clear hA eA hw hq ax a' hs
   repeat' first|(with_reducible first|refine qK (id:=5) 2 Tz.func117 (by kernel_rfl) (show Tryz.f117.body=some (Tryz.f117.body.getD .skip) from rfl) (by decide) rfl ?_|apply aj|apply aI|apply aE|apply af|apply au|intro _)|(simp[*,h5,bk])
   all_goals try first|omega|assumption
   refine AQ (by decide) (by simp) rfl ?_;refine khs _ (λah c9=>?_);clear khs
   repeat' first|(with_reducible first|apply af|intro _)|(simp[*,h5,bk])
   refine FF _ _ _ _ _ (r+1) _ hz (by omega) (zd2 (b:=⟨[(20,.w false false (.int .i64 ((r:Int)+1))),(5,.ptr 4 5 0),(19,.w false false (.int .i64 n))],[(4,[.w false false (.sl n (kx L)),.msl 0 n 1 0 n,.msl 1 m 1 0 m,.msl 3 m 1 0 m,.w false false (.sl m (ints ah))]),(0,iA (A (r+1)).u),(1,iA (A (r+1)).v),(3,iA (A (r+1)).ow)],5,28⟩) (bU [9] ?_ ?_) (bU [] ?_ ?_))
   all_goals first|trivial|(simp[*];done)
  .have hg:r=n:=by omega
   subst hg
   repeat' first|(with_reducible first|apply aj|apply aK|apply af|apply au|intro _)|(simp[*,h5])
   all_goals first
    |omega
    |(refine bN () ?_ ?_;(· trivial);(refine aM ?_ ?_<;>first|trivial|(simp[*];done)))
 .clear f1 f2 f3;have a':=kk.1 n (aD n);have bc:m=c+n:=km;have l1:=a'.lu
  have l2:(A n).v.length=m:=by rw[bc];exact a'.lv
  have l3:(A n).ow.length=m:=by rw[bc];exact a'.lo
  clear kk a' bc km
  repeat' first|(with_reducible first|apply aj|apply av|apply af|intro _)|(simp[*,l1,l2,l3])
theorem zd4(x:Rd)(ok:cE x):aB Tz.prog 80 [x.pv] (.sl x.os.length (kx (dS x x.os.length))) true:=by
 have b3:=λi hi=>BF x ok i hi
 have lo:=ok.lo;have lc:=ok.lc;have lw:=ok.lw;have lf:=ok.lf;have fr:=ok.fr;have wr:=ok.wr
 have eE:∀i j,pw x i j=if j<x.ab.length/\nth (nth x.fit i) j=true then nth (nth x.wt i) j else if j=x.ab.length+i then de (prio x i) else 1000000000000000:=λ_ _=>rfl
 have eR:∀i,mF x i=(List.range (x.ab.length+x.os.length)).map (pw x i):=λ_=>rfl
 have eS:∀k,cm (dS x (k+1))=cm (dS x k)++[.w true false (.sl (x.ab.length+x.os.length) (ints (mF x k)))]:=λk=>zdl x k
 have eL:∀k,(cm (dS x k)).length=k:=λk=>by simp
 have eSl:=zb1 x x.os.length
 have eRl:∀i,(mF x i).length=x.ab.length+x.os.length:=λi=>by simp
 have e0:cm (dS x 0)=[]:=rfl;generalize dS x=S at *;generalize mF x=R at *;generalize pw x=E at *;generalize prio x=pr at *;clear ok;obtain⟨ab,os,wt,zs,fit⟩:=x;unfold Rd.pv;simp only[] at *;have kk:=keep (And.intro b3 (And.intro lo (And.intro lc (And.intro lw (And.intro lf (And.intro fr (And.intro wr (And.intro eE (And.intro eR (And.intro eS eRl))))))))));clear b3 lo lc lw lf fr wr eE eR eS eRl;refine rcK Tz.func80 ?_;simp only[Tryz.results80,Tryz.ntmps80]
 repeat' first|(with_reducible first|apply aj|apply af|intro _)|(simp[*])
 refine gj 1 (λ(k:Nat)=>k<=os.length) [0,3,19,20] (λ(k:Nat)=>[(4,.msl 0 k 1 0 k),(21,.w false false (.int .i64 k))]) [] (λ(k:Nat)=>[(0,cm (S k))]) (λ(k:Nat)=>os.length-k) (λ(_u:Unit)=>True) [] (λ(_u:Unit)=>[(4,.msl 0 os.length 1 0 os.length)]) [] (λ(_u:Unit)=>[(0,cm (S os.length))]) (0) (aR _) (bU [] (by simp[e0]) (by simp[e0])) (λk hk=>?_) (λ_u hf=>?_)
 .by_cases h5:k<os.length
  .obtain⟨b3,lo,lc,lw,lf,fr,wr,eE,eR,eS,eRl⟩:=kk;have h1:=b3 k h5
   have bu:k<fit.length:=by omega
   have bv:k<wt.length:=by omega
   have a6:=fr k h5;have aa:=wr k h5;have h6:(nth os k).2.2.2=((pr k:Nat):Int):=h1.2.symm;have eE2:=eE k;have eR2:=eR k;have eS2:=eS k;have eRl2:=eRl k;have c1:=rF (pr k) h1.1;generalize de (pr k)=pp at *;have h8:inI .i64 ((k:Int)+1):=aN (by omega) (by omega)
   have hz:k+1<=os.length:=by omega
   obtain⟨nn,hx⟩:∃nn,nn=ab.length+os.length:=⟨_,rfl⟩
   have ao:(ab.length:Int)+(os.length:Int)=(nn:Int):=by omega
   have hin:inI .i64 (nn:Int):=aN (by omega) (by omega)
   have ax:(nn:Int)<=1000000000:=by omega
   rw[<-hx] at eR2 eS2 eRl2
   have eA:b9 (E k) 0 nn nn=R k:=by rw[zb0,eR2]
   have k1:=keep (And.intro lo (And.intro lc (And.intro a6 (And.intro aa (And.intro eE2 (And.intro hx h8))))));clear b3 lo lc lw lf fr wr h1 eE eE2 eR eR2 eRl eS a6 aa hx h8;have e00:=zbz (E k) 0 nn
   repeat' first|(with_reducible first|apply aj|apply aI|apply aE|apply af|apply au|refine And.intro ?_ ?_|intro _)|(simp[*,h5,ao,hin,Tw.cJ])
   all_goals try first
    |omega
    |assumption
   refine gj 3 (λ(j:Nat)=>j<=nn) [0,3,4,5,6,7,19,20,21,36] (λ(j:Nat)=>[(37,.w false false (.int .i64 j))]) [0,1] (λ(j:Nat)=>[(2,iA (b9 (E k) 0 nn j))]) (λ(j:Nat)=>nn-j) (λ(_u:Unit)=>True) [0,3,4,7,19,20,21] (λ(_u:Unit)=>[]) [0,1] (λ(_u:Unit)=>[(2,iA (R k))]) (0) (aR _) (bU [] (by simp[e00]) (by simp[e00])) (λj hk=>?_) (λ_u hf=>?_)
   .clear e00;by_cases ag:j<nn
    .obtain⟨lo,lc,a6,aa,eE2,hx,h8⟩:=k1;have es:=zby (E k) 0 nn j ag;have el:=Mk (E k) 0 nn j hk;have ay:inI .i64 ((j:Int)+1):=aN (by omega) (by omega);have b5:inI .i64 ((ab.length:Int)+k):=aN (by omega) (by omega)
     have b4:j+1<=nn:=by omega
     have eEj:=eE2 j;rw[eEj] at es;generalize b9 (E k) 0 nn j=Lj at *;by_cases ha:j<ab.length
     .have bp:j<(nth fit k).length:=by omega
      have bq:j<(nth wt k).length:=by omega
      have b':¬(j:Int)=(ab.length:Int)+k:=by omega
      have h9:¬j=ab.length+k:=by omega
      cases hb:nth (nth fit k) j with
      |true=>
       rw[az ⟨ha,hb⟩] at es;clear lo lc a6 aa eE2 hx h8 eEj eA eS2 c1
       repeat' first|(with_reducible first|apply aj|apply aI|apply aE|apply af|apply au|intro _)|(simp[*,ag,ha,bu,bv,bp,bq,hb,h5,el,ay])
       all_goals first
        |omega
        |assumption
        |(refine nx (j+1) ?_ ?_;(· exact b4);(refine aM ?_ ?_<;>first|trivial|(simp[*,es];done)))
      |false=>
       rw[ai (by rw[hb];simp),ai h9] at es;clear lo lc a6 aa eE2 hx h8 eEj eA eS2 c1
       repeat' first|(with_reducible first|apply aj|apply aI|apply aE|apply af|apply au|intro _)|(simp[*,ag,ha,bu,bv,bp,bq,hb,h5,el,ay,b5,b'])
       all_goals first
        |omega
        |assumption
        |(refine nx (j+1) ?_ ?_;(· exact b4);(refine aM ?_ ?_<;>first|trivial|(simp[*,es];done)))
     .by_cases h9:j=ab.length+k
      .have c5:(ab.length:Int)+k=(j:Int):=by omega
       have c4:inI .i64 (j:Int):=aN (by omega) (by omega);rw[ai (by intro h;exact ha h.1),az h9] at es;clear lo lc a6 aa eE2 hx h8 eEj eA eS2 b5 h9
       repeat' first|(with_reducible first|apply aj|apply aI|apply aE|apply af|apply au|refine And.intro ?_ ?_|refine cw (c1) ?_|intro _)|(simp[*,ag,ha,h5,el,ay,c5,Tw.cJ,h6])|(refine ar (c1) ?_ ?_;(· (simp[*];done)))
       all_goals first
        |omega
        |assumption
        |(refine nx (j+1) ?_ ?_;(· exact b4);(refine aM ?_ ?_<;>first|trivial|(simp[*,es];done)))
      .have b':¬(j:Int)=(ab.length:Int)+k:=by omega
       rw[ai (by intro h;exact ha h.1),ai h9] at es;clear lo lc a6 aa eE2 hx h8 eEj eA eS2 c1
       repeat' first|(with_reducible first|apply aj|apply aI|apply aE|apply af|apply au|intro _)|(simp[*,ag,ha,h5,el,ay,b5,b'])
       all_goals first
        |omega
        |assumption
        |(refine nx (j+1) ?_ ?_;(· exact b4);(refine aM ?_ ?_<;>first|trivial|(simp[*,es];done)))
    .have hg:j=nn:=by omega
     subst hg;clear k1
     repeat' first|(with_reducible first|apply aj|apply aK|apply af|apply au|intro _)|(simp[*,ag])
     all_goals first
      |omega
      |(refine bN () ?_ ?_;(· trivial);(refine aM ?_ ?_<;>first|trivial|(simp[*,eA];done)))
   .clear e00 eA;have h8:inI .i64 ((k:Int)+1):=k1.2.2.2.2.2.2;clear k1
    repeat' first|(with_reducible first|apply af|refine And.intro ?_ ?_|intro _)|(simp[*,h5,h8,eRl2])
    all_goals first
     |omega
     |assumption
     |(refine nx (k+1) ?_ ?_;(· exact hz);(refine bU [2] ?_ ?_<;>first|trivial|(simp[*,eS2,eRl2];done)))
  .have hg:k=os.length:=by omega
   subst hg
   repeat' first|(with_reducible first|apply aj|apply aK|apply af|apply au|intro _)|(simp[*,h5])
   all_goals first
    |omega
    |(refine bN () ?_ ?_;(· trivial);(refine aM ?_ ?_<;>first|trivial|(simp[*];done)))
 .clear e0 eL
  repeat' first|(with_reducible first|apply aj|apply av|apply af|intro _)|(simp[*,eSl])
end Go.Proofs.YthpkmilhiganjaaGreat
namespace Go.Proofs.YthpkmilhiganjaaGreat
open Go Go.Fi
noncomputable instance instLD23:ak:=LD
noncomputable instance instLD37:ak:=LD
def tS(x:Rd)(i j:Nat):Int:=nth (nth (dS x x.os.length) i) j
theorem ql{α:Type}[Inhabited α](f:Nat->α)(n j:Nat)(h:j<n):nth ((List.range n).map f) j=f j:=by
 simp[nth,da,h]
theorem C3(x:Rd)(i j:Nat)(hi:i<x.os.length)(hj:j<x.ab.length+x.os.length):tS x i j=pw x i j:=by
 unfold tS dS;rw[ql _ _ _ hi];unfold mF;rw[ql _ _ _ hj]
theorem C4(x:Rd)(ok:cE x):Hp (tS x) x.os.length x.ab.length:=by
 refine⟨ok.lo,ok.lc,λi hi=>?_,λi l hi hl c7=>?_,λi j hi hj=>?_⟩
 .rw[C3 x i _ hi (by omega)];unfold pw;rw[ai (by omega),az rfl];have:=qI (prio x i) (BF x ok i hi).1;omega
 .rw[C3 x i _ hi (by omega)];unfold pw;rw[ai (by omega),ai (by omega)]
 .rw[C3 x i _ hi (by omega)];unfold pw;by_cases hf:nth (nth x.fit i) j=true
  .rw[az ⟨hj,hf⟩];have:=ok.wn i hi j hj;omega
  .rw[ai (λh=>hf h.2),ai (by omega)];exact .inl rfl
noncomputable def cp(x:Rd):Hs:=l9 (tS x) x.os.length (x.ab.length+x.os.length) x.os.length
noncomputable def bB(x:Rd):List Int:=cM (cp x).ow x.os.length x.ab.length
noncomputable def bK(x:Rd):List Int:=(List.range x.ab.length).map λk=>-(nth (cp x).v k)
noncomputable def n5(x:Rd):List Int:=(List.range x.os.length).map λi=>eB x i (bK x)
theorem D6(x:Rd)(ok:cE x):MI (tS x) x.os.length x.ab.length x.os.length (cp x).u (cp x).v (cp x).ow:=za9 (C4 x ok) _ (aD _)
theorem zcm(x:Rd)(ok:cE x)(k:Nat)(hk:k<x.ab.length):0<=nth (bK x) k/\nth (bK x) k<=1000000000000:=by
 have m:=D6 x ok;unfold bK;rw[ql _ _ _ hk];have h1:=m.hv k (by omega);have h2:=m.vb (C4 x ok) (aD _) (j:=k) (by omega);omega
theorem zcn(tk:List Int)(n:Nat):∀c,(∀k,k<c->nth tk k<(n:Int))->∀i,nth (cM tk n c) i=-1\/(0<=nth (cM tk n c) i/\nth (cM tk n c) i<(c:Int))\/n<=i
 |0,_,i=>by
  by_cases h:i<n
  .left;exact tE _ _ _ h
  .exact .inr (.inr (by omega))
 |c+1,h,i=>by
  have ih:=zcn tk n c (λk hk=>h k (by omega)) i;have hc:=h c (by omega);unfold cM;by_cases h0:0<=nth tk c
  .rw[az h0,cL _ _ _ _ (by rw[qk];omega)];split
   .right;left;omega
   .rcases ih with h1|h1|h1
    .exact .inl h1
    .right;left;omega
    .exact .inr (.inr h1)
  .rw[ai h0]
   rcases ih with h1|h1|h1
   .exact .inl h1
   .right;left;omega
   .exact .inr (.inr h1)
theorem zco(x:Rd)(ok:cE x):E3 x (bB x):=by
 have m:=D6 x ok;refine⟨qk _ _ _,λk hk=>?_⟩
 have cf:k<x.os.length:=by rw[<-qk (cp x).ow x.os.length x.ab.length];exact hk
 rcases zcn (cp x).ow x.os.length x.ab.length (λk hk=>by rcases m.how k (by omega) with h|h<;>omega) k with h|h|h
 .exact .inl h
 .exact .inr h
 .omega
noncomputable def zbr(x:Rd):PV:=.agg [.sl x.os.length (ints (bB x)),.int .i64 (eF x (bB x)),.sl x.os.length (ints (n5 x)),.sl x.ab.length (ints (bK x))]
def cN(f:Nat->Int):Nat->Int
 |0=>0
 |k+1=>cN f k+f k
theorem D7{f g:Nat->Int}:∀n,(∀k,k<n->f k<=g k)->cN f n<=cN g n
 |0,_=>xE _
 |n+1,h=>by
  have:=D7 n (λk hk=>h k (by omega));have:=h n (by omega);unfold cN;omega
theorem D8{f g:Nat->Int}(n:Nat)(h:∀k,k<n->f k=g k):cN f n=cN g n:=
 Int.le_antisymm (D7 n λk hk=>Int.le_of_eq (h k hk)) (D7 n λk hk=>Int.le_of_eq (h k hk).symm)
theorem zcp{f g:Nat->Int}{c:Nat}{v:Int}:∀n,c<n->(∀k,k<n->k≠c->g k=f k)->g c=f c+v->cN g n=cN f n+v
 |n+1,hc,h,hv=>by
  unfold cN;by_cases e:c=n
  .subst e;have:=D8 (f:=g) (g:=f) c (λk hk=>h k (by omega) (by omega));omega
  .have:=zcp n (by omega) (λk hk hn=>h k (by omega) hn) hv;have:=h n (by omega) (λe'=>e e'.symm);omega
theorem C5(l:List Int):∀n,fh l n=cN (nth l) n
 |0=>rfl
 |n+1=>by unfold fh cN;rw[C5 l n]
def ft(pc plan:List Int):Nat->Int
 |0=>0
 |k+1=>if nth plan k=-1 then ft pc plan k else ft pc plan k+nth pc (nth plan k).toNat
structure C7(x:Rd)(plan:List Int):Prop extends E3 x plan where
 fit:∀k,k<plan.length->nth plan k≠-1->nth (nth x.fit k) (nth plan k).toNat=true
 once:∀k,k<plan.length->nth plan k≠-1->∀j,j<k->nth plan j≠nth plan k
theorem zba(x:Rd)(pc plan:List Int)(h:C7 x plan):∀k,k<=plan.length->ft pc plan k=cN (λc=>if (plan.take k).contains (c:Int) then nth pc c else 0) x.ab.length
 |0,_=>by
  have:∀n,cN (λc=>if (plan.take 0).contains (c:Int) then nth pc c else 0) n=0:=λn=>by
   induction n with
   |zero=>rfl
   |succ n ih=>unfold cN;rw[ih];simp
  rw[this];rfl
 |k+1,hk=>by
  have ih:=zba x pc plan h k (by omega)
  have ht:plan.take (k+1)=plan.take k++[nth plan k]:=by
   rw[IA (by omega)];simp[nth,da,cG (show k<plan.length by omega)]
  unfold ft;by_cases hn:nth plan k=-1
  .rw[az hn,ih]
   refine D8 _ λc hc=>?_
   rw[ht,hn]
   have:((c:Int) == -1)=false:=by first|(simp;done)|(simp;omega)
   simp[List.contains_append,this]
  .rw[ai hn,ih];have hr:=(h.at_ k (by omega)).resolve_left hn;have bi:=h.once k (by omega) hn;refine (zcp (c:=(nth plan k).toNat) _ (by omega) (λc hc c7=>?_) ?_).symm
   .rw[ht]
    have bd:¬(c:Int)=nth plan k:=by omega
    simp[bd]
   .have e:(((nth plan k).toNat:Nat):Int)=nth plan k:=by omega
    rw[e,ht]
    have bg:¬nth plan k∈plan.take k:=by
     intro hc;rw[IB] at hc;obtain⟨j,hj,e⟩:=hc;exact bi j (by omega) (by rw[<-e];simp[nth,da,cG (show j<plan.length by omega)])
    simp[bg]
theorem zd5(x:Rd)(pc plan:List Int)(h:C7 x plan)(hp:∀c,c<x.ab.length->0<=nth pc c):ft pc plan plan.length<=fh pc x.ab.length:=by
 rw[zba x pc plan h _ (aD _),C5]
 refine D7 _ λc hc=>?_
 have:=hp c hc
 split<;>omega
theorem zbs(row:List Bool)(w p:List Int)(m0:Int):∀n,mK row w p m0 n<=m0/\∀k,k<n->nth row k=true->mK row w p m0 n<=nth w k+nth p k
 |0=>⟨xE _,λk hk=>absurd hk (by omega)⟩
 |n+1=>by
  obtain⟨h1,h2⟩:=zbs row w p m0 n;unfold mK;refine⟨?_,λk hk hr=>?_⟩
  .split
   .split<;>omega
   .exact h1
  .by_cases e:k=n
   .subst e;rw[az hr]
    split<;>omega
   .have:=h2 k (by omega) hr;split
    .split<;>omega
    .exact this
theorem zcq(x:Rd)(ok:cE x)(po pc plan:List Int)(h:C7 x plan)(hl:po.length=x.os.length)(ho:∀i,i<po.length->nth po i<=eB x i pc):∀k,k<=plan.length->ez x x.os.length-ez x k+fh po k-ft pc plan k<=cq x plan k
 |0,_=>by unfold cq ft;simp
 |k+1,hk=>by
  have ih:=zcq x ok po pc plan h hl ho k (by omega)
  have c6:k<x.os.length:=by have:=h.len;omega
  have h1:=ho k (by omega);have h2:=zbs (nth x.fit k) (nth x.wt k) pc (de (nth x.os k).2.2.2.toNat) (nth x.fit k).length;unfold eB at h1
  rw[show cq x plan (k+1)=if nth plan k=-1 then cq x plan k else cq x plan k+(rL x k (nth plan k)-de (prio x k)) from rfl,show ft pc plan (k+1)=if nth plan k=-1 then ft pc plan k else ft pc plan k+nth pc (nth plan k).toNat from rfl,
   show ez x (k+1)=ez x k+de (prio x k) from rfl,show fh po (k+1)=fh po k+nth po k from rfl]
  unfold rL prio;by_cases hn:nth plan k=-1
  .rw[az hn,az hn];have:=h2.1;omega
  .rw[ai hn,ai hn];have hr:=(h.at_ k (by omega)).resolve_left hn;have h3:=h2.2 (nth plan k).toNat (by rw[ok.fr k c6];omega) (h.fit k (by omega) hn);omega
theorem zcr(tk:List Int)(n:Nat):∀c,(∀k,k<c->nth tk k<(n:Int))->(∀j k,j<c->k<c->0<=nth tk j->nth tk j=nth tk k->j=k)->∀i,i<n->(∃k,k<c/\nth tk k=(i:Int)/\nth (cM tk n c) i=(k:Int))\/((∀k,k<c->nth tk k≠(i:Int))/\nth (cM tk n c) i=-1)
 |0,_,_,i,hi=>.inr ⟨λk hk=>absurd hk (by omega),tE _ _ _ hi⟩
 |c+1,h1,h2,i,hi=>by
  have ih:=zcr tk n c (λk hk=>h1 k (by omega)) (λj k hj hk=>h2 j k (by omega) (by omega)) i hi;have hc:=h1 c (by omega);unfold cM;by_cases h0:0<=nth tk c
  .rw[az h0,cL _ _ _ _ (by rw[qk];omega)];by_cases e:(nth tk c).toNat=i
   .rw[az e];exact .inl ⟨c,by omega,by omega,rfl⟩
   .rw[ai e]
    rcases ih with ⟨k,hk,e1,e2⟩|⟨e1,e2⟩
    .exact .inl ⟨k,by omega,e1,e2⟩
    .refine .inr ⟨λk hk=>?_,e2⟩;by_cases bb:k=c
     .subst bb;omega
     .exact e1 k (by omega)
  .rw[ai h0]
   rcases ih with ⟨k,hk,e1,e2⟩|⟨e1,e2⟩
   .exact .inl ⟨k,by omega,e1,e2⟩
   .refine .inr ⟨λk hk=>?_,e2⟩;by_cases bb:k=c
    .subst bb;omega
    .exact e1 k (by omega)
structure zfb(x:Rd)(u v:List Int):Prop where
 u0:∀i,i<x.os.length->0<=nth u i/\nth u i<=1000000000000
 v0:∀k,k<x.ab.length->0<=nth v k/\nth v k<=1000000000000
 pe:∀i,i<x.os.length->nth u i<=de (prio x i)
 wt:∀i k,i<x.os.length->k<x.ab.length->nth (nth x.fit i) k=true->nth u i<=nth (nth x.wt i) k+nth v k
 no:∀i,i<x.os.length->nth (bB x) i=-1->nth u i=de (prio x i)
 at_:∀i,i<x.os.length->nth (bB x) i≠-1->∃k,k<x.ab.length/\nth (bB x) i=(k:Int)/\nth (nth x.fit i) k=true/\nth u i=nth (nth x.wt i) k+nth v k
 one:∀i j,i<x.os.length->j<x.os.length->nth (bB x) i≠-1->nth (bB x) i=nth (bB x) j->i=j
 fr:∀k,k<x.ab.length->(∀i,i<x.os.length->nth (bB x) i≠(k:Int))->nth v k=0
theorem D9(x:Rd)(ok:cE x):zfb x (cp x).u (bK x):=by
 have m:=D6 x ok;have hp:=C4 x ok
 have hv:∀k,k<x.ab.length->nth (bK x) k=-(nth (cp x).v k):=λk hk=>by unfold bK;rw[ql _ _ _ hk]
 have val:=zcr (cp x).ow x.os.length x.ab.length (λk hk=>by rcases m.how k (by omega) with h|h<;>omega) (λj k hj hk=>m.dO j k (by omega) (by omega))
 have bz:=λl hl=>m.ub hp (l:=l) hl
 have tC:∀i k,i<x.os.length->k<x.ab.length->tS x i k=if nth (nth x.fit i) k=true then nth (nth x.wt i) k else 1000000000000000:=λi k hi hk=>by
  rw[C3 x i k hi (by omega)];unfold pw;by_cases hf:nth (nth x.fit i) k=true
  .rw[az ⟨hk,hf⟩,az hf]
  .rw[ai (λh=>hf h.2),ai (by omega),ai hf]
 have tP:∀i,i<x.os.length->tS x i (x.ab.length+i)=de (prio x i):=λi hi=>by
  rw[C3 x i _ hi (by omega)];unfold pw;rw[ai (by omega),az rfl]
 refine⟨λi hi=>⟨m.hu i hi,bz i hi⟩,λk hk=>zcm x ok k hk,λi hi=>?_,λi k hi hk hf=>?_,λi hi hn=>?_,λi hi hn=>?_,λi j hi hj hn e=>?_,λk hk bg=>?_⟩
 .have h1:=m.hf i (x.ab.length+i) hi (by omega);rw[tP i hi,m.hvp i hi] at h1;omega
 .have h1:=m.hf i k hi (by omega);rw[tC i k hi hk,az hf] at h1;rw[hv k hk];omega
 .rcases val i hi with ⟨k,hk,_,e2⟩|⟨e1,_⟩
  .have:nth (bB x) i=(k:Int):=e2;omega
  .obtain⟨j,hj,ej⟩:=m.Bm i hi
   have ha:¬j<x.ab.length:=λh=>e1 j h ej
   have bh:=(m.own hp (aD _) hj (by omega)).resolve_left ha;have ht:=m.ht j hj (by omega);rw[ej] at bh ht;rw[fM] at bh ht;rw[bh,tP i hi,m.hvp i hi] at ht;omega
 .rcases val i hi with ⟨k,hk,e1,e2⟩|⟨_,e2⟩
  .refine⟨k,hk,e2,?_⟩;have ht:=m.ht k (by omega) (by omega);rw[e1,fM,tC i k hi hk] at ht;have h1:=bz i hi;have h2:=m.hv k (by omega);by_cases hf:nth (nth x.fit i) k=true
   .rw[az hf] at ht;exact⟨hf,by rw[hv k hk];omega⟩
   .rw[ai hf] at ht;omega
  .exact absurd e2 hn
 .rcases val i hi with ⟨k,hk,e1,e2⟩|⟨_,e2⟩
  .rcases val j hj with ⟨l,hl,f1,f2⟩|⟨_,f2⟩
   .have e2:nth (bB x) i=(k:Int):=e2;have f2:nth (bB x) j=(l:Int):=f2
    have:k=l:=by omega
    subst this;omega
   .have e2:nth (bB x) i=(k:Int):=e2;have f2:nth (bB x) j=-1:=f2;omega
  .exact absurd e2 hn
 .rw[hv k hk]
  rcases m.how k (by omega) with h|h
  .rw[m.hvz k (by omega) h];rfl
  .obtain⟨i,hi⟩:∃i:Nat,nth (cp x).ow k=(i:Int):=⟨(nth (cp x).ow k).toNat,by omega⟩
   have bn:i<x.os.length:=by omega
   rcases val i bn with ⟨l,hl,e1,e2⟩|⟨e1,_⟩
   .have:l=k:=m.dO l k (by omega) (by omega) (by omega) (by omega);subst this;exact absurd e2 (bg i bn)
   .exact absurd hi (e1 k hk)
theorem zbt(row:List Bool)(w p:List Int)(m0 u:Int)(h0:u<=m0):∀n,(∀k,k<n->nth row k=true->u<=nth w k+nth p k)->u<=mK row w p m0 n
 |0,_=>h0
 |n+1,h=>by
  have ih:=zbt row w p m0 u h0 n (λk hk=>h k (by omega));unfold mK;by_cases hr:nth row n=true
  .have:=h n (by omega) hr;rw[az hr]
   split<;>omega
  .rw[ai hr];exact ih
theorem zcs(x:Rd)(ok:cE x)(i:Nat)(hi:i<x.os.length):nth (n5 x) i=nth (cp x).u i:=by
 have b:=D9 x ok;unfold n5;rw[ql _ _ _ hi]
 have h1:nth (cp x).u i<=eB x i (bK x):=zbt _ _ _ _ _ (b.pe i hi) _ λk hk hr=>b.wt i k hi (by rw[ok.fr i hi] at hk;exact hk) hr
 have h2:=zbs (nth x.fit i) (nth x.wt i) (bK x) (de (prio x i)) (nth x.fit i).length;have h3:mK (nth x.fit i) (nth x.wt i) (bK x) (de (prio x i)) (nth x.fit i).length=eB x i (bK x):=rfl;rw[h3] at h2;by_cases hn:nth (bB x) i=-1
 .have:=b.no i hi hn;omega
 .obtain⟨k,hk,_,hf,e⟩:=b.at_ i hi hn;have:=h2.2 k (by rw[ok.fr i hi];exact hk) hf;omega
theorem zct(x:Rd):(bB x).length=x.os.length:=qk _ _ _
theorem zcu(x:Rd)(ok:cE x):C7 x (bB x):=by
 have b:=D9 x ok;have hl:=zct x;refine⟨zco x ok,λk hk hn=>?_,λk hk hn j hj e=>?_⟩
 .obtain⟨c,_,e1,e2,_⟩:=b.at_ k (by omega) hn;rw[e1,fM];exact e2
 .have:=b.one k j (by omega) (by omega) hn e.symm;omega
theorem zcv{α:Type}[Inhabited α]{E:Nat->α->Int}:∀{l:List α}{k:Nat},(∀j,j<l.length->E (k+j) (nth l j)=0)->fQ E l k=(0,0)
 |[],_,_=>rfl
 |y::r,k,h=>by
  unfold fQ;have h0:E k y=0:=h 0 (by simp);rw[az h0]
  exact zcv λj hj=>by
   have:=h (j+1) (by simpa using hj);rw[show k+(j+1)=k+1+j by omega] at this;exact this
theorem zbb(l:List Int)(f:Nat->Int):∀n,(∀k,k<n->nth l k=f k)->fh l n=cN f n:=λn h=>by
 rw[C5];exact D8 n h
theorem zd6(x:Rd)(ok:cE x):eF x (bB x)=fh (n5 x) x.os.length-fh (bK x) x.ab.length:=by
 have b:=D9 x ok;have r:=zcu x ok;have hl:=zct x
 have h1:∀k,k<=x.os.length->cq x (bB x) k=ez x x.os.length-ez x k+fh (n5 x) k-ft (bK x) (bB x) k:=λk=>by
  induction k with
  |zero=>intro _;unfold cq ft;simp
  |succ k ih=>
   intro hk;have ih:=ih (by omega)
   rw[show cq x (bB x) (k+1)=if nth (bB x) k=-1 then cq x (bB x) k else cq x (bB x) k+(rL x k (nth (bB x) k)-de (prio x k)) from rfl,
    show ft (bK x) (bB x) (k+1)=if nth (bB x) k=-1 then ft (bK x) (bB x) k else ft (bK x) (bB x) k+nth (bK x) (nth (bB x) k).toNat from rfl,
    show ez x (k+1)=ez x k+de (prio x k) from rfl,show fh (n5 x) (k+1)=fh (n5 x) k+nth (n5 x) k from rfl,zcs x ok k (by omega)]
   by_cases hn:nth (bB x) k=-1
   .rw[az hn,az hn];have:=b.no k (by omega) hn;omega
   .rw[ai hn,ai hn];obtain⟨c,_,e1,_,e2⟩:=b.at_ k (by omega) hn;unfold rL;rw[e1,fM];omega
 have h2:=zba x (bK x) (bB x) r (bB x).length (aD _)
 have h3:cN (λc=>if ((bB x).take (bB x).length).contains (c:Int) then nth (bK x) c else 0) x.ab.length=fh (bK x) x.ab.length:=by
  rw[C5]
  refine D8 _ λc hc=>?_
  rw[List.take_length];by_cases hm:(c:Int)∈bB x
  .rw[az (by simpa using hm)]
  .rw[ai (by simpa using hm),b.fr c hc];intro i hi e;refine hm ?_;rw[<-e]
   have h8:i<(bB x).length:=by omega
   have:nth (bB x) i=(bB x)[i]:=by simp[nth,da,h8]
   rw[this];exact ID h8
 have h4:=h1 x.os.length (aD _);unfold eF;rw[hl] at h2 h3 ⊢;rw[h4,h2,h3];omega
noncomputable instance zgl:ak:=LD
theorem zbc{α:Type}[Inhabited α]{l:List α}{k:Nat}(h:k<l.length):nth l k∈l:=by
 have:nth l k=l[k]:=by simp[nth,da,h]
 rw[this];exact ID h
def oc:PV:=.agg [.sl 0 [],.sl 0 [],.sl 0 [],.sl 0 []]
noncomputable instance zgn:ak:=LD
structure Rt(ab:List Car)(os:List Ord)(wt:List (List Int))(zs:List Par):Prop where
 lc:ab.length<=8
 lo:os.length<=8
 lw:wt.length=os.length
 lz:zs.length<=64
 cn:∀c∈ab,fJ c.1=true/\aL c.2.1 1 8=true
 cd:ab.Pairwise λa b=>decide (a.1=b.1)=false
 on:∀o∈os,fJ o.1=true/\aL o.2.1 1 8=true/\aL o.2.2.2 0 6=true
 od:os.Pairwise λa b=>decide (a.1=b.1)=false
 wr:∀w∈wt,w.length=ab.length/\∀v∈w,aL v 0 100000=true
 zr:∀p∈zs,aL p.1 0 ((os.length:Int)-1)=true/\aL p.2 0 ((ab.length:Int)-1)=true
 zd:zs.Pairwise λa b=>(decide (b.1=a.1)&&decide (b.2=a.2))=false
theorem EO{α:Type}[Inhabited α](l:List α)(k:Nat)(h:k<l.length):nth l k=l[k]:=by
 simp[nth,da,h]
theorem zcw{α:Type}[Inhabited α](R:α->α->Bool)(l:List α):(∀k,k<l.length->((l.take k).any λy=>R y (nth l k))=false)↔l.Pairwise λa b=>R a b=false:=by
 rw[rV];constructor
 .intro h i j hi hj c4;have:=xC.1 (h j hj) l[i] (by rw[IB];exact⟨i,by omega,rfl⟩);rw[EO l j hj] at this;simpa using this
 .intro h k hk;rw[xC];intro y hy;rw[IB] at hy;obtain⟨j,hj,rfl⟩:=hy;rw[EO l k hk,h j k (by omega) hk (by omega)];decide
theorem zcx{α:Type}[Inhabited α]{nm:α->ByteArray}{mr:α->Int}{l:List α}:∀{r:List α}{k:Nat},(∀j,j<r.length->gZ nm mr l (k+j) (nth r j)=0)->fu nm mr l r k=(0,0)
 |[],_,_=>rfl
 |y::r,k,h=>by
  unfold fu;have h0:gZ nm mr l k y=0:=h 0 (by simp);rw[az h0]
  exact zcx λj hj=>by
   have:=h (j+1) (by simpa using hj);rw[show k+(j+1)=k+1+j by omega] at this;exact this
theorem zbd{α:Type}[Inhabited α]{p:α->Prop}{l:List α}:(∀k,k<l.length->p (nth l k))↔∀y∈l,p y:=by
 constructor
 .intro h y hy;obtain⟨k,hk,e⟩:=List.mem_iff_getElem.1 hy;have:=h k hk
  rwa [EO l k hk,e] at this
 .intro h k hk;exact h _ (zbc hk)
theorem rE{b:Bool}{e:Int}(he:e≠0):aP b e=0↔b=true:=⟨mE he,λh=>by rw[h];rfl⟩
theorem zbe{a b c:Int}:dc [a,b,c]=0↔a=0/\b=0/\c=0:=by
 constructor
 .intro h;obtain⟨h1,h⟩:=bW h;obtain⟨h2,h⟩:=bW h;exact⟨h1,h2,(bW h).1⟩
 .rintro⟨rfl,rfl,rfl⟩;rfl
theorem zcy{a b:Int}:dc [a,b]=0↔a=0/\b=0:=by
 constructor
 .intro h;obtain⟨h1,h⟩:=bW h;exact⟨h1,(bW h).1⟩
 .rintro⟨rfl,rfl⟩;rfl
theorem zcz{α:Type}[Inhabited α](nm:α->ByteArray)(mr:α->Int)(l:List α):(gG nm mr l).2=0↔(∀y∈l,fJ (nm y)=true/\mr y=0)/\l.Pairwise λa b=>decide (nm a=nm b)=false:=by
 rw[<-zcw (λa b=>decide (nm a=nm b)) l,<-zbd]
 have key:(gG nm mr l).2=0↔∀j,j<l.length->gZ nm mr l j (nth l j)=0:=by
  constructor
  .intro h j hj;have:=D3 h j hj
   rwa [cY] at this
  .intro h;show (fu nm mr l l 0).2=0;rw[zcx λj hj=>by rw[cY];exact h j hj]
 rw[key];constructor
 .intro h;refine⟨λk hk=>?_,λk hk=>?_⟩
  .have:=zbe.1 (h k hk);exact⟨(rE (by decide)).1 this.1,this.2.2⟩
  .have:=zbe.1 (h k hk);exact not_true ((rE (by decide)).1 this.2.1)
 .rintro⟨h1,h2⟩ k hk
  refine zbe.2 ⟨?_,?_,(h1 k hk).2⟩
  .rw[(h1 k hk).1];rfl
  .rw[h2 k hk];rfl
theorem zc0{α:Type}[Inhabited α](E:Nat->α->Int)(l:List α):(fQ E l 0).2=0↔∀j,j<l.length->E j (nth l j)=0:=by
 constructor
 .intro h j hj;have:=C9 h j hj
  rwa [cY] at this
 .intro h;rw[zcv λj hj=>by rw[cY];exact h j hj]
theorem zd7(ab:List Car)(os:List Ord)(wt:List (List Int))(zs:List Par):(g8 ab os wt zs).2=0↔Rt ab os wt zs:=by
 have hc:=zcz Prod.fst fK ab;have ho:=zcz Prod.fst eY os;have hw:=zc0 (λ_=>gr ab.length) wt;have hz:=zc0 (jG os.length ab.length zs) zs
 have mc:∀c:Car,fK c=0↔aL c.2.1 1 8=true:=λc=>rE (by decide)
 have mo:∀o:Ord,eY o=0↔aL o.2.1 1 8=true/\aL o.2.2.2 0 6=true:=λo=>by
  unfold eY;rw[rE (by decide),di]
 have mw:∀w:List Int,gr ab.length w=0↔w.length=ab.length/\∀v∈w,aL v 0 100000=true:=λw=>by
  unfold gr;rw[zcy,rE (by decide),rE (by decide),xA,xC,decide_eq_true_eq];constructor
  .rintro⟨h1,h2⟩;exact⟨by omega,λv hv=>by simpa using h2 v hv⟩
  .rintro⟨h1,h2⟩;exact⟨by omega,λv hv=>by simpa using h2 v hv⟩
 have mz:∀(k:Nat)(p:Par),jG os.length ab.length zs k p=0↔(aL p.1 0 ((os.length:Int)-1)=true/\aL p.2 0 ((ab.length:Int)-1)=true)/\((zs.take k).any λy=>decide (p.1=y.1)&&decide (p.2=y.2))=false:=λk p=>by
  unfold jG;rw[zcy,rE (by decide),rE (by decide),di,xA]
 have tz:(∀j,j<zs.length->jG os.length ab.length zs j (nth zs j)=0)↔(∀p∈zs,aL p.1 0 ((os.length:Int)-1)=true/\aL p.2 0 ((ab.length:Int)-1)=true)/\zs.Pairwise λa b=>(decide (b.1=a.1)&&decide (b.2=a.2))=false:=by
  rw[<-zcw (λa b:Par=>decide (b.1=a.1)&&decide (b.2=a.2)) zs,<-zbd];constructor
  .intro h;exact⟨λk hk=>((mz k _).1 (h k hk)).1,λk hk=>((mz k _).1 (h k hk)).2⟩
  .rintro⟨h1,h2⟩ k hk;exact (mz k _).2 ⟨h1 k hk,h2 k hk⟩
 have tw:(∀j,j<wt.length->gr ab.length (nth wt j)=0)↔∀w∈wt,w.length=ab.length/\∀v∈w,aL v 0 100000=true:=by
  rw[zbd (p:=λw=>gr ab.length w=0)];exact⟨λh w hw=>(mw w).1 (h w hw),λh w hw=>(mw w).2 (h w hw)⟩
 rw[tw] at hw;rw[tz] at hz;constructor
 .intro h;unfold g8 at h;split at h
  .simp at h
  rename_i g1;split at h
  .rename_i h2;exact absurd h h2
  rename_i g2;split at h
  .simp at h
  rename_i g3;split at h
  .rename_i h2;exact absurd h h2
  rename_i g4;split at h
  .simp at h
  rename_i g5;have aq:=AL h
  have c8:(fQ (λ_=>gr ab.length) wt 0).2=0:=by
   unfold fY at h;split at h
   .rename_i h1;exact absurd h h1
   .rename_i h1;simpa using h1
  rw[aq] at h;unfold g7 at h;split at h
  .simp at h
  rename_i g6;have a1:=hc.1 (r6.1 g2);have a2:=ho.1 (r6.1 g4);have a3:=hw.1 c8;have a4:=hz.1 h;exact⟨by omega,by omega,by omega,by omega,λc hc=>⟨(a1.1 c hc).1,(mc c).1 (a1.1 c hc).2⟩,a1.2,λo ho=>⟨(a2.1 o ho).1,(mo o).1 (a2.1 o ho).2⟩,a2.2,a3,a4.1,a4.2⟩
 .intro h;unfold g8
  rw[ai (by have:=h.lc;omega),ai (by rw[r6];exact hc.2 ⟨λc hc=>⟨(h.cn c hc).1,(mc c).2 (h.cn c hc).2⟩,h.cd⟩),ai (by have:=h.lo;omega),
   ai (by rw[r6];exact ho.2 ⟨λo ho=>⟨(h.on o ho).1,(mo o).2 (h.on o ho).2⟩,h.od⟩),ai (by have:=h.lw;omega)]
  unfold fY;rw[ai (by rw[r6];exact hw.2 h.wr)];unfold g7;rw[ai (by have:=h.lz;omega)];exact hz.2 ⟨h.zr,h.zd⟩
theorem zbf(r:Tw.RND):ceR r=0↔Rt r.ab r.os r.wt r.zs:=zd7 _ _ _ _
end Go.Proofs.YthpkmilhiganjaaGreat
namespace Go.Proofs.YthpkmilhiganjaaGreat
open Go Go.Fi
variable[ak]
theorem zc1(s:ByteArray)(hs:s.size<1000000):aB Tz.prog 134 [.str s] (.bool (fJ s)) true:=by
 refine rcK Tz.func134 ?_;simp only[Tryz.results134,Tryz.ntmps134]
 repeat' first|(with_reducible first|apply aj|apply aE|apply av|apply af|apply au|refine vV ?_ ?_|refine bY ?_ ?_|intro _)|(simp[*])
 .exact NH (by omega)
 rotate_left
 .rename_i h0;exact F8 (by have:=of_decide_eq_true h0;omega)
 rename_i hA hB
 have bj:s.size≠0:=by have:=of_decide_eq_false hA;omega
 refine vX (λk:Nat=>k<=s.size/\lD s k=true) [0] (λk=>[(3,.w false false (.int .i64 k))]) (λ_=>[]) (λk=>s.size-k)
  (λ_:Unit=>lD s s.size=true) [0] (λ_=>[]) (λ_=>[]) 0 ⟨aR _,rfl⟩ (by simp) (by simp) (λk hk=>?_) (λ_ hf=>?_)
 .obtain⟨hk,hf⟩:=hk
  repeat' first|(with_reducible first|apply aj|apply aI|apply aE|apply av|apply aK|apply af|apply au|refine And.intro ?_ ?_|refine vV ?_ ?_|refine vU ?_ ?_|refine bY ?_ ?_|intro _)|(simp[*])
  all_goals first
   |exact aN (by omega) (by omega)
   |omega
   |(refine nx (k+1) ?_ ?_;(· refine⟨by omega,?_⟩;unfold lD;rw[hf];clear hf;simp[okB,tU] at *;omega);(refine aM ?_ ?_<;>first|trivial|(simp[*];done)))
   |(refine bN () ?_ ?_;(· rw[show s.size=k by omega];exact hf);(refine aM ?_ ?_<;>first|trivial|(simp[*];done)))
   |(unfold fJ;rw[AF s k (by clear hf;simp[okB,tU] at *;omega) s.size (by omega)];rfl)
 .repeat' first|(with_reducible first|apply aj|apply av|apply af|intro _)|(simp[*])
  all_goals (rw[F9 hf bj];simp;omega)
theorem zd8(ab:List Car)(os:List Ord)(wt:List (List Int))(zs:List Par)(i:Nat)(hi:i<ab.length)(hl:ab.length<=1000)(hs:∀x∈ab,x.1.size<1000000):aB Tz.prog 108 [.agg [.sl ab.length (bf ab),.sl os.length (ba os),.sl wt.length (bP wt),.sl zs.length (aZ zs)],.int .i64 i] (.int .i64 (gZ Prod.fst fK ab i (nth ab i))) true:=by
 have c1:=zc1 (nth ab i).1 (hs _ (kI hi));have c2:=om (nth ab i).2.1 1 8;generalize hR:gZ Prod.fst fK ab i (nth ab i)=R;unfold gZ fK at hR;clear hs
 cases hb:fJ (nth ab i).1 with
 |false=>
  rw[hb] at c1 hR;have hR:(4:Int)=R:=hR;subst hR;clear hb c2;refine rcK Tz.func108 ?_;simp only[Tryz.results108,Tryz.ntmps108]
  repeat' first|(with_reducible first|apply aj|apply av|apply af|apply au|refine And.intro ?_ ?_|refine cw (c1) ?_|intro _)|(simp[*,hi])|(refine ar (c1) ?_ ?_;(· (simp[*];done)))
  all_goals first|omega
 |true=>
  rw[hb] at c1 hR;clear hb;have hR:dc [aP (!((ab.take i).any λy=>decide (y.1=(nth ab i).1))) 5,aP (aL (nth ab i).2.1 1 8) 2]=R:=hR;generalize hA:((ab.take i).any λy=>decide (y.1=(nth ab i).1))=A at hR;have kA:br (((ab.take i).drop 0).any (λy=>decide (y.1=(nth ab i).1))=A):=hA;have kR:=keep hR;clear hA hR;refine rcK Tz.func108 ?_;simp only[Tryz.results108,Tryz.ntmps108]
  repeat' first|(with_reducible first|apply aj|apply aE|apply af|apply au|refine And.intro ?_ ?_|refine cw (c1) ?_|intro _)|(simp[*,hi])|(refine ar (c1) ?_ ?_;(· (simp[*];done)))
  all_goals try first|omega|assumption
  refine eD (λ(k:Nat)=>k<=i/\((ab.take i).drop k).any (λy=>decide (y.1=(nth ab i).1))=A) [1,2] (λ(k:Nat)=>[(5,.w false false (.int .i64 k))]) [0] (λ(k:Nat)=>[]) (λ(k:Nat)=>i-k) (λ(_u:Unit)=>A=false) [1,2] (λ(_u:Unit)=>[]) [0] (λ(_u:Unit)=>[]) (0) ⟨aR _,kA⟩ (by simp) (by simp) (λk hk=>?_) (λ_u hf=>?_)
  .obtain⟨hk,hj⟩:=hk;clear c1;by_cases h5:k<i
   .have aw:k<ab.length:=by omega
    have hh:k<(ab.take i).length:=by rw[nM];omega
    rw[fC _ k hh,Cv] at hj
    have e:nth (ab.take i) k=nth ab k:=by
     simp[nth,da,jH,h5]
    rw[e] at hj;have kj:=keep hj;clear hj e hh;by_cases hn:(nth ab k).1=(nth ab i).1
    .have hA:A=true:=by have h:=kj;unfold br at h;rw[<-h];simp[hn]
     subst hA;have hR:(5:Int)=R:=kR;subst hR;clear kj kR kA
     repeat' first|(with_reducible first|apply aj|apply aI|apply aE|apply av|apply af|refine bm (id:=6) 13 mixed (by decide +kernel) ?_|apply au|intro _)|(simp[*,h5,aw,hi,hn])
     all_goals first|omega|exact aN (by omega) (by omega)
    .have kj2:br (((ab.take i).drop (k+1)).any (λy=>decide (y.1=(nth ab i).1))=A):=by have h:=kj;unfold br at h ⊢;rw[<-h];simp[hn]
     clear kj kA
     repeat' first|(with_reducible first|apply aj|apply aI|apply aE|apply af|refine bm (id:=6) 13 mixed (by decide +kernel) ?_|apply au|refine And.intro ?_ ?_|intro _)|(simp[*,h5,aw,hi,hn])
     all_goals first
      |omega
      |exact aN (by omega) (by omega)
      |(refine nx (k+1) ?_ ?_;(· exact⟨by omega,kj2⟩);(refine aM ?_ ?_<;>first|trivial|(simp[*];done)))
   .have hg:k=i:=by omega
    subst hg;have b6:br (A=false):=keep (by rw[<-hj];simp);clear hj kA
    repeat' first|(with_reducible first|apply aj|apply aK|apply af|apply au|intro _)|(simp[*])
    all_goals first
     |omega
     |(refine bN () ?_ ?_;(· exact b6);(refine aM ?_ ?_<;>first|trivial|(simp[*];done)))
  .subst hf;clear kA c1
   cases hw:aL (nth ab i).2.1 1 8 with
   |true=>
    rw[hw] at c2 kR;have hR:(0:Int)=R:=kR;subst hR;clear kR hw
    repeat' first|(with_reducible first|apply aj|apply aE|apply av|apply af|apply au|refine And.intro ?_ ?_|refine cw (c2) ?_|intro _)|(simp[*,hi])|(refine ar (c2) ?_ ?_;(· (simp[*];done)))
    all_goals first|omega
   |false=>
    rw[hw] at c2 kR;have hR:(2:Int)=R:=kR;subst hR;clear kR hw
    repeat' first|(with_reducible first|apply aj|apply av|apply af|apply au|refine And.intro ?_ ?_|refine cw (c2) ?_|intro _)|(simp[*,hi])|(refine ar (c2) ?_ ?_;(· (simp[*];done)))
    all_goals first|omega
theorem zd9(ab:List Car)(os:List Ord)(wt:List (List Int))(zs:List Par)(i:Nat)(hi:i<os.length)(hl:os.length<=1000)(hs:∀x∈os,x.1.size<1000000):aB Tz.prog 109 [.agg [.sl ab.length (bf ab),.sl os.length (ba os),.sl wt.length (bP wt),.sl zs.length (aZ zs)],.int .i64 i] (.int .i64 (gZ Prod.fst eY os i (nth os i))) true:=by
 have c1:=zc1 (nth os i).1 (hs _ (kI hi));have c2:=om (nth os i).2.1 1 8;have c3:=om (nth os i).2.2.2 0 6;generalize hR:gZ Prod.fst eY os i (nth os i)=R;unfold gZ eY at hR;clear hs
 cases hb:fJ (nth os i).1 with
 |false=>
  rw[hb] at c1 hR;have hR:(4:Int)=R:=hR;subst hR;clear hb c2 c3;refine rcK Tz.func109 ?_;simp only[Tryz.results109,Tryz.ntmps109]
  repeat' first|(with_reducible first|apply aj|apply av|apply af|apply au|refine And.intro ?_ ?_|refine cw (c1) ?_|intro _)|(simp[*,hi])|(refine ar (c1) ?_ ?_;(· (simp[*];done)))
  all_goals first|omega
 |true=>
  rw[hb] at c1 hR;clear hb;have hR:dc [aP (!((os.take i).any λy=>decide (y.1=(nth os i).1))) 5,aP (aL (nth os i).2.1 1 8&&aL (nth os i).2.2.2 0 6) 2]=R:=hR;generalize hA:((os.take i).any λy=>decide (y.1=(nth os i).1))=A at hR;have kA:br (((os.take i).drop 0).any (λy=>decide (y.1=(nth os i).1))=A):=hA;have kR:=keep hR;clear hA hR;refine rcK Tz.func109 ?_;simp only[Tryz.results109,Tryz.ntmps109]
  repeat' first|(with_reducible first|apply aj|apply aE|apply af|apply au|refine And.intro ?_ ?_|refine cw (c1) ?_|intro _)|(simp[*,hi])|(refine ar (c1) ?_ ?_;(· (simp[*];done)))
  all_goals try first|omega|assumption
  refine eD (λ(k:Nat)=>k<=i/\((os.take i).drop k).any (λy=>decide (y.1=(nth os i).1))=A) [1,2] (λ(k:Nat)=>[(5,.w false false (.int .i64 k))]) [0] (λ(k:Nat)=>[]) (λ(k:Nat)=>i-k) (λ(_u:Unit)=>A=false) [1,2] (λ(_u:Unit)=>[]) [0] (λ(_u:Unit)=>[]) (0) ⟨aR _,kA⟩ (by simp) (by simp) (λk hk=>?_) (λ_u hf=>?_)
  .obtain⟨hk,hj⟩:=hk;clear c1;by_cases h5:k<i
   .have aw:k<os.length:=by omega
    have hh:k<(os.take i).length:=by rw[nM];omega
    rw[fC _ k hh,Cv] at hj
    have e:nth (os.take i) k=nth os k:=by
     simp[nth,da,jH,h5]
    rw[e] at hj;have kj:=keep hj;clear hj e hh;by_cases hn:(nth os k).1=(nth os i).1
    .have hA:A=true:=by have h:=kj;unfold br at h;rw[<-h];simp[hn]
     subst hA;have hR:(5:Int)=R:=kR;subst hR;clear kj kR kA
     repeat' first|(with_reducible first|apply aj|apply aI|apply aE|apply av|apply af|refine bm (id:=6) 13 mixed (by decide +kernel) ?_|apply au|intro _)|(simp[*,h5,aw,hi,hn])
     all_goals first|omega|exact aN (by omega) (by omega)
    .have kj2:br (((os.take i).drop (k+1)).any (λy=>decide (y.1=(nth os i).1))=A):=by have h:=kj;unfold br at h ⊢;rw[<-h];simp[hn]
     clear kj kA
     repeat' first|(with_reducible first|apply aj|apply aI|apply aE|apply af|refine bm (id:=6) 13 mixed (by decide +kernel) ?_|apply au|refine And.intro ?_ ?_|intro _)|(simp[*,h5,aw,hi,hn])
     all_goals first
      |omega
      |exact aN (by omega) (by omega)
      |(refine nx (k+1) ?_ ?_;(· exact⟨by omega,kj2⟩);(refine aM ?_ ?_<;>first|trivial|(simp[*];done)))
   .have hg:k=i:=by omega
    subst hg;have b6:br (A=false):=keep (by rw[<-hj];simp);clear hj kA
    repeat' first|(with_reducible first|apply aj|apply aK|apply af|apply au|intro _)|(simp[*])
    all_goals first
     |omega
     |(refine bN () ?_ ?_;(· exact b6);(refine aM ?_ ?_<;>first|trivial|(simp[*];done)))
  .subst hf;clear kA c1
   cases hw:aL (nth os i).2.1 1 8 with
   |true=>
    cases hv:aL (nth os i).2.2.2 0 6 with
    |true=>
     rw[hw,hv] at kR;rw[hw] at c2;rw[hv] at c3;have hR:(0:Int)=R:=kR;subst hR;clear kR hw hv
     repeat' first|(with_reducible first|apply aj|apply aE|apply av|apply af|apply au|refine And.intro ?_ ?_|refine cw (c2) ?_|refine cw (c3) ?_|intro _)|(simp[*,hi])|(refine ar (c2) ?_ ?_;(· (simp[*];done)))|(refine ar (c3) ?_ ?_;(· (simp[*];done)))
     all_goals first|omega
    |false=>
     rw[hw,hv] at kR;rw[hw] at c2;rw[hv] at c3;have hR:(2:Int)=R:=kR;subst hR;clear kR hw hv
     repeat' first|(with_reducible first|apply aj|apply av|apply af|apply au|refine And.intro ?_ ?_|refine cw (c2) ?_|refine cw (c3) ?_|intro _)|(simp[*,hi])|(refine ar (c2) ?_ ?_;(· (simp[*];done)))|(refine ar (c3) ?_ ?_;(· (simp[*];done)))
     all_goals first|omega
   |false=>
    rw[hw] at c2 kR;have hR:(2:Int)=R:=kR;subst hR;clear kR hw c3
    repeat' first|(with_reducible first|apply aj|apply av|apply af|apply au|refine And.intro ?_ ?_|refine cw (c2) ?_|intro _)|(simp[*,hi])|(refine ar (c2) ?_ ?_;(· (simp[*];done)))
    all_goals first|omega
end Go.Proofs.YthpkmilhiganjaaGreat
