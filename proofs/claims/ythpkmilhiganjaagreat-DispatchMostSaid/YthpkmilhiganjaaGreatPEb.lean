/- Lemmas. -/
import Derived.Test.YthpkmilhiganjaaGreatPEa
import Derived.Test.YthpkmilhiganjaaGreatPLg
import Derived.Test.YthpkmilhiganjaaGreatPLd
import Derived.Test.YthpkmilhiganjaaGreatPLf
set_option linter.all false
set_option maxHeartbeats 32000000
set_option maxRecDepth 100000
namespace Go.Proofs.YthpkmilhiganjaaGreat
open Go Go.Fi
variable[bI]
theorem zdp(n:Nat)(h:n<4294967296):bX Tz.prog 154 [.int .u64 1,.int .u64 n] (.tup [.int .u64 0,.int .u64 n]) true:=by
 have h1:(n:Int) / 4294967296=0:=ab
 have h2:(n:Int)<4294967296:=ab
 have h3:inI .u64 (n:Int):=aR
 have h0:inI .u64 0:=by constructor<;>simp[IntKind.min,IntKind.max,IntKind.bits,IntKind.signed]
 refine rcK Tz.func154 ?_;simp only[Tryz.results154,Tryz.ntmps154]
 repeat' first|(with_reducible first|apply bH|apply bT|apply bG|intro _)|simp[*,h1,h2,h3,h0]
 all_goals exact h0
theorem ze1(n:Nat)(h:n<4294967296):bX Tz.prog 118 [.int .u64 1,.int .u64 n] (.tup [.int .u64 0,.int .u64 n]) true:=by
 have c:=zdp n h;refine rcK Tz.func118 ?_;simp only[Tryz.results118,Tryz.ntmps118]
 repeat' first|(with_reducible first|apply bH|apply b7|apply bT|apply bG|apply bQ|refine And.intro ?_ ?_|intro _)|simp[*]|(refine bN (c) ?_ ?_;· simp[*];done)
theorem z7:∀(r c:List AV)(o:Nat),o+r.length<=c.length->∀j,(setAt c o r)[j]?=if o<=j/\j<o+r.length then r[j-o]? else c[j]?
 |[],c,o,_,j=>by
  unfold setAt;rw[bP ae]
 |a::r,c,o,h,j=>by
  unfold setAt;rw[z7 r (c.set o a) (o+1) (by simp at h ⊢;omega) j]
  grind
theorem qi(v:Int)(n m j:Nat)(h:m<=n):(iA (bo (λ_=>v) 0 n m))[j]?=if j<m then some (AV.w false false (.int .i64 v)) else if j<n then some (AV.w false false (.int .i64 0)) else none:=by
 unfold iA ints bo
 grind
theorem zdq(v:Int)(n m k:Nat)(h1:m+k<=n)(h2:k<=m):setAt (iA (bo (λ_=>v) 0 n m)) m ((iA (bo (λ_=>v) 0 n m)).take k)=iA (bo (λ_=>v) 0 n (m+k)):=by
 have hl:((iA (bo (λ_=>v) 0 n m)).take k).length=k:=by simp[bo];omega
 refine vr λj=>?_
 have bd:(iA (bo (λ_=>v) 0 n m)).length=n:=by rw[PC,wu _ _ _ _ ab]
 rw[z7 _ _ _ (by rw[hl,bd];omega),hl,qi _ _ _ _ ab,qi _ _ _ _ h1,j5,qi _ _ _ _ ab]
 grind
@[simp]theorem zf5(c:Nat)(l:List Int):AV.sh.shL c (iA l)=iA l:=by
 unfold iA
 induction ints l with
 |nil=>rfl
 |cons x l ih=>simp only[oU,AV.sh.shL,AV.sh,ih]
theorem Ak(l:List Int):AV.frs.mM (iA l)=true:=by
 unfold iA ints
 induction l with
 |nil=>rfl
 |cons x l ih=>trivial
theorem ql(v:Int)(n:Nat)(h:n<100000):oG Tz.prog 81 [.sl 1 [.int .i64 v],.int .i64 n] [iA (List.replicate n v)] (.msl 0 n 1 0 n):=by
 have c:=ze1 n ab
 have h3:inI .u64 (n:Int):=aR
 have b5:inI .u64 1:=by constructor<;>simp[IntKind.min,IntKind.max,IntKind.bits,IntKind.signed]
 have h4:¬(n:Int)<0:=ab
 have h5:¬(9223372036854775807:Int)<(n:Int):=ab
 have h6:inI .i64 (n:Int):=dc ab ab
 have h7:(n:Int)<=1000000000:=ab
 have hE:=Ak (List.replicate n v);refine xG 0 [] Tz.func81 aj rfl (gG aj) ae ak ?_;simp only[Tryz.results81,Tryz.ntmps81];clear hE
 rcases ll n with h0|h0
 .subst h0;have bk:inI .u64 0:=h3;have bp:inI .i64 0:=h6;clear h3 h4 h5 h6 h7
  repeat' first|(with_reducible first|apply bH|apply b7|apply bG|apply bQ|refine And.intro ?_ ?_|intro _)|simp[*,bk,b5,bp]|(refine bN (c) ?_ ?_;· simp[*];done)
  all_goals try first|exact bk|exact bp|exact b5
  clear c;refine kX 1 (λ(m:Nat)=>m=0) [7] (λ(m:Nat)=>[(8,.w false false (.int .i64 0))]) [] (λ(m:Nat)=>[(0,[])]) (λ(m:Nat)=>0) (λ(_u:Unit)=>True) [7] (λ(_u:Unit)=>[]) [] (λ(_u:Unit)=>[(0,[])]) (0) rfl (eJ [] ae ae) (λm hk=>?_) (λ_u hf=>?_)
  .subst hk
   repeat' first|(with_reducible first|apply bH|apply da|apply bG|apply bQ|intro _)|simp[*]
   all_goals (refine dH () ?_ ?_;(· trivial);(refine cD ?_ ?_<;>first|trivial|(simp[*];done)))
  .repeat' first|(with_reducible first|apply bH|apply bT|apply bG|intro _)|simp[*]
   trivial
 .have ax:min 1 n=1:=ab
  have e1:(List.replicate n (AV.w false false (.int .i64 0))).set 0 (.w false false (.int .i64 v))=iA (bo (λ_=>v) 0 n 1):=by
   have:=PO (λ_=>v) 0 n 0 h0;rw[<-this,<-PK,P3]
  repeat' first|(with_reducible first|apply bH|apply b7|apply bG|apply bQ|refine And.intro ?_ ?_|intro _)|simp[*,h3,b5,h4,h5,h6,h7,ax]|(refine bN (c) ?_ ?_;· simp[*];done)
  all_goals try omega
  clear c ax h4 h5;refine kX 1 (λ(m:Nat)=>m<=n/\1<=m) [7] (λ(m:Nat)=>[(8,.w false false (.int .i64 m))]) [] (λ(m:Nat)=>[(0,iA (bo (λ_=>v) 0 n m))]) (λ(m:Nat)=>n-m) (λ(_u:Unit)=>True) [7] (λ(_u:Unit)=>[]) [] (λ(_u:Unit)=>[(0,iA (List.replicate n v))]) (1) ⟨h0,bS _⟩ (eJ [] (by simp[e1]) (by simp[e1])) (λm hk=>?_) (λ_u hf=>?_)
  .clear e1;obtain⟨hk,cy⟩:=hk;by_cases h8:m<n
   .have hl:(bo (λ_=>v) 0 n m).length=n:=wu _ _ _ _ hk;obtain⟨kk,cf⟩:∃kk,min m (n-m)=kk:=⟨_,rfl⟩
    have cg:kk<=m:=ab
    have bu:m+kk<=n:=ab
    have cj:¬kk=n:=ab
    have bc:kk<=n:=ab
    have c9:1<=kk:=ab
    have ck:eo ((iA (bo (λ_=>v) 0 n m)).take kk)=true:=by
     unfold iA;rw[<-List.map_take];refine uD false false _ (gp.2 λy hy=>?_);obtain⟨z,_,rfl⟩:=jH.1 (List.mem_of_mem_take hy);rfl
    have cp:=zdq v n m kk bu cg;have h9:inI .i64 ((m:Int)+(kk:Int)):=dc ab ab;have cv:m+kk<=n/\1<=m+kk:=⟨bu,ab⟩;clear h3 b5 h6 h7 h0
    repeat' first|(with_reducible first|apply bH|apply rZ|apply b7|apply bG|refine ny (id:=9) [0,1,2,3,4,5,6] [7,8,9] [[.slot 7],[],[],[],[],[],[]] [[.slot 7],[],[]] mixed ai ?_|apply bQ|refine And.intro ?_ ?_|intro _)|simp[*,h8,hl,cf,cj,ck,h9,cp,bc]
    all_goals first
     |omega
     |assumption
     |exact oS.2 rfl
     |(refine gu _ _ _ _ _ (m+kk) _ ?_ ab ?_;(· exact cv);(refine cD ?_ ?_<;>first|trivial|(simp[*];done)))
   .have ho:m=n:=ab
    subst ho
    have e2:bo (λ_=>v) 0 m m=List.replicate m v:=by
     rw[TS]
     refine vr λj=>?_
     grind
    repeat' first|(with_reducible first|apply bH|apply da|apply bG|apply bQ|intro _)|simp[*,h8]
    all_goals first
     |omega
     |(refine dH () ?_ ?_;(· trivial);(refine cD ?_ ?_<;>first|trivial|simp))
  .clear e1
   repeat' first|(with_reducible first|apply bH|apply bT|apply bG|intro _)|simp[*]
@[simp]theorem zf7:fw Tz.prog 153=some [.w false false .undef]:=aj
theorem Ao(x:Rd)(ok:bW x)(most:Int):bX Tz.prog 83 [x.pv,.int .i64 most] (.tup [.sl x.os.length (ints (ba x most).1),.int .i64 (ba x most).2]) true:=by
 have hm:=k7 x most
 have hw:=λi (hi:i<x.os.length) (s:FS)=>wv x ok most (x.bD.length+1) i s
 have eM:∀i,bf x most (i+1)=((bm x most (x.bD.length+1) i ((bf x most i).1,List.replicate x.bD.length false)).2.1,
  if (bm x most (x.bD.length+1) i ((bf x most i).1,List.replicate x.bD.length false)).1 then (bf x most i).2+1 else (bf x most i).2):=λ_=>rfl
 have e0:bf x most 0=(List.replicate x.bD.length (-1),0):=rfl;have eP:ba x most=(bn (bf x most x.os.length).1 x.os.length x.bD.length,(bf x most x.os.length).2):=rfl;rw[eP];generalize bf x most=M at *
 have e1:iA (M 0).1=iA (List.replicate x.bD.length (-1)):=by rw[e0]
 have e2:(M 0).2=0:=by rw[e0]
 have e3:(M 0).1=List.replicate x.bD.length (-1):=by rw[e0]
 have a':=ok.lc;have aq:=ok.lo;have r1:=ql (-1) x.bD.length ab;have r2:=ql (-1) x.os.length ab;have kk:=keep (And.intro hm (And.intro hw (And.intro eM (And.intro a' aq))));clear hm hw eM e0 eP a' aq ok e1;unfold Rd.pv;refine rcK Tz.func83 ?_;simp only[Tryz.results83,Tryz.ntmps83]
 repeat' first|(with_reducible first|apply bH|apply bG|refine cwM (r1) ?_|intro _)|simp[*]
 clear r1;refine kX 6 (λ(i:Nat)=>i<=x.os.length) [2,6,7,27] (λ(i:Nat)=>[(28,.w false false (.int .i64 i)),(8,.w false false (.int .i64 (M i).2))]) [0,1,4,5] (λ(i:Nat)=>[(3,iA (M i).1)]) (λ(i:Nat)=>x.os.length-i) (λ(_u:Unit)=>True) [2,6] (λ(_u:Unit)=>[(8,.w false false (.int .i64 (M x.os.length).2))]) [0,4] (λ(_u:Unit)=>[(3,iA (M x.os.length).1)]) (0) (cG _) (eJ [] (by simp[e2,e3]) (by simp[e2,e3])) (λi hk=>?_) (λ_u hf=>?_)
 .clear e2 e3 r2;by_cases h8:i<x.os.length
  .obtain⟨hm,hw,eM,a',aq⟩:=kk;obtain⟨m1,m2,m3⟩:=hm i hk;have hs:=hw i h8 ((M i).1,List.replicate x.bD.length false);have eMi:=eM i
   have bw:bl (List.replicate x.bD.length false)<x.bD.length+1:=by rw[k6];omega
   have a6:=λK=>hs K h8 m1 bw
   generalize bm x most (x.bD.length+1) i ((M i).1,List.replicate x.bD.length false)=RR at eMi a6;obtain⟨b,tk2,sn2⟩:=RR;dsimp only at eMi a6
   have a1:(M (i+1)).1=tk2:=by rw[eMi]
   have a2:(M (i+1)).2=if b=true then (M i).2+1 else (M i).2:=by rw[eMi]
   have h9:inI .i64 ((i:Int)+1):=dc ab ab;have ao:inI .i64 ((M i).2+1):=dc ab ab
   have hz:i+1<=x.os.length:=ab
   have c6:(x.bD.length:Int)<=1000000000:=ab
   have bq:inI .i64 (x.bD.length:Int):=dc ab ab;unfold mH Rd.pv at a6;dsimp only at a6;rw[WS] at a6;have kih:=keep a6;clear hm hw eM a' aq m1 m2 m3 hs eMi bw a6
   repeat' first|(with_reducible first|refine xI (id:=8) 9 119 mixed ai ae Tz.func119 aj (show Tryz.f119.body=some (Tryz.f119.body.getD .skip) from rfl) rfl ?_|apply bH|apply cO|apply b7|apply bG|apply bQ|intro _)|simp[*,h8,c6,bq,h9]
   all_goals try first|omega|assumption
   refine xH ej rfl (gG aj) ae rfl ?_;refine kih _ ?_;clear kih
   cases b with
   |true=>
    simp only[cz] at a2
    repeat' first|(with_reducible first|apply bG|apply bQ|intro _)|simp[*,h9,ao]
    all_goals first
     |omega
     |assumption
     |(refine gu _ _ _ _ _ (i+1) _ ?_ ab ?_;(· exact hz);(refine eJ [] ?_ ?_<;>first|trivial|(simp[*,a1,a2,ej];done)))
   |false=>
    simp only[dz,cT] at a2
    repeat' first|(with_reducible first|apply b7|apply bG|apply bQ|intro _)|simp[*,h9,ao]
    all_goals first
     |omega
     |assumption
     |(refine gu _ _ _ _ _ (i+1) _ ?_ ab ?_;(· exact hz);(refine eJ [] ?_ ?_<;>first|trivial|(simp[*,a1,a2,ej];done)))
  .have ho:i=x.os.length:=ab
   subst ho;clear kk
   repeat' first|(with_reducible first|apply bH|apply da|apply bG|apply bQ|intro _)|simp[*,h8]
   all_goals first
    |omega
    |(refine dH () ?_ ?_;(· trivial);(refine cD ?_ ?_<;>first|trivial|(simp[*];done)))
 .clear e2 e3;obtain⟨hm,hw,eM,a',aq⟩:=kk;obtain⟨m1,m2,m3⟩:=hm x.os.length (bS _);have a9:(M x.os.length).1.length=x.bD.length:=m1.l1;have bi:=m1.rg;have bq:inI .i64 (x.bD.length:Int):=dc ab ab;clear hm hw eM m1 m2 m3;generalize M x.os.length=T at *;obtain⟨tk,cnt⟩:=T;dsimp only at a9 bi ⊢;have krg:=keep bi;have ebd:=keep a';clear bi aq a';have eb:bn tk x.os.length 0=List.replicate x.os.length (-1):=rfl
  repeat' first|(with_reducible first|apply bH|apply bG|refine cwM (r2) ?_|intro _)|simp[*,a9]
  clear r2;refine kX 8 (λ(k:Nat)=>k<=x.bD.length) [8,10,52,53] (λ(k:Nat)=>[(54,.w false false (.int .i64 k))]) [3] (λ(k:Nat)=>[(7,iA (bn tk x.os.length k))]) (λ(k:Nat)=>x.bD.length-k) (λ(_u:Unit)=>True) [8,10] (λ(_u:Unit)=>[]) [] (λ(_u:Unit)=>[(7,iA (bn tk x.os.length x.bD.length))]) (0) (cG _) (eJ [] (by simp[eb]) (by simp[eb])) (λk hk=>?_) (λ_u hf=>?_)
  .clear eb;by_cases h8:k<x.bD.length
   .have hr:nth tk k=-1\/(0<=nth tk k/\nth tk k<(x.os.length:Int)):=krg k h8
    have b':k<tk.length:=ab
    have eS:bn tk x.os.length (k+1)=if 0<=nth tk k then (bn tk x.os.length k).set (nth tk k).toNat k else bn tk x.os.length k:=rfl
    have h':=eO tk x.os.length k;have h9:inI .i64 ((k:Int)+1):=dc (by have:=ebd;omega) (by have:=ebd;unfold di at this;omega)
    have hz:k+1<=x.bD.length:=ab
    clear krg ebd
    rcases hr with hr|⟨bv,co⟩
    .rw[bP ab] at eS
     repeat' first|(with_reducible first|apply bH|apply cO|apply b7|apply bG|apply bQ|intro _)|simp[*,h8,b',hr,a9,h9]
     all_goals first
      |omega
      |assumption
      |(refine gu _ _ _ _ _ (k+1) _ ?_ ab ?_;(· exact hz);(refine cD ?_ ?_<;>first|trivial|(simp[*,eS];done)))
    .obtain⟨j,hj⟩:∃j:Nat,nth tk k=j:=⟨(nth tk k).toNat,ab⟩;rw[b8 bv,hj] at eS;simp only[jr] at eS
     have b9:j<x.os.length:=ab
     have c7:(0:Int)<=j:=ab
     clear bv co
     repeat' first|(with_reducible first|apply bH|apply cO|apply b7|apply bG|apply bQ|refine And.intro ?_ ?_|intro _)|simp[*,h8,b',hj,a9,h9,b9,h',c7]
     all_goals first
      |omega
      |assumption
      |(refine gu _ _ _ _ _ (k+1) _ ?_ ab ?_;(· exact hz);(refine cD ?_ ?_<;>first|trivial|(simp[*,eS];done)))
   .have ho:k=x.bD.length:=ab
    have b':¬k<tk.length:=ab
    subst ho
    repeat' first|(with_reducible first|apply bH|apply da|apply bG|apply bQ|intro _)|simp[*,h8,b',a9]
    all_goals first
     |omega
     |(refine dH () ?_ ?_;(· trivial);(refine cD ?_ ?_<;>first|trivial|(simp[*];done)))
  .clear eb;have h':=eO tk x.os.length x.bD.length
   repeat' first|(with_reducible first|apply bH|apply bT|apply bG|intro _)|simp[*,h']
end Go.Proofs.YthpkmilhiganjaaGreat
namespace Go.Proofs.YthpkmilhiganjaaGreat
open Go Go.Fi
noncomputable instance instLD23:bI:=LD
noncomputable instance instLD37:bI:=LD
def ze3(x:Rd)(i j:Nat):Int:=nth (nth (zey x x.os.length) i) j
noncomputable def ze4(x:Rd):Hs:=Lj (ze3 x) x.os.length (x.bD.length+x.os.length) x.os.length
noncomputable def kC(x:Rd):List Int:=bn (ze4 x).ow x.os.length x.bD.length
theorem Au(tk:List Int)(n:Nat):∀c,(∀k,k<c->nth tk k<(n:Int))->∀i,nth (bn tk n c) i=-1\/(0<=nth (bn tk n c) i/\nth (bn tk n c) i<(c:Int))\/n<=i
 |0,_,i=>by
  by_cases h:i<n
  .left;exact kO _ _ _ h
  omega
 |c+1,h,i=>by
  have ih:=Au tk n c (λk hk=>h k ab) i;have hc:=h c ab;unfold bn;by_cases h0:0<=nth tk c
  .rw[b8 h0,kF _ _ _ _ (by rw[eO];omega)];split
   .right;left;omega
   .rcases ih with h1|h1|h1
    .exact .inl h1
    .right;left;omega
    .exact .inr (.inr h1)
  grind
noncomputable instance instLDF9:bI:=LD
def cL(x:Rd):Nat->List Int
 |0=>[0]
 |k+1=>cL x k++nth x.wt k
def cM(x:Rd):List Int:=cL x x.os.length
def bB(x:Rd)(plan:List Int):Nat->Int
 |0=>0
 |k+1=>if nth plan k=-1 then bB x plan k else if bB x plan k<nth (nth x.wt k) (nth plan k).toNat then nth (nth x.wt k) (nth plan k).toNat else bB x plan k
def eF(x:Rd)(plan:List Int):Int:=bB x plan plan.length
def er(x:Rd)(most:Int):List Int->Int×List Int
 |[]=>(0,List.replicate x.os.length (-1))
 |w::l=>if (ba x w).2=most then (eF x (ba x w).1,(ba x w).1) else er x most l
def eW(x:Rd):List Int:=Lib.compact ((cM x).mergeSort λa b=>decide (a<=b))
def kG(x:Rd):Int×List Int:=er x (ba x 100000).2 (eW x)
theorem zdr(x:Rd)(w:Int):PlanIn x (ba x w).1:=by
 have h:=(k7 x w x.os.length (bS _)).1;refine⟨eO _ _ _,λk hk=>?_⟩
 have cx:k<x.os.length:=by rw[<-eO (bf x w x.os.length).1 x.os.length x.bD.length];exact hk
 rcases Au (bf x w x.os.length).1 x.os.length x.bD.length (λk hk=>by have:=h.rg k hk;dsimp only at this;rcases this with h|h<;>omega) k with h|h|h
 .exact .inl h
 .exact .inr h
 .omega
theorem Av(x:Rd)(ok:bW x):∀k,k<=x.os.length->(cL x k).length=1+k*x.bD.length
 |0,_=>by simp[cL]
 |k+1,h=>by
  rw[cL,nX,Av x ok k ab,ok.wr k ab,Nat.succ_mul];omega
theorem lA(x:Rd)(ok:bW x)(plan:List Int)(hp:PlanIn x plan):∀k,k<=plan.length->0<=bB x plan k/\bB x plan k<=100000
 |0,_=>by simp[bB]
 |k+1,h=>by
  have ih:=lA x ok plan hp k ab;unfold bB;split
  .exact ih
  .have:=hp.at_ k ab;have hl:=hp.len;have hw:=ok.wn k ab (nth plan k).toNat ab
   split<;>omega
theorem zds(x:Rd)(most:Int)(l:List Int)(k:Nat)(h:k<l.length):er x most (l.drop k)=if (ba x (nth l k)).2=most then (eF x (ba x (nth l k)).1,(ba x (nth l k)).1) else er x most (l.drop (k+1)):=by
 rw[fE l k h];rfl
theorem zdt(l:List Int):eo (iA l)=true:=uD false false _ (gp.2 λy hy=>by obtain⟨v,_,rfl⟩:=jH.1 hy;rfl)
theorem zdu(r:Tw.RND)(h:ceR r=0):bX Tz.prog 32 [Tw.dT r] (.tup [.int .i64 (kG (dg r)).1,.sl (dg r).os.length (ints (kG (dg r)).2),.int .i64 0]) false:=by
 have ok:=kB r h;have c1:=pW r;rw[xF r h] at c1;generalize hx:dg r=x at *;clear hx h
 have cm:=λw=>Ao x ok w
 have hin:=zdr x
 have aa:=λw=>lA x ok _ (hin w)
 have hWl:=Av x ok
 have hWs:∀k,cL x (k+1)=cL x k++nth x.wt k:=λ_=>rfl
 have hW0:cL x 0=[0]:=rfl;have hW1:(cM x).length=1+x.os.length*x.bD.length:=hWl _ (bS _);have cu:x.os.length*x.bD.length<=8*8:=JQ ok.lo ok.lc;have b4:((cM x).mergeSort λa b=>decide (a<=b)).length=(cM x).length:=J0 _;have bh:(eW x).length<=((cM x).mergeSort λa b=>decide (a<=b)).length:=nU _;have hV:Lib.compact ((cM x).mergeSort λa b=>decide (a<=b))=eW x:=rfl;have ag:=zds x (ba x 100000).2 (eW x);have hg:er x (ba x 100000).2 []=(0,List.replicate x.os.length (-1)):=rfl;have eL:kG x=er x (ba x 100000).2 (eW x):=rfl
 have cs:=λw=>PR x (ba x w).1
 have r1:=ql (-1) x.os.length (by have:=ok.lo;omega);generalize hR:kG x=R at *;have kR:di (er x (ba x 100000).2 ((eW x).drop 0)=R):=eL.symm;have hWW:cM x=cL x x.os.length:=rfl
 have hW65:0<(cM x).length/\(cM x).length<=65:=ab
 clear hW1 cu;generalize eW x=V at *;generalize cM x=W at *;generalize hS:(W.mergeSort λa b=>decide (a<=b))=S at *;obtain⟨R1,R2⟩:=R;dsimp only;have lo:=ok.lo;have lc:=ok.lc;have lw:=ok.lw;have wr:=ok.wr;have kk:=keep (And.intro cm (And.intro hin (And.intro aa (And.intro ag (And.intro hg (And.intro cs ok))))));have kso:=keep (And.intro hS (And.intro hV (And.intro bh (And.intro b4 hW65))));rw[<-lw] at hWl wr hWW
 have lo2:x.wt.length<=8:=ab
 have klw:=keep lw;have kW:=keep (And.intro hWl (And.intro hWs wr));have kWW:=keep hWW;clear cm hin aa ag hg cs ok eL hWl hWs wr hWW hR lw hS hV bh b4 hW65;unfold Tw.dT at *;generalize r.jY=q1 at *;generalize r.osP=q2 at *;generalize r.lW=q3 at *;generalize r.zsP=q4 at *;unfold Rd.pv at c1;refine xD Tz.func32 aj rfl (gG aj) ?_;simp only[Tryz.results32,Tryz.ntmps32];refine fM (fJ ?_)
 repeat' first|(with_reducible first|apply bG|intro _)|simp[*]
 refine fM (fJ ?_)
 repeat' first|(with_reducible first|apply bG|refine And.intro ?_ ?_|intro _)|simp[*]|(refine bN (c1) ?_ ?_;· simp[*];done)
 refine fM (fM (fJ ?_))
 repeat' first|(with_reducible first|apply bG|intro _)|simp[*]
 refine qK (o:=false) (f:=false) (b:=false) rfl ?_;simp only[cond_false];refine fJ ?_
 repeat' first|(with_reducible first|apply b7|intro _)|simp[*]
 refine fM (fJ ?_)
 repeat' first|(with_reducible first|apply bG|intro _)|simp[*]
 refine fM (fM (fJ ?_))
 repeat' first|(with_reducible first|apply bG|intro _)|simp[*]
 refine fJ ?_;clear c1;generalize cL x=WK at *
 have e1:(WK 0).length=1:=by rw[hW0];rfl
 have e2:iA (WK 0)=[.w false false (.int .i64 0)]:=by rw[hW0];rfl
 refine kX 2 (λ(k:Nat)=>k<=x.wt.length) [5,32,33] (λ(k:Nat)=>[(7,.msl 1 (WK k).length 1 0 (WK k).length),(34,.w false false (.int .i64 k))]) [] (λ(k:Nat)=>[(1,iA (WK k))]) (λ(k:Nat)=>x.wt.length-k) (λ(_u:Unit)=>True) [5] (λ(_u:Unit)=>[(7,.msl 1 (WK x.wt.length).length 1 0 (WK x.wt.length).length)]) [] (λ(_u:Unit)=>[(1,iA (WK x.wt.length))]) (0) (cG _) (eJ [] (by simp[e1,e2]) (by simp[e1,e2])) (λk hk=>?_) (λ_u hf=>?_)
 .clear e1 e2 kso kWW kk kR hW0 r1;obtain⟨hWl,hWs,wr⟩:=kW;by_cases h8:k<x.wt.length
  .have hs:=hWs k;have a9:=hWl k ab;have bd:=wr k h8;have bb:k*x.bD.length<=8*8:=JQ ab lc
   have c5:(WK k).length<=100:=ab
   have e3:iA (WK (k+1))=iA (WK k)++iA (nth x.wt k):=by rw[hs,<-kQ]
   have e4:(WK (k+1)).length=(WK k).length+(nth x.wt k).length:=by rw[hs,nX]
   have e5:∀l:List Int,(ints l).map (AV.w false false)=iA l:=λ_=>rfl
   have h9:inI .i64 ((k:Int)+1):=dc ab ab
   have cw:(WK k).length+(nth x.wt k).length<=1000000000:=ab
   have hz:k+1<=x.wt.length:=ab
   clear hWl hWs wr hs a9 bd bb c5;have e6:=zdt (nth x.wt k)
   repeat' first|(with_reducible first|apply bH|apply cO|apply b7|apply bG|apply bQ|intro _)|simp[*,h8,e5,h9,e6]
   all_goals first
    |omega
    |assumption
    |(refine nx (k+1) ?_ ?_;(· exact hz);(refine eJ [] ?_ ?_<;>first|trivial|(simp[*,e3,e4];done)))
  .have ho:k=x.wt.length:=ab
   subst ho;clear hWl hWs wr
   repeat' first|(with_reducible first|apply bH|apply da|apply bG|apply bQ|intro _)|simp[*,h8]
   all_goals first
    |omega
    |(refine dH () ?_ ?_;(· trivial);(refine cD ?_ ?_<;>first|trivial|(simp[*];done)))
 .clear e1 e2 hW0;have hWW:W=WK x.wt.length:=kWW;rw[<-hWW];clear hWW kW kWW;obtain⟨hS,hV,bh,b4,hW0,hW65⟩:=kso
  have hV65:V.length<=65:=ab
  have e1:=PF (zes) (h:=[(1,iC W)]) (n:=2) (id:=1) (l:=W) rfl hW0 ab;have e2:=PG (zeu) (h:=[(1,iC S)]) (n:=2) (id:=1) (l:=S) rfl ab ab;rw[hS] at e1;rw[hV] at e2;refine fM (fJ ?_)
  repeat' first|(with_reducible first|refine HF (id:=10) [_] _ [] rfl rfl ?_|intro _)|simp[*]
  refine HD (by simp[dOk]) rfl e1 ?_;rw[<-b4] at hW0 hW65 ⊢;clear b4 hS hV e1;have c2:=kk.1 100000;unfold Rd.pv at c2;generalize ay:(ba x 100000).2=most at *
  repeat' first|(with_reducible first|intro _)|simp[*]
  refine fM (fJ ?_)
  repeat' first|(with_reducible first|apply bG|refine And.intro ?_ ?_|intro _)|simp[*]|(refine bN (c2) ?_ ?_;· simp[*];done)
  clear c2;refine fM (fM (fJ ?_))
  repeat' first|(with_reducible first|refine HF (id:=12) [_] _ [_,_] rfl rfl ?_|intro _)|simp[*]
  refine HD (by simp[dOk]) rfl e2 ?_;clear e2
  repeat' first|(with_reducible first|intro _)|simp[*]
  refine r6 (HN (λk:Nat=>k<=V.length/\di (er x most (V.drop k)=(R1,R2))) (λk=>⟨[(52,.w false false (.int .i64 k)),(51,.w false false (.int .i64 V.length)),(50,.w false false (.sl V.length (ints V))),(5,.w false false x.pv),(11,.w false false (.int .i64 most))],[],0,84⟩) (λk=>V.length-k) 0 ?_ ?_ (λk hk=>?_))
  .exact⟨cG _,kR⟩
  .clear kk r1;unfold Rd.pv
   have e3:∀D:List Int,iC D=iA D:=λ_=>rfl
   have e4:sd (ints (V++List.replicate (S.length-V.length) 0)) 0 V.length=ints V:=by simp[vX,ints]
   refine eJ [1] ?_ ?_<;>first|trivial|(simp[e3,e4];done)|(simp[e3,e4];exact⟨ab,λh=>by rw[h];simp⟩)
  obtain⟨h1,h2⟩:=hk;refine fM (fJ ?_);by_cases h8:k<V.length
  .have hltI:(k:Int)<(V.length:Int):=ab
   have h9:inI .i64 ((k:Int)+1):=dc ab ab
   repeat' first|(with_reducible first|apply bG|intro _)|simp[*,hltI]
   refine fM (qK (o:=false) (f:=false) (b:=true) rfl ?_);simp only[cond_true];refine fJ ?_
   repeat' first|(with_reducible first|apply b7|intro _)|simp[*]
   refine fM (r6 (fM (fJ ?_)))
   repeat' first|(with_reducible first|apply bG|intro _)|simp[*,h8]
   refine fM (fJ ?_);obtain⟨cm,hin,aa,ag,hg,cs,ok⟩:=kk;have c3:=cm (nth V k);have hi:=hin (nth V k);have hb:=aa (nth V k);have a4:=ag k h8;have c4:=cs (nth V k);have kk:=keep (And.intro cm (And.intro hin (And.intro aa (And.intro ag (And.intro hg (And.intro cs ok))))));clear cm hin aa ag hg cs ok;unfold eF at a4;generalize hLK:bB x (ba x (nth V k)).1=LK at *;generalize ba x (nth V k)=mm at *;obtain⟨plan,cnt⟩:=mm;dsimp only at c3 hi hb a4 c4 hLK;have h':=hi.len;have a5:=hi.at_;rw[<-h'] at c3;unfold Rd.pv at c3 c4 ⊢;have kx:=keep (And.intro hb (And.intro a5 (And.intro h' hLK)));clear hb a5 h' hi hLK
   repeat' first|(with_reducible first|apply bG|refine And.intro ?_ ?_|intro _)|simp[*]|(refine bN (c3) ?_ ?_;· simp[*];done)
   clear c3;refine fM (fJ ?_);by_cases b6:cnt=most
   .rw[b8 b6] at a4;have hh:(LK plan.length,plan)=(R1,R2):=a4.symm.trans h2;obtain⟨rfl,rfl⟩:=dq hh;clear h2 a4 hh
    repeat' first|(with_reducible first|apply bG|intro _)|simp[*,b6]
    refine qK (o:=false) (f:=false) (b:=true) rfl ?_;simp only[cond_true];refine fM (fJ ?_)
    repeat' first|(with_reducible first|apply bG|intro _)|simp[*]
    refine fM (fM (fJ ?_))
    repeat' first|(with_reducible first|apply bG|refine And.intro ?_ ?_|intro _)|simp[*]|(refine bN (c4) ?_ ?_;· simp[*];done)
    clear c4;refine r6 (Pd (st':=⟨[(67,.w false false (.fn 122 [.ip [.sl plan.length (ints plan)] 0,.ip [.ip [.sl x.bD.length (dG x.bD),.sl x.os.length (dE x.os),.sl x.wt.length (dU x.wt),.sl x.zs.length (dI x.zs),.sl x.fit.length (qb x.fit)] 0] 0])),(14,.w false false (.sl plan.length (ints plan))),(16,.ptr 0 1 0)],[(0,[.w false false (.int .i64 0)])],1,84⟩) ?_ (BQ (gf:=122) (bY:=[.w false false (.ip [.sl plan.length (ints plan)] 0),.w false false (.ip [.ip [.sl x.bD.length (dG x.bD),.sl x.os.length (dE x.os),.sl x.wt.length (dU x.wt),.sl x.zs.length (dI x.zs),.sl x.fit.length (qb x.fit)] 0] 0)]) rfl Tz.func122 aj rfl (gG aj) (λlp=>?_)))
    .clear kk kx r1
     refine eJ [] ?_ ?_<;>first|trivial|(simp;done)
    simp only[Tryz.results122,Tryz.ntmps122];simp
    repeat' first|(with_reducible first|apply bH|apply bG|intro _)|simp[*]
    have e0:LK 0=0:=by rw[<-kx.2.2.2];rfl
    have eS:∀k,LK (k+1)=if nth plan k=-1 then LK k else if LK k<nth (nth x.wt k) (nth plan k).toNat then nth (nth x.wt k) (nth plan k).toNat else LK k:=λk=>by rw[<-kx.2.2.2];rfl
    obtain⟨hb,a5,h',_⟩:=kx;have ok:=kk.2.2.2.2.2.2;have wn:=ok.wn;have wr:=ok.wr;have kz:=keep (And.intro eS (And.intro hb (And.intro a5 (And.intro h' (And.intro wn wr)))));clear eS hb a5 h' wn wr ok kk ay r1;refine kX 1 (λ(j:Nat)=>j<=plan.length) [0,2,6,7] (λ(j:Nat)=>[(8,.w false false (.int .i64 j))]) [] (λ(j:Nat)=>[(0,[.w false false (.int .i64 (LK j))])]) (λ(j:Nat)=>plan.length-j) (λ(_u:Unit)=>True) [] (λ(_u:Unit)=>[]) [] (λ(_u:Unit)=>[(0,[.w false false (.int .i64 (LK plan.length))])]) (0) (cG _) (eJ [] (by simp[e0]) (by simp[e0])) (λj hk=>?_) (λ_u hf=>?_)
    .clear e0;by_cases aw:j<plan.length
     .obtain⟨eS,hb,a5,h',wn,wr⟩:=kz
      have b9:j<x.os.length:=ab
      have br:j<x.wt.length:=by have:x.wt.length=x.os.length:=klw;omega
      have h4:=eS j;have hn:=a5 j aw;have hr:=wr j b9;have hw:=wn j b9;have ao:inI .i64 ((j:Int)+1):=dc ab ab
      have hz:j+1<=plan.length:=ab
      clear eS hb a5 h' wn wr h9 hltI;generalize hq:nth plan j=q at *
      rcases hn with hn|hn
      .rw[b8 hn] at h4;subst hn;clear hr hw
       repeat' first|(with_reducible first|refine xE (id:=3) 16 ?_ ?_|apply bH|apply cO|apply b7|apply bG|apply bQ|intro _)|simp[*,aw,hq,ao]
       all_goals first
        |omega
        |assumption
        |(refine nx (j+1) ?_ ?_;(· exact hz);(refine eJ [] ?_ ?_<;>first|trivial|(simp[*,h4];done)))
      .have bg:¬q=-1:=ab
       obtain⟨p,rfl⟩:∃p:Nat,q=p:=⟨q.toNat,ab⟩;rw[bP bg] at h4
       have hp:p<(nth x.wt j).length:=ab
       simp only[jr] at h4;generalize cq:nth (nth x.wt j) p=Q at *;clear hr hw hn
       repeat' first|(with_reducible first|refine xE (id:=3) 16 ?_ ?_|apply bH|apply cO|apply b7|apply bG|apply bQ|intro _)|simp[*,aw,br,hq,ao,bg,hp]
       all_goals try first|omega|assumption
       refine BW rfl ae ?_
       repeat' first|(with_reducible first|apply rZ|apply bG|intro _)|simp[*,cq]
       all_goals try first|omega|assumption
       refine HB [(0,[.w false false (.int .i64 (LK (j+1)))])] 1 84 ?_ ?_
       .refine eJ [] ?_ ?_<;>first|trivial|(simp[h4];done)
       repeat' first|(with_reducible first|apply b7|apply bG|apply bQ|intro _)|simp[*,aw,br,hq,ao,bg,hp]
       all_goals first
        |omega
        |assumption
        |(refine nx (j+1) ?_ ?_;(· exact hz);(refine eJ [] ?_ ?_<;>first|trivial|(simp[*];done)))
     .have c8:j=plan.length:=ab
      subst c8;clear kz
      repeat' first|(with_reducible first|apply bH|apply da|apply bG|apply bQ|intro _)|simp[*,aw]
      all_goals first
       |omega
       |(refine dH () ?_ ?_;(· trivial);(refine cD ?_ ?_<;>first|trivial|(simp[*];done)))
    .have h':plan.length=x.os.length:=kz.2.2.2.1;clear kz
     repeat' first|(with_reducible first|intro _)|simp[*]
     simp[gC];refine fM (fJ ?_)
     repeat' first|(with_reducible first|apply bG|intro _)|simp[*]
     refine fJ ?_
     repeat' first|(with_reducible first|apply bT|intro _)|simp[*,h']
   .rw[bP b6] at a4;have hj:=keep (a4.symm.trans h2);clear h2 a4 c4 kx
    repeat' first|(with_reducible first|apply bG|intro _)|simp[*,b6]
    refine qK (o:=false) (f:=false) (b:=false) rfl ?_;simp only[cond_false];refine fJ ?_
    repeat' first|(with_reducible first|apply b7|intro _)|simp[*,h9]
    refine fJ ?_
    repeat' first|(with_reducible first|apply bG|intro _)|simp[*,h9]
    refine gu _ _ _ _ _ (k+1) _ ⟨h8,hj⟩ ab ?_
    refine eJ [] ?_ ?_<;>first|trivial|(simp;done)
  .have hltI:¬(k:Int)<(V.length:Int):=ab
   have ho:k=V.length:=ab
   subst ho
   have hh:er x most []=(R1,R2):=by rw[<-(show _=(R1,R2) from h2),jb]
   rw[kk.2.2.2.2.1] at hh;obtain⟨rfl,rfl⟩:=dq hh;clear h2 hh kk
   repeat' first|(with_reducible first|apply bG|intro _)|simp[*,hltI]
   refine fM (qK (o:=false) (f:=false) (b:=false) rfl ?_);simp only[cond_false];refine fJ ?_
   repeat' first|(with_reducible first|apply da|intro _)|simp[*]
   refine fJ ?_;unfold Rd.pv
   repeat' first|(with_reducible first|apply bH|apply bT|apply bG|refine cwM (r1) ?_|intro _)|simp[*]
structure eG(x:Rd)(plan:List Int):Prop extends PlanIn x plan where
 fit:∀k,k<plan.length->nth plan k≠-1->nth (nth x.fit k) (nth plan k).toNat=true
 once:∀k,k<plan.length->nth plan k≠-1->∀j,j<k->nth plan j≠nth plan k
theorem Bd(tk:List Int)(n:Nat):∀c,(∀k,k<c->nth tk k<(n:Int))->(∀j k,j<c->k<c->0<=nth tk j->nth tk j=nth tk k->j=k)->∀i,i<n->(∃k,k<c/\nth tk k=(i:Int)/\nth (bn tk n c) i=(k:Int))\/((∀k,k<c->nth tk k≠(i:Int))/\nth (bn tk n c) i=-1)
 |0,_,_,i,hi=>.inr ⟨λk hk=>absurd hk ab,kO _ _ _ hi⟩
 |c+1,h1,h2,i,hi=>by
  have ih:=Bd tk n c (λk hk=>h1 k ab) (λj k hj hk=>h2 j k ab ab) i hi;have hc:=h1 c ab;unfold bn;by_cases h0:0<=nth tk c
  .rw[b8 h0,kF _ _ _ _ (by rw[eO];omega)];by_cases e:(nth tk c).toNat=i
   .rw[b8 e];exact .inl ⟨c,ab,ab,rfl⟩
   .rw[bP e]
    rcases ih with ⟨k,hk,e1,e2⟩|⟨e1,e2⟩
    .exact .inl ⟨k,ab,e1,e2⟩
    .refine .inr ⟨λk hk=>?_,e2⟩;by_cases bb:k=c
     .subst bb;omega
     .exact e1 k ab
  grind
structure zgc(x:Rd)(u v:List Int):Prop where
 u0:∀i,i<x.os.length->0<=nth u i/\nth u i<=1000000000000
 v0:∀k,k<x.bD.length->0<=nth v k/\nth v k<=1000000000000
 pe:∀i,i<x.os.length->nth u i<=fV (prio x i)
 wt:∀i k,i<x.os.length->k<x.bD.length->nth (nth x.fit i) k=true->nth u i<=nth (nth x.wt i) k+nth v k
 no:∀i,i<x.os.length->nth (kC x) i=-1->nth u i=fV (prio x i)
 at_:∀i,i<x.os.length->nth (kC x) i≠-1->∃k,k<x.bD.length/\nth (kC x) i=(k:Int)/\nth (nth x.fit i) k=true/\nth u i=nth (nth x.wt i) k+nth v k
 one:∀i j,i<x.os.length->j<x.os.length->nth (kC x) i≠-1->nth (kC x) i=nth (kC x) j->i=j
 fr:∀k,k<x.bD.length->(∀i,i<x.os.length->nth (kC x) i≠(k:Int))->nth v k=0
theorem Bm{α:Type}[Inhabited α]{E:Nat->α->Int}:∀{l:List α}{k:Nat},(∀j,j<l.length->E (k+j) (nth l j)=0)->gh E l k=(0,0)
 |[],_,_=>rfl
 |y::r,k,h=>by
  unfold gh;have h0:E k y=0:=h 0 ae;rw[b8 h0]
  exact Bm λj hj=>by
   have:=h (j+1) ak;rw[show k+(j+1)=k+1+j by omega] at this;exact this
theorem zdv(x:Rd)(plan:List Int)(h:eG x plan):qd x plan=(0,0):=by
 unfold qd;rw[bP (by have:=h.len;omega)]
 refine Bm λk hk=>?_
 rw[eI];unfold ym;by_cases hn:nth plan k=-1
 .rw[b8 hn]
 .rw[bP hn];have hr:=(h.at_ k hk).resolve_left hn;have hw:dj (nth plan k) 0 ((x.bD.length:Int)-1)=true:=fh.2 ⟨hr.1,ab⟩;rw[hw,show dw true 6=0 from rfl,bP af,h.fit k hk hn]
  have ha:((plan.take k).any λy=>decide (nth plan k=y))=false:=by
   rw[J1];intro y hy;rw[List.mem_take_iff_getElem] at hy;obtain⟨j,hj,e⟩:=hy;have:=h.once k hk hn j ab;simp only[decide_eq_true_eq];intro e2;refine this ?_;rw[e2,<-e];simp[nth,dZ,dP (show j<plan.length by omega)]
  rw[ha];rfl
end Go.Proofs.YthpkmilhiganjaaGreat
namespace Go.Proofs.YthpkmilhiganjaaGreat
open Go Go.Fi
variable[bI]
def pI(M:List (Int×Int)):List (PV×PV):=M.map λp=>(.int .i64 p.1,.int .i64 p.2)
def mI(M:List (Int×Int)):List AV:=[gZ (pI M)]
@[simp]theorem zfr(M:List (Int×Int)):(mI M).length=1:=rfl
@[simp]theorem zgd(M:List (Int×Int))(n:Nat):AV.lt.ltL n (mI M)=true:=rfl
theorem BC(l:List (List Int))(r:List Int):bt (l++[r])=bt l++[.w true false (.sl r.length (ints r))]:=by simp[bt]
end Go.Proofs.YthpkmilhiganjaaGreat
namespace Go.Proofs.YthpkmilhiganjaaGreat
open Go Go.Fi
noncomputable instance zgg:bI:=LD
noncomputable instance zgh:bI:=LD
structure Rt(bD:List Car)(os:List Ord)(wt:List (List Int))(zs:List Par):Prop where
 lc:bD.length<=8
 lo:os.length<=8
 lw:wt.length=os.length
 lz:zs.length<=64
 cn:∀c∈bD,gD c.1=true/\dj c.2.1 1 8=true
 cd:bD.Pairwise λa b=>decide (a.1=b.1)=false
 on:∀o∈os,gD o.1=true/\dj o.2.1 1 8=true/\dj o.2.2.2 0 6=true
 od:os.Pairwise λa b=>decide (a.1=b.1)=false
 wr:∀w∈wt,w.length=bD.length/\∀v∈w,dj v 0 100000=true
 zr:∀p∈zs,dj p.1 0 ((os.length:Int)-1)=true/\dj p.2 0 ((bD.length:Int)-1)=true
 zd:zs.Pairwise λa b=>(decide (b.1=a.1)&&decide (b.2=a.2))=false
end Go.Proofs.YthpkmilhiganjaaGreat
