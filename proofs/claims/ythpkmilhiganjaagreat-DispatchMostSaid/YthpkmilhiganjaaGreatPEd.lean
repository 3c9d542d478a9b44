/- Lemmas. -/
import Derived.Test.YthpkmilhiganjaaGreatPEc
import Derived.Test.YthpkmilhiganjaaGreatPDb
import Derived.Test.YthpkmilhiganjaaGreatPLe
import Derived.Test.YthpkmilhiganjaaGreatPLg
import Derived.Test.YthpkmilhiganjaaGreatPEb
set_option linter.all false
set_option maxHeartbeats 32000000
set_option maxRecDepth 100000
namespace Go.Proofs.YthpkmilhiganjaaGreat
open Go Go.Fi
section
variable[bI]
theorem zd6(l:List Int):eo (iA l)=true:=uD false false _ (gp.2 λy hy=>by obtain⟨v,_,rfl⟩:=jH.1 hy;rfl)
theorem zd7(l:List Int)(h:l.length<100000):oG Tz.prog 24 [.sl l.length (ints l)] [iA l] (.msl 0 l.length 1 0 l.length):=by
 have e:(ints l).map (AV.w false false)=iA l:=rfl;have g:=zd6 l;refine xG 0 [] Tz.func24 aj rfl (gG aj) ae (by intro c hc;simp only[oS] at hc;subst hc;exact Ak l) ?_;simp only[Tryz.results24,Tryz.ntmps24]
 repeat' first|(with_reducible first|apply bH|apply bT|apply bG|refine And.intro ?_ ?_|intro _)|simp[*,e,g]
 omega
end
noncomputable instance zgp:bI:=LD
end Go.Proofs.YthpkmilhiganjaaGreat
namespace Go.Proofs.YthpkmilhiganjaaGreat
open Go Go.Fi
variable[bI]
theorem C5(l:List Int)(hl:l.length<100000)(v:Int):bX Tz.prog 89 [.sl l.length (ints l),.int .i64 v] (.bool (l.any λy=>decide (v=y))) true:=by
 generalize hR:(l.any λy=>decide (v=y))=R;have kR:di ((l.drop 0).any (λy=>decide (v=y))=R):=keep hR;clear hR;refine rcK Tz.func89 ?_;simp only[Tryz.results89,Tryz.ntmps89]
 repeat' first|(with_reducible first|apply bH|apply bG|intro _)|simp[*]
 refine fp (λ(k:Nat)=>k<=l.length/\(l.drop k).any (λy=>decide (v=y))=R) [0,1] (λ(k:Nat)=>[(5,.w false false (.int .i64 k))]) [] (λ(k:Nat)=>[]) (λ(k:Nat)=>l.length-k) (λ(_u:Unit)=>R=false) [] (λ(_u:Unit)=>[]) [] (λ(_u:Unit)=>[]) (0) ⟨cG _,kR⟩ ae ae (λk hk=>?_) (λ_u hf=>?_)
 .obtain⟨hk,hj⟩:=hk;by_cases h5:k<l.length
  .rw[fE l k h5,yP] at hj;by_cases h1:nth l k=v
   .have hR:R=true:=by rw[<-hj];simp[h1]
    subst hR;clear hj kR
    repeat' first|(with_reducible first|apply bH|apply cO|apply b7|apply bT|apply bG|apply bQ|intro _)|simp[*,h5,h1]
    all_goals first|omega|exact dc ab ab
   .have aq:¬v=nth l k:=λe=>h1 e.symm
    have kj:di ((l.drop (k+1)).any (λy=>decide (v=y))=R):=keep (by rw[<-hj];simp[aq]);clear hj kR aq
    repeat' first|(with_reducible first|apply bH|apply cO|apply b7|apply bG|apply bQ|refine And.intro ?_ ?_|intro _)|simp[*,h5,h1]
    all_goals first
     |omega
     |exact dc ab ab
     |(refine nx (k+1) ?_ ?_;(· exact⟨ab,kj⟩);(refine cD ?_ ?_<;>first|trivial|(simp[*];done)))
  .have h9:k=l.length:=ab
   subst h9;have kj:di (R=false):=keep (by rw[<-hj];simp);clear hj kR
   repeat' first|(with_reducible first|apply bH|apply da|apply bG|apply bQ|intro _)|simp[*]
   all_goals first
    |(refine dH () ?_ ?_;(· exact kj);(refine cD ?_ ?_<;>first|trivial|(simp[*];done)))
 .subst hf
  repeat' first|(with_reducible first|apply bH|apply bT|apply bG|intro _)|simp[*]
theorem zd8(r:Tw.RND)(ok:bW (dg r))(plan:List Int)(hp:plan.length<100000):bX Tz.prog 67 [Tw.dT r,.sl plan.length (ints plan)] (.tup [.int .i64 (qd (dg r) plan).1,.int .i64 (qd (dg r) plan).2]) true:=by
 have lo:r.os.length<=8:=ok.lo;have lc:r.bD.length<=8:=ok.lc
 have hz:r.zs.length<100000:=by have:r.zs.length<=64:=ok.lz;omega
 have c1:=λn=>BP r.bD r.os r.wt r.zs ab n
 have c2:=λi k hi hk=>CK r.bD r.os r.wt r.zs i k hi hk hz
 have eR:∀i k,i<r.os.length->k<r.bD.length->nth (nth (dg r).fit i) k=cN r.bD r.os r.zs i k:=λi k hi hk=>tE r i k hi hk
 change bX Tz.prog 67 [.agg [.sl r.bD.length (dG r.bD),.sl r.os.length (dE r.os),.sl r.wt.length (dU r.wt),.sl r.zs.length (dI r.zs)],.sl plan.length (ints plan)] _ true
 generalize hR:qd (dg r) plan=R;obtain⟨R1,R2⟩:=R;unfold qd at hR;have e1:(dg r).os.length=r.os.length:=rfl
 have eP:∀k n,ym (dg r) plan k n=if n=-1 then 0 else if dw (dj n 0 ((r.bD.length:Int)-1)) 6≠0 then dw (dj n 0 ((r.bD.length:Int)-1)) 6 else
  fD [dw (nth (nth (dg r).fit k) n.toNat) 13,dw (!((plan.take k).any λy=>decide (n=y))) 26]:=λk n=>rfl
 rw[e1] at hR;clear e1 ok;generalize hPE:ym (dg r) plan=PE at hR eP;clear hPE;generalize (dg r).fit=fit at eR eP;have kR:=keep hR;have kk:=keep (And.intro c1 (And.intro c2 (And.intro eR (And.intro eP (And.intro lo lc)))));clear hR c1 c2 eR eP lo lc hz;generalize r.bD=bD at *;generalize r.os=os at *;generalize r.wt=wt at *;generalize r.zs=zs at *;refine rcK Tz.func67 ?_;simp only[Tryz.results67,Tryz.ntmps67]
 repeat' first|(with_reducible first|apply bH|apply b7|apply bT|apply bG|apply bQ|refine And.intro ?_ ?_ |  refine oA ?_ ?_|intro _)|simp[*]
 rotate_right
 .rename_i b1
  have aa:(plan.length:Int)=os.length:=by simpa using b1
  have kT:di (gh PE (plan.drop 0) 0=(R1,R2)):=by
   rw[bP (λh=>h aa)] at kR;exact kR
  have kb:=keep aa;clear kR b1 aa;refine fp (λ(k:Nat)=>k<=plan.length/\gh PE (plan.drop k) k=(R1,R2)) [1,2] (λ(k:Nat)=>[(6,.w false false (.int .i64 k))]) [0] (λ(k:Nat)=>[]) (λ(k:Nat)=>plan.length-k) (λ(_u:Unit)=>R1=0/\R2=0) [] (λ(_u:Unit)=>[]) [0] (λ(_u:Unit)=>[]) (0) ⟨cG _,kT⟩ ae ae (λk hk=>?_) (λ_u hf=>?_)
  .obtain⟨hk,hj⟩:=hk;clear kT;by_cases h5:k<plan.length
   .obtain⟨c1,c2,eR,eP,lo,lc⟩:=kk
    have h':k<os.length:=by have h:(plan.length:Int)=os.length:=kb;omega
    have h8:inI .i64 ((k:Int)+1):=dc ab ab
    have hz:k+1<=plan.length:=ab
    rw[fE plan k h5,gh] at hj;have c3:=C5 (plan.take k) (by rw[lq];omega) (nth plan k);rw[yN hk] at c3;generalize hn:nth plan k=n at hj c3;have c1:=c1 n;have e:=eP k n;clear eP lo lc kb;by_cases h1:n=-1
    .rw[b8 h1] at e;rw[b8 e] at hj;have kj:=keep hj;subst h1;clear hj e c1 c2 c3 eR
     repeat' first|(with_reducible first|apply bH|apply cO|apply b7|apply da|apply bG|apply bQ|intro _)|simp[*,h5,h',hn,h8]
     all_goals first
      |omega
      |(refine nx (k+1) ?_ ?_;(· exact⟨hz,kj⟩);(refine cD ?_ ?_<;>first|trivial|(simp[*];done)))
    .rw[bP h1] at e
     cases hw:dj n 0 ((bD.length:Int)-1) with
     |false=>
      rw[hw] at c1 e;have e:PE k n=6:=e;rw[e] at hj;have kj:di (((k:Int),(6:Int))=(R1,R2)):=hj;clear hj e hw c2 c3 eR
      repeat' first|(with_reducible first|apply bH|apply cO|apply b7|apply bT|apply bG|refine df (id:=7) 7 mixed ai ?_|apply bQ|refine And.intro ?_ ?_|intro _)|simp[*,h5,h',hn,h1,h8]|(refine bN (c1) ?_ ?_;· simp[*];done)
      all_goals first
       |omega
       |exact (dq kj).1
       |exact (dq kj).2
     |true=>
      rw[hw] at c1 e;have hb:=fh.1 hw;obtain⟨m,rfl⟩:∃m:Nat,n=m:=⟨n.toNat,ab⟩
      have hm:m<bD.length:=ab
      have c2:=c2 k m h' hm;rw[jr,eR k m h' hm] at e;have e:PE k m=fD [dw (cN bD os zs k m) 13,dw (!((plan.take k).any λy=>decide ((m:Int)=y))) 26]:=e;have ao:¬(m:Int)=-1:=h1;clear hw hb h1 eR;generalize cN bD os zs k m=fb at *;generalize ((plan.take k).any λy=>decide ((m:Int)=y))=hb at *
      cases fb with
      |false=>
       have e:PE k m=13:=e;rw[e] at hj;have kj:di (((k:Int),(13:Int))=(R1,R2)):=hj;clear hj e c3
       repeat' first|(with_reducible first|apply bH|apply cO|apply b7|apply bT|apply bG|refine df (id:=7) 7 mixed ai ?_|refine df (id:=9) 8 mixed ai ?_|apply bQ|refine And.intro ?_ ?_|intro _)|simp[*,h5,h',hn,ao,h8]|(refine bN (c1) ?_ ?_;· simp[*];done)|(refine bN (c2) ?_ ?_;· simp[*];done)
       all_goals first
        |omega
        |exact (dq kj).1
        |exact (dq kj).2
      |true=>
       cases hb with
       |true=>
        have e:PE k m=26:=e;rw[e] at hj;have kj:di (((k:Int),(26:Int))=(R1,R2)):=hj;clear hj e
        repeat' first|(with_reducible first|apply bH|apply cO|apply b7|apply bT|apply bG|refine df (id:=7) 7 mixed ai ?_|refine df (id:=9) 8 mixed ai ?_|refine df (id:=11) 8 mixed ai ?_|apply bQ|refine And.intro ?_ ?_|intro _)|simp[*,h5,h',hn,ao,h8]|(refine bN (c1) ?_ ?_;· simp[*];done)|(refine bN (c2) ?_ ?_;· simp[*];done)|(refine bN (c3) ?_ ?_;· simp[*];done)
        all_goals first
         |omega
         |exact (dq kj).1
         |exact (dq kj).2
       |false=>
        have e:PE k m=0:=e;rw[b8 e] at hj;have kj:=keep hj;clear hj e
        repeat' first|(with_reducible first|apply bH|apply cO|apply b7|apply bG|refine df (id:=7) 7 mixed ai ?_|refine df (id:=9) 8 mixed ai ?_|refine df (id:=11) 8 mixed ai ?_|apply bQ|refine And.intro ?_ ?_|intro _)|simp[*,h5,h',hn,ao,h8]|(refine bN (c1) ?_ ?_;· simp[*];done)|(refine bN (c2) ?_ ?_;· simp[*];done)|(refine bN (c3) ?_ ?_;· simp[*];done)
        all_goals first
         |omega
         |(refine nx (k+1) ?_ ?_;(· exact⟨hz,kj⟩);(refine cD ?_ ?_<;>first|trivial|(simp[*];done)))
   .have h9:k=plan.length:=ab
    subst h9;rw[jb] at hj;have kj:di (((0:Int),(0:Int))=(R1,R2)):=hj;clear hj kk kb
    repeat' first|(with_reducible first|apply bH|apply da|apply bG|apply bQ|intro _)|simp[*]
    all_goals first
     |omega
     |(refine dH () ?_ ?_;(· exact⟨(dq kj).1.symm,(dq kj).2.symm⟩);(refine cD ?_ ?_<;>first|trivial|(simp[*];done)))
  .obtain⟨rfl,rfl⟩:=hf;clear kk kb kT
   repeat' first|(with_reducible first|apply bH|apply bT|apply bG|intro _)|simp[*]
 all_goals first
  |(rename_i b1;rw[b8 (by simpa using b1)] at kR;first|exact (dq kR).1|exact (dq kR).2)
theorem zd9(r:Tw.RND)(ok:bW (dg r))(plan:List Int)(hp:plan.length<100000):bX Tz.prog 27 [Tw.dT r,.sl plan.length (ints plan)] (.int .i64 (qd (dg r) plan).2) true:=by
 have c1:=zd8 r ok plan hp;generalize qd (dg r) plan=R at *;clear ok;unfold Tw.dT at *;generalize r.jY=p1 at *;generalize r.osP=p2 at *;generalize r.lW=p3 at *;generalize r.zsP=p4 at *;refine rcK Tz.func27 ?_;simp only[Tryz.results27,Tryz.ntmps27]
 repeat' first|(with_reducible first|apply bH|apply bT|apply bG|refine And.intro ?_ ?_|intro _)|simp[*]|(refine bN (c1) ?_ ?_;· simp[*];done)
structure kP(os:List Ord)(wt:List (List Int))(plan:List Int):Prop where
 lo:os.length<=8
 pl:plan.length=os.length
 wl:wt.length=os.length
 pr:∀i,i<os.length->0<=(nth os i).2.2.2/\(nth os i).2.2.2<=6
 wn:∀i,i<plan.length->nth plan i=-1\/(0<=nth plan i/\nth plan i<((nth wt i).length:Int)/\0<=nth (nth wt i) (nth plan i).toNat/\nth (nth wt i) (nth plan i).toNat<=100000)
theorem C6(r:Tw.RND)(ok:bW (dg r))(plan:List Int)(h:PlanIn (dg r) plan):kP r.os r.wt plan:=by
 have lo:r.os.length<=8:=ok.lo;have hl:plan.length=r.os.length:=h.len;refine⟨lo,hl,ok.lw,ok.pr,λi hi=>?_⟩
 rcases h.at_ i hi with h1|⟨h1,h2⟩
 .exact .inl h1
 .have hc:nth plan i<(r.bD.length:Int):=h2;have hr:(nth r.wt i).length=r.bD.length:=ok.wr i (by show i<r.os.length;omega);have:=ok.wn i (by show i<r.os.length;omega) (nth plan i).toNat (by show _<r.bD.length;omega);exact .inr ⟨h1,ab,this⟩
theorem C7{os:List Ord}{wt:List (List Int)}{plan:List Int}(h:kP os wt plan):∀k,k<=plan.length->0<=rcQ os wt plan k/\rcQ os wt plan k<=1000000000000*(k:Int)
 |0,_=>by unfold rcQ;simp
 |k+1,hk=>by
  have ih:=C7 h k ab;have h1:=h.wn k ab;have h2:=h.pr k (by have:=h.pl;omega);have h3:=BX (nth os k).2.2.2.toNat ab;unfold rcQ;split
  .omega
  .rename_i hn;have h4:=h1.resolve_left hn;omega
theorem zfs(bD:List Car)(os:List Ord)(wt:List (List Int))(zs:List Par)(plan:List Int)(h:kP os wt plan):bX Tz.prog 28 [.agg [.sl bD.length (dG bD),.sl os.length (dE os),.sl wt.length (dU wt),.sl zs.length (dI zs)],.sl plan.length (ints plan)] (.int .i64 (rcS os wt plan)) true:=by
 have eS:rcS os wt plan=rcQ os wt plan plan.length:=rfl
 have eK:∀k,rcQ os wt plan (k+1)=rcQ os wt plan k+if nth plan k=-1 then fV (nth os k).2.2.2.toNat else nth (nth wt k) (nth plan k).toNat:=λ_=>rfl
 have e0:rcQ os wt plan 0=0:=rfl;have bd:=C7 h;rw[eS];generalize rcQ os wt plan=K at *;obtain⟨lo,pl,wl,pr,wn⟩:=h;have kk:=keep (And.intro eK (And.intro bd (And.intro lo (And.intro pl (And.intro wl (And.intro pr wn))))));clear eS eK bd lo pl wl pr wn;refine rcK Tz.func28 ?_;simp only[Tryz.results28,Tryz.ntmps28]
 repeat' first|(with_reducible first|apply bH|apply bG|intro _)|simp[*]
 refine fp (λ(k:Nat)=>k<=plan.length) [1,2] (λ(k:Nat)=>[(6,.w false false (.int .i64 k)),(5,.w false false (.int .i64 (K k)))]) [0] (λ(k:Nat)=>[]) (λ(k:Nat)=>plan.length-k) (λ(_u:Unit)=>True) [] (λ(_u:Unit)=>[(5,.w false false (.int .i64 (K plan.length)))]) [0] (λ(_u:Unit)=>[]) (0) (cG _) (by simp[e0]) (by simp[e0]) (λk hk=>?_) (λ_u hf=>?_)
 .clear e0;by_cases h5:k<plan.length
  .obtain⟨eK,bd,lo,pl,wl,pr,wn⟩:=kk
   have h':k<os.length:=ab
   have ag:k<wt.length:=ab
   have h8:inI .i64 ((k:Int)+1):=dc ab ab
   have hz:k+1<=plan.length:=ab
   have ay:(k:Int)<8:=ab
   have b2:=bd (k+1) hz;have e:=eK k;have pr:=pr k h';have wn:=wn k h5;obtain⟨q,hq⟩:∃q:Nat,(nth os k).2.2.2=(q:Int):=⟨(nth os k).2.2.2.toNat,ab⟩;rw[hq,jr] at e;have c1:=PH q ab;generalize hn:nth plan k=n at *;clear eK bd lo pl wl;have a4:inI .i64 (K (k+1)):=dc ab ab;clear b2 ay pr
   rcases wn with h1|⟨h1,h2,h3,h4⟩
   .rw[b8 h1] at e;subst h1;generalize fV q=pp at *;have e':=e.symm;clear e
    repeat' first|(with_reducible first|apply bH|apply cO|apply b7|apply bG|apply bQ|refine And.intro ?_ ?_|intro _)|simp[*,h5,h',hn,hq,e',h8,a4,Tw.dY]|(refine bN (c1) ?_ ?_;· simp[*];done)
    all_goals first
     |omega
     |assumption
     |(refine nx (k+1) ?_ ?_;(· exact hz);(refine cD ?_ ?_<;>first|trivial|(simp[*];done)))
   .obtain⟨m,rfl⟩:∃m:Nat,n=m:=⟨n.toNat,ab⟩
    have h0:¬(m:Int)=-1:=ab
    rw[bP h0,jr] at e
    have hm:m<(nth wt k).length:=ab
    have e':=e.symm;clear e h1 h2 h3 h4 c1
    repeat' first|(with_reducible first|apply bH|apply cO|apply b7|apply bG|refine df (id:=7) 13 mixed ai ?_|apply bQ|intro _)|simp[*,h5,h',ag,hn,h0,hm,e',h8,a4]
    all_goals first
     |omega
     |assumption
     |(refine nx (k+1) ?_ ?_;(· exact hz);(refine cD ?_ ?_<;>first|trivial|(simp[*];done)))
  .have h9:k=plan.length:=ab
   subst h9;clear kk
   repeat' first|(with_reducible first|apply bH|apply da|apply bG|apply bQ|intro _)|simp[*]
   all_goals first
    |omega
    |(refine dH () ?_ ?_;(· trivial);(refine cD ?_ ?_<;>first|trivial|(simp[*];done)))
 .clear kk
  repeat' first|(with_reducible first|apply bH|apply bT|apply bG|intro _)|simp[*]
def cC(plan:List Int):Nat->List Int
 |0=>[]
 |k+1=>if nth plan k=-1 then cC plan k else cC plan k++[(k:Int)]
def eZ(plan:List Int):List Int:=cC plan plan.length
theorem C8(plan:List Int):∀k,(cC plan k).length<=k
 |0=>bS _
 |k+1=>by have:=C8 plan k;unfold cC;split<;>simp<;>omega
theorem C9(plan:List Int)(hl:plan.length<100000):bX Tz.prog 35 [.sl plan.length (ints plan)] (.sl (eZ plan).length (ints (eZ plan))) true:=by
 have eS:eZ plan=cC plan plan.length:=rfl
 have eK:∀k,cC plan (k+1)=if nth plan k=-1 then cC plan k else cC plan k++[(k:Int)]:=λ_=>rfl
 have bd:=C8 plan;have e0:cC plan 0=[]:=rfl;rw[eS];generalize cC plan=K at *;have kk:=keep (And.intro eK bd)
 have e1:(K 0).length=0:=by rw[e0];rfl
 have e2:iA (K 0)=[]:=by rw[e0];rfl
 clear eS eK bd e0;refine rcK Tz.func35 ?_;simp only[Tryz.results35,Tryz.ntmps35]
 repeat' first|(with_reducible first|apply bH|apply bG|intro _)|simp[*]
 refine kX 1 (λ(k:Nat)=>k<=plan.length) [0] (λ(k:Nat)=>[(4,.w false false (.int .i64 k)),(3,.msl 0 (K k).length 1 0 (K k).length)]) [] (λ(k:Nat)=>[(0,iA (K k))]) (λ(k:Nat)=>plan.length-k) (λ(_u:Unit)=>True) [] (λ(_u:Unit)=>[(3,.msl 0 (K plan.length).length 1 0 (K plan.length).length)]) [] (λ(_u:Unit)=>[(0,iA (K plan.length))]) (0) (cG _) (eJ [] (by simp[e1,e2]) (by simp[e1,e2])) (λk hk=>?_) (λ_u hf=>?_)
 .clear e1 e2;by_cases h5:k<plan.length
  .obtain⟨eK,bd⟩:=kk;have e:=eK k;have b:=bd k;have h8:inI .i64 ((k:Int)+1):=dc ab ab
   have hz:k+1<=plan.length:=ab
   have b6:(K k).length+1<=1000000000:=ab
   clear eK bd;by_cases h1:nth plan k=-1
   .rw[b8 h1] at e
    repeat' first|(with_reducible first|apply bH|apply cO|apply b7|apply bG|apply bQ|intro _)|simp[*,h5,h1,h8]
    all_goals first
     |omega
     |assumption
     |(refine nx (k+1) ?_ ?_;(· exact hz);(refine eJ [] ?_ ?_<;>first|trivial|(simp[*,e];done)))
   .rw[bP h1] at e
    have e3:iA (K (k+1))=iA (K k)++[.w false false (.int .i64 k)]:=by rw[e,<-kQ];rfl
    have e4:(K (k+1)).length=(K k).length+1:=by rw[e];simp
    clear e
    repeat' first|(with_reducible first|apply bH|apply cO|apply b7|apply bG|apply bQ|intro _)|simp[*,h5,h1,h8]
    all_goals first
     |omega
     |assumption
     |(refine nx (k+1) ?_ ?_;(· exact hz);(refine eJ [] ?_ ?_<;>first|trivial|(simp[*,e3,e4];done)))
  .have h9:k=plan.length:=ab
   subst h9;clear kk
   repeat' first|(with_reducible first|apply bH|apply da|apply bG|apply bQ|intro _)|simp[*,h5]
   all_goals first
    |omega
    |(refine dH () ?_ ?_;(· trivial);(refine cD ?_ ?_<;>first|trivial|(simp[*];done)))
 .clear kk e1 e2
  repeat' first|(with_reducible first|apply bH|apply bT|apply bG|intro _)|simp[*]
  all_goals first|omega|trivial
def cE(wt:List (List Int))(plan:List Int):Nat->Int
 |0=>0
 |k+1=>if nth plan k=-1 then cE wt plan k else if cE wt plan k<nth (nth wt k) (nth plan k).toNat then nth (nth wt k) (nth plan k).toNat else cE wt plan k
def cq(wt:List (List Int))(plan:List Int):Int:=cE wt plan plan.length
theorem D3(bD:List Car)(os:List Ord)(wt:List (List Int))(zs:List Par)(plan:List Int)(h:kP os wt plan):bX Tz.prog 36 [.agg [.sl bD.length (dG bD),.sl os.length (dE os),.sl wt.length (dU wt),.sl zs.length (dI zs)],.sl plan.length (ints plan)] (.int .i64 (cq wt plan)) true:=by
 have eS:cq wt plan=cE wt plan plan.length:=rfl
 have eK:∀k,cE wt plan (k+1)=if nth plan k=-1 then cE wt plan k else if cE wt plan k<nth (nth wt k) (nth plan k).toNat then nth (nth wt k) (nth plan k).toNat else cE wt plan k:=λ_=>rfl
 have e0:cE wt plan 0=0:=rfl;rw[eS];generalize cE wt plan=K at *;obtain⟨lo,pl,wl,pr,wn⟩:=h;have kk:=keep (And.intro eK (And.intro lo (And.intro pl (And.intro wl wn))));clear eS eK lo pl wl pr wn;refine rcK Tz.func36 ?_;simp only[Tryz.results36,Tryz.ntmps36]
 repeat' first|(with_reducible first|apply bH|apply bG|intro _)|simp[*]
 refine fp (λ(k:Nat)=>k<=plan.length) [1,2] (λ(k:Nat)=>[(6,.w false false (.int .i64 k)),(5,.w false false (.int .i64 (K k)))]) [0] (λ(k:Nat)=>[]) (λ(k:Nat)=>plan.length-k) (λ(_u:Unit)=>True) [] (λ(_u:Unit)=>[(5,.w false false (.int .i64 (K plan.length)))]) [0] (λ(_u:Unit)=>[]) (0) (cG _) (by simp[e0]) (by simp[e0]) (λk hk=>?_) (λ_u hf=>?_)
 .clear e0;by_cases h5:k<plan.length
  .obtain⟨eK,lo,pl,wl,wn⟩:=kk
   have ag:k<wt.length:=ab
   have h8:inI .i64 ((k:Int)+1):=dc ab ab
   have hz:k+1<=plan.length:=ab
   have e:=eK k;have wn:=wn k h5;generalize hn:nth plan k=n at *;clear eK lo pl wl
   rcases wn with h1|⟨h1,h2,h3,h4⟩
   .rw[b8 h1] at e;subst h1
    repeat' first|(with_reducible first|apply bH|apply cO|apply b7|apply bG|apply bQ|intro _)|simp[*,h5,hn,h8]
    all_goals first
     |omega
     |assumption
     |(refine nx (k+1) ?_ ?_;(· exact hz);(refine cD ?_ ?_<;>first|trivial|(simp[*,e];done)))
   .obtain⟨m,rfl⟩:∃m:Nat,n=m:=⟨n.toNat,ab⟩
    have h0:¬(m:Int)=-1:=ab
    rw[bP h0,jr] at e
    have hm:m<(nth wt k).length:=ab
    clear h1 h2 h3 h4
    repeat' first|(with_reducible first|apply bH|apply cO|apply b7|apply bG|refine df (id:=6) 13 mixed ai ?_|apply bQ|intro _)|simp[*,h5,ag,hn,h0,hm,h8]
    all_goals first
     |omega
     |assumption
     |(refine nx (k+1) ?_ ?_;(· exact hz);(refine cD ?_ ?_<;>first|trivial|(simp[*,e];done)))
  .have h9:k=plan.length:=ab
   subst h9;clear kk
   repeat' first|(with_reducible first|apply bH|apply da|apply bG|apply bQ|intro _)|simp[*]
   all_goals first
    |omega
    |(refine dH () ?_ ?_;(· trivial);(refine cD ?_ ?_<;>first|trivial|(simp[*];done)))
 .clear kk
  repeat' first|(with_reducible first|apply bH|apply bT|apply bG|intro _)|simp[*]
end Go.Proofs.YthpkmilhiganjaaGreat
namespace Go.Proofs.YthpkmilhiganjaaGreat
open Go Go.Fi
section
variable[bI]
def plG(L:List Int)(p:List Int)(j:Nat):List (List Int):=(p++[-1])::((L.take j).filter λf=>!(p.any λy=>decide (f=y))).map λf=>p++[f]
theorem D4(L p:List Int)(j:Nat):(plG L p j).length<=1+L.length:=by
 unfold plG;have h1:=List.length_filter_le (λf=>!(p.any λy=>decide (f=y))) (L.take j)
 have h2:(L.take j).length<=L.length:=by rw[lq];exact Nat.min_le_right _ _
 simp only[il,iI];omega
theorem D5(F:Nat->List Int)(i:Nat):bC F (i+1)=(bC F i).flatMap λp=>plG (F i) p (F i).length:=by
 show (bC F i).flatMap _=_;unfold plG;simp only[List.take_length]
theorem uo{α:Type}(g:α->List (List Int))(b:Nat)(hg:∀p,(g p).length<=b):∀l:List α,(l.flatMap g).length<=b*l.length
 |[]=>by simp
 |p::l=>by
  have:=uo g b hg l;have:=hg p;rw[oV,nX,il,Nat.mul_add];omega
theorem sW(F:Nat->List Int)(hF:∀i,(F i).length<=8):∀i,(bC F i).length<=9 ^ i
 |0=>by simp[bC]
 |i+1=>by
  have ih:=sW F hF i;rw[D5];have h1:=uo (λp=>plG (F i) p (F i).length) 9 (λp=>by have:=D4 (F i) p (F i).length;have:=hF i;omega) (bC F i);have:9*(bC F i).length<=9*9 ^ i:=Nat.mul_le_mul_left _ ih;rw[Nat.pow_succ];omega
theorem zea(p:List Int)(v:Int):iA (p++[v])=iA p++[.w false false (.int .i64 v)]:=by rw[<-kQ];rfl
theorem zeb(bD:List Car)(os:List Ord)(wt:List (List Int))(zs:List Par)(hc:bD.length<=8)(ho:os.length<=8)(hz:zs.length<100000):bX Tz.prog 82 [.agg [.sl bD.length (dG bD),.sl os.length (dE os),.sl wt.length (dU wt),.sl zs.length (dI zs)]] (.sl (bC (λi=>br bD os zs i bD.length) os.length).length (eQ (bC (λi=>br bD os zs i bD.length) os.length))) true:=by
 have c1:=λi hi=>zd1 bD os wt zs i hi ab hz
 have bF:∀i,(br bD os zs i bD.length).length<=8:=λi=>dJ (sf _ _ _ _ _) hc
 have eL:=D5 (λi=>br bD os zs i bD.length);have bL:=sW (λi=>br bD os zs i bD.length) bF
 have rL:=λi p (hp:p∈bC (λi=>br bD os zs i bD.length) i)=>((sR _ i p).1 hp).1
 have e0:bC (λi=>br bD os zs i bD.length) 0=[[]]:=rfl;generalize bC (λi=>br bD os zs i bD.length)=L at *;have kk:=keep (And.intro c1 (And.intro bF (And.intro eL (And.intro bL (And.intro rL ho)))))
 have z1:(L 0).length=1:=by rw[e0];rfl
 have z2:eQ (L 0)=[.sl 0 []]:=by rw[e0];rfl
 clear c1 bF eL bL rL hc hz;refine rcK Tz.func82 ?_;simp only[Tryz.results82,Tryz.ntmps82]
 repeat' first|(with_reducible first|apply bH|apply bG|intro _)|simp[*]
 refine kX 1 (λ(i:Nat)=>i<=os.length) [1] (λ(i:Nat)=>[(4,.w false false (.int .i64 i)),(3,.w true false (.sl (L i).length (eQ (L i))))]) [0] (λ(i:Nat)=>[]) (λ(i:Nat)=>os.length-i) (λ(_u:Unit)=>True) [] (λ(_u:Unit)=>[(3,.w true false (.sl (L os.length).length (eQ (L os.length))))]) [0] (λ(_u:Unit)=>[]) (0) (cG _) (eJ [1] (by simp[z1,z2]) (by simp[z1,z2])) (λi hk=>?_) (λ_u hf=>?_)
 .clear z1 z2 e0;by_cases h5:i<os.length
  .obtain⟨c1,bF,eL,bL,rL,_⟩:=kk;have c1:=c1 i h5;have bF:=bF i;have eL:=eL i;have bL:=bL i;have rL:=rL i;have h8:inI .i64 ((i:Int)+1):=dc ab ab
   have hz:i+1<=os.length:=ab
   have hx:9 ^ i<=9 ^ 7:=Nat.pow_le_pow_right af ab
   have b4:(9:Nat) ^ 7=4782969:=af
   have hL9:(L i).length<=4782969:=ab
   have a5:i<8:=ab
   generalize hL1:L (i+1)=L1 at *;generalize L i=Li at *;generalize br bD os zs i bD.length=F at *
   obtain⟨M,m0,mS,mE⟩:∃M:Nat->List (List Int),M 0=[]/\(∀k,k<Li.length->M (k+1)=M k++plG F (nth Li k) F.length)/\M Li.length=L1:=by
    refine⟨λk=>(Li.take k).flatMap λp=>plG F p F.length,rfl,λk hk=>?_,by rw[eL];simp⟩;show (Li.take (k+1)).flatMap _=_;rw[BZ Li k hk,List.flatMap_append];simp
   have bM:∀k,k<=Li.length->(M k).length<=9*k:=λk=>by
    induction k with
    |zero=>intro _;rw[m0];simp
    |succ k ih=>
     intro hk;have h1:=ih ab;have h2:=D4 F (nth Li k) F.length;rw[mS k ab,nX];omega
   have y1:(M 0).length=0:=by rw[m0];rfl
   have y2:bt (M 0)=[]:=by rw[m0];rfl
   have kq:=keep (And.intro mS (And.intro bM (And.intro rL (And.intro bF (And.intro hL9 a5)))));have kz:=keep (And.intro hz (And.intro h8 (And.intro mE hL1)));clear eL bL rL bF hx b4 hL9 mS bM hz h8 mE m0 a5 hL1
   repeat' first|(with_reducible first|apply bH|apply cO|apply b7|apply bG|apply bQ|refine And.intro ?_ ?_|intro _)|simp[*,h5]|(refine bN (c1) ?_ ?_;· simp[*];done)
   clear c1;refine kX 2 (λ(k:Nat)=>k<=Li.length) [1,3,4,6] (λ(k:Nat)=>[(7,.w false false (.int .i64 k)),(5,.msl 1 (M k).length 1 0 (M k).length)]) [0] (λ(k:Nat)=>[(1,bt (M k))]) (λ(k:Nat)=>Li.length-k) (λ(_u:Unit)=>True) [1,4] (λ(_u:Unit)=>[(5,.msl 1 (M Li.length).length 1 0 (M Li.length).length)]) [0] (λ(_u:Unit)=>[(1,bt (M Li.length))]) (0) (cG _) (eJ [] (by simp[y1,y2]) (by simp[y1,y2])) (λk hk=>?_) (λ_u hf=>?_)
   .clear y1 y2 kz;by_cases hh:k<Li.length
    .obtain⟨mS,bM,rL,bF,hL9,a5⟩:=kq;have mS:=mS k hh;have bM:=bM k hk;have a6:inI .i64 ((k:Int)+1):=dc ab ab
     have a':k+1<=Li.length:=ab
     have b5:=rL (nth Li k) (iu hh);have cI:=zd7 (nth Li k) ab
     have cH:=λv=>C5 (nth Li k) ab v
     generalize hM1:M (k+1)=M1 at *;generalize hMk:M k=Mk at *;generalize hN:nth Li k=p at *
     obtain⟨R,r0,rS,rE⟩:∃R:Nat->List (List Int),R 0=Mk++[p++[-1]]/\(∀j,j<F.length->R (j+1)=if (p.any λy=>decide (nth F j=y))=true then R j else R j++[p++[nth F j]])/\R F.length=M1:=by
      refine⟨λj=>Mk++plG F p j,rfl,λj hj=>?_,mS.symm⟩;show Mk++plG F p (j+1)=_;unfold plG;rw[BZ F j hj,List.filter_append]
      by_cases hb:(p.any λy=>decide (nth F j=y))=true<;>simp[hb]
     have bR:∀j,j<=F.length->(R j).length<=Mk.length+1+j:=λj=>by
      induction j with
      |zero=>intro _;rw[r0];simp
      |succ j ih=>
       intro hj;have:=ih ab;rw[rS j ab];split
       .omega
       .rw[nX,List.length_singleton];omega
     have r1:bt (R 0)=bt Mk++[.w true false (.sl (p++[-1]).length (ints (p++[-1])))]:=by rw[r0,BC]
     have r2:(R 0).length=Mk.length+1:=by rw[r0];simp
     have r3:iA p++[.w false false (.int .i64 (-1))]=iA (p++[-1]):=(zea p (-1)).symm
     have r4:p.length+1=(p++[-1]).length:=ae
     obtain⟨P1,hP1⟩:∃P1,p++[-1]=P1:=⟨_,rfl⟩;rw[hP1] at r1 r3 r4
     have hx:p.length+1<=1000000000:=ab
     have hM9:Mk.length+1<=1000000000:=ab
     have kr:=keep (And.intro r1 (And.intro r2 (And.intro r3 r4)));have kj:=keep (And.intro cI (And.intro cH (And.intro rS (And.intro bR (And.intro bF (And.intro hx (And.intro bM hL9)))))));have ke:=keep (And.intro a6 (And.intro a' (And.intro rE hM1)));clear cH rS bR bF mS b5 rL a6 a' rE r0 r1 r2 r3 r4 bM hL9 a5 hM1
     repeat' first|(with_reducible first|apply bH|apply cO|apply b7|apply bG|apply bQ|refine And.intro ?_ ?_|refine cwM (cI) ?_|intro _)|simp[*,hh,hN,hx,hM9]
     all_goals try first|omega|assumption
     obtain⟨r1,r2,r3,r4⟩:=kr;refine kX 2 (λ(j:Nat)=>j<=F.length) [1,3,4,6,7] (λ(j:Nat)=>[(8,.w false false (.int .i64 j)),(5,.msl 1 (R j).length 1 0 (R j).length)]) [0] (λ(j:Nat)=>[(1,bt (R j))]) (λ(j:Nat)=>F.length-j) (λ(_u:Unit)=>True) [1,3,4,6,7] (λ(_u:Unit)=>[(5,.msl 1 (R F.length).length 1 0 (R F.length).length)]) [0] (λ(_u:Unit)=>[(1,bt (R F.length))]) (0) (cG _) (eJ [2] (by simp[r1,r2,r3,r4]) (by simp[r1,r2,r3,r4])) (λj hk=>?_) (λ_u hf=>?_)
     .clear r1 r2 r3 r4 ke hM9 hP1;by_cases a9:j<F.length
      .obtain⟨cI,cH0,rS0,bR0,bF,hx,bM,hL9⟩:=kj;have rS:=rS0 j a9;have bR:=bR0 j hk;have aw:inI .i64 ((j:Int)+1):=dc ab ab
       have ax:j+1<=F.length:=ab
       have hR9:(R j).length+1<=1000000000:=ab
       have cH:=cH0 (nth F j);clear bR bF bM hL9 cH0 rS0 bR0;generalize hv:nth F j=v at *
       cases hb:(p.any λy=>decide (v=y)) with
       |true=>
        rw[hb] at cH;rw[b8 hb] at rS;clear hb cI
        repeat' first|(with_reducible first|apply bH|apply cO|apply b7|apply bG|refine df (id:=14) 10 mixed ai ?_|apply bQ|refine And.intro ?_ ?_|intro _)|simp[*,hh,hN,a9,hv,aw]|(refine bN (cH) ?_ ?_;· simp[*];done)
        all_goals first
         |omega
         |assumption
         |(refine nx (j+1) ?_ ?_;(· exact ax);(refine eJ [] ?_ ?_<;>first|trivial|(simp[*,rS];done)))
       |false=>
        rw[hb] at cH;rw[bP (by rw[hb];decide)] at rS;have e6:=BC (R j) (p++[v]);rw[<-rS] at e6
        have e7:(R (j+1)).length=(R j).length+1:=by rw[rS];simp
        have e8:ints p++[.int .i64 v]=ints (p++[v]):=by simp[ints]
        have e9:p.length+1=(p++[v]).length:=ae
        obtain⟨P2,hP2⟩:∃P2,p++[v]=P2:=⟨_,rfl⟩;rw[hP2] at e6 e8 e9;have kf:=keep (And.intro e6 (And.intro e7 (And.intro e8 e9)));clear hb rS e6 e7 e8 e9 hP2
        repeat' first|(with_reducible first|apply bH|apply cO|apply b7|apply bG|refine df (id:=14) 10 mixed ai ?_|refine ny (id:=15) [0,1,2,3,4,5,6,7,8,9,10] [11,12,13,14] [[.new 0],[],[],[],[],[],[],[],[],[],[]] [[.new 0],[],[.slot 5],[]] mixed ai ?_|apply bQ|refine And.intro ?_ ?_|refine cwM (cI) ?_|intro _)|simp[*,hh,hN,a9,hv,aw,hR9,hx]|(refine bN (cH) ?_ ?_;· simp[*];done)
        all_goals try first|omega|assumption|(simp[touch];done)
        obtain⟨e6,e7,e8,e9⟩:=kf
        all_goals first
         |(refine nx (j+1) ?_ ?_;(· exact ax);(refine eJ [2] ?_ ?_<;>first|trivial|(simp[*,e6,e7,e8,e9,List.mapM_append,List.all_append];done)))
      .have h9:j=F.length:=ab
       subst h9;clear kj
       repeat' first|(with_reducible first|apply bH|apply da|apply bG|apply bQ|intro _)|simp[*,a9]
       all_goals first
        |omega
        |(refine dH () ?_ ?_;(· trivial);(refine cD ?_ ?_<;>first|trivial|(simp[*];done)))
     .clear r1 r2 r3 r4 kj hM9 hP1;obtain⟨a6,a',rE,hM1⟩:=ke
      repeat' first|(with_reducible first|apply bG|intro _)|simp[*,hh,a6]
      all_goals first
       |omega
       |assumption
       |(refine nx (k+1) ?_ ?_;(· exact a');(refine eJ [] ?_ ?_<;>first|trivial|(simp[*,rE,hM1];done)))
    .have h9:k=Li.length:=ab
     subst h9;clear kq
     repeat' first|(with_reducible first|apply bH|apply da|apply bG|apply bQ|intro _)|simp[*,hh]
     all_goals first
      |omega
      |(refine dH () ?_ ?_;(· trivial);(refine cD ?_ ?_<;>first|trivial|(simp[*];done)))
   .clear y1 y2 kq;obtain⟨hz,h8,mE,hL1⟩:=kz
    repeat' first|(with_reducible first|apply bG|intro _)|simp[*,h5,h8]
    all_goals first
     |omega
     |assumption
     |(refine nx (i+1) ?_ ?_;(· exact hz);(refine eJ [1] ?_ ?_<;>first|trivial|(simp[*,mE,hL1];done)))
  .have h9:i=os.length:=ab
   subst h9;clear kk
   repeat' first|(with_reducible first|apply bH|apply da|apply bG|apply bQ|intro _)|simp[*,h5]
   all_goals first
    |omega
    |(refine dH () ?_ ?_;(· trivial);(refine eJ [] ?_ ?_<;>first|trivial|(simp[*];done)))
 .clear z1 z2 kk e0
  repeat' first|(with_reducible first|apply bH|apply bT|apply bG|intro _)|simp[*]
  all_goals first|omega|trivial
end
noncomputable instance zgt:bI:=LD
theorem zec(r:Tw.RND)(ok:bW (dg r)):∀p∈bu r,kP r.os r.wt p:=λp hp=>C6 r ok p ((fz r p).2 hp).toPlanIn
theorem D6(r:Tw.RND)(ok:bW (dg r)):(bu r).length<=43046721:=by
 have h1:=sW (m6 r) (λi=>dJ (sf _ _ _ _ _) ok.lc) r.os.length;have h2:9 ^ r.os.length<=9 ^ 8:=Nat.pow_le_pow_right af ok.lo
 have h3:(9:Nat) ^ 8=43046721:=af
 unfold bu;omega
theorem D7(r:Tw.RND)(ok:bW (dg r)):bX Tz.prog 82 [Tw.dT r] (.sl (bu r).length (eQ (bu r))) true:=
 zeb r.bD r.os r.wt r.zs ok.lc ok.lo (by have:r.zs.length<=64:=ok.lz;omega)
theorem zed(bD:List Car)(os:List Ord)(wt:List (List Int))(zs:List Par)(plan:List Int)(p:Int)(hl:plan.length=os.length)(ho:os.length<100000):bX Tz.prog 29 [.agg [.sl bD.length (dG bD),.sl os.length (dE os),.sl wt.length (dU wt),.sl zs.length (dI zs)],.sl plan.length (ints plan),.int .i64 p] (.int .i64 (eB os p plan)) true:=by
 unfold eB
 obtain⟨K,e0,eK,eE,bK⟩:∃K:Nat->Int,K 0=0/\(∀k,K (k+1)=K k+if (!(decide (nth plan k=-1))&&decide (p<=(nth os k).2.2.2))=true then 1 else 0)/\K plan.length=(cn (λi=>!(decide (nth plan i=-1))&&decide (p<=(nth os i).2.2.2)) plan.length:Nat)/\∀k,0<=K k/\K k<=(k:Int):=by
  refine⟨λk=>(cn (λi=>!(decide (nth plan i=-1))&&decide (p<=(nth os i).2.2.2)) k:Nat),rfl,λk=>?_,rfl,λk=>?_⟩
  .show ((cn _ (k+1):Nat):Int)=_;rw[show cn (λi=>!(decide (nth plan i=-1))&&decide (p<=(nth os i).2.2.2)) (k+1)=cn (λi=>!(decide (nth plan i=-1))&&decide (p<=(nth os i).2.2.2)) k+if (!(decide (nth plan k=-1))&&decide (p<=(nth os k).2.2.2)) then 1 else 0 from rfl]
   split<;>simp
  .have:=CN (λi=>!(decide (nth plan i=-1))&&decide (p<=(nth os i).2.2.2)) k;exact⟨JU _,Int.ofNat_le.2 this⟩
 rw[<-eE];have kk:=keep (And.intro eK (And.intro bK (And.intro hl ho)));clear eK eE bK hl ho;refine rcK Tz.func29 ?_;simp only[Tryz.results29,Tryz.ntmps29]
 repeat' first|(with_reducible first|apply bH|apply bG|intro _)|simp[*]
 refine fp (λ(k:Nat)=>k<=plan.length) [1,2,3] (λ(k:Nat)=>[(8,.w false false (.int .i64 k)),(7,.w false false (.int .i64 (K k)))]) [0] (λ(k:Nat)=>[]) (λ(k:Nat)=>plan.length-k) (λ(_u:Unit)=>True) [] (λ(_u:Unit)=>[(7,.w false false (.int .i64 (K plan.length)))]) [0] (λ(_u:Unit)=>[]) (0) (cG _) (by simp[e0]) (by simp[e0]) (λk hk=>?_) (λ_u hf=>?_)
 .clear e0;by_cases h5:k<plan.length
  .obtain⟨eK,bK,hl,ho⟩:=kk
   have h':k<os.length:=ab
   have h8:inI .i64 ((k:Int)+1):=dc ab ab
   have hz:k+1<=plan.length:=ab
   have e:=eK k;have b:=bK k;have a4:inI .i64 (K k+1):=dc ab ab;clear eK bK hl ho b;by_cases h1:nth plan k=-1
   .rw[decide_eq_true h1] at e
    have e:K (k+1)=K k:=by rw[e];simp
    repeat' first|(with_reducible first|apply bH|apply cO|apply b7|apply bG|apply bQ|intro _)|simp[*,h5,h',h8,h1]
    all_goals first
     |omega
     |assumption
     |(refine nx (k+1) ?_ ?_;(· exact hz);(refine cD ?_ ?_<;>first|trivial|(simp[*,e];done)))
   .rw[decide_eq_false h1] at e;by_cases h2:p<=(nth os k).2.2.2
    .rw[decide_eq_true h2] at e
     have e:K (k+1)=K k+1:=by rw[e];simp
     repeat' first|(with_reducible first|apply bH|apply cO|apply b7|apply bG|apply bQ|refine And.intro ?_ ?_|intro _)|simp[*,h5,h',h8,a4,h1,h2,Tw.dY]
     all_goals first
      |omega
      |assumption
      |(refine nx (k+1) ?_ ?_;(· exact hz);(refine cD ?_ ?_<;>first|trivial|(simp[*,e];done)))
    .rw[decide_eq_false h2] at e
     have e:K (k+1)=K k:=by rw[e];simp
     repeat' first|(with_reducible first|apply bH|apply cO|apply b7|apply bG|apply bQ|refine And.intro ?_ ?_|intro _)|simp[*,h5,h',h8,h1,h2,Tw.dY]
     all_goals first
      |omega
      |assumption
      |(refine nx (k+1) ?_ ?_;(· exact hz);(refine cD ?_ ?_<;>first|trivial|(simp[*,e];done)))
  .have h9:k=plan.length:=ab
   subst h9;clear kk
   repeat' first|(with_reducible first|apply bH|apply da|apply bG|apply bQ|intro _)|simp[*,h5]
   all_goals first
    |omega
    |(refine dH () ?_ ?_;(· trivial);(refine cD ?_ ?_<;>first|trivial|(simp[*];done)))
 .clear kk e0
  repeat' first|(with_reducible first|apply bH|apply bT|apply bG|intro _)|simp[*]
theorem zee(r:Tw.RND)(he:ceR r=0)(q:Int):bX Tz.prog 30 [Tw.dT r,.int .i64 q] (.int .i64 (b9 r q)) true:=by
 have ok:=kB r he;have c1:=D7 r ok
 have c2:=λp (hp:p∈bu r)=>zed r.bD r.os r.wt r.zs p q ((fz r p).2 hp).len (by have:r.os.length<=8:=ok.lo;omega)
 have h2:=D6 r ok;have eS:b9 r q=eA (eB r.os q) ((bu r).drop 0) 0:=rfl
 change bX Tz.prog 82 [.agg [.sl r.bD.length (dG r.bD),.sl r.os.length (dE r.os),.sl r.wt.length (dU r.wt),.sl r.zs.length (dI r.zs)]] _ true at c1
 change bX Tz.prog 30 [.agg [.sl r.bD.length (dG r.bD),.sl r.os.length (dE r.os),.sl r.wt.length (dU r.wt),.sl r.zs.length (dI r.zs)],.int .i64 q] _ true
 generalize bu r=L at *;generalize b9 r q=R at *;generalize eB r.os q=C at *;have kR:di (eA C (L.drop 0) 0=R):=eS.symm;have kk:=keep (And.intro c2 h2);clear ok c2 eS h2 he;refine rcK Tz.func30 ?_;simp only[Tryz.results30,Tryz.ntmps30]
 repeat' first|(with_reducible first|apply bH|apply bG|refine And.intro ?_ ?_|intro _)|simp[*]|(refine bN (c1) ?_ ?_;· simp[*];done)
 refine fp (λ(p:Nat×Int)=>p.1<=L.length/\eA C (L.drop p.1) p.2=R) [1,2,5] (λ(p:Nat×Int)=>[(7,.w false false (.int .i64 (p.1:Nat))),(6,.w false false (.int .i64 p.2))]) [0] (λ(p:Nat×Int)=>[]) (λ(p:Nat×Int)=>L.length-p.1) (λ(_u:Unit)=>True) [] (λ(_u:Unit)=>[(6,.w false false (.int .i64 R))]) [0] (λ(_u:Unit)=>[]) ((0,0)) ⟨cG _,kR⟩ ae ae (λp hk=>?_) (λ_u hf=>?_)
 .obtain⟨i,a⟩:=p;obtain⟨hi,hj⟩:=hk;dsimp only at hi hj ⊢;clear kR c1;by_cases h5:i<L.length
  .obtain⟨c2,h2⟩:=kk;have ha:inI .i64 ((i:Int)+1):=dc ab ab
   have hz:i+1<=L.length:=ab
   have d1:=c2 (nth L i) (iu h5);rw[fE L i h5] at hj;have hj:eA C (L.drop (i+1)) (if a<C (nth L i) then C (nth L i) else a)=R:=hj;generalize hN:nth L i=N at *;have kj:=keep hj;clear c2 h2 hj
   repeat' first|(with_reducible first|apply bH|apply rZ|apply b7|apply bG|refine df (id:=6) 9 mixed ai ?_|apply bQ|refine And.intro ?_ ?_|intro _)|simp[*,h5,hN,ha]|(refine bN (d1) ?_ ?_;· simp[*];done)
   all_goals first
    |omega
    |assumption
    |(refine nx (i+1,if a<C N then C N else a) ?_ ?_;(· exact⟨hz,kj⟩);(refine cD ?_ ?_<;>first|trivial|(simp[*];done)))
  .have h9:i=L.length:=ab
   subst h9;rw[jb] at hj;have hj:a=R:=hj;subst hj;clear kk
   repeat' first|(with_reducible first|apply bH|apply da|apply bG|apply bQ|intro _)|simp[*,h5]
   all_goals first
    |omega
    |(refine dH () ?_ ?_;(· trivial);(refine cD ?_ ?_<;>first|trivial|(simp[*];done)))
 .clear kk kR c1
  repeat' first|(with_reducible first|apply bH|apply bT|apply bG|intro _)|simp[*]
noncomputable instance instLDF10:bI:=LD
def llF(s g:List Int->Int)(m:Int):List (List Int)->Int->Int
 |[],a=>a
 |p::l,a=>llF s g m l (if s p=m/\(a<0\/g p<a) then g p else a)
def bZ(p:List Int):Int:=((eZ p).length:Nat)
noncomputable def llS(r:Tw.RND):Int:=llF bZ (cq r.wt) (b9 r 0) (bu r) (-1)
theorem D8(r:Tw.RND)(he:ceR r=0):bX Tz.prog 33 [Tw.dT r] (.int .i64 (b9 r 0)) true:=by
 have c1:=zee r he 0;clear he;generalize b9 r 0=M at *;unfold Tw.dT at *;generalize r.jY=p1 at *;generalize r.osP=p2 at *;generalize r.lW=p3 at *;generalize r.zsP=p4 at *;refine rcK Tz.func33 ?_;simp only[Tryz.results33,Tryz.ntmps33]
 repeat' first|(with_reducible first|apply bH|apply bT|apply bG|refine And.intro ?_ ?_|intro _)|simp[*]|(refine bN (c1) ?_ ?_;· simp[*];done)
theorem zef(r:Tw.RND)(he:ceR r=0):bX Tz.prog 34 [Tw.dT r] (.int .i64 (llS r)) true:=by
 have ok:=kB r he;have c1:=D7 r ok;have cm:=D8 r he;have pw:=zec r ok
 have c2:=λp (hp:p∈bu r)=>D3 r.bD r.os r.wt r.zs p (pw p hp)
 have c3:=λp (hp:p∈bu r)=>C9 p (by rw[(pw p hp).pl];have:=(pw p hp).lo;omega)
 have h2:=D6 r ok;have eS:llS r=llF bZ (cq r.wt) (b9 r 0) ((bu r).drop 0) (-1):=rfl
 change bX Tz.prog 82 [.agg [.sl r.bD.length (dG r.bD),.sl r.os.length (dE r.os),.sl r.wt.length (dU r.wt),.sl r.zs.length (dI r.zs)]] _ true at c1
 change bX Tz.prog 33 [.agg [.sl r.bD.length (dG r.bD),.sl r.os.length (dE r.os),.sl r.wt.length (dU r.wt),.sl r.zs.length (dI r.zs)]] _ true at cm
 change bX Tz.prog 34 [.agg [.sl r.bD.length (dG r.bD),.sl r.os.length (dE r.os),.sl r.wt.length (dU r.wt),.sl r.zs.length (dI r.zs)]] _ true
 generalize bu r=L at *;generalize llS r=R at *;generalize b9 r 0=M at *;generalize cq r.wt=G at *;have kR:di (llF bZ G M (L.drop 0) (-1)=R):=eS.symm;have kk:=keep (And.intro c2 (And.intro c3 h2));clear ok c2 c3 eS h2 he pw;refine rcK Tz.func34 ?_;simp only[Tryz.results34,Tryz.ntmps34]
 repeat' first|(with_reducible first|apply bH|apply bG|refine df (id:=1) 6 mixed ai ?_|refine And.intro ?_ ?_|intro _)|simp[*]|(refine bN (c1) ?_ ?_;· simp[*];done)|(refine bN (cm) ?_ ?_;· simp[*];done)
 refine fp (λ(p:Nat×Int)=>p.1<=L.length/\llF bZ G M (L.drop p.1) p.2=R) [1,3,4] (λ(p:Nat×Int)=>[(6,.w false false (.int .i64 (p.1:Nat))),(5,.w false false (.int .i64 p.2))]) [0] (λ(p:Nat×Int)=>[]) (λ(p:Nat×Int)=>L.length-p.1) (λ(_u:Unit)=>True) [] (λ(_u:Unit)=>[(5,.w false false (.int .i64 R))]) [0] (λ(_u:Unit)=>[]) ((0,-1)) ⟨cG _,kR⟩ ae ae (λp hk=>?_) (λ_u hf=>?_)
 .obtain⟨i,a⟩:=p;obtain⟨hi,hj⟩:=hk;dsimp only at hi hj ⊢;clear kR c1 cm;by_cases h5:i<L.length
  .obtain⟨c2,c3,h2⟩:=kk;have ha:inI .i64 ((i:Int)+1):=dc ab ab
   have hz:i+1<=L.length:=ab
   have d1:=c2 (nth L i) (iu h5);have d2:=c3 (nth L i) (iu h5);rw[fE L i h5] at hj;have hj:llF bZ G M (L.drop (i+1)) (if bZ (nth L i)=M/\(a<0\/G (nth L i)<a) then G (nth L i) else a)=R:=hj;unfold bZ at hj;generalize hN:nth L i=N at *;clear c2 c3 h2;by_cases h1:((eZ N).length:Int)=M
   .by_cases h2:a<0
    .rw[b8 ⟨h1,.inl h2⟩] at hj;have kj:=keep hj;clear hj
     repeat' first|(with_reducible first|apply bH|apply cO|apply b7|apply bG|refine df (id:=6) 22 mixed ai ?_|refine df (id:=7) 7 mixed ai ?_|apply bQ|refine And.intro ?_ ?_|intro _)|simp[*,h5,hN,ha,h1,h2]|(refine bN (d1) ?_ ?_;· simp[*];done)|(refine bN (d2) ?_ ?_;· simp[*];done)
     all_goals first
      |omega
      |assumption
      |(refine nx (i+1,G N) ?_ ?_;(· exact⟨hz,kj⟩);(refine cD ?_ ?_<;>first|trivial|(simp[*];done)))
    .by_cases h3:G N<a
     .rw[b8 ⟨h1,.inr h3⟩] at hj;have kj:=keep hj;clear hj
      repeat' first|(with_reducible first|apply bH|apply cO|apply b7|apply bG|refine df (id:=6) 22 mixed ai ?_|refine df (id:=7) 7 mixed ai ?_|apply bQ|refine And.intro ?_ ?_|intro _)|simp[*,h5,hN,ha,h1,h2,h3]|(refine bN (d1) ?_ ?_;· simp[*];done)|(refine bN (d2) ?_ ?_;· simp[*];done)
      all_goals first
       |omega
       |assumption
       |(refine nx (i+1,G N) ?_ ?_;(· exact⟨hz,kj⟩);(refine cD ?_ ?_<;>first|trivial|(simp[*];done)))
     .rw[bP (λh=>h.2.elim h2 h3)] at hj;have kj:=keep hj;clear hj
      repeat' first|(with_reducible first|apply bH|apply cO|apply b7|apply bG|refine df (id:=6) 22 mixed ai ?_|apply bQ|refine And.intro ?_ ?_|intro _)|simp[*,h5,hN,ha,h1,h2,h3]|(refine bN (d1) ?_ ?_;· simp[*];done)|(refine bN (d2) ?_ ?_;· simp[*];done)
      all_goals first
       |omega
       |assumption
       |(refine nx (i+1,a) ?_ ?_;(· exact⟨hz,kj⟩);(refine cD ?_ ?_<;>first|trivial|(simp[*];done)))
   .rw[bP (λh=>h1 h.1)] at hj;have kj:=keep hj;clear hj
    repeat' first|(with_reducible first|apply bH|apply cO|apply b7|apply bG|refine df (id:=6) 22 mixed ai ?_|apply bQ|refine And.intro ?_ ?_|intro _)|simp[*,h5,hN,ha,h1]|(refine bN (d1) ?_ ?_;· simp[*];done)|(refine bN (d2) ?_ ?_;· simp[*];done)
    all_goals first
     |omega
     |assumption
     |(refine nx (i+1,a) ?_ ?_;(· exact⟨hz,kj⟩);(refine cD ?_ ?_<;>first|trivial|(simp[*];done)))
  .have h9:i=L.length:=ab
   subst h9;rw[jb] at hj;have hj:a=R:=hj;subst hj;clear kk
   repeat' first|(with_reducible first|apply bH|apply da|apply bG|apply bQ|intro _)|simp[*,h5]
   all_goals first
    |omega
    |(refine dH () ?_ ?_;(· trivial);(refine cD ?_ ?_<;>first|trivial|(simp[*];done)))
 .clear kk kR c1 cm
  repeat' first|(with_reducible first|apply bH|apply bT|apply bG|intro _)|simp[*]
end Go.Proofs.YthpkmilhiganjaaGreat
