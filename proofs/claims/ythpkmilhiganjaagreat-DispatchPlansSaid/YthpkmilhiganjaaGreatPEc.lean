/- Lemmas. -/
import Derived.Test.YthpkmilhiganjaaGreatPEb
import Derived.Test.YthpkmilhiganjaaGreatPLg
import Derived.Test.YthpkmilhiganjaaGreatPDb
import Derived.Test.YthpkmilhiganjaaGreatPDc
set_option linter.all false
set_option maxHeartbeats 32000000
set_option maxRecDepth 100000
namespace Go.Proofs.YthpkmilhiganjaaGreat
open Go Go.Fi
variable[av]
theorem lU(l:List Int)(hl:l.length<100000)(v:Int):aC Tz.prog 89 [.sl l.length (ints l),.int .i64 v] (.bool (l.any λy=>decide (v=y))) true:=by
 generalize hR:(l.any λy=>decide (v=y))=R;have kR:aN ((l.drop 0).any (λy=>decide (v=y))=R):=keep hR;clear hR;refine rcK Tz.func89 ?_;simp only[Tryz.results89,Tryz.ntmps89]
 repeat' first|(with_reducible first|apply ai|apply af|intro _)|(simp[*])
 refine bQ (λ(k:Nat)=>k<=l.length/\(l.drop k).any (λy=>decide (v=y))=R) [0,1] (λ(k:Nat)=>[(5,.w false false (.int .i64 k))]) [] (λ(k:Nat)=>[]) (λ(k:Nat)=>l.length-k) (λ(_u:Unit)=>R=false) [] (λ(_u:Unit)=>[]) [] (λ(_u:Unit)=>[]) (0) ⟨aK _,kR⟩ (by simp) (by simp) (λk hk=>?_) (λ_u hf=>?_)
 .obtain⟨hk,hj⟩:=hk;by_cases h5:k<l.length
  .rw[dg l k h5,mX] at hj;by_cases h1:nth l k=v
   .have hR:R=true:=by rw[<-hj];simp[h1]
    subst hR;clear hj kR
    repeat' first|(with_reducible first|apply ai|apply aF|apply au|apply az|apply af|apply al|intro _)|(simp[*,h5,h1])
    all_goals first|omega|exact aG (by omega) (by omega)
   .have a6:¬v=nth l k:=λe=>h1 e.symm
    have kj:aN ((l.drop (k+1)).any (λy=>decide (v=y))=R):=keep (by rw[<-hj];simp[a6]);clear hj kR a6
    repeat' first|(with_reducible first|apply ai|apply aF|apply au|apply af|apply al|refine And.intro ?_ ?_|intro _)|(simp[*,h5,h1])
    all_goals first
     |omega
     |exact aG (by omega) (by omega)
     |(refine nx (k+1) ?_ ?_;(· exact⟨by omega,kj⟩);(refine aD ?_ ?_<;>first|trivial|(simp[*];done)))
  .have hh:k=l.length:=by omega
   subst hh;have kj:aN (R=false):=keep (by rw[<-hj];simp);clear hj kR
   repeat' first|(with_reducible first|apply ai|apply aL|apply af|apply al|intro _)|(simp[*])
   all_goals first
    |(refine aZ () ?_ ?_;(· exact kj);(refine aD ?_ ?_<;>first|trivial|(simp[*];done)))
 .subst hf
  repeat' first|(with_reducible first|apply ai|apply az|apply af|intro _)|(simp[*])
theorem lV(r:Tw.RND)(ok:bR (aj r))(plan:List Int)(hp:plan.length<100000):aC Tz.prog 67 [Tw.aM r,.sl plan.length (ints plan)] (.tup [.int .i64 (dh (aj r) plan).1,.int .i64 (dh (aj r) plan).2]) true:=by
 have lo:r.os.length<=8:=ok.lo;have lc:r.ab.length<=8:=ok.lc
 have hz:r.zs.length<100000:=by have:r.zs.length<=64:=ok.lz;omega
 have c1:=λn=>eW r.ab r.os r.wt r.zs (by omega) n
 have c2:=λi k hi hk=>kW r.ab r.os r.wt r.zs i k hi hk hz
 have eR:∀i k,i<r.os.length->k<r.ab.length->nth (nth (aj r).fit i) k=cm r.ab r.os r.zs i k:=λi k hi hk=>oc r i k hi hk
 change aC Tz.prog 67 [.agg [.sl r.ab.length (aS r.ab),.sl r.os.length (aR r.os),.sl r.wt.length (a8 r.wt),.sl r.zs.length (aT r.zs)],.sl plan.length (ints plan)] _ true
 generalize hR:dh (aj r) plan=R;obtain⟨R1,R2⟩:=R;unfold dh at hR;have e1:(aj r).os.length=r.os.length:=rfl
 have eP:∀k n,ji (aj r) plan k n=if n=-1 then 0 else if ba (aU n 0 ((r.ab.length:Int)-1)) 6≠0 then ba (aU n 0 ((r.ab.length:Int)-1)) 6 else
  cX [ba (nth (nth (aj r).fit k) n.toNat) 13,ba (!((plan.take k).any λy=>decide (n=y))) 26]:=λk n=>rfl
 rw[e1] at hR;clear e1 ok;generalize hPE:ji (aj r) plan=PE at hR eP;clear hPE;generalize (aj r).fit=fit at eR eP;have kR:=keep hR;have kk:=keep (And.intro c1 (And.intro c2 (And.intro eR (And.intro eP (And.intro lo lc)))));clear hR c1 c2 eR eP lo lc hz;generalize r.ab=ab at *;generalize r.os=os at *;generalize r.wt=wt at *;generalize r.zs=zs at *;refine rcK Tz.func67 ?_;simp only[Tryz.results67,Tryz.ntmps67]
 repeat' first|(with_reducible first|apply ai|apply au|apply az|apply af|apply al|refine And.intro ?_ ?_ |  refine kZ ?_ ?_|intro _)|(simp[*])
 rotate_right
 .rename_i b1
  have a4:(plan.length:Int)=os.length:=by simpa using b1
  have kT:aN (dk PE (plan.drop 0) 0=(R1,R2)):=by
   rw[ar (λh=>h a4)] at kR;exact kR
  have kb:=keep a4;clear kR b1 a4;refine bQ (λ(k:Nat)=>k<=plan.length/\dk PE (plan.drop k) k=(R1,R2)) [1,2] (λ(k:Nat)=>[(6,.w false false (.int .i64 k))]) [0] (λ(k:Nat)=>[]) (λ(k:Nat)=>plan.length-k) (λ(_u:Unit)=>R1=0/\R2=0) [] (λ(_u:Unit)=>[]) [0] (λ(_u:Unit)=>[]) (0) ⟨aK _,kT⟩ (by simp) (by simp) (λk hk=>?_) (λ_u hf=>?_)
  .obtain⟨hk,hj⟩:=hk;clear kT;by_cases h5:k<plan.length
   .obtain⟨c1,c2,eR,eP,lo,lc⟩:=kk
    have ha:k<os.length:=by have h:(plan.length:Int)=os.length:=kb;omega
    have h9:inI .i64 ((k:Int)+1):=aG (by omega) (by omega)
    have hz:k+1<=plan.length:=by omega
    rw[dg plan k h5,dk] at hj;have c3:=lU (plan.take k) (by rw[ia];omega) (nth plan k);rw[uS hk] at c3;generalize hn:nth plan k=n at hj c3;have c1:=c1 n;have e:=eP k n;clear eP lo lc kb;by_cases h1:n=-1
    .rw[aB h1] at e;rw[aB e] at hj;have kj:=keep hj;subst h1;clear hj e c1 c2 c3 eR
     repeat' first|(with_reducible first|apply ai|apply aF|apply au|apply aL|apply af|apply al|intro _)|(simp[*,h5,ha,hn,h9])
     all_goals first
      |omega
      |(refine nx (k+1) ?_ ?_;(· exact⟨hz,kj⟩);(refine aD ?_ ?_<;>first|trivial|(simp[*];done)))
    .rw[ar h1] at e
     cases hw:aU n 0 ((ab.length:Int)-1) with
     |false=>
      rw[hw] at c1 e;have e:PE k n=6:=e;rw[e] at hj;have kj:aN (((k:Int),(6:Int))=(R1,R2)):=hj;clear hj e hw c2 c3 eR
      repeat' first|(with_reducible first|apply ai|apply aF|apply au|apply az|apply af|refine aQ (id:=7) 7 mixed (by decide +kernel) ?_|apply al|refine And.intro ?_ ?_|refine cw (c1) ?_|intro _)|(simp[*,h5,ha,hn,h1,h9])|(refine ae (c1) ?_ ?_;(· (simp[*];done)))
      all_goals first
       |omega
       |exact (br kj).1
       |exact (br kj).2
     |true=>
      rw[hw] at c1 e;have hb:=bM.1 hw;obtain⟨m,rfl⟩:∃m:Nat,n=m:=⟨n.toNat,by omega⟩
      have hm:m<ab.length:=by omega
      have c2:=c2 k m ha hm;rw[bT,eR k m ha hm] at e;have e:PE k m=cX [ba (cm ab os zs k m) 13,ba (!((plan.take k).any λy=>decide ((m:Int)=y))) 26]:=e;have a5:¬(m:Int)=-1:=h1;clear hw hb h1 eR;generalize cm ab os zs k m=fb at *;generalize ((plan.take k).any λy=>decide ((m:Int)=y))=hb at *
      cases fb with
      |false=>
       have e:PE k m=13:=e;rw[e] at hj;have kj:aN (((k:Int),(13:Int))=(R1,R2)):=hj;clear hj e c3
       repeat' first|(with_reducible first|apply ai|apply aF|apply au|apply az|apply af|refine aQ (id:=7) 7 mixed (by decide +kernel) ?_|refine aQ (id:=9) 8 mixed (by decide +kernel) ?_|apply al|refine And.intro ?_ ?_|refine cw (c1) ?_|refine cw (c2) ?_|intro _)|(simp[*,h5,ha,hn,a5,h9])|(refine ae (c1) ?_ ?_;(· (simp[*];done)))|(refine ae (c2) ?_ ?_;(· (simp[*];done)))
       all_goals first
        |omega
        |exact (br kj).1
        |exact (br kj).2
      |true=>
       cases hb with
       |true=>
        have e:PE k m=26:=e;rw[e] at hj;have kj:aN (((k:Int),(26:Int))=(R1,R2)):=hj;clear hj e
        repeat' first|(with_reducible first|apply ai|apply aF|apply au|apply az|apply af|refine aQ (id:=7) 7 mixed (by decide +kernel) ?_|refine aQ (id:=9) 8 mixed (by decide +kernel) ?_|refine aQ (id:=11) 8 mixed (by decide +kernel) ?_|apply al|refine And.intro ?_ ?_|refine cw (c1) ?_|refine cw (c2) ?_|refine cw (c3) ?_|intro _)|(simp[*,h5,ha,hn,a5,h9])|(refine ae (c1) ?_ ?_;(· (simp[*];done)))|(refine ae (c2) ?_ ?_;(· (simp[*];done)))|(refine ae (c3) ?_ ?_;(· (simp[*];done)))
        all_goals first
         |omega
         |exact (br kj).1
         |exact (br kj).2
       |false=>
        have e:PE k m=0:=e;rw[aB e] at hj;have kj:=keep hj;clear hj e
        repeat' first|(with_reducible first|apply ai|apply aF|apply au|apply af|refine aQ (id:=7) 7 mixed (by decide +kernel) ?_|refine aQ (id:=9) 8 mixed (by decide +kernel) ?_|refine aQ (id:=11) 8 mixed (by decide +kernel) ?_|apply al|refine And.intro ?_ ?_|refine cw (c1) ?_|refine cw (c2) ?_|refine cw (c3) ?_|intro _)|(simp[*,h5,ha,hn,a5,h9])|(refine ae (c1) ?_ ?_;(· (simp[*];done)))|(refine ae (c2) ?_ ?_;(· (simp[*];done)))|(refine ae (c3) ?_ ?_;(· (simp[*];done)))
        all_goals first
         |omega
         |(refine nx (k+1) ?_ ?_;(· exact⟨hz,kj⟩);(refine aD ?_ ?_<;>first|trivial|(simp[*];done)))
   .have hh:k=plan.length:=by omega
    subst hh;rw[fg] at hj;have kj:aN (((0:Int),(0:Int))=(R1,R2)):=hj;clear hj kk kb
    repeat' first|(with_reducible first|apply ai|apply aL|apply af|apply al|intro _)|(simp[*])
    all_goals first
     |omega
     |(refine aZ () ?_ ?_;(· exact⟨(br kj).1.symm,(br kj).2.symm⟩);(refine aD ?_ ?_<;>first|trivial|(simp[*];done)))
  .obtain⟨rfl,rfl⟩:=hf;clear kk kb kT
   repeat' first|(with_reducible first|apply ai|apply az|apply af|intro _)|(simp[*])
 all_goals first
  |(rename_i b1;rw[aB (by simpa using b1)] at kR;first|exact (br kR).1|exact (br kR).2)
structure eA(os:List Ord)(wt:List (List Int))(plan:List Int):Prop where
 lo:os.length<=8
 pl:plan.length=os.length
 wl:wt.length=os.length
 pr:∀i,i<os.length->0<=(nth os i).2.2.2/\(nth os i).2.2.2<=6
 wn:∀i,i<plan.length->nth plan i=-1\/(0<=nth plan i/\nth plan i<((nth wt i).length:Int)/\0<=nth (nth wt i) (nth plan i).toNat/\nth (nth wt i) (nth plan i).toNat<=100000)
theorem l9(r:Tw.RND)(ok:bR (aj r))(plan:List Int)(h:cn (aj r) plan):eA r.os r.wt plan:=by
 have lo:r.os.length<=8:=ok.lo;have hl:plan.length=r.os.length:=h.len;refine⟨lo,hl,ok.lw,ok.pr,λi hi=>?_⟩
 rcases h.at_ i hi with h1|⟨h1,h2⟩
 .exact .inl h1
 .have hc:nth plan i<(r.ab.length:Int):=h2;have hr:(nth r.wt i).length=r.ab.length:=ok.wr i (by show i<r.os.length;omega);have:=ok.wn i (by show i<r.os.length;omega) (nth plan i).toNat (by show _<r.ab.length;omega);exact .inr ⟨h1,by omega,this⟩
theorem km{os:List Ord}{wt:List (List Int)}{plan:List Int}(h:eA os wt plan):∀k,k<=plan.length->0<=rcQ os wt plan k/\rcQ os wt plan k<=1000000000000*(k:Int)
 |0,_=>by unfold rcQ;simp
 |k+1,hk=>by
  have ih:=km h k (by omega);have h1:=h.wn k (by omega);have h2:=h.pr k (by have:=h.pl;omega);have h3:=nz (nth os k).2.2.2.toNat (by omega);unfold rcQ;split
  .omega
  .rename_i hn;have h4:=h1.resolve_left hn;omega
theorem ml(ab:List Car)(os:List Ord)(wt:List (List Int))(zs:List Par)(plan:List Int)(h:eA os wt plan):aC Tz.prog 28 [.agg [.sl ab.length (aS ab),.sl os.length (aR os),.sl wt.length (a8 wt),.sl zs.length (aT zs)],.sl plan.length (ints plan)] (.int .i64 (rcS os wt plan)) true:=by
 have eS:rcS os wt plan=rcQ os wt plan plan.length:=rfl
 have eK:∀k,rcQ os wt plan (k+1)=rcQ os wt plan k+if nth plan k=-1 then bw (nth os k).2.2.2.toNat else nth (nth wt k) (nth plan k).toNat:=λ_=>rfl
 have e0:rcQ os wt plan 0=0:=rfl;have bd:=km h;rw[eS];generalize rcQ os wt plan=K at *;obtain⟨lo,pl,wl,pr,wn⟩:=h;have kk:=keep (And.intro eK (And.intro bd (And.intro lo (And.intro pl (And.intro wl (And.intro pr wn))))));clear eS eK bd lo pl wl pr wn;refine rcK Tz.func28 ?_;simp only[Tryz.results28,Tryz.ntmps28]
 repeat' first|(with_reducible first|apply ai|apply af|intro _)|(simp[*])
 refine bQ (λ(k:Nat)=>k<=plan.length) [1,2] (λ(k:Nat)=>[(6,.w false false (.int .i64 k)),(5,.w false false (.int .i64 (K k)))]) [0] (λ(k:Nat)=>[]) (λ(k:Nat)=>plan.length-k) (λ(_u:Unit)=>True) [] (λ(_u:Unit)=>[(5,.w false false (.int .i64 (K plan.length)))]) [0] (λ(_u:Unit)=>[]) (0) (aK _) (by simp[e0]) (by simp[e0]) (λk hk=>?_) (λ_u hf=>?_)
 .clear e0;by_cases h5:k<plan.length
  .obtain⟨eK,bd,lo,pl,wl,pr,wn⟩:=kk
   have ha:k<os.length:=by omega
   have h8:k<wt.length:=by omega
   have h9:inI .i64 ((k:Int)+1):=aG (by omega) (by omega)
   have hz:k+1<=plan.length:=by omega
   have a9:(k:Int)<8:=by omega
   have b2:=bd (k+1) hz;have e:=eK k;have pr:=pr k ha;have wn:=wn k h5;obtain⟨q,hq⟩:∃q:Nat,(nth os k).2.2.2=(q:Int):=⟨(nth os k).2.2.2.toNat,by omega⟩;rw[hq,bT] at e;have c1:=GM q (by omega);generalize hn:nth plan k=n at *;clear eK bd lo pl wl;have hg:inI .i64 (K (k+1)):=aG (by omega) (by omega);clear b2 a9 pr
   rcases wn with h1|⟨h1,h2,h3,h4⟩
   .rw[aB h1] at e;subst h1;generalize bw q=pp at *;have e':=e.symm;clear e
    repeat' first|(with_reducible first|apply ai|apply aF|apply au|apply af|apply al|refine And.intro ?_ ?_|refine cw (c1) ?_|intro _)|(simp[*,h5,ha,hn,hq,e',h9,hg,Tw.cg])|(refine ae (c1) ?_ ?_;(· (simp[*];done)))
    all_goals first
     |omega
     |assumption
     |(refine nx (k+1) ?_ ?_;(· exact hz);(refine aD ?_ ?_<;>first|trivial|(simp[*];done)))
   .obtain⟨m,rfl⟩:∃m:Nat,n=m:=⟨n.toNat,by omega⟩
    have h0:¬(m:Int)=-1:=by omega
    rw[ar h0,bT] at e
    have hm:m<(nth wt k).length:=by omega
    have e':=e.symm;clear e h1 h2 h3 h4 c1
    repeat' first|(with_reducible first|apply ai|apply aF|apply au|apply af|refine aQ (id:=7) 13 mixed (by decide +kernel) ?_|apply al|intro _)|(simp[*,h5,ha,h8,hn,h0,hm,e',h9,hg])
    all_goals first
     |omega
     |assumption
     |(refine nx (k+1) ?_ ?_;(· exact hz);(refine aD ?_ ?_<;>first|trivial|(simp[*];done)))
  .have hh:k=plan.length:=by omega
   subst hh;clear kk
   repeat' first|(with_reducible first|apply ai|apply aL|apply af|apply al|intro _)|(simp[*])
   all_goals first
    |omega
    |(refine aZ () ?_ ?_;(· trivial);(refine aD ?_ ?_<;>first|trivial|(simp[*];done)))
 .clear kk
  repeat' first|(with_reducible first|apply ai|apply az|apply af|intro _)|(simp[*])
def bB(plan:List Int):Nat->List Int
 |0=>[]
 |k+1=>if nth plan k=-1 then bB plan k else bB plan k++[(k:Int)]
def bL(plan:List Int):List Int:=bB plan plan.length
theorem cN(plan:List Int):∀k,(bB plan k).length<=k
 |0=>aE _
 |k+1=>by have:=cN plan k;unfold bB;split<;>simp<;>omega
theorem mz(plan:List Int)(hl:plan.length<100000):aC Tz.prog 35 [.sl plan.length (ints plan)] (.sl (bL plan).length (ints (bL plan))) true:=by
 have eS:bL plan=bB plan plan.length:=rfl
 have eK:∀k,bB plan (k+1)=if nth plan k=-1 then bB plan k else bB plan k++[(k:Int)]:=λ_=>rfl
 have bd:=cN plan;have e0:bB plan 0=[]:=rfl;rw[eS];generalize bB plan=K at *;have kk:=keep (And.intro eK bd)
 have e1:(K 0).length=0:=by rw[e0];rfl
 have e2:iA (K 0)=[]:=by rw[e0];rfl
 clear eS eK bd e0;refine rcK Tz.func35 ?_;simp only[Tryz.results35,Tryz.ntmps35]
 repeat' first|(with_reducible first|apply ai|apply af|intro _)|(simp[*])
 refine df 1 (λ(k:Nat)=>k<=plan.length) [0] (λ(k:Nat)=>[(4,.w false false (.int .i64 k)),(3,.msl 0 (K k).length 1 0 (K k).length)]) [] (λ(k:Nat)=>[(0,iA (K k))]) (λ(k:Nat)=>plan.length-k) (λ(_u:Unit)=>True) [] (λ(_u:Unit)=>[(3,.msl 0 (K plan.length).length 1 0 (K plan.length).length)]) [] (λ(_u:Unit)=>[(0,iA (K plan.length))]) (0) (aK _) (aO [] (by simp[e1,e2]) (by simp[e1,e2])) (λk hk=>?_) (λ_u hf=>?_)
 .clear e1 e2;by_cases h5:k<plan.length
  .obtain⟨eK,bd⟩:=kk;have e:=eK k;have b:=bd k;have h9:inI .i64 ((k:Int)+1):=aG (by omega) (by omega)
   have hz:k+1<=plan.length:=by omega
   have a7:(K k).length+1<=1000000000:=by omega
   clear eK bd;by_cases h1:nth plan k=-1
   .rw[aB h1] at e
    repeat' first|(with_reducible first|apply ai|apply aF|apply au|apply af|apply al|intro _)|(simp[*,h5,h1,h9])
    all_goals first
     |omega
     |assumption
     |(refine nx (k+1) ?_ ?_;(· exact hz);(refine aO [] ?_ ?_<;>first|trivial|(simp[*,e];done)))
   .rw[ar h1] at e
    have e3:iA (K (k+1))=iA (K k)++[.w false false (.int .i64 k)]:=by rw[e,<-ic];rfl
    have e4:(K (k+1)).length=(K k).length+1:=by rw[e];simp
    clear e
    repeat' first|(with_reducible first|apply ai|apply aF|apply au|apply af|apply al|intro _)|(simp[*,h5,h1,h9])
    all_goals first
     |omega
     |assumption
     |(refine nx (k+1) ?_ ?_;(· exact hz);(refine aO [] ?_ ?_<;>first|trivial|(simp[*,e3,e4];done)))
  .have hh:k=plan.length:=by omega
   subst hh;clear kk
   repeat' first|(with_reducible first|apply ai|apply aL|apply af|apply al|intro _)|(simp[*,h5])
   all_goals first
    |omega
    |(refine aZ () ?_ ?_;(· trivial);(refine aD ?_ ?_<;>first|trivial|(simp[*];done)))
 .clear kk e1 e2
  repeat' first|(with_reducible first|apply ai|apply az|apply af|intro _)|(simp[*])
  all_goals first|omega|trivial
def bA(wt:List (List Int))(plan:List Int):Nat->Int
 |0=>0
 |k+1=>if nth plan k=-1 then bA wt plan k else if bA wt plan k<nth (nth wt k) (nth plan k).toNat then nth (nth wt k) (nth plan k).toNat else bA wt plan k
def cE(wt:List (List Int))(plan:List Int):Int:=bA wt plan plan.length
theorem mC(ab:List Car)(os:List Ord)(wt:List (List Int))(zs:List Par)(plan:List Int)(h:eA os wt plan):aC Tz.prog 36 [.agg [.sl ab.length (aS ab),.sl os.length (aR os),.sl wt.length (a8 wt),.sl zs.length (aT zs)],.sl plan.length (ints plan)] (.int .i64 (cE wt plan)) true:=by
 have eS:cE wt plan=bA wt plan plan.length:=rfl
 have eK:∀k,bA wt plan (k+1)=if nth plan k=-1 then bA wt plan k else if bA wt plan k<nth (nth wt k) (nth plan k).toNat then nth (nth wt k) (nth plan k).toNat else bA wt plan k:=λ_=>rfl
 have e0:bA wt plan 0=0:=rfl;rw[eS];generalize bA wt plan=K at *;obtain⟨lo,pl,wl,pr,wn⟩:=h;have kk:=keep (And.intro eK (And.intro lo (And.intro pl (And.intro wl wn))));clear eS eK lo pl wl pr wn;refine rcK Tz.func36 ?_;simp only[Tryz.results36,Tryz.ntmps36]
 repeat' first|(with_reducible first|apply ai|apply af|intro _)|(simp[*])
 refine bQ (λ(k:Nat)=>k<=plan.length) [1,2] (λ(k:Nat)=>[(6,.w false false (.int .i64 k)),(5,.w false false (.int .i64 (K k)))]) [0] (λ(k:Nat)=>[]) (λ(k:Nat)=>plan.length-k) (λ(_u:Unit)=>True) [] (λ(_u:Unit)=>[(5,.w false false (.int .i64 (K plan.length)))]) [0] (λ(_u:Unit)=>[]) (0) (aK _) (by simp[e0]) (by simp[e0]) (λk hk=>?_) (λ_u hf=>?_)
 .clear e0;by_cases h5:k<plan.length
  .obtain⟨eK,lo,pl,wl,wn⟩:=kk
   have h8:k<wt.length:=by omega
   have h9:inI .i64 ((k:Int)+1):=aG (by omega) (by omega)
   have hz:k+1<=plan.length:=by omega
   have e:=eK k;have wn:=wn k h5;generalize hn:nth plan k=n at *;clear eK lo pl wl
   rcases wn with h1|⟨h1,h2,h3,h4⟩
   .rw[aB h1] at e;subst h1
    repeat' first|(with_reducible first|apply ai|apply aF|apply au|apply af|apply al|intro _)|(simp[*,h5,hn,h9])
    all_goals first
     |omega
     |assumption
     |(refine nx (k+1) ?_ ?_;(· exact hz);(refine aD ?_ ?_<;>first|trivial|(simp[*,e];done)))
   .obtain⟨m,rfl⟩:∃m:Nat,n=m:=⟨n.toNat,by omega⟩
    have h0:¬(m:Int)=-1:=by omega
    rw[ar h0,bT] at e
    have hm:m<(nth wt k).length:=by omega
    clear h1 h2 h3 h4
    repeat' first|(with_reducible first|apply ai|apply aF|apply au|apply af|refine aQ (id:=6) 13 mixed (by decide +kernel) ?_|apply al|intro _)|(simp[*,h5,h8,hn,h0,hm,h9])
    all_goals first
     |omega
     |assumption
     |(refine nx (k+1) ?_ ?_;(· exact hz);(refine aD ?_ ?_<;>first|trivial|(simp[*,e];done)))
  .have hh:k=plan.length:=by omega
   subst hh;clear kk
   repeat' first|(with_reducible first|apply ai|apply aL|apply af|apply al|intro _)|(simp[*])
   all_goals first
    |omega
    |(refine aZ () ?_ ?_;(· trivial);(refine aD ?_ ?_<;>first|trivial|(simp[*];done)))
 .clear kk
  repeat' first|(with_reducible first|apply ai|apply az|apply af|intro _)|(simp[*])
end Go.Proofs.YthpkmilhiganjaaGreat
namespace Go.Proofs.YthpkmilhiganjaaGreat
open Go Go.Fi
noncomputable instance C6:av:=LD
noncomputable def peS(r:Tw.RND)(plan:List Int):Int:=if ceR r≠0 then ceR r else (dh (aj r) plan).2
theorem ku(r:Tw.RND)(plan:List Int)(hp:plan.length<100000)(h:peS r plan≠0):∃p,aC Tz.prog 77 [Tw.aM r,.sl plan.length (ints plan)] (.tup [p,.int .i64 (peS r plan)]) false:=by
 unfold peS at *;by_cases he:ceR r=0
 .have hn:¬(ceR r≠0):=λe=>e he
  rw[ar hn];exact⟨_,cH r plan hp he⟩
 .rw[aB he];exact⟨_,fh r plan he⟩
theorem mE(r:Tw.RND)(plan:List Int)(h:ceR r≠0):aC Tz.prog 64 [Tw.aM r,.sl plan.length (ints plan)] (.tup [.int .i64 0,.int .i64 (ceR r)]) true:=by
 have c1:=dI r;rw[k8 r h] at c1;generalize ceR r=e at *;unfold Tw.aM at *;generalize r.cz=p1 at *;generalize r.osP=p2 at *;generalize r.cT=p3 at *;generalize r.zsP=p4 at *;refine rcK Tz.func64 ?_;simp only[Tryz.results64,Tryz.ntmps64]
 repeat' first|(with_reducible first|apply ai|apply az|apply af|apply al|refine And.intro ?_ ?_|refine cw (c1) ?_|intro _)|(simp[*,h])|(refine ae (c1) ?_ ?_;(· (simp[*];done)))
 all_goals first|omega
theorem mF(r:Tw.RND)(plan:List Int)(hp:plan.length<100000)(h:ceR r=0):aC Tz.prog 64 [Tw.aM r,.sl plan.length (ints plan)] (.tup [.int .i64 (dh (aj r) plan).1,.int .i64 (dh (aj r) plan).2]) true:=by
 have c1:=dI r;rw[gr r h] at c1;have c2:=GN (aj r) plan hp (eZ r) (eB r) (eE r);generalize dh (aj r) plan=R at *;generalize aj r=x at *;unfold Tw.aM Rd.pv at *;generalize r.cz=p1 at *;generalize r.osP=p2 at *;generalize r.cT=p3 at *;generalize r.zsP=p4 at *;clear h;refine rcK Tz.func64 ?_;simp only[Tryz.results64,Tryz.ntmps64]
 repeat' first|(with_reducible first|apply ai|apply au|apply az|apply af|apply al|refine And.intro ?_ ?_|refine cw (c1) ?_|refine cw (c2) ?_|intro _)|(simp[*])|(refine ae (c1) ?_ ?_;(· (simp[*];done)))|(refine ae (c2) ?_ ?_;(· (simp[*];done)))
 all_goals first|omega
theorem kx(r:Tw.RND)(plan:List Int)(hp:plan.length<100000)(h:peS r plan≠0):aC Tz.prog 65 [Tw.aM r,.sl plan.length (ints plan)] (.tup [.sl 0 [],.int .i64 (peS r plan)]) false:=by
 obtain⟨p,c1⟩:=ku r plan hp h;generalize peS r plan=e at *;unfold Tw.aM at *;generalize r.cz=p1 at *;generalize r.osP=p2 at *;generalize r.cT=p3 at *;generalize r.zsP=p4 at *;refine rcK Tz.func65 ?_;simp only[Tryz.results65,Tryz.ntmps65]
 repeat' first|(with_reducible first|apply ai|apply az|apply af|apply al|refine And.intro ?_ ?_|refine cw (c1) ?_|intro _)|(simp[*,h])|(refine ae (c1) ?_ ?_;(· (simp[*];done)))
 all_goals first|omega
theorem kz(r:Tw.RND)(plan:List Int)(hp:plan.length<100000)(h:peS r plan≠0):aC Tz.prog 66 [Tw.aM r,.sl plan.length (ints plan)] (.tup [.int .i64 0,.int .i64 (peS r plan)]) false:=by
 obtain⟨p,c1⟩:=ku r plan hp h;generalize peS r plan=e at *;unfold Tw.aM at *;generalize r.cz=p1 at *;generalize r.osP=p2 at *;generalize r.cT=p3 at *;generalize r.zsP=p4 at *;refine rcK Tz.func66 ?_;simp only[Tryz.results66,Tryz.ntmps66]
 repeat' first|(with_reducible first|apply ai|apply az|apply af|apply al|refine And.intro ?_ ?_|refine cw (c1) ?_|intro _)|(simp[*,h])|(refine ae (c1) ?_ ?_;(· (simp[*];done)))
 all_goals first|omega
theorem mH(r:Tw.RND)(plan:List Int)(hp:plan.length<100000)(h:ceR r=0)(h2:(dh (aj r) plan).2=0):aC Tz.prog 65 [Tw.aM r,.sl plan.length (ints plan)] (.tup [.sl (bL plan).length (ints (bL plan)),.int .i64 0]) false:=by
 have ok:=dS r h;have hin:=cM _ _ h2;have c1:=cH r plan hp h;rw[h2] at c1
 have wr:∀i,i<plan.length->i<(aj r).wt.length/\(nth (aj r).wt i).length=(aj r).ab.length:=λi hi=>by
  have hl:=hin.len;exact⟨by rw[ok.lw];omega,ok.wr i (by omega)⟩
 have at_:=hin.at_;have eS:bL plan=bB plan plan.length:=rfl
 have eK:∀k,bB plan (k+1)=if nth plan k=-1 then bB plan k else bB plan k++[(k:Int)]:=λ_=>rfl
 have bd:=cN plan;have e0:bB plan 0=[]:=rfl;rw[eS];generalize bB plan=K at *;generalize aj r=x at *;have cs:=xd x plan;obtain⟨ab,os,wt,zs,fit⟩:=x;have kk:=keep (And.intro eK (And.intro bd (And.intro wr (And.intro at_ hp))))
 have e1:(K 0).length=0:=by rw[e0];rfl
 have e2:iA (K 0)=[]:=by rw[e0];rfl
 clear eS eK bd e0 wr at_ hin ok h h2 hp;unfold Rd.pv at *;simp only[] at c1 cs;unfold Tw.aM at *;generalize r.cz=p1 at *;generalize r.osP=p2 at *;generalize r.cT=p3 at *;generalize r.zsP=p4 at *;refine oO Tz.func65 (by kernel_rfl) rfl (di (by kernel_rfl)) ?_;simp only[Tryz.results65,Tryz.ntmps65];refine cP (cO ?_)
 repeat' first|(with_reducible first|apply af|intro _)|(simp[*])
 refine cP (cO ?_)
 repeat' first|(with_reducible first|apply af|refine And.intro ?_ ?_|refine cw (c1) ?_|intro _)|(simp[*])|(refine ae (c1) ?_ ?_;(· (simp[*];done)))
 clear c1;refine cP (cP (cO ?_))
 repeat' first|(with_reducible first|apply af|intro _)|(simp[*])
 refine oS (o:=false) (f:=false) (b:=false) rfl ?_;simp only[cond_false];refine cO ?_
 repeat' first|(with_reducible first|apply au|intro _)|(simp[*])
 refine cP (cO ?_)
 repeat' first|(with_reducible first|apply af|intro _)|(simp[*])
 refine cP (cP (cO ?_))
 repeat' first|(with_reducible first|apply af|refine And.intro ?_ ?_|refine cw (cs) ?_|intro _)|(simp[*])|(refine ae (cs) ?_ ?_;(· (simp[*];done)))
 clear cs;refine l8 (ry (gf:=122) (aH:=[.w false false (.ip [.sl plan.length (ints plan)] 0),.w false false (.ip [.ip [.sl ab.length (aS ab),.sl os.length (aR os),.sl wt.length (a8 wt),.sl zs.length (aT zs),.sl fit.length (lJ fit)] 0] 0)]) ?_ Tz.func122 (by kernel_rfl) rfl (di (by kernel_rfl)) (λl=>?_))
 .rfl
 simp only[Tryz.results122,Tryz.ntmps122];simp
 repeat' first|(with_reducible first|apply ai|apply af|intro _)|(simp[*])
 all_goals try first|exact aG (by omega) (by omega)|omega
 refine df 3 (λ(k:Nat)=>k<=plan.length) [0,2,6,7] (λ(k:Nat)=>[(8,.w false false (.int .i64 k))]) [0] (λ(k:Nat)=>[(1,[.msl 2 (K k).length 1 0 (K k).length]),(2,iA (K k))]) (λ(k:Nat)=>plan.length-k) (λ(_u:Unit)=>True) [] (λ(_u:Unit)=>[]) [0] (λ(_u:Unit)=>[(1,[.msl 2 (K plan.length).length 1 0 (K plan.length).length]),(2,iA (K plan.length))]) (0) (aK _) (aO [] (by simp[e1,e2]) (by simp[e1,e2])) (λk hk=>?_) (λ_u hf=>?_)
 .clear e1 e2;by_cases h5:k<plan.length
  .obtain⟨eK,bd,wr,at_,hp⟩:=kk;obtain⟨h8,hr⟩:=wr k h5;have e:=eK k;have b:=bd k;have hn:=at_ k h5;have hg:inI .i64 ((k:Int)+1):=aG (by omega) (by omega)
   have hz:k+1<=plan.length:=by omega
   have a7:(K k).length+1<=1000000000:=by omega
   clear eK bd wr at_ hp b;generalize hq:nth plan k=q at *
   rcases hn with hn|hn
   .rw[aB hn] at e;subst hn;clear h8 hr
    repeat' first|(with_reducible first|refine mf (id:=3) 16 ?_ ?_|apply ai|apply aF|apply au|apply af|apply al|intro _)|(simp[*,h5,hq,hg])
    all_goals first
     |omega
     |assumption
     |(refine nx (k+1) ?_ ?_;(· exact hz);(refine aO [] ?_ ?_<;>first|trivial|(simp[*,e];done)))
   .have hy:¬q=-1:=by omega
    obtain⟨m,rfl⟩:∃m:Nat,q=m:=⟨q.toNat,by omega⟩;rw[ar hy] at e;have h8:k<wt.length:=h8
    have hm:m<(nth wt k).length:=by
     have h1:(nth wt k).length=ab.length:=hr;have h2:(m:Int)<(ab.length:Int):=hn.2;omega
    have e3:iA (K (k+1))=iA (K k)++[.w false false (.int .i64 k)]:=by rw[e,<-ic];rfl
    have e4:(K (k+1)).length=(K k).length+1:=by rw[e];simp
    clear hn e hr
    repeat' first|(with_reducible first|refine mf (id:=3) 16 ?_ ?_|apply ai|apply aF|apply au|apply af|apply al|intro _)|(simp[*,h5,h8,hq,hg,hy,hm])
    all_goals try first|omega|assumption
    refine rC rfl (by simp) ?_
    repeat' first|(with_reducible first|apply iV|apply af|intro _)|(simp[*,a7])
    all_goals try first|omega|assumption
    refine tY [(2,iA (K (k+1))),(1,[.msl 2 (K (k+1)).length 1 0 (K (k+1)).length]),(0,[.w false false p1,.w false false p2,.w false false p3,.w false false p4])] 3 29 ?_ ?_
    .refine aO [] ?_ ?_<;>first|trivial|(simp[e3,e4];done)
    repeat' first|(with_reducible first|apply au|apply af|apply al|intro _)|(simp[*,h5,h8,hq,hg,hy,hm])
    all_goals first
     |omega
     |assumption
     |(refine nx (k+1) ?_ ?_;(· exact hz);(refine aO [] ?_ ?_<;>first|trivial|(simp[*];done)))
  .have hh:k=plan.length:=by omega
   subst hh;clear kk
   repeat' first|(with_reducible first|apply ai|apply aL|apply af|apply al|intro _)|(simp[*,h5])
   all_goals first
    |omega
    |(refine aZ () ?_ ?_;(· trivial);(refine aD ?_ ?_<;>first|trivial|(simp[*];done)))
 .clear kk e1 e2
  repeat' first|(with_reducible first|intro _)|(simp[*])
  simp[dC];refine cP (cO ?_)
  repeat' first|(with_reducible first|apply af|intro _)|(simp[*])
  refine cO ?_
  repeat' first|(with_reducible first|apply az|intro _)|(simp[*])
  all_goals first|omega|trivial
theorem mI(r:Tw.RND)(plan:List Int)(hp:plan.length<100000)(h:ceR r=0)(h2:(dh (aj r) plan).2=0):aC Tz.prog 66 [Tw.aM r,.sl plan.length (ints plan)] (.tup [.int .i64 (cE r.wt plan),.int .i64 0]) false:=by
 have ok:=dS r h;have hin:=cM _ _ h2;have c1:=cH r plan hp h;rw[h2] at c1
 have wr:∀i,i<plan.length->i<(aj r).wt.length/\(nth (aj r).wt i).length=(aj r).ab.length:=λi hi=>by
  have hl:=hin.len;exact⟨by rw[ok.lw];omega,ok.wr i (by omega)⟩
 have at_:=hin.at_;have eS:cE r.wt plan=bA (aj r).wt plan plan.length:=rfl
 have eK:∀k,bA (aj r).wt plan (k+1)=if nth plan k=-1 then bA (aj r).wt plan k else if bA (aj r).wt plan k<nth (nth (aj r).wt k) (nth plan k).toNat then nth (nth (aj r).wt k) (nth plan k).toNat else bA (aj r).wt plan k:=λ_=>rfl
 have e0:bA (aj r).wt plan 0=0:=rfl;rw[eS];generalize bA (aj r).wt plan=K at *;generalize aj r=x at *;have cs:=xd x plan;obtain⟨ab,os,wt,zs,fit⟩:=x;have kk:=keep (And.intro eK (And.intro wr (And.intro at_ hp)));clear eS eK wr at_ hin ok h h2 hp;unfold Rd.pv at *;simp only[] at c1 cs;unfold Tw.aM at *;generalize r.cz=p1 at *;generalize r.osP=p2 at *;generalize r.cT=p3 at *;generalize r.zsP=p4 at *;refine oO Tz.func66 (by kernel_rfl) rfl (di (by kernel_rfl)) ?_;simp only[Tryz.results66,Tryz.ntmps66];refine cP (cO ?_)
 repeat' first|(with_reducible first|apply af|intro _)|(simp[*])
 refine cP (cO ?_)
 repeat' first|(with_reducible first|apply af|refine And.intro ?_ ?_|refine cw (c1) ?_|intro _)|(simp[*])|(refine ae (c1) ?_ ?_;(· (simp[*];done)))
 clear c1;refine cP (cP (cO ?_))
 repeat' first|(with_reducible first|apply af|intro _)|(simp[*])
 refine oS (o:=false) (f:=false) (b:=false) rfl ?_;simp only[cond_false];refine cO ?_
 repeat' first|(with_reducible first|apply au|intro _)|(simp[*])
 refine cP (cO ?_)
 repeat' first|(with_reducible first|apply af|intro _)|(simp[*])
 refine cP (cP (cO ?_))
 repeat' first|(with_reducible first|apply af|refine And.intro ?_ ?_|refine cw (cs) ?_|intro _)|(simp[*])|(refine ae (cs) ?_ ?_;(· (simp[*];done)))
 clear cs;refine l8 (ry (gf:=122) (aH:=[.w false false (.ip [.sl plan.length (ints plan)] 0),.w false false (.ip [.ip [.sl ab.length (aS ab),.sl os.length (aR os),.sl wt.length (a8 wt),.sl zs.length (aT zs),.sl fit.length (lJ fit)] 0] 0)]) ?_ Tz.func122 (by kernel_rfl) rfl (di (by kernel_rfl)) (λl=>?_))
 .rfl
 simp only[Tryz.results122,Tryz.ntmps122];simp
 repeat' first|(with_reducible first|apply ai|apply af|intro _)|(simp[*])
 all_goals try first|exact aG (by omega) (by omega)|omega
 refine df 2 (λ(k:Nat)=>k<=plan.length) [0,2,6,7] (λ(k:Nat)=>[(8,.w false false (.int .i64 k))]) [0] (λ(k:Nat)=>[(1,[.w false false (.int .i64 (K k))])]) (λ(k:Nat)=>plan.length-k) (λ(_u:Unit)=>True) [] (λ(_u:Unit)=>[]) [0] (λ(_u:Unit)=>[(1,[.w false false (.int .i64 (K plan.length))])]) (0) (aK _) (aO [] (by simp[e0]) (by simp[e0])) (λk hk=>?_) (λ_u hf=>?_)
 .clear e0;by_cases h5:k<plan.length
  .obtain⟨eK,wr,at_,hp⟩:=kk;obtain⟨h8,hr⟩:=wr k h5;have e:=eK k;have hn:=at_ k h5;have hg:inI .i64 ((k:Int)+1):=aG (by omega) (by omega)
   have hz:k+1<=plan.length:=by omega
   clear eK wr at_ hp;generalize hq:nth plan k=q at *
   rcases hn with hn|hn
   .rw[aB hn] at e;subst hn;clear h8 hr
    repeat' first|(with_reducible first|refine mf (id:=3) 16 ?_ ?_|apply ai|apply aF|apply au|apply af|apply al|intro _)|(simp[*,h5,hq,hg])
    all_goals first
     |omega
     |assumption
     |(refine nx (k+1) ?_ ?_;(· exact hz);(refine aO [] ?_ ?_<;>first|trivial|(simp[*,e];done)))
   .have hy:¬q=-1:=by omega
    obtain⟨m,rfl⟩:∃m:Nat,q=m:=⟨q.toNat,by omega⟩;rw[ar hy] at e;have h8:k<wt.length:=h8
    have hm:m<(nth wt k).length:=by
     have h1:(nth wt k).length=ab.length:=hr;have h2:(m:Int)<(ab.length:Int):=hn.2;omega
    rw[bT] at e
    have e:K (k+1)=if K k<nth (nth wt k) m then nth (nth wt k) m else K k:=e
    clear hn hr
    repeat' first|(with_reducible first|refine mf (id:=3) 16 ?_ ?_|apply ai|apply aF|apply au|apply af|apply al|intro _)|(simp[*,h5,h8,hq,hg,hy,hm])
    all_goals try first|omega|assumption
    refine rC rfl (by simp) ?_
    repeat' first|(with_reducible first|apply iV|apply af|intro _)|(simp[*])
    all_goals try first|omega|assumption
    refine tY [(1,[.w false false (.int .i64 (K (k+1)))]),(0,[.w false false p1,.w false false p2,.w false false p3,.w false false p4])] 2 29 ?_ ?_
    .refine aO [] ?_ ?_<;>first|trivial|(simp[e];done)
    repeat' first|(with_reducible first|apply au|apply af|apply al|intro _)|(simp[*,h5,h8,hq,hg,hy,hm])
    all_goals first
     |omega
     |assumption
     |(refine nx (k+1) ?_ ?_;(· exact hz);(refine aO [] ?_ ?_<;>first|trivial|(simp[*];done)))
  .have hh:k=plan.length:=by omega
   subst hh;clear kk
   repeat' first|(with_reducible first|apply ai|apply aL|apply af|apply al|intro _)|(simp[*,h5])
   all_goals first
    |omega
    |(refine aZ () ?_ ?_;(· trivial);(refine aD ?_ ?_<;>first|trivial|(simp[*];done)))
 .clear kk e0
  repeat' first|(with_reducible first|intro _)|(simp[*])
  simp[dC];refine cP (cO ?_)
  repeat' first|(with_reducible first|apply af|intro _)|(simp[*])
  refine cO ?_
  repeat' first|(with_reducible first|apply az|intro _)|(simp[*])
  all_goals first|omega|trivial
noncomputable instance C8:av:=LD
theorem mO(ab:List Car)(os:List Ord)(wt:List (List Int))(zs:List Par)(plan:List Int):mM Tz.prog Tryz.f14 (Tryz.f14.body.getD .skip) [.agg [.sl ab.length (aS ab),.sl os.length (aR os),.sl wt.length (a8 wt),.sl zs.length (aT zs)],.sl plan.length (ints plan)] (.bool true) true:=by
 have ca:=oT;have cf:=pH ab os wt zs;refine ny (di (by kernel_rfl)) ?_;have hb:Tryz.f14.body=some _:=rfl;rw[hb];clear hb;simp only[gk,Tryz.ntmps14,Tryz.results14]
 cases hw:jK ab os wt zs with
 |false=>
  rw[hw] at cf;clear hw
  repeat' first|(with_reducible first|apply ai|apply au|apply az|apply af|apply al|refine And.intro ?_ ?_|refine cw (ca) ?_|refine cw (cf) ?_|intro _)|(simp[*])|(refine ae (ca) ?_ ?_;(· (simp[*];done)))|(refine ae (cf) ?_ ?_;(· (simp[*];done)))
  all_goals first|omega
 |true=>
  rw[hw] at cf;by_cases hl:plan.length<=10
  .have i2:¬(10:Int)<plan.length:=by omega
   obtain⟨⟨l1,_⟩,⟨l2,_⟩,l3,l4,l5,l6,l7⟩:=nD hw
   have c1:aC Tz.prog 20 [.agg [.sl ab.length (aS ab),.sl os.length (aR os),.sl wt.length (a8 wt),.sl zs.length (aT zs)]] (.int .i64 (ceR (cG ab os wt zs hw))) true:=
    k6 ab os wt zs (by omega) (by omega) (by omega) (by omega) (λx hx=>by have:=l5 x hx;omega) (λx hx=>by have:=l6 x hx;omega) (λx hx=>by have:=l7 x hx;omega)
   have ci:=oR plan (by omega)
   have h':plan.length<100000:=by omega
   have cp:=k7 (cG ab os wt zs hw) plan h';obtain⟨r,hr⟩:∃r,r=cG ab os wt zs hw:=⟨_,rfl⟩
   have ev:Tw.aM r=.agg [.sl ab.length (aS ab),.sl os.length (aR os),.sl wt.length (a8 wt),.sl zs.length (aT zs)]:=by rw[hr];rfl
   have er:r.ab=ab/\r.os=os/\r.wt=wt/\r.zs=zs:=by rw[hr];exact⟨rfl,rfl,rfl,rfl⟩
   have cc:=nC r;rw[<-hr] at c1 cp;clear l1 l2 l3 l4 l5 l6 l7 hr hw
   have hq:∀i:Int,plan.length=plan.length:=λ_=>rfl
   by_cases he:ceR r=0
   .have ok:=dS r he;have cd:=mF r plan h' he;have cq:=lV r ok plan h'
    have hn:¬(ceR r≠0):=λe=>e he
    unfold cC at cp;rw[ar hn] at cp;by_cases h2:(dh (aj r) plan).2=0
    .have hin:=cM _ _ h2;have pw:=l9 r ok plan hin;have cs:=mH r plan h' he h2;have cl:=mI r plan h' he h2;have qc:=ml r.ab r.os r.wt r.zs plan pw;have qs:=mz plan h';have ql:=mC r.ab r.os r.wt r.zs plan pw;have qi:=oQ (bL plan) (bL plan) (by have:=cN plan plan.length;unfold bL;omega);rw[nB,decide_eq_true rfl] at qi
     have h2n:¬((dh (aj r) plan).2≠0):=λe=>e h2
     rw[ar h2n,lp (aj r) plan hin.len] at cp;rw[h2] at cd cq;have ec:rcS (aj r).os (aj r).wt plan=rcS r.os r.wt plan:=rfl;rw[ec] at cp;rw[he] at c1;rw[ev] at cc cd cp cs cl cq;obtain⟨rfl,rfl,rfl,rfl⟩:=er;generalize (dh (aj r) plan).1=n at *;generalize rcS r.os r.wt plan=C at *;generalize bL plan=S at *;generalize cE r.wt plan=L at *;clear ok hin pw h2n ec hn h2 he hq h' hl ev
     repeat' first|(with_reducible first|apply ai|apply au|apply az|apply af|apply al|refine And.intro ?_ ?_|refine cw (ca) ?_|refine cw (cf) ?_|refine cw (cc) ?_|refine cw (ci) ?_|refine cw (c1) ?_|refine cw (cd) ?_|refine cw (cp) ?_|refine cw (cs) ?_|refine cw (cl) ?_|refine cw (cq) ?_|refine cw (qc) ?_|refine cw (qs) ?_|refine cw (ql) ?_|refine cw (qi) ?_|intro _)|(simp[*,i2])|(refine ae (ca) ?_ ?_;(· (simp[*];done)))|(refine ae (cf) ?_ ?_;(· (simp[*];done)))|(refine ae (cc) ?_ ?_;(· (simp[*];done)))|(refine ae (ci) ?_ ?_;(· (simp[*];done)))|(refine ae (c1) ?_ ?_;(· (simp[*];done)))|(refine ae (cd) ?_ ?_;(· (simp[*];done)))|(refine ae (cp) ?_ ?_;(· (simp[*];done)))|(refine ae (cs) ?_ ?_;(· (simp[*];done)))|(refine ae (cl) ?_ ?_;(· (simp[*];done)))|(refine ae (cq) ?_ ?_;(· (simp[*];done)))|(refine ae (qc) ?_ ?_;(· (simp[*];done)))|(refine ae (qs) ?_ ?_;(· (simp[*];done)))|(refine ae (ql) ?_ ?_;(· (simp[*];done)))|(refine ae (qi) ?_ ?_;(· (simp[*];done)))
     all_goals first|omega
    .have ho:peS r plan=(dh (aj r) plan).2:=by unfold peS;rw[ar hn]
     have cs:=kx r plan h' (by rw[ho];exact h2);have cl:=kz r plan h' (by rw[ho];exact h2);rw[ho] at cs cl;rw[aB h2] at cp;rw[he] at c1;rw[ev] at cc cd cp cs cl cq;obtain⟨rfl,rfl,rfl,rfl⟩:=er;generalize dh (aj r) plan=R at *;obtain⟨n,e⟩:=R;dsimp only at cd cq cp cs cl h2;clear ok ho hn he hq h' hl ev
     repeat' first|(with_reducible first|apply ai|apply au|apply az|apply af|apply al|refine And.intro ?_ ?_|refine cw (ca) ?_|refine cw (cf) ?_|refine cw (cc) ?_|refine cw (ci) ?_|refine cw (c1) ?_|refine cw (cd) ?_|refine cw (cp) ?_|refine cw (cs) ?_|refine cw (cl) ?_|refine cw (cq) ?_|intro _)|(simp[*,i2,h2])|(refine ae (ca) ?_ ?_;(· (simp[*];done)))|(refine ae (cf) ?_ ?_;(· (simp[*];done)))|(refine ae (cc) ?_ ?_;(· (simp[*];done)))|(refine ae (ci) ?_ ?_;(· (simp[*];done)))|(refine ae (c1) ?_ ?_;(· (simp[*];done)))|(refine ae (cd) ?_ ?_;(· (simp[*];done)))|(refine ae (cp) ?_ ?_;(· (simp[*];done)))|(refine ae (cs) ?_ ?_;(· (simp[*];done)))|(refine ae (cl) ?_ ?_;(· (simp[*];done)))|(refine ae (cq) ?_ ?_;(· (simp[*];done)))
     all_goals first|omega
   .have ho:peS r plan=ceR r:=by unfold peS;rw[aB he]
    have cd:=mE r plan he;have cs:=kx r plan h' (by rw[ho];exact he);have cl:=kz r plan h' (by rw[ho];exact he);rw[ho] at cs cl;unfold cC at cp;rw[aB he] at cp;rw[ev] at cc cd cp cs cl;generalize ceR r=e at *;clear ho hq h' hl ev er
    repeat' first|(with_reducible first|apply ai|apply au|apply az|apply af|apply al|refine And.intro ?_ ?_|refine cw (ca) ?_|refine cw (cf) ?_|refine cw (cc) ?_|refine cw (ci) ?_|refine cw (c1) ?_|refine cw (cd) ?_|refine cw (cp) ?_|refine cw (cs) ?_|refine cw (cl) ?_|intro _)|(simp[*,i2,he])|(refine ae (ca) ?_ ?_;(· (simp[*];done)))|(refine ae (cf) ?_ ?_;(· (simp[*];done)))|(refine ae (cc) ?_ ?_;(· (simp[*];done)))|(refine ae (ci) ?_ ?_;(· (simp[*];done)))|(refine ae (c1) ?_ ?_;(· (simp[*];done)))|(refine ae (cd) ?_ ?_;(· (simp[*];done)))|(refine ae (cp) ?_ ?_;(· (simp[*];done)))|(refine ae (cs) ?_ ?_;(· (simp[*];done)))|(refine ae (cl) ?_ ?_;(· (simp[*];done)))
    all_goals first|omega
  .have i2:(10:Int)<plan.length:=by omega
   clear hw hl
   repeat' first|(with_reducible first|apply ai|apply au|apply az|apply af|apply al|refine And.intro ?_ ?_|refine cw (ca) ?_|refine cw (cf) ?_|intro _)|(simp[*,i2])|(refine ae (ca) ?_ ?_;(· (simp[*];done)))|(refine ae (cf) ?_ ?_;(· (simp[*];done)))
   all_goals first|omega
end Go.Proofs.YthpkmilhiganjaaGreat
