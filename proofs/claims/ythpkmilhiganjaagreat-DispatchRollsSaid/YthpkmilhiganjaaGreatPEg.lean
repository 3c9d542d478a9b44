/- Lemmas. -/
import Derived.Test.YthpkmilhiganjaaGreatPEf
import Derived.Test.YthpkmilhiganjaaGreatPEe
import Derived.Test.YthpkmilhiganjaaGreatPEc
import Derived.Test.YthpkmilhiganjaaGreatPLg
import Derived.Test.YthpkmilhiganjaaGreatPEd
set_option linter.all false
set_option maxHeartbeats 32000000
set_option maxRecDepth 100000
namespace Go.Proofs.YthpkmilhiganjaaGreat
open Go Go.Fi
variable[bJ]
theorem zfw(l:List Int)(hl:l.length<100000)(v:Int):bT Tz.prog 89 [.sl l.length (ints l),.int .i64 v] (.bool (l.any λy=>decide (v=y))) true:=by
 generalize hR:(l.any λy=>decide (v=y))=R;have kR:dh ((l.drop 0).any (λy=>decide (v=y))=R):=keep hR;clear hR;refine rcK Tz.func89 ?_;simp only[Tryz.results89,Tryz.ntmps89]
 repeat' first|(with_reducible first|apply bG|apply bE|intro _)|simp[*]
 refine fj (λ(k:Nat)=>k<=l.length/\(l.drop k).any (λy=>decide (v=y))=R) [0,1] (λ(k:Nat)=>[(5,.w false false (.int .i64 k))]) [] (λ(k:Nat)=>[]) (λ(k:Nat)=>l.length-k) (λ(_u:Unit)=>R=false) [] (λ(_u:Unit)=>[]) [] (λ(_u:Unit)=>[]) (0) ⟨cG _,kR⟩ ae ae (λk hk=>?_) (λ_u hf=>?_)
 .obtain⟨hk,hj⟩:=hk;by_cases h5:k<l.length
  .rw[fQ l k h5,yo] at hj;by_cases h1:nth l k=v
   .have hR:R=true:=by rw[<-hj];simp[h1]
    subst hR;clear hj kR
    repeat' first|(with_reducible first|apply bG|apply cj|apply bS|apply bU|apply bE|apply bP|intro _)|simp[*,h5,h1]
    all_goals first|omega|exact cu ab ab
   .have aa:¬v=nth l k:=λe=>h1 e.symm
    have kj:dh ((l.drop (k+1)).any (λy=>decide (v=y))=R):=keep (by rw[<-hj];simp[aa]);clear hj kR aa
    repeat' first|(with_reducible first|apply bG|apply cj|apply bS|apply bE|apply bP|refine And.intro ?_ ?_|intro _)|simp[*,h5,h1]
    all_goals first
     |omega
     |exact cu ab ab
     |(refine nx (k+1) ?_ ?_;(· exact⟨ab,kj⟩);(refine cg ?_ ?_<;>first|trivial|(simp[*];done)))
  .have h9:k=l.length:=ab
   subst h9;have kj:dh (R=false):=keep (by rw[<-hj];simp);clear hj kR
   repeat' first|(with_reducible first|apply bG|apply cK|apply bE|apply bP|intro _)|simp[*]
   all_goals first
    |(refine dp () ?_ ?_;(· exact kj);(refine cg ?_ ?_<;>first|trivial|(simp[*];done)))
 .subst hf
  repeat' first|(with_reducible first|apply bG|apply bU|apply bE|intro _)|simp[*]
theorem zhz(r:Tw.RND)(ok:ft (bQ r))(plan:List Int)(hp:plan.length<100000):bT Tz.prog 67 [Tw.dB r,.sl plan.length (ints plan)] (.tup [.int .i64 (gv (bQ r) plan).1,.int .i64 (gv (bQ r) plan).2]) true:=by
 have lo:r.os.length<=8:=ok.lo;have lc:r.bz.length<=8:=ok.lc
 have hz:r.zs.length<100000:=by have:r.zs.length<=64:=ok.lz;omega
 have c1:=λn=>zff r.bz r.os r.wt r.zs ab n
 have c2:=λi k hi hk=>zg9 r.bz r.os r.wt r.zs i k hi hk hz
 have eR:∀i k,i<r.os.length->k<r.bz.length->nth (nth (bQ r).fit i) k=C8 r.bz r.os r.zs i k:=λi k hi hk=>zd3 r i k hi hk
 change bT Tz.prog 67 [.agg [.sl r.bz.length (dk r.bz),.sl r.os.length (dj r.os),.sl r.wt.length (dQ r.wt),.sl r.zs.length (dm r.zs)],.sl plan.length (ints plan)] _ true
 generalize hR:gv (bQ r) plan=R;obtain⟨R1,R2⟩:=R;unfold gv at hR;have e1:(bQ r).os.length=r.os.length:=rfl
 have eP:∀k n,kZ (bQ r) plan k n=if n=-1 then 0 else if dt (da n 0 ((r.bz.length:Int)-1)) 6≠0 then dt (da n 0 ((r.bz.length:Int)-1)) 6 else
  fg [dt (nth (nth (bQ r).fit k) n.toNat) 13,dt (!((plan.take k).any λy=>decide (n=y))) 26]:=λk n=>rfl
 rw[e1] at hR;clear e1 ok;generalize hPE:kZ (bQ r) plan=PE at hR eP;clear hPE;generalize (bQ r).fit=fit at eR eP;have kR:=keep hR;have kk:=keep (And.intro c1 (And.intro c2 (And.intro eR (And.intro eP (And.intro lo lc)))));clear hR c1 c2 eR eP lo lc hz;generalize r.bz=bz at *;generalize r.os=os at *;generalize r.wt=wt at *;generalize r.zs=zs at *;refine rcK Tz.func67 ?_;simp only[Tryz.results67,Tryz.ntmps67]
 repeat' first|(with_reducible first|apply bG|apply bS|apply bU|apply bE|apply bP|refine And.intro ?_ ?_ |  refine ma ?_ ?_|intro _)|simp[*]
 rotate_right
 .rename_i b1
  have hx:(plan.length:Int)=os.length:=by simpa using b1
  have kT:dh (fB PE (plan.drop 0) 0=(R1,R2)):=by
   rw[bH (λh=>h hx)] at kR;exact kR
  have kb:=keep hx;clear kR b1 hx;refine fj (λ(k:Nat)=>k<=plan.length/\fB PE (plan.drop k) k=(R1,R2)) [1,2] (λ(k:Nat)=>[(6,.w false false (.int .i64 k))]) [0] (λ(k:Nat)=>[]) (λ(k:Nat)=>plan.length-k) (λ(_u:Unit)=>R1=0/\R2=0) [] (λ(_u:Unit)=>[]) [0] (λ(_u:Unit)=>[]) (0) ⟨cG _,kT⟩ ae ae (λk hk=>?_) (λ_u hf=>?_)
  .obtain⟨hk,hj⟩:=hk;clear kT;by_cases h5:k<plan.length
   .obtain⟨c1,c2,eR,eP,lo,lc⟩:=kk
    have hh:k<os.length:=by have h:(plan.length:Int)=os.length:=kb;omega
    have h8:inI .i64 ((k:Int)+1):=cu ab ab
    have hz:k+1<=plan.length:=ab
    rw[fQ plan k h5,fB] at hj;have c3:=zfw (plan.take k) aO (nth plan k);rw[u5 hk] at c3;generalize hn:nth plan k=n at hj c3;have c1:=c1 n;have e:=eP k n;clear eP lo lc kb;by_cases h1:n=-1
    .rw[bX h1] at e;rw[bX e] at hj;have kj:=keep hj;subst h1;clear hj e c1 c2 c3 eR
     repeat' first|(with_reducible first|apply bG|apply cj|apply bS|apply cK|apply bE|apply bP|intro _)|simp[*,h5,hh,hn,h8]
     all_goals first
      |omega
      |(refine nx (k+1) ?_ ?_;(· exact⟨hz,kj⟩);(refine cg ?_ ?_<;>first|trivial|(simp[*];done)))
    .rw[bH h1] at e
     cases hw:da n 0 ((bz.length:Int)-1) with
     |false=>
      rw[hw] at c1 e;have e:PE k n=6:=e;rw[e] at hj;have kj:dh (((k:Int),(6:Int))=(R1,R2)):=hj;clear hj e hw c2 c3 eR
      repeat' first|(with_reducible first|apply bG|apply cj|apply bS|apply bU|apply bE|refine cT (id:=7) 7 mixed ai ?_|apply bP|refine And.intro ?_ ?_|intro _)|simp[*,h5,hh,hn,h1,h8]|(refine bN (c1) ?_ ?_;· simp[*];done)
      all_goals first
       |omega
       |exact (dq kj).1
       |exact (dq kj).2
     |true=>
      rw[hw] at c1 e;have hb:=kQ.1 hw;obtain⟨m,rfl⟩:∃m:Nat,n=m:=⟨n.toNat,ab⟩
      have hm:m<bz.length:=ab
      have c2:=c2 k m hh hm;rw[fH,eR k m hh hm] at e;have e:PE k m=fg [dt (C8 bz os zs k m) 13,dt (!((plan.take k).any λy=>decide ((m:Int)=y))) 26]:=e;have a6:¬(m:Int)=-1:=h1;clear hw hb h1 eR;generalize C8 bz os zs k m=fb at *;generalize ((plan.take k).any λy=>decide ((m:Int)=y))=hb at *
      cases fb with
      |false=>
       have e:PE k m=13:=e;rw[e] at hj;have kj:dh (((k:Int),(13:Int))=(R1,R2)):=hj;clear hj e c3
       repeat' first|(with_reducible first|apply bG|apply cj|apply bS|apply bU|apply bE|refine cT (id:=7) 7 mixed ai ?_|refine cT (id:=9) 8 mixed ai ?_|apply bP|refine And.intro ?_ ?_|intro _)|simp[*,h5,hh,hn,a6,h8]|(refine bN (c1) ?_ ?_;· simp[*];done)|(refine bN (c2) ?_ ?_;· simp[*];done)
       all_goals first
        |omega
        |exact (dq kj).1
        |exact (dq kj).2
      |true=>
       cases hb with
       |true=>
        have e:PE k m=26:=e;rw[e] at hj;have kj:dh (((k:Int),(26:Int))=(R1,R2)):=hj;clear hj e
        repeat' first|(with_reducible first|apply bG|apply cj|apply bS|apply bU|apply bE|refine cT (id:=7) 7 mixed ai ?_|refine cT (id:=9) 8 mixed ai ?_|refine cT (id:=11) 8 mixed ai ?_|apply bP|refine And.intro ?_ ?_|intro _)|simp[*,h5,hh,hn,a6,h8]|(refine bN (c1) ?_ ?_;· simp[*];done)|(refine bN (c2) ?_ ?_;· simp[*];done)|(refine bN (c3) ?_ ?_;· simp[*];done)
        all_goals first
         |omega
         |exact (dq kj).1
         |exact (dq kj).2
       |false=>
        have e:PE k m=0:=e;rw[bX e] at hj;have kj:=keep hj;clear hj e
        repeat' first|(with_reducible first|apply bG|apply cj|apply bS|apply bE|refine cT (id:=7) 7 mixed ai ?_|refine cT (id:=9) 8 mixed ai ?_|refine cT (id:=11) 8 mixed ai ?_|apply bP|refine And.intro ?_ ?_|intro _)|simp[*,h5,hh,hn,a6,h8]|(refine bN (c1) ?_ ?_;· simp[*];done)|(refine bN (c2) ?_ ?_;· simp[*];done)|(refine bN (c3) ?_ ?_;· simp[*];done)
        all_goals first
         |omega
         |(refine nx (k+1) ?_ ?_;(· exact⟨hz,kj⟩);(refine cg ?_ ?_<;>first|trivial|(simp[*];done)))
   .have h9:k=plan.length:=ab
    subst h9;rw[jG] at hj;have kj:dh (((0:Int),(0:Int))=(R1,R2)):=hj;clear hj kk kb
    repeat' first|(with_reducible first|apply bG|apply cK|apply bE|apply bP|intro _)|simp[*]
    all_goals first
     |omega
     |(refine dp () ?_ ?_;(· exact⟨(dq kj).1.symm,(dq kj).2.symm⟩);(refine cg ?_ ?_<;>first|trivial|(simp[*];done)))
  .obtain⟨rfl,rfl⟩:=hf;clear kk kb kT
   repeat' first|(with_reducible first|apply bG|apply bU|apply bE|intro _)|simp[*]
 all_goals first
  |(rename_i b1;rw[bX (by simpa using b1)] at kR;first|exact (dq kR).1|exact (dq kR).2)
theorem zfx(r:Tw.RND)(ok:ft (bQ r))(plan:List Int)(hp:plan.length<100000):bT Tz.prog 27 [Tw.dB r,.sl plan.length (ints plan)] (.int .i64 (gv (bQ r) plan).2) true:=by
 have c1:=zhz r ok plan hp;generalize gv (bQ r) plan=R at *;clear ok;unfold Tw.dB at *;generalize r.jh=p1 at *;generalize r.osP=p2 at *;generalize r.jV=p3 at *;generalize r.zsP=p4 at *;refine rcK Tz.func27 ?_;simp only[Tryz.results27,Tryz.ntmps27]
 repeat' first|(with_reducible first|apply bG|apply bU|apply bE|refine And.intro ?_ ?_|intro _)|simp[*]|(refine bN (c1) ?_ ?_;· simp[*];done)
structure zgd(os:List Ord)(wt:List (List Int))(plan:List Int):Prop where
 lo:os.length<=8
 pl:plan.length=os.length
 wl:wt.length=os.length
 pr:∀i,i<os.length->0<=(nth os i).2.2.2/\(nth os i).2.2.2<=6
 wn:∀i,i<plan.length->nth plan i=-1\/(0<=nth plan i/\nth plan i<((nth wt i).length:Int)/\0<=nth (nth wt i) (nth plan i).toNat/\nth (nth wt i) (nth plan i).toNat<=100000)
theorem zh0(r:Tw.RND)(ok:ft (bQ r))(plan:List Int)(h:PlanIn (bQ r) plan):zgd r.os r.wt plan:=by
 have lo:r.os.length<=8:=ok.lo;have hl:plan.length=r.os.length:=h.len;refine⟨lo,hl,ok.lw,ok.pr,λi hi=>?_⟩
 rcases h.at_ i hi with h1|⟨h1,h2⟩
 .exact .inl h1
 .have hc:nth plan i<(r.bz.length:Int):=h2;have hr:(nth r.wt i).length=r.bz.length:=ok.wr i (by show i<r.os.length;omega);have:=ok.wn i (by show i<r.os.length;omega) (nth plan i).toNat (by show _<r.bz.length;omega);exact .inr ⟨h1,ab,this⟩
def ql(plan:List Int):Nat->List Int
 |0=>[]
 |k+1=>if nth plan k=-1 then ql plan k else ql plan k++[(k:Int)]
theorem zfy(plan:List Int):∀k,(ql plan k).length<=k
 |0=>bV _
 |k+1=>by have:=zfy plan k;unfold ql;split<;>simp<;>omega
end Go.Proofs.YthpkmilhiganjaaGreat
namespace Go.Proofs.YthpkmilhiganjaaGreat
open Go Go.Fi
noncomputable instance zkm:bJ:=LD
noncomputable def peS(r:Tw.RND)(plan:List Int):Int:=if ceR r≠0 then ceR r else (gv (bQ r) plan).2
theorem zh1(r:Tw.RND)(plan:List Int)(hp:plan.length<100000)(h:peS r plan≠0):∃p,bT Tz.prog 77 [Tw.dB r,.sl plan.length (ints plan)] (.tup [p,.int .i64 (peS r plan)]) false:=by
 unfold peS at *;by_cases he:ceR r=0
 .have hn:¬(ceR r≠0):=λe=>e he
  rw[bH hn];exact⟨_,zd7 r plan hp he⟩
 .rw[bX he];exact⟨_,zgg r plan he⟩
def cL(plan:List Int)(c:Nat):Nat->List Int
 |0=>[]
 |j+1=>if (plan.any λy=>decide (((c-1-j:Nat):Int)=y))=true then ((c-1-j:Nat):Int)::cL plan c j else cL plan c j
def hH(plan:List Int)(n:Nat):Nat->List Int
 |0=>[]
 |j+1=>if nth plan (n-1-j)=-1 then hH plan n j else ((n-1-j:Nat):Int)::hH plan n j
theorem zds(plan:List Int)(c:Nat):∀j,j<=c->∀v:Int,v∈cL plan c j↔(((c-j:Nat):Int)<=v/\v<(c:Int))/\(plan.any λy=>decide (v=y))=true
 |0,_,v=>by
  unfold cL;simp;omega
 |j+1,h,v=>by
  have ih:=zds plan c j ab v;unfold cL;by_cases hp:(plan.any λy=>decide (((c-1-j:Nat):Int)=y))=true
  .rw[bX hp,ew,ih];constructor
   .rintro (rfl|⟨h1,h2⟩)
    .exact⟨ab,hp⟩
    .exact⟨ab,h2⟩
   .rintro⟨h1,h2⟩
    by_cases e:v=((c-1-j:Nat):Int)
    .exact .inl e
    .exact .inr ⟨ab,h2⟩
  .rw[bH hp,ih];constructor
   .rintro⟨h1,h2⟩;exact⟨ab,h2⟩
   .rintro⟨h1,h2⟩
    refine⟨?_,h2⟩;by_cases e:v=((c-1-j:Nat):Int)
    .rw[e] at h2;exact absurd h2 hp
    .omega
theorem zdt(plan:List Int)(n:Nat):∀j,j<=n->∀v:Int,v∈hH plan n j↔(((n-j:Nat):Int)<=v/\v<(n:Int))/\nth plan v.toNat≠-1
 |0,_,v=>by
  unfold hH;simp;omega
 |j+1,h,v=>by
  have ih:=zdt plan n j ab v;unfold hH;by_cases hp:nth plan (n-1-j)=-1
  .rw[bX hp,ih];constructor
   .rintro⟨h1,h2⟩;exact⟨ab,h2⟩
   .rintro⟨h1,h2⟩
    refine⟨?_,h2⟩;by_cases e:v=((n-1-j:Nat):Int)
    .rw[e,fH] at h2;exact absurd hp h2
    .omega
  .rw[bH hp,ew,ih];constructor
   .rintro (rfl|⟨h1,h2⟩)
    .exact⟨ab,by rw[fH];exact hp⟩
    .exact⟨ab,h2⟩
   .rintro⟨h1,h2⟩
    by_cases e:v=((n-1-j:Nat):Int)
    .exact .inl e
    .exact .inr ⟨ab,h2⟩
noncomputable instance zkp:bJ:=LD
theorem zfz{ex:List Int}{n q:Nat}(hq:q<n)(h:∀v∈ex,(q:Int)<v):q<a9 ex n/\nth (bf ex n) q=q:=by
 have hk:∀k,k<=q->cO ex k=true:=λk hk=>(D4 ex k).2 λhm=>by have:=h _ hm;omega
 have hi:∀k,k<=q->a9 ex k=k:=λk=>by
  induction k with
  |zero=>intro _;rfl
  |succ k ih=>intro ay;rw[EX,hk k ab,ih ab];rfl
 have e:=hi q (bV _);have h1:=m6 (hk q (bV _)) hq;have h2:=zha ex hq (hk q (bV _));rw[e] at h1 h2;exact⟨h1,h2⟩
theorem zh2(x:Rd)(plan:List Int)(hl:plan.length=x.os.length)(hp:∀k,k<plan.length->nth plan k=-1\/0<=nth plan k):bt x (hH plan x.os.length x.os.length) (cL plan x.bz.length x.bz.length)=bt x (bB plan) (cq plan):=by
 refine zhx x (λk hk=>?_) (λk hk=>?_)
 .rw[uU,zd4 plan ab,D4,zdt plan _ _ (bV _),fH];constructor
  .intro h;apply SY;intro h2;exact h ⟨ab,h2⟩
  .intro h h2;exact h2.2 h
 .rw[uU,zgb plan k,D4,zds plan _ _ (bV _)];constructor
  .intro h i hi e;refine h ⟨ab,uS.2 ⟨_,tE hi,?_⟩⟩;simp[e]
  .rintro h ⟨_,h2⟩
   obtain⟨y,hy,e⟩:=uS.1 h2;obtain⟨i,hi,e2⟩:=zhi.1 hy
   have e:(k:Int)=y:=by simpa using e
   exact h i hi (by rw[e2,e])
theorem zh3(x:Rd)(h:Rt x.bz x.os x.wt x.zs)(plan:List Int)(j:Nat)(hj:j<x.bz.length)(hp:(plan.any λy=>decide (((x.bz.length-1-j:Nat):Int)=y))=true):bT Tz.prog 46 [bt x [] (cL plan x.bz.length j),.int .i64 ((x.bz.length-1-j:Nat):Int)] (bt x [] (cL plan x.bz.length (j+1))) true:=by
 obtain⟨h1,h2⟩:=zfz (ex:=cL plan x.bz.length j) (n:=x.bz.length) (q:=x.bz.length-1-j) ab (λv hv=>by
  have:=(zds plan x.bz.length j ab v).1 hv
  omega)
 have c:=zhs (lRd x [] (cL plan x.bz.length j)) (zdl h [] _) (x.bz.length-1-j) (by rw[Mk];exact h1);rw[zhv x [] _ _ h1,h2] at c;have e:cL plan x.bz.length (j+1)=((x.bz.length-1-j:Nat):Int)::cL plan x.bz.length j:=bX hp;rw[e];exact c
theorem zh4(x:Rd)(h:Rt x.bz x.os x.wt x.zs)(plan cs:List Int)(j:Nat)(hj:j<x.os.length)(hp:¬nth plan (x.os.length-1-j)=-1):bT Tz.prog 44 [bt x (hH plan x.os.length j) cs,.int .i64 ((x.os.length-1-j:Nat):Int)] (bt x (hH plan x.os.length (j+1)) cs) true:=by
 obtain⟨h1,h2⟩:=zfz (ex:=hH plan x.os.length j) (n:=x.os.length) (q:=x.os.length-1-j) ab (λv hv=>by
  have:=(zdt plan x.os.length j ab v).1 hv
  omega)
 have c:=zhn (lRd x (hH plan x.os.length j) cs) (zdl h _ cs) (x.os.length-1-j);rw[zhw x _ cs _ h1,h2] at c;have e:hH plan x.os.length (j+1)=((x.os.length-1-j:Nat):Int)::hH plan x.os.length j:=bH hp;rw[e];exact c
theorem zh5(r:Tw.RND)(he:ceR r=0)(plan:List Int)(hl:plan.length=r.os.length)(hp:∀k,k<plan.length->nth plan k=-1\/0<=nth plan k):bT Tz.prog 40 [Tw.dB r,.sl plan.length (ints plan)] (bt (bQ r) (bB plan) (cq plan)) true:=by
 have h:=(zdj r).1 he;have lc:=h.lc;have lo:=h.lo;have c1:=zh3 (bQ r) h plan
 have c2:=λj hj hp=>zh4 (bQ r) h plan (cL plan r.bz.length r.bz.length) j hj hp
 have e0:=zhy (bQ r) h;have eE:=zh2 (bQ r) plan hl hp
 have e1:∀j,(plan.any λy=>decide (((r.bz.length-1-j:Nat):Int)=y))=false->bt (bQ r) [] (cL plan r.bz.length (j+1))=bt (bQ r) [] (cL plan r.bz.length j):=λj hj=>by
  have:cL plan r.bz.length (j+1)=cL plan r.bz.length j:=bH (by rw[hj];decide);rw[this]
 have e2:∀j,nth plan (r.os.length-1-j)=-1->bt (bQ r) (hH plan r.os.length (j+1)) (cL plan r.bz.length r.bz.length)=bt (bQ r) (hH plan r.os.length j) (cL plan r.bz.length r.bz.length):=λj hj=>by
  have:hH plan r.os.length (j+1)=hH plan r.os.length j:=bX hj;rw[this]
 have cc:=G6 r
 have ch:=λv=>zfw plan ab v
 have ev:Tw.dB r=.agg [.sl r.bz.length (dk r.bz),.sl r.os.length (dj r.os),.sl r.wt.length (dQ r.wt),.sl r.zs.length (dm r.zs)]:=rfl;rw[ev] at cc ⊢
 change ∀j,j<r.bz.length->(plan.any λy=>decide (((r.bz.length-1-j:Nat):Int)=y))=true->bT Tz.prog 46 [bt (bQ r) [] (cL plan r.bz.length j),.int .i64 ((r.bz.length-1-j:Nat):Int)] (bt (bQ r) [] (cL plan r.bz.length (j+1))) true at c1
 change ∀j,j<r.os.length->¬nth plan (r.os.length-1-j)=-1->bT Tz.prog 44 [bt (bQ r) (hH plan r.os.length j) (cL plan r.bz.length r.bz.length),.int .i64 ((r.os.length-1-j:Nat):Int)] (bt (bQ r) (hH plan r.os.length (j+1)) (cL plan r.bz.length r.bz.length)) true at c2
 change bt (bQ r) [] []=.agg [.sl r.bz.length (dk r.bz),.sl r.os.length (dj r.os),.sl r.wt.length (dQ r.wt),.sl r.zs.length (dm r.zs)] at e0
 change bt (bQ r) (hH plan r.os.length r.os.length) (cL plan r.bz.length r.bz.length)=_ at eE
 rw[<-eE]
 have F:∀a b,bt (bQ r) a b=.agg [.sl (bu (bQ r) b (bQ r).bz.length).length (dk (bu (bQ r) b (bQ r).bz.length)),.sl (bo (bQ r) a (bQ r).os.length).length (dj (bo (bQ r) a (bQ r).os.length)),
  .sl (bn (bQ r) a b (bQ r).os.length).length (dQ (bn (bQ r) a b (bQ r).os.length)),.sl (br (bQ r) a b (bQ r).zs.length).length (dm (br (bQ r) a b (bQ r).zs.length))]:=λ_ _=>rfl
 obtain⟨n1,a1,n2,a2,n3,a3,n4,a4,f1⟩:∃(n1:Nat->Nat)(a1:Nat->List PV)(n2:Nat->Nat)(a2:Nat->List PV)(n3:Nat->Nat)(a3:Nat->List PV)(n4:Nat->Nat)(a4:Nat->List PV),∀j,bt (bQ r) [] (cL plan r.bz.length j)=.agg [.sl (n1 j) (a1 j),.sl (n2 j) (a2 j),.sl (n3 j) (a3 j),.sl (n4 j) (a4 j)]:=
  ⟨_,_,_,_,_,_,_,_,λj=>F [] (cL plan r.bz.length j)⟩
 obtain⟨m1,b1,m2,b2,m3,b3,m4,b4,f2⟩:∃(n1:Nat->Nat)(a1:Nat->List PV)(n2:Nat->Nat)(a2:Nat->List PV)(n3:Nat->Nat)(a3:Nat->List PV)(n4:Nat->Nat)(a4:Nat->List PV),∀j,bt (bQ r) (hH plan r.os.length j) (cL plan r.bz.length r.bz.length)=.agg [.sl (n1 j) (a1 j),.sl (n2 j) (a2 j),.sl (n3 j) (a3 j),.sl (n4 j) (a4 j)]:=
  ⟨_,_,_,_,_,_,_,_,λj=>F (hH plan r.os.length j) (cL plan r.bz.length r.bz.length)⟩
 have g0:PV.agg [.sl (n1 0) (a1 0),.sl (n2 0) (a2 0),.sl (n3 0) (a3 0),.sl (n4 0) (a4 0)]=.agg [.sl r.bz.length (dk r.bz),.sl r.os.length (dj r.os),.sl r.wt.length (dQ r.wt),.sl r.zs.length (dm r.zs)]:=by rw[<-f1 0];exact e0
 have g2:PV.agg [.sl (m1 0) (b1 0),.sl (m2 0) (b2 0),.sl (m3 0) (b3 0),.sl (m4 0) (b4 0)]=.agg [.sl (n1 r.bz.length) (a1 r.bz.length),.sl (n2 r.bz.length) (a2 r.bz.length),.sl (n3 r.bz.length) (a3 r.bz.length),.sl (n4 r.bz.length) (a4 r.bz.length)]:=by rw[<-f2 0,<-f1];rfl
 simp only[f1] at c1 e1;simp only[f2] at c2 e2;rw[f2];simp only[PV.agg.injEq,Df,PV.sl.injEq,and_true] at g0 g2 e1 e2;obtain⟨⟨p1,p2⟩,⟨p3,p4⟩,⟨p5,p6⟩,p7,p8⟩:=g0;obtain⟨⟨s1,s2⟩,⟨s3,s4⟩,⟨s5,s6⟩,s7,s8⟩:=g2;have q2:=keep (And.intro s1 (And.intro s2 (And.intro s3 (And.intro s4 (And.intro s5 (And.intro s6 (And.intro s7 s8)))))));clear s1 s2 s3 s4 s5 s6 s7 s8;have k1:=keep (And.intro c1 (And.intro e1 lc));have k2:=keep (And.intro c2 (And.intro e2 (And.intro lo (And.intro hl hp))));have kc:=keep ch;have ao:inI .i64 ((r.bz.length:Int)-1):=cu ab ab;clear c1 e1 lc c2 e2 lo hl hp ch F f1 f2 e0 eE ev h he;generalize r.bz=bz at *;generalize r.os=os at *;generalize r.wt=wt at *;generalize r.zs=zs at *;refine rcK Tz.func40 ?_;simp only[Tryz.results40,Tryz.ntmps40]
 repeat' first|(with_reducible first|apply bG|apply bE|refine And.intro ?_ ?_|intro _)|simp[*,ao]|(refine bN (cc) ?_ ?_;· simp[*];done)
 clear ao cc;refine fI 3 (λ(j:Nat)=>j<=bz.length) [1,4,5] (λ(j:Nat)=>[(6,.w false false (.int .i64 ((bz.length:Int)-1-(j:Int))))]) [0,1] (λ(j:Nat)=>[(2,[.w true false (.sl (n1 j) (a1 j)),.w true false (.sl (n2 j) (a2 j)),.w true false (.sl (n3 j) (a3 j)),.w true false (.sl (n4 j) (a4 j))])]) (λ(j:Nat)=>bz.length-j) (λ(_u:Unit)=>True) [1,4,5] (λ(_u:Unit)=>[]) [0,1] (λ(_u:Unit)=>[(2,[.w true false (.sl (n1 bz.length) (a1 bz.length)),.w true false (.sl (n2 bz.length) (a2 bz.length)),.w true false (.sl (n3 bz.length) (a3 bz.length)),.w true false (.sl (n4 bz.length) (a4 bz.length))])]) (0) (cG _) (de [] (by simp[p1,p2,p3,p4,p5,p6,p7,p8]) (by simp[p1,p2,p3,p4,p5,p6,p7,p8])) (λj hk=>?_) (λ_u hf=>?_)
 .clear p1 p2 p3 p4 p5 p6 p7 p8 q2 k2;by_cases h5:j<bz.length
  .obtain⟨c1,e1,lc⟩:=k1;obtain⟨q,ho⟩:∃q,bz.length-1-j=q:=⟨_,rfl⟩;have c1:=c1 j h5;have e1:=e1 j;rw[ho] at c1 e1;have ch:=kc (q:Int)
   have hq:(bz.length:Int)-1-(j:Int)=(q:Int):=ab
   have hg:(0:Int)<=(q:Int):=ab
   have h':(q:Int)-1=(bz.length:Int)-1-((j:Int)+1):=ab
   have h8:inI .i64 ((bz.length:Int)-1-((j:Int)+1)):=cu ab ab
   have hz:j+1<=bz.length:=ab
   clear ho lc kc
   cases hb:(plan.any λy=>decide ((q:Int)=y)) with
   |true=>
    rw[hb] at ch;have c1:=c1 hb;clear e1 hb
    repeat' first|(with_reducible first|apply bG|apply cj|apply bS|apply bE|apply bP|refine And.intro ?_ ?_|intro _)|simp[*,hq,hg,h',h8]|(refine bN (ch) ?_ ?_;· simp[*];done)|(refine bN (c1) ?_ ?_;· simp[*];done)
    all_goals first
     |omega
     |assumption
     |(refine nx (j+1) ?_ ?_;(· exact hz);(refine de [] ?_ ?_<;>first|trivial|(simp[*,h'];done)))
   |false=>
    rw[hb] at ch;obtain⟨⟨e1,e2⟩,⟨e3,e4⟩,⟨e5,e6⟩,e7,e8⟩:=e1 hb;clear c1 hb
    repeat' first|(with_reducible first|apply bG|apply cj|apply bS|apply bE|apply bP|refine And.intro ?_ ?_|intro _)|simp[*,hq,hg,h',h8]|(refine bN (ch) ?_ ?_;· simp[*];done)
    all_goals first
     |omega
     |assumption
     |(refine nx (j+1) ?_ ?_;(· exact hz);(refine de [] ?_ ?_<;>first|trivial|(simp[*,h',e1,e2,e3,e4,e5,e6,e7,e8];done)))
  .have h9:j=bz.length:=ab
   subst h9
   have hn:¬(0:Int)<=(bz.length:Int)-1-(bz.length:Int):=ab
   clear k1 kc
   repeat' first|(with_reducible first|apply bG|apply cj|apply bS|apply cK|apply bE|apply bP|refine jJ ?_ ?_|intro _)|simp[*,hn]
   all_goals first
    |omega
    |(refine dp () ?_ ?_;(· trivial);(refine cg ?_ ?_<;>first|trivial|(simp[*];done)))
 clear p1 p2 p3 p4 p5 p6 p7 p8 k1 kc;obtain⟨s1,s2,s3,s4,s5,s6,s7,s8⟩:=q2
 have ag:inI .i64 ((plan.length:Int)-1):=by obtain⟨_,_,lo,hl,_⟩:=k2;exact cu ab ab
 repeat' first|(with_reducible first|apply bG|apply bE|intro _)|simp[*,ag]
 all_goals try first|omega|assumption
 clear ag;refine fI 3 (λ(j:Nat)=>j<=os.length) [1,4,5] (λ(j:Nat)=>[(7,.w false false (.int .i64 ((plan.length:Int)-1-(j:Int))))]) [0,1] (λ(j:Nat)=>[(2,[.w true false (.sl (m1 j) (b1 j)),.w true false (.sl (m2 j) (b2 j)),.w true false (.sl (m3 j) (b3 j)),.w true false (.sl (m4 j) (b4 j))])]) (λ(j:Nat)=>os.length-j) (λ(_u:Unit)=>True) [4,5] (λ(_u:Unit)=>[]) [0,1] (λ(_u:Unit)=>[(2,[.w true false (.sl (m1 os.length) (b1 os.length)),.w true false (.sl (m2 os.length) (b2 os.length)),.w true false (.sl (m3 os.length) (b3 os.length)),.w true false (.sl (m4 os.length) (b4 os.length))])]) (0) (cG _) (de [] (by simp[s1,s2,s3,s4,s5,s6,s7,s8]) (by simp[s1,s2,s3,s4,s5,s6,s7,s8])) (λj hk=>?_) (λ_u hf=>?_)
 .clear s1 s2 s3 s4 s5 s6 s7 s8;obtain⟨c2,e2,lo,hl,hp⟩:=k2;by_cases h5:j<os.length
  .obtain⟨q,ho⟩:∃q,os.length-1-j=q:=⟨_,rfl⟩;have c2:=c2 j h5;have e2:=e2 j;rw[ho] at c2 e2
   have aq:q<plan.length:=ab
   have hq:(plan.length:Int)-1-(j:Int)=(q:Int):=ab
   have hg:(0:Int)<=(q:Int):=ab
   have h':(q:Int)-1=(plan.length:Int)-1-((j:Int)+1):=ab
   have h8:inI .i64 ((plan.length:Int)-1-((j:Int)+1)):=cu ab ab
   have hz:j+1<=os.length:=ab
   clear ho lo hl hp;by_cases hb:nth plan q=-1
   .obtain⟨⟨e1,e2⟩,⟨e3,e4⟩,⟨e5,e6⟩,e7,e8⟩:=e2 hb;clear c2
    repeat' first|(with_reducible first|apply bG|apply cj|apply bS|apply bE|apply bP|intro _)|simp[*,hq,hg,h',h8,aq,hb]
    all_goals first
     |omega
     |assumption
     |(refine nx (j+1) ?_ ?_;(· exact hz);(refine de [] ?_ ?_<;>first|trivial|(simp[*,h',e1,e2,e3,e4,e5,e6,e7,e8];done)))
   .have c2:=c2 hb;clear e2
    repeat' first|(with_reducible first|apply bG|apply cj|apply bS|apply bE|apply bP|refine And.intro ?_ ?_|intro _)|simp[*,hq,hg,h',h8,aq,hb]|(refine bN (c2) ?_ ?_;· simp[*];done)
    all_goals first
     |omega
     |assumption
     |(refine nx (j+1) ?_ ?_;(· exact hz);(refine de [] ?_ ?_<;>first|trivial|(simp[*,h'];done)))
  .have h9:j=os.length:=ab
   subst h9
   have hn:¬(0:Int)<=(plan.length:Int)-1-(os.length:Int):=ab
   clear c2 e2 lo hl hp
   repeat' first|(with_reducible first|apply bG|apply cj|apply bS|apply cK|apply bE|apply bP|refine And.intro ?_ ?_|refine jJ ?_ ?_|intro _)|simp[*,hn]
   all_goals first
    |omega
    |(refine dp () ?_ ?_;(· trivial);(refine cg ?_ ?_<;>first|trivial|(simp[*];done)))
 .clear s1 s2 s3 s4 s5 s6 s7 s8 k2
  repeat' first|(with_reducible first|apply bG|apply bU|apply bE|intro _)|simp[*]
  all_goals first|omega|trivial
noncomputable instance zkr:bJ:=LD
theorem zf0(r:Tw.RND)(plan:List Int)(hp:plan.length<100000)(h:peS r plan≠0):bT Tz.prog 37 [Tw.dB r,.sl plan.length (ints plan)] (.tup [PO,.int .i64 (peS r plan)]) false:=by
 obtain⟨p,c1⟩:=zh1 r plan hp h;unfold PO;generalize peS r plan=e at *;unfold Tw.dB at *;generalize r.jh=p1 at *;generalize r.osP=p2 at *;generalize r.jV=p3 at *;generalize r.zsP=p4 at *;refine rcK Tz.func37 ?_;simp only[Tryz.results37,Tryz.ntmps37]
 repeat' first|(with_reducible first|apply bG|apply bU|apply bE|apply bP|refine And.intro ?_ ?_|intro _)|simp[*,h]|(refine bN (c1) ?_ ?_;· simp[*];done)
 all_goals first|omega
def rE(plan:List Int):Nat->List Int
 |0=>[]
 |k+1=>if nth plan k=-1 then rE plan k else rE plan k++[nth plan k]
theorem zf1(plan:List Int):∀k,(rE plan k).length<=k
 |0=>bV _
 |k+1=>by have:=zf1 plan k;unfold rE;split<;>simp<;>omega
theorem zdu(plan:List Int):∀n,ql plan n=((List.range n).filter λi=>!(decide (nth plan i=-1))).map (λi=>((i:Nat):Int))/\rE plan n=((List.range n).filter λi=>!(decide (nth plan i=-1))).map (nth plan)
 |0=>⟨rfl,rfl⟩
 |n+1=>by
  obtain⟨h1,h2⟩:=zdu plan n;unfold ql rE;rw[uV,List.filter_append,yk,yk,h1,h2]
  by_cases h:nth plan n=-1<;>simp[h]
theorem zf2(r:Tw.RND)(plan:List Int)(hp:plan.length<100000)(h:ceR r=0)(h2:(gv (bQ r) plan).2=0):bT Tz.prog 37 [Tw.dB r,.sl plan.length (ints plan)] (.tup [bt (bQ r) (bB plan) (cq plan),.int .i64 0]) false:=by
 have ok:=C7 r h;have hin:=zeo _ _ h2;have c1:=zd7 r plan hp h;rw[h2] at c1
 have wr:∀i,i<plan.length->i<(bQ r).wt.length/\(nth (bQ r).wt i).length=(bQ r).bz.length:=λi hi=>by
  have hl:=hin.len;exact⟨by rw[ok.lw];omega,ok.wr i ab⟩
 have at_:=hin.at_;have eL:bB plan=ql plan plan.length:=(zdu plan _).1.symm;have eC:cq plan=rE plan plan.length:=(zdu plan _).2.symm
 have eK:∀k,ql plan (k+1)=if nth plan k=-1 then ql plan k else ql plan k++[(k:Int)]:=λ_=>rfl
 have eQ:∀k,rE plan (k+1)=if nth plan k=-1 then rE plan k else rE plan k++[nth plan k]:=λ_=>rfl
 have bd:=zfy plan;have bq:=zf1 plan;have e0:ql plan 0=[]:=rfl;have q0:rE plan 0=[]:=rfl;have cl:=zg3 (bQ r) ok (bB plan) (cq plan) (by rw[eL];have:=bd plan.length;omega) (by rw[eC];have:=bq plan.length;omega);obtain⟨x1,y1,x2,y2,x3,y3,x4,y4,el⟩:∃n1 a1 n2 a2 n3 a3 n4 a4,bt (bQ r) (bB plan) (cq plan)=.agg [.sl n1 a1,.sl n2 a2,.sl n3 a3,.sl n4 a4]:=⟨_,_,_,_,_,_,_,_,rfl⟩;rw[el] at cl ⊢;rw[eL,eC] at cl;generalize ql plan=K at *;generalize rE plan=Q at *;clear el eL eC;generalize bQ r=x at *;have cs:=GQ x plan;obtain⟨bz,os,wt,zs,fit⟩:=x;have kk:=keep (And.intro eK (And.intro bd (And.intro wr (And.intro at_ (And.intro hp (And.intro eQ bq))))))
 have e1:(K 0).length=0:=by rw[e0];rfl
 have e2:iA (K 0)=[]:=by rw[e0];rfl
 have q1:(Q 0).length=0:=by rw[q0];rfl
 have q2:iA (Q 0)=[]:=by rw[q0];rfl
 have kl:=keep cl;clear eK bd e0 wr at_ hin ok h h2 hp eQ bq q0 cl;unfold Rd.pv at *;simp only[] at c1 cs;unfold Tw.dB at *;generalize r.jh=p1 at *;generalize r.osP=p2 at *;generalize r.jV=p3 at *;generalize r.zsP=p4 at *;refine ug Tz.func37 aj rfl (gH aj) ?_;simp only[Tryz.results37,Tryz.ntmps37];refine iF (iE ?_)
 repeat' first|(with_reducible first|apply bE|intro _)|simp[*]
 refine iF (iE ?_)
 repeat' first|(with_reducible first|apply bE|refine And.intro ?_ ?_|intro _)|simp[*]|(refine bN (c1) ?_ ?_;· simp[*];done)
 clear c1;refine iF (iF (iE ?_))
 repeat' first|(with_reducible first|apply bE|intro _)|simp[*]
 refine BB (o:=false) (f:=false) (b:=false) rfl ?_;simp only[cond_false];refine iE ?_
 repeat' first|(with_reducible first|apply bS|intro _)|simp[*]
 refine iF (iE ?_)
 repeat' first|(with_reducible first|apply bE|intro _)|simp[*]
 refine iF (iF (iE ?_))
 repeat' first|(with_reducible first|apply bE|refine And.intro ?_ ?_|intro _)|simp[*]|(refine bN (cs) ?_ ?_;· simp[*];done)
 clear cs;refine ua (xh (gf:=122) (b8:=[.w false false (.ip [.sl plan.length (ints plan)] 0),.w false false (.ip [.ip [.sl bz.length (dk bz),.sl os.length (dj os),.sl wt.length (dQ wt),.sl zs.length (dm zs),.sl fit.length (oH fit)] 0] 0)]) ?_ Tz.func122 aj rfl (gH aj) (λl=>?_))
 .rfl
 simp only[Tryz.results122,Tryz.ntmps122];simp
 repeat' first|(with_reducible first|apply bG|apply bE|intro _)|simp[*]
 all_goals try first|exact cu ab ab|omega
 refine fI 7 (λ(k:Nat)=>k<=plan.length) [0,2,6,7] (λ(k:Nat)=>[(8,.w false false (.int .i64 k))]) [0,1,2] (λ(k:Nat)=>[(3,[.msl 5 (K k).length 1 0 (K k).length]),(4,[.msl 6 (Q k).length 1 0 (Q k).length]),(5,iA (K k)),(6,iA (Q k))]) (λ(k:Nat)=>plan.length-k) (λ(_u:Unit)=>True) [] (λ(_u:Unit)=>[]) [0,1,2] (λ(_u:Unit)=>[(3,[.msl 5 (K plan.length).length 1 0 (K plan.length).length]),(4,[.msl 6 (Q plan.length).length 1 0 (Q plan.length).length]),(5,iA (K plan.length)),(6,iA (Q plan.length))]) (0) (cG _) (de [] (by simp[e1,e2,q1,q2]) (by simp[e1,e2,q1,q2])) (λk hk=>?_) (λ_u hf=>?_)
 .clear e1 e2 q1 q2 kl;by_cases h5:k<plan.length
  .obtain⟨eK,bd,wr,at_,hp,eQ,bq⟩:=kk;obtain⟨ha,hr⟩:=wr k h5;have e:=eK k;have g:=eQ k;have b:=bd k;have d:=bq k;have hn:=at_ k h5;have a5:inI .i64 ((k:Int)+1):=cu ab ab
   have hz:k+1<=plan.length:=ab
   have aw:(K k).length+1<=1000000000:=ab
   have ax:(Q k).length+1<=1000000000:=ab
   clear eK bd wr at_ hp b eQ bq d;generalize hq:nth plan k=q at *
   rcases hn with hn|hn
   .rw[bX hn] at e g;subst hn;clear ha hr
    repeat' first|(with_reducible first|refine rD (id:=3) 16 ?_ ?_|apply bG|apply cj|apply bS|apply bE|apply bP|intro _)|simp[*,h5,hq,a5]
    all_goals first
     |omega
     |assumption
     |(refine nx (k+1) ?_ ?_;(· exact hz);(refine de [] ?_ ?_<;>first|trivial|(simp[*,e,g];done)))
   .have a':¬q=-1:=ab
    obtain⟨m,rfl⟩:∃m:Nat,q=m:=⟨q.toNat,ab⟩;rw[bH a'] at e g;have ha:k<wt.length:=ha
    have hm:m<(nth wt k).length:=by
     have h1:(nth wt k).length=bz.length:=hr;have h2:(m:Int)<(bz.length:Int):=hn.2;omega
    have e3:iA (K (k+1))=iA (K k)++[.w false false (.int .i64 k)]:=by rw[e,<-HR];rfl
    have e4:(K (k+1)).length=(K k).length+1:=by rw[e];simp
    have g3:iA (Q (k+1))=iA (Q k)++[.w false false (.int .i64 m)]:=by rw[g,<-HR];rfl
    have g4:(Q (k+1)).length=(Q k).length+1:=by rw[g];simp
    clear hn e hr g
    repeat' first|(with_reducible first|refine rD (id:=3) 16 ?_ ?_|apply bG|apply cj|apply bS|apply bE|apply bP|intro _)|simp[*,h5,ha,hq,a5,a',hm]
    all_goals try first|omega|assumption
    refine xj rfl ae ?_
    repeat' first|(with_reducible first|apply ry|apply bE|refine j8 (id:=7) [0,1,2,4,5,6,7,8,9] [3,10,11,12] [[],[],[],[.fld 8 27 0],[.fld 8 27 0],[.fld 8 27 0],[.fld 8 27 0],[.fld 8 27 0],[.fld 8 27 0]] [[.fld 8 27 0],[.fld 9 27 0],[.slot 8],[.slot 9]] mixed ai ?_|intro _)|simp[*,h5,hq,aw,ax]
    all_goals try first|omega|assumption
    refine Bw [(6,iA (Q (k+1))),(5,iA (K (k+1))),(4,[.msl 6 (Q (k+1)).length 1 0 (Q (k+1)).length]),(3,[.msl 5 (K (k+1)).length 1 0 (K (k+1)).length]),(2,[.w true true (.sl 0 []),.w true true (.sl 0 []),.w true true (.sl 0 []),.w true true (.sl 0 [])]),(1,[.w false false (.sl plan.length (ints plan))]),(0,[.w false false p1,.w false false p2,.w false false p3,.w false false p4])] 7 41 ?_ ?_
    .refine de [] ?_ ?_<;>first|trivial|(simp[e3,e4,g3,g4];done)
    repeat' first|(with_reducible first|apply bS|apply bE|apply bP|intro _)|simp[*,h5,ha,hq,a5,a',hm]
    all_goals first
     |omega
     |assumption
     |(refine nx (k+1) ?_ ?_;(· exact hz);(refine de [] ?_ ?_<;>first|trivial|(simp[*];done)))
  .have h9:k=plan.length:=ab
   subst h9;clear kk
   repeat' first|(with_reducible first|apply bG|apply cK|apply bE|apply bP|intro _)|simp[*,h5]
   all_goals first
    |omega
    |(refine dp () ?_ ?_;(· trivial);(refine cg ?_ ?_<;>first|trivial|(simp[*];done)))
 .clear kk e1 e2 q1 q2
  repeat' first|(with_reducible first|intro _)|simp[*]
  simp[gq];refine iF (iE ?_);have cl:=kl;unfold dh at cl
  repeat' first|(with_reducible first|apply bE|refine And.intro ?_ ?_|intro _)|simp[*]|(refine bN (cl) ?_ ?_;· simp[*];done)
  refine iE ?_
  repeat' first|(with_reducible first|apply bU|intro _)|simp[*]
  all_goals first|omega|trivial
section
variable[bJ]
theorem zh6(m:List (List Int))(hl:m.length<100000)(hr:∀w∈m,w.length<100000):bT Tz.prog 88 [.sl m.length (dQ m),.sl m.length (dQ m)] (.bool true) true:=by
 have c:=λk (hk:k<m.length)=>GR (nth m k) (nth m k) (hr _ (tE hk))
 have kc:=keep c;clear hr c;refine rcK Tz.func88 ?_;simp only[Tryz.results88,Tryz.ntmps88]
 repeat' first|(with_reducible first|apply bG|apply bS|apply bE|apply bP|intro _)|simp[*]
 refine fj (λ(k:Nat)=>k<=m.length) [0,1] (λ(k:Nat)=>[(5,.w false false (.int .i64 k))]) [] (λ(k:Nat)=>[]) (λ(k:Nat)=>m.length-k) (λ(_u:Unit)=>True) [] (λ(_u:Unit)=>[]) [] (λ(_u:Unit)=>[]) (0) (cG _) ae ae (λk hk=>?_) (λ_u hf=>?_)
 .by_cases h5:k<m.length
  .have c1:=kc k h5;rw[Bv,decide_eq_true rfl] at c1;have h8:inI .i64 ((k:Int)+1):=cu ab ab
   have hz:k+1<=m.length:=ab
   repeat' first|(with_reducible first|apply bG|apply cj|apply bS|apply bE|refine cT (id:=6) 10 mixed ai ?_|apply bP|refine And.intro ?_ ?_|intro _)|simp[*,h5,h8]|(refine bN (c1) ?_ ?_;· simp[*];done)
   all_goals first
    |omega
    |assumption
    |(refine nx (k+1) ?_ ?_;(· exact hz);(refine cg ?_ ?_<;>first|trivial|(simp[*];done)))
  .have h9:k=m.length:=ab
   subst h9;clear kc
   repeat' first|(with_reducible first|apply bG|apply cK|apply bE|apply bP|intro _)|simp[*,h5]
   all_goals first
    |omega
    |(refine dp () ?_ ?_;(· trivial);(refine cg ?_ ?_<;>first|trivial|(simp[*];done)))
 .repeat' first|(with_reducible first|apply bG|apply bU|apply bE|intro _)|simp[*]
theorem zf3(bz:List Car)(os:List Ord)(wt:List (List Int))(zs:List Par)(h1:bz.length<100000)(h2:os.length<100000)(h3:wt.length<100000)(h4:zs.length<100000)(hr:∀w∈wt,w.length<100000):bT Tz.prog 39 [.agg [.sl bz.length (dk bz),.sl os.length (dj os),.sl wt.length (dQ wt),.sl zs.length (dm zs)],.agg [.sl bz.length (dk bz),.sl os.length (dj os),.sl wt.length (dQ wt),.sl zs.length (dm zs)]] (.bool true) true:=by
 have c1:=zh6 wt h3 hr;clear hr h3;refine rcK Tz.func39 ?_;simp only[Tryz.results39,Tryz.ntmps39]
 repeat' first|(with_reducible first|apply bG|apply bS|apply bE|apply bP|refine And.intro ?_ ?_|intro _)|simp[*]|(refine bN (c1) ?_ ?_;· simp[*];done)
 clear c1;refine fj (λ(k:Nat)=>k<=bz.length) [2,3] (λ(k:Nat)=>[(5,.w false false (.int .i64 k))]) [0,1] (λ(k:Nat)=>[]) (λ(k:Nat)=>bz.length-k) (λ(_u:Unit)=>True) [2,3] (λ(_u:Unit)=>[]) [0,1] (λ(_u:Unit)=>[]) (0) (cG _) ae ae (λk hk=>?_) (λ_u hf=>?_)
 .by_cases h5:k<bz.length
  .have h8:inI .i64 ((k:Int)+1):=cu ab ab
   have hz:k+1<=bz.length:=ab
   repeat' first|(with_reducible first|apply bG|apply cj|apply bS|apply bE|refine cT (id:=6) 11 mixed ai ?_|apply bP|refine And.intro ?_ ?_|intro _)|simp[*,h5,h8,Tw.eX]
   all_goals first
    |omega
    |assumption
    |(refine nx (k+1) ?_ ?_;(· exact hz);(refine cg ?_ ?_<;>first|trivial|(simp[*];done)))
  .have h9:k=bz.length:=ab
   subst h9
   repeat' first|(with_reducible first|apply bG|apply cK|apply bE|apply bP|intro _)|simp[*,h5]
   all_goals first
    |omega
    |(refine dp () ?_ ?_;(· trivial);(refine cg ?_ ?_<;>first|trivial|(simp[*];done)))
 repeat' first|(with_reducible first|apply bG|apply bE|intro _)|simp[*]
 refine fj (λ(k:Nat)=>k<=os.length) [2,3] (λ(k:Nat)=>[(6,.w false false (.int .i64 k))]) [0,1] (λ(k:Nat)=>[]) (λ(k:Nat)=>os.length-k) (λ(_u:Unit)=>True) [2,3] (λ(_u:Unit)=>[]) [0,1] (λ(_u:Unit)=>[]) (0) (cG _) ae ae (λk hk=>?_) (λ_u hf=>?_)
 .by_cases h5:k<os.length
  .have h8:inI .i64 ((k:Int)+1):=cu ab ab
   have hz:k+1<=os.length:=ab
   repeat' first|(with_reducible first|apply bG|apply cj|apply bS|apply bE|refine cT (id:=11) 11 mixed ai ?_|apply bP|refine And.intro ?_ ?_|intro _)|simp[*,h5,h8,Tw.dW]
   all_goals first
    |omega
    |assumption
    |(refine nx (k+1) ?_ ?_;(· exact hz);(refine cg ?_ ?_<;>first|trivial|(simp[*];done)))
  .have h9:k=os.length:=ab
   subst h9
   repeat' first|(with_reducible first|apply bG|apply cK|apply bE|apply bP|intro _)|simp[*,h5]
   all_goals first
    |omega
    |(refine dp () ?_ ?_;(· trivial);(refine cg ?_ ?_<;>first|trivial|(simp[*];done)))
 repeat' first|(with_reducible first|apply bG|apply bE|intro _)|simp[*]
 refine fj (λ(k:Nat)=>k<=zs.length) [2,3] (λ(k:Nat)=>[(7,.w false false (.int .i64 k))]) [0,1] (λ(k:Nat)=>[]) (λ(k:Nat)=>zs.length-k) (λ(_u:Unit)=>True) [] (λ(_u:Unit)=>[]) [0,1] (λ(_u:Unit)=>[]) (0) (cG _) ae ae (λk hk=>?_) (λ_u hf=>?_)
 .by_cases h5:k<zs.length
  .have h8:inI .i64 ((k:Int)+1):=cu ab ab
   have hz:k+1<=zs.length:=ab
   repeat' first|(with_reducible first|apply bG|apply cj|apply bS|apply bE|refine cT (id:=16) 11 mixed ai ?_|apply bP|refine And.intro ?_ ?_|intro _)|simp[*,h5,h8,Tw.dP]
   all_goals first
    |omega
    |assumption
    |(refine nx (k+1) ?_ ?_;(· exact hz);(refine cg ?_ ?_<;>first|trivial|(simp[*];done)))
  .have h9:k=zs.length:=ab
   subst h9
   repeat' first|(with_reducible first|apply bG|apply cK|apply bE|apply bP|intro _)|simp[*,h5]
   all_goals first
    |omega
    |(refine dp () ?_ ?_;(· trivial);(refine cg ?_ ?_<;>first|trivial|(simp[*];done)))
 .repeat' first|(with_reducible first|apply bG|apply bU|apply bE|intro _)|simp[*]
theorem zh7(r:Tw.RND):bT Tz.prog 39 [Tw.dB r,Tw.dB r] (.bool true) true:=
 zf3 r.bz r.os r.wt r.zs r.eU.2.2.2.1 r.eU.2.2.2.2.1 r.eU.2.2.2.2.2.1 r.eU.2.2.2.2.2.2 r.eU.2.2.1
theorem zh8:bT Tz.prog 39 [PO,PO] (.bool true) true:=zf3 [] [] [] [] af af af af ae
end
noncomputable instance zks:bJ:=LD
end Go.Proofs.YthpkmilhiganjaaGreat
