/- Lemmas. -/
import Derived.Test.YthpkmilhiganjaaGreatPEe
import Derived.Test.YthpkmilhiganjaaGreatPDb
import Derived.Test.YthpkmilhiganjaaGreatPEa
import Derived.Test.YthpkmilhiganjaaGreatPDc
set_option linter.all false
set_option maxHeartbeats 32000000
set_option maxRecDepth 100000
namespace Go.Proofs.YthpkmilhiganjaaGreat
open Go Go.Fi
noncomputable instance instLDE83:ak:=LD
theorem zep(r:Tw.RND)(h:ceR r=0)(o c:Int)(he:decE r o c≠0):aB Tz.prog 62 [Tw.cu r,.int .i64 o,.int .i64 c] (.tup [oc,.int .i64 (decE r o c)]) false:=by
 have c1:=nG r;rw[qJ r h] at c1;have ok:=Bd r h;have c2:=zbj (bz r) (by have:=ok.lo;omega) o;have c3:=AM (bz r) (by have:=ok.lc;omega) c;have c4:=AK r.zs (by have:=ok.lz;have e:(bz r).zs=r.zs:=rfl;rw[e] at this;omega) (o,c)
 have c6:=λ(b:Bool)(e:Int)=>eh b e
 have c7:=sV [aP (aL o 0 ((r.os.length:Int)-1)) 6,aP (aL c 0 ((r.ab.length:Int)-1)) 6,aP (!pairIn r.zs o c) 26,aP (decide ((r.zs.length:Int)<64)) 16] (by simp);have c7:aB Tz.prog 70 [.sl 4 [.int .i64 (aP (aL o 0 ((r.os.length:Int)-1)) 6),.int .i64 (aP (aL c 0 ((r.ab.length:Int)-1)) 6),.int .i64 (aP (!pairIn r.zs o c) 26),.int .i64 (aP (decide ((r.zs.length:Int)<64)) 16)]] (.int .i64 (decE r o c)) true:=c7
 change aB Tz.prog _ _ (.int .i64 (aP (aL o 0 ((r.os.length:Int)-1)) 6)) _ at c2
 change aB Tz.prog _ _ (.int .i64 (aP (aL c 0 ((r.ab.length:Int)-1)) 6)) _ at c3
 change aB Tz.prog _ _ (.bool (pairIn r.zs o c)) _ at c4
 have c8:=c6 (!pairIn r.zs o c) 26;have c9:=c6 (decide ((r.zs.length:Int)<64)) 16
 have hz:r.zs.length<1000:=by have:=ok.lz;have e:(bz r).zs=r.zs:=rfl;rw[e] at this;omega
 generalize decE r o c=e at *;generalize aP (aL o 0 ((r.os.length:Int)-1)) 6=e1 at *;generalize aP (aL c 0 ((r.ab.length:Int)-1)) 6=e2 at *;generalize aP (!pairIn r.zs o c) 26=e3 at *;generalize aP (decide ((r.zs.length:Int)<64)) 16=e4 at *;generalize pairIn r.zs o c=b1 at *;have er:Tw.cu r=.agg [.sl r.ab.length (bf r.ab),.sl r.os.length (ba r.os),.sl r.wt.length (bP r.wt),.sl r.zs.length (aZ r.zs)]:=rfl;rw[er] at c1 ⊢
 change aB Tz.prog _ [.sl r.zs.length (aZ r.zs),.agg [.int .i64 o,.int .i64 c]] _ _ at c4
 unfold oc;clear c6 h ok er;generalize bz r=x at *;unfold Rd.pv at *;refine rcK Tz.func62 ?_;simp only[Tryz.results62,Tryz.ntmps62]
 repeat' first|(with_reducible first|apply aj|apply aI|apply dq|apply cT|apply aE|apply av|apply aK|apply af|refine bm (id:=5) 20 mixed (by decide +kernel) ?_|apply au|refine And.intro ?_ ?_|apply dG|apply dH|exact dI|exact dJ|exact dt|exact dB|exact du|exact dC|exact dw|exact dD|exact dz|exact dE|exact dA|exact dF|refine dk ?_ ?_|refine dj ?_ ?_ |  refine cD ?_ ?_|refine bY ?_ ?_|refine dm ?_ ?_|refine cK ?_ ?_|refine dp ?_ ?_|refine cw (c1) ?_|refine cw (c2) ?_|refine cw (c3) ?_|refine cw (c4) ?_|refine cw (c8) ?_|refine cw (c9) ?_|refine cw (c7) ?_|intro _)|(simp[*,he,Tw.cg])|(refine ar (c1) ?_ ?_;(· (simp[*];done)))|(refine ar (c2) ?_ ?_;(· (simp[*];done)))|(refine ar (c3) ?_ ?_;(· (simp[*];done)))|(refine ar (c4) ?_ ?_;(· (simp[*];done)))|(refine ar (c8) ?_ ?_;(· (simp[*];done)))|(refine ar (c9) ?_ ?_;(· (simp[*];done)))|(refine ar (c7) ?_ ?_;(· (simp[*];done)))
 all_goals first|omega|assumption
theorem zeq(r:Tw.RND)(h:ceR r≠0)(o c:Int):aB Tz.prog 62 [Tw.cu r,.int .i64 o,.int .i64 c] (.tup [oc,.int .i64 (ceR r)]) false:=by
 have c1:=nG r;rw[N4 r h] at c1;unfold oc;generalize ceR r=e at *;unfold Tw.cu at *;generalize r.j6=p1 at *;generalize r.osP=p2 at *;generalize r.mn=p3 at *;generalize r.zsP=p4 at *;refine rcK Tz.func62 ?_;simp only[Tryz.results62,Tryz.ntmps62]
 repeat' first|(with_reducible first|apply aj|apply aI|apply dq|apply cT|apply aE|apply av|apply aK|apply af|refine bm (id:=5) 20 mixed (by decide +kernel) ?_|apply au|refine And.intro ?_ ?_|apply dG|apply dH|exact dI|exact dJ|exact dt|exact dB|exact du|exact dC|exact dw|exact dD|exact dz|exact dE|exact dA|exact dF|refine dk ?_ ?_|refine dj ?_ ?_ |  refine cD ?_ ?_|refine bY ?_ ?_|refine dm ?_ ?_|refine cK ?_ ?_|refine dp ?_ ?_|refine cw (c1) ?_|intro _)|(simp[*,h])|(refine ar (c1) ?_ ?_;(· (simp[*];done)))
 all_goals first|omega
theorem zer(r:Tw.RND):jz Tz.prog 18 [Tw.cu r] [cA (aZ r.zs)] (.agg [.w true false (.sl r.ab.length (bf r.ab)),.w true false (.sl r.os.length (ba r.os)),.w true false (.sl r.wt.length (bP r.wt)),.msl 0 (r.zs.length*2) 2 0 r.zs.length]):=by
 obtain⟨ab,os,wt,zs,dT⟩:=r;obtain⟨f1,f2,f3,f4,f5,f6,f7⟩:=dT;have c1:=Gs wt f6 f3;unfold Tw.cu Tw.RND.j6 Tw.RND.osP Tw.RND.mn Tw.RND.zsP Tw.RND.nw Tw.RND.wait;simp only[]
 change jz Tz.prog 18 [.agg [.sl ab.length (bf ab),.sl os.length (ba os),.sl wt.length (bP wt),.sl zs.length (aZ zs)]] [cA (aZ zs)] (.agg [.w true false (.sl ab.length (bf ab)),.w true false (.sl os.length (ba os)),.w true false (.sl wt.length (bP wt)),.msl 0 (zs.length*2) 2 0 zs.length])
 clear f1 f2 f3 f6;have hE:=zcc zs;refine sY 4 [2,3] Tz.func18 (by kernel_rfl) rfl (ga (by kernel_rfl)) (by simp) (by simpa using hE) ?_;simp only[Tryz.results18,Tryz.ntmps18];clear hE;have h3:=CN zs;have e3:(aZ zs).map (AV.w false false)=cA (aZ zs):=rfl
 repeat' first|(with_reducible first|apply aj|apply aI|apply dq|apply cT|apply aE|apply av|apply aK|apply af|refine qF (id:=1) [0,1,2,4,5,6,8,9,11,12,13] [3,7,10,14,15,16] [[],[],[],[.new 0],[.new 0],[.new 0],[.new 0,.new 1],[.new 0,.new 1],[.new 0,.new 1],[.new 0,.new 1],[.new 0,.new 1]] [[.new 0],[.new 1],[],[.new 2],[],[.slot 2]] mixed (by decide +kernel) ?_|apply au|refine And.intro ?_ ?_|apply dG|apply dH|exact dI|exact dJ|exact dt|exact dB|exact du|exact dC|exact dw|exact dD|exact dz|exact dE|exact dA|exact dF|refine dk ?_ ?_|refine dj ?_ ?_ |  refine cD ?_ ?_|refine bY ?_ ?_|refine dm ?_ ?_|refine cK ?_ ?_|refine dp ?_ ?_|refine cw (c1) ?_|intro _)|(simp[*,h3,cA_sh,e3])|(refine ar (c1) ?_ ?_;(· (simp[*];done)))
 all_goals first
  |omega
  |(rename_i hx;first|exact (wx _ _ hx).1|exact (wy _ _ hx).1|exact (wz _ _ hx).1)
  |(refine wh false false _ (fR.2 λy hy=>?_);first|exact (wx _ _ hy).2|exact (wy _ _ hy).2|exact (wz _ _ hy).2)
noncomputable instance instLDE84:ak:=LD
theorem E2{r:Tw.RND}{o c:Int}(h:decE r o c=0):aL o 0 ((r.os.length:Int)-1)=true/\aL c 0 ((r.ab.length:Int)-1)=true/\pairIn r.zs o c=false/\r.zs.length<64:=by
 unfold decE at h;obtain⟨h1,h⟩:=bW h;obtain⟨h2,h⟩:=bW h;obtain⟨h3,h⟩:=bW h;obtain⟨h4,h⟩:=bW h
 have key:∀(b:Bool)(e:Int),e≠0->aP b e=0->b=true:=λb e he hb=>by
  cases b with
  |true=>rfl
  |false=>exact absurd hb he
 have h4:=key _ _ (by decide) h4;exact⟨key _ _ (by decide) h1,key _ _ (by decide) h2,by simpa using key _ _ (by decide) h3,by have:=of_decide_eq_true h4;omega⟩
def decRnd(r:Tw.RND)(o c:Int):PV:=.agg [.sl r.ab.length (bf r.ab),.sl r.os.length (ba r.os),.sl r.wt.length (bP r.wt),.sl (r.zs.length+1) (aZ (r.zs++[(o,c)]))]
theorem zes(r:Tw.RND)(ho:r.os.length<100000)(hc:r.ab.length<100000)(o c:Int)(he:decE r o c=0):aB Tz.prog 63 [Tw.cu r,.int .i64 o,.int .i64 c] (.tup [decRnd r o c,.int .i64 0]) true:=by
 obtain⟨h1,h2,h3,h4⟩:=E2 he;have c1:=zbh r.ab r.os r.wt r.zs ho o;have c2:=zbi r.ab r.os r.wt r.zs hc c;have c3:=zbg r.zs (by omega) (o,c)
 change aB Tz.prog _ [.sl r.zs.length (aZ r.zs),.agg [.int .i64 o,.int .i64 c]] (.bool (pairIn r.zs o c)) _ at c3
 rw[h1] at c1;rw[h2] at c2;rw[h3] at c3;have c5:=zer r;have er:Tw.cu r=.agg [.sl r.ab.length (bf r.ab),.sl r.os.length (ba r.os),.sl r.wt.length (bP r.wt),.sl r.zs.length (aZ r.zs)]:=rfl;rw[er] at c5 ⊢;have hh:=CN r.zs
 have ec:cA (aZ r.zs)++[.w false false (.int .i64 o),.w false false (.int .i64 c)]=cA (aZ (r.zs++[(o,c)])):=by
  rw[P3]
 have h5:¬(64:Int)<=(r.zs.length:Int):=by omega
 have h6:¬64<=r.zs.length:=by omega
 unfold decRnd;clear er h1 h2 h3 he ho hc;generalize r.ab.length=n1 at *;generalize bf r.ab=p1 at *;generalize r.os.length=n2 at *;generalize ba r.os=p2 at *;generalize r.wt.length=n3 at *;generalize bP r.wt=p3 at *;refine rcK Tz.func63 ?_;simp only[Tryz.results63,Tryz.ntmps63]
 repeat' first|(with_reducible first|apply aj|apply aI|apply dq|apply cT|apply aE|apply av|apply aK|apply af|apply au|refine And.intro ?_ ?_|apply dG|apply dH|exact dI|exact dJ|exact dt|exact dB|exact du|exact dC|exact dw|exact dD|exact dz|exact dE|exact dA|exact dF|refine dk ?_ ?_|refine dj ?_ ?_ |  refine cD ?_ ?_|refine bY ?_ ?_|refine dm ?_ ?_|refine cK ?_ ?_|refine dp ?_ ?_|refine cw (c1) ?_|refine cw (c2) ?_|refine cw (c3) ?_|refine cwM (c5) ?_|intro _)|(simp[*,h4,h5,h6,ec,hh,cA_sh,Tw.cg,fL])|(refine ar (c1) ?_ ?_;(· (simp[*];done)))|(refine ar (c2) ?_ ?_;(· (simp[*];done)))|(refine ar (c3) ?_ ?_;(· (simp[*];done)))
 all_goals first|omega|assumption
theorem zet(r:Tw.RND)(ho:r.os.length<100000)(hc:r.ab.length<100000)(hz:r.zs.length<100000)(o c:Int)(he:decE r o c≠0):aB Tz.prog 63 [Tw.cu r,.int .i64 o,.int .i64 c] (.tup [oc,.int .i64 (decE r o c)]) true:=by
 have c1:=zbh r.ab r.os r.wt r.zs ho o;have c2:=zbi r.ab r.os r.wt r.zs hc c;have c3:=zbg r.zs (by omega) (o,c)
 change aB Tz.prog _ [.sl r.zs.length (aZ r.zs),.agg [.int .i64 o,.int .i64 c]] (.bool (pairIn r.zs o c)) _ at c3
 have er:Tw.cu r=.agg [.sl r.ab.length (bf r.ab),.sl r.os.length (ba r.os),.sl r.wt.length (bP r.wt),.sl r.zs.length (aZ r.zs)]:=rfl;rw[er];unfold oc;unfold decE at *;clear er ho hc;generalize bf r.ab=p1 at *;generalize ba r.os=p2 at *;generalize r.wt.length=n3 at *;generalize bP r.wt=p3 at *;generalize aL o 0 ((r.os.length:Int)-1)=b1 at *;generalize aL c 0 ((r.ab.length:Int)-1)=b2 at *;generalize pairIn r.zs o c=b3 at *
 cases b1 with
 |false=>
  simp only[aP,dc];refine rcK Tz.func63 ?_;simp only[Tryz.results63,Tryz.ntmps63]
  repeat' first|(with_reducible first|apply aj|apply aI|apply dq|apply cT|apply aE|apply av|apply aK|apply af|apply au|refine And.intro ?_ ?_|apply dG|apply dH|exact dI|exact dJ|exact dt|exact dB|exact du|exact dC|exact dw|exact dD|exact dz|exact dE|exact dA|exact dF|refine dk ?_ ?_|refine dj ?_ ?_ |  refine cD ?_ ?_|refine bY ?_ ?_|refine dm ?_ ?_|refine cK ?_ ?_|refine dp ?_ ?_|refine cw (c1) ?_|intro _)|(simp[*])|(refine ar (c1) ?_ ?_;(· (simp[*];done)))
  all_goals first|omega
 |true=>
  cases b2 with
  |false=>
   simp only[aP,dc];refine rcK Tz.func63 ?_;simp only[Tryz.results63,Tryz.ntmps63]
   repeat' first|(with_reducible first|apply aj|apply aI|apply dq|apply cT|apply aE|apply av|apply aK|apply af|apply au|refine And.intro ?_ ?_|apply dG|apply dH|exact dI|exact dJ|exact dt|exact dB|exact du|exact dC|exact dw|exact dD|exact dz|exact dE|exact dA|exact dF|refine dk ?_ ?_|refine dj ?_ ?_ |  refine cD ?_ ?_|refine bY ?_ ?_|refine dm ?_ ?_|refine cK ?_ ?_|refine dp ?_ ?_|refine cw (c1) ?_|refine cw (c2) ?_|intro _)|(simp[*])|(refine ar (c1) ?_ ?_;(· (simp[*];done)))|(refine ar (c2) ?_ ?_;(· (simp[*];done)))
   all_goals first|omega
  |true=>
   cases b3 with
   |true=>
    simp only[aP,dc];refine rcK Tz.func63 ?_;simp only[Tryz.results63,Tryz.ntmps63]
    repeat' first|(with_reducible first|apply aj|apply aI|apply dq|apply cT|apply aE|apply av|apply aK|apply af|apply au|refine And.intro ?_ ?_|apply dG|apply dH|exact dI|exact dJ|exact dt|exact dB|exact du|exact dC|exact dw|exact dD|exact dz|exact dE|exact dA|exact dF|refine dk ?_ ?_|refine dj ?_ ?_ |  refine cD ?_ ?_|refine bY ?_ ?_|refine dm ?_ ?_|refine cK ?_ ?_|refine dp ?_ ?_|refine cw (c1) ?_|refine cw (c2) ?_|refine cw (c3) ?_|intro _)|(simp[*,Tw.cg])|(refine ar (c1) ?_ ?_;(· (simp[*];done)))|(refine ar (c2) ?_ ?_;(· (simp[*];done)))|(refine ar (c3) ?_ ?_;(· (simp[*];done)))
    all_goals first|omega
   |false=>
    by_cases h4:r.zs.length<64
    .exact absurd (by simp[aP,dc];omega) he
    .have h5:(64:Int)<=(r.zs.length:Int):=by omega
     have h6:¬(r.zs.length:Int)<64:=by omega
     have h7:64<=r.zs.length:=by omega
     simp only[aP,dc,h6];refine rcK Tz.func63 ?_;simp only[Tryz.results63,Tryz.ntmps63]
     repeat' first|(with_reducible first|apply aj|apply aI|apply dq|apply cT|apply aE|apply av|apply aK|apply af|apply au|refine And.intro ?_ ?_|apply dG|apply dH|exact dI|exact dJ|exact dt|exact dB|exact du|exact dC|exact dw|exact dD|exact dz|exact dE|exact dA|exact dF|refine dk ?_ ?_|refine dj ?_ ?_ |  refine cD ?_ ?_|refine bY ?_ ?_|refine dm ?_ ?_|refine cK ?_ ?_|refine dp ?_ ?_|refine cw (c1) ?_|refine cw (c2) ?_|refine cw (c3) ?_|intro _)|(simp[*,h5,h7,Tw.cg])|(refine ar (c1) ?_ ?_;(· (simp[*];done)))|(refine ar (c2) ?_ ?_;(· (simp[*];done)))|(refine ar (c3) ?_ ?_;(· (simp[*];done)))
     all_goals first|omega
section
variable[ak]
theorem zeu(m:List (List Int))(hl:m.length<100000)(hr:∀w∈m,w.length<100000):aB Tz.prog 88 [.sl m.length (bP m),.sl m.length (bP m)] (.bool true) true:=by
 have c:=λk (hk:k<m.length)=>Gf (nth m k) (nth m k) (hr _ (zbc hk))
 have kc:=keep c;clear hr c;refine rcK Tz.func88 ?_;simp only[Tryz.results88,Tryz.ntmps88]
 repeat' first|(with_reducible first|apply aj|apply aE|apply af|apply au|intro _)|(simp[*])
 refine eD (λ(k:Nat)=>k<=m.length) [0,1] (λ(k:Nat)=>[(5,.w false false (.int .i64 k))]) [] (λ(k:Nat)=>[]) (λ(k:Nat)=>m.length-k) (λ(_u:Unit)=>True) [] (λ(_u:Unit)=>[]) [] (λ(_u:Unit)=>[]) (0) (aR _) (by simp) (by simp) (λk hk=>?_) (λ_u hf=>?_)
 .by_cases h8:k<m.length
  .have c1:=kc k h8;rw[AN,decide_eq_true rfl] at c1;have h9:inI .i64 ((k:Int)+1):=aN (by omega) (by omega)
   have hz:k+1<=m.length:=by omega
   repeat' first|(with_reducible first|apply aj|apply aI|apply aE|apply af|refine bm (id:=6) 10 mixed (by decide +kernel) ?_|apply au|refine And.intro ?_ ?_|refine cw (c1) ?_|intro _)|(simp[*,h8,h9])|(refine ar (c1) ?_ ?_;(· (simp[*];done)))
   all_goals first
    |omega
    |assumption
    |(refine nx (k+1) ?_ ?_;(· exact hz);(refine aM ?_ ?_<;>first|trivial|(simp[*];done)))
  .have h':k=m.length:=by omega
   subst h';clear kc
   repeat' first|(with_reducible first|apply aj|apply aK|apply af|apply au|intro _)|(simp[*,h8])
   all_goals first
    |omega
    |(refine bN () ?_ ?_;(· trivial);(refine aM ?_ ?_<;>first|trivial|(simp[*];done)))
 .repeat' first|(with_reducible first|apply aj|apply av|apply af|intro _)|(simp[*])
theorem zc5(ab:List Car)(os:List Ord)(wt:List (List Int))(zs:List Par)(h1:ab.length<100000)(h2:os.length<100000)(h3:wt.length<100000)(h4:zs.length<100000)(hr:∀w∈wt,w.length<100000):aB Tz.prog 39 [.agg [.sl ab.length (bf ab),.sl os.length (ba os),.sl wt.length (bP wt),.sl zs.length (aZ zs)],.agg [.sl ab.length (bf ab),.sl os.length (ba os),.sl wt.length (bP wt),.sl zs.length (aZ zs)]] (.bool true) true:=by
 have c1:=zeu wt h3 hr;clear hr h3;refine rcK Tz.func39 ?_;simp only[Tryz.results39,Tryz.ntmps39]
 repeat' first|(with_reducible first|apply aj|apply aE|apply af|apply au|refine And.intro ?_ ?_|refine cw (c1) ?_|intro _)|(simp[*])|(refine ar (c1) ?_ ?_;(· (simp[*];done)))
 clear c1;refine eD (λ(k:Nat)=>k<=ab.length) [2,3] (λ(k:Nat)=>[(5,.w false false (.int .i64 k))]) [0,1] (λ(k:Nat)=>[]) (λ(k:Nat)=>ab.length-k) (λ(_u:Unit)=>True) [2,3] (λ(_u:Unit)=>[]) [0,1] (λ(_u:Unit)=>[]) (0) (aR _) (by simp) (by simp) (λk hk=>?_) (λ_u hf=>?_)
 .by_cases h8:k<ab.length
  .have h9:inI .i64 ((k:Int)+1):=aN (by omega) (by omega)
   have hz:k+1<=ab.length:=by omega
   repeat' first|(with_reducible first|apply aj|apply aI|apply aE|apply af|refine bm (id:=6) 11 mixed (by decide +kernel) ?_|apply au|refine And.intro ?_ ?_|intro _)|(simp[*,h8,h9,Tw.dM])
   all_goals first
    |omega
    |assumption
    |(refine nx (k+1) ?_ ?_;(· exact hz);(refine aM ?_ ?_<;>first|trivial|(simp[*];done)))
  .have h':k=ab.length:=by omega
   subst h'
   repeat' first|(with_reducible first|apply aj|apply aK|apply af|apply au|intro _)|(simp[*,h8])
   all_goals first
    |omega
    |(refine bN () ?_ ?_;(· trivial);(refine aM ?_ ?_<;>first|trivial|(simp[*];done)))
 repeat' first|(with_reducible first|apply aj|apply af|intro _)|(simp[*])
 refine eD (λ(k:Nat)=>k<=os.length) [2,3] (λ(k:Nat)=>[(6,.w false false (.int .i64 k))]) [0,1] (λ(k:Nat)=>[]) (λ(k:Nat)=>os.length-k) (λ(_u:Unit)=>True) [2,3] (λ(_u:Unit)=>[]) [0,1] (λ(_u:Unit)=>[]) (0) (aR _) (by simp) (by simp) (λk hk=>?_) (λ_u hf=>?_)
 .by_cases h8:k<os.length
  .have h9:inI .i64 ((k:Int)+1):=aN (by omega) (by omega)
   have hz:k+1<=os.length:=by omega
   repeat' first|(with_reducible first|apply aj|apply aI|apply aE|apply af|refine bm (id:=11) 11 mixed (by decide +kernel) ?_|apply au|refine And.intro ?_ ?_|intro _)|(simp[*,h8,h9,Tw.cJ])
   all_goals first
    |omega
    |assumption
    |(refine nx (k+1) ?_ ?_;(· exact hz);(refine aM ?_ ?_<;>first|trivial|(simp[*];done)))
  .have h':k=os.length:=by omega
   subst h'
   repeat' first|(with_reducible first|apply aj|apply aK|apply af|apply au|intro _)|(simp[*,h8])
   all_goals first
    |omega
    |(refine bN () ?_ ?_;(· trivial);(refine aM ?_ ?_<;>first|trivial|(simp[*];done)))
 repeat' first|(with_reducible first|apply aj|apply af|intro _)|(simp[*])
 refine eD (λ(k:Nat)=>k<=zs.length) [2,3] (λ(k:Nat)=>[(7,.w false false (.int .i64 k))]) [0,1] (λ(k:Nat)=>[]) (λ(k:Nat)=>zs.length-k) (λ(_u:Unit)=>True) [] (λ(_u:Unit)=>[]) [0,1] (λ(_u:Unit)=>[]) (0) (aR _) (by simp) (by simp) (λk hk=>?_) (λ_u hf=>?_)
 .by_cases h8:k<zs.length
  .have h9:inI .i64 ((k:Int)+1):=aN (by omega) (by omega)
   have hz:k+1<=zs.length:=by omega
   repeat' first|(with_reducible first|apply aj|apply aI|apply aE|apply af|refine bm (id:=16) 11 mixed (by decide +kernel) ?_|apply au|refine And.intro ?_ ?_|intro _)|(simp[*,h8,h9,Tw.cg])
   all_goals first
    |omega
    |assumption
    |(refine nx (k+1) ?_ ?_;(· exact hz);(refine aM ?_ ?_<;>first|trivial|(simp[*];done)))
  .have h':k=zs.length:=by omega
   subst h'
   repeat' first|(with_reducible first|apply aj|apply aK|apply af|apply au|intro _)|(simp[*,h8])
   all_goals first
    |omega
    |(refine bN () ?_ ?_;(· trivial);(refine aM ?_ ?_<;>first|trivial|(simp[*];done)))
 .repeat' first|(with_reducible first|apply aj|apply av|apply af|intro _)|(simp[*])
theorem zev(r:Tw.RND):aB Tz.prog 39 [Tw.cu r,Tw.cu r] (.bool true) true:=
 zc5 r.ab r.os r.wt r.zs r.dT.2.2.2.1 r.dT.2.2.2.2.1 r.dT.2.2.2.2.2.1 r.dT.2.2.2.2.2.2 r.dT.2.2.1
theorem zew:aB Tz.prog 39 [oc,oc] (.bool true) true:=zc5 [] [] [] [] (by decide) (by decide) (by decide) (by decide) (by simp)
end
noncomputable instance zgz:ak:=LD
noncomputable instance zg0:ak:=LD
noncomputable instance instLDE85:ak:=LD
def decR(r:Tw.RND)(h:ceR r=0)(o c:Int)(he:decE r o c=0):Tw.RND:=⟨r.ab,r.os,r.wt,r.zs++[(o,c)],by
 obtain⟨f1,f2,f3,f4,f5,f6,f7⟩:=r.dT;have:=(E2 he).2.2.2
 exact⟨f1,f2,f3,f4,f5,f6,by simp;omega⟩⟩
theorem zex(r:Tw.RND)(h:ceR r=0)(o c:Int)(he:decE r o c=0):Tw.cu (decR r h o c he)=decRnd r o c:=by
 have e:(r.zs++[(o,c)]).length=r.zs.length+1:=by simp
 unfold decRnd;rw[<-e];rfl
theorem zc6(zs:List Par)(o c:Int)(p:Par):hasB (zs++[(o,c)]) p=(hasB zs p || (decide (p.1=o)&&decide (p.2=c))):=by
 simp[hasB]
theorem zbk(r:Tw.RND)(h:ceR r=0)(o c:Int)(he:decE r o c=0):ceR (decR r h o c he)=0:=by
 obtain⟨h1,h2,h3,h4⟩:=E2 he;have t:=(zbf r).1 h;refine (zbf _).2 ⟨t.lc,t.lo,t.lw,?_,t.cn,t.cd,t.on,t.od,t.wr,?_,?_⟩
 .show (r.zs++[(o,c)]).length<=64;simp;omega
 .intro p hp
  rcases iF.1 hp with hp|hp
  .exact t.zr p hp
  .rw[oZ.1 hp];exact⟨h1,h2⟩
 .show (r.zs++[(o,c)]).Pairwise _;refine List.pairwise_append.2 ⟨t.zd,List.pairwise_singleton _ _,λa ha b hb=>?_⟩;rw[oZ.1 hb];unfold pairIn at h3;have:=xC.1 h3 a ha;simpa using this
theorem zey(r:Tw.RND)(h:ceR r=0)(o c:Int)(he:decE r o c=0):eF (bz r) (bB (bz r))<=eF (bz (decR r h o c he)) (bB (bz (decR r h o c he))):=by
 refine zef _ _ (Bd r h) (Bd _ (zbk r h o c he)) rfl rfl (λi hi=>rfl) (λi k hi hk hf=>⟨?_,xE _⟩);rw[zbu (decR r h o c he) i k hi hk] at hf;rw[zbu r i k hi hk];unfold C8 at hf ⊢
 change ((_&&_) && !hasB (r.zs++[(o,c)]) _)=true at hf
 rw[zc6] at hf;simp only[di,xA,Bool.or_eq_false_iff] at hf;simp only[di,xA];exact⟨hf.1,hf.2.1⟩
theorem zez(r:Tw.RND)(h:ceR r=0)(o c:Nat)(he:decE r o c=0):C8 (decR r h o c he).ab (decR r h o c he).os (decR r h o c he).zs o c=false:=by
 unfold C8
 change ((_&&_) && !hasB (r.zs++[((o:Int),(c:Int))]) _)=false
 rw[zc6];simp
theorem zc7(x:Rd):∃n1 a1 n2 a2 n3 a3,zbr x=.agg [.sl n1 a1,.int .i64 (eF x (bB x)),.sl n2 a2,.sl n3 a3]:=⟨_,_,_,_,_,_,rfl⟩
theorem ze0(ab:List Car)(os:List Ord)(wt:List (List Int))(zs:List Par)(o c:Int):BY Tz.prog Tryz.f13 (Tryz.f13.body.getD .skip) [.agg [.sl ab.length (bf ab),.sl os.length (ba os),.sl wt.length (bP wt),.sl zs.length (aZ zs)],.int .i64 o,.int .i64 c] (.bool true) true:=by
 have ca:=OV;have cf:=R7 ab os wt zs;refine Fz (ga (by kernel_rfl)) ?_;have hb:Tryz.f13.body=some _:=rfl;rw[hb];clear hb;simp only[nO,Tryz.ntmps13,Tryz.results13]
 cases hw:rH ab os wt zs with
 |false=>
  rw[hw] at cf;clear hw
  repeat' first|(with_reducible first|apply aj|apply aI|apply dq|apply cT|apply aE|apply av|apply aK|apply af|apply au|refine And.intro ?_ ?_|apply dG|apply dH|exact dI|exact dJ|exact dt|exact dB|exact du|exact dC|exact dw|exact dD|exact dz|exact dE|exact dA|exact dF|refine dk ?_ ?_|refine dj ?_ ?_ |  refine cD ?_ ?_|refine bY ?_ ?_|refine dm ?_ ?_|refine cK ?_ ?_|refine dp ?_ ?_|refine cw (ca) ?_|refine cw (cf) ?_|intro _)|(simp[*])|(refine ar (ca) ?_ ?_;(· (simp[*];done)))|(refine ar (cf) ?_ ?_;(· (simp[*];done)))
  all_goals first|omega
 |true=>
  rw[hw] at cf;obtain⟨⟨l1,k1⟩,⟨l2,k2⟩,l3,l4,l5,l6,l7⟩:=Gu hw
  have c1:aB Tz.prog 20 [.agg [.sl ab.length (bf ab),.sl os.length (ba os),.sl wt.length (bP wt),.sl zs.length (aZ zs)]] (.int .i64 (ceR (H6 ab os wt zs hw))) true:=
   zeb ab os wt zs (by omega) (by omega) (by omega) (by omega) (λx hx=>by have:=l5 x hx;omega) (λx hx=>by have:=l6 x hx;omega) (λx hx=>by have:=l7 x hx;omega)
  obtain⟨r,hr⟩:∃r,r=H6 ab os wt zs hw:=⟨_,rfl⟩
  have ev:Tw.cu r=.agg [.sl ab.length (bf ab),.sl os.length (ba os),.sl wt.length (bP wt),.sl zs.length (aZ zs)]:=by rw[hr];rfl
  have er:r.ab=ab/\r.os=os/\r.wt=wt/\r.zs=zs:=by rw[hr];exact⟨rfl,rfl,rfl,rfl⟩
  have cc:=Gt r;rw[<-hr] at c1;rw[ev] at cc;clear hr hw;have sn:=zew;unfold oc at sn;by_cases he:ceR r=0
  .rw[he] at c1;by_cases hd:decE r o c=0
   .obtain⟨h1,h2,h3,h4⟩:=E2 hd;obtain⟨p,rfl⟩:∃p:Nat,o=p:=⟨o.toNat,by have:=kQ.1 h1;omega⟩;obtain⟨q,rfl⟩:∃q:Nat,c=q:=⟨c.toNat,by have:=kQ.1 h2;omega⟩
    have hp:p<r.os.length:=by have:=kQ.1 h1;omega
    have hq:q<r.ab.length:=by have:=kQ.1 h2;omega
    have c2:=zeo r he p q hd
    change aB Tz.prog _ _ (.tup [decRnd r p q,_]) _ at c2
    have c3:=zes r (by rw[er.2.1];omega) (by rw[er.1];omega) p q hd;have c4:=zev (decR r he p q hd);have c5:=Gt (decR r he p q hd);have c6:=zel (decR r he p q hd) (zbk r he p q hd) p q hp hq;rw[zez] at c6;have c7:=zc4 r he;have c8:=zc4 (decR r he p q hd) (zbk r he p q hd);have hm:=zey r he p q hd;obtain⟨n1,a1,n2,a2,n3,a3,eb⟩:=zc7 (bz r);obtain⟨m1,b1,m2,b2,m3,b3,eb2⟩:=zc7 (bz (decR r he p q hd));rw[eb] at c7;rw[eb2] at c8;rw[zex] at c4 c5 c6 c8;rw[ev] at c2 c3 c7;obtain⟨x1,y1,x2,y2,x3,y3,x4,y4,el⟩:∃x1 y1 x2 y2 x3 y3 x4 y4,decRnd r p q=.agg [.sl x1 y1,.sl x2 y2,.sl x3 y3,.sl x4 y4]:=⟨_,_,_,_,_,_,_,_,rfl⟩;rw[el] at c2 c3 c4 c5 c6 c8;generalize eF (bz (decR r he p q hd)) (bB (bz (decR r he p q hd)))=B at *;generalize eF (bz r) (bB (bz r))=A at *;clear eb eb2 el ev er h1 h2 h3 h4 hp hq l1 l2 l3 l4 l5 l6 l7 k1 k2
    repeat' first|(with_reducible first|apply aj|apply aI|apply dq|apply cT|apply aE|apply av|apply aK|apply af|apply au|refine And.intro ?_ ?_|apply dG|apply dH|exact dI|exact dJ|exact dt|exact dB|exact du|exact dC|exact dw|exact dD|exact dz|exact dE|exact dA|exact dF|refine dk ?_ ?_|refine dj ?_ ?_ |  refine cD ?_ ?_|refine bY ?_ ?_|refine dm ?_ ?_|refine cK ?_ ?_|refine dp ?_ ?_|refine cw (ca) ?_|refine cw (cf) ?_|refine cw (cc) ?_|refine cw (c1) ?_|refine cw (c2) ?_|refine cw (c3) ?_|refine cw (c4) ?_|refine cw (c5) ?_|refine cw (c6) ?_|refine cw (c7) ?_|refine cw (c8) ?_|intro _)|(simp[*,hm])|(refine ar (ca) ?_ ?_;(· (simp[*];done)))|(refine ar (cf) ?_ ?_;(· (simp[*];done)))|(refine ar (cc) ?_ ?_;(· (simp[*];done)))|(refine ar (c1) ?_ ?_;(· (simp[*];done)))|(refine ar (c2) ?_ ?_;(· (simp[*];done)))|(refine ar (c3) ?_ ?_;(· (simp[*];done)))|(refine ar (c4) ?_ ?_;(· (simp[*];done)))|(refine ar (c5) ?_ ?_;(· (simp[*];done)))|(refine ar (c6) ?_ ?_;(· (simp[*];done)))|(refine ar (c7) ?_ ?_;(· (simp[*];done)))|(refine ar (c8) ?_ ?_;(· (simp[*];done)))
    all_goals first|omega|exact fw (by decide)
   .have c2:=zep r he o c hd;have c3:=zet r (by rw[er.2.1];omega) (by rw[er.1];omega) (by rw[er.2.2.2];omega) o c hd;unfold oc at c2 c3;rw[ev] at c2 c3;generalize decE r o c=d at *;clear ev er l1 l2 l3 l4 l5 l6 l7 k1 k2
    repeat' first|(with_reducible first|apply aj|apply aI|apply dq|apply cT|apply aE|apply av|apply aK|apply af|apply au|refine And.intro ?_ ?_|apply dG|apply dH|exact dI|exact dJ|exact dt|exact dB|exact du|exact dC|exact dw|exact dD|exact dz|exact dE|exact dA|exact dF|refine dk ?_ ?_|refine dj ?_ ?_ |  refine cD ?_ ?_|refine bY ?_ ?_|refine dm ?_ ?_|refine cK ?_ ?_|refine dp ?_ ?_|refine cw (ca) ?_|refine cw (cf) ?_|refine cw (cc) ?_|refine cw (c1) ?_|refine cw (c2) ?_|refine cw (c3) ?_|refine cw (sn) ?_|intro _)|(simp[*,hd])|(refine ar (ca) ?_ ?_;(· (simp[*];done)))|(refine ar (cf) ?_ ?_;(· (simp[*];done)))|(refine ar (cc) ?_ ?_;(· (simp[*];done)))|(refine ar (c1) ?_ ?_;(· (simp[*];done)))|(refine ar (c2) ?_ ?_;(· (simp[*];done)))|(refine ar (c3) ?_ ?_;(· (simp[*];done)))|(refine ar (sn) ?_ ?_;(· (simp[*];done)))
    all_goals first|omega|exact fw (by decide)
  .have c2:=zeq r he o c;unfold oc at c2;rw[ev] at c2;generalize ceR r=e at *;clear ev er l1 l2 l3 l4 l5 l6 l7 k1 k2
   repeat' first|(with_reducible first|apply aj|apply aI|apply dq|apply cT|apply aE|apply av|apply aK|apply af|apply au|refine And.intro ?_ ?_|apply dG|apply dH|exact dI|exact dJ|exact dt|exact dB|exact du|exact dC|exact dw|exact dD|exact dz|exact dE|exact dA|exact dF|refine dk ?_ ?_|refine dj ?_ ?_ |  refine cD ?_ ?_|refine bY ?_ ?_|refine dm ?_ ?_|refine cK ?_ ?_|refine dp ?_ ?_|refine cw (ca) ?_|refine cw (cf) ?_|refine cw (cc) ?_|refine cw (c1) ?_|refine cw (c2) ?_|refine cw (sn) ?_|intro _)|(simp[*,he])|(refine ar (ca) ?_ ?_;(· (simp[*];done)))|(refine ar (cf) ?_ ?_;(· (simp[*];done)))|(refine ar (cc) ?_ ?_;(· (simp[*];done)))|(refine ar (c1) ?_ ?_;(· (simp[*];done)))|(refine ar (c2) ?_ ?_;(· (simp[*];done)))|(refine ar (sn) ?_ ?_;(· (simp[*];done)))
   all_goals first|omega|exact fw (by decide)
end Go.Proofs.YthpkmilhiganjaaGreat
