/- Lemmas. -/
import Derived.Test.YthpkmilhiganjaaGreatPDa
import Derived.Test.YthpkmilhiganjaaGreatPMf
import Derived.Test.YthpkmilhiganjaaGreatPLg
import Derived.Shelf.Sort.AssemblyIn
import Derived.Shelf.Slices.In.CompactI
import Derived.Test.YthpkmilhiganjaaGreatPDb
set_option linter.all false
set_option maxHeartbeats 32000000
set_option maxRecDepth 100000
namespace Go.Proofs.YthpkmilhiganjaaGreat
open Go Go.Fi Go.Fc Go.Shelf
def tw:Go.Shelf.Ren:=⟨λ|125=>121|128=>164|129=>165|189=>84|215=>179|216=>161|257=>120|294=>155|295=>156|296=>157|297=>158|298=>159|299=>160|300=>162|301=>163|328=>174|329=>175|330=>176|331=>177|332=>178|343=>180|n=>n,λ|46=>150|51=>145|53=>142|131=>40|182=>187|183=>188|218=>205|222=>208|228=>210|229=>81|n=>n,λn=>n⟩
theorem LZ:Lays.n189 Tz.prog tw where
 mixed:=by kernel_rfl
 f125:=Tz.func121.trans (congrArg some aj)
 f128:=Tz.func164.trans (congrArg some aj)
 f129:=Tz.func165.trans (congrArg some aj)
 f189:=Tz.func84.trans (congrArg some aj)
 f215:=Tz.func179.trans (congrArg some aj)
 f216:=Tz.func161.trans (congrArg some aj)
 f257:=Tz.func120.trans (congrArg some aj)
 f294:=Tz.func155.trans (congrArg some aj)
 f295:=Tz.func156.trans (congrArg some aj)
 f296:=Tz.func157.trans (congrArg some aj)
 f297:=Tz.func158.trans (congrArg some aj)
 f298:=Tz.func159.trans (congrArg some aj)
 f299:=Tz.func160.trans (congrArg some aj)
 f300:=Tz.func162.trans (congrArg some aj)
 f301:=Tz.func163.trans (congrArg some aj)
 f328:=Tz.func174.trans (congrArg some aj)
 f329:=Tz.func175.trans (congrArg some aj)
 f330:=Tz.func176.trans (congrArg some aj)
 f331:=Tz.func177.trans (congrArg some aj)
 f332:=Tz.func178.trans (congrArg some aj)
 f343:=Tz.func180.trans (congrArg some aj)
 t0:=Tryz.underlying0
 a0:=Tryz.isAgg0
 z0:=Tryz.sizeOf0
 v0:=Tryz.zeroValue0
 t3:=Tryz.underlying3
 a3:=Tryz.isAgg3
 z3:=Tryz.sizeOf3
 v3:=Tryz.zeroValue3
 t4:=Tryz.underlying4
 a4:=Tryz.isAgg4
 z4:=Tryz.sizeOf4
 v4:=Tryz.zeroValue4
 t5:=Tryz.underlying5
 a5:=Tryz.isAgg5
 z5:=Tryz.sizeOf5
 v5:=Tryz.zeroValue5
 t9:=Tryz.underlying9
 a9:=Tryz.isAgg9
 z9:=Tryz.sizeOf9
 v9:=Tryz.zeroValue9
 t28:=Tryz.underlying28
 a28:=Tryz.isAgg28
 z28:=Tryz.sizeOf28
 v28:=Tryz.zeroValue28
 t46:=Tryz.underlying150
 a46:=Tryz.isAgg150
 z46:=Tryz.sizeOf150
 v46:=Tryz.zeroValue150
 t51:=Tryz.underlying145
 a51:=Tryz.isAgg145
 z51:=Tryz.sizeOf145
 v51:=Tryz.zeroValue145
 t53:=Tryz.underlying142
 a53:=Tryz.isAgg142
 z53:=Tryz.sizeOf142
 v53:=Tryz.zeroValue142
 t131:=Tryz.underlying40
 a131:=Tryz.isAgg40
 z131:=Tryz.sizeOf40
 v131:=Tryz.zeroValue40
 t182:=Tryz.underlying187
 a182:=Tryz.isAgg187
 z182:=Tryz.sizeOf187
 v182:=Tryz.zeroValue187
 t183:=Tryz.underlying188
 a183:=Tryz.isAgg188
 z183:=Tryz.sizeOf188
 v183:=Tryz.zeroValue188
 t218:=Tryz.underlying205
 a218:=Tryz.isAgg205
 z218:=Tryz.sizeOf205
 v218:=Tryz.zeroValue205
 t222:=Tryz.underlying208
 a222:=Tryz.isAgg208
 z222:=Tryz.sizeOf208
 v222:=Tryz.zeroValue208
 t228:=Tryz.underlying210
 a228:=Tryz.isAgg210
 z228:=Tryz.sizeOf210
 v228:=Tryz.zeroValue210
 t229:=Tryz.underlying81
 a229:=Tryz.isAgg81
 z229:=Tryz.sizeOf81
 v229:=Tryz.zeroValue81
noncomputable instance instLDF8:bI:=LD
def c0G:Frame:={ (default:Frame) with fn:=1000000 }
theorem zer(args:Array Value):@dh Tz.xfZ Tz.prog Tz.prog (Frame.enter Tz.prog 84 args .normal):=by
 letI:=Tz.xfZ
 rcases (vS Tz.u5).funcs 84 with ⟨h1,_⟩|⟨hx,_⟩|⟨hb,_⟩|⟨fn,c,e1,e2,e3,e4,hc,hf⟩
 .rw[Tz.func84] at h1;cases h1
 .cases hx
 .rcases hb with ⟨h,_⟩|h
  .exact absurd h af
  .cases h
 .exact dh.enter e1 e2 e4 hc hf args
theorem zes:Jr Tz.prog 84:=by
 refine⟨⟨_,Tz.func84,rfl,rfl⟩,λb cap zs w cs e hb hle hl bb=>?_⟩;have b6:b<w.heap.size:=(cY.1 hb).1
 letI:=Tz.xfZ
 have ax:=E5 (Cc Tz.prog Tz.prog) w
 have hA:(gU (Cc Tz.prog Tz.prog) w).heap[b]?=some (.cells cs e (0,0)):=by
  rw[tU,hb];simp[okO]
 refine (E4 (S:=So w) (R:=λo A'=>o=.returned (.tuple #[])/\∃x n os,A'=Sort.grow (Sort.putRow (Value.int .i64) (Sort.ahead (rd (gU (Cc Tz.prog Tz.prog) w) x) n) b 0 (zs.mergeSort λx y=>decide (x<=y)).toArray) os)
  (vS Tz.u5) (λ_ h=>h) (λ_ h=>.inr h) (λf h args cs w=>?_) (λ_ _=>trivial) (λ_ _ h=>h) (F:=Fence.list ([189,191,257,125,294,295,296,297,298,299,216,300,301,129,328,329,330,331,332,215,343].map tw.f) (some 68)) (c0:=c0G) ?_ ?_ rfl (zer _) (λ_ h=>h) (λ_ _ h=>h) ax (λx=>?_)).mono ?_
 .rcases h with ⟨h1,_,fn,h2⟩|h
  .exact Tz.yb h1 h2 args cs w
  .cases h;exact Tz.yb Tz.Di Tryz.func69 args cs w
 .simp[Fence.list,c0G,tw]
 .decide +kernel
 .have hH:Sort.Holds (Value.int .i64) (rd (gU (Cc Tz.prog Tz.prog) w) x) b 0 zs.toArray:=λj hj=>by
   have hj:j<zs.length:=by simpa using hj
   have:=bb j hj;rw[dZ,dP hj] at this;refine⟨?_,?_⟩
   .simp[World.cell?,Fc.rd,hA,this,hj]
   .simp[World.frozen?,Fc.rd,hA]
  obtain⟨o,w',fr,⟨rfl,n,os,rfl⟩,q2,q3,q4⟩:=(AnyS.slices_Sort_int_in LZ 68 b 0 cap zs _ hH (by simp[Fc.rd,gU];exact b6) ab).2 [c0G] (λd hd=>by cases hd;simp);exact⟨_,_,fr,⟨rfl,x,n,os,rfl⟩,q2,q4⟩
 .rintro o w' ⟨A',⟨rfl,x,n,os,rfl⟩,h8⟩
  have b':(gU (Cc Tz.prog Tz.prog) w).heap.size=w.heap.size:=by simp[gU]
  have bi:(zs.mergeSort λx y=>decide (x<=y)).length=zs.length:=J0 _;generalize hs:(zs.mergeSort λx y=>decide (x<=y))=ys at h8 bi ⊢
  have hk:∀k,k<w.heap.size->(Sort.grow (Sort.putRow (Value.int .i64) (Sort.ahead (Fc.rd (gU (Cc Tz.prog Tz.prog) w) x) n) b 0 ys.toArray) os).heap[k]?=if b=k then (w.heap[k]?).map (λo=>Sort.onCells (Sort.putCells (Value.int .i64) 0 ys.toArray) (open Classical in if okO (Cc Tz.prog Tz.prog) o then o else gH k o)) else (gU (Cc Tz.prog Tz.prog) w).heap[k]?:=λk hk=>by
   simp only[Sort.grow,Sort.putRow,Sort.mapBlock,Sort.ahead,Fc.rd];rw[rD (by simp[b'];exact hk),fu];split
   .rw[tU,Option.map_map];rfl
   .rfl
  refine⟨rfl,h8.os.symm,h8.output.symm,?_,λk h1 h2=>?_,?_⟩
  .rw[<-h8.size];simp[Sort.grow,Sort.putRow,Sort.mapBlock,Sort.ahead,Fc.rd,b']
  .exact E6 ax h8 (by rw[hk k h1,bP (λh=>h2 h.symm)])
  .refine tV h8 ((hk b b6).trans ?_);rw[b8 rfl,hb]
   have:Sort.putCells (Value.int .i64) 0 ys.toArray cs=fA cs 0 (ys.map (Value.int .i64)):=by
    refine rr λi=>?_
    rw[rO _ 0 cs ar];simp only[Sort.putCells,qn];by_cases hi:i<ys.length
    .rw[du ab];simp[hi]
    .simp[hi]
   simp[okO,Sort.onCells,this]
def tz:Go.Shelf.Ren:=⟨λ|20=>85|n=>n,λ|22=>28|n=>n,λn=>n⟩
theorem MC:Lays2.n20 Tz.prog tz where
 mixed:=by kernel_rfl
 f20:=Tz.func85.trans (congrArg some aj)
 t0:=Tryz.underlying0
 a0:=Tryz.isAgg0
 z0:=Tryz.sizeOf0
 v0:=Tryz.zeroValue0
 t3:=Tryz.underlying3
 a3:=Tryz.isAgg3
 z3:=Tryz.sizeOf3
 v3:=Tryz.zeroValue3
 t4:=Tryz.underlying4
 a4:=Tryz.isAgg4
 z4:=Tryz.sizeOf4
 v4:=Tryz.zeroValue4
 t22:=Tryz.underlying28
 a22:=Tryz.isAgg28
 z22:=Tryz.sizeOf28
 v22:=Tryz.zeroValue28
 i3:=by first|kernel_rfl|decide
theorem zet(args:Array Value):@dh Tz.xfZ Tz.prog Tz.prog (Frame.enter Tz.prog 85 args .normal):=by
 letI:=Tz.xfZ
 rcases (vS Tz.u5).funcs 85 with ⟨h1,_⟩|⟨hx,_⟩|⟨hb,_⟩|⟨fn,c,e1,e2,e3,e4,hc,hf⟩
 .rw[Tz.func85] at h1;cases h1
 .cases hx
 .rcases hb with ⟨h,_⟩|h
  .exact absurd h af
  .cases h
 .exact dh.enter e1 e2 e4 hc hf args
theorem tS(zs:List Int):(Lib.compact zs).Sublist zs:=by
 have h:(((List.range zs.toArray.size).filter (Lib.keeps zs.toArray)).map (zs.toArray[·]!)).Sublist ((List.range zs.toArray.size).map (zs.toArray[·]!)):=List.filter_sublist.map _;rw[Lib.range_map_get] at h;exact h
theorem nU(zs:List Int):(Lib.compact zs).length<=zs.length:=(tS zs).length_le
theorem MO(zs:List Int)(x:Int)(h:x∈zs):x∈Lib.compact zs:=by
 obtain⟨i,hi,rfl⟩:=lZ h
 have key:∀m j,j<m->m<=zs.length->zs.toArray[j]!∈Lib.compactUpTo zs.toArray m:=by
  intro m
  induction m with
  |zero=>intro j hj;omega
  |succ m ih=>
   intro j hj hm;rw[Lib.compactUpTo_succ]
   rcases T3.1 hj with h|rfl
   .exact vu _ (ih j h ab)
   .by_cases hk:Lib.keeps zs.toArray j=true
    .rw[b8 hk];exact DV _ (oS.2 rfl)
    .have bv:¬(j=0\/zs.toArray[j]!≠zs.toArray[j-1]!):=λh=>hk (by unfold Lib.keeps;exact decide_eq_true h)
     have h0:j≠0:=λe=>bv (.inl e)
     have e:Eq (zs.toArray[j]!) (zs.toArray[j-1]!):=ry λcj=>bv (.inr cj)
     rw[e];exact vu _ (ih (j-1) ab ab)
 have:=key zs.length i hi (bS _);simpa[Lib.compact,hi] using this
theorem zeu:Js Tz.prog 85 Lib.compact:=by
 refine⟨⟨_,Tz.func85,rfl,rfl⟩,nU,λb cap zs w cs e hb hle bh hl bb=>?_⟩;have b6:b<w.heap.size:=(cY.1 hb).1
 letI:=Tz.xfZ
 have ax:=E5 (Cc Tz.prog Tz.prog) w
 have hA:(gU (Cc Tz.prog Tz.prog) w).heap[b]?=some (.cells cs e (0,0)):=by
  rw[tU,hb];simp[okO]
 refine (E4 (S:=So w) (R:=λo A'=>o=.returned (.slice (some ⟨b,0,none⟩) (Lib.compact zs).length cap)/\∃x n,A'=Sort.putRow (Value.int .i64) (Sort.ahead (rd (gU (Cc Tz.prog Tz.prog) w) x) n) b 0 (Lib.compact zs++List.replicate (zs.length-(Lib.compact zs).length) 0).toArray)
  (vS Tz.u5) (λ_ h=>h) (λ_ h=>.inr h) (λf h args cs w=>?_) (λ_ _=>trivial) (λ_ _ h=>h) (F:=Fence.list [tz.f 20] (some 68)) (c0:=c0G) ?_ ?_ rfl (zet _) (λ_ h=>h) (λ_ _ h=>h) ax (λx=>?_)).mono ?_
 .rcases h with ⟨h1,_,fn,h2⟩|h
  .exact Tz.yb h1 h2 args cs w
  .cases h;exact Tz.yb Tz.Di Tryz.func69 args cs w
 .simp[Fence.list,c0G,tz]
 .decide +kernel
 .have hH:Sort.Holds (Value.int .i64) (rd (gU (Cc Tz.prog Tz.prog) w) x) b 0 zs.toArray:=λj hj=>by
   have hj:j<zs.length:=by simpa using hj
   have:=bb j hj;rw[dZ,dP hj] at this;refine⟨?_,?_⟩
   .simp[World.cell?,Fc.rd,hA,this,hj]
   .simp[World.frozen?,Fc.rd,hA]
  obtain⟨o,w',fr,⟨rfl,n,rfl⟩,q2,q3,q4⟩:=(AnyS.slices_Compact_int_in MC 68 b 0 cap zs _ hH ab bh).2 [c0G] (λd hd=>by cases hd;simp);exact⟨_,_,fr,⟨rfl,x,n,rfl⟩,q2,q4⟩
 .rintro o w' ⟨A',⟨rfl,x,n,rfl⟩,h8⟩
  have b':(gU (Cc Tz.prog Tz.prog) w).heap.size=w.heap.size:=by simp[gU]
  have bi:(Lib.compact zs++List.replicate (zs.length-(Lib.compact zs).length) 0).length=zs.length:=by
   have:=nU zs;simp;omega
  generalize hs:Lib.compact zs++List.replicate (zs.length-(Lib.compact zs).length) 0=ys at h8 bi ⊢
  have hk:∀k,k<w.heap.size->(Sort.putRow (Value.int .i64) (Sort.ahead (Fc.rd (gU (Cc Tz.prog Tz.prog) w) x) n) b 0 ys.toArray).heap[k]?=if b=k then (w.heap[k]?).map (λo=>Sort.onCells (Sort.putCells (Value.int .i64) 0 ys.toArray) (open Classical in if okO (Cc Tz.prog Tz.prog) o then o else gH k o)) else (gU (Cc Tz.prog Tz.prog) w).heap[k]?:=λk hk=>by
   simp only[Sort.putRow,Sort.mapBlock,Sort.ahead,Fc.rd];rw[fu];split
   .rw[tU,Option.map_map];rfl
   .rfl
  refine⟨rfl,h8.os.symm,h8.output.symm,?_,λk h1 h2=>?_,?_⟩
  .rw[<-h8.size];simp[Sort.putRow,Sort.mapBlock,Sort.ahead,Fc.rd,b']
  .exact E6 ax h8 (by rw[hk k h1,bP (λh=>h2 h.symm)])
  .refine tV h8 ((hk b b6).trans ?_);rw[b8 rfl,hb]
   have:Sort.putCells (Value.int .i64) 0 ys.toArray cs=fA cs 0 (ys.map (Value.int .i64)):=by
    refine rr λi=>?_
    rw[rO _ 0 cs ar];simp only[Sort.putCells,qn];by_cases hi:i<ys.length
    .rw[du ab];simp[hi]
    .simp[hi]
   simp[okO,Sort.onCells,this]
end Go.Proofs.YthpkmilhiganjaaGreat
namespace Go.Proofs.YthpkmilhiganjaaGreat
open Go Go.Fi
noncomputable instance instLD14:bI:=LD
theorem MS(r:Tw.RND):(dg r).fit.length=(dg r).os.length:=by simp[dg]
theorem OK(r:Tw.RND)(i:Nat):(Tw.mU r i).length=r.bD.length:=by
 simp[Tw.mU,Tw.Dd,Tw.k9,Tw.odR]
theorem OW(r:Tw.RND)(i:Nat)(h:i<(dg r).os.length):(nth (dg r).fit i).length=(dg r).bD.length:=by
 have hi:i<r.os.length:=h;simp only[dg,nth,dZ,im,yD hi,eh,oR];exact OK r i
theorem nV{α:Type}[Inhabited α]{E:Nat->α->Int}:∀{l:List α}{k:Nat},(gh E l k).2=0->∀j,j<l.length->E (k+j) (nth l j)=0
 |[],k,_,j,hj=>absurd hj ae
 |x::r,k,h,j,hj=>by
  unfold gh at h;by_cases he:E k x=0
  .rw[b8 he] at h
   cases j with
   |zero=>exact he
   |succ j=>
    have:=nV h j (by simpa using hj);rw[show k+(j+1)=k+1+j by omega];exact this
  simp_all
theorem n5{α:Type}[Inhabited α]{nm:α->ByteArray}{mr:α->Int}{l:List α}:∀{r:List α}{k:Nat},(gL nm mr l r k).2=0->∀j,j<r.length->j1 nm mr l (k+j) (nth r j)=0
 |[],k,_,j,hj=>absurd hj ae
 |x::r,k,h,j,hj=>by
  unfold gL at h;by_cases he:j1 nm mr l k x=0
  .rw[b8 he] at h
   cases j with
   |zero=>exact he
   |succ j=>
    have:=n5 h j (by simpa using hj);rw[show k+(j+1)=k+1+j by omega];exact this
  simp_all
theorem bO{e:Int}{r:List Int}(h:fD (e::r)=0):e=0/\fD r=0:=by
 unfold fD at h;omega
theorem eC{b:Bool}{e:Int}(he:e≠0)(h:dw b e=0):b=true:=by
 unfold dw at h;simp_all
theorem fh{n lo hi:Int}:dj n lo hi=true↔lo<=n/\n<=hi:=by simp[dj]
theorem not_true{b:Bool}(h:(!b)=true):b=false:=by cases b<;>simp_all
structure bW(x:Rd):Prop where
 lc:x.bD.length<=8
 lo:x.os.length<=8
 lw:x.wt.length=x.os.length
 lz:x.zs.length<=64
 lf:x.fit.length=x.os.length
 fr:∀i,i<x.os.length->(nth x.fit i).length=x.bD.length
 wr:∀i,i<x.os.length->(nth x.wt i).length=x.bD.length
 wn:∀i,i<x.os.length->∀k,k<x.bD.length->0<=nth (nth x.wt i) k/\nth (nth x.wt i) k<=100000
 sc:∀k,k<x.bD.length->1<=(nth x.bD k).2.1/\(nth x.bD k).2.1<=8
 so:∀i,i<x.os.length->1<=(nth x.os i).2.1/\(nth x.os i).2.1<=8
 pr:∀i,i<x.os.length->0<=(nth x.os i).2.2.2/\(nth x.os i).2.2.2<=6
 nc:∀k,k<x.bD.length->gD (nth x.bD k).1=true/\((x.bD.take k).any λy=>decide (y.1=(nth x.bD k).1))=false
 no:∀k,k<x.os.length->gD (nth x.os k).1=true/\((x.os.take k).any λy=>decide (y.1=(nth x.os k).1))=false
 zr:∀j,j<x.zs.length->(0<=(nth x.zs j).1/\(nth x.zs j).1<=(x.os.length:Int)-1)/\(0<=(nth x.zs j).2/\(nth x.zs j).2<=(x.bD.length:Int)-1)
theorem kB(r:Tw.RND)(h:ceR r=0):bW (dg r):=by
 unfold ceR j3 at h;split at h
 .simp at h
 rename_i g1;split at h
 .trivial
 rename_i g2;split at h
 .simp at h
 rename_i g3;split at h
 .trivial
 rename_i g4;split at h
 .simp at h
 rename_i g5;have ao:=Hz h
 have hw:(gh (λ_=>lh r.bD.length) r.wt 0).2=0:=by
  unfold iH at h
  grind
 rw[ao] at h;unfold jG at h;split at h
 .simp at h
 rename_i g6;have c7:(gL Prod.fst gK r.bD r.bD 0).2=0:=Classical.not_not.1 g2;have c8:(gL Prod.fst gn r.os r.os 0).2=0:=Classical.not_not.1 g4
 have C:=λj hj=>n5 c7 j hj
 have O:=λj hj=>n5 c8 j hj
 have W:=λj hj=>nV hw j hj
 have Z:=λj hj=>nV h j hj
 simp only[eI] at C O W Z
 have bk:r.wt.length=r.os.length:=ab
 have wait:∀i,i<r.os.length->(nth r.wt i).length=r.bD.length/\((nth r.wt i).any λx=>!dj x 0 100000)=false:=λi hi=>by
  have:=W i ab;unfold lh at this;obtain⟨w1,w2⟩:=bO this;obtain⟨w2,_⟩:=bO w2;refine⟨?_,?_⟩
  .have:=eC af w1;have:=of_decide_eq_true this;omega
  .simpa using eC af w2
 refine⟨by show r.bD.length<=8;omega,by show r.os.length<=8;omega,bk,by show r.zs.length<=64;omega,MS r,OW r,λi hi=>(wait i hi).1,λi hi k hk=>?_,λk hk=>?_,λi hi=>?_,λi hi=>?_,λk hk=>?_,λk hk=>?_,λj hj=>?_⟩
 .obtain⟨w1,w2⟩:=wait i hi
  have c9:k<(nth r.wt i).length:=by rw[w1];exact hk
  have hm:=iu c9;have:=J1.1 w2 _ hm;have:=fh.1 (by simpa using this);exact this
 .have:=C k hk;obtain⟨_,n2⟩:=bO this;obtain⟨_,n3⟩:=bO n2;obtain⟨n4,_⟩:=bO n3;exact fh.1 (eC af n4)
 .have:=O i hi;obtain⟨_,n2⟩:=bO this;obtain⟨_,n3⟩:=bO n2;obtain⟨n4,_⟩:=bO n3;have:=eC af n4;rw[eY] at this;exact fh.1 this.1
 .have:=O i hi;obtain⟨_,n2⟩:=bO this;obtain⟨_,n3⟩:=bO n2;obtain⟨n4,_⟩:=bO n3;have:=eC af n4;rw[eY] at this;exact fh.1 this.2
 .have:=C k hk;obtain⟨n1,n2⟩:=bO this;obtain⟨n2,_⟩:=bO n2;exact⟨eC af n1,not_true (eC af n2)⟩
 .have:=O k hk;obtain⟨n1,n2⟩:=bO this;obtain⟨n2,_⟩:=bO n2;exact⟨eC af n1,not_true (eC af n2)⟩
 .have:=Z j hj;unfold oP at this;obtain⟨n1,_⟩:=bO this;have:=eC af n1;rw[eY] at this;exact⟨fh.1 this.1,fh.1 this.2⟩
end Go.Proofs.YthpkmilhiganjaaGreat
namespace Go.Proofs.YthpkmilhiganjaaGreat
open Go Go.Fi
variable[bI]
def mK(row:List Bool)(w p:List Int)(m0:Int):Nat->Int
 |0=>m0
 |k+1=>if nth row k then (if nth w k+nth p k<mK row w p m0 k then nth w k+nth p k else mK row w p m0 k) else mK row w p m0 k
@[simp]theorem zft(row:List Bool)(w p:List Int)(m0:Int):mK row w p m0 0=m0:=rfl
end Go.Proofs.YthpkmilhiganjaaGreat
namespace Go.Proofs.YthpkmilhiganjaaGreat
open Go Go.Fi
noncomputable instance instLD19:bI:=LD
def F5(l:List Int):Nat->Int
 |0=>0
 |k+1=>F5 l k+nth l k
@[simp]theorem zfb(l:List Int):F5 l 0=0:=rfl
end Go.Proofs.YthpkmilhiganjaaGreat
namespace Go.Proofs.YthpkmilhiganjaaGreat
open Go Go.Fi
variable[bI]
def prio(x:Rd)(i:Nat):Nat:=(nth x.os i).2.2.2.toNat
def F6(x:Rd):Nat->Int
 |0=>0
 |k+1=>F6 x k+fV (prio x k)
@[simp]theorem zfc(x:Rd):F6 x 0=0:=rfl
structure PlanIn(x:Rd)(plan:List Int):Prop where
 len:plan.length=x.os.length
 at_:∀k,k<plan.length->nth plan k=-1\/(0<=nth plan k/\nth plan k<(x.bD.length:Int))
def iA(l:List Int):List AV:=(ints l).map (AV.w false false)
@[simp]theorem PC(l:List Int):(iA l).length=l.length:=by simp[iA]
@[simp]theorem zfd(l:List Int)(i:Nat)(h:i<l.length):mG (iA l) i=.w false false (.int .i64 (nth l i)):=by
 unfold iA;rw[G1 _ _ _ av,Ph l i h]
@[simp]theorem PK(l:List Int)(i:Nat)(v:Int):(iA l).set i (.w false false (.int .i64 v))=iA (l.set i v):=by
 simp[iA,ints,List.map_set]
@[simp]theorem zfw(l:List Int)(n:Nat):AV.lt.ltL n (iA l)=true:=xA n false false (ints l)
@[simp]theorem zfe{D:List Nat}{h:bE}{n n':Nat}(l:List Int):j0 D h n n' (iA l) (iA l)=True:=eq_true (xz false false _)
@[simp high] theorem zff(h:bE)(d:Nat)(l:List Int):(iA l).mapM (frz h d)=some (ints l):=BM h d false false (ints l)
@[simp]theorem vb:∀l:List Int,jA (ints l)=true
 |[]=>rfl
 |x::r=>by have:=vb r;trivial
@[simp high] theorem zfg(h:bE)(d:Nat)(l:List Int):(iA l).all (fO h d)=true:=Hi h d false false (ints l) (vb l)
@[simp]theorem kQ(a b:List Int):iA a++iA b=iA (a++b):=by simp[iA,ints]
def bo(f:Nat->Int)(d:Int)(n j:Nat):List Int:=(List.range j).map f++List.replicate (n-j) d
@[simp]theorem wu(f:Nat->Int)(d:Int)(n j:Nat)(h:j<=n):(bo f d n j).length=n:=by simp[bo];omega
theorem PO(f:Nat->Int)(d:Int)(n j:Nat)(h:j<n):(bo f d n j).set j (f j)=bo f d n (j+1):=by
 unfold bo;rw[List.set_append,bP ae,iI,rz,DW,show n-j=(n-(j+1))+1 by omega,DK,List.set_cons_zero,JV,DY,List.append_assoc];rfl
theorem P3(f:Nat->Int)(d:Int)(n:Nat):iA (bo f d n 0)=List.replicate n (.w false false (.int .i64 d)):=by simp[iA,ints,bo]
theorem TS(f:Nat->Int)(d:Int)(n:Nat):bo f d n n=(List.range n).map f:=by simp[bo]
def bt(l:List (List Int)):List AV:=l.map λx=>AV.w true false (.sl x.length (ints x))
@[simp]theorem zfh(l:List (List Int)):(bt l).length=l.length:=by simp[bt]
theorem po(l:List (List Int)):bt l=(l.map λx=>PV.sl x.length (ints x)).map (AV.w true false):=by simp[bt,Function.comp_def]
@[simp]theorem zfi(l:List (List Int))(n:Nat):AV.lt.ltL n (bt l)=true:=by rw[po];exact xA n true false _
@[simp]theorem zfj{D:List Nat}{h:bE}{n n':Nat}(l:List (List Int)):j0 D h n n' (bt l) (bt l)=True:=by rw[po];exact eq_true (xz true false _)
def eQ(l:List (List Int)):List PV:=l.map λx=>PV.sl x.length (ints x)
@[simp high] theorem zfk(h:bE)(d:Nat)(l:List (List Int)):(bt l).mapM (frz h d)=some (eQ l):=by rw[po];exact BM h d true false _
@[simp high] theorem zfl(h:bE)(d:Nat)(l:List (List Int)):(bt l).all (fO h d)=true:=by
 unfold bt;rw[List.all_map,gp];intro x _
 cases d<;>rfl
@[simp]theorem zfm(l:List (List Int)):(eQ l).length=l.length:=by simp[eQ]
@[simp]theorem zfn(l:List (List Int))(i:Nat)(h:i<l.length):fg (eQ l) i=.sl (nth l i).length (ints (nth l i)):=uy (λx:List Int=>PV.sl x.length (ints x)) l i h
def zew(x:Rd)(i j:Nat):Int:=
 if j<x.bD.length/\nth (nth x.fit i) j=true then nth (nth x.wt i) j else if j=x.bD.length+i then fV (prio x i) else 1000000000000000
def zex(x:Rd)(i:Nat):List Int:=(List.range (x.bD.length+x.os.length)).map (zew x i)
def zey(x:Rd)(n:Nat):List (List Int):=(List.range n).map (zex x)
end Go.Proofs.YthpkmilhiganjaaGreat
namespace Go.Proofs.YthpkmilhiganjaaGreat
open Go Go.Fi
abbrev FS:=List Int×List Bool
def ic(x:Rd)(most:Int)(i k:Nat)(sn:List Bool):Bool:=!nth (nth x.fit i) k || nth sn k || decide (most<nth (nth x.wt i) k)
def bw(rc:Nat->FS->Bool×FS)(x:Rd)(most:Int)(i:Nat):Nat->FS->Bool×FS
 |0,s=>(false,s)
 |m+1,s=>
  let k:=x.bD.length-(m+1)
  if ic x most i k s.2 then bw rc x most i m s
  else if nth s.1 k<0 then (true,s.1.set k i,s.2.set k true)
  else if (rc (nth s.1 k).toNat (s.1,s.2.set k true)).1 then (true,(rc (nth s.1 k).toNat (s.1,s.2.set k true)).2.1.set k i,(rc (nth s.1 k).toNat (s.1,s.2.set k true)).2.2)
  else bw rc x most i m (rc (nth s.1 k).toNat (s.1,s.2.set k true)).2
def bm(x:Rd)(most:Int):Nat->Nat->FS->Bool×FS
 |0,_,s=>(false,s)
 |f+1,i,s=>bw (bm x most f) x most i x.bD.length s
def bl(sn:List Bool):Nat:=sn.countP λb=>!b
structure bz(x:Rd)(s:FS):Prop where
 l1:s.1.length=x.bD.length
 l2:s.2.length=x.bD.length
 rg:∀k,k<x.bD.length->nth s.1 k=-1\/(0<=nth s.1 k/\nth s.1 k<(x.os.length:Int))
theorem kF{α:Type}[Inhabited α](l:List α)(i j:Nat)(v:α)(h:i<l.length):nth (l.set i v) j=if i=j then v else nth l j:=by
 unfold nth
 grind
theorem kV:∀(l:List Bool)(k:Nat),k<l.length->nth l k=false->bl (l.set k true)+1=bl l
 |[],k,h,_=>absurd h ae
 |b::r,0,_,h=>by
  have:b=false:=h;subst this;simp[bl,List.countP_cons]
 |b::r,k+1,h,hb=>by
  have:=kV r k av hb;simp only[bl,List.set_cons_succ,List.countP_cons] at this ⊢;omega
theorem p0{x:Rd}{most:Int}{i k:Nat}{sn:List Bool}(h:¬ic x most i k sn=true):nth (nth x.fit i) k=true/\nth sn k=false/\nth (nth x.wt i) k<=most:=by
 simp only[ic,qj,qo,decide_eq_true_eq,not_or] at h;simp_all
structure mz(x:Rd)(s t:FS):Prop where
 ok:bz x t
 un:bl t.2<=bl s.2
theorem bz.seen{x:Rd}{s:FS}(h:bz x s)(k:Nat):bz x (s.1,s.2.set k true):=⟨h.l1,by simpa using h.l2,h.rg⟩
theorem bz.own{x:Rd}{s:FS}(h:bz x s){i k:Nat}(hi:i<x.os.length)(hk:k<x.bD.length):bz x (s.1.set k i,s.2):=
 ⟨by simpa using h.l1,h.l2,λj hj=>by
   show nth (s.1.set k i) j=-1\/_;rw[show nth (s.1.set k (i:Int)) j=if k=j then (i:Int) else nth s.1 j from kF _ _ _ _ (by rw[h.l1];exact hk)];split
   .omega
   .exact h.rg j hj⟩
theorem qc{x:Rd}{most:Int}{i:Nat}(hi:i<x.os.length)(rc:Nat->FS->Bool×FS)(B:Nat)(bp:∀j s,j<x.os.length->bz x s->bl s.2<B->mz x s (rc j s).2):∀(m:Nat)(s:FS),m<=x.bD.length->bz x s->bl s.2<=B->mz x s (bw rc x most i m s).2
 |0,s,_,h,_=>⟨h,bS _⟩
 |m+1,s,hm,h,hu=>by
  unfold bw;simp only[]
  have hk:x.bD.length-(m+1)<x.bD.length:=ab
  generalize x.bD.length-(m+1)=k at hk;split
  .exact qc hi rc B bp m s ab h hu
  .rename_i hs;obtain⟨_,h2,_⟩:=p0 hs;have c5:=kV s.2 k (by rw[h.l2];exact hk) h2;split
   .exact⟨⟨by simpa using h.l1,by simpa using h.l2,(h.own (i:=i) hi hk).rg⟩,ak⟩
   .rename_i hn;have hr:=(h.rg k hk).resolve_left ab;have hg:=bp (nth s.1 k).toNat (s.1,s.2.set k true) ab (h.seen k) ak;have cm:bl (rc (nth s.1 k).toNat (s.1,s.2.set k true)).2.2<=bl (s.2.set k true):=hg.un;split
    .exact⟨hg.ok.own hi hk,ak⟩
    .have:=qc (most:=most) hi rc B bp m (rc (nth s.1 k).toNat (s.1,s.2.set k true)).2 ab hg.ok ab;exact⟨this.ok,by have:=this.un;omega⟩
theorem kJ{x:Rd}{most:Int}:∀(f:Nat)(i:Nat)(s:FS),i<x.os.length->bz x s->bl s.2<f->mz x s (bm x most f i s).2
 |0,_,_,_,_,h=>absurd h ab
 |f+1,i,s,hi,h,hu=>qc hi _ f (λj s hj hs hu=>kJ f j s hj hs hu) _ s (bS _) h ab
def bf(x:Rd)(most:Int):Nat->List Int×Int
 |0=>(List.replicate x.bD.length (-1),0)
 |i+1=>
  ((bm x most (x.bD.length+1) i ((bf x most i).1,List.replicate x.bD.length false)).2.1,
    if (bm x most (x.bD.length+1) i ((bf x most i).1,List.replicate x.bD.length false)).1 then (bf x most i).2+1 else (bf x most i).2)
def bn(tk:List Int)(n:Nat):Nat->List Int
 |0=>List.replicate n (-1)
 |k+1=>if 0<=nth tk k then (bn tk n k).set (nth tk k).toNat k else bn tk n k
def ba(x:Rd)(most:Int):List Int×Int:=(bn (bf x most x.os.length).1 x.os.length x.bD.length,(bf x most x.os.length).2)
theorem k6(n:Nat):bl (List.replicate n false)=n:=by simp[bl,List.countP_replicate]
theorem k7(x:Rd)(most:Int):∀i,i<=x.os.length->bz x ((bf x most i).1,List.replicate x.bD.length false)/\0<=(bf x most i).2/\(bf x most i).2<=i
 |0,_=>⟨⟨by simp[bf],ae,λk hk=>.inl (by simp[bf,nth,dZ,hk])⟩,by simp[bf],by simp[bf]⟩
 |i+1,h=>by
  obtain⟨h1,h2,h3⟩:=k7 x most i ab;have hg:=kJ (x:=x) (most:=most) (x.bD.length+1) i _ ab h1 (by show bl (List.replicate x.bD.length false)<_;rw[k6];omega);refine⟨⟨hg.ok.l1,ae,hg.ok.rg⟩,?_,?_⟩
  .simp only[bf];split<;>omega
  .simp only[bf];split<;>omega
theorem eO(tk:List Int)(n:Nat):∀k,(bn tk n k).length=n
 |0=>by simp[bn]
 |k+1=>by
  unfold bn;split
  .rw[List.length_set];exact eO tk n k
  .exact eO tk n k
structure ScS where
 sl:List Int
 ah:List Int
 least:Int
 next:Int
def nvS(C:Nat->Nat->Int)(u v:List Int)(i j:Nat):Int:=C i j-nth u i-nth v j
def mC(C:Nat->Nat->Int)(u v:List Int)(sn:List Bool)(i:Nat)(at_:Int)(sl ah:List Int):Nat->ScS
 |0=>⟨sl,ah,10000000000000000,-1⟩
 |k+1=>
  let s:=mC C u v sn i at_ sl ah k
  if nth sn k then s
  else
   let s1:ScS:=if nvS C u v i k<nth s.sl k then ⟨s.sl.set k (nvS C u v i k),s.ah.set k at_,s.least,s.next⟩ else s
   if nth s1.sl k<s1.least then ⟨s1.sl,s1.ah,nth s1.sl k,k⟩ else s1
def ij(sn:List Bool)(ow:List Int)(d:Int)(u v sl:List Int):Nat->List Int×List Int×List Int
 |0=>(u,v,sl)
 |k+1=>
  let s:=ij sn ow d u v sl k
  if nth sn k then (s.1.set (nth ow k).toNat (nth s.1 (nth ow k).toNat+d),s.2.1.set k (nth s.2.1 k-d),s.2.2)
  else (s.1,s.2.1,s.2.2.set k (nth s.2.2 k-d))
structure Ws where
 u:List Int
 v:List Int
 sl:List Int
 ah:List Int
 sn:List Bool
 at_:Int
 i:Nat
def bj(C:Nat->Nat->Int)(m:Nat)(w:Ws):ScS:=mC C w.u w.v w.sn w.i w.at_ w.sl w.ah m
def tC(C:Nat->Nat->Int)(m:Nat)(ow:List Int)(row:Nat)(w:Ws):List Int×List Int×List Int:=
 ij w.sn ow (bj C m w).least (w.u.set row (nth w.u row+(bj C m w).least)) w.v (bj C m w).sl m
def F9(C:Nat->Nat->Int)(m:Nat)(ow:List Int)(row:Nat)(w:Ws):Ws:=
 ⟨(tC C m ow row w).1,(tC C m ow row w).2.1,(tC C m ow row w).2.2,(bj C m w).ah,w.sn.set (bj C m w).next.toNat true,(bj C m w).next,(nth ow (bj C m w).next.toNat).toNat⟩
def HR(C:Nat->Nat->Int)(m:Nat)(ow:List Int)(row:Nat):Nat->Ws->Ws
 |0,w=>w
 |f+1,w=>if nth ow (bj C m w).next.toNat<0 then F9 C m ow row w else HR C m ow row f (F9 C m ow row w)
def IC(ah:List Int)(row:Nat):Nat->Int->List Int->List Int
 |0,_,ow=>ow
 |f+1,at_,ow=>if at_<0 then ow else IC ah row f (nth ah at_.toNat) (ow.set at_.toNat (if nth ah at_.toNat<0 then (row:Int) else nth ow (nth ah at_.toNat).toNat))
structure Hs where
 u:List Int
 v:List Int
 ow:List Int
def ws0(m:Nat)(s:Hs)(row:Nat):Ws:=⟨s.u,s.v,List.replicate m 10000000000000000,List.replicate m (-1),List.replicate m false,-1,row⟩
def mF(C:Nat->Nat->Int)(m:Nat)(s:Hs)(row:Nat):Ws:=HR C m s.ow row (m+1) (ws0 m s row)
def zez(C:Nat->Nat->Int)(m:Nat)(s:Hs)(row:Nat):Hs:=
 ⟨(mF C m s row).u,(mF C m s row).v,IC (mF C m s row).ah row (m+1) (mF C m s row).at_ s.ow⟩
def Lj(C:Nat->Nat->Int)(n m:Nat):Nat->Hs
 |0=>⟨List.replicate n 0,List.replicate m 0,List.replicate m (-1)⟩
 |r+1=>zez C m (Lj C n m r) r
structure gb(C:Nat->Nat->Int)(u v:List Int)(sn:List Bool)(i:Nat)(at_:Int)(sl ah:List Int)(k:Nat)(s:ScS):Prop where
 l1:s.sl.length=sl.length
 l2:s.ah.length=ah.length
 esl:∀j,nth s.sl j=if j<k/\nth sn j=false/\nvS C u v i j<nth sl j then nvS C u v i j else nth sl j
 eah:∀j,nth s.ah j=if j<k/\nth sn j=false/\nvS C u v i j<nth sl j then at_ else nth ah j
 lo:∀j,j<k->nth sn j=false->s.least<=nth s.sl j
 nx:(s.next=-1/\s.least=10000000000000000)\/(0<=s.next/\s.next<(k:Int)/\nth sn s.next.toNat=false/\s.least=nth s.sl s.next.toNat)
structure zfx(sn:List Bool)(ow:List Int)(d:Int)(u v sl:List Int)(k:Nat)(t:List Int×List Int×List Int):Prop where
 l1:t.1.length=u.length
 l2:t.2.1.length=v.length
 l3:t.2.2.length=sl.length
 ut:∀l:Nat,(∃j,j<k/\nth sn j=true/\nth ow j=(l:Int))->nth t.1 l=nth u l+d
 uf:∀l:Nat,(¬∃j,j<k/\nth sn j=true/\nth ow j=(l:Int))->nth t.1 l=nth u l
 ev:∀j,nth t.2.1 j=if j<k/\nth sn j=true then nth v j-d else nth v j
 esl:∀j,nth t.2.2 j=if j<k/\nth sn j=false then nth sl j-d else nth sl j
structure Hp(C:Nat->Nat->Int)(n c:Nat):Prop where
 nn:n<=8
 cc:c<=8
 pr:∀i,i<n->0<=C i (c+i)/\C i (c+i)<=1000000000000
 ot:∀i l,i<n->l<n->l≠i->C i (c+l)=1000000000000000
 cr:∀i j,i<n->j<c->C i j=1000000000000000\/(0<=C i j/\C i j<=1000000000000)
theorem Hp.bd{C:Nat->Nat->Int}{n c:Nat}(h:Hp C n c){i j:Nat}(hi:i<n)(hj:j<c+n):0<=C i j/\C i j<=1000000000000000:=by
 by_cases hc:j<c
 .rcases h.cr i j hi hc with h|h<;>omega
 .obtain⟨l,rfl⟩:∃l,j=c+l:=⟨j-c,ab⟩;by_cases hl:l=i
  .subst hl;have:=h.pr l hi;omega
  .rw[h.ot i l hi ab hl];omega
theorem Hp.real{C:Nat->Nat->Int}{n c:Nat}(h:Hp C n c){i j:Nat}(hi:i<n)(hj:j<c+n)(hb:C i j<1000000000000000):j<c\/j=c+i:=by
 by_cases hc:j<c
 .exact .inl hc
 .obtain⟨l,rfl⟩:∃l,j=c+l:=⟨j-c,ab⟩;by_cases hl:l=i
  .omega
  .rw[h.ot i l hi ab hl] at hb;omega
structure MI(C:Nat->Nat->Int)(n c r:Nat)(u v ow:List Int):Prop where
 lu:u.length=n
 lv:v.length=c+n
 lo:ow.length=c+n
 hu:∀l,l<n->0<=nth u l
 hv:∀j,j<c+n->nth v j<=0
 hvz:∀j,j<c+n->nth ow j=-1->nth v j=0
 hvp:∀l,l<n->nth v (c+l)=0
 hf:∀l j,l<n->j<c+n->nth u l+nth v j<=C l j
 how:∀j,j<c+n->nth ow j=-1\/(0<=nth ow j/\nth ow j<(r:Int))
 jU:∀j k,j<c+n->k<c+n->0<=nth ow j->nth ow j=nth ow k->j=k
 ht:∀j,j<c+n->0<=nth ow j->nth u (nth ow j).toNat+nth v j=C (nth ow j).toNat j
 ze0:∀l,l<r->∃j,j<c+n/\nth ow j=(l:Int)
section
variable{C:Nat->Nat->Int}{n c row:Nat}{u v ow:List Int}
theorem MI.ub(m:MI C n c row u v ow)(h:Hp C n c){l:Nat}(hl:l<n):nth u l<=1000000000000:=by
 have h1:=m.hf l (c+l) hl ab;have h2:=m.hvp l hl;have h3:=h.pr l hl;omega
theorem MI.own(m:MI C n c row u v ow)(h:Hp C n c)(hr:row<=n){j:Nat}(hj:j<c+n)(ho:0<=nth ow j):j<c\/j=c+(nth ow j).toNat:=by
 rcases m.how j hj with h1|⟨_,h2⟩
 .omega
 .refine h.real ab hj ?_;have h3:=m.ht j hj ho;have h4:=m.ub h (l:=(nth ow j).toNat) ab;have h5:=m.hv j hj;omega
end
def Tv(m row:Nat)(ow:List Int)(w:Ws)(l:Nat):Prop:=l=row\/∃j,j<m/\nth w.sn j=true/\nth ow j=(l:Int)
def Via(m row:Nat)(ow:List Int)(w:Ws)(j:Nat)(p:Nat->Prop):Prop:=
 (nth w.ah j=-1/\p row)\/(0<=nth w.ah j/\nth w.ah j<(m:Int)/\nth w.sn (nth w.ah j).toNat=true/\p (nth ow (nth w.ah j).toNat).toNat)
structure GI(C:Nat->Nat->Int)(n c row:Nat)(ow:List Int)(w:Ws):Prop where
 mi:MI C n c row w.u w.v ow
 ls:w.sl.length=c+n
 la:w.ah.length=c+n
 ln:w.sn.length=c+n
 hs:∀j,j<c+n->nth w.sn j=true->0<=nth ow j/\j<c
 hat:(w.at_=-1/\w.i=row/\∀j,j<c+n->nth w.sn j=false)\/(0<=w.at_/\w.at_<((c+n:Nat):Int)/\nth w.sn w.at_.toNat=true/\nth ow w.at_.toNat=(w.i:Int))
 h1:∀j,j<c+n->nth w.sn j=false->∀l,Tv (c+n) row ow w l->l≠w.i->nth w.sl j<=C l j-nth w.u l-nth w.v j
 h2:∀j,j<c+n->nth w.sn j=false->(nth w.sl j=10000000000000000/\w.at_=-1)\/Via (c+n) row ow w j λl=>nth w.sl j=C l j-nth w.u l-nth w.v j
 pth:∀j,j<c+n->nth w.sn j=true->Via (c+n) row ow w j λl=>nth w.u l+nth w.v j=C l j
 rk:∃rk:Nat->Nat,(∀j,j<c+n->nth w.sn j=true->rk j+bl w.sn<c+n)/\∀j,j<c+n->nth w.sn j=true->0<=nth w.ah j->rk (nth w.ah j).toNat<rk j
structure zfz(C:Nat->Nat->Int)(n c row:Nat)(ow:List Int)(w:Ws)(s:ScS):Prop where
 ok:gb C w.u w.v w.sn w.i w.at_ w.sl w.ah (c+n) s
 nx0:0<=s.next
 nx1:s.next<((c+n:Nat):Int)
 nx2:nth w.sn s.next.toNat=false
 d0:0<=s.least
 d1:s.least<=1000000000000
 dn:s.least=nth s.sl s.next.toNat
 lo:∀j,j<c+n->nth w.sn j=false->∀l,Tv (c+n) row ow w l->nth s.sl j<=C l j-nth w.u l-nth w.v j
 via:∀j,j<c+n->nth w.sn j=false->(nth s.ah j=-1/\nth s.sl j=C row j-nth w.u row-nth w.v j)\/(0<=nth s.ah j/\nth s.ah j<((c+n:Nat):Int)/\nth w.sn (nth s.ah j).toNat=true/\nth s.sl j=C (nth ow (nth s.ah j).toNat).toNat j-nth w.u (nth ow (nth s.ah j).toNat).toNat-nth w.v j)
 old:∀j,nth w.sn j=true->nth s.ah j=nth w.ah j
 car:s.next.toNat<c\/nth ow s.next.toNat=-1
structure zf0(C:Nat->Nat->Int)(n c row:Nat)(ow:List Int)(w:Ws):Prop where
 mi:MI C n c row w.u w.v ow
 la:w.ah.length=c+n
 a0:0<=w.at_
 a1:w.at_<((c+n:Nat):Int)
 a2:nth ow w.at_.toNat=-1
 a3:nth w.sn w.at_.toNat=true
 hs:∀j,j<c+n->nth w.sn j=true->(j:Int)≠w.at_->0<=nth ow j
 pth:∀j,j<c+n->nth w.sn j=true->Via (c+n) row ow w j λl=>nth w.u l+nth w.v j=C l j
 rk:∃rk:Nat->Nat,(∀j,j<c+n->nth w.sn j=true->rk j<c+n)/\(∀j,j<c+n->nth w.sn j=true->0<=nth w.ah j->rk (nth w.ah j).toNat<rk j)/\∀j,j<c+n->nth w.sn j=true->rk j<=rk w.at_.toNat
section
variable{C:Nat->Nat->Int}{n c row:Nat}{ow:List Int}{w:Ws}
structure zf1(C:Nat->Nat->Int)(n c row:Nat)(ow:List Int)(w:Ws)(s:ScS)(t:List Int×List Int×List Int):Prop where
 l1:t.1.length=n
 l2:t.2.1.length=c+n
 l3:t.2.2.length=c+n
 uT:∀l,Tv (c+n) row ow w l->nth t.1 l=nth w.u l+s.least
 uF:∀l,¬Tv (c+n) row ow w l->nth t.1 l=nth w.u l
 vT:∀j,j<c+n->nth w.sn j=true->nth t.2.1 j=nth w.v j-s.least
 vF:∀j,nth w.sn j=false->nth t.2.1 j=nth w.v j
 sF:∀j,j<c+n->nth w.sn j=false->nth t.2.2 j=nth s.sl j-s.least
structure Rnd(C:Nat->Nat->Int)(n c row:Nat)(ow:List Int)(w w':Ws):Prop where
 a0:0<=w'.at_
 a1:w'.at_<((c+n:Nat):Int)
 new:nth w.sn w'.at_.toNat=false
 sn:w'.sn=w.sn.set w'.at_.toNat true
 la:w'.ah.length=c+n
 pth:∀j,j<c+n->nth w'.sn j=true->Via (c+n) row ow w' j λl=>nth w'.u l+nth w'.v j=C l j
 rk:∃rk:Nat->Nat,(∀j,j<c+n->nth w'.sn j=true->rk j+bl w'.sn<c+n)/\(∀j,j<c+n->nth w'.sn j=true->0<=nth w'.ah j->rk (nth w'.ah j).toNat<rk j)/\∀j,j<c+n->nth w'.sn j=true->rk j<=rk w'.at_.toNat
end
theorem kO{α:Type}[Inhabited α](m:Nat)(a:α)(j:Nat)(h:j<m):nth (List.replicate m a) j=a:=by
 simp_all
structure AI(C:Nat->Nat->Int)(n c row:Nat)(u v ow:List Int)(sn:List Bool)(rk:Nat->Nat)(at_:Nat)(ow1:List Int):Prop where
 lo:ow1.length=c+n
 how:∀j,j<c+n->j≠at_->nth ow1 j=-1\/(0<=nth ow1 j/\nth ow1 j<(row:Int))
 jU:∀j k,j<c+n->k<c+n->j≠at_->k≠at_->0<=nth ow1 j->nth ow1 j=nth ow1 k->j=k
 ht:∀j,j<c+n->j≠at_->0<=nth ow1 j->nth u (nth ow1 j).toNat+nth v j=C (nth ow1 j).toNat j
 ze0:∀l,l<row->∃j,j<c+n/\j≠at_/\nth ow1 j=(l:Int)
 hz:∀j,j<c+n->j≠at_->nth ow1 j=-1->nth ow j=-1
 same:∀j,j<c+n->nth sn j=true->rk j<rk at_->nth ow1 j=nth ow j
structure zf3(C:Nat->Nat->Int)(n m row:Nat)(ow:List Int)(w:Ws):Prop where
 hin:w.i<n
 lu:w.u.length=n
 lv:w.v.length=m
 ls:w.sl.length=m
 la:w.ah.length=m
 ln:w.sn.length=m
 nv:∀k,k<m->inI .i64 (C w.i k-nth w.u w.i)/\inI .i64 (C w.i k-nth w.u w.i-nth w.v k)
 sk:∀k,k<=m->(mC C w.u w.v w.sn w.i w.at_ w.sl w.ah k).sl.length=m/\(mC C w.u w.v w.sn w.i w.at_ w.sl w.ah k).ah.length=m
 ur:inI .i64 (nth w.u row+(bj C m w).least)
 tk:∀k,k<=m->(ij w.sn ow (bj C m w).least (w.u.set row (nth w.u row+(bj C m w).least)) w.v (bj C m w).sl k).1.length=n/\(ij w.sn ow (bj C m w).least (w.u.set row (nth w.u row+(bj C m w).least)) w.v (bj C m w).sl k).2.1.length=m /\
  (ij w.sn ow (bj C m w).least (w.u.set row (nth w.u row+(bj C m w).least)) w.v (bj C m w).sl k).2.2.length=m
 ts:∀k,k<m->nth w.sn k=true->∃l:Nat,nth ow k=l/\l<n/\inI .i64 (nth (ij w.sn ow (bj C m w).least (w.u.set row (nth w.u row+(bj C m w).least)) w.v (bj C m w).sl k).1 l+(bj C m w).least) /\
  inI .i64 (nth (ij w.sn ow (bj C m w).least (w.u.set row (nth w.u row+(bj C m w).least)) w.v (bj C m w).sl k).2.1 k-(bj C m w).least)
 tf:∀k,k<m->nth w.sn k=false->inI .i64 (nth (ij w.sn ow (bj C m w).least (w.u.set row (nth w.u row+(bj C m w).least)) w.v (bj C m w).sl k).2.2 k-(bj C m w).least)
 nx:∃a:Nat,(bj C m w).next=a/\a<m
end Go.Proofs.YthpkmilhiganjaaGreat
namespace Go.Proofs.YthpkmilhiganjaaGreat
open Go Go.Fi
variable[bI]
def bA(l:List Bool):List AV:=(oQ l).map (AV.w false false)
@[simp]theorem zfo(l:List Bool):(bA l).length=l.length:=by simp[bA]
@[simp]theorem zfp(l:List Bool)(i:Nat)(h:i<l.length):mG (bA l) i=.w false false (.bool (nth l i)):=by
 unfold bA;rw[G1 _ _ _ av,PM l i h]
@[simp]theorem zfq(l:List Bool)(i:Nat)(v:Bool):(bA l).set i (.w false false (.bool v))=bA (l.set i v):=by
 simp[bA,oQ,List.map_set]
@[simp]theorem zf4(l:List Bool)(n:Nat):AV.lt.ltL n (bA l)=true:=xA n false false (oQ l)
theorem WS(n:Nat)(b:Bool):bA (List.replicate n b)=List.replicate n (.w false false (.bool b)):=by simp[bA,oQ]
def ej:List AV:=[.ptr 0 1 0,.ptr 1 1 0,.ptr 4 1 0,.ptr 5 1 0]
def mH(x:Rd)(most:Int)(s:FS):bE:=
 [(6,bA s.2),(3,iA s.1),(0,[.w false false x.pv]),(1,[.w false false (.int .i64 most)]),(4,[.msl 3 x.bD.length 1 0 x.bD.length]),(5,[.fn 119 ej])]
theorem wv(x:Rd)(ok:bW x)(most:Int):∀(f i:Nat)(s:FS)(K:AV->bE->Nat->Prop),i<x.os.length->bz x s->bl s.2<f->K (.w false false (.bool (bm x most f i s).1)) (mH x most (bm x most f i s).2) 7->cP ⟨7,none⟩ Tz.prog (Tryz.f119.body.getD .skip) ⟨gd 0 ([.w false false (.int .i64 i),.msl 6 x.bD.length 1 0 x.bD.length]++ej),mH x most s,7,Tryz.f119.ntmps⟩ (iG Tz.prog Tryz.f119.results.toList K)
 |0,_,_,_,_,_,h,_=>absurd h ab
 |f+1,i,s,K,hi,hs,hu,hK=>by
  have ih:=wv x ok most f
  have hgo:=λj s hj hs hu=>kJ (x:=x) (most:=most) f j s hj hs hu
  have eR:bm x most (f+1) i s=bw (bm x most f) x most i (x.bD.length-0) s:=rfl;rw[eR] at hK
  have eL:∀(k:Nat)(s:FS),k<x.bD.length->bw (bm x most f) x most i (x.bD.length-k) s =
   if ic x most i k s.2 then bw (bm x most f) x most i (x.bD.length-(k+1)) s
   else if nth s.1 k<0 then (true,s.1.set k i,s.2.set k true)
   else if (bm x most f (nth s.1 k).toNat (s.1,s.2.set k true)).1 then (true,(bm x most f (nth s.1 k).toNat (s.1,s.2.set k true)).2.1.set k i,(bm x most f (nth s.1 k).toNat (s.1,s.2.set k true)).2.2)
   else bw (bm x most f) x most i (x.bD.length-(k+1)) (bm x most f (nth s.1 k).toNat (s.1,s.2.set k true)).2:=λk s hk=>by
   rw[show x.bD.length-k=(x.bD.length-(k+1))+1 by omega]
   conv=>lhs;unfold bw
   grind
  have eN:∀s:FS,bw (bm x most f) x most i (x.bD.length-x.bD.length) s=(false,s):=λs=>by rw[DW];rfl
  generalize hFL:bw (bm x most f) x most i=FL at hK eL eN;generalize hR:FL (x.bD.length-0) s=R at hK;clear eR hFL;have cg:=ok.lf;have bk:=ok.lw;have hh:=ok.fr i hi;have hy:=ok.wr i hi
  have a6:i<x.fit.length:=ab
  have bc:i<x.wt.length:=ab
  have hq:=ok.lc;have kk:=keep (And.intro ih (And.intro hgo (And.intro eL (And.intro eN (And.intro hK (And.intro hh (And.intro hy (And.intro hq ok))))))));have kR:=keep hR;have ks:=keep hs;have ku:=keep hu;clear ih hgo eL eN hK hR hs hu cg bk hh hy ok hq;have hb:Tryz.f119.body=some _:=rfl;rw[hb];clear hb;simp only[oR,Tryz.ntmps119,Tryz.results119];unfold mH ej Rd.pv
  repeat' first|(with_reducible first|apply bH|apply bG|intro _)|simp[*,hi,a6]
  refine fp (λ(y:Nat×FS)=>y.1<=x.bD.length/\bz x y.2/\bl y.2.2<f+1/\FL (x.bD.length-y.1) y.2=R) [0,1,2,3,4,5,17,18] (λ(y:Nat×FS)=>[(19,.w false false (.int .i64 y.1))]) [0,1,4,5] (λ(y:Nat×FS)=>[(6,bA y.2.2),(3,iA y.2.1)]) (λ(y:Nat×FS)=>x.bD.length-y.1) (λ(t:FS)=>R=(false,t)) [] (λ(t:FS)=>[]) [0,1,4,5] (λ(t:FS)=>[(6,bA t.2),(3,iA t.1)]) ((0,s)) ⟨cG _,ks,ku,kR⟩ ae ae (λy hk=>?_) (λt hf=>?_)
  .obtain⟨k,s'⟩:=y;obtain⟨hk,hs,hu,hj⟩:=hk;dsimp only at hk hs hu hj ⊢;obtain⟨tk,sn⟩:=s';dsimp only at hk hs hu hj ⊢;clear kR ks ku;obtain⟨ih,hgo,eL,eN,hK,hh,hy,hq,ok⟩:=kk;by_cases h':k<x.bD.length
   .have ha:k<(nth x.fit i).length:=ab
    have bg:k<(nth x.wt i).length:=ab
    have aq:k<sn.length:=by have:=hs.l2;simp_all
    have c2:k<tk.length:=by have:=hs.l1;simp_all
    have c3:tk.length=x.bD.length:=hs.l1;have b9:sn.length=x.bD.length:=hs.l2;have aa:inI .i64 ((k:Int)+1):=dc ab ab
    have hz:k+1<=x.bD.length:=ab
    have co:x.bD.length-(k+1)<x.bD.length-k:=ab
    rw[eL k _ h'] at hj;dsimp only at hj;by_cases a':ic x most i k sn=true
    .rw[b8 a'] at hj;have kj:=keep hj;have ks:=keep hs;have ku:=keep hu;clear hj hs hu ih hgo eL eN hK hh hy hq ok
     cases hb:nth (nth x.fit i) k with
     |false=>
      clear a'
      repeat' first|(with_reducible first|apply bH|apply cO|apply b7|apply da|apply bG|refine df (id:=4) 23 mixed ai ?_|apply bQ|intro _)|simp[*,h',ha,hb,a6,hi,aa]
      all_goals first
       |omega
       |assumption
       |(refine gu _ _ _ _ _ (k+1,(tk,sn)) _ ?_ aE ?_;(· trivial);(refine cD ?_ ?_<;>first|trivial|(simp[*];done)))
     |true=>
      cases ag:nth sn k with
      |true=>
       clear a'
       repeat' first|(with_reducible first|apply bH|apply cO|apply b7|apply da|apply bG|refine df (id:=4) 23 mixed ai ?_|apply bQ|intro _)|simp[*,h',ha,hb,a6,hi,aa,ag,aq,b9]
       all_goals first
        |omega
        |assumption
        |(refine gu _ _ _ _ _ (k+1,(tk,sn)) _ ?_ aE ?_;(· trivial);(refine cD ?_ ?_<;>first|trivial|(simp[*];done)))
      |false=>
       have hw:most<nth (nth x.wt i) k:=by simpa[ic,hb,ag] using a'
       clear a'
       repeat' first|(with_reducible first|apply bH|apply cO|apply b7|apply da|apply bG|refine df (id:=4) 23 mixed ai ?_|apply bQ|intro _)|simp[*,h',ha,bg,hb,a6,bc,hi,aa,ag,aq,b9,hw]
       all_goals first
        |omega
        |assumption
        |(refine gu _ _ _ _ _ (k+1,(tk,sn)) _ ?_ aE ?_;(· trivial);(refine cD ?_ ?_<;>first|trivial|(simp[*];done)))
    .rw[bP a'] at hj;obtain⟨hb,ag,hw⟩:=p0 a'
     have c6:¬most<nth (nth x.wt i) k:=ab
     clear a' hw;by_cases ht:nth tk k<0
     .rw[b8 ht] at hj;subst hj;have kK:=keep hK;unfold mH ej Rd.pv at kK;dsimp only at kK;clear hs hu ih hgo eL eN hK hh hy hq ok
      repeat' first|(with_reducible first|apply bH|apply cO|apply b7|apply bT|apply bG|refine df (id:=4) 23 mixed ai ?_|refine df (id:=6) 14 mixed ai ?_|apply bQ|intro _)|simp[*,h',ha,bg,hb,a6,bc,hi,aa,ag,aq,c3,b9,c6,ht,c2]
      trivial
     .rw[bP ht] at hj;have hr:0<=nth tk k/\nth tk k<(x.os.length:Int):=(hs.rg k h').resolve_left ak;obtain⟨j,br⟩:∃j:Nat,nth tk k=j:=⟨(nth tk k).toNat,ab⟩
      have bu:j<x.os.length:=ab
      rw[br] at hj;simp only[jr] at hj;have c5:=kV sn k aq ag;have bq:=hs.seen k;have hg:=hgo j (tk,sn.set k true) bu bq ak
      have ihj:=λK=>ih j (tk,sn.set k true) K bu bq ak
      generalize bm x most f j (tk,sn.set k true)=RR at hj hg ihj;obtain⟨b,tk2,sn2⟩:=RR;have h9:=hg.ok;have b5:=hg.un;dsimp only at hj h9 b5 ihj;have ay:tk2.length=x.bD.length:=h9.l1;have b4:sn2.length=x.bD.length:=h9.l2
      have aw:k<tk2.length:=ab
      have ck:¬((j:Nat):Int)<0:=ab
      have c4:bl sn2<f+1:=ab
      unfold mH at ihj;dsimp only at ihj;unfold Rd.pv at ihj;have kih:=keep ihj;have kj:=keep hj;have kg:=keep (And.intro h9 c4);have kK:=keep hK;clear hs hu ih hgo eL eN hK hh hy hq ok hj hr c5 bq hg ihj h9 b5 ht c4
      repeat' first|(with_reducible first|refine xI (id:=6) 12 119 mixed ai ae Tz.func119 aj (show Tryz.f119.body=some (Tryz.f119.body.getD .skip) from rfl) rfl ?_|apply bH|apply cO|apply b7|apply bG|refine df (id:=4) 23 mixed ai ?_|apply bQ|intro _)|simp[*,h',ha,bg,hb,a6,bc,hi,aa,ag,aq,c3,b9,c6,ck,br,c2]
      all_goals try first|omega|assumption
      refine xH ej rfl (gG aj) ae rfl ?_;refine kih _ ?_
      cases b with
      |true=>
       have hj:(true,tk2.set k (i:Int),sn2)=R:=kj;subst hj;unfold mH ej Rd.pv at kK;dsimp only at kK
       repeat' first|(with_reducible first|apply bH|apply bT|apply bG|apply bQ|intro _)|simp[*,h',ha,a6,hi,ay,b4,aw,aa]
       trivial
      |false=>
       have hj:di (FL (x.bD.length-(k+1)) (tk2,sn2)=R):=kj;clear kj kK
       repeat' first|(with_reducible first|apply b7|apply bG|apply bQ|intro _)|simp[*,h',ha,a6,hi,ay,b4,aw,aa]
       all_goals first
        |omega
        |assumption
        |(refine gu _ _ _ _ _ (k+1,(tk2,sn2)) _ ?_ aE ?_;(· exact⟨hz,kg.1,kg.2,hj⟩);(refine cD ?_ ?_<;>first|trivial|(simp[*,ej];done)))
   .have cf:k=x.bD.length:=ab
    subst cf;rw[eN] at hj
    have ha:¬x.bD.length<(nth x.fit i).length:=ab
    have kj:=keep hj;clear hs hu ih hgo eL eN hK hh hy hq ok hj
    repeat' first|(with_reducible first|apply bH|apply da|apply bG|apply bQ|intro _)|simp[*,h',ha]
    all_goals first
     |omega
     |(refine dH (tk,sn) ?_ ?_;(· exact kj.symm);(refine cD ?_ ?_<;>first|trivial|simp))
  .subst hf;obtain⟨ih,hgo,eL,eN,hK,hh,hy,hq,ok⟩:=kk;have kK:=keep hK;unfold mH ej Rd.pv at kK;dsimp only at kK;clear kR ih hgo eL eN hK hh hy hq ok
   repeat' first|(with_reducible first|apply bH|apply bT|apply bG|intro _)|simp[*]
   trivial
end Go.Proofs.YthpkmilhiganjaaGreat
