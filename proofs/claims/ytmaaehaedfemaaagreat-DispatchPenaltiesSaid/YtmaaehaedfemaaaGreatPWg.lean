/- Lemmas. -/
import Derived.Test.YtmaaehaedfemaaaGreatPWf
import Derived.Test.YtmaaehaedfemaaaGreatPWz
import Derived.Test.YtmaaehaedfemaaaGreatPWt
set_option linter.unusedSimpArgs false
set_option linter.unusedVariables false
set_option linter.unusedSectionVars false
set_option maxHeartbeats 32000000
set_option maxRecDepth 100000
namespace Go.Proofs.Tz
open Go Go.Fi Go.Fc Go.Conc
@[reducible] def xfZ:Xf:={ xf:=fun f=>f=20,bot:=fun _=>False,ds:=fun _ _=>True,rng:=true }
def kn(f:Nat):Prop:=keep f=false∧f≠20∧∃fn,Tryz.prog.funcs[f]?=some fn
theorem fT(f:Nat):prog.funcs[f]?=(Tryz.prog.funcs[f]?).map fun fn=>if keep f then fn else ea fn:=by
 unfold prog;simp only[Array.getElem?_mapIdx]
def Good(k:Nat):Prop:=∃fn c,prog.funcs[k]?=some fn∧Tryz.prog.funcs[k]?=some fn∧(fn.name == "runtime.NumGoroutine")=false∧fn.body=some c∧@codeOk xfZ prog c=true∧fn.norace=false∧prog.inits.idxOf? k=none
noncomputable def Fo(k:Nat):Bool:=match Tryz.prog.funcs[k]? with
 |some fn=>match fn.body with
  |some c=>!(fn.name == "runtime.NumGoroutine")&&(@codeOk xfZ prog c&&(!fn.norace&&(prog.inits.idxOf? k).isNone))
  |none=>false
 |none=>false
theorem JK:((List.range 200).all fun k=>!keep k || Fo k)=true:=by kernel_rfl
theorem JL(k:Nat)(h:keep k=true):k<200:=by
 simp only[keep,Bool.or_eq_true,beq_iff_eq] at h;omega
theorem zm(k:Nat)(h:keep k=true):Good k:=by
 have hg:=List.all_eq_true.1 JK k (List.mem_range.2 (JL k h));simp only[h,Bool.not_true,Bool.false_or] at hg;unfold Fo at hg;split at hg
 ·rename_i fn hx;split at hg
  ·rename_i c hb;simp only[Bool.and_eq_true,Bool.not_eq_true',Option.isNone_iff_eq_none] at hg;obtain⟨h1,h2,h3,h4⟩:=hg;exact⟨fn,c,by rw[fT,hx];simp[h],hx,h1,hb,h2,h3,h4⟩
  ·cases hg
 ·cases hg
theorem OJ:(Tryz.f20.name == "runtime.NumGoroutine")=false:=by kernel_rfl
theorem oS:Tryz.f20.body=some (Tryz.f20.body.getD .skip):=by kernel_rfl
theorem OL:keep 20=false:=rfl
theorem tY:prog.funcs[20]?=some (ea Tryz.f20):=by rw[fT,Tryz.func20];rfl
theorem OM:@gp prog Tryz.prog (@Cc xfZ prog Tryz.prog) kn:=by
 refine⟨⟨⟨Tryz.prog.funcs,rfl⟩⟩,fun f=>?_⟩
 rcases hx:Tryz.prog.funcs[f]? with _|fn
 ·exact .inl ⟨by rw[fT,hx];rfl,rfl⟩
 ·by_cases hk:keep f=true
  ·obtain⟨fn',c,h1,h2,h3,h4,h5,h6,h7⟩:=zm f hk;rw[hx] at h2;cases h2;exact .inr (.inr (.inr ⟨fn,c,h1,rfl,h3,h4,h5,⟨fn,h1,hx,h6⟩,h7⟩))
  ·have hk:keep f=false:=by simpa using hk
   by_cases h20:f=20
   ·subst h20;rw[Tryz.func20] at hx;cases hx;exact .inr (.inl ⟨rfl,ea Tryz.f20,_,Tryz.f20,_,tY,rfl,rfl,rfl,OJ,oS⟩)
   ·refine .inr (.inr (.inl ⟨⟨hk,h20,fn,hx⟩,ea fn,.refuse "known by its contract alone",?_,rfl,rfl⟩));rw[fT,hx];simp[hk]
theorem pN{f:Nat}{fn:Func}(hk:keep f=false)(hx:Tryz.prog.funcs[f]?=some fn)(args:Array Value)(cs:List Frame)(w:World)(g':Goroutine)(w':World)(es:Array Event):stepG prog true (G (Frame.enter prog f args .normal) cs) w≠.go g' w' es:=by
 have hf:prog.funcs[f]?=some (ea fn):=by rw[fT,hx];simp[hk]
 have:Frame.enter prog f args .normal = { fn:=f,tmps:=args++Array.replicate ((ea fn).ntmps-args.size) undef,todo:=[.code (.refuse "known by its contract alone")],defers:=[],mode:=.run,kind:=.normal }:=by
  simp[Frame.enter,hf,ea]
 rw[this];simp[G,stepG,stepG.exec]
theorem ON:¬(@Cc xfZ prog Tryz.prog).fn 20:=by
 rintro⟨⟨fn,h1,h2,_⟩,_⟩
 rw[Tryz.func20] at h2;cases h2;rw[tY] at h1
 have hb:Tryz.f20.body=some (.refuse "known by its contract alone"):=by
  have h1:=Option.some.inj h1;rw[←h1];rfl
 obtain⟨c,h3,h4⟩:=Tw.E2;rw[h3] at hb;exact h4 (Option.some.inj hb)
@[reducible] def L0:ak where
 E w w':=Bel w.heap.size w w'
 ext h:=h
 xt _ _ _ _:=False
 D _ _:=True
 nil _:=trivial
 ok _:=True
 keep _ _:=trivial
 iF _ _:=trivial
theorem Fp(L:EnvD)(hk:∀f args w R,L.xt f args w R→f=20)(hd:∀(w:World) t d,L.E w { w with tape:=t,drawn:=d }):@nh xfZ L prog Tryz.prog kn:=by
 refine @nh.mk xfZ L prog Tryz.prog kn OM (fun f hb hx=>hb.2.1 hx) hk (fun f h args cs w g' w' es=>?_) (fun f h=>?_) (fun f h=>?_) hd
 ·rcases h with ⟨h1,_,fn,h2⟩|h
  ·exact pN h1 h2 args cs w g' w' es
  ·have h:f=20:=h;subst h;exact pN OL Tryz.func20 args cs w g' w' es
 ·have h:f=20:=h;subst h;exact ON
 ·have h:f=20:=h;subst h;rw[tY,Tryz.func20];rfl
section
variable{P:Program}{F:Array Func}
theorem JM(d:Nat)(t:TypeId):dz { P with funcs:=F } d t=dz P d t:=by
 induction d generalizing t with
 |zero=>rfl
 |succ d ih=>
  have hu:({ P with funcs:=F }:Program).underlying t=P.underlying t:=rfl;unfold dz;rw[hu]
  split<;>first|rfl|exact ih _
theorem OO(o:Oper):gq { P with funcs:=F } o=gq P o:=by
 have hu:∀t,({ P with funcs:=F }:Program).underlying t=P.underlying t:=fun _=>rfl
 unfold gq;simp only[hu,JM]
end
theorem JN:prog = { Tw.prog with funcs:=prog.funcs }:=rfl
theorem OP(o:Oper):gq prog o=gq Tw.prog o:=by rw[JN];exact OO o
theorem JO(c:Code)(h:@codeOk Tw.xfW Tw.prog c=true):@codeOk xfZ prog c=true:=by
 induction c with
 |seq a b ha hb=>simp only[codeOk,Bool.and_eq_true] at h ⊢;exact⟨ha h.1,hb h.2⟩
 |cond x a b ha hb=>simp only[codeOk,Bool.and_eq_true] at h ⊢;exact⟨ha h.1,hb h.2⟩
 |rangeFunc x y a b ha hb=>simp[codeOk] at h
 |block i c hc=>exact hc h
 |loop c hc=>exact hc h
 |scope c hc=>exact hc h
 |region i ops d=>
  simp only[codeOk,List.all_eq_true] at h ⊢
  exact fun o ho=>(OP o).trans (h o ho)
 |goto l=>simp[codeOk] at h
 |_=>rfl
theorem JP{f:Nat}(h:Tw.keep f=true):keep f=true:=by
 have:f=41∨f=75:=by simpa[Tw.keep] using h
 rcases this with rfl|rfl<;>rfl
theorem OQ{f:Nat}(h:(@Cc Tw.xfW Tw.prog Tryz.prog).fn f):(@Cc xfZ prog Tryz.prog).fn f:=by
 obtain⟨⟨fn,h1,h2,h3⟩,h4⟩:=h;refine⟨⟨fn,?_,h2,h3⟩,h4⟩;rw[fT,h2];by_cases hk:keep f=true
 ·simp[hk]
 ·have hk2:¬Tw.keep f=true:=fun h=>hk (JP h)
  rw[Tw.fT,h2] at h1;simp only[Option.map_some,if_neg hk2,Option.some.injEq] at h1;simp only[Option.map_some,if_neg hk,Option.some.injEq];exact h1
theorem JQ{C C':Cx}(h1:∀c,C.code c→C'.code c)(h2:∀f,C.fn f→C'.fn f)(o:Obj)(h:okO C o):okO C' o:=by
 cases o with
 |loop l=>exact⟨h1 _ h.1,h1 _ h.2.1,h2 _ h.2.2.1,fun c hc=>h1 _ (h.2.2.2 c hc)⟩
 |deferred d=>
  cases d with
  |none=>trivial
  |some d=>cases d with
   |nil=>trivial
   |cons=>exact h
 |_=>exact h
theorem up(o:Obj)(h:okO (@Cc Tw.xfW Tw.prog Tryz.prog) o):okO (@Cc xfZ prog Tryz.prog) o:=JQ (fun c hc=>JO c hc) (fun f hf=>OQ hf) o h
theorem OR(v:Value):Frame.enter Tryz.prog 37 #[v] .normal=Frame.enter prog 37 #[v] .normal:=by
 simp[Frame.enter,Tryz.func37,func37]
theorem zl(v:Value):@bf xfZ prog Tryz.prog (Frame.enter prog 37 #[v] .normal):=by
 obtain⟨fn,c,h1,h2,h3,h4,h5,h6,h7⟩:=zm 37 rfl;exact @bf.enter xfZ _ _ _ _ _ h1 h2 h4 h5 ⟨⟨fn,h1,h2,h6⟩,h7⟩ _
theorem zn{ci ce:Tw.RND→Int}{fr37:Bool}(hc:∀r,@aF L0 prog 37 [Tw.bM r] (.tup [.int .i64 (ci r),.int .i64 (ce r)]) fr37)(hl:∀r,ce r=0→r.os.length≤1000∧r.zs.length≤64∧r.ae.length≤1000):@Tw.lX prog xfZ L0 kn ci ce fr37:=
 @Tw.lX.mk prog xfZ L0 kn ci ce fr37 (Fp L0.toEnvD (fun _ _ _ _ h=>h.elim) (fun w t d=>⟨rfl,rfl,Nat.le_refl _,fun _ _=>rfl⟩)) (fun _ h=>h) (fun _ _ _ _ h=>h) up OR zl hc hl
@[reducible] noncomputable def L1(ce:Tw.RND→Int):ak:=Tw.Fl ce L0
theorem kB(ce:Tw.RND→Int)(r:Tw.RND):@aF (L1 ce) prog 20 [Tw.bM r] (Tw.iR ce r) false:=by
 refine⟨⟨_,tY,rfl,rfl⟩,fun G w vs _ hl hr c cs hc=>?_⟩
 have hsz:vs.size=1:=by simpa using hl.symm
 obtain⟨v,rfl⟩:∃v,vs=#[v]:=by
  obtain⟨l⟩:=vs
  match l,hsz with
  |[a],_=>exact⟨a,rfl⟩
 have hv:=hr 0 _ v rfl rfl;refine @T.ext (L1 ce).toEnvD _ _ _ _ _ _ _ _ (fun w1 v' w'=>Bel w1.heap.size w1 w'∧Rep (fun b=>b<w1.heap.size→G b) w' (Tw.iR ce r) v') (fun w1 e=>⟨rfl,trivial,r,G,v,rfl,hv.mono (fun _ _ h=>h) (fun b hb _=>Bel.block e b hb),fun v' w' h1 h2=>⟨h1,h2⟩⟩) (fun w1 v' w' e h=>@T.now (L1 ce).toEnvD _ _ _ _ _ _ ⟨rfl,v',⟨v',rfl,Bel.trans e (h.1.mono (Bel.size e)),h.2.imp fun b hb=>⟨fun hlt=>hb (Nat.lt_of_lt_of_le hlt (Bel.size e)),fun h=>by cases h⟩⟩,rfl⟩) (Nat.le_refl _)
end Go.Proofs.Tz
