/- Lemmas. -/
import Derived.Test.YthpkmilhiganjaaGreatPMf
import Derived.Test.YthpkmilhiganjaaGreatPWf
import Derived.Test.YthpkmilhiganjaaGreatPWz
import Derived.Test.YthpkmilhiganjaaGreatPWt
set_option linter.all false
set_option maxHeartbeats 32000000
set_option maxRecDepth 100000
namespace Go.Proofs.Tz
open Go Go.Fi Go.Fc Go.Conc
@[reducible] def xfZ:Xf:={ xf:=λf=>f=69,bot:=λ_=>False,ds:=λ_ _=>True,rng:=true }
def oM(f:Nat):Prop:=keep f=false/\f≠69/\∃fn,Tryz.prog.funcs[f]?=some fn
theorem jC(f:Nat):prog.funcs[f]?=(Tryz.prog.funcs[f]?).map λfn=>if keep f then fn else gw fn:=by
 unfold prog;simp only[qn]
def Good(k:Nat):Prop:=∃fn c,prog.funcs[k]?=some fn/\Tryz.prog.funcs[k]?=some fn/\(fn.name == "runtime.NumGoroutine")=false/\fn.body=some c/\@codeOk xfZ prog c=true/\fn.norace=false/\prog.inits.idxOf? k=none
noncomputable def gB(k:Nat):Bool:=match Tryz.prog.funcs[k]? with
 |none=>false
 |some fn=>!(fn.name == "runtime.NumGoroutine")&&(match fn.body with|some c=>@codeOk xfZ prog c|none=>false) && !fn.norace&&(prog.inits.idxOf? k).isNone
theorem Ti:(List.range 181).all (λk=>!keep k || gB k)=true:=aj
theorem Dh(k:Nat)(h:keep k=true):Good k:=by
 have hl:k<181:=by
  simp only[keep,qj,eY,Nat.ble_eq] at h;omega
 have e:=gp.1 Ti k (tJ.2 hl);rw[h] at e;have e:gB k=true:=e;unfold gB at e
 cases hx:Tryz.prog.funcs[k]? with
 |none=>rw[hx] at e;cases e
 |some fn=>
  rw[hx] at e
  cases hb:fn.body with
  |none=>simp[hb] at e
  |some c=>
   simp only[hb,eY,qo,Option.isNone_iff_eq_none] at e;exact⟨fn,c,by rw[jC,hx];simp[h],hx,e.1.1.1,hb,e.1.1.2,e.1.2,e.2⟩
theorem Tj:(Tryz.f69.name == "runtime.NumGoroutine")=false:=aj
theorem sU:Tryz.f69.body=some (Tryz.f69.body.getD .skip):=aj
theorem Di:keep 69=false:=rfl
theorem ya:prog.funcs[69]?=some (gw Tryz.f69):=by rw[jC,Tryz.func69];rfl
theorem u5:@iv prog Tryz.prog (@Cc xfZ prog Tryz.prog) oM:=by
 refine⟨⟨⟨Tryz.prog.funcs,rfl⟩⟩,λf=>?_⟩
 rcases hx:Tryz.prog.funcs[f]? with _|fn
 .exact .inl ⟨by rw[jC,hx];rfl,rfl⟩
 .by_cases hk:keep f=true
  .obtain⟨hg,c,h1,h2,h3,h4,h5,h6,h7⟩:=Dh f hk;rw[hx] at h2;cases h2;exact .inr (.inr (.inr ⟨fn,c,h1,rfl,h3,h4,h5,⟨fn,h1,hx,h6⟩,h7⟩))
  .have hk:keep f=false:=by simpa using hk
   by_cases h8:f=69
   .subst h8;rw[Tryz.func69] at hx;cases hx;exact .inr (.inl ⟨rfl,gw Tryz.f69,_,Tryz.f69,_,ya,rfl,rfl,rfl,Tj,sU⟩)
   .refine .inr (.inr (.inl ⟨⟨hk,h8,fn,hx⟩,gw fn,.refuse "known by its contract alone",?_,rfl,rfl⟩));rw[jC,hx];simp[hk]
theorem uk{f:Nat}{fn:Func}(hk:keep f=false)(hx:Tryz.prog.funcs[f]?=some fn)(args:Array Value)(cs:List Frame)(w:World)(g':Goroutine)(w':World)(es:Array Event):stepG prog true (G (Frame.enter prog f args .normal) cs) w≠.go g' w' es:=by
 have hf:prog.funcs[f]?=some (gw fn):=by rw[jC,hx];simp[hk]
 have:Frame.enter prog f args .normal = { fn:=f,tmps:=args++Array.replicate ((gw fn).ntmps-args.size) undef,todo:=[.code (.refuse "known by its contract alone")],defers:=[],mode:=.run,kind:=.normal }:=by
  simp[Frame.enter,hf,gw]
 rw[this];simp[G,stepG,stepG.exec]
theorem yb{f:Nat}{fn:Func}(hk:keep f=false)(hx:Tryz.prog.funcs[f]?=some fn)(args:Array Value)(cs:List Frame)(w:World):∃o w' es,stepG prog true (G (Frame.enter prog f args .normal) cs) w=.ended o w' es:=by
 have hf:prog.funcs[f]?=some (gw fn):=by rw[jC,hx];simp[hk]
 have:Frame.enter prog f args .normal = { fn:=f,tmps:=args++Array.replicate ((gw fn).ntmps-args.size) undef,todo:=[.code (.refuse "known by its contract alone")],defers:=[],mode:=.run,kind:=.normal }:=by
  simp[Frame.enter,hf,gw]
 rw[this];exact⟨_,_,_,by simp[G,stepG,stepG.exec];exact⟨rfl,rfl,rfl⟩⟩
theorem Tk:¬(@Cc xfZ prog Tryz.prog).fn 69:=by
 rintro⟨⟨fn,h1,h2,_⟩,_⟩
 rw[Tryz.func69] at h2;cases h2;rw[ya] at h1
 have hb:Tryz.f69.body=some (.refuse "known by its contract alone"):=by
  have h1:=fL h1;rw[<-h1];rfl
 obtain⟨c,h3,h4⟩:=Tw.IZ;rw[h3] at hb;exact h4 (fL hb)
@[reducible] def L0:bI where
 E w w':=∃x,w'=rd w x
 ext h:=by obtain⟨x,rfl⟩:=h;exact⟨rfl,rfl,bS _,λ_ _=>rfl⟩
 xt _ _ _ _:=False
 D _ _:=True
 nil _:=trivial
 ok _:=True
 keep _ _:=trivial
 mB _ _:=trivial
theorem Ji(L:EnvD)(hk:∀f args w R,L.xt f args w R->f=69)(hd:∀(w:World) t d,L.E w { w with tape:=t,drawn:=d }):@qO xfZ L prog Tryz.prog oM:=by
 refine @qO.mk xfZ L prog Tryz.prog oM u5 (λf hb hx=>hb.2.1 hx) hk (λf h args cs w g' w' es=>?_) (λf h=>?_) (λf h=>?_) hd
 .rcases h with ⟨h1,_,fn,h2⟩|h
  .exact uk h1 h2 args cs w g' w' es
  .have h:f=69:=h;subst h;exact uk Di Tryz.func69 args cs w g' w' es
 .have h:f=69:=h;subst h;exact Tk
 .have h:f=69:=h;subst h;rw[ya,Tryz.func69];rfl
section
variable{P:Program}{F:Array Func}
theorem OE(d:Nat)(t:TypeId):gT { P with funcs:=F } d t=gT P d t:=by
 induction d generalizing t with
 |zero=>rfl
 |succ d ih=>
  have hu:({ P with funcs:=F }:Program).underlying t=P.underlying t:=rfl;unfold gT;rw[hu]
  split<;>first|rfl|exact ih _
theorem Tl(o:Oper):jy { P with funcs:=F } o=jy P o:=by
 have hu:∀t,({ P with funcs:=F }:Program).underlying t=P.underlying t:=λ_=>rfl
 unfold jy nB;simp only[hu,OE]
end
theorem OF:prog = { Tw.prog with funcs:=prog.funcs }:=rfl
theorem Tm(o:Oper):jy prog o=jy Tw.prog o:=by rw[OF];exact Tl o
theorem OG(c:Code)(h:@codeOk Tw.xfW Tw.prog c=true):@codeOk xfZ prog c=true:=by
 induction c with
 |seq a b ha hb=>simp only[codeOk,eY] at h ⊢;exact⟨ha h.1,hb h.2⟩
 |cond x a b ha hb=>simp only[codeOk,eY] at h ⊢;exact⟨ha h.1,hb h.2⟩
 |rangeFunc x y a b ha hb=>simp[codeOk] at h
 |block i c hc=>exact hc h
 |loop c hc=>exact hc h
 |scope c hc=>exact hc h
 |region i ops d=>
  simp only[codeOk,gp] at h ⊢
  exactλo ho=>(Tm o).trans (h o ho)
 |goto l=>simp[codeOk] at h
 |_=>rfl
theorem OH{f:Nat}(h:Tw.keep f=true):keep f=true:=by
 have:f=107\/f=133:=by simpa[Tw.keep] using h
 rcases this with rfl|rfl<;>rfl
theorem Tn{f:Nat}(h:(@Cc Tw.xfW Tw.prog Tryz.prog).fn f):(@Cc xfZ prog Tryz.prog).fn f:=by
 obtain⟨⟨fn,h1,h2,h3⟩,h4⟩:=h;refine⟨⟨fn,?_,h2,h3⟩,h4⟩;rw[jC,h2];by_cases hk:keep f=true
 .simp[hk]
 .have h9:¬Tw.keep f=true:=λh=>hk (OH h)
  rw[Tw.jC,h2] at h1;simp only[eh,bP h9,db] at h1;simp only[eh,bP hk,db];exact h1
theorem OI{C C':Cx}(h1:∀c,C.code c->C'.code c)(h2:∀f,C.fn f->C'.fn f)(o:Obj)(h:okO C o):okO C' o:=by
 cases o with
 |loop l=>exact⟨h1 _ h.1,h1 _ h.2.1,h2 _ h.2.2.1,λc hc=>h1 _ (h.2.2.2 c hc)⟩
 |deferred d=>
  cases d with
  |none=>trivial
  |some d=>cases d with
   |nil=>trivial
   |cons=>exact h
 |_=>exact h
theorem up(o:Obj)(h:okO (@Cc Tw.xfW Tw.prog Tryz.prog) o):okO (@Cc xfZ prog Tryz.prog) o:=OI (λc hc=>OG c hc) (λf hf=>Tn hf) o h
theorem To(v:Value):Frame.enter Tryz.prog 55 #[v] .normal=Frame.enter prog 55 #[v] .normal:=by
 simp[Frame.enter,Tryz.func55,func55]
theorem Dg(v:Value):@dh xfZ prog Tryz.prog (Frame.enter prog 55 #[v] .normal):=by
 obtain⟨fn,c,h1,h2,h3,h4,h5,h6,h7⟩:=Dh 55 rfl;exact @dh.enter xfZ _ _ _ _ _ h1 h2 h4 h5 ⟨⟨fn,h1,h2,h6⟩,h7⟩ _
theorem Dj{ci ce:Tw.RND->Int}{fr37:Bool}(hc:∀r,@bX L0 prog 55 [Tw.dT r] (.tup [.int .i64 (ci r),.int .i64 (ce r)]) fr37)(hl:∀r,ce r=0->r.os.length<=1000/\r.zs.length<=64/\r.bD.length<=1000):@Tw.pQ prog xfZ L0 oM ci ce fr37:=
 @Tw.pQ.mk prog xfZ L0 oM ci ce fr37 (Ji L0.toEnvD (λ_ _ _ _ h=>h.elim) (λw t d=>⟨(t,d),rfl⟩)) (λ_ h=>h) (λ_ _ _ _ h=>h) up To Dg hc hl
@[reducible] noncomputable def L1(ce:Tw.RND->Int):bI:=Tw.Jh ce L0
theorem pW(ce:Tw.RND->Int)(r:Tw.RND):@bX (L1 ce) prog 69 [Tw.dT r] (Tw.mV ce r) false:=by
 refine⟨⟨_,ya,rfl,rfl⟩,λG w vs _ hl hr c cs hc=>?_⟩
 have hh:vs.size=1:=al
 obtain⟨v,rfl⟩:∃v,vs=#[v]:=by
  obtain⟨l⟩:=vs
  match l,hh with
  |[a],_=>simp
 have hv:=hr 0 _ v rfl rfl;refine @T.ext (L1 ce).toEnvD _ _ _ _ _ _ _ _ (λw1 v' w'=>Bel w1.heap.size w1 w'/\Rep (λb=>b<w1.heap.size->G b) w' (Tw.mV ce r) v') (λw1 e=>⟨rfl,trivial,r,G,v,rfl,hv.mono (λ_ _ h=>h) (λb hb _=>Bel.block ((L1 ce).ext e) b hb),λv' w' h1 h2=>⟨h1,h2⟩⟩) (λw1 v' w' e h=>@T.now (L1 ce).toEnvD _ _ _ _ _ _ ⟨rfl,v',⟨v',rfl,Bel.trans ((L1 ce).ext e) (h.1.mono (Bel.size ((L1 ce).ext e))),h.2.imp λb hb=>⟨λh'=>hb (lY h' (Bel.size ((L1 ce).ext e))),nofun⟩⟩,rfl⟩) (bS _)
end Go.Proofs.Tz
