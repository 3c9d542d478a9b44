/- Lemmas. -/
import Derived.Test.YthpkmilhiganjaaGreatPWd
import Derived.Test.YthpkmilhiganjaaGreatPNd
import Derived.Test.YthpkmilhiganjaaGreatPMe
set_option linter.all false
set_option maxHeartbeats 32000000
set_option maxRecDepth 100000
namespace Go.Proofs.Tw
open Go Go.Fi Go.Fc Go.Conc Go.RowKit
abbrev Bs:Oper:=⟨some 1,(.box 27 (.tmp 0)),0, "dispatch.go:111",#[],none⟩
abbrev Bt:Oper:=⟨some 2,(.assign (.const (.pointer none))),92, "dispatch.go:111",#[],none⟩
abbrev Bu:Oper:=⟨some 3,(.assign (.const (.int .i64 0))),33, "dispatch.go:111",#[⟨1,.chain⟩],none⟩
abbrev xl:Array Oper:=#[Bs,Bt,Bu]
abbrev Bv:Oper:=⟨some 11,(.load 27 (.tmp 1)),27, "dispatch.go:112",#[],none⟩
abbrev Bw:Oper:=⟨some 12,(.call ⟨(.value (.func 55)),#[(.tmp 11)],#[27]⟩),34, "dispatch.go:112",#[⟨0,.data⟩],none⟩
abbrev Gz:Oper:=⟨some 10,(.move (.tmp 12)),34, "dispatch.go:112",#[⟨1,.data⟩],none⟩
abbrev GA:Oper:=⟨some 13,(.extract (.tmp 10) 0),3, "dispatch.go:112",#[⟨2,.data⟩],none⟩
abbrev GB:Oper:=⟨some 14,(.extract (.tmp 10) 1),33, "dispatch.go:112",#[⟨2,.data⟩,{ on:=5,ground:=(.gcOnly Go.Departure.lateStores)}],none⟩
abbrev GC:Oper:=⟨some 4,(.assign (.tmp 13)),3, "dispatch.go:112",#[⟨3,.data⟩,⟨1,.chain⟩,⟨0,.phase⟩,⟨1,.phase⟩,⟨2,.phase⟩,⟨3,.phase⟩,{ on:=4,ground:=(.textOnly Go.Departure.lateStores)}],none⟩
abbrev GD:Oper:=⟨some 5,(.assign (.tmp 14)),33, "dispatch.go:112",#[⟨4,.data⟩,⟨5,.chain⟩,⟨0,.phase⟩,⟨1,.phase⟩,⟨2,.phase⟩,⟨3,.phase⟩,⟨4,.phase⟩,⟨5,.phase⟩],none⟩
abbrev qG:Array Oper:=#[Bv,Bw,Gz,GA,GB,GC,GD]
abbrev Bx:Oper:=⟨some 15,(.move (.tmp 5)),33, "dispatch.go:112",#[],none⟩
abbrev By:Oper:=⟨some 16,(.binOp .neq 33 (.tmp 15) (.const (.int .i64 0)) 33),4, "dispatch.go:112",#[⟨0,.data⟩],none⟩
abbrev xm:Array Oper:=#[Bx,By]
abbrev GF:Oper:=⟨some 17,(.move (.tmp 5)),33, "dispatch.go:113",#[{ on:=1,ground:=(.gcOnly Go.Departure.lateStores)}],none⟩
abbrev GG:Oper:=⟨some 2,(.assign (.const (.pointer none))),92, "dispatch.go:113",#[{ on:=0,ground:=(.textOnly Go.Departure.lateStores)}],none⟩
abbrev GH:Oper:=⟨some 3,(.assign (.tmp 17)),33, "dispatch.go:113",#[⟨0,.data⟩,⟨1,.chain⟩,⟨0,.phase⟩,⟨1,.phase⟩],none⟩
abbrev Bz:Array Oper:=#[GF,GG,GH]
abbrev N8:Oper:=⟨some 18,(.load 27 (.tmp 1)),27, "dispatch.go:115",#[],none⟩
abbrev N9:Oper:=⟨some 19,(.fieldAddr 27 (.tmp 1) 1),0, "dispatch.go:115",#[],none⟩
abbrev Oa:Oper:=⟨some 20,(.load 23 (.tmp 19)),23, "dispatch.go:115",#[⟨1,.data⟩],none⟩
abbrev Ob:Oper:=⟨some 21,(.call ⟨(.builtin .len),#[(.tmp 20)],#[23]⟩),3, "dispatch.go:115",#[⟨2,.data⟩],none⟩
abbrev GJ:Oper:=⟨some 22,(.makeSlice 103 (.tmp 21) (.tmp 21)),103, "dispatch.go:115",#[⟨3,.data⟩,⟨3,.data⟩],none⟩
abbrev Oc:Oper:=⟨some 23,(.build 105 #[(0,(.tmp 18)),(1,(.tmp 22))]),105, "dispatch.go:115",#[⟨0,.data⟩,⟨4,.data⟩],none⟩
abbrev GK:Oper:=⟨some 24,(.box 105 (.tmp 23)),92, "dispatch.go:115",#[⟨5,.data⟩],none⟩
abbrev GM:Oper:=⟨some 6,(.alloc 92),0, "dispatch.go:115",#[],none⟩
abbrev GN:Oper:=⟨none,(.store 92 (.tmp 6) (.tmp 24)),0, "dispatch.go:115",#[⟨7,.data⟩,⟨6,.data⟩,⟨0,.phase⟩,⟨1,.phase⟩,⟨2,.phase⟩,⟨3,.phase⟩,⟨4,.phase⟩,⟨5,.phase⟩,⟨6,.phase⟩,⟨7,.phase⟩],none⟩
abbrev qH:Array Oper:=#[N8,N9,Oa,Ob,GJ,Oc,GK,GM,GN]
abbrev Od:Oper:=⟨some 7,(.alloc 147),0, "dispatch.go:116",#[],none⟩
abbrev BA:Array Oper:=#[Od]
theorem xZ:@lR xfW fP prog Tryz.prog xW:=by
 letI:=xfW
 letI:=fP
 exact⟨IY,λf h=>h,λf hb args cs w g' w' es=>uk hb args cs w g' w' es,λw t d=>⟨rfl,rfl,bS _,λ_ _=>rfl⟩,λf h=>Gq h⟩
abbrev c6:Code:=.seq (.seq (.region 6 Ga false) (.block 0 (.loop cLB))) cW
abbrev cR4:Code:=.seq (.region 4 qH true) (.seq (.region 5 BA false) c6)
abbrev cZ:Code:=.seq (.region 2 xm false) (.cond (.tmp 16) (.seq (.region 3 Bz false) .ret) .skip)
theorem Oe:Tryz.f69.body=some (.seq (.region 0 xl false) (.seq (.seq (.region 1 qG false) cZ) cR4)):=rfl
def frA(a:Act):Frame:=b20.atR a [.inRegion qG [1,2,3,4,5,6],.code cZ,.code cR4]
def I9(a:Act):Frame:=b20.atR a [.code .ret,.code cR4]
def De(a:Act):Frame:=b20.atR a [.inRegion BA [0],.code c6]
def pP(w:World)(rb:Nat)(s0 s1 s2 s3:Value):Prop:=w.heap[rb]?=some (.cells #[s0,s1,s2,s3] 27)
theorem pP.mv{w w1:World}{rb:Nat}{s0 s1 s2 s3:Value}(h:pP w rb s0 s1 s2 s3)(e:Bel w.heap.size w w1):pP w1 rb s0 s1 s2 s3:=(e.block _ (cY.1 h).1).trans h
def x9(v:Value):Prop:=∃a n c,v=.slice a n c
abbrev SA(rb:Nat):Nat->Option Value:=λt=>match t with|1=>some (P_ rb)|2=>some (.pointer none)|3=>some (.int .i64 0)|_=>none
section
variable{cs:List Frame}{w0 w:World}{s0 s1 s2 s3:Value}{rb:Nat}
def Ja(cs:List Frame)(w0:World)(s0 s1 s2 s3:Value)(fr:Frame)(cs':List Frame)(w:World):Prop:=
 cs'=cs/\∃a rb,fr=frA a/\SlS (ups (SA rb) 11 (.agg #[s0,s1,s2,s3])) a/\pP w rb s0 s1 s2 s3/\Bel w0.heap.size w0 w/\w0.heap.size<=rb
theorem SW{a:Act}(h0:x9 s0)(h1:x9 s1)(h2:x9 s2)(h3:x9 s3)(hS:SlS (λt=>if t=0 then some (.agg #[s0,s1,s2,s3]) else none) a):@TN fP prog cs.length cs.length (Ja cs w0 s0 s1 s2 s3) 20 (b20.atR a [.code (.seq (.region 0 xl false) (.seq (.seq (.region 1 qG false) cZ) cR4))]) cs w0:=by
 letI:=fP
 obtain⟨a0,n0,c0,rfl⟩:=h0;obtain⟨a1,n1,c1,rfl⟩:=h1;obtain⟨a2,n2,c2,rfl⟩:=h2;obtain⟨a3,n3,c3,rfl⟩:=h3;have hle:=bS cs.length;refine iM (N:=19) hle (mn (N:=18) hle ?_);show TN prog _ _ _ 18 (b20.atR _ (.inRegion xl [0,1,2]::_)) cs w0;have t0:=hS.get 0 _ rfl
 refine nP (N:=17) (o:=Bs) rfl rfl aB eU hle λw e=>⟨λ_=>trivial,?_⟩
 have hr:(execOp a.eval Bs).run prog w=.ok (.value (P_ w.heap.size)) (w.alloc (.cells #[.slice a0 n0 c0,.slice a1 n1 c1,.slice a2 n2 c2,.slice a3 n3 c3] 27)):=by
  simp[go_sem,t0,P_]
 rw[hr]
 have h':pP (w.alloc (.cells #[.slice a0 n0 c0,.slice a1 n1 c1,.slice a2 n2 c2,.slice a3 n3 c3] 27)) w.heap.size (.slice a0 n0 c0) (.slice a1 n1 c1) (.slice a2 n2 c2) (.slice a3 n3 c3):=by
  show (w.heap.push _)[w.heap.size]?=_;simp
 have hb:Bel w0.heap.size w0 (w.alloc (.cells #[.slice a0 n0 c0,.slice a1 n1 c1,.slice a2 n2 c2,.slice a3 n3 c3] 27)):=e.alloc (dJ (bS _) e.size) _;have aw:w0.heap.size<=w.heap.size:=e.size;show TN prog _ _ _ 17 (b20.atR (a.put (some 1) (P_ w.heap.size)) _) cs _;replace hS:=hS.put (t:=1) af (P_ w.heap.size);generalize a.put (some 1) (P_ w.heap.size)=a at hS ⊢;generalize w.heap.size=rb at hS h' aw ⊢;generalize w.alloc (.cells #[.slice a0 n0 c0,.slice a1 n1 c1,.slice a2 n2 c2,.slice a3 n3 c3] 27)=w at h' hb ⊢;clear hr e t0
 refine nP (N:=16) (o:=Bt) rfl rfl aB eU hle λw e=>⟨λ_=>trivial,?_⟩
 replace h':=h'.mv e;replace hb:=hb.trans (e.mono hb.size)
 have hr:(execOp a.eval Bt).run prog w=.ok (.value (.pointer none)) w:=by simp[go_sem]
 rw[hr];show TN prog _ _ _ 16 (b20.atR (a.put (some 2) (.pointer none)) _) cs _;replace hS:=hS.put (t:=2) af (.pointer none);generalize a.put (some 2) (.pointer none)=a at hS ⊢;clear hr e
 refine nP (N:=15) (o:=Bu) rfl rfl aB eU hle λw e=>⟨λ_=>trivial,?_⟩
 replace h':=h'.mv e;replace hb:=hb.trans (e.mono hb.size)
 have hr:(execOp a.eval Bu).run prog w=.ok (.value (.int .i64 0)) w:=by simp[go_sem]
 rw[hr];show TN prog _ _ _ 15 (b20.atR (a.put (some 3) (.int .i64 0)) _) cs _;replace hS:=hS.put (t:=3) af (.int .i64 0);generalize a.put (some 3) (.int .i64 0)=a at hS ⊢;clear hr e;refine nu hle (iM hle (iM hle (mn (N:=11) hle ?_)));show TN prog _ _ _ 11 (b20.atR a (.inRegion qG [0,1,2,3,4,5,6]::_)) cs _;have t1:=hS.get 1 (P_ rb) rfl
 refine nP (N:=10) (o:=Bv) rfl rfl aB eU hle λw e=>⟨λ_=>trivial,?_⟩
 replace h':=h'.mv e;replace hb:=hb.trans (e.mono hb.size);have z0:=gi (k:=0) h' rfl;have z1:=gi (k:=1) h' rfl;have z2:=gi (k:=2) h' rfl;have z3:=gi (k:=3) h' rfl
 have hr:(execOp a.eval Bv).run prog w=.ok (.value (.agg #[.slice a0 n0 c0,.slice a1 n1 c1,.slice a2 n2 c2,.slice a3 n3 c3])) w:=by
  simp[go_sem,t1,P_,z0,z1,z2,z3]
 rw[hr];refine .now ⟨rfl,a.put (some 11) (.agg #[.slice a0 n0 c0,.slice a1 n1 c1,.slice a2 n2 c2,.slice a3 n3 c3]),rb,rfl,?_,h',hb,aw⟩;have hS2:=hS.put (t:=11) af (.agg #[.slice a0 n0 c0,.slice a1 n1 c1,.slice a2 n2 c2,.slice a3 n3 c3]);refine⟨hS2.size,hS2.defers,λt v ht=>hS2.get t v ?_⟩
 grind
end
structure SlL(l:List (Nat×Value))(a:Act):Prop where
 size:a.tmps.size=38
 defers:a.defers=[]
 get:∀p∈l,a.tmps[p.1]?.getD undef=p.2
theorem SlL.put{l:List (Nat×Value)}{a:Act}(h:SlL l a){t:Nat}(ht:t<38)(v:Value)(hn:∀p∈l,p.1≠t):SlL ((t,v)::l) (a.put (some t) v):=by
 refine⟨wM.trans h.size,wN.trans h.defers,λp hp=>?_⟩;rw[lE aP]
 rcases dM.1 hp with rfl|hp
 .rw[b8 rfl]
 .rw[bP (gO (hn p hp)) ];exact h.get p hp
theorem SlL.at{l:List (Nat×Value)}{a:Act}(h:SlL l a)(t:Nat){v:Value}(hm:(t,v)∈l:=by repeat (first|exact List.Mem.head _|apply List.Mem.tail)):a.tmps[t]?.getD undef=v:=h.get (t,v) hm
theorem SlL.sub{l l':List (Nat×Value)}{a:Act}(h:SlL l a)(hs:∀p∈l',p∈l):SlL l' a:=⟨h.size,h.defers,λp hp=>h.get p (hs p hp)⟩
theorem SlS.list{S:Nat->Option Value}{a:Act}(h:SlS S a)(l:List (Nat×Value))(hl:∀p∈l,S p.1=some p.2):SlL l a:=⟨h.size,h.defers,λp hp=>h.get p.1 p.2 (hl p hp)⟩
theorem jv{P:Program}{n m N:Nat}{Φ:Frame->List Frame->World->Prop}{b:Frame}{a:Act}{k:List Item}{cs:List Frame}{w:World}{ops:Array Oper}{i:Nat}{rest:List Nat}{o:Oper}{t:Nat}(v:Value)(ho:ops[i]?=some o)(hw:Region.wanted o (yielded ops a.tmps)=true)(hd:∀c,o.op≠.defer c)(aa:o.dst=some t)(hk:b.kind≠.early)(hn:n<=cs.length)(h9:∀w1,Bel w.heap.size w w1->(execOp a.eval o).run P w1=.ok (.value v) w1)(h:∀w1,Bel w.heap.size w w1->@TN fP P n m Φ N (b.atR (a.put (some t) v) (.inRegion ops rest::k)) cs w1):@TN fP P n m Φ (N+1) (b.atR a (.inRegion ops (i::rest)::k)) cs w:=by
 letI:=fP
 refine nP ho hw hd hk hn λw1 e=>⟨λ_=>trivial,?_⟩
 rw[h9 w1 e];show TN P n m Φ N (b.atR (a.put o.dst v) _) cs w1;rw[aa];exact h w1 e
section
variable{cs:List Frame}{w:World}{s0 s1 s2 s3:Value}{rb:Nat}{n N:Nat}{Φ:Frame->List Frame->World->Prop}
theorem Jb{a:Act}{i e:Int}(hn:n<=cs.length)(hS:SlS (ups (SA rb) 11 (.agg #[s0,s1,s2,s3])) a)(h:∀a w1,SlL [(1,P_ rb),(2,.pointer none),(3,.int .i64 0),(5,.int .i64 e)] a->Bel w.heap.size w w1->@TN fP prog n n Φ N (b20.atR a [.code (.seq (.region 2 xm false) (.cond (.tmp 16) (.seq (.region 3 Bz false) .ret) .skip)),.code cR4]) cs w1):@TN fP prog n n Φ (N+6) ((frA a).finish (.tuple #[.int .i64 i,.int .i64 e])) cs w:=by
 letI:=fP
 have e1:(frA a).finish (.tuple #[.int .i64 i,.int .i64 e])=b20.atR (a.put (some 12) (.tuple #[.int .i64 i,.int .i64 e])) [.inRegion qG [2,3,4,5,6],.code cZ,.code cR4]:=by
  rfl
 rw[e1];have hL:=hS.list [(1,P_ rb),(2,.pointer none),(3,.int .i64 0)] ak;replace hL:=hL.put (t:=12) af (.tuple #[.int .i64 i,.int .i64 e]) ae;generalize a.put (some 12) (.tuple #[.int .i64 i,.int .i64 e])=a at hL ⊢;have g:=hL.at 12
 refine jv (o:=Gz) (t:=10) (.tuple #[.int .i64 i,.int .i64 e]) rfl rfl ae rfl eU hn (λw1 _=>by simp[go_sem,g]) λw1 b1=>?_
 replace hL:=(hL.put (t:=10) af (.tuple #[.int .i64 i,.int .i64 e]) ae);generalize a.put (some 10) (.tuple #[.int .i64 i,.int .i64 e])=a at hL ⊢;have g:=hL.at 10
 refine jv (o:=GA) (t:=13) (.int .i64 i) rfl rfl ae rfl eU hn (λw1 _=>by simp[go_sem,g]) λw2 b2=>?_
 replace hL:=(hL.put (t:=13) af (.int .i64 i) ae);generalize a.put (some 13) (.int .i64 i)=a at hL ⊢;have g:=hL.at 10
 refine jv (o:=GB) (t:=14) (.int .i64 e) rfl rfl ae rfl eU hn (λw1 _=>by simp[go_sem,g]) λw3 b3=>?_
 replace hL:=(hL.put (t:=14) af (.int .i64 e) ae);generalize a.put (some 14) (.int .i64 e)=a at hL ⊢;have g:=hL.at 13
 refine jv (o:=GC) (t:=4) (.int .i64 i) rfl rfl ae rfl eU hn (λw1 _=>by simp[go_sem,g]) λw4 b4=>?_
 replace hL:=(hL.put (t:=4) af (.int .i64 i) ae);generalize a.put (some 4) (.int .i64 i)=a at hL ⊢;have g:=hL.at 14
 refine jv (o:=GD) (t:=5) (.int .i64 e) rfl rfl ae rfl eU hn (λw1 _=>by simp[go_sem,g]) λw5 b5=>?_
 replace hL:=(hL.put (t:=5) af (.int .i64 e) ae);generalize a.put (some 5) (.int .i64 e)=a at hL ⊢;refine nu hn (h a w5 (hL.sub ae) ?_);have c2:=b1.trans (b2.mono b1.size);have c3:=c2.trans (b3.mono c2.size);have c4:=c3.trans (b4.mono c3.size);exact c4.trans (b5.mono c4.size)
def Jc(cs:List Frame)(w0:World)(e:Int)(fr:Frame)(cs':List Frame)(w:World):Prop:=
 cs'=cs/\∃a,fr=I9 a/\SlL [(2,.pointer none),(3,.int .i64 e)] a/\Bel w0.heap.size w0 w
theorem SX{a:Act}{i e:Int}(he:e≠0)(hS:SlS (ups (SA rb) 11 (.agg #[s0,s1,s2,s3])) a):@TN fP prog cs.length cs.length (Jc cs w e) 20 ((frA a).finish (.tuple #[.int .i64 i,.int .i64 e])) cs w:=by
 letI:=fP
 have hn:=bS cs.length
 refine Jb (N:=14) hn hS λa w1 hL b0=>?_
 refine iM (N:=13) hn (mn (N:=12) hn ?_);show TN prog _ _ _ 12 (b20.atR a (.inRegion xm [0,1]::_)) cs _;have g:=hL.at 5
 refine jv (o:=Bx) (t:=15) (.int .i64 e) rfl rfl ae rfl eU hn (λw1 _=>by simp[go_sem,g]) λw2 b2=>?_
 replace hL:=(hL.put (t:=15) af (.int .i64 e) ae);generalize a.put (some 15) (.int .i64 e)=a at hL ⊢;have g:=hL.at 15
 refine jv (o:=By) (t:=16) (.bool true) rfl rfl ae rfl eU hn (λw1 _=>by simp[go_sem,g,he]) λw3 b3=>?_
 replace hL:=(hL.put (t:=16) af (.bool true) ae);generalize a.put (some 16) (.bool true)=a at hL ⊢;have g:=hL.at 16;refine nu hn (Bp (t:=true) hn (by simpa[Act.eval] using g) ?_);simp only[cz];refine iM hn (mn hn ?_);show TN prog _ _ _ 6 (b20.atR a (.inRegion Bz [0,1,2]::_)) cs _;have g:=hL.at 5
 refine jv (o:=GF) (t:=17) (.int .i64 e) rfl rfl ae rfl eU hn (λw1 _=>by simp[go_sem,g]) λw4 b4=>?_
 replace hL:=((hL.sub (l':=[(1,P_ rb),(5,.int .i64 e),(2,.pointer none)]) ae).put (t:=17) af (.int .i64 e) ae);generalize a.put (some 17) (.int .i64 e)=a at hL ⊢
 refine jv (o:=GG) (t:=2) (.pointer none) rfl rfl ae rfl eU hn (λw1 _=>by simp[go_sem]) λw5 b5=>?_
 have g:=hL.at 17;replace hL:=((hL.sub (l':=[(17,.int .i64 e)]) ae).put (t:=2) af (.pointer none) ae);generalize a.put (some 2) (.pointer none)=a at hL ⊢;have g:=hL.at 17
 refine jv (o:=GH) (t:=3) (.int .i64 e) rfl rfl ae rfl eU hn (λw1 _=>by simp[go_sem,g]) λw6 b6=>?_
 replace hL:=((hL.sub (l':=[(2,.pointer none)]) ae).put (t:=3) af (.int .i64 e) ae);generalize a.put (some 3) (.int .i64 e)=a at hL ⊢;refine nu hn (.now ⟨rfl,a,rfl,hL.sub ae,?_⟩);have c2:=b0.trans (b2.mono b0.size);have c3:=c2.trans (b3.mono c2.size);have c4:=c3.trans (b4.mono c3.size);have c5:=c4.trans (b5.mono c4.size);exact c5.trans (b6.mono c5.size)
end
section
variable{rb n de:Nat}{a0 a2 a3 oa:Option Addr}{n0 c0 n2 c2 n3 c3:Nat}{w0:World}
abbrev jD(a0:Option Addr)(n0 c0:Nat)(oa:Option Addr)(n de:Nat)(a2:Option Addr)(n2 c2:Nat)(a3:Option Addr)(n3 c3:Nat):Array Value:=#[.slice a0 n0 c0,.slice oa n de,.slice a2 n2 c2,.slice a3 n3 c3]
def sl4(i:Nat):Nat:=match i with|0=>18|1=>19|2=>20|3=>21|4=>22|5=>23|6=>24|_=>6
def gm(rv:Array Value)(rb n:Nat)(s1:Value)(F xb xv:Nat)(i:Nat):Value:=match i with
 |0=>.agg rv|1=>.pointer (some ⟨rb,1,none⟩)|2=>s1|3=>.int .i64 n|4=>.slice (some ⟨F,0,none⟩) n n|5=>.agg #[rv.getD 0 undef,rv.getD 1 undef,rv.getD 2 undef,rv.getD 3 undef,.slice (some ⟨F,0,none⟩) n n]|6=>P_ xb|_=>P_ xv
theorem jk{L:Array Bool}{i j:Nat}(h:L[i]?=some false):(L.setIfInBounds i true).getD j false=if i=j then true else L.getD j false:=by
 have hi:=(cY.1 h).1;rw[dF,dF,iU]
 grind
structure lT(rv:Array Value)(rb n:Nat)(s1:Value)(w0:World)(F xb xv:Nat)(L:Array Bool)(a:Act)(w:World):Prop where
 base:SlL [(1,P_ rb)] a
 uX:∀j,j<8->L.getD j false=true->a.tmps[sl4 j]?.getD undef=gm rv rb n s1 F xb xv j
 bel:Bel w0.heap.size w0 w
 h4:L.getD 4 false=true->w0.heap.size<=F/\w.heap[F]?=some (.cells (Array.replicate n (.slice none 0 0)) 136)
 h6:L.getD 6 false=true->w0.heap.size<=xb/\w.heap[xb]?=some (.cells #[rv.getD 0 undef,rv.getD 1 undef,rv.getD 2 undef,rv.getD 3 undef,.slice (some ⟨F,0,none⟩) n n] 105)
 h7:L.getD 7 false=true->w0.heap.size<=xv/\w.heap[xv]?=some (.cells #[if L.getD 8 false=true then P_ xb else .pointer none] 92)
theorem mR{w w1:World}{b:Nat}{o:Obj}(h:w.heap[b]?=some o)(e:Bel w.heap.size w w1):w1.heap[b]?=some o:=(e.block _ (cY.1 h).1).trans h
theorem lT.mv{rv:Array Value}{s1:Value}{F xb xv:Nat}{L:Array Bool}{a:Act}{w w1:World}(h:lT rv rb n s1 w0 F xb xv L a w)(e:Bel w.heap.size w w1):lT rv rb n s1 w0 F xb xv L a w1:=
 ⟨h.base,h.uX,h.bel.trans (e.mono h.bel.size),λx=>⟨(h.h4 x).1,mR (h.h4 x).2 e⟩,λx=>⟨(h.h6 x).1,mR (h.h6 x).2 e⟩,λx=>⟨(h.h7 x).1,mR (h.h7 x).2 e⟩⟩
theorem lT.put{rv:Array Value}{s1:Value}{F xb xv F' xb' xv':Nat}{L:Array Bool}{a:Act}{w w':World}{i:Nat}(h:lT rv rb n s1 w0 F xb xv L a w)(hi:i<8)(hl:L[i]?=some false)(a6:∀j,j<8->j≠i->L.getD j false=true->gm rv rb n s1 F' xb' xv' j=gm rv rb n s1 F xb xv j)(hy:Bel w0.heap.size w0 w')(h4:(L.setIfInBounds i true).getD 4 false=true->w0.heap.size<=F'/\w'.heap[F']?=some (.cells (Array.replicate n (.slice none 0 0)) 136))(h6:(L.setIfInBounds i true).getD 6 false=true->w0.heap.size<=xb'/\w'.heap[xb']?=some (.cells #[rv.getD 0 undef,rv.getD 1 undef,rv.getD 2 undef,rv.getD 3 undef,.slice (some ⟨F',0,none⟩) n n] 105))(h7:(L.setIfInBounds i true).getD 7 false=true->w0.heap.size<=xv'/\w'.heap[xv']?=some (.cells #[if (L.setIfInBounds i true).getD 8 false=true then P_ xb' else .pointer none] 92)):lT rv rb n s1 w0 F' xb' xv' (L.setIfInBounds i true) (a.put (some (sl4 i)) (gm rv rb n s1 F' xb' xv' i)) w':=by
 have ag:∀k,k<8->sl4 k<38:=af
 have h1:∀k,k<8->sl4 k≠1:=af
 have jU:∀k,k<8->∀j,j<8->sl4 k=sl4 j->k=j:=af
 refine⟨(h.base.put (ag i hi) _ ak).sub ae,λj hj hL=>?_,hy,h4,h6,h7⟩;rw[lE (by rw[h.base.size];grind)];rw[jk hl] at hL;by_cases e:i=j
 .simp_all
 .rw[bP e] at hL;rw[bP λx=>e (jU i hi j hj x),h.uX j hj hL,a6 j hj (gO e) hL]
theorem lT.pure{rv:Array Value}{s1:Value}{F xb xv:Nat}{L:Array Bool}{a:Act}{w:World}{i:Nat}(h:lT rv rb n s1 w0 F xb xv L a w)(hi:i<8)(hl:L[i]?=some false)(n4:i≠4)(n6:i≠6)(n7:i≠7):lT rv rb n s1 w0 F xb xv (L.setIfInBounds i true) (a.put (some (sl4 i)) (gm rv rb n s1 F xb xv i)) w:=by
 refine h.put hi hl (λ_ _ _ _=>rfl) h.bel (λx=>h.h4 ?_) (λx=>h.h6 ?_) λx=>?_
 .rw[jk hl,bP n4] at x;exact x
 .rw[jk hl,bP n6] at x;exact x
 .rw[jk hl,bP n7] at x;rw[jk hl,bP (by omega:i≠8)];exact h.h7 x
theorem SY(hn:n<=1000)(w:World):(Instr.makeSlice 103 (.int .i64 n) (.int .i64 n)).run prog w=.ok (.slice (some ⟨w.heap.size,0,none⟩) n n) (w.alloc (.cells (Array.replicate n (.slice none 0 0)) 136)):=by
 have h1:¬(24*(n:Int)>281474976710656):=ab
 have h2:¬((n:Int)<0):=ab
 have hb:Tryz.t136.bytes=24:=rfl
 have hw:IntKind.i64.wrap (n:Int)=n:=by rw[IntKind.wrap_i64];omega
 have ha:(Array.range n).map (λ_=>Value.slice none 0 0)=Array.replicate n (.slice none 0 0):=by
  grind
 unfold Instr.makeSlice;by_cases hz:n=0
 .subst hz
  have h0:IntKind.i64.wrap 0=0:=by rw[IntKind.wrap_i64];rfl
  simp[go_sem,newRow,h0,hb]
 .have h3:¬(281474976710656<24*(n:Int)):=ab
  simp[go_sem,newRow,hw,h1,h2,hz,hb,h3];rw[<-ha]
  grind
theorem SZ(F:Nat)(w:World):(Instr.build 105 #[(0,.agg (jD a0 n0 c0 oa n de a2 n2 c2 a3 n3 c3)),(1,.slice (some ⟨F,0,none⟩) n n)]).run prog w=.ok (.agg #[.slice a0 n0 c0,.slice oa n de,.slice a2 n2 c2,.slice a3 n3 c3,.slice (some ⟨F,0,none⟩) n n]) w:=by
 unfold Instr.build;simp[go_sem,Instr.fill]
theorem S1{a:Act}{r:Option Nat}{id:Nat}{Q:Exit->Act->World->Prop}(hn:n<=1000)(h':pP w0 rb (.slice a0 n0 c0) (.slice oa n de) (.slice a2 n2 c2) (.slice a3 n3 c3))(hS:SlL [(1,P_ rb)] a)(hQ:∀a w F xb xv,SlL [(1,P_ rb),(6,P_ xv)] a->Bel w0.heap.size w0 w->w0.heap.size<=F->w0.heap.size<=xb->w0.heap.size<=xv->w.heap[F]?=some (.cells (Array.replicate n (.slice none 0 0)) 136)->w.heap[xb]?=some (.cells #[.slice a0 n0 c0,.slice oa n de,.slice a2 n2 c2,.slice a3 n3 c3,.slice (some ⟨F,0,none⟩) n n] 105)->w.heap[xv]?=some (.cells #[P_ xb] 92)->Q .normal a w):@Code.wpN fP r prog (.region id qH true) (9*1+1+1) Q a w0:=by
 letI:=fP
 let rv:Array Value:=jD a0 n0 c0 oa n de a2 n2 c2 a3 n3 c3
 let s1:Value:=.slice oa n de
 let Inv:Array Bool->Act->World->Prop:=λL a w=>∃F xb xv,lT rv rb n s1 w0 F xb xv L a w
 refine FV (ops:=qH) rfl 1 Inv ?_ ?_ ?_ ?_
 .intro i o ho;have ag:i<9:=(cY.1 ho).1
  obtain rfl|rfl|rfl|rfl|rfl|rfl|rfl|rfl|rfl:i=0\/i=1\/i=2\/i=3\/i=4\/i=5\/i=6\/i=7\/i=8:=by omega
  all_goals
   obtain rfl:=fL ho;simp[Region.binds]
 .intro w1 e1
  have z:∀j,(Array.replicate qH.size false).getD j false=false:=λj=>by
   rw[dF,yK];split<;>rfl
  have zz:∀{j:Nat}{p:Prop},(Array.replicate qH.size false).getD j false=true->p:=λh=>by rw[z] at h;cases h
  exact⟨0,0,0,lT.mk hS (λj _ h=>zz h) (Bel.mk e1.os e1.output e1.size e1.block) (λh=>zz h) (λh=>zz h) (λh=>zz h)⟩
 .intro L a w hL h;obtain⟨F,xb,xv,h⟩:=h;obtain⟨f1,f2⟩:=h.h4 (hL 4 af);obtain⟨b1,b2⟩:=h.h6 (hL 6 af);obtain⟨v1,v2⟩:=h.h7 (hL 7 af);rw[b8 (hL 8 af)] at v2;refine hQ a w F xb xv ⟨h.base.size,h.base.defers,λp hp=>?_⟩ h.bel f1 b1 v1 f2 b2 v2;simp only[dM,m9,or_false] at hp
  rcases hp with rfl|rfl
  .exact h.base.at 1
  .exact h.uX 7 af (hL 7 af)
 .intro i o ho;have ag:i<9:=(cY.1 ho).1
  have run:∀(L:Array Bool)(a:Act)(w:World),Inv L a w->L[i]?=some false->(∀e∈o.after,Region.binds .any e=true->L.getD e.on false=true)->Closed qH L ->
   ∃X w',(execOp a.eval o).run prog w=.ok X w'/\((∃v,X=.value v/\Inv (L.setIfInBounds i true) (a.put o.dst v) w')\/(X=.skip/\Inv (L.setIfInBounds i true) (a.put o.dst undef) w')):=by
   intro L a w hI hl he hc;obtain⟨F,xb,xv,h⟩:=hI;have hh:=h'.mv h.bel;have t1:=h.base.at 1 (v:=P_ rb);have sl:∀j,j<8->L.getD j false=true->a.tmps[sl4 j]?.getD undef=gm rv rb n s1 F xb xv j:=h.uX
   obtain rfl|rfl|rfl|rfl|rfl|rfl|rfl|rfl|rfl:i=0\/i=1\/i=2\/i=3\/i=4\/i=5\/i=6\/i=7\/i=8:=by omega
   all_goals obtain rfl:=fL ho
   .have z0:=gi (k:=0) hh rfl;have z1:=gi (k:=1) hh rfl;have z2:=gi (k:=2) hh rfl;have z3:=gi (k:=3) hh rfl;refine⟨.value (gm rv rb n s1 F xb xv 0),w,?_,.inl ⟨_,rfl,F,xb,xv,h.pure (i:=0) af hl af af af⟩⟩;simp[go_sem,t1,P_,z0,z1,z2,z3,gm,rv]
   .refine⟨.value (gm rv rb n s1 F xb xv 1),w,?_,.inl ⟨_,rfl,F,xb,xv,h.pure (i:=1) af hl af af af⟩⟩;simp[go_sem,t1,P_,gm,rv]
   .have z1:=gi (k:=1) hh rfl;have t:=sl 1 af (he ⟨1,.data⟩ ae rfl);simp only[sl4,gm] at t;refine⟨.value (gm rv rb n s1 F xb xv 2),w,?_,.inl ⟨_,rfl,F,xb,xv,h.pure (i:=2) af hl af af af⟩⟩;simp[go_sem,t,P_,z1,gm,rv,s1]
   .have t:=sl 2 af (he ⟨2,.data⟩ ae rfl);simp only[sl4,gm,s1] at t;refine⟨.value (gm rv rb n s1 F xb xv 3),w,?_,.inl ⟨_,rfl,F,xb,xv,h.pure (i:=3) af hl af af af⟩⟩;simp[go_sem,t,P_,gm,rv,s1]
   .have t:=sl 3 af (he ⟨3,.data⟩ ae rfl);simp only[sl4,gm,s1] at t
    have h9:(execOp a.eval GJ).run prog w=.ok (.value (.slice (some ⟨w.heap.size,0,none⟩) n n)) (w.alloc (.cells (Array.replicate n (.slice none 0 0)) 136)):=by
     simp[go_sem,t,SY hn]
    refine⟨_,_,h9,.inl ⟨_,rfl,w.heap.size,xb,xv,h.put (i:=4) (w':=w.alloc _) (F':=w.heap.size) af hl ?_ (h.bel.alloc h.bel.size _) ?_ ?_ ?_⟩⟩
    .intro j hj ax hLj
     obtain rfl|rfl|rfl|rfl|rfl|rfl|rfl|rfl:j=0\/j=1\/j=2\/j=3\/j=4\/j=5\/j=6\/j=7:=by omega
     .rfl
     .rfl
     .rfl
     .rfl
     .trivial
     .have:=hc 5 _ rfl hLj ⟨4,.data⟩ ae rfl;rw[dF,hl] at this;cases this
     .rfl
     .rfl
    .intro _;refine⟨h.bel.size,?_⟩;show (w.heap.push _)[w.heap.size]?=_;simp
    .intro x;rw[jk hl,bP af] at x;have h5:=hc 6 _ rfl x ⟨5,.data⟩ ae rfl;have:=hc 5 _ rfl h5 ⟨4,.data⟩ ae rfl;rw[dF,hl] at this;cases this
    .intro x;rw[jk hl,bP af] at x;rw[show (L.setIfInBounds 4 true).getD 8 false=L.getD 8 false from by rw[jk hl,bP af]];obtain⟨q1,q2⟩:=h.h7 x;exact⟨q1,mR q2 ((Bel.refl _ _).alloc (bS _) _)⟩
   .have ta:=sl 0 af (he ⟨0,.data⟩ ae rfl);have tb:=sl 4 af (he ⟨4,.data⟩ ae rfl);simp only[sl4,gm,s1] at ta tb;refine⟨.value (gm rv rb n s1 F xb xv 5),w,?_,.inl ⟨_,rfl,F,xb,xv,h.pure (i:=5) af hl af af af⟩⟩;simp only[rv] at ta;simp[go_sem,ta,tb,P_,gm,SZ,rv]
   .have t:=sl 5 af (he ⟨5,.data⟩ ae rfl);simp only[sl4,gm,s1] at t
    have h9:(execOp a.eval GK).run prog w=.ok (.value (P_ w.heap.size)) (w.alloc (.cells #[.slice a0 n0 c0,.slice oa n de,.slice a2 n2 c2,.slice a3 n3 c3,.slice (some ⟨F,0,none⟩) n n] 105)):=by
     simp[go_sem,t,P_,rv]
    refine⟨_,_,h9,.inl ⟨_,rfl,F,w.heap.size,xv,h.put (i:=6) (w':=w.alloc _) (xb':=w.heap.size) af hl ?_ (h.bel.alloc h.bel.size _) ?_ ?_ ?_⟩⟩
    .intro j hj ax hLj
     obtain rfl|rfl|rfl|rfl|rfl|rfl|rfl|rfl:j=0\/j=1\/j=2\/j=3\/j=4\/j=5\/j=6\/j=7:=by omega
     .rfl
     .rfl
     .rfl
     .rfl
     .rfl
     .rfl
     .trivial
     .rfl
    .intro x;rw[jk hl,bP af] at x;obtain⟨q1,q2⟩:=h.h4 x;exact⟨q1,mR q2 ((Bel.refl _ _).alloc (bS _) _)⟩
    .intro _;refine⟨h.bel.size,?_⟩;show (w.heap.push _)[w.heap.size]?=_;simp[rv]
    .intro x;rw[jk hl,bP af] at x;obtain⟨q1,q2⟩:=h.h7 x
     have n8:¬L.getD 8 false=true:=λx=>by
      have:=hc 8 _ rfl x ⟨6,.data⟩ ae rfl;rw[dF,hl] at this;cases this
     rw[bP n8] at q2;rw[jk hl,bP (by decide:¬(6=8)),bP n8];exact⟨q1,mR q2 ((Bel.refl _ _).alloc (bS _) _)⟩
   .have h9:(execOp a.eval GM).run prog w=.ok (.value (P_ w.heap.size)) (w.alloc (.cells #[.pointer none] 92)):=by
     rfl
    refine⟨_,_,h9,.inl ⟨_,rfl,F,xb,w.heap.size,h.put (i:=7) (w':=w.alloc _) (xv':=w.heap.size) af hl ?_ (h.bel.alloc h.bel.size _) ?_ ?_ ?_⟩⟩
    .intro j hj ax hLj
     obtain rfl|rfl|rfl|rfl|rfl|rfl|rfl|rfl:j=0\/j=1\/j=2\/j=3\/j=4\/j=5\/j=6\/j=7:=by omega
     .rfl
     .rfl
     .rfl
     .rfl
     .rfl
     .rfl
     .rfl
     trivial
    .intro x;rw[jk hl,bP af] at x;obtain⟨q1,q2⟩:=h.h4 x;exact⟨q1,mR q2 ((Bel.refl _ _).alloc (bS _) _)⟩
    .intro x;rw[jk hl,bP af] at x;obtain⟨q1,q2⟩:=h.h6 x;exact⟨q1,mR q2 ((Bel.refl _ _).alloc (bS _) _)⟩
    .intro _
     have n8:¬L.getD 8 false=true:=λx=>by
      have:=hc 8 _ rfl x ⟨7,.data⟩ ae rfl;rw[dF,hl] at this;cases this
     rw[jk hl,bP (by decide:¬(7=8)),bP n8];refine⟨h.bel.size,?_⟩;show (w.heap.push _)[w.heap.size]?=_;simp
   .have d7:=he ⟨7,.data⟩ ae rfl;have d6:=he ⟨6,.data⟩ ae rfl;have ta:=sl 7 af d7;have tb:=sl 6 af d6;simp only[sl4,gm,P_] at ta tb;have h7:=h.h7 d7;have h6:=h.h6 d6
    have n8:¬L.getD 8 false=true:=λx=>by
     rw[dF,hl] at x;cases x
    rw[bP n8] at h7;have zx:=gi (k:=0) h7.2 rfl
    have hx:xv≠xb:=λe=>by
     have a5:=h7.2;rw[e,h6.2] at a5;simp at a5
    have ay:w.frozen? ⟨xv,0,none⟩=false:=by simp[World.frozen?,h7.2]
    have h9:(execOp a.eval GN).run prog w=.ok .skip (w.setCell ⟨xv,0,none⟩ (P_ xb)):=by
     simp[go_sem,ta,tb,zx,P_,ay]
    have a':∀b,b≠xv->(w.setCell ⟨xv,0,none⟩ (P_ xb)).heap[b]?=w.heap[b]?:=λb hb=>by
     simp[World.setCell,fu,gO hb]
    have hV:(w.setCell ⟨xv,0,none⟩ (P_ xb)).heap[xv]?=some (.cells #[P_ xb] 92):=by
     simp[World.setCell,fu,h7.2]
    have hy:Bel w0.heap.size w0 (w.setCell ⟨xv,0,none⟩ (P_ xb)):=h.bel.setCell h7.1 _;refine⟨_,_,h9,.inr ⟨rfl,F,xb,xv,?_⟩⟩;generalize w.setCell ⟨xv,0,none⟩ (P_ xb)=w' at a' hV hy
    refine lT.mk h.base (λj hj hLj=>?_) hy (λx=>?_) (λx=>?_) λx=>?_
    .rw[jk hl,bP ab] at hLj;exact h.uX j hj hLj
    .rw[jk hl,bP af] at x;obtain⟨q1,q2⟩:=h.h4 x;refine⟨q1,(a' F λe=>?_).trans q2⟩;have a5:=h7.2;rw[<-e,q2] at a5;simp at a5
    .exact⟨h6.1,(a' xb (gO hx)).trans h6.2⟩
    split<;>simp_all
  intro L a w hI hl he hc rest N k
  have hg:Region.wanted o (yielded qH a.tmps)=true/\∀c,o.op≠.defer c:=by
   obtain rfl|rfl|rfl|rfl|rfl|rfl|rfl|rfl|rfl:i=0\/i=1\/i=2\/i=3\/i=4\/i=5\/i=6\/i=7\/i=8:=by omega
   all_goals
    obtain rfl:=fL ho;exact⟨rfl,aB⟩
  refine dD ho hg.1 hg.2 λw1 e1=>⟨λ_=>trivial,?_⟩
  obtain⟨F,xb,xv,h⟩:=hI;obtain⟨X,w',hr,⟨v,rfl,a9⟩|⟨rfl,a9⟩⟩:=run L a w1 ⟨F,xb,xv,h.mv e1⟩ hl he hc
  .rw[hr];exact k _ _ a9
  .rw[hr];exact k _ _ a9
end
end Go.Proofs.Tw
namespace Go.Proofs.Tw
open Go Go.Fi Go.Fc Go.Conc Go.RowKit
open Go.ConcN (PayAt Has RW WgLive AtR0)
section
variable{cs:List Frame}{w:World}{rb n de:Nat}{a0 a2 a3 oa:Option Addr}{n0 c0 n2 c2 n3 c3:Nat}{i:Int}
structure uY(rv:Array Value)(n:Nat)(lo F xb xv:Nat)(w:World):Prop where
 f1:lo<=F
 b1:lo<=xb
 v1:lo<=xv
 f2:w.heap[F]?=some (.cells (Array.replicate n (.slice none 0 0)) 136)
 b2:w.heap[xb]?=some (.cells #[rv.getD 0 undef,rv.getD 1 undef,rv.getD 2 undef,rv.getD 3 undef,.slice (some ⟨F,0,none⟩) n n] 105)
 v2:w.heap[xv]?=some (.cells #[P_ xb] 92)
theorem uY.mv{rv:Array Value}{n lo F xb xv:Nat}{w w1:World}(h:uY rv n lo F xb xv w)(e:Bel w.heap.size w w1):uY rv n lo F xb xv w1:=⟨h.f1,h.b1,h.v1,mR h.f2 e,mR h.b2 e,mR h.v2 e⟩
def Jd(cs:List Frame)(w0:World)(rv:Array Value)(rb n:Nat)(fr:Frame)(cs':List Frame)(w:World):Prop:=
 cs'=cs/\∃a F xb xv,fr=De a/\SlL [(1,P_ rb),(6,P_ xv)] a/\Bel w0.heap.size w0 w/\uY rv n w0.heap.size F xb xv w
theorem S3{a:Act}(ao:n<=1000)(h':pP w rb (.slice a0 n0 c0) (.slice oa n de) (.slice a2 n2 c2) (.slice a3 n3 c3))(hS:SlS (ups (SA rb) 11 (.agg (jD a0 n0 c0 oa n de a2 n2 c2 a3 n3 c3))) a):@TN fP prog cs.length cs.length (Jd cs w (jD a0 n0 c0 oa n de a2 n2 c2 a3 n3 c3) rb n) 40 ((frA a).finish (.tuple #[.int .i64 i,.int .i64 0])) cs w:=by
 letI:=fP
 have hn:=bS cs.length
 refine Jb (N:=34) hn hS λa w1 hL b0=>?_
 refine iM (N:=33) hn (mn (N:=32) hn ?_);show TN prog _ _ _ 32 (b20.atR a (.inRegion xm [0,1]::_)) cs _;have g:=hL.at 5
 refine jv (o:=Bx) (t:=15) (.int .i64 0) rfl rfl ae rfl eU hn (λw1 _=>by simp[go_sem,g]) λw2 b2=>?_
 replace hL:=(hL.put (t:=15) af (.int .i64 0) ae);generalize a.put (some 15) (.int .i64 0)=a at hL ⊢;have g:=hL.at 15
 refine jv (o:=By) (t:=16) (.bool false) rfl rfl ae rfl eU hn (λw1 _=>by simp[go_sem,g]) λw3 b3=>?_
 replace hL:=(hL.put (t:=16) af (.bool false) ae);generalize a.put (some 16) (.bool false)=a at hL ⊢;have g:=hL.at 16;refine nu hn (Bp (t:=false) hn (by simpa[Act.eval] using g) ?_);simp only[dz,cT];have d2:=b0.trans (b2.mono b0.size);have d3:=d2.trans (b3.mono d2.size);refine Gr hn (iM (N:=26) hn ?_);have aq:=h'.mv d3;replace hL:=hL.sub (l':=[(1,P_ rb)]) ae;clear g b0 b2 b3 d2 h' hS
 let Q:Exit->Act->World->Prop:=λe a w'=>e=.normal/\∃F xb xv,SlL [(1,P_ rb),(6,P_ xv)] a/\Bel w3.heap.size w3 w'/\uY (jD a0 n0 c0 oa n de a2 n2 c2 a3 n3 c3) n w3.heap.size F xb xv w'
 refine xi (N:=15) (M:=11) (Q:=Q) (S1 ao aq hL λa w F xb xv h1 h2 h3 h4 h5 h6 h7 h8=>⟨rfl,F,xb,xv,h1,h2,⟨h3,h4,h5,h6,h7,h8⟩⟩) eU (λe a w h=>h.1) λa w4 hq=>?_
 obtain⟨_,F,xb,xv,h1,h2,h3⟩:=hq;refine iM hn (mn hn (.now ⟨rfl,a,F,xb,xv,rfl,h1,d3.trans (h2.mono d3.size),?_⟩));exact⟨dJ d3.size h3.f1,dJ d3.size h3.b1,dJ d3.size h3.v1,h3.f2,h3.b2,h3.v2⟩
end
end Go.Proofs.Tw
namespace Go.Proofs.Tw
open Go Go.Fi Go.Fc Go.Conc Go.RowKit
open Go.ConcR (WgAt wgBlock)
theorem Of:(Tryz.f55.name == "runtime.NumGoroutine")=false:=aj
theorem Og:Tryz.f55.body.isNone=false:=aj
theorem S4{a:Act}{rv:Array Value}{base:List Frame}(hS:a.tmps[11]?.getD undef=.agg rv)(B:World):stepG Tryz.prog true (G (frA a) base) B=.go (G (Frame.enter Tryz.prog 55 #[.agg rv] .normal) (frA a::base)) B #[]:=by
 have hm:#[Operand.tmp 11].map a.eval=#[.agg rv]:=by simp[Act.eval,hS]
 have e:=stepG_enter (P:=Tryz.prog) (main:=true) (b:=b20) (a:=a) (k:=[.code cZ,.code cR4]) (cs:=base) (w:=B) (o:=Bw) (ops:=qG) (i:=1) (rest:=[2,3,4,5,6]) rfl rfl eU (run_call_body (f:=55) rfl Tryz.func55 Of Og)
 have hl:listed Tryz.prog b20.fn a Bw B=#[]:=by rfl
 rw[hl,hm] at e;exact e
def frC(a:Act):Frame:=b20.atR a [.inRegion BA [],.code c6]
def frF(a:Act):Frame:=b20.atR a [.inRegion o9 [],.code .ret]
theorem Je:Tryz.f69.results=#[.tmp 2,.tmp 3]:=rfl
theorem S5{a:Act}{todo:List Item}{c:Frame}{cs:List Frame}{v2 v3:Value}(hd:a.defers=[])(h2:a.tmps[2]?.getD undef=v2)(h3:a.tmps[3]?.getD undef=v3)(w:World):stepG Tryz.prog true (G { b20.at a todo with mode:=.returning } (c::cs)) w=.go (G (c.finish (.tuple #[v2,v3])) cs) w #[]:=by
 refine stepG_leave (fn:=Tryz.f69) rfl hd Tryz.func69 ?_ (events_results_tmp2 Je _ _);simp[results,Je,h2,h3]
theorem S6{a:Act}{k:List Item}{cs:List Frame}(w:World):stepG Tryz.prog true (G (b20.atR a (.code .ret::k)) cs) w=.go (G { b20.at a (.code .ret::k) with mode:=.returning } cs) w #[]:=stepG_ret' (b:=b20)
theorem S7{a:Act}{k:List Item}{ops:Array Oper}{cs:List Frame}(w:World):stepG Tryz.prog true (G (b20.atR a (.inRegion ops []::k)) cs) w=.go (G (b20.atR a k) cs) w #[]:=vO
section
variable{o:OD}{cs:List Frame}{w:World}
theorem S8{a:Act}(ao:o.os.length<=1000)(hS:SlL [(1,P_ o.rb),(6,P_ o.xv),(7,P_ o.wg)] a)(hK:iE o w):@TN (cQ o.lo0 o.F o.os.length) prog cs.length cs.length (λfr' cs' w'=>cs'=cs/\if 0<o.os.length then I1o o 0 fr' w' else I3o o fr' w') 50 (frC a) cs w:=by
 letI:=cQ o.lo0 o.F o.os.length
 have hn:=bS cs.length;unfold frC;refine nu (N:=49) hn (iM (N:=48) hn (iM (N:=47) hn (mn (N:=46) hn ?_)));show TN prog _ _ _ 46 (b20.atR a (.inRegion Ga [0,1,2,3]::_)) cs _;have g:=hS.at 1
 refine nP (N:=45) (o:=AW) rfl rfl ae eU hn λw1 e=>⟨λf ev a4=>?_,?_⟩
 .have hm:=mem_listed a4;simp[go_sem,g,P_] at hm
 replace hK:=hK.mv e
 have hr:(execOp a.eval AW).run prog w1=.ok (.value (.pointer (some ⟨o.rb,1,none⟩))) w1:=by simp[go_sem,g,P_]
 rw[hr];simp only[Oper.fC];replace hS:=hS.put (t:=25) af (.pointer (some ⟨o.rb,1,none⟩)) ae;generalize a.put (some 25) (.pointer (some ⟨o.rb,1,none⟩))=a at hS ⊢;clear hr e g;have g:=hS.at 25
 refine nP (N:=44) (o:=AX) rfl rfl ae eU hn λw2 e=>⟨λf ev a4=>?_,?_⟩
 .replace hK:=hK.mv e;have c1:=hK.Da;have hm:=mem_listed a4;simp[go_sem,g,c1] at hm;subst hm;exact qB (λe=>absurd e hK.apart.1)
 replace hK:=hK.mv e;have c1:=hK.Da
 have hr:(execOp a.eval AX).run prog w2=.ok (.value (.slice o.oa o.os.length o.de)) w2:=by simp[go_sem,g,c1]
 rw[hr];simp only[Oper.fC];replace hS:=hS.put (t:=26) af (.slice o.oa o.os.length o.de) ae;generalize a.put (some 26) (.slice o.oa o.os.length o.de)=a at hS ⊢;clear hr e g;have g:=hS.at 26
 refine nP (N:=43) (o:=AY) rfl rfl ae eU hn λw3 e=>⟨λf ev a4=>?_,?_⟩
 .have hm:=mem_listed a4;simp[go_sem,g] at hm
 replace hK:=hK.mv e
 have hr:(execOp a.eval AY).run prog w3=.ok (.value (.int .i64 o.os.length)) w3:=by simp[go_sem,g]
 rw[hr];simp only[Oper.fC];replace hS:=hS.put (t:=27) af (.int .i64 o.os.length) ae;generalize a.put (some 27) (.int .i64 o.os.length)=a at hS ⊢;clear hr e g
 refine nP (N:=42) (o:=AZ) rfl rfl ae eU hn λw4 e=>⟨λf ev a4=>?_,?_⟩
 .have hm:=mem_listed a4;simp[go_sem] at hm
 replace hK:=hK.mv e
 have hr:(execOp a.eval AZ).run prog w4=.ok (.value (.int .i64 0)) w4:=by simp[go_sem]
 rw[hr];simp only[Oper.fC];replace hS:=hS.put (t:=28) af (.int .i64 0) ae;generalize a.put (some 28) (.int .i64 0)=a at hS ⊢;refine nu hn (Gs hn (NN hn ?_));refine (Gt (cs:=cs) (lo:=o.lo0) (j:=0) ao (cG _) (bS _) hK.size ⟨hS.size,hS.defers,λt v ht=>?_⟩ hK).more af;unfold S20 at ht;split at ht
 all_goals first
  |(cases ht;done)
  |(obtain rfl:=fL ht;exact hS.at _)
def Jf(cs:List Frame)(w0:World)(xb:Nat)(fr:Frame)(cs':List Frame)(w:World):Prop:=
 cs'=cs/\∃a,fr=frF a/\SlL [(2,P_ xb),(3,.int .i64 0)] a/\Bel w0.heap.size w0 w
theorem Ta{a:Act}{xb xv:Nat}(hS:SlL [(6,P_ xv)] a)(hx:w.cell? ⟨xv,0,none⟩=some (P_ xb)):@TN fP prog cs.length cs.length (Jf cs w xb) 10 (b20.atR a [.inRegion qD [],.code (.seq (.region 13 o9 false) .ret)]) cs w:=by
 letI:=fP
 have hn:=bS cs.length;refine nu (N:=9) hn (iM (N:=8) hn (mn (N:=7) hn ?_));show TN prog _ _ _ 7 (b20.atR a (.inRegion o9 [0,1,2]::_)) cs _;have g:=hS.at 6
 refine jv (o:=Ge) (t:=37) (P_ xb) rfl rfl ae rfl eU hn (λw1 e=>?_) λw2 b2=>?_
 .have:=e.cellAt hx;simp[go_sem,g,P_,this]
 replace hS:=hS.put (t:=37) af (P_ xb) ae;generalize a.put (some 37) (P_ xb)=a at hS ⊢;have g:=hS.at 37
 refine jv (o:=Gf) (t:=2) (P_ xb) rfl rfl ae rfl eU hn (λw1 e=>by simp[go_sem,g]) λw3 b3=>?_
 replace hS:=hS.put (t:=2) af (P_ xb) ae;generalize a.put (some 2) (P_ xb)=a at hS ⊢
 refine jv (o:=Gg) (t:=3) (.int .i64 0) rfl rfl ae rfl eU hn (λw1 e=>by simp[go_sem]) λw4 b4=>?_
 replace hS:=hS.put (t:=3) af (.int .i64 0) ae;generalize a.put (some 3) (.int .i64 0)=a at hS ⊢;have c2:=b2.trans (b3.mono b2.size);exact .now ⟨rfl,a,rfl,hS.sub ae,c2.trans (b4.mono c2.size)⟩
end
end Go.Proofs.Tw
