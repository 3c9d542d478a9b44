/- Lemmas. -/
import Derived.Test.YthpkmilhiganjaaGreatPWd
import Derived.Test.YthpkmilhiganjaaGreatPNd
import Derived.Test.YthpkmilhiganjaaGreatPMe
set_option linter.all false
set_option maxHeartbeats 32000000
set_option maxRecDepth 100000
namespace Go.Proofs.Tw
open Go Go.Fi Go.Fc Go.Conc Go.RowKit
abbrev Ac:Oper:=⟨some 1,(.box 27 (.tmp 0)),0, "dispatch.go:111",#[],none⟩
abbrev Ad:Oper:=⟨some 2,(.assign (.const (.pointer none))),92, "dispatch.go:111",#[],none⟩
abbrev Ae:Oper:=⟨some 3,(.assign (.const (.int .i64 0))),33, "dispatch.go:111",#[⟨1,.chain⟩],none⟩
abbrev vN:Array Oper:=#[Ac,Ad,Ae]
abbrev Af:Oper:=⟨some 11,(.load 27 (.tmp 1)),27, "dispatch.go:112",#[],none⟩
abbrev Ag:Oper:=⟨some 12,(.call ⟨(.value (.func 55)),#[(.tmp 11)],#[27]⟩),34, "dispatch.go:112",#[⟨0,.data⟩],none⟩
abbrev Fb:Oper:=⟨some 10,(.move (.tmp 12)),34, "dispatch.go:112",#[⟨1,.data⟩],none⟩
abbrev Fe:Oper:=⟨some 13,(.extract (.tmp 10) 0),3, "dispatch.go:112",#[⟨2,.data⟩],none⟩
abbrev Ff:Oper:=⟨some 14,(.extract (.tmp 10) 1),33, "dispatch.go:112",#[⟨2,.data⟩,{ on:=5,ground:=(.gcOnly Go.Departure.lateStores)}],none⟩
abbrev Fg:Oper:=⟨some 4,(.assign (.tmp 13)),3, "dispatch.go:112",#[⟨3,.data⟩,⟨1,.chain⟩,⟨0,.phase⟩,⟨1,.phase⟩,⟨2,.phase⟩,⟨3,.phase⟩,{ on:=4,ground:=(.textOnly Go.Departure.lateStores)}],none⟩
abbrev Fh:Oper:=⟨some 5,(.assign (.tmp 14)),33, "dispatch.go:112",#[⟨4,.data⟩,⟨5,.chain⟩,⟨0,.phase⟩,⟨1,.phase⟩,⟨2,.phase⟩,⟨3,.phase⟩,⟨4,.phase⟩,⟨5,.phase⟩],none⟩
abbrev pA:Array Oper:=#[Af,Ag,Fb,Fe,Ff,Fg,Fh]
abbrev Ah:Oper:=⟨some 15,(.move (.tmp 5)),33, "dispatch.go:112",#[],none⟩
abbrev Aj:Oper:=⟨some 16,(.binOp .neq 33 (.tmp 15) (.const (.int .i64 0)) 33),4, "dispatch.go:112",#[⟨0,.data⟩],none⟩
abbrev vO:Array Oper:=#[Ah,Aj]
abbrev Fj:Oper:=⟨some 17,(.move (.tmp 5)),33, "dispatch.go:113",#[{ on:=1,ground:=(.gcOnly Go.Departure.lateStores)}],none⟩
abbrev Fl:Oper:=⟨some 2,(.assign (.const (.pointer none))),92, "dispatch.go:113",#[{ on:=0,ground:=(.textOnly Go.Departure.lateStores)}],none⟩
abbrev Fo:Oper:=⟨some 3,(.assign (.tmp 17)),33, "dispatch.go:113",#[⟨0,.data⟩,⟨1,.chain⟩,⟨0,.phase⟩,⟨1,.phase⟩],none⟩
abbrev Al:Array Oper:=#[Fj,Fl,Fo]
abbrev Mu:Oper:=⟨some 18,(.load 27 (.tmp 1)),27, "dispatch.go:115",#[],none⟩
abbrev Mv:Oper:=⟨some 19,(.fieldAddr 27 (.tmp 1) 1),0, "dispatch.go:115",#[],none⟩
abbrev Mw:Oper:=⟨some 20,(.load 23 (.tmp 19)),23, "dispatch.go:115",#[⟨1,.data⟩],none⟩
abbrev Mx:Oper:=⟨some 21,(.call ⟨(.builtin .len),#[(.tmp 20)],#[23]⟩),3, "dispatch.go:115",#[⟨2,.data⟩],none⟩
abbrev Fp:Oper:=⟨some 22,(.makeSlice 103 (.tmp 21) (.tmp 21)),103, "dispatch.go:115",#[⟨3,.data⟩,⟨3,.data⟩],none⟩
abbrev My:Oper:=⟨some 23,(.build 105 #[(0,(.tmp 18)),(1,(.tmp 22))]),105, "dispatch.go:115",#[⟨0,.data⟩,⟨4,.data⟩],none⟩
abbrev Fq:Oper:=⟨some 24,(.box 105 (.tmp 23)),92, "dispatch.go:115",#[⟨5,.data⟩],none⟩
abbrev Fs:Oper:=⟨some 6,(.alloc 92),0, "dispatch.go:115",#[],none⟩
abbrev Ft:Oper:=⟨none,(.store 92 (.tmp 6) (.tmp 24)),0, "dispatch.go:115",#[⟨7,.data⟩,⟨6,.data⟩,⟨0,.phase⟩,⟨1,.phase⟩,⟨2,.phase⟩,⟨3,.phase⟩,⟨4,.phase⟩,⟨5,.phase⟩,⟨6,.phase⟩,⟨7,.phase⟩],none⟩
abbrev pB:Array Oper:=#[Mu,Mv,Mw,Mx,Fp,My,Fq,Fs,Ft]
abbrev Mz:Oper:=⟨some 7,(.alloc 147),0, "dispatch.go:116",#[],none⟩
abbrev Am:Array Oper:=#[Mz]
theorem wP:@j3 xfW eU prog Tryz.prog wM:=by
 letI:=xfW
 letI:=eU
 exact⟨Hx,λf h=>h,λf hb args cs w g' w' es=>sG hb args cs w g' w' es,λw t d=>⟨rfl,rfl,aD _,λ_ _=>rfl⟩,λf h=>EY h⟩
abbrev c6:Code:=.seq (.seq (.region 6 DJ false) (.block 0 (.loop cLB))) cW
abbrev cR4:Code:=.seq (.region 4 pB true) (.seq (.region 5 Am false) c6)
abbrev cZ:Code:=.seq (.region 2 vO false) (.cond (.tmp 16) (.seq (.region 3 Al false) .ret) .skip)
theorem MA:Tryz.f69.body=some (.seq (.region 0 vN false) (.seq (.seq (.region 1 pA false) cZ) cR4)):=rfl
def frA(a:Act):Frame:=b20.atR a [.inRegion pA [1,2,3,4,5,6],.code cZ,.code cR4]
def HG(a:Act):Frame:=b20.atR a [.code .ret,.code cR4]
def BT(a:Act):Frame:=b20.atR a [.inRegion Am [0],.code c6]
def oN(w:World)(rb:Nat)(s0 s1 s2 s3:Value):Prop:=w.heap[rb]?=some (.cells #[s0,s1,s2,s3] 27)
theorem oN.mv{w w1:World}{rb:Nat}{s0 s1 s2 s3:Value}(h:oN w rb s0 s1 s2 s3)(e:Bel w.heap.size w w1):oN w1 rb s0 s1 s2 s3:=(e.block _ (a8.1 h).1).trans h
def wQ(v:Value):Prop:=∃a n c,v=.slice a n c
abbrev SA(rb:Nat):Nat->Option Value:=λt=>match t with|1=>some (P_ rb)|2=>some (.pointer none)|3=>some (.int .i64 0)|_=>none
section
variable{cs:List Frame}{w0 w:World}{s0 s1 s2 s3:Value}{rb:Nat}
def HH(cs:List Frame)(w0:World)(s0 s1 s2 s3:Value)(fr:Frame)(cs':List Frame)(w:World):Prop:=
 cs'=cs/\∃a rb,fr=frA a/\SlS (ups (SA rb) 11 (.agg #[s0,s1,s2,s3])) a/\oN w rb s0 s1 s2 s3/\Bel w0.heap.size w0 w/\w0.heap.size<=rb
theorem Q9{a:Act}(h0:wQ s0)(h1:wQ s1)(h2:wQ s2)(h3:wQ s3)(hS:SlS (λt=>if t=0 then some (.agg #[s0,s1,s2,s3]) else none) a):@TN eU prog cs.length cs.length (HH cs w0 s0 s1 s2 s3) 20 (b20.atR a [.code (.seq (.region 0 vN false) (.seq (.seq (.region 1 pA false) cZ) cR4))]) cs w0:=by
 letI:=eU
 obtain⟨a0,n0,c0,rfl⟩:=h0;obtain⟨a1,n1,c1,rfl⟩:=h1;obtain⟨a2,n2,c2,rfl⟩:=h2;obtain⟨a3,n3,c3,rfl⟩:=h3;have hle:=aD cs.length;refine gK (N:=19) hle (kE (N:=18) hle ?_);show TN prog _ _ _ 18 (b20.atR _ (.inRegion vN [0,1,2]::_)) cs w0;have t0:=hS.get 0 _ rfl
 refine mj (N:=17) (o:=Ac) rfl rfl (by intro c h;cases h) dg hle λw e=>⟨λ_=>trivial,?_⟩
 have hr:(execOp a.eval Ac).run prog w=.ok (.value (P_ w.heap.size)) (w.alloc (.cells #[.slice a0 n0 c0,.slice a1 n1 c1,.slice a2 n2 c2,.slice a3 n3 c3] 27)):=by
  simp[go_sem,t0,P_]
 rw[hr]
 have h':oN (w.alloc (.cells #[.slice a0 n0 c0,.slice a1 n1 c1,.slice a2 n2 c2,.slice a3 n3 c3] 27)) w.heap.size (.slice a0 n0 c0) (.slice a1 n1 c1) (.slice a2 n2 c2) (.slice a3 n3 c3):=by
  show (w.heap.push _)[w.heap.size]?=_;simp
 have hb:Bel w0.heap.size w0 (w.alloc (.cells #[.slice a0 n0 c0,.slice a1 n1 c1,.slice a2 n2 c2,.slice a3 n3 c3] 27)):=e.alloc (b7 (aD _) e.size) _;have aq:w0.heap.size<=w.heap.size:=e.size;show TN prog _ _ _ 17 (b20.atR (a.put (some 1) (P_ w.heap.size)) _) cs _;replace hS:=hS.put (t:=1) (by decide) (P_ w.heap.size);generalize a.put (some 1) (P_ w.heap.size)=a at hS ⊢;generalize w.heap.size=rb at hS h' aq ⊢;generalize w.alloc (.cells #[.slice a0 n0 c0,.slice a1 n1 c1,.slice a2 n2 c2,.slice a3 n3 c3] 27)=w at h' hb ⊢;clear hr e t0
 refine mj (N:=16) (o:=Ad) rfl rfl (by intro c h;cases h) dg hle λw e=>⟨λ_=>trivial,?_⟩
 replace h':=h'.mv e;replace hb:=hb.trans (e.mono hb.size)
 have hr:(execOp a.eval Ad).run prog w=.ok (.value (.pointer none)) w:=by simp[go_sem]
 rw[hr];show TN prog _ _ _ 16 (b20.atR (a.put (some 2) (.pointer none)) _) cs _;replace hS:=hS.put (t:=2) (by decide) (.pointer none);generalize a.put (some 2) (.pointer none)=a at hS ⊢;clear hr e
 refine mj (N:=15) (o:=Ae) rfl rfl (by intro c h;cases h) dg hle λw e=>⟨λ_=>trivial,?_⟩
 replace h':=h'.mv e;replace hb:=hb.trans (e.mono hb.size)
 have hr:(execOp a.eval Ae).run prog w=.ok (.value (.int .i64 0)) w:=by simp[go_sem]
 rw[hr];show TN prog _ _ _ 15 (b20.atR (a.put (some 3) (.int .i64 0)) _) cs _;replace hS:=hS.put (t:=3) (by decide) (.int .i64 0);generalize a.put (some 3) (.int .i64 0)=a at hS ⊢;clear hr e;refine lS hle (gK hle (gK hle (kE (N:=11) hle ?_)));show TN prog _ _ _ 11 (b20.atR a (.inRegion pA [0,1,2,3,4,5,6]::_)) cs _;have t1:=hS.get 1 (P_ rb) rfl
 refine mj (N:=10) (o:=Af) rfl rfl (by intro c h;cases h) dg hle λw e=>⟨λ_=>trivial,?_⟩
 replace h':=h'.mv e;replace hb:=hb.trans (e.mono hb.size);have z0:=fB (k:=0) h' rfl;have z1:=fB (k:=1) h' rfl;have z2:=fB (k:=2) h' rfl;have z3:=fB (k:=3) h' rfl
 have hr:(execOp a.eval Af).run prog w=.ok (.value (.agg #[.slice a0 n0 c0,.slice a1 n1 c1,.slice a2 n2 c2,.slice a3 n3 c3])) w:=by
  simp[go_sem,t1,P_,z0,z1,z2,z3]
 rw[hr];refine .now ⟨rfl,a.put (some 11) (.agg #[.slice a0 n0 c0,.slice a1 n1 c1,.slice a2 n2 c2,.slice a3 n3 c3]),rb,rfl,?_,h',hb,aq⟩;have hS2:=hS.put (t:=11) (by decide) (.agg #[.slice a0 n0 c0,.slice a1 n1 c1,.slice a2 n2 c2,.slice a3 n3 c3]);refine⟨hS2.size,hS2.defers,λt v ht=>hS2.get t v ?_⟩
 grind
end
structure SlL(l:List (Nat×Value))(a:Act):Prop where
 size:a.tmps.size=38
 defers:a.defers=[]
 get:∀p∈l,a.tmps[p.1]?.getD undef=p.2
theorem SlL.put{l:List (Nat×Value)}{a:Act}(h:SlL l a){t:Nat}(ht:t<38)(v:Value)(hn:∀p∈l,p.1≠t):SlL ((t,v)::l) (a.put (some t) v):=by
 refine⟨uW.trans h.size,uX.trans h.defers,λp hp=>?_⟩;rw[jO (by rw[h.size];exact ht)]
 rcases db.1 hp with rfl|hp
 .rw[az rfl]
 .rw[ai (bT (hn p hp)) ];exact h.get p hp
theorem SlL.at{l:List (Nat×Value)}{a:Act}(h:SlL l a)(t:Nat){v:Value}(hm:(t,v)∈l:=by repeat (first|exact List.Mem.head _|apply List.Mem.tail)):a.tmps[t]?.getD undef=v:=h.get (t,v) hm
theorem SlL.sub{l l':List (Nat×Value)}{a:Act}(h:SlL l a)(hs:∀p∈l',p∈l):SlL l' a:=⟨h.size,h.defers,λp hp=>h.get p (hs p hp)⟩
theorem SlS.list{S:Nat->Option Value}{a:Act}(h:SlS S a)(l:List (Nat×Value))(hl:∀p∈l,S p.1=some p.2):SlL l a:=⟨h.size,h.defers,λp hp=>h.get p.1 p.2 (hl p hp)⟩
theorem iH{P:Program}{n m N:Nat}{Φ:Frame->List Frame->World->Prop}{b:Frame}{a:Act}{k:List Item}{cs:List Frame}{w:World}{ops:Array Oper}{i:Nat}{rest:List Nat}{o:Oper}{t:Nat}(v:Value)(ho:ops[i]?=some o)(hw:Region.wanted o (yielded ops a.tmps)=true)(hd:∀c,o.op≠.defer c)(af:o.dst=some t)(hk:b.kind≠.early)(hn:n<=cs.length)(h9:∀w1,Bel w.heap.size w w1->(execOp a.eval o).run P w1=.ok (.value v) w1)(h:∀w1,Bel w.heap.size w w1->@TN eU P n m Φ N (b.atR (a.put (some t) v) (.inRegion ops rest::k)) cs w1):@TN eU P n m Φ (N+1) (b.atR a (.inRegion ops (i::rest)::k)) cs w:=by
 letI:=eU
 refine mj ho hw hd hk hn λw1 e=>⟨λ_=>trivial,?_⟩
 rw[h9 w1 e];show TN P n m Φ N (b.atR (a.put o.dst v) _) cs w1;rw[af];exact h w1 e
section
variable{cs:List Frame}{w:World}{s0 s1 s2 s3:Value}{rb:Nat}{n N:Nat}{Φ:Frame->List Frame->World->Prop}
theorem HI{a:Act}{i e:Int}(hn:n<=cs.length)(hS:SlS (ups (SA rb) 11 (.agg #[s0,s1,s2,s3])) a)(h:∀a w1,SlL [(1,P_ rb),(2,.pointer none),(3,.int .i64 0),(5,.int .i64 e)] a->Bel w.heap.size w w1->@TN eU prog n n Φ N (b20.atR a [.code (.seq (.region 2 vO false) (.cond (.tmp 16) (.seq (.region 3 Al false) .ret) .skip)),.code cR4]) cs w1):@TN eU prog n n Φ (N+6) ((frA a).finish (.tuple #[.int .i64 i,.int .i64 e])) cs w:=by
 letI:=eU
 have e1:(frA a).finish (.tuple #[.int .i64 i,.int .i64 e])=b20.atR (a.put (some 12) (.tuple #[.int .i64 i,.int .i64 e])) [.inRegion pA [2,3,4,5,6],.code cZ,.code cR4]:=by
  rfl
 rw[e1];have hL:=hS.list [(1,P_ rb),(2,.pointer none),(3,.int .i64 0)] (by grind);replace hL:=hL.put (t:=12) (by decide) (.tuple #[.int .i64 i,.int .i64 e]) (by simp);generalize a.put (some 12) (.tuple #[.int .i64 i,.int .i64 e])=a at hL ⊢;have g:=hL.at 12
 refine iH (o:=Fb) (t:=10) (.tuple #[.int .i64 i,.int .i64 e]) rfl rfl (by simp) rfl dg hn (λw1 _=>by simp[go_sem,g]) λw1 b1=>?_
 replace hL:=(hL.put (t:=10) (by decide) (.tuple #[.int .i64 i,.int .i64 e]) (by simp));generalize a.put (some 10) (.tuple #[.int .i64 i,.int .i64 e])=a at hL ⊢;have g:=hL.at 10
 refine iH (o:=Fe) (t:=13) (.int .i64 i) rfl rfl (by simp) rfl dg hn (λw1 _=>by simp[go_sem,g]) λw2 b2=>?_
 replace hL:=(hL.put (t:=13) (by decide) (.int .i64 i) (by simp));generalize a.put (some 13) (.int .i64 i)=a at hL ⊢;have g:=hL.at 10
 refine iH (o:=Ff) (t:=14) (.int .i64 e) rfl rfl (by simp) rfl dg hn (λw1 _=>by simp[go_sem,g]) λw3 b3=>?_
 replace hL:=(hL.put (t:=14) (by decide) (.int .i64 e) (by simp));generalize a.put (some 14) (.int .i64 e)=a at hL ⊢;have g:=hL.at 13
 refine iH (o:=Fg) (t:=4) (.int .i64 i) rfl rfl (by simp) rfl dg hn (λw1 _=>by simp[go_sem,g]) λw4 b4=>?_
 replace hL:=(hL.put (t:=4) (by decide) (.int .i64 i) (by simp));generalize a.put (some 4) (.int .i64 i)=a at hL ⊢;have g:=hL.at 14
 refine iH (o:=Fh) (t:=5) (.int .i64 e) rfl rfl (by simp) rfl dg hn (λw1 _=>by simp[go_sem,g]) λw5 b5=>?_
 replace hL:=(hL.put (t:=5) (by decide) (.int .i64 e) (by simp));generalize a.put (some 5) (.int .i64 e)=a at hL ⊢;refine lS hn (h a w5 (hL.sub (by simp)) ?_);have c2:=b1.trans (b2.mono b1.size);have c3:=c2.trans (b3.mono c2.size);have c4:=c3.trans (b4.mono c3.size);exact c4.trans (b5.mono c4.size)
def HJ(cs:List Frame)(w0:World)(e:Int)(fr:Frame)(cs':List Frame)(w:World):Prop:=
 cs'=cs/\∃a,fr=HG a/\SlL [(2,.pointer none),(3,.int .i64 e)] a/\Bel w0.heap.size w0 w
theorem Ra{a:Act}{i e:Int}(he:e≠0)(hS:SlS (ups (SA rb) 11 (.agg #[s0,s1,s2,s3])) a):@TN eU prog cs.length cs.length (HJ cs w e) 20 ((frA a).finish (.tuple #[.int .i64 i,.int .i64 e])) cs w:=by
 letI:=eU
 have hn:=aD cs.length
 refine HI (N:=14) hn hS λa w1 hL b0=>?_
 refine gK (N:=13) hn (kE (N:=12) hn ?_);show TN prog _ _ _ 12 (b20.atR a (.inRegion vO [0,1]::_)) cs _;have g:=hL.at 5
 refine iH (o:=Ah) (t:=15) (.int .i64 e) rfl rfl (by simp) rfl dg hn (λw1 _=>by simp[go_sem,g]) λw2 b2=>?_
 replace hL:=(hL.put (t:=15) (by decide) (.int .i64 e) (by simp));generalize a.put (some 15) (.int .i64 e)=a at hL ⊢;have g:=hL.at 15
 refine iH (o:=Aj) (t:=16) (.bool true) rfl rfl (by simp) rfl dg hn (λw1 _=>by simp[go_sem,g,he]) λw3 b3=>?_
 replace hL:=(hL.put (t:=16) (by decide) (.bool true) (by simp));generalize a.put (some 16) (.bool true)=a at hL ⊢;have g:=hL.at 16;refine lS hn (z9 (t:=true) hn (by simpa[Act.eval] using g) ?_);simp only[aJ];refine gK hn (kE hn ?_);show TN prog _ _ _ 6 (b20.atR a (.inRegion Al [0,1,2]::_)) cs _;have g:=hL.at 5
 refine iH (o:=Fj) (t:=17) (.int .i64 e) rfl rfl (by simp) rfl dg hn (λw1 _=>by simp[go_sem,g]) λw4 b4=>?_
 replace hL:=((hL.sub (l':=[(1,P_ rb),(5,.int .i64 e),(2,.pointer none)]) (by simp)).put (t:=17) (by decide) (.int .i64 e) (by simp));generalize a.put (some 17) (.int .i64 e)=a at hL ⊢
 refine iH (o:=Fl) (t:=2) (.pointer none) rfl rfl (by simp) rfl dg hn (λw1 _=>by simp[go_sem]) λw5 b5=>?_
 have g:=hL.at 17;replace hL:=((hL.sub (l':=[(17,.int .i64 e)]) (by simp)).put (t:=2) (by decide) (.pointer none) (by simp));generalize a.put (some 2) (.pointer none)=a at hL ⊢;have g:=hL.at 17
 refine iH (o:=Fo) (t:=3) (.int .i64 e) rfl rfl (by simp) rfl dg hn (λw1 _=>by simp[go_sem,g]) λw6 b6=>?_
 replace hL:=((hL.sub (l':=[(2,.pointer none)]) (by simp)).put (t:=3) (by decide) (.int .i64 e) (by simp));generalize a.put (some 3) (.int .i64 e)=a at hL ⊢;refine lS hn (.now ⟨rfl,a,rfl,hL.sub (by simp),?_⟩);have c2:=b0.trans (b2.mono b0.size);have c3:=c2.trans (b3.mono c2.size);have c4:=c3.trans (b4.mono c3.size);have c5:=c4.trans (b5.mono c4.size);exact c5.trans (b6.mono c5.size)
end
section
variable{rb n a9:Nat}{a0 a2 a3 oa:Option Addr}{n0 c0 n2 c2 n3 c3:Nat}{w0:World}
abbrev iL(a0:Option Addr)(n0 c0:Nat)(oa:Option Addr)(n a9:Nat)(a2:Option Addr)(n2 c2:Nat)(a3:Option Addr)(n3 c3:Nat):Array Value:=#[.slice a0 n0 c0,.slice oa n a9,.slice a2 n2 c2,.slice a3 n3 c3]
def sl4(i:Nat):Nat:=match i with|0=>18|1=>19|2=>20|3=>21|4=>22|5=>23|6=>24|_=>6
def fH(rv:Array Value)(rb n:Nat)(s1:Value)(F xb xv:Nat)(i:Nat):Value:=match i with
 |0=>.agg rv|1=>.pointer (some ⟨rb,1,none⟩)|2=>s1|3=>.int .i64 n|4=>.slice (some ⟨F,0,none⟩) n n|5=>.agg #[rv.getD 0 undef,rv.getD 1 undef,rv.getD 2 undef,rv.getD 3 undef,.slice (some ⟨F,0,none⟩) n n]|6=>P_ xb|_=>P_ xv
theorem iw{L:Array Bool}{i j:Nat}(h:L[i]?=some false):(L.setIfInBounds i true).getD j false=if i=j then true else L.getD j false:=by
 have hi:=(a8.1 h).1;rw[bQ,bQ,iE]
 grind
structure j5(rv:Array Value)(rb n:Nat)(s1:Value)(w0:World)(F xb xv:Nat)(L:Array Bool)(a:Act)(w:World):Prop where
 base:SlL [(1,P_ rb)] a
 tH:∀j,j<8->L.getD j false=true->a.tmps[sl4 j]?.getD undef=fH rv rb n s1 F xb xv j
 bel:Bel w0.heap.size w0 w
 h4:L.getD 4 false=true->w0.heap.size<=F/\w.heap[F]?=some (.cells (Array.replicate n (.slice none 0 0)) 136)
 h6:L.getD 6 false=true->w0.heap.size<=xb/\w.heap[xb]?=some (.cells #[rv.getD 0 undef,rv.getD 1 undef,rv.getD 2 undef,rv.getD 3 undef,.slice (some ⟨F,0,none⟩) n n] 105)
 h7:L.getD 7 false=true->w0.heap.size<=xv/\w.heap[xv]?=some (.cells #[if L.getD 8 false=true then P_ xb else .pointer none] 92)
theorem ll{w w1:World}{b:Nat}{o:Obj}(h:w.heap[b]?=some o)(e:Bel w.heap.size w w1):w1.heap[b]?=some o:=(e.block _ (a8.1 h).1).trans h
theorem j5.mv{rv:Array Value}{s1:Value}{F xb xv:Nat}{L:Array Bool}{a:Act}{w w1:World}(h:j5 rv rb n s1 w0 F xb xv L a w)(e:Bel w.heap.size w w1):j5 rv rb n s1 w0 F xb xv L a w1:=
 ⟨h.base,h.tH,h.bel.trans (e.mono h.bel.size),λx=>⟨(h.h4 x).1,ll (h.h4 x).2 e⟩,λx=>⟨(h.h6 x).1,ll (h.h6 x).2 e⟩,λx=>⟨(h.h7 x).1,ll (h.h7 x).2 e⟩⟩
theorem j5.put{rv:Array Value}{s1:Value}{F xb xv F' xb' xv':Nat}{L:Array Bool}{a:Act}{w w':World}{i:Nat}(h:j5 rv rb n s1 w0 F xb xv L a w)(hi:i<8)(hl:L[i]?=some false)(a6:∀j,j<8->j≠i->L.getD j false=true->fH rv rb n s1 F' xb' xv' j=fH rv rb n s1 F xb xv j)(hy:Bel w0.heap.size w0 w')(h4:(L.setIfInBounds i true).getD 4 false=true->w0.heap.size<=F'/\w'.heap[F']?=some (.cells (Array.replicate n (.slice none 0 0)) 136))(h6:(L.setIfInBounds i true).getD 6 false=true->w0.heap.size<=xb'/\w'.heap[xb']?=some (.cells #[rv.getD 0 undef,rv.getD 1 undef,rv.getD 2 undef,rv.getD 3 undef,.slice (some ⟨F',0,none⟩) n n] 105))(h7:(L.setIfInBounds i true).getD 7 false=true->w0.heap.size<=xv'/\w'.heap[xv']?=some (.cells #[if (L.setIfInBounds i true).getD 8 false=true then P_ xb' else .pointer none] 92)):j5 rv rb n s1 w0 F' xb' xv' (L.setIfInBounds i true) (a.put (some (sl4 i)) (fH rv rb n s1 F' xb' xv' i)) w':=by
 have ag:∀k,k<8->sl4 k<38:=by decide
 have h1:∀k,k<8->sl4 k≠1:=by decide
 have dO:∀k,k<8->∀j,j<8->sl4 k=sl4 j->k=j:=by decide
 refine⟨(h.base.put (ag i hi) _ (by grind)).sub (by simp),λj hj hL=>?_,hy,h4,h6,h7⟩;rw[jO (by rw[h.base.size];grind)];rw[iw hl] at hL;by_cases e:i=j
 .simp_all
 .rw[ai e] at hL;rw[ai λx=>e (dO i hi j hj x),h.tH j hj hL,a6 j hj (bT e) hL]
theorem j5.pure{rv:Array Value}{s1:Value}{F xb xv:Nat}{L:Array Bool}{a:Act}{w:World}{i:Nat}(h:j5 rv rb n s1 w0 F xb xv L a w)(hi:i<8)(hl:L[i]?=some false)(n4:i≠4)(n6:i≠6)(n7:i≠7):j5 rv rb n s1 w0 F xb xv (L.setIfInBounds i true) (a.put (some (sl4 i)) (fH rv rb n s1 F xb xv i)) w:=by
 refine h.put hi hl (λ_ _ _ _=>rfl) h.bel (λx=>h.h4 ?_) (λx=>h.h6 ?_) λx=>?_
 .rw[iw hl,ai n4] at x;exact x
 .rw[iw hl,ai n6] at x;exact x
 .rw[iw hl,ai n7] at x;rw[iw hl,ai (by omega:i≠8)];exact h.h7 x
theorem Rb(hn:n<=1000)(w:World):(Instr.makeSlice 103 (.int .i64 n) (.int .i64 n)).run prog w=.ok (.slice (some ⟨w.heap.size,0,none⟩) n n) (w.alloc (.cells (Array.replicate n (.slice none 0 0)) 136)):=by
 have h1:¬(24*(n:Int)>281474976710656):=by omega
 have h2:¬((n:Int)<0):=by omega
 have hb:Tryz.t136.bytes=24:=rfl
 have hw:IntKind.i64.wrap (n:Int)=n:=by rw[IntKind.wrap_i64];omega
 have ha:(Array.range n).map (λ_=>Value.slice none 0 0)=Array.replicate n (.slice none 0 0):=by
  grind
 unfold Instr.makeSlice;by_cases hz:n=0
 .subst hz
  have h0:IntKind.i64.wrap 0=0:=by rw[IntKind.wrap_i64];rfl
  simp[go_sem,newRow,h0,hb]
 .have h3:¬(281474976710656<24*(n:Int)):=by omega
  simp[go_sem,newRow,hw,h1,h2,hz,hb,h3];rw[<-ha]
  grind
theorem Rc(F:Nat)(w:World):(Instr.build 105 #[(0,.agg (iL a0 n0 c0 oa n a9 a2 n2 c2 a3 n3 c3)),(1,.slice (some ⟨F,0,none⟩) n n)]).run prog w=.ok (.agg #[.slice a0 n0 c0,.slice oa n a9,.slice a2 n2 c2,.slice a3 n3 c3,.slice (some ⟨F,0,none⟩) n n]) w:=by
 unfold Instr.build;simp[go_sem,Instr.fill]
theorem Re{a:Act}{r:Option Nat}{id:Nat}{Q:Exit->Act->World->Prop}(hn:n<=1000)(h':oN w0 rb (.slice a0 n0 c0) (.slice oa n a9) (.slice a2 n2 c2) (.slice a3 n3 c3))(hS:SlL [(1,P_ rb)] a)(hQ:∀a w F xb xv,SlL [(1,P_ rb),(6,P_ xv)] a->Bel w0.heap.size w0 w->w0.heap.size<=F->w0.heap.size<=xb->w0.heap.size<=xv->w.heap[F]?=some (.cells (Array.replicate n (.slice none 0 0)) 136)->w.heap[xb]?=some (.cells #[.slice a0 n0 c0,.slice oa n a9,.slice a2 n2 c2,.slice a3 n3 c3,.slice (some ⟨F,0,none⟩) n n] 105)->w.heap[xv]?=some (.cells #[P_ xb] 92)->Q .normal a w):@Code.wpN eU r prog (.region id pB true) (9*1+1+1) Q a w0:=by
 letI:=eU
 let rv:Array Value:=iL a0 n0 c0 oa n a9 a2 n2 c2 a3 n3 c3
 let s1:Value:=.slice oa n a9
 let Inv:Array Bool->Act->World->Prop:=λL a w=>∃F xb xv,j5 rv rb n s1 w0 F xb xv L a w
 refine Dz (ops:=pB) rfl 1 Inv ?_ ?_ ?_ ?_
 .intro i o ho;have ag:i<9:=(a8.1 ho).1
  obtain rfl|rfl|rfl|rfl|rfl|rfl|rfl|rfl|rfl:i=0\/i=1\/i=2\/i=3\/i=4\/i=5\/i=6\/i=7\/i=8:=by omega
  all_goals
   obtain rfl:=eJ ho;simp[Region.binds]
 .intro w1 e1
  have z:∀j,(Array.replicate pB.size false).getD j false=false:=λj=>by
   rw[bQ,xw];split<;>rfl
  have zz:∀{j:Nat}{p:Prop},(Array.replicate pB.size false).getD j false=true->p:=λh=>by rw[z] at h;cases h
  exact⟨0,0,0,j5.mk hS (λj _ h=>zz h) (Bel.mk e1.os e1.output e1.size e1.block) (λh=>zz h) (λh=>zz h) (λh=>zz h)⟩
 .intro L a w hL h;obtain⟨F,xb,xv,h⟩:=h;obtain⟨f1,f2⟩:=h.h4 (hL 4 (by decide));obtain⟨b1,b2⟩:=h.h6 (hL 6 (by decide));obtain⟨v1,v2⟩:=h.h7 (hL 7 (by decide));rw[az (hL 8 (by decide))] at v2;refine hQ a w F xb xv ⟨h.base.size,h.base.defers,λp hp=>?_⟩ h.bel f1 b1 v1 f2 b2 v2;simp only[db,lL,or_false] at hp
  rcases hp with rfl|rfl
  .exact h.base.at 1
  .exact h.tH 7 (by decide) (hL 7 (by decide))
 .intro i o ho;have ag:i<9:=(a8.1 ho).1
  have run:∀(L:Array Bool)(a:Act)(w:World),Inv L a w->L[i]?=some false->(∀e∈o.after,Region.binds .any e=true->L.getD e.on false=true)->Closed pB L ->
   ∃X w',(execOp a.eval o).run prog w=.ok X w'/\((∃v,X=.value v/\Inv (L.setIfInBounds i true) (a.put o.dst v) w')\/(X=.skip/\Inv (L.setIfInBounds i true) (a.put o.dst undef) w')):=by
   intro L a w hI hl he hc;obtain⟨F,xb,xv,h⟩:=hI;have hh:=h'.mv h.bel;have t1:=h.base.at 1 (v:=P_ rb);have sl:∀j,j<8->L.getD j false=true->a.tmps[sl4 j]?.getD undef=fH rv rb n s1 F xb xv j:=h.tH
   obtain rfl|rfl|rfl|rfl|rfl|rfl|rfl|rfl|rfl:i=0\/i=1\/i=2\/i=3\/i=4\/i=5\/i=6\/i=7\/i=8:=by omega
   all_goals obtain rfl:=eJ ho
   .have z0:=fB (k:=0) hh rfl;have z1:=fB (k:=1) hh rfl;have z2:=fB (k:=2) hh rfl;have z3:=fB (k:=3) hh rfl;refine⟨.value (fH rv rb n s1 F xb xv 0),w,?_,.inl ⟨_,rfl,F,xb,xv,h.pure (i:=0) (by decide) hl (by decide) (by decide) (by decide)⟩⟩;simp[go_sem,t1,P_,z0,z1,z2,z3,fH,rv]
   .refine⟨.value (fH rv rb n s1 F xb xv 1),w,?_,.inl ⟨_,rfl,F,xb,xv,h.pure (i:=1) (by decide) hl (by decide) (by decide) (by decide)⟩⟩;simp[go_sem,t1,P_,fH,rv]
   .have z1:=fB (k:=1) hh rfl;have t:=sl 1 (by decide) (he ⟨1,.data⟩ (by simp) rfl);simp only[sl4,fH] at t;refine⟨.value (fH rv rb n s1 F xb xv 2),w,?_,.inl ⟨_,rfl,F,xb,xv,h.pure (i:=2) (by decide) hl (by decide) (by decide) (by decide)⟩⟩;simp[go_sem,t,P_,z1,fH,rv,s1]
   .have t:=sl 2 (by decide) (he ⟨2,.data⟩ (by simp) rfl);simp only[sl4,fH,s1] at t;refine⟨.value (fH rv rb n s1 F xb xv 3),w,?_,.inl ⟨_,rfl,F,xb,xv,h.pure (i:=3) (by decide) hl (by decide) (by decide) (by decide)⟩⟩;simp[go_sem,t,P_,fH,rv,s1]
   .have t:=sl 3 (by decide) (he ⟨3,.data⟩ (by simp) rfl);simp only[sl4,fH,s1] at t
    have h9:(execOp a.eval Fp).run prog w=.ok (.value (.slice (some ⟨w.heap.size,0,none⟩) n n)) (w.alloc (.cells (Array.replicate n (.slice none 0 0)) 136)):=by
     simp[go_sem,t,Rb hn]
    refine⟨_,_,h9,.inl ⟨_,rfl,w.heap.size,xb,xv,h.put (i:=4) (w':=w.alloc _) (F':=w.heap.size) (by decide) hl ?_ (h.bel.alloc h.bel.size _) ?_ ?_ ?_⟩⟩
    .intro j hj ar hLj
     obtain rfl|rfl|rfl|rfl|rfl|rfl|rfl|rfl:j=0\/j=1\/j=2\/j=3\/j=4\/j=5\/j=6\/j=7:=by omega
     .rfl
     .rfl
     .rfl
     .rfl
     .trivial
     .have:=hc 5 _ rfl hLj ⟨4,.data⟩ (by simp) rfl;rw[bQ,hl] at this;cases this
     .rfl
     .rfl
    .intro _;refine⟨h.bel.size,?_⟩;show (w.heap.push _)[w.heap.size]?=_;simp
    .intro x;rw[iw hl,ai (by decide)] at x;have h5:=hc 6 _ rfl x ⟨5,.data⟩ (by simp) rfl;have:=hc 5 _ rfl h5 ⟨4,.data⟩ (by simp) rfl;rw[bQ,hl] at this;cases this
    .intro x;rw[iw hl,ai (by decide)] at x;rw[show (L.setIfInBounds 4 true).getD 8 false=L.getD 8 false from by rw[iw hl,ai (by decide)]];obtain⟨q1,q2⟩:=h.h7 x;exact⟨q1,ll q2 ((Bel.refl _ _).alloc (aD _) _)⟩
   .have ta:=sl 0 (by decide) (he ⟨0,.data⟩ (by simp) rfl);have tb:=sl 4 (by decide) (he ⟨4,.data⟩ (by simp) rfl);simp only[sl4,fH,s1] at ta tb;refine⟨.value (fH rv rb n s1 F xb xv 5),w,?_,.inl ⟨_,rfl,F,xb,xv,h.pure (i:=5) (by decide) hl (by decide) (by decide) (by decide)⟩⟩;simp only[rv] at ta;simp[go_sem,ta,tb,P_,fH,Rc,rv]
   .have t:=sl 5 (by decide) (he ⟨5,.data⟩ (by simp) rfl);simp only[sl4,fH,s1] at t
    have h9:(execOp a.eval Fq).run prog w=.ok (.value (P_ w.heap.size)) (w.alloc (.cells #[.slice a0 n0 c0,.slice oa n a9,.slice a2 n2 c2,.slice a3 n3 c3,.slice (some ⟨F,0,none⟩) n n] 105)):=by
     simp[go_sem,t,P_,rv]
    refine⟨_,_,h9,.inl ⟨_,rfl,F,w.heap.size,xv,h.put (i:=6) (w':=w.alloc _) (xb':=w.heap.size) (by decide) hl ?_ (h.bel.alloc h.bel.size _) ?_ ?_ ?_⟩⟩
    .intro j hj ar hLj
     obtain rfl|rfl|rfl|rfl|rfl|rfl|rfl|rfl:j=0\/j=1\/j=2\/j=3\/j=4\/j=5\/j=6\/j=7:=by omega
     .rfl
     .rfl
     .rfl
     .rfl
     .rfl
     .rfl
     .trivial
     .rfl
    .intro x;rw[iw hl,ai (by decide)] at x;obtain⟨q1,q2⟩:=h.h4 x;exact⟨q1,ll q2 ((Bel.refl _ _).alloc (aD _) _)⟩
    .intro _;refine⟨h.bel.size,?_⟩;show (w.heap.push _)[w.heap.size]?=_;simp[rv]
    .intro x;rw[iw hl,ai (by decide)] at x;obtain⟨q1,q2⟩:=h.h7 x
     have n8:¬L.getD 8 false=true:=λx=>by
      have:=hc 8 _ rfl x ⟨6,.data⟩ (by simp) rfl;rw[bQ,hl] at this;cases this
     rw[ai n8] at q2;rw[iw hl,ai (by decide:¬(6=8)),ai n8];exact⟨q1,ll q2 ((Bel.refl _ _).alloc (aD _) _)⟩
   .have h9:(execOp a.eval Fs).run prog w=.ok (.value (P_ w.heap.size)) (w.alloc (.cells #[.pointer none] 92)):=by
     rfl
    refine⟨_,_,h9,.inl ⟨_,rfl,F,xb,w.heap.size,h.put (i:=7) (w':=w.alloc _) (xv':=w.heap.size) (by decide) hl ?_ (h.bel.alloc h.bel.size _) ?_ ?_ ?_⟩⟩
    .intro j hj ar hLj
     obtain rfl|rfl|rfl|rfl|rfl|rfl|rfl|rfl:j=0\/j=1\/j=2\/j=3\/j=4\/j=5\/j=6\/j=7:=by omega
     .rfl
     .rfl
     .rfl
     .rfl
     .rfl
     .rfl
     .rfl
     trivial
    .intro x;rw[iw hl,ai (by decide)] at x;obtain⟨q1,q2⟩:=h.h4 x;exact⟨q1,ll q2 ((Bel.refl _ _).alloc (aD _) _)⟩
    .intro x;rw[iw hl,ai (by decide)] at x;obtain⟨q1,q2⟩:=h.h6 x;exact⟨q1,ll q2 ((Bel.refl _ _).alloc (aD _) _)⟩
    .intro _
     have n8:¬L.getD 8 false=true:=λx=>by
      have:=hc 8 _ rfl x ⟨7,.data⟩ (by simp) rfl;rw[bQ,hl] at this;cases this
     rw[iw hl,ai (by decide:¬(7=8)),ai n8];refine⟨h.bel.size,?_⟩;show (w.heap.push _)[w.heap.size]?=_;simp
   .have d7:=he ⟨7,.data⟩ (by simp) rfl;have d6:=he ⟨6,.data⟩ (by simp) rfl;have ta:=sl 7 (by decide) d7;have tb:=sl 6 (by decide) d6;simp only[sl4,fH,P_] at ta tb;have h7:=h.h7 d7;have h6:=h.h6 d6
    have n8:¬L.getD 8 false=true:=λx=>by
     rw[bQ,hl] at x;cases x
    rw[ai n8] at h7;have zx:=fB (k:=0) h7.2 rfl
    have hx:xv≠xb:=λe=>by
     have a5:=h7.2;rw[e,h6.2] at a5;simp at a5
    have au:w.frozen? ⟨xv,0,none⟩=false:=by simp[World.frozen?,h7.2]
    have h9:(execOp a.eval Ft).run prog w=.ok .skip (w.setCell ⟨xv,0,none⟩ (P_ xb)):=by
     simp[go_sem,ta,tb,zx,P_,au]
    have aa:∀b,b≠xv->(w.setCell ⟨xv,0,none⟩ (P_ xb)).heap[b]?=w.heap[b]?:=λb hb=>by
     simp[World.setCell,dZ,bT hb]
    have hV:(w.setCell ⟨xv,0,none⟩ (P_ xb)).heap[xv]?=some (.cells #[P_ xb] 92):=by
     simp[World.setCell,dZ,h7.2]
    have hy:Bel w0.heap.size w0 (w.setCell ⟨xv,0,none⟩ (P_ xb)):=h.bel.setCell h7.1 _;refine⟨_,_,h9,.inr ⟨rfl,F,xb,xv,?_⟩⟩;generalize w.setCell ⟨xv,0,none⟩ (P_ xb)=w' at aa hV hy
    refine j5.mk h.base (λj hj hLj=>?_) hy (λx=>?_) (λx=>?_) λx=>?_
    .rw[iw hl,ai (by omega)] at hLj;exact h.tH j hj hLj
    .rw[iw hl,ai (by decide)] at x;obtain⟨q1,q2⟩:=h.h4 x;refine⟨q1,(aa F λe=>?_).trans q2⟩;have a5:=h7.2;rw[<-e,q2] at a5;simp at a5
    .exact⟨h6.1,(aa xb (bT hx)).trans h6.2⟩
    split<;>simp_all
  intro L a w hI hl he hc rest N k
  have hg:Region.wanted o (yielded pB a.tmps)=true/\∀c,o.op≠.defer c:=by
   obtain rfl|rfl|rfl|rfl|rfl|rfl|rfl|rfl|rfl:i=0\/i=1\/i=2\/i=3\/i=4\/i=5\/i=6\/i=7\/i=8:=by omega
   all_goals
    obtain rfl:=eJ ho;exact⟨rfl,by intro c h;cases h⟩
  refine bJ ho hg.1 hg.2 λw1 e1=>⟨λ_=>trivial,?_⟩
  obtain⟨F,xb,xv,h⟩:=hI;obtain⟨X,w',hr,⟨v,rfl,a'⟩|⟨rfl,a'⟩⟩:=run L a w1 ⟨F,xb,xv,h.mv e1⟩ hl he hc
  .rw[hr];exact k _ _ a'
  .rw[hr];exact k _ _ a'
end
end Go.Proofs.Tw
namespace Go.Proofs.Tw
open Go Go.Fi Go.Fc Go.Conc Go.RowKit
open Go.ConcN (PayAt Has RW WgLive AtR0)
section
variable{cs:List Frame}{w:World}{rb n a9:Nat}{a0 a2 a3 oa:Option Addr}{n0 c0 n2 c2 n3 c3:Nat}{i:Int}
structure tI(rv:Array Value)(n:Nat)(lo F xb xv:Nat)(w:World):Prop where
 f1:lo<=F
 b1:lo<=xb
 v1:lo<=xv
 f2:w.heap[F]?=some (.cells (Array.replicate n (.slice none 0 0)) 136)
 b2:w.heap[xb]?=some (.cells #[rv.getD 0 undef,rv.getD 1 undef,rv.getD 2 undef,rv.getD 3 undef,.slice (some ⟨F,0,none⟩) n n] 105)
 v2:w.heap[xv]?=some (.cells #[P_ xb] 92)
theorem tI.mv{rv:Array Value}{n lo F xb xv:Nat}{w w1:World}(h:tI rv n lo F xb xv w)(e:Bel w.heap.size w w1):tI rv n lo F xb xv w1:=⟨h.f1,h.b1,h.v1,ll h.f2 e,ll h.b2 e,ll h.v2 e⟩
def HK(cs:List Frame)(w0:World)(rv:Array Value)(rb n:Nat)(fr:Frame)(cs':List Frame)(w:World):Prop:=
 cs'=cs/\∃a F xb xv,fr=BT a/\SlL [(1,P_ rb),(6,P_ xv)] a/\Bel w0.heap.size w0 w/\tI rv n w0.heap.size F xb xv w
theorem Rf{a:Act}(aj:n<=1000)(h':oN w rb (.slice a0 n0 c0) (.slice oa n a9) (.slice a2 n2 c2) (.slice a3 n3 c3))(hS:SlS (ups (SA rb) 11 (.agg (iL a0 n0 c0 oa n a9 a2 n2 c2 a3 n3 c3))) a):@TN eU prog cs.length cs.length (HK cs w (iL a0 n0 c0 oa n a9 a2 n2 c2 a3 n3 c3) rb n) 40 ((frA a).finish (.tuple #[.int .i64 i,.int .i64 0])) cs w:=by
 letI:=eU
 have hn:=aD cs.length
 refine HI (N:=34) hn hS λa w1 hL b0=>?_
 refine gK (N:=33) hn (kE (N:=32) hn ?_);show TN prog _ _ _ 32 (b20.atR a (.inRegion vO [0,1]::_)) cs _;have g:=hL.at 5
 refine iH (o:=Ah) (t:=15) (.int .i64 0) rfl rfl (by simp) rfl dg hn (λw1 _=>by simp[go_sem,g]) λw2 b2=>?_
 replace hL:=(hL.put (t:=15) (by decide) (.int .i64 0) (by simp));generalize a.put (some 15) (.int .i64 0)=a at hL ⊢;have g:=hL.at 15
 refine iH (o:=Aj) (t:=16) (.bool false) rfl rfl (by simp) rfl dg hn (λw1 _=>by simp[go_sem,g]) λw3 b3=>?_
 replace hL:=(hL.put (t:=16) (by decide) (.bool false) (by simp));generalize a.put (some 16) (.bool false)=a at hL ⊢;have g:=hL.at 16;refine lS hn (z9 (t:=false) hn (by simpa[Act.eval] using g) ?_);simp only[bw,aQ];have d2:=b0.trans (b2.mono b0.size);have d3:=d2.trans (b3.mono d2.size);refine EZ hn (gK (N:=26) hn ?_);have ao:=h'.mv d3;replace hL:=hL.sub (l':=[(1,P_ rb)]) (by simp);clear g b0 b2 b3 d2 h' hS
 let Q:Exit->Act->World->Prop:=λe a w'=>e=.normal/\∃F xb xv,SlL [(1,P_ rb),(6,P_ xv)] a/\Bel w3.heap.size w3 w'/\tI (iL a0 n0 c0 oa n a9 a2 n2 c2 a3 n3 c3) n w3.heap.size F xb xv w'
 refine vK (N:=15) (M:=11) (Q:=Q) (Re aj ao hL λa w F xb xv h1 h2 h3 h4 h5 h6 h7 h8=>⟨rfl,F,xb,xv,h1,h2,⟨h3,h4,h5,h6,h7,h8⟩⟩) dg (λe a w h=>h.1) λa w4 hq=>?_
 obtain⟨_,F,xb,xv,h1,h2,h3⟩:=hq;refine gK hn (kE hn (.now ⟨rfl,a,F,xb,xv,rfl,h1,d3.trans (h2.mono d3.size),?_⟩));exact⟨b7 d3.size h3.f1,b7 d3.size h3.b1,b7 d3.size h3.v1,h3.f2,h3.b2,h3.v2⟩
end
end Go.Proofs.Tw
namespace Go.Proofs.Tw
open Go Go.Fi Go.Fc Go.Conc Go.RowKit
open Go.ConcR (WgAt wgBlock)
theorem MB:(Tryz.f55.name == "runtime.NumGoroutine")=false:=by kernel_rfl
theorem MD:Tryz.f55.body.isNone=false:=by kernel_rfl
theorem Rg{a:Act}{rv:Array Value}{base:List Frame}(hS:a.tmps[11]?.getD undef=.agg rv)(B:World):stepG Tryz.prog true (G (frA a) base) B=.go (G (Frame.enter Tryz.prog 55 #[.agg rv] .normal) (frA a::base)) B #[]:=by
 have hm:#[Operand.tmp 11].map a.eval=#[.agg rv]:=by simp[Act.eval,hS]
 have e:=stepG_enter (P:=Tryz.prog) (main:=true) (b:=b20) (a:=a) (k:=[.code cZ,.code cR4]) (cs:=base) (w:=B) (o:=Ag) (ops:=pA) (i:=1) (rest:=[2,3,4,5,6]) rfl rfl dg (run_call_body (f:=55) rfl Tryz.func55 MB MD)
 have hl:listed Tryz.prog b20.fn a Ag B=#[]:=by rfl
 rw[hl,hm] at e;exact e
def frC(a:Act):Frame:=b20.atR a [.inRegion Am [],.code c6]
def frF(a:Act):Frame:=b20.atR a [.inRegion nW [],.code .ret]
theorem HL:Tryz.f69.results=#[.tmp 2,.tmp 3]:=rfl
theorem Rh{a:Act}{todo:List Item}{c:Frame}{cs:List Frame}{v2 v3:Value}(hd:a.defers=[])(h2:a.tmps[2]?.getD undef=v2)(h3:a.tmps[3]?.getD undef=v3)(w:World):stepG Tryz.prog true (G { b20.at a todo with mode:=.returning } (c::cs)) w=.go (G (c.finish (.tuple #[v2,v3])) cs) w #[]:=by
 refine stepG_leave (fn:=Tryz.f69) rfl hd Tryz.func69 ?_ (events_results_tmp2 HL _ _);simp[results,HL,h2,h3]
theorem Ri{a:Act}{k:List Item}{cs:List Frame}(w:World):stepG Tryz.prog true (G (b20.atR a (.code .ret::k)) cs) w=.go (G { b20.at a (.code .ret::k) with mode:=.returning } cs) w #[]:=stepG_ret' (b:=b20)
theorem Rj{a:Act}{k:List Item}{ops:Array Oper}{cs:List Frame}(w:World):stepG Tryz.prog true (G (b20.atR a (.inRegion ops []::k)) cs) w=.go (G (b20.atR a k) cs) w #[]:=uh
section
variable{o:OD}{cs:List Frame}{w:World}
theorem Rk{a:Act}(aj:o.os.length<=1000)(hS:SlL [(1,P_ o.rb),(6,P_ o.xv),(7,P_ o.wg)] a)(hK:gA o w):@TN (aV o.lo0 o.F o.os.length) prog cs.length cs.length (λfr' cs' w'=>cs'=cs/\if 0<o.os.length then I1o o 0 fr' w' else I3o o fr' w') 50 (frC a) cs w:=by
 letI:=aV o.lo0 o.F o.os.length
 have hn:=aD cs.length;unfold frC;refine lS (N:=49) hn (gK (N:=48) hn (gK (N:=47) hn (kE (N:=46) hn ?_)));show TN prog _ _ _ 46 (b20.atR a (.inRegion DJ [0,1,2,3]::_)) cs _;have g:=hS.at 1
 refine mj (N:=45) (o:=zm) rfl rfl (by simp) dg hn λw1 e=>⟨λf ev a4=>?_,?_⟩
 .have hm:=mem_listed a4;simp[go_sem,g,P_] at hm
 replace hK:=hK.mv e
 have hr:(execOp a.eval zm).run prog w1=.ok (.value (.pointer (some ⟨o.rb,1,none⟩))) w1:=by simp[go_sem,g,P_]
 rw[hr];simp only[Oper.dV];replace hS:=hS.put (t:=25) (by decide) (.pointer (some ⟨o.rb,1,none⟩)) (by simp);generalize a.put (some 25) (.pointer (some ⟨o.rb,1,none⟩))=a at hS ⊢;clear hr e g;have g:=hS.at 25
 refine mj (N:=44) (o:=zn) rfl rfl (by simp) dg hn λw2 e=>⟨λf ev a4=>?_,?_⟩
 .replace hK:=hK.mv e;have c1:=hK.BN;have hm:=mem_listed a4;simp[go_sem,g,c1] at hm;subst hm;exact pd (λe=>absurd e hK.apart.1)
 replace hK:=hK.mv e;have c1:=hK.BN
 have hr:(execOp a.eval zn).run prog w2=.ok (.value (.slice o.oa o.os.length o.a9)) w2:=by simp[go_sem,g,c1]
 rw[hr];simp only[Oper.dV];replace hS:=hS.put (t:=26) (by decide) (.slice o.oa o.os.length o.a9) (by simp);generalize a.put (some 26) (.slice o.oa o.os.length o.a9)=a at hS ⊢;clear hr e g;have g:=hS.at 26
 refine mj (N:=43) (o:=zo) rfl rfl (by simp) dg hn λw3 e=>⟨λf ev a4=>?_,?_⟩
 .have hm:=mem_listed a4;simp[go_sem,g] at hm
 replace hK:=hK.mv e
 have hr:(execOp a.eval zo).run prog w3=.ok (.value (.int .i64 o.os.length)) w3:=by simp[go_sem,g]
 rw[hr];simp only[Oper.dV];replace hS:=hS.put (t:=27) (by decide) (.int .i64 o.os.length) (by simp);generalize a.put (some 27) (.int .i64 o.os.length)=a at hS ⊢;clear hr e g
 refine mj (N:=42) (o:=zp) rfl rfl (by simp) dg hn λw4 e=>⟨λf ev a4=>?_,?_⟩
 .have hm:=mem_listed a4;simp[go_sem] at hm
 replace hK:=hK.mv e
 have hr:(execOp a.eval zp).run prog w4=.ok (.value (.int .i64 0)) w4:=by simp[go_sem]
 rw[hr];simp only[Oper.dV];replace hS:=hS.put (t:=28) (by decide) (.int .i64 0) (by simp);generalize a.put (some 28) (.int .i64 0)=a at hS ⊢;refine lS hn (E4 hn (Mb hn ?_));refine (E5 (cs:=cs) (lo:=o.lo0) (j:=0) aj (aR _) (aD _) hK.size ⟨hS.size,hS.defers,λt v ht=>?_⟩ hK).more (by decide);unfold S20 at ht;split at ht
 all_goals first
  |(cases ht;done)
  |(obtain rfl:=eJ ht;exact hS.at _)
def HM(cs:List Frame)(w0:World)(xb:Nat)(fr:Frame)(cs':List Frame)(w:World):Prop:=
 cs'=cs/\∃a,fr=frF a/\SlL [(2,P_ xb),(3,.int .i64 0)] a/\Bel w0.heap.size w0 w
theorem Rl{a:Act}{xb xv:Nat}(hS:SlL [(6,P_ xv)] a)(hx:w.cell? ⟨xv,0,none⟩=some (P_ xb)):@TN eU prog cs.length cs.length (HM cs w xb) 10 (b20.atR a [.inRegion pg [],.code (.seq (.region 13 nW false) .ret)]) cs w:=by
 letI:=eU
 have hn:=aD cs.length;refine lS (N:=9) hn (gK (N:=8) hn (kE (N:=7) hn ?_));show TN prog _ _ _ 7 (b20.atR a (.inRegion nW [0,1,2]::_)) cs _;have g:=hS.at 6
 refine iH (o:=DO) (t:=37) (P_ xb) rfl rfl (by simp) rfl dg hn (λw1 e=>?_) λw2 b2=>?_
 .have:=e.cellAt hx;simp[go_sem,g,P_,this]
 replace hS:=hS.put (t:=37) (by decide) (P_ xb) (by simp);generalize a.put (some 37) (P_ xb)=a at hS ⊢;have g:=hS.at 37
 refine iH (o:=DQ) (t:=2) (P_ xb) rfl rfl (by simp) rfl dg hn (λw1 e=>by simp[go_sem,g]) λw3 b3=>?_
 replace hS:=hS.put (t:=2) (by decide) (P_ xb) (by simp);generalize a.put (some 2) (P_ xb)=a at hS ⊢
 refine iH (o:=DR) (t:=3) (.int .i64 0) rfl rfl (by simp) rfl dg hn (λw1 e=>by simp[go_sem]) λw4 b4=>?_
 replace hS:=hS.put (t:=3) (by decide) (.int .i64 0) (by simp);generalize a.put (some 3) (.int .i64 0)=a at hS ⊢;have c2:=b2.trans (b3.mono b2.size);exact .now ⟨rfl,a,rfl,hS.sub (by simp),c2.trans (b4.mono c2.size)⟩
end
end Go.Proofs.Tw
