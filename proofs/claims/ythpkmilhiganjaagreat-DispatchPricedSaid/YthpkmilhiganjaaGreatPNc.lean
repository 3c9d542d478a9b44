/- Lemmas. -/
import Derived.Test.YthpkmilhiganjaaGreatPNb
import Derived.Conc.WgGenN3
import Derived.Conc.MuWords
import Derived.Conc.WgGenDone
set_option linter.unusedSimpArgs false
set_option linter.unusedVariables false
set_option linter.unusedSectionVars false
set_option maxHeartbeats 32000000
set_option maxRecDepth 100000
namespace Go.Fc
open Go Go.Conc Go.ConcN Go.RowKit Go.Conc.Lib Go.ConcR.Gen Go.ConcM
open Go.ConcR (KK wgBlock WgAt stA smA rd wr mk Payload Aside2 DC0)
theorem aX{ty:TypeId}{Wg:Nat}{w w₁:World}(h:WgLive ty Wg w)(r:RL ty Wg w w₁):WgLive ty Wg w₁:=r h
section
variable{P:Program}{main:Bool}{R:World→World→Prop}{D D':World→World→Array Event→Prop}{S S':Goroutine→World→Prop}
theorem BY(hD:∀w w' es,D w w' es→D' w w' es):∀{n:Nat}{g:Goroutine}{w:World},Goes P main R D S n g w→Goes P main R D' S n g w
 |0,_,_,h=>h
 |n+1,g,w,h=>by
  rcases h with h|⟨hs,h⟩
  ·exact .inl h
  ·refine .inr ⟨hs,fun w₁ h₁=>?_⟩;have:=h w₁ h₁
   revert this
   cases stepG P main g w₁<;>simp only[GStep.goes,imp_self]
   exact fun ⟨d,x⟩=>⟨hD _ _ _ d,BY hD x⟩
theorem dK{Wg:Nat}{n:Nat}{g:Goroutine}{w:World}(h:Goes P main R DC0 S n g w):Goes P main R (DL Wg) S n g w:=BY (fun _ _ _ x=>⟨x.1,by rw[x.2];simp⟩) h
theorem xF(rf:∀w,R w w)(tr:∀a b c,R a b→R b c→R a c){n':Nat}:∀{n:Nat}{g:Goroutine}{w:World},Goes P main R D S n g w→(∀g w,S g w→Goes P main R D S' n' g w)→(∀g w,S g w→g.status=.running)→Goes P main R D S' (n'+n) g w
 |0,g,w,h,hk,hr=>hk g w (h w (rf w))
 |n+1,g,w,h,hk,hr=>by
  rcases h with h|⟨hs,h⟩
  ·exact goes_pad (hk g w (h w (rf w))) (n+1)
  ·refine .inr ⟨hs,fun w₁ h₁=>?_⟩;have:=h w₁ h₁
   revert this
   cases stepG P main g w₁<;>simp only[GStep.goes,imp_self]
   exact fun ⟨d,x⟩=>⟨d,xF rf tr x hk hr⟩
end
section
variable{L:WgLink}{Wg:Nat}{b₀:Frame}{a₀:Act}{ops₀:Array Oper}{i₀:Nat}{rest₀:List Nat}{k₀:List Item}{cs:List Frame}
theorem Ng{P:Program}(H:WgLib P L)(w:World)(hF:WgLive L.tWg Wg w):Goes P true (RL L.tWg Wg) DC0 (uo P L.tWg Wg (G (b₀.at (a₀.put ((ops₀[i₀]?).bind (·.dst)) (.tuple #[])) (.inRegion ops₀ rest₀::k₀)) cs)) 60 (G ((base L.add).at ⟨#[.pointer (some ⟨Wg,0,none⟩),.int .i64 1,undef,undef,undef,undef,undef,undef,undef,undef,undef,undef,undef,undef,undef,undef,undef,undef,undef,undef,undef,undef,undef,undef,undef,undef,undef,undef,undef,undef,undef,undef,undef,undef,undef,undef,undef,undef,undef,undef,undef,undef,undef,undef,undef,undef,undef,undef,undef,undef,undef,undef,undef,undef,undef,undef,undef,undef,undef,undef,undef,undef,undef,undef,undef,undef,undef,undef,undef,undef,undef,undef,undef,undef,undef,undef,undef,undef,undef,undef,undef,undef,undef,undef,undef,undef,undef,undef,undef,undef,undef,undef,undef,undef,undef,undef,undef,undef,undef,undef,undef,undef,undef,undef,undef,undef,undef,undef,undef,undef,undef,undef,undef,undef,undef,undef,undef],[]⟩ [.code (body_add L)]) (b₀.at a₀ (.inRegion ops₀ (i₀::rest₀)::k₀)::cs)) w:=by
 lib_facts
 simp only[body_add,addFn,Option.getD_some]
 repeat w_go aX
 refine Goes.stop (fun w₁ h₁=>?_);replace hF:=aX hF h₁;clear h₁;refine⟨rfl,_,stepG_mark0 .disable (by simp) rfl rfl (by k_ne) rfl H.f_disable (x_disable_n L) (x_disable_b L) (x_disable_x L) (x_disable_f L),80,dK ?_⟩
 walk_nrm
 repeat w_go aX
 u_defer aX hF
 repeat w_go aX
 u_bub aX hF
 repeat w_go aX
 u_call H.f_uAdd (nm_uAdd L) uAddFn aX hF
 repeat w_go aX
 refine Goes.stop (fun w₂ h₂=>?_);replace hF:=aX hF h₂;clear h₂;refine⟨rfl,fun v hv hw=>?_⟩
 have hfin:∀{g:Goroutine}{w':World},g=G (b₀.at (a₀.put ((ops₀[i₀]?).bind (·.dst)) (.tuple #[])) (.inRegion ops₀ rest₀::k₀)) cs→iS (G (b₀.at (a₀.put ((ops₀[i₀]?).bind (·.dst)) (.tuple #[])) (.inRegion ops₀ rest₀::k₀)) cs) g w':=fun h=>h
 rcases Nat.eq_zero_or_pos v with rfl|hvp
 ·replace hw:WgAt L.tWg Wg w₂ 0 0:=by simpa using hw
  have z:(((0:Nat):Int)+1)*KK=KK:=by simp
  rw[z]
  have e0:IntKind.u64.wrap (0+4294967296)=KK:=by decide
  refine⟨_,(stepG_add_atomic rfl rfl (by k_ne) rfl H.f_addU64 (x_addU64_n L) (x_addU64_b L) (x_addU64_x L) .u64 (x_addU64_f L) rfl rfl hw.cellSt (hw.thaw 0)).trans (by rw[e0];rfl),_,xF (n':=60) (n:=150) (S:=fun g w=>Goes P true (RL L.tWg Wg) (DL Wg) (zi P L.tWg Wg _) 60 g w∧g.status=.running) RL.refl RL.trans (dK ?_) (fun _ _ x=>x.1) (fun _ _ x=>x.2)⟩;replace hF:WgLive L.tWg Wg (w₂.setCell (stA Wg) (.int .u64 KK)):=⟨_,_,hw.setSt _⟩;clear hw;simp only[KK] at hF ⊢
  walk_nrm
  repeat w_go aX
  u_leave1 H.f_uAdd aX hF
  repeat w_go aX
  u_conv H.underlying_tPU32 H.room_tU32 (Go.ConcN.Gen.WgLive.cell1 hF).choose_spec aX hF
  refine Goes.stop (fun w₃ h₃=>⟨?_,rfl⟩);replace hF:=aX hF h₃;clear h₃;refine Goes.step rfl (fun w₄ h₄=>?_);replace hF:=aX hF h₄;clear h₄;rw[stepG_markAt .read (by simp) rfl rfl (by k_ne) rfl H.f_raceRead (x_raceRead_n L) (x_raceRead_b L) (x_raceRead_x L) (x_raceRead_f L) (ad:=⟨Wg,1,none⟩) (by simp[Act.eval])];simp only[goes_go];refine⟨⟨rfl,fun e he=>.inl (by simpa[smA,mk] using he)⟩,dK ?_⟩
  walk_nrm
  repeat w_go aX
  refine Goes.stop (fun w₃ h₃=>?_);replace hF:=aX hF h₃;clear h₃;refine⟨rfl,_,stepG_unwind_entry (v:=.tuple #[]) (evs:=#[mk .enable]) rfl H.f_enable (x_enable_n L) (x_enable_b L) (x_enable_x L) (x_enable_f L) (by simp[Extern.Race.none_]) (by simp[mk]) (by simp[mk]),9,dK ?_⟩
  u_leave0 H.f_add aX hF
  exact Goes.stop (fun w₃ h₃=>hfin rfl)
 ·obtain⟨V,hV⟩:∃V:Int,V=(v:Int)+1:=⟨_,rfl⟩;obtain⟨S,hS⟩:∃S:Int,S=V*KK:=⟨_,rfl⟩
  have eS:IntKind.u64.wrap ((v:Int)*KK+4294967296)=S:=by rw[IntKind.wrap_u64,hS,hV];simp only[KK];omega
  rw[←hV,←hS]
  have a1:S / 4294967296=V:=by rw[hS];simp only[KK];omega
  have b1:bits .and .u64 S 2147483648=0:=by rw[hS,hV];have:=st_flag (v+1) 0 (by omega) (by omega);simpa[KK] using this
  have b2:bits .and .u64 S 2147483647=0:=by rw[hS,hV];have:=st_waiters (v+1) 0 (by omega) (by omega);simpa[KK] using this
  have c1:IntKind.i32.wrap V=V:=by rw[IntKind.wrap_i32];omega
  have hV1:1<V:=by omega
  have hV2:V<2147483648:=by omega
  have q1:(V==1)=false:=by simp;omega
  have q2:decide (V=1)=false:=decide_eq_false (by omega);have q3:decide (V<0)=false:=decide_eq_false (by omega);have q4:decide (0<V)=true:=decide_eq_true (by omega)
  have q5:(V==0)=false:=by simp;omega
  have q6:decide (V=0)=false:=decide_eq_false (by omega);refine⟨_,(stepG_add_atomic rfl rfl (by k_ne) rfl H.f_addU64 (x_addU64_n L) (x_addU64_b L) (x_addU64_x L) .u64 (x_addU64_f L) rfl rfl hw.cellSt (hw.thaw 0)).trans (by rw[eS];rfl),150,dK ?_⟩;replace hF:WgLive L.tWg Wg (w₂.setCell (stA Wg) (.int .u64 S)):=⟨_,_,hw.setSt _⟩;clear hw hS hV eS
  walk_nrm
  repeat w_go aX
  u_leave1 H.f_uAdd aX hF
  repeat (first|w_go aX|u_cnd false aX hF|u_cnd true aX hF)
  refine Goes.stop (fun w₃ h₃=>?_);replace hF:=aX hF h₃;clear h₃;refine⟨rfl,_,stepG_unwind_entry (v:=.tuple #[]) (evs:=#[mk .enable]) rfl H.f_enable (x_enable_n L) (x_enable_b L) (x_enable_x L) (x_enable_f L) (by simp[Extern.Race.none_]) (by simp[mk]) (by simp[mk]),9,dK ?_⟩
  u_leave0 H.f_add aX hF
  exact Goes.stop (fun w₃ h₃=>hfin rfl)
end
end Go.Fc
namespace Go.Fc
open Go Go.Conc Go.ConcN Go.RowKit Go.Conc.Lib Go.ConcR.Gen Go.ConcM Go.ConcN.Gen
open Go.ConcR (KK wgBlock WgAt stA smA rd wr mk Payload Aside2 DC0)
section
variable{L:WgLink}{Wg:Nat}{b₀:Frame}{a₀:Act}{ops₀:Array Oper}{i₀:Nat}{rest₀:List Nat}{k₀:List Item}{cs:List Frame}
theorem kX{P:Program}(H:WgLib P L)(w:World)(hF:WgLive L.tWg Wg w):Goes P true (RL L.tWg Wg) DC0 (WtK P L.tWg Wg (AnchWN L (fun _=>True) Wg (b₀.at a₀ (.inRegion ops₀ (i₀::rest₀)::k₀)) cs)) 10 (G ((base L.wait).at ⟨#[.pointer (some ⟨Wg,0,none⟩),undef,undef,undef,undef,undef,undef,undef,undef,undef,undef,undef,undef,undef,undef,undef,undef,undef,undef,undef,undef,undef,undef,undef,undef,undef,undef,undef,undef,undef,undef,undef,undef,undef,undef,undef,undef,undef,undef,undef,undef,undef,undef,undef,undef,undef,undef,undef,undef,undef,undef,undef,undef,undef,undef,undef,undef,undef,undef,undef,undef,undef,undef,undef,undef,undef,undef,undef,undef,undef,undef,undef,undef,undef,undef,undef,undef,undef,undef,undef,undef,undef,undef,undef],[]⟩ [.code (body_wait L)]) (b₀.at a₀ (.inRegion ops₀ (i₀::rest₀)::k₀)::cs)) w:=by
 lib_facts
 simp only[body_wait,waitFn,Option.getD_some]
 repeat w_bar aX
 refine Goes.stop (fun w₁ h₁=>?_);replace hF:=aX hF h₁;clear h₁;refine⟨rfl,_,stepG_mark0 .disable (by simp) rfl rfl (by k_ne) rfl H.f_disable (x_disable_n L) (x_disable_b L) (x_disable_x L) (x_disable_f L),20,dK ?_⟩
 walk_nrm
 repeat w_bar aX
 u_c stepG_loop aX hF
 exact Goes.stop (fun w₂ h₂=>⟨_,rfl,by simp,by simp,trivial,aX hF h₂⟩)
theorem Nh{P:Program}(H:WgLib P L)(g:Goroutine)(w:World)(h:AnchWN L (fun _=>True) Wg (b₀.at a₀ (.inRegion ops₀ (i₀::rest₀)::k₀)) cs g w):Goes P true (RL L.tWg Wg) DC0 (Wt1 P L.tWg Wg (G (b₀.at (a₀.put ((ops₀[i₀]?).bind (·.dst)) (.tuple #[])) (.inRegion ops₀ rest₀::k₀)) cs) (AnchWN L (fun _=>True) Wg (b₀.at a₀ (.inRegion ops₀ (i₀::rest₀)::k₀)) cs)) 40 g w:=by
 lib_facts
 obtain⟨T,rfl,hT84,t0,_,hF⟩:=h;obtain⟨v0,v1,v2,v3,v4,v5,v6,v7,v8,v9,v10,v11,v12,v13,v14,v15,v16,v17,v18,v19,v20,v21,v22,v23,v24,v25,v26,v27,v28,v29,v30,v31,v32,v33,v34,v35,v36,v37,v38,v39,v40,v41,v42,v43,v44,v45,v46,v47,v48,v49,v50,v51,v52,v53,v54,v55,v56,v57,v58,v59,v60,v61,v62,v63,v64,v65,v66,v67,v68,v69,v70,v71,v72,v73,v74,v75,v76,v77,v78,v79,v80,v81,v82,v83,rfl⟩:=array84 T hT84;simp only[List.getElem?_toArray,List.getElem?_cons_zero,Option.some.injEq] at t0;subst t0;simp only[L7,body_wait,waitFn,Option.getD_some]
 have hfin:∀{g:Goroutine}{w':World},g=(G (b₀.at (a₀.put ((ops₀[i₀]?).bind (·.dst)) (.tuple #[])) (.inRegion ops₀ rest₀::k₀)) cs)→iS (G (b₀.at (a₀.put ((ops₀[i₀]?).bind (·.dst)) (.tuple #[])) (.inRegion ops₀ rest₀::k₀)) cs) g w':=fun h=>h
 repeat w_nl aX
 u_call H.f_uLoad (nm_uLoad L) uLoadFn aX hF
 repeat w_nl aX
 refine Goes.stop (fun w₁ h₁=>?_);replace hF:=aX hF h₁;clear h₁;refine⟨rfl,fun v hv hw=>?_⟩
 rcases Nat.eq_zero_or_pos v with rfl|hvp
 ·replace hw:WgAt L.tWg Wg w₁ 0 0:=by simpa using hw
  refine⟨_,stepG_load_atomic (v:=0) rfl rfl (by k_ne) rfl H.f_loadU64 (x_loadU64_n L) (x_loadU64_b L) (x_loadU64_x L) .u64 (x_loadU64_f L) rfl hw.cellSt,fun _=>⟨80,dK ?_⟩,fun h=>absurd rfl h⟩;clear hw
  walk_nrm
  repeat w_nl aX
  u_leave1 H.f_uLoad aX hF
  repeat w_nl aX
  refine Goes.stop (fun w₅ h₅=>?_);replace hF:=aX hF h₅;clear h₅;refine⟨rfl,_,stepG_mark0 .enable (by simp) rfl rfl (by k_ne) rfl H.f_enable (x_enable_n L) (x_enable_b L) (x_enable_x L) (x_enable_f L),30,dK ?_⟩
  walk_nrm
  repeat w_nl aX
  u_conv H.underlying_tWgP H.room_tWg (Go.ConcN.Gen.WgLive.cell0 hF).choose_spec aX hF
  refine Goes.stop (fun w₆ h₆=>?_);replace hF:=aX hF h₆;clear h₆;refine⟨rfl,_,stepG_markAt .acquire (by simp) rfl rfl (by k_ne) rfl H.f_acquire (x_acquire_n L) (x_acquire_b L) (x_acquire_x L) (x_acquire_f L) (by simp[Act.eval,stA]),40,dK ?_⟩
  walk_nrm
  repeat w_nl aX
  u_leave0 H.f_wait aX hF
  exact Goes.stop (fun w₃ h₃=>hfin rfl)
 ·obtain⟨S,hS⟩:∃S:Int,(v:Int)*KK=S:=⟨_,rfl⟩
  have a1:S / 4294967296=(v:Int):=by rw[←hS];simp only[KK];omega
  have b1:bits .and .u64 S 2147483648=0:=by rw[←hS];have:=st_flag v 0 (by omega) (by omega);simpa[KK] using this
  have b2:bits .and .u64 S 2147483647=0:=by rw[←hS];have:=st_waiters v 0 (by omega) (by omega);simpa[KK] using this
  have c1:IntKind.i32.wrap (v:Int)=(v:Int):=by rw[IntKind.wrap_i32];omega
  have w1:IntKind.u64.wrap (S+1)=S+1:=by rw[IntKind.wrap_u64,←hS];simp only[KK];omega
  have q3:decide ((v:Int)<0)=false:=decide_eq_false (by omega);have q4:decide (0<(v:Int))=true:=decide_eq_true (by omega)
  have q5:((v:Int)==0)=false:=by simp;omega
  have q6:decide ((v:Int)=0)=false:=decide_eq_false (by omega);rw[hS] at hw;refine⟨_,stepG_load_atomic (v:=S) rfl rfl (by k_ne) rfl H.f_loadU64 (x_loadU64_n L) (x_loadU64_b L) (x_loadU64_x L) .u64 (x_loadU64_f L) rfl hw.cellSt,fun h0=>absurd h0 (by omega),fun _=>⟨90,dK ?_⟩⟩;clear hw
  walk_nrm
  repeat w_nl aX
  u_leave1 H.f_uLoad aX hF
  repeat (first|w_nl aX|u_cnd false aX hF|u_call H.f_uCas (nm_uCas L) uCasFn aX hF)
  refine Goes.stop (fun w₂ h₂=>?_);replace hF:=aX hF h₂;clear h₂;refine⟨rfl,fun v' hv' hw=>⟨fun e=>?_,fun e=>?_⟩⟩
  ·subst e;rw[hS] at hw ⊢;refine⟨_,(stepG_cas_hit (v:=S) (n:=S+1) rfl rfl (by k_ne) rfl H.f_casU64 (x_casU64_n L) (x_casU64_b L) (x_casU64_x L) .u64 (x_casU64_f L) rfl rfl rfl hw.cellSt (hw.thaw 0)).trans (by rfl),_,xF (n':=70) (n:=80) (S:=fun g w=>Goes P true (RL L.tWg Wg) (DL Wg) (Wt3 P L.tWg Wg (G (b₀.at (a₀.put ((ops₀[i₀]?).bind (·.dst)) (.tuple #[])) (.inRegion ops₀ rest₀::k₀)) cs)) 70 g w∧g.status=.running) RL.refl RL.trans (dK ?_) (fun _ _ x=>x.1) (fun _ _ x=>x.2)⟩;replace hF:WgLive L.tWg Wg (w₂.setCell (stA Wg) (.int .u64 (S+1))):=⟨_,_,hw.setSt _⟩;clear hw
   walk_nrm
   repeat w_nl aX
   u_leave1 H.f_uCas aX hF
   repeat w_nl aX
   u_conv H.underlying_tPU32 H.room_tU32 (Go.ConcN.Gen.WgLive.cell1 hF).choose_spec aX hF
   refine Goes.stop (fun w₃ h₃=>⟨?_,rfl⟩);replace hF:=aX hF h₃;clear h₃;refine Goes.step rfl (fun w₄ h₄=>?_);replace hF:=aX hF h₄;clear h₄;rw[stepG_markAt .write (by simp) rfl rfl (by k_ne) rfl H.f_raceWrite (x_raceWrite_n L) (x_raceWrite_b L) (x_raceWrite_x L) (x_raceWrite_f L) (ad:=⟨Wg,1,none⟩) (by simp[Act.eval])];simp only[goes_go];refine⟨⟨rfl,fun e he=>.inr (by simpa[smA,mk] using he)⟩,dK ?_⟩
   walk_nrm
   repeat w_nl aX
   refine Goes.stop (fun w₃ h₃=>?_);replace hF:=aX hF h₃;clear h₃;refine⟨rfl,rfl,fun ⟨st,hw⟩=>stepG_semacquire_wait rfl rfl rfl H.f_semacquire (x_semacquire_n L) (x_semacquire_b L) (x_semacquire_x L) (x_semacquire_f L) (by simp[Act.eval,smA]) hw.cellSm,fun hf=>?_⟩;refine⟨_,(stepG_semacquire (n:=1) rfl rfl (by k_ne) rfl H.f_semacquire (x_semacquire_n L) (x_semacquire_b L) (x_semacquire_x L) (x_semacquire_f L) (by simp[Act.eval,smA]) hf.cellSm (by k_ne) (hf.thaw 1)).trans (by rfl),60,dK ?_⟩;replace hF:WgLive L.tWg Wg (w₃.setCell (smA Wg) (.int .u32 0)):=⟨_,_,hf.setSm 0⟩;clear hf
   walk_nrm
   repeat w_nl aX
   u_call H.f_uLoad (nm_uLoad L) uLoadFn aX hF
   repeat w_nl aX
   refine Goes.stop (fun w₄ h₄=>?_);replace hF:=aX hF h₄;clear h₄;refine⟨rfl,fun hw=>⟨_,stepG_load_atomic (v:=0) rfl rfl (by k_ne) rfl H.f_loadU64 (x_loadU64_n L) (x_loadU64_b L) (x_loadU64_x L) .u64 (x_loadU64_f L) rfl hw.cellSt,60,dK ?_⟩⟩;clear hw
   walk_nrm
   repeat w_nl aX
   u_leave1 H.f_uLoad aX hF
   repeat w_nl aX
   refine Goes.stop (fun w₅ h₅=>?_);replace hF:=aX hF h₅;clear h₅;refine⟨rfl,_,stepG_mark0 .enable (by simp) rfl rfl (by k_ne) rfl H.f_enable (x_enable_n L) (x_enable_b L) (x_enable_x L) (x_enable_f L),30,dK ?_⟩
   walk_nrm
   repeat w_nl aX
   u_conv H.underlying_tWgP H.room_tWg (Go.ConcN.Gen.WgLive.cell0 hF).choose_spec aX hF
   refine Goes.stop (fun w₆ h₆=>?_);replace hF:=aX hF h₆;clear h₆;refine⟨rfl,_,stepG_markAt .acquire (by simp) rfl rfl (by k_ne) rfl H.f_acquire (x_acquire_n L) (x_acquire_b L) (x_acquire_x L) (x_acquire_f L) (by simp[Act.eval,stA]),40,dK ?_⟩
   walk_nrm
   repeat w_nl aX
   u_leave0 H.f_wait aX hF
   exact Goes.stop (fun w₃ h₃=>hfin rfl)
  ·refine⟨_,stepG_cas_miss (v:=(v':Int)*KK) (old:=S) (n:=S+1) rfl rfl (by k_ne) rfl H.f_casU64 (x_casU64_n L) (x_casU64_b L) (x_casU64_x L) .u64 (x_casU64_f L) rfl rfl rfl hw.cellSt (hw.thaw 0) (by rw[←hS];simp only[KK];omega),30,dK ?_⟩;clear hw
   walk_nrm
   repeat w_nl aX
   u_leave1 H.f_uCas aX hF
   repeat w_nl aX
   u_c stepG_inLoop aX hF
   refine Goes.stop (fun w₃ h₃=>?_);replace hF:=aX hF h₃;exact⟨_,rfl,by simp,by simp,trivial,hF⟩
end
section
variable{P:Program}{R:World→World→Prop}{D:World→World→Array Event→Prop}{S:Goroutine→World→Prop}{rm:Mark}
def zn(P:Program)(g:Goroutine)(w:World):Prop:=g.status=.running∧∃g',stepG P false g w=.go g' w #[mk .disable]
def zo(P:Program)(R:World→World→Prop)(rm:Mark)(g:Goroutine)(w:World):Prop:=g.status=.running∧∃g',stepG P false g w=.go g' w #[mk rm]∧∃n,Goes P false R DC0 (zn P) n g' w
theorem Ni(rf:∀w,R w w)(hS:∀g w,S g w→∃g',stepG P false g w=.go g' w #[mk rm])(hrm:rm≠.disable)(hD:∀w w' es,D w w' es→∀e∈es,e.loc≠.mark .disable):∀(k n:Nat)(g:Goroutine)(w:World),Goes P false R D S n g w→Goes P false R DC0 (zn P) k g w→False:=by
 have stop:∀(n:Nat)(g:Goroutine)(w:World),Goes P false R D S n g w→zn P g w→False:=by
  intro n g w hk ⟨_,g',hd⟩
  rcases Goes.cases hk with hs|⟨n',rfl,hst⟩
  ·obtain⟨g2,h2⟩:=hS g w (hs w (rf w));rw[hd] at h2
   injection h2 with _ _ h3
   have:mk .disable=mk rm:=by simpa using h3
   simp[mk] at this;exact hrm this.symm
  ·obtain⟨g2,w2,es,h2,h3,_⟩:=hst w (rf w);rw[hd] at h2
   injection h2 with _ _ h4
   subst h4;exact hD _ _ _ h3 (mk .disable) (by simp) rfl
 intro k
 induction k with
 |zero=>intro n g w hk hm;exact stop n g w hk (hm w (rf w))
 |succ k ih=>
  intro n g w hk hm
  rcases hm with hm|⟨hr,hm⟩
  ·exact stop n g w hk (hm w (rf w))
  ·have hx:=hm w (rf w)
   cases hgo:stepG P false g w with
   |go g' w' es=>
    rw[hgo,goes_go] at hx;obtain⟨⟨rfl,rfl⟩,hm'⟩:=hx
    rcases Goes.cases hk with hs|⟨n',rfl,hst⟩
    ·obtain⟨g2,h2⟩:=hS g w' (hs w' (rf w'));rw[hgo] at h2
     injection h2 with _ _ h3
     simp at h3
    ·obtain⟨g2,w2,es,h2,h3,h4⟩:=hst w' (rf w');rw[hgo] at h2
     injection h2 with e1 e2 e3
     subst e1;subst e2;exact ih n' _ _ h4 hm'
   |_=>rw[hgo] at hx;exact hx.elim
theorem conv(rf:∀w,R w w)(tr:∀a b c,R a b→R b c→R a c)(hS:∀g w,S g w→∃g',stepG P false g w=.go g' w #[mk rm])(hrm:rm≠.disable)(hD:∀w w' es,D w w' es→∀e∈es,e.loc≠.mark .disable):∀(m n:Nat)(g:Goroutine)(w:World),Goes P false R D S n g w→Goes P false R DC0 (zo P R rm) m g w→Goes P false R DC0 S m g w:=by
 have stop:∀(n:Nat)(g:Goroutine)(w:World),Goes P false R D S n g w→zo P R rm g w→S g w:=by
  intro n g w hk ⟨_,g',hd,k,hdis⟩
  rcases Goes.cases hk with hs|⟨n',rfl,hst⟩
  ·exact hs w (rf w)
  ·obtain⟨g2,w2,es,h2,h3,h4⟩:=hst w (rf w);rw[hd] at h2
   injection h2 with e1 e2 e3
   subst e1;subst e2;exact (Ni rf hS hrm hD _ _ _ _ h4 hdis).elim
 intro m
 induction m with
 |zero=>intro n g w hk hm;exact fun w₁ h₁=>stop n g w₁ (Goes.rely tr hk h₁) (hm w₁ h₁)
 |succ m ih=>
  intro n g w hk hm
  rcases hm with hm|⟨hr,hm⟩
  ·exact .inl fun w₁ h₁=>stop n g w₁ (Goes.rely tr hk h₁) (hm w₁ h₁)
  ·refine .inr ⟨hr,fun w₁ h₁=>?_⟩;have hx:=hm w₁ h₁
   cases hgo:stepG P false g w₁ with
   |go g' w' es=>
    rw[hgo,goes_go] at hx;rw[goes_go];obtain⟨⟨rfl,rfl⟩,hm'⟩:=hx;refine⟨⟨rfl,rfl⟩,?_⟩
    rcases Goes.cases (Goes.rely tr hk h₁) with hs|⟨n',rfl,hst⟩
    ·obtain⟨g2,h2⟩:=hS g w' (hs w' (rf w'));rw[hgo] at h2
     injection h2 with _ _ h3
     simp at h3
    ·obtain⟨g2,w2,es,h2,h3,h4⟩:=hst w' (rf w');rw[hgo] at h2
     injection h2 with e1 e2 e3
     subst e1;subst e2;exact ih n' _ _ h4 hm'
   |_=>rw[hgo] at hx;exact hx.elim
end
section
variable[Payload]{L:WgLink}{Wg C n Low k:Nat}{val:Value}
theorem oh{w w₁:World}{i:Nat}(h:WgLive L.tWg Wg w)(r:RW L.tWg Wg C n Low i w w₁):WgLive L.tWg Wg w₁:=r.live h
theorem Nj{P:Program}(H:WgLib P L){c:Frame}{cs:List Frame}(w:World)(hF:WgLive L.tWg Wg w):Goes P false (RW L.tWg Wg C n Low (k-1)) DC0 (zo P (RW L.tWg Wg C n Low (k-1)) (.releaseMerge (stA Wg))) 40 (G ((baseD L.done).at ⟨#[.pointer (some ⟨Wg,0,none⟩),undef,undef,undef],[]⟩ [.code (body_done L)]) (c::cs)) w:=by
 lib_facts
 simp only[body_done,doneFn,Option.getD_some]
 repeat w_go oh
 u_in oh hF
 refine goes_call rfl rfl (by k_ne) rfl H.f_add (nm_add L) rfl ⟨by u_nil,?_⟩
 walk_nrmf addFn
 repeat w_go oh
 u_conv H.underlying_tWgP H.room_tWg (Go.ConcN.Gen.WgLive.cell0 hF).choose_spec oh hF
 refine Goes.stop (fun w₁ h₁=>?_);replace hF:=oh hF h₁;clear h₁;refine⟨rfl,_,stepG_markAt .releaseMerge (by simp) rfl rfl (by k_ne) rfl H.f_relMerge (x_relMerge_n L) (x_relMerge_b L) (x_relMerge_x L) (x_relMerge_f L) (by simp[Act.eval,stA]),20,?_⟩
 walk_nrm
 repeat w_go oh
 refine Goes.stop (fun w₂ h₂=>?_);exact⟨rfl,_,stepG_mark0 .disable (by simp) rfl rfl (by k_ne) rfl H.f_disable (x_disable_n L) (x_disable_b L) (x_disable_x L) (x_disable_f L)⟩
theorem Nk{P:Program}(H:WgLib P L){c:Frame}{cs:List Frame}{qt:Nat}(hcm:c.mode=.returning)(hT:QuitsD P qt 0 (G c cs))(w:World)(hK:WgLive L.tWg Wg w∧Has C (k-1) val w):Goes P false (RW L.tWg Wg C n Low (k-1)) DC0 (AtR0 P L.tWg Wg C n Low k val) 40 (G ((baseD L.done).at ⟨#[.pointer (some ⟨Wg,0,none⟩),undef,undef,undef],[]⟩ [.code (body_done L)]) (c::cs)) w:=by
 refine conv (D:=DWs Wg noL noL C n k) (rm:=.releaseMerge (stA Wg)) (fun w=>RW.refl w) (fun _ _ _ a b=>a.trans b) (fun g w h=>?_) (by simp) (fun w w' es h e he=>(h.2 e he).2.1) 40 23 _ w (doneN H hcm hT w hK) (Nj H w hK.1);obtain⟨_,_,g',h1,_⟩:=h;exact⟨g',h1⟩
end
end Go.Fc
