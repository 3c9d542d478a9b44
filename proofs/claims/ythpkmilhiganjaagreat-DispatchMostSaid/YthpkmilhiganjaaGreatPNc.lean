/- Lemmas. -/
import Derived.Test.YthpkmilhiganjaaGreatPNb
import Derived.Conc.WgGenN3
import Derived.Conc.MuWords
import Derived.Conc.WgGenDone
set_option linter.all false
set_option maxHeartbeats 32000000
set_option maxRecDepth 100000
namespace Go.Fc
open Go Go.Conc Go.ConcN Go.RowKit Go.Conc.Lib Go.ConcR.Gen Go.ConcM
open Go.ConcR (KK wgBlock WgAt stA smA rd wr mk Payload Aside2 DC0)
theorem cK{ty:TypeId}{Wg:Nat}{w h5:World}(h:WgLive ty Wg w)(r:RL ty Wg w h5):WgLive ty Wg h5:=r h
section
variable{P:Program}{main:Bool}{R:World->World->Prop}{D D':World->World->Array Event->Prop}{S S':Goroutine->World->Prop}
theorem Gp(hD:∀w w' es,D w w' es->D' w w' es):∀{n:Nat}{g:Goroutine}{w:World},Goes P main R D S n g w->Goes P main R D' S n g w
 |0,_,_,h=>h
 |n+1,g,w,h=>by
  rcases h with h|⟨hs,h⟩
  .exact .inl h
  .refine .inr ⟨hs,λh5 h8=>?_⟩;have:=h h5 h8
   revert this
   cases stepG P main g h5<;>simp only[GStep.goes,imp_self]
   exactλ⟨d,x⟩=>⟨hD _ _ _ d,Gp hD x⟩
theorem gr{Wg:Nat}{n:Nat}{g:Goroutine}{w:World}(h:Goes P main R DC0 S n g w):Goes P main R (DL Wg) S n g w:=Gp (λ_ _ _ x=>⟨x.1,by rw[x.2];simp⟩) h
theorem Bo(rf:∀w,R w w)(tr:∀a b c,R a b->R b c->R a c){n':Nat}:∀{n:Nat}{g:Goroutine}{w:World},Goes P main R D S n g w->(∀g w,S g w->Goes P main R D S' n' g w)->(∀g w,S g w->g.status=.running)->Goes P main R D S' (n'+n) g w
 |0,g,w,h,hk,hr=>hk g w (h w (rf w))
 |n+1,g,w,h,hk,hr=>by
  rcases h with h|⟨hs,h⟩
  .exact goes_pad (hk g w (h w (rf w))) (n+1)
  .refine .inr ⟨hs,λh5 h8=>?_⟩;have:=h h5 h8
   revert this
   cases stepG P main g h5<;>simp only[GStep.goes,imp_self]
   exactλ⟨d,x⟩=>⟨d,Bo rf tr x hk hr⟩
end
section
variable{L:WgLink}{Wg:Nat}{b₀:Frame}{a₀:Act}{ops₀:Array Oper}{i₀:Nat}{rest₀:List Nat}{k₀:List Item}{cs:List Frame}
theorem Sk{P:Program}(H:WgLib P L)(w:World)(hF:WgLive L.tWg Wg w):Goes P true (RL L.tWg Wg) DC0 (xU P L.tWg Wg (G (b₀.at (a₀.put ((ops₀[i₀]?).bind (·.dst)) (.tuple #[])) (.inRegion ops₀ rest₀::k₀)) cs)) 60 (G ((base L.add).at ⟨#[.pointer (some ⟨Wg,0,none⟩),.int .i64 1,undef,undef,undef,undef,undef,undef,undef,undef,undef,undef,undef,undef,undef,undef,undef,undef,undef,undef,undef,undef,undef,undef,undef,undef,undef,undef,undef,undef,undef,undef,undef,undef,undef,undef,undef,undef,undef,undef,undef,undef,undef,undef,undef,undef,undef,undef,undef,undef,undef,undef,undef,undef,undef,undef,undef,undef,undef,undef,undef,undef,undef,undef,undef,undef,undef,undef,undef,undef,undef,undef,undef,undef,undef,undef,undef,undef,undef,undef,undef,undef,undef,undef,undef,undef,undef,undef,undef,undef,undef,undef,undef,undef,undef,undef,undef,undef,undef,undef,undef,undef,undef,undef,undef,undef,undef,undef,undef,undef,undef,undef,undef,undef,undef,undef,undef],[]⟩ [.code (body_add L)]) (b₀.at a₀ (.inRegion ops₀ (i₀::rest₀)::k₀)::cs)) w:=by
 lib_facts
 simp only[body_add,addFn,oR]
 repeat w_go cK
 refine Goes.stop (λh5 h8=>?_);replace hF:=cK hF h8;clear h8;refine⟨rfl,_,stepG_mark0 .disable ae rfl rfl (by k_ne) rfl H.f_disable (x_disable_n L) (x_disable_b L) (x_disable_x L) (x_disable_f L),80,gr ?_⟩
 walk_nrm
 repeat w_go cK
 u_defer cK hF
 repeat w_go cK
 u_bub cK hF
 repeat w_go cK
 u_call H.f_uAdd (nm_uAdd L) uAddFn cK hF
 repeat w_go cK
 refine Goes.stop (λhb hh=>?_);replace hF:=cK hF hh;clear hh;refine⟨rfl,λv hv hw=>?_⟩
 have hc:∀{g:Goroutine}{w':World},g=G (b₀.at (a₀.put ((ops₀[i₀]?).bind (·.dst)) (.tuple #[])) (.inRegion ops₀ rest₀::k₀)) cs->mQ (G (b₀.at (a₀.put ((ops₀[i₀]?).bind (·.dst)) (.tuple #[])) (.inRegion ops₀ rest₀::k₀)) cs) g w':=λh=>h
 rcases ll v with rfl|hvp
 .replace hw:WgAt L.tWg Wg hb 0 0:=by grind
  have z:(((0:Nat):Int)+1)*KK=KK:=ae
  rw[z]
  have e0:IntKind.u64.wrap (0+4294967296)=KK:=af
  refine⟨_,(stepG_add_atomic rfl rfl (by k_ne) rfl H.f_addU64 (x_addU64_n L) (x_addU64_b L) (x_addU64_x L) .u64 (x_addU64_f L) rfl rfl hw.cellSt (hw.thaw 0)).trans (by rw[e0];rfl),_,Bo (n':=60) (n:=150) (S:=λg w=>Goes P true (RL L.tWg Wg) (DL Wg) (CR P L.tWg Wg _) 60 g w/\g.status=.running) RL.refl RL.trans (gr ?_) (λ_ _ x=>x.1) (λ_ _ x=>x.2)⟩;replace hF:WgLive L.tWg Wg (hb.setCell (stA Wg) (.int .u64 KK)):=⟨_,_,hw.setSt _⟩;clear hw;simp only[KK] at hF ⊢
  walk_nrm
  repeat w_go cK
  u_leave1 H.f_uAdd cK hF
  repeat w_go cK
  u_conv H.underlying_tPU32 H.room_tU32 (Go.ConcN.Gen.WgLive.cell1 hF).choose_spec cK hF
  refine Goes.stop (λh' h9=>⟨?_,rfl⟩);replace hF:=cK hF h9;clear h9;refine Goes.step rfl (λho ha=>?_);replace hF:=cK hF ha;clear ha;rw[stepG_markAt .read ae rfl rfl (by k_ne) rfl H.f_raceRead (x_raceRead_n L) (x_raceRead_b L) (x_raceRead_x L) (x_raceRead_f L) (ad:=⟨Wg,1,none⟩) (by simp[Act.eval])];simp only[goes_go];refine⟨⟨rfl,λe he=>.inl (by simpa[smA,mk] using he)⟩,gr ?_⟩
  walk_nrm
  repeat w_go cK
  refine Goes.stop (λh' h9=>?_);replace hF:=cK hF h9;clear h9;refine⟨rfl,_,stepG_unwind_entry (v:=.tuple #[]) (evs:=#[mk .enable]) rfl H.f_enable (x_enable_n L) (x_enable_b L) (x_enable_x L) (x_enable_f L) (by rfl) (by simp[mk]) (by simp[mk]),9,gr ?_⟩
  u_leave0 H.f_add cK hF
  exact Goes.stop (λh' h9=>hc rfl)
 .obtain⟨V,hV⟩:∃V:Int,V=(v:Int)+1:=⟨_,rfl⟩;obtain⟨S,hS⟩:∃S:Int,S=V*KK:=⟨_,rfl⟩
  have eS:IntKind.u64.wrap ((v:Int)*KK+4294967296)=S:=by rw[IntKind.wrap_u64,hS,hV];simp only[KK];omega
  rw[<-hV,<-hS]
  have a1:S / 4294967296=V:=by rw[hS];simp only[KK];omega
  have b1:bits .and .u64 S 2147483648=0:=by rw[hS,hV];have:=st_flag (v+1) 0 ab ab;simpa[KK] using this
  have b2:bits .and .u64 S 2147483647=0:=by rw[hS,hV];have:=st_waiters (v+1) 0 ab ab;simpa[KK] using this
  have c1:IntKind.i32.wrap V=V:=by rw[IntKind.wrap_i32];omega
  have hV1:1<V:=ab
  have hV2:V<2147483648:=ab
  have q1:(V==1)=false:=ar
  have q2:decide (V=1)=false:=decide_eq_false ab;have q3:decide (V<0)=false:=decide_eq_false ab;have q4:decide (0<V)=true:=decide_eq_true ab
  have q5:(V==0)=false:=ar
  have q6:decide (V=0)=false:=decide_eq_false ab;refine⟨_,(stepG_add_atomic rfl rfl (by k_ne) rfl H.f_addU64 (x_addU64_n L) (x_addU64_b L) (x_addU64_x L) .u64 (x_addU64_f L) rfl rfl hw.cellSt (hw.thaw 0)).trans (by rw[eS];rfl),150,gr ?_⟩;replace hF:WgLive L.tWg Wg (hb.setCell (stA Wg) (.int .u64 S)):=⟨_,_,hw.setSt _⟩;clear hw hS hV eS
  walk_nrm
  repeat w_go cK
  u_leave1 H.f_uAdd cK hF
  repeat (first|w_go cK|u_cnd false cK hF|u_cnd true cK hF)
  refine Goes.stop (λh' h9=>?_);replace hF:=cK hF h9;clear h9;refine⟨rfl,_,stepG_unwind_entry (v:=.tuple #[]) (evs:=#[mk .enable]) rfl H.f_enable (x_enable_n L) (x_enable_b L) (x_enable_x L) (x_enable_f L) (by rfl) (by simp[mk]) (by simp[mk]),9,gr ?_⟩
  u_leave0 H.f_add cK hF
  exact Goes.stop (λh' h9=>hc rfl)
end
end Go.Fc
namespace Go.Fc
open Go Go.Conc Go.ConcN Go.RowKit Go.Conc.Lib Go.ConcR.Gen Go.ConcM Go.ConcN.Gen
open Go.ConcR (KK wgBlock WgAt stA smA rd wr mk Payload Aside2 DC0)
section
variable{L:WgLink}{Wg:Nat}{b₀:Frame}{a₀:Act}{ops₀:Array Oper}{i₀:Nat}{rest₀:List Nat}{k₀:List Item}{cs:List Frame}
theorem sQ{P:Program}(H:WgLib P L)(w:World)(hF:WgLive L.tWg Wg w):Goes P true (RL L.tWg Wg) DC0 (WtK P L.tWg Wg (AnchWN L (λ_=>True) Wg (b₀.at a₀ (.inRegion ops₀ (i₀::rest₀)::k₀)) cs)) 10 (G ((base L.wait).at ⟨#[.pointer (some ⟨Wg,0,none⟩),undef,undef,undef,undef,undef,undef,undef,undef,undef,undef,undef,undef,undef,undef,undef,undef,undef,undef,undef,undef,undef,undef,undef,undef,undef,undef,undef,undef,undef,undef,undef,undef,undef,undef,undef,undef,undef,undef,undef,undef,undef,undef,undef,undef,undef,undef,undef,undef,undef,undef,undef,undef,undef,undef,undef,undef,undef,undef,undef,undef,undef,undef,undef,undef,undef,undef,undef,undef,undef,undef,undef,undef,undef,undef,undef,undef,undef,undef,undef,undef,undef,undef,undef],[]⟩ [.code (body_wait L)]) (b₀.at a₀ (.inRegion ops₀ (i₀::rest₀)::k₀)::cs)) w:=by
 lib_facts
 simp only[body_wait,waitFn,oR]
 repeat w_bar cK
 refine Goes.stop (λh5 h8=>?_);replace hF:=cK hF h8;clear h8;refine⟨rfl,_,stepG_mark0 .disable ae rfl rfl (by k_ne) rfl H.f_disable (x_disable_n L) (x_disable_b L) (x_disable_x L) (x_disable_f L),20,gr ?_⟩
 walk_nrm
 repeat w_bar cK
 u_c stepG_loop cK hF
 exact Goes.stop (λhb hh=>⟨_,rfl,ae,ae,trivial,cK hF hh⟩)
theorem Sm{P:Program}(H:WgLib P L)(g:Goroutine)(w:World)(h:AnchWN L (λ_=>True) Wg (b₀.at a₀ (.inRegion ops₀ (i₀::rest₀)::k₀)) cs g w):Goes P true (RL L.tWg Wg) DC0 (Wt1 P L.tWg Wg (G (b₀.at (a₀.put ((ops₀[i₀]?).bind (·.dst)) (.tuple #[])) (.inRegion ops₀ rest₀::k₀)) cs) (AnchWN L (λ_=>True) Wg (b₀.at a₀ (.inRegion ops₀ (i₀::rest₀)::k₀)) cs)) 40 g w:=by
 lib_facts
 obtain⟨T,rfl,hT84,t0,_,hF⟩:=h;obtain⟨v0,v1,v2,v3,v4,v5,v6,v7,v8,v9,v10,v11,v12,v13,v14,v15,v16,v17,v18,v19,v20,v21,v22,v23,v24,v25,v26,v27,v28,v29,v30,v31,v32,v33,v34,v35,v36,v37,v38,v39,v40,v41,v42,v43,v44,v45,v46,v47,v48,v49,v50,v51,v52,v53,v54,v55,v56,v57,v58,v59,v60,v61,v62,v63,v64,v65,v66,v67,v68,v69,v70,v71,v72,v73,v74,v75,v76,v77,v78,v79,v80,v81,v82,v83,rfl⟩:=array84 T hT84;simp only[yC,Dz,db] at t0;subst t0;simp only[L7,body_wait,waitFn,oR]
 have hc:∀{g:Goroutine}{w':World},g=(G (b₀.at (a₀.put ((ops₀[i₀]?).bind (·.dst)) (.tuple #[])) (.inRegion ops₀ rest₀::k₀)) cs)->mQ (G (b₀.at (a₀.put ((ops₀[i₀]?).bind (·.dst)) (.tuple #[])) (.inRegion ops₀ rest₀::k₀)) cs) g w':=λh=>h
 repeat w_nl cK
 u_call H.f_uLoad (nm_uLoad L) uLoadFn cK hF
 repeat w_nl cK
 refine Goes.stop (λh5 h8=>?_);replace hF:=cK hF h8;clear h8;refine⟨rfl,λv hv hw=>?_⟩
 rcases ll v with rfl|hvp
 .replace hw:WgAt L.tWg Wg h5 0 0:=by grind
  refine⟨_,stepG_load_atomic (v:=0) rfl rfl (by k_ne) rfl H.f_loadU64 (x_loadU64_n L) (x_loadU64_b L) (x_loadU64_x L) .u64 (x_loadU64_f L) rfl hw.cellSt,λ_=>⟨80,gr ?_⟩,λh=>absurd rfl h⟩;clear hw
  walk_nrm
  repeat w_nl cK
  u_leave1 H.f_uLoad cK hF
  repeat w_nl cK
  refine Goes.stop (λhy hg=>?_);replace hF:=cK hF hg;clear hg;refine⟨rfl,_,stepG_mark0 .enable ae rfl rfl (by k_ne) rfl H.f_enable (x_enable_n L) (x_enable_b L) (x_enable_x L) (x_enable_f L),30,gr ?_⟩
  walk_nrm
  repeat w_nl cK
  u_conv H.underlying_tWgP H.room_tWg (Go.ConcN.Gen.WgLive.cell0 hF).choose_spec cK hF
  refine Goes.stop (λa4 hi=>?_);replace hF:=cK hF hi;clear hi;refine⟨rfl,_,stepG_markAt .acquire ae rfl rfl (by k_ne) rfl H.f_acquire (x_acquire_n L) (x_acquire_b L) (x_acquire_x L) (x_acquire_f L) (by simp[Act.eval,stA]),40,gr ?_⟩
  walk_nrm
  repeat w_nl cK
  u_leave0 H.f_wait cK hF
  exact Goes.stop (λh' h9=>hc rfl)
 .obtain⟨S,hS⟩:∃S:Int,(v:Int)*KK=S:=⟨_,rfl⟩
  have a1:S / 4294967296=(v:Int):=by rw[<-hS];simp only[KK];omega
  have b1:bits .and .u64 S 2147483648=0:=by rw[<-hS];have:=st_flag v 0 ab ab;simpa[KK] using this
  have b2:bits .and .u64 S 2147483647=0:=by rw[<-hS];have:=st_waiters v 0 ab ab;simpa[KK] using this
  have c1:IntKind.i32.wrap (v:Int)=(v:Int):=by rw[IntKind.wrap_i32];omega
  have w1:IntKind.u64.wrap (S+1)=S+1:=by rw[IntKind.wrap_u64,<-hS];omega
  have q3:decide ((v:Int)<0)=false:=decide_eq_false ab;have q4:decide (0<(v:Int))=true:=decide_eq_true ab
  have q5:((v:Int)==0)=false:=ar
  have q6:decide ((v:Int)=0)=false:=decide_eq_false ab;rw[hS] at hw;refine⟨_,stepG_load_atomic (v:=S) rfl rfl (by k_ne) rfl H.f_loadU64 (x_loadU64_n L) (x_loadU64_b L) (x_loadU64_x L) .u64 (x_loadU64_f L) rfl hw.cellSt,λh0=>absurd h0 ab,λ_=>⟨90,gr ?_⟩⟩;clear hw
  walk_nrm
  repeat w_nl cK
  u_leave1 H.f_uLoad cK hF
  repeat (first|w_nl cK|u_cnd false cK hF|u_call H.f_uCas (nm_uCas L) uCasFn cK hF)
  refine Goes.stop (λhb hh=>?_);replace hF:=cK hF hh;clear hh;refine⟨rfl,λv' a' hw=>⟨λe=>?_,λe=>?_⟩⟩
  .subst e;rw[hS] at hw ⊢;refine⟨_,(stepG_cas_hit (v:=S) (n:=S+1) rfl rfl (by k_ne) rfl H.f_casU64 (x_casU64_n L) (x_casU64_b L) (x_casU64_x L) .u64 (x_casU64_f L) rfl rfl rfl hw.cellSt (hw.thaw 0)).trans (by rfl),_,Bo (n':=70) (n:=80) (S:=λg w=>Goes P true (RL L.tWg Wg) (DL Wg) (Wt3 P L.tWg Wg (G (b₀.at (a₀.put ((ops₀[i₀]?).bind (·.dst)) (.tuple #[])) (.inRegion ops₀ rest₀::k₀)) cs)) 70 g w/\g.status=.running) RL.refl RL.trans (gr ?_) (λ_ _ x=>x.1) (λ_ _ x=>x.2)⟩;replace hF:WgLive L.tWg Wg (hb.setCell (stA Wg) (.int .u64 (S+1))):=⟨_,_,hw.setSt _⟩;clear hw
   walk_nrm
   repeat w_nl cK
   u_leave1 H.f_uCas cK hF
   repeat w_nl cK
   u_conv H.underlying_tPU32 H.room_tU32 (Go.ConcN.Gen.WgLive.cell1 hF).choose_spec cK hF
   refine Goes.stop (λh' h9=>⟨?_,rfl⟩);replace hF:=cK hF h9;clear h9;refine Goes.step rfl (λho ha=>?_);replace hF:=cK hF ha;clear ha;rw[stepG_markAt .write ae rfl rfl (by k_ne) rfl H.f_raceWrite (x_raceWrite_n L) (x_raceWrite_b L) (x_raceWrite_x L) (x_raceWrite_f L) (ad:=⟨Wg,1,none⟩) (by simp[Act.eval])];simp only[goes_go];refine⟨⟨rfl,λe he=>.inr (by simpa[smA,mk] using he)⟩,gr ?_⟩
   walk_nrm
   repeat w_nl cK
   refine Goes.stop (λh' h9=>?_);replace hF:=cK hF h9;clear h9;refine⟨rfl,rfl,λ⟨st,hw⟩=>stepG_semacquire_wait rfl rfl rfl H.f_semacquire (x_semacquire_n L) (x_semacquire_b L) (x_semacquire_x L) (x_semacquire_f L) (by simp[Act.eval,smA]) hw.cellSm,λhf=>?_⟩;refine⟨_,(stepG_semacquire (n:=1) rfl rfl (by k_ne) rfl H.f_semacquire (x_semacquire_n L) (x_semacquire_b L) (x_semacquire_x L) (x_semacquire_f L) (by simp[Act.eval,smA]) hf.cellSm (by k_ne) (hf.thaw 1)).trans (by rfl),60,gr ?_⟩;replace hF:WgLive L.tWg Wg (h'.setCell (smA Wg) (.int .u32 0)):=⟨_,_,hf.setSm 0⟩;clear hf
   walk_nrm
   repeat w_nl cK
   u_call H.f_uLoad (nm_uLoad L) uLoadFn cK hF
   repeat w_nl cK
   refine Goes.stop (λho ha=>?_);replace hF:=cK hF ha;clear ha;refine⟨rfl,λhw=>⟨_,stepG_load_atomic (v:=0) rfl rfl (by k_ne) rfl H.f_loadU64 (x_loadU64_n L) (x_loadU64_b L) (x_loadU64_x L) .u64 (x_loadU64_f L) rfl hw.cellSt,60,gr ?_⟩⟩;clear hw
   walk_nrm
   repeat w_nl cK
   u_leave1 H.f_uLoad cK hF
   repeat w_nl cK
   refine Goes.stop (λhy hg=>?_);replace hF:=cK hF hg;clear hg;refine⟨rfl,_,stepG_mark0 .enable ae rfl rfl (by k_ne) rfl H.f_enable (x_enable_n L) (x_enable_b L) (x_enable_x L) (x_enable_f L),30,gr ?_⟩
   walk_nrm
   repeat w_nl cK
   u_conv H.underlying_tWgP H.room_tWg (Go.ConcN.Gen.WgLive.cell0 hF).choose_spec cK hF
   refine Goes.stop (λa4 hi=>?_);replace hF:=cK hF hi;clear hi;refine⟨rfl,_,stepG_markAt .acquire ae rfl rfl (by k_ne) rfl H.f_acquire (x_acquire_n L) (x_acquire_b L) (x_acquire_x L) (x_acquire_f L) (by simp[Act.eval,stA]),40,gr ?_⟩
   walk_nrm
   repeat w_nl cK
   u_leave0 H.f_wait cK hF
   exact Goes.stop (λh' h9=>hc rfl)
  .refine⟨_,stepG_cas_miss (v:=(v':Int)*KK) (old:=S) (n:=S+1) rfl rfl (by k_ne) rfl H.f_casU64 (x_casU64_n L) (x_casU64_b L) (x_casU64_x L) .u64 (x_casU64_f L) rfl rfl rfl hw.cellSt (hw.thaw 0) (by rw[<-hS];simp only[KK];omega),30,gr ?_⟩;clear hw
   walk_nrm
   repeat w_nl cK
   u_leave1 H.f_uCas cK hF
   repeat w_nl cK
   u_c stepG_inLoop cK hF
   refine Goes.stop (λh' h9=>?_);replace hF:=cK hF h9;exact⟨_,rfl,ae,ae,trivial,hF⟩
end
section
variable{P:Program}{R:World->World->Prop}{D:World->World->Array Event->Prop}{S:Goroutine->World->Prop}{rm:Mark}
def CY(P:Program)(g:Goroutine)(w:World):Prop:=g.status=.running/\∃g',stepG P false g w=.go g' w #[mk .disable]
def CZ(P:Program)(R:World->World->Prop)(rm:Mark)(g:Goroutine)(w:World):Prop:=g.status=.running/\∃g',stepG P false g w=.go g' w #[mk rm]/\∃n,Goes P false R DC0 (CY P) n g' w
theorem Sn(rf:∀w,R w w)(hS:∀g w,S g w->∃g',stepG P false g w=.go g' w #[mk rm])(a5:rm≠.disable)(hD:∀w w' es,D w w' es->∀e∈es,e.loc≠.mark .disable):∀(k n:Nat)(g:Goroutine)(w:World),Goes P false R D S n g w->Goes P false R DC0 (CY P) k g w->False:=by
 have stop:∀(n:Nat)(g:Goroutine)(w:World),Goes P false R D S n g w->CY P g w->False:=by
  intro n g w hk ⟨_,g',hd⟩
  rcases Goes.cases hk with hs|⟨n',rfl,hj⟩
  .obtain⟨g2,h2⟩:=hS g w (hs w (rf w));rw[hd] at h2
   injection h2 with _ _ h3
   have:mk .disable=mk rm:=by simpa using h3
   simp[mk] at this;simp_all
  .obtain⟨g2,w2,es,h2,h3,_⟩:=hj w (rf w);rw[hd] at h2
   injection h2 with _ _ h4
   subst h4;exact hD _ _ _ h3 (mk .disable) ae rfl
 intro k
 induction k with
 |zero=>intro n g w hk hm;exact stop n g w hk (hm w (rf w))
 |succ k ih=>
  intro n g w hk hm
  rcases hm with hm|⟨hr,hm⟩
  .grind
  .have hx:=hm w (rf w)
   cases hgo:stepG P false g w with
   |go g' w' es=>
    rw[hgo,goes_go] at hx;obtain⟨⟨rfl,rfl⟩,a9⟩:=hx
    rcases Goes.cases hk with hs|⟨n',rfl,hj⟩
    .obtain⟨g2,h2⟩:=hS g w' (hs w' (rf w'));rw[hgo] at h2
     injection h2 with _ _ h3
     simp at h3
    grind
   |_=>rw[hgo] at hx;exact hx.elim
theorem conv(rf:∀w,R w w)(tr:∀a b c,R a b->R b c->R a c)(hS:∀g w,S g w->∃g',stepG P false g w=.go g' w #[mk rm])(a5:rm≠.disable)(hD:∀w w' es,D w w' es->∀e∈es,e.loc≠.mark .disable):∀(m n:Nat)(g:Goroutine)(w:World),Goes P false R D S n g w->Goes P false R DC0 (CZ P R rm) m g w->Goes P false R DC0 S m g w:=by
 have stop:∀(n:Nat)(g:Goroutine)(w:World),Goes P false R D S n g w->CZ P R rm g w->S g w:=by
  intro n g w hk ⟨_,g',hd,k,hq⟩
  rcases Goes.cases hk with hs|⟨n',rfl,hj⟩
  .simp_all
  .obtain⟨g2,w2,es,h2,h3,h4⟩:=hj w (rf w);rw[hd] at h2
   injection h2 with e1 e2 e3
   subst e1;subst e2;exact (Sn rf hS a5 hD _ _ _ _ h4 hq).elim
 intro m
 induction m with
 |zero=>intro n g w hk hm;exactλh5 h8=>stop n g h5 (Goes.rely tr hk h8) (hm h5 h8)
 |succ m ih=>
  intro n g w hk hm
  rcases hm with hm|⟨hr,hm⟩
  .exact .inl λh5 h8=>stop n g h5 (Goes.rely tr hk h8) (hm h5 h8)
  .refine .inr ⟨hr,λh5 h8=>?_⟩;have hx:=hm h5 h8
   cases hgo:stepG P false g h5 with
   |go g' w' es=>
    rw[hgo,goes_go] at hx;rw[goes_go];obtain⟨⟨rfl,rfl⟩,a9⟩:=hx;refine⟨⟨rfl,rfl⟩,?_⟩
    rcases Goes.cases (Goes.rely tr hk h8) with hs|⟨n',rfl,hj⟩
    .grind
    .obtain⟨g2,w2,es,h2,h3,h4⟩:=hj w' (rf w');rw[hgo] at h2
     grind
   |_=>rw[hgo] at hx;exact hx.elim
end
section
variable[Payload]{L:WgLink}{Wg C n Low k:Nat}{val:Value}
theorem rW{w h5:World}{i:Nat}(h:WgLive L.tWg Wg w)(r:RW L.tWg Wg C n Low i w h5):WgLive L.tWg Wg h5:=r.live h
theorem Sq{P:Program}(H:WgLib P L){c:Frame}{cs:List Frame}(w:World)(hF:WgLive L.tWg Wg w):Goes P false (RW L.tWg Wg C n Low (k-1)) DC0 (CZ P (RW L.tWg Wg C n Low (k-1)) (.releaseMerge (stA Wg))) 40 (G ((baseD L.done).at ⟨#[.pointer (some ⟨Wg,0,none⟩),undef,undef,undef],[]⟩ [.code (body_done L)]) (c::cs)) w:=by
 lib_facts
 simp only[body_done,doneFn,oR]
 repeat w_go rW
 u_in rW hF
 refine goes_call rfl rfl (by k_ne) rfl H.f_add (nm_add L) rfl ⟨by u_nil,?_⟩
 walk_nrmf addFn
 repeat w_go rW
 u_conv H.underlying_tWgP H.room_tWg (Go.ConcN.Gen.WgLive.cell0 hF).choose_spec rW hF
 refine Goes.stop (λh5 h8=>?_);replace hF:=rW hF h8;clear h8;refine⟨rfl,_,stepG_markAt .releaseMerge ae rfl rfl (by k_ne) rfl H.f_relMerge (x_relMerge_n L) (x_relMerge_b L) (x_relMerge_x L) (x_relMerge_f L) (by simp[Act.eval,stA]),20,?_⟩
 walk_nrm
 repeat w_go rW
 refine Goes.stop (λhb hh=>?_);exact⟨rfl,_,stepG_mark0 .disable ae rfl rfl (by k_ne) rfl H.f_disable (x_disable_n L) (x_disable_b L) (x_disable_x L) (x_disable_f L)⟩
theorem Sr{P:Program}(H:WgLib P L){c:Frame}{cs:List Frame}{qt:Nat}(a6:c.mode=.returning)(hT:QuitsD P qt 0 (G c cs))(w:World)(hK:WgLive L.tWg Wg w/\Has C (k-1) val w):Goes P false (RW L.tWg Wg C n Low (k-1)) DC0 (AtR0 P L.tWg Wg C n Low k val) 40 (G ((baseD L.done).at ⟨#[.pointer (some ⟨Wg,0,none⟩),undef,undef,undef],[]⟩ [.code (body_done L)]) (c::cs)) w:=by
 refine conv (D:=DWs Wg noL noL C n k) (rm:=.releaseMerge (stA Wg)) (λw=>RW.refl w) (λ_ _ _ a b=>a.trans b) (λg w h=>?_) ae (λw w' es h e he=>(h.2 e he).2.1) 40 23 _ w (doneN H a6 hT w hK) (Sq H w hK.1);obtain⟨_,_,g',h1,_⟩:=h;simp_all
end
end Go.Fc
