/- Laws of the walk. Condition: each theorem says its own. -/
import Derived.Test.YtbigilldfhjedaaGreatDoorGwWg4
import Derived.Conc.WgGenDone
import Derived.Conc.WgGenWait
import Derived.Test.YtbigilldfhjedaaGreatDoorGwFacts2
import Derived.Test.YtbigilldfhjedaaGreatDoorGwCj21
import Derived.Test.YtbigilldfhjedaaGreatDoorGwFnZ
set_option linter.unusedVariables false
set_option linter.unusedSimpArgs false
set_option linter.unusedSectionVars false
open Go.Gw.MW renaming goes→Ea
open Option renaming getD_some→Eb,bind→Ef
open Nat renaming mul_one→Ec,eq_zero_or_pos→Ed,le_trans→Ee
section
namespace Go.Gw
open Go Go.Conc Go.RowKit Go.Conc.Lib Go.ConcR.Gen Go.ConcN
open Go.ConcR (KK wgBlock WgAt stA smA rd wr DC0)
structure Pk (p:Prop):Prop where
 out:p
theorem Qjb {P:Program} {q d:Nat} {g:Goroutine}:∀ k:Nat,QuitsD P q d g->QuitsD P (q+k) d g
 | 0,h=>h
 | k+1,h=>Qnm (Qjb k h)
theorem LW.addC {P:Program} {ty:TypeId} {Wg m:Nat} {g:Goroutine} (hs:g.status=.running) (h:∀ v wt:Nat,wt<=1->v < 2147483647->∃ g',(∀ W,WgAt ty Wg W (((v+1:Nat):Int) * KK+(wt:Int)) 0->stepG P false g W=.go g' (W.setCell (stA Wg) (.int .u64 ((v:Int) * KK+(wt:Int)))) #[rd (stA Wg),wr (stA Wg)]) /\
  ((v=0/\wt=1)->LW P ty Wg m .D2 g')/\(¬ (v=0/\wt=1)->QuitsD P m 1 g')):LW P ty Wg (m+1) .C g:=⟨hs,.inr h⟩
set_option maxRecDepth 100000 in
set_option maxHeartbeats 8000000 in
theorem QSg {P:Program} {L:WgLink} (H:WgLib P L) {Wg:Nat} {b₀:Frame} {a₀:Act} {ops₀:Array Oper} {i₀:Nat} {rest₀:List Nat} {k₀:List Item} {cs:List Frame} {qt:Nat} (hT:QuitsD P qt 0 (G (b₀.at (a₀.put ((ops₀[i₀]?).bind (·.dst)) (.tuple #[])) (.inRegion ops₀ rest₀::k₀)) cs)) :
  LW P L.tWg Wg (qt+1000) .A (G ((base L.add).at ⟨#[.pointer (some ⟨Wg,0,none⟩),.int .i64 (-1),undef,undef,undef,undef,undef,undef,undef,undef,undef,undef,undef,undef,undef,undef,undef,undef,undef,undef,undef,undef,undef,undef,undef,undef,undef,undef,undef,undef,undef,undef,undef,undef,undef,undef,undef,undef,undef,undef,undef,undef,undef,undef,undef,undef,undef,undef,undef,undef,undef,undef,undef,undef,undef,undef,undef,undef,undef,undef,undef,undef,undef,undef,undef,undef,undef,undef,undef,undef,undef,undef,undef,undef,undef,undef,undef,undef,undef,undef,undef,undef,undef,undef,undef,undef,undef,undef,undef,undef,undef,undef,undef,undef,undef,undef,undef,undef,undef,undef,undef,undef,undef,undef,undef,undef,undef,undef,undef,undef,undef,undef,undef,undef,undef,undef,undef],[]⟩ [.code (ConcR.Gen.body_add L)]) (b₀.at a₀ (.inRegion ops₀ (i₀::rest₀)::k₀)::cs)):=by
 lib_facts
 simp only [ConcR.Gen.body_add,addFn,Eb];obtain ⟨w,hK⟩:=YY L.tWg Wg;refine LW.goes (m:=qt+987) (n:=13) hK ?_
 u_c stepG_seq rl hK
 u_cond true rl hK
 u_c stepG_seq rl hK
 u_c stepG_seq rl hK
 u_reg rl hK
 u_op rl hK
 u_op rl hK
 u_c stepG_region_end rl hK
 u_cond true rl hK
 u_reg rl hK
 u_op rl hK
 u_conv H.underlying_tWgP H.room_tWg (Live.cell0 hK).choose_spec rl hK
 refine Goes.stop (fun w₁ h₁=>?_);clear h₁ hK w w₁;refine LW.relA rfl (fun W hW=>stepG_markAt .releaseMerge (by simp) rfl rfl (by k_ne) rfl H.f_relMerge (x_relMerge_n L) (x_relMerge_b L) (x_relMerge_x L) (x_relMerge_f L) (by simp [Act.eval,stA])) ?_
 walk_nrm
 obtain ⟨w,hK⟩:=YY L.tWg Wg;refine LW.goes (m:=qt+982) (n:=4) hK ?_
 u_c stepG_region_end rl hK
 u_c stepG_seq rl hK
 u_reg rl hK
 refine Goes.stop (fun w₁ h₁=>?_);clear h₁ hK w w₁;refine LW.disB rfl (fun W hW=>stepG_mark0 .disable (by simp) rfl rfl (by k_ne) rfl H.f_disable (x_disable_n L) (x_disable_b L) (x_disable_x L) (x_disable_f L)) ?_
 walk_nrm
 obtain ⟨w,hK⟩:=YY L.tWg Wg;refine LW.goes (m:=qt+946) (n:=35) hK ?_
 u_c stepG_region_end rl hK
 u_reg rl hK
 u_defer rl hK
 u_c stepG_region_end rl hK
 u_c stepG_seq rl hK
 u_reg rl hK
 u_op rl hK
 u_c stepG_region_end rl hK
 u_c stepG_seq rl hK
 u_c stepG_seq rl hK
 u_reg rl hK
 u_bub rl hK
 u_c stepG_region_end rl hK
 u_cond false rl hK
 u_c stepG_skip rl hK
 u_c stepG_seq rl hK
 u_reg rl hK
 u_op rl hK
 u_op rl hK
 u_op rl hK
 u_op rl hK
 u_op rl hK
 u_op rl hK
 u_call H.f_uAdd (nm_uAdd L) uAddFn rl hK
 u_c stepG_seq rl hK
 u_reg rl hK
 u_op rl hK
 u_c stepG_region_end rl hK
 u_c stepG_seq rl hK
 u_reg rl hK
 u_op rl hK
 u_op rl hK
 u_op rl hK
 u_op rl hK
 refine Goes.stop (fun w₁ h₁=>?_);clear h₁ hK w w₁;refine LW.addC rfl fun v wt hwt hv=>?_;rcases Ed v with rfl | hvp<;>(obtain rfl | rfl:wt=0\/wt=1:=by omega)
 ·skip
  have e0:IntKind.u64.wrap (KK+18446744069414584320)=0:=by decide
  have k0:∀ {W:World},WgAt L.tWg Wg W (((0+1:Nat):Int) * KK+((0:Nat):Int)) 0->WgAt L.tWg Wg W KK 0:=fun hw=>by grind
  refine ⟨_,fun W hw=>(stepG_add_atomic (v:=KK) rfl rfl (by k_ne) rfl H.f_addU64 (x_addU64_n L) (x_addU64_b L) (x_addU64_x L) .u64 (x_addU64_f L) rfl rfl (WgAt.cellSt (k0 hw)) (WgAt.thaw (k0 hw) 0)).trans (by rw [e0];rfl),fun h=>absurd h.2 (by decide),fun _=>?_⟩
  walk_nrm
  refine QuitsD.value ?_ rfl rfl (by k_ne) (fun _=>?_) (fun _=>?_) ?_
  rotate_left
  ·go_simp
   try w_num
   rfl
  ·rfl
  walk_nrm
  q_c stepG_region_end
  q_c stepG_ret'
  q_leave1 H.f_uAdd
  refine QuitsD.value ?_ rfl rfl (by k_ne) (fun _=>?_) (fun _=>?_) ?_
  rotate_left
  ·go_simp
   try w_num
   rfl
  ·rfl
  walk_nrm
  q_c stepG_region_end
  q_c stepG_seq
  q_c stepG_seq
  q_reg
  refine QuitsD.value ?_ rfl rfl (by k_ne) (fun _=>?_) (fun _=>?_) ?_
  rotate_left
  ·go_simp
   try w_num
   rfl
  ·rfl
  walk_nrm
  refine QuitsD.value ?_ rfl rfl (by k_ne) (fun _=>?_) (fun _=>?_) ?_
  rotate_left
  ·go_simp
   try w_num
   rfl
  ·rfl
  walk_nrm
  refine QuitsD.value ?_ rfl rfl (by k_ne) (fun _=>?_) (fun _=>?_) ?_
  rotate_left
  ·go_simp
   try w_num
   rfl
  ·rfl
  walk_nrm
  refine QuitsD.value ?_ rfl rfl (by k_ne) (fun _=>?_) (fun _=>?_) ?_
  rotate_left
  ·go_simp
   try w_num
   rfl
  ·rfl
  walk_nrm
  q_skip
  q_skip
  refine QuitsD.value ?_ rfl rfl (by k_ne) (fun _=>?_) (fun _=>?_) ?_
  rotate_left
  ·go_simp
   try w_num
   rfl
  ·rfl
  walk_nrm
  q_c stepG_region_end
  q_cond false
  q_c stepG_skip
  q_c stepG_seq
  q_reg
  refine QuitsD.value ?_ rfl rfl (by k_ne) (fun _=>?_) (fun _=>?_) ?_
  rotate_left
  ·go_simp
   try w_num
   rfl
  ·rfl
  walk_nrm
  refine QuitsD.value ?_ rfl rfl (by k_ne) (fun _=>?_) (fun _=>?_) ?_
  rotate_left
  ·go_simp
   try w_num
   rfl
  ·rfl
  walk_nrm
  refine QuitsD.value ?_ rfl rfl (by k_ne) (fun _=>?_) (fun _=>?_) ?_
  rotate_left
  ·go_simp
   try w_num
   rfl
  ·simp [go_sem, *]
  walk_nrm
  refine QuitsD.value ?_ rfl rfl (by k_ne) (fun _=>?_) (fun _=>?_) ?_
  rotate_left
  ·go_simp
   try w_num
   rfl
  ·rfl
  walk_nrm
  q_c stepG_region_end
  q_c stepG_seq
  q_reg
  refine QuitsD.value ?_ rfl rfl (by k_ne) (fun _=>?_) (fun _=>?_) ?_
  rotate_left
  ·go_simp
   try w_num
   rfl
  ·rfl
  walk_nrm
  refine QuitsD.value ?_ rfl rfl (by k_ne) (fun _=>?_) (fun _=>?_) ?_
  rotate_left
  ·go_simp
   try w_num
   rfl
  ·rfl
  walk_nrm
  refine QuitsD.value ?_ rfl rfl (by k_ne) (fun _=>?_) (fun _=>?_) ?_
  rotate_left
  ·go_simp
   try w_num
   rfl
  ·simp [go_sem, *]
  walk_nrm
  refine QuitsD.value ?_ rfl rfl (by k_ne) (fun _=>?_) (fun _=>?_) ?_
  rotate_left
  ·go_simp
   try w_num
   rfl
  ·rfl
  walk_nrm
  q_c stepG_region_end
  q_c stepG_seq
  q_c stepG_seq
  q_reg
  refine QuitsD.value ?_ rfl rfl (by k_ne) (fun _=>?_) (fun _=>?_) ?_
  rotate_left
  ·go_simp
   try w_num
   rfl
  ·rfl
  walk_nrm
  refine QuitsD.value ?_ rfl rfl (by k_ne) (fun _=>?_) (fun _=>?_) ?_
  rotate_left
  ·go_simp
   try w_num
   rfl
  ·rfl
  walk_nrm
  refine QuitsD.value ?_ rfl rfl (by k_ne) (fun _=>?_) (fun _=>?_) ?_
  rotate_left
  ·go_simp
   try w_num
   rfl
  ·rfl
  walk_nrm
  refine QuitsD.value ?_ rfl rfl (by k_ne) (fun _=>?_) (fun _=>?_) ?_
  rotate_left
  ·go_simp
   try w_num
   rfl
  ·rfl
  walk_nrm
  refine QuitsD.value ?_ rfl rfl (by k_ne) (fun _=>?_) (fun _=>?_) ?_
  rotate_left
  ·go_simp
   try w_num
   rfl
  ·rfl
  walk_nrm
  q_skip
  q_skip
  q_skip
  q_skip
  refine QuitsD.value ?_ rfl rfl (by k_ne) (fun _=>?_) (fun _=>?_) ?_
  rotate_left
  ·go_simp
   try w_num
   rfl
  ·rfl
  walk_nrm
  q_c stepG_region_end
  q_cond false
  q_c stepG_skip
  q_c stepG_seq
  q_c stepG_seq
  q_reg
  refine QuitsD.value ?_ rfl rfl (by k_ne) (fun _=>?_) (fun _=>?_) ?_
  rotate_left
  ·go_simp
   try w_num
   rfl
  ·rfl
  walk_nrm
  refine QuitsD.value ?_ rfl rfl (by k_ne) (fun _=>?_) (fun _=>?_) ?_
  rotate_left
  ·go_simp
   try w_num
   rfl
  ·rfl
  walk_nrm
  q_c stepG_region_end
  q_cond false
  q_c stepG_skip
  q_c stepG_seq
  q_c stepG_seq
  q_reg
  refine QuitsD.value ?_ rfl rfl (by k_ne) (fun _=>?_) (fun _=>?_) ?_
  rotate_left
  ·go_simp
   try w_num
   rfl
  ·rfl
  walk_nrm
  refine QuitsD.value ?_ rfl rfl (by k_ne) (fun _=>?_) (fun _=>?_) ?_
  rotate_left
  ·go_simp
   try w_num
   rfl
  ·rfl
  walk_nrm
  refine QuitsD.value ?_ rfl rfl (by k_ne) (fun _=>?_) (fun _=>?_) ?_
  rotate_left
  ·go_simp
   try w_num
   rfl
  ·rfl
  walk_nrm
  q_skip
  q_skip
  refine QuitsD.value ?_ rfl rfl (by k_ne) (fun _=>?_) (fun _=>?_) ?_
  rotate_left
  ·go_simp
   try w_num
   rfl
  ·rfl
  walk_nrm
  refine QuitsD.value ?_ rfl rfl (by k_ne) (fun _=>?_) (fun _=>?_) ?_
  rotate_left
  ·go_simp
   try w_num
   rfl
  ·rfl
  walk_nrm
  q_skip
  q_skip
  q_skip
  q_skip
  refine QuitsD.value ?_ rfl rfl (by k_ne) (fun _=>?_) (fun _=>?_) ?_
  rotate_left
  ·go_simp
   try w_num
   rfl
  ·rfl
  walk_nrm
  q_c stepG_region_end
  q_cond false
  q_c stepG_skip
  q_c stepG_seq
  q_c stepG_seq
  q_reg
  refine QuitsD.value ?_ rfl rfl (by k_ne) (fun _=>?_) (fun _=>?_) ?_
  rotate_left
  ·go_simp
   try w_num
   rfl
  ·rfl
  walk_nrm
  refine QuitsD.value ?_ rfl rfl (by k_ne) (fun _=>?_) (fun _=>?_) ?_
  rotate_left
  ·go_simp
   try w_num
   rfl
  ·rfl
  walk_nrm
  refine QuitsD.value ?_ rfl rfl (by k_ne) (fun _=>?_) (fun _=>?_) ?_
  rotate_left
  ·go_simp
   try w_num
   rfl
  ·rfl
  walk_nrm
  refine QuitsD.value ?_ rfl rfl (by k_ne) (fun _=>?_) (fun _=>?_) ?_
  rotate_left
  ·go_simp
   try w_num
   rfl
  ·rfl
  walk_nrm
  refine QuitsD.value ?_ rfl rfl (by k_ne) (fun _=>?_) (fun _=>?_) ?_
  rotate_left
  ·go_simp
   try w_num
   rfl
  ·rfl
  walk_nrm
  refine QuitsD.value ?_ rfl rfl (by k_ne) (fun _=>?_) (fun _=>?_) ?_
  rotate_left
  ·go_simp
   try w_num
   rfl
  ·rfl
  walk_nrm
  q_c stepG_region_end
  q_cond true
  q_c stepG_ret'
  q_enable
  q_leave0 H.f_add
  exact Qjb 856 hT
 ·skip
  have e0:IntKind.u64.wrap (KK+1+18446744069414584320)=1:=by decide
  have k0:∀ {W:World},WgAt L.tWg Wg W (((0+1:Nat):Int) * KK+((1:Nat):Int)) 0->WgAt L.tWg Wg W (KK+1) 0:=fun hw=>by grind
  refine ⟨_,fun W hw=>(stepG_add_atomic (v:=KK+1) rfl rfl (by k_ne) rfl H.f_addU64 (x_addU64_n L) (x_addU64_b L) (x_addU64_x L) .u64 (x_addU64_f L) rfl rfl (WgAt.cellSt (k0 hw)) (WgAt.thaw (k0 hw) 0)).trans (by rw [e0];rfl),fun _=>?_,fun h=>absurd ⟨rfl,rfl⟩ h⟩
  walk_nrm
  obtain ⟨w,hK⟩:=YY L.tWg Wg;refine LW.goes (m:=qt+841) (n:=104) hK ?_
  u_op rl hK
  u_c stepG_region_end rl hK
  u_c stepG_ret' rl hK
  u_leave1 H.f_uAdd rl hK
  u_op rl hK
  u_c stepG_region_end rl hK
  u_c stepG_seq rl hK
  u_c stepG_seq rl hK
  u_reg rl hK
  u_op rl hK
  u_op rl hK
  u_op rl hK
  u_op rl hK
  u_skip rl hK
  u_skip rl hK
  u_op rl hK
  u_c stepG_region_end rl hK
  u_cond false rl hK
  u_c stepG_skip rl hK
  u_c stepG_seq rl hK
  u_reg rl hK
  u_op rl hK
  u_op rl hK
  u_op rl hK
  u_op rl hK
  u_c stepG_region_end rl hK
  u_c stepG_seq rl hK
  u_reg rl hK
  u_op rl hK
  u_op rl hK
  u_op rl hK
  u_op rl hK
  u_c stepG_region_end rl hK
  u_c stepG_seq rl hK
  u_c stepG_seq rl hK
  u_reg rl hK
  u_op rl hK
  u_op rl hK
  u_op rl hK
  u_op rl hK
  u_op rl hK
  u_skip rl hK
  u_skip rl hK
  u_skip rl hK
  u_skip rl hK
  u_op rl hK
  u_c stepG_region_end rl hK
  u_cond false rl hK
  u_c stepG_skip rl hK
  u_c stepG_seq rl hK
  u_c stepG_seq rl hK
  u_reg rl hK
  u_op rl hK
  u_op rl hK
  u_c stepG_region_end rl hK
  u_cond false rl hK
  u_c stepG_skip rl hK
  u_c stepG_seq rl hK
  u_c stepG_seq rl hK
  u_reg rl hK
  u_op rl hK
  u_op rl hK
  u_op rl hK
  u_op rl hK
  u_op rl hK
  u_op rl hK
  u_op rl hK
  u_skip rl hK
  u_skip rl hK
  u_skip rl hK
  u_skip rl hK
  u_op rl hK
  u_c stepG_region_end rl hK
  u_cond false rl hK
  u_c stepG_skip rl hK
  u_c stepG_seq rl hK
  u_c stepG_seq rl hK
  u_reg rl hK
  u_op rl hK
  u_op rl hK
  u_op rl hK
  u_op rl hK
  u_op rl hK
  u_op rl hK
  u_c stepG_region_end rl hK
  u_cond false rl hK
  u_c stepG_skip rl hK
  u_c stepG_seq rl hK
  u_c stepG_seq rl hK
  u_reg rl hK
  u_op rl hK
  u_op rl hK
  u_op rl hK
  u_call H.f_uLoad (nm_uLoad L) uLoadFn rl hK
  u_c stepG_seq rl hK
  u_reg rl hK
  u_op rl hK
  u_c stepG_region_end rl hK
  u_c stepG_seq rl hK
  u_reg rl hK
  u_op rl hK
  u_op rl hK
  u_op rl hK
  refine Goes.stop (fun w₁ h₁=>?_);clear h₁ hK w w₁;refine LW.d2 rfl (fun W hw=>stepG_load_atomic (v:=1) rfl rfl (by k_ne) rfl H.f_loadU64 (x_loadU64_n L) (x_loadU64_b L) (x_loadU64_x L) .u64 (x_loadU64_f L) rfl (WgAt.cellSt hw)) ?_
  walk_nrm
  obtain ⟨w,hK⟩:=YY L.tWg Wg;refine LW.goes (m:=qt+819) (n:=21) hK ?_
  u_op rl hK
  u_c stepG_region_end rl hK
  u_c stepG_ret' rl hK
  u_leave1 H.f_uLoad rl hK
  u_op rl hK
  u_op rl hK
  u_c stepG_region_end rl hK
  u_cond false rl hK
  u_c stepG_skip rl hK
  u_c stepG_seq rl hK
  u_reg rl hK
  u_op rl hK
  u_op rl hK
  u_op rl hK
  u_call H.f_uStore (nm_uStore L) uStoreFn rl hK
  u_reg rl hK
  u_op rl hK
  u_op rl hK
  u_op rl hK
  u_op rl hK
  refine Goes.stop (fun w₁ h₁=>?_);clear h₁ hK w w₁;refine LW.d3 rfl (fun W hw=>stepG_store_atomic rfl rfl (by k_ne) rfl H.f_storeU64 (x_storeU64_n L) (x_storeU64_b L) (x_storeU64_x L) (x_storeU64_f L) rfl rfl (WgAt.cellSt hw) (WgAt.thaw hw 0)) ?_
  walk_nrm
  obtain ⟨w,hK⟩:=YY L.tWg Wg;refine LW.goes (m:=qt+790) (n:=28) hK ?_
  u_c stepG_region_end rl hK
  u_c stepG_end rl hK
  u_leave0 H.f_uStore rl hK
  u_c stepG_region_end rl hK
  u_c stepG_seq rl hK
  u_c stepG_seq rl hK
  u_reg rl hK
  u_op rl hK
  u_c stepG_region_end rl hK
  u_cond false rl hK
  u_c stepG_skip rl hK
  u_c stepG_block rl hK
  u_c stepG_loop rl hK
  u_c stepG_seq rl hK
  u_c stepG_seq rl hK
  u_reg rl hK
  u_op rl hK
  u_op rl hK
  u_c stepG_region_end rl hK
  u_cond true rl hK
  u_c stepG_skip rl hK
  u_c stepG_seq rl hK
  u_c stepG_block rl hK
  u_reg rl hK
  u_op rl hK
  u_op rl hK
  u_op rl hK
  refine Goes.stop (fun w₁ h₁=>?_);clear h₁ hK w w₁;refine LW.d4 rfl (mayWake_entry rfl rfl H.f_semrelease (x_semrelease_b L)) (fun W hw=>(stepG_semrelease rfl rfl (by k_ne) rfl H.f_semrelease (x_semrelease_n L) (x_semrelease_b L) (x_semrelease_x L) (x_semrelease_f L) (by simp [Act.eval,smA]) (WgAt.cellSm hw) (WgAt.thaw hw 1)).trans (by rfl)) ?_
  walk_nrm
  q_c stepG_region_end
  q_c stepG_inBlock
  q_reg
  refine QuitsD.value ?_ rfl rfl (by k_ne) (fun _=>?_) (fun _=>?_) ?_
  rotate_left
  ·go_simp
   try w_num
   rfl
  ·rfl
  walk_nrm
  refine QuitsD.value ?_ rfl rfl (by k_ne) (fun _=>?_) (fun _=>?_) ?_
  rotate_left
  ·go_simp
   try w_num
   rfl
  ·rfl
  walk_nrm
  refine QuitsD.value ?_ rfl rfl (by k_ne) (fun _=>?_) (fun _=>?_) ?_
  rotate_left
  ·go_simp
   try w_num
   rfl
  ·rfl
  walk_nrm
  q_c stepG_region_end
  q_c stepG_inLoop
  q_c stepG_seq
  q_c stepG_seq
  q_reg
  refine QuitsD.value ?_ rfl rfl (by k_ne) (fun _=>?_) (fun _=>?_) ?_
  rotate_left
  ·go_simp
   try w_num
   rfl
  ·rfl
  walk_nrm
  refine QuitsD.value ?_ rfl rfl (by k_ne) (fun _=>?_) (fun _=>?_) ?_
  rotate_left
  ·go_simp
   try w_num
   rfl
  ·rfl
  walk_nrm
  q_c stepG_region_end
  q_cond false
  q_exit
  q_c stepG_end
  q_enable
  q_leave0 H.f_add
  exact Qjb 770 hT
 ·skip
  have k0:∀ {W:World},WgAt L.tWg Wg W (((v+1:Nat):Int) * KK+((0:Nat):Int)) 0->WgAt L.tWg Wg W (((v:Nat)+1) * KK+0) 0:=fun hw=>by grind
  obtain ⟨V,hV⟩:∃ V:Int,V=(v:Int):=⟨_,rfl⟩;obtain ⟨S,hS⟩:∃ S:Int,S=V * KK+0:=⟨_,rfl⟩;have z:(v:Int) * KK+((0:Nat):Int)=S:=by simp_all
  have e0:IntKind.u64.wrap (((v:Nat)+1) * KK+0+18446744069414584320)=S:=by rw [IntKind.wrap_u64,hS,hV];simp only [KK];omega
  rw [z];clear z;have a1:S / 4294967296=V:=by grind [KK]
  have b1:bits .and .u64 S 2147483648=0:=by rw [hS,hV];have:=st_flag v 0 (by omega) (by omega);trivial
  have b2:bits .and .u64 S 2147483647=0:=by rw [hS,hV];have:=st_waiters v 0 (by omega) (by omega);trivial
  have a2:0<=S/\S < 9223372036854775808:=by omega
  clear hS;have c1:IntKind.i32.wrap V=V:=by rw [IntKind.wrap_i32];omega
  have q3:decide (V < 0)=false:=decide_eq_false (by omega);have q4:decide (0 < V)=true:=decide_eq_true (by omega);have q5:(V == 0)=false:=by simp;omega
  have q6:decide (V=0)=false:=decide_eq_false (by omega);have q7:(V == -1)=false:=by simp;omega
  have q8:decide (V=-1)=false:=decide_eq_false (by omega);refine ⟨_,fun W hw=>(stepG_add_atomic (v:=((v:Nat)+1) * KK+0) rfl rfl (by k_ne) rfl H.f_addU64 (x_addU64_n L) (x_addU64_b L) (x_addU64_x L) .u64 (x_addU64_f L) rfl rfl (WgAt.cellSt (k0 hw)) (WgAt.thaw (k0 hw) 0)).trans (by rw [e0];rfl),fun h=>absurd h.1 (by omega),fun _=>?_⟩;clear hV e0 k0
  walk_nrm
  refine QuitsD.value ?_ rfl rfl (by k_ne) (fun _=>?_) (fun _=>?_) ?_
  rotate_left
  ·go_simp
   try w_num
   rfl
  ·rfl
  walk_nrm
  q_c stepG_region_end
  q_c stepG_ret'
  q_leave1 H.f_uAdd
  refine QuitsD.value ?_ rfl rfl (by k_ne) (fun _=>?_) (fun _=>?_) ?_
  rotate_left
  ·go_simp
   try w_num
   rfl
  ·rfl
  walk_nrm
  q_c stepG_region_end
  q_c stepG_seq
  q_c stepG_seq
  q_reg
  refine QuitsD.value ?_ rfl rfl (by k_ne) (fun _=>?_) (fun _=>?_) ?_
  rotate_left
  ·go_simp
   try w_num
   rfl
  ·rfl
  walk_nrm
  refine QuitsD.value ?_ rfl rfl (by k_ne) (fun _=>?_) (fun _=>?_) ?_
  rotate_left
  ·go_simp
   try w_num
   rfl
  ·rfl
  walk_nrm
  refine QuitsD.value ?_ rfl rfl (by k_ne) (fun _=>?_) (fun _=>?_) ?_
  rotate_left
  ·go_simp
   try w_num
   rfl
  ·rfl
  walk_nrm
  refine QuitsD.value ?_ rfl rfl (by k_ne) (fun _=>?_) (fun _=>?_) ?_
  rotate_left
  ·go_simp
   try w_num
   rfl
  ·rfl
  walk_nrm
  q_skip
  q_skip
  refine QuitsD.value ?_ rfl rfl (by k_ne) (fun _=>?_) (fun _=>?_) ?_
  rotate_left
  ·go_simp
   try w_num
   rfl
  ·rfl
  walk_nrm
  q_c stepG_region_end
  q_cond false
  q_c stepG_skip
  q_c stepG_seq
  q_reg
  refine QuitsD.value ?_ rfl rfl (by k_ne) (fun _=>?_) (fun _=>?_) ?_
  rotate_left
  ·go_simp
   try w_num
   rfl
  ·rfl
  walk_nrm
  refine QuitsD.value ?_ rfl rfl (by k_ne) (fun _=>?_) (fun _=>?_) ?_
  rotate_left
  ·go_simp
   try w_num
   rfl
  ·rfl
  walk_nrm
  refine QuitsD.value ?_ rfl rfl (by k_ne) (fun _=>?_) (fun _=>?_) ?_
  rotate_left
  ·go_simp
   try w_num
   rfl
  ·simp [go_sem, *]
  walk_nrm
  refine QuitsD.value ?_ rfl rfl (by k_ne) (fun _=>?_) (fun _=>?_) ?_
  rotate_left
  ·go_simp
   try w_num
   rfl
  ·rfl
  walk_nrm
  q_c stepG_region_end
  q_c stepG_seq
  q_reg
  refine QuitsD.value ?_ rfl rfl (by k_ne) (fun _=>?_) (fun _=>?_) ?_
  rotate_left
  ·go_simp
   try w_num
   rfl
  ·rfl
  walk_nrm
  refine QuitsD.value ?_ rfl rfl (by k_ne) (fun _=>?_) (fun _=>?_) ?_
  rotate_left
  ·go_simp
   try w_num
   rfl
  ·rfl
  walk_nrm
  refine QuitsD.value ?_ rfl rfl (by k_ne) (fun _=>?_) (fun _=>?_) ?_
  rotate_left
  ·go_simp
   try w_num
   rfl
  ·simp [go_sem, *]
  walk_nrm
  refine QuitsD.value ?_ rfl rfl (by k_ne) (fun _=>?_) (fun _=>?_) ?_
  rotate_left
  ·go_simp
   try w_num
   rfl
  ·rfl
  walk_nrm
  q_c stepG_region_end
  q_c stepG_seq
  q_c stepG_seq
  q_reg
  refine QuitsD.value ?_ rfl rfl (by k_ne) (fun _=>?_) (fun _=>?_) ?_
  rotate_left
  ·go_simp
   try w_num
   rfl
  ·rfl
  walk_nrm
  refine QuitsD.value ?_ rfl rfl (by k_ne) (fun _=>?_) (fun _=>?_) ?_
  rotate_left
  ·go_simp
   try w_num
   rfl
  ·rfl
  walk_nrm
  refine QuitsD.value ?_ rfl rfl (by k_ne) (fun _=>?_) (fun _=>?_) ?_
  rotate_left
  ·go_simp
   try w_num
   rfl
  ·rfl
  walk_nrm
  refine QuitsD.value ?_ rfl rfl (by k_ne) (fun _=>?_) (fun _=>?_) ?_
  rotate_left
  ·go_simp
   try w_num
   rfl
  ·rfl
  walk_nrm
  refine QuitsD.value ?_ rfl rfl (by k_ne) (fun _=>?_) (fun _=>?_) ?_
  rotate_left
  ·go_simp
   try w_num
   rfl
  ·rfl
  walk_nrm
  q_skip
  q_skip
  q_skip
  q_skip
  refine QuitsD.value ?_ rfl rfl (by k_ne) (fun _=>?_) (fun _=>?_) ?_
  rotate_left
  ·go_simp
   try w_num
   rfl
  ·rfl
  walk_nrm
  q_c stepG_region_end
  q_cond false
  q_c stepG_skip
  q_c stepG_seq
  q_c stepG_seq
  q_reg
  refine QuitsD.value ?_ rfl rfl (by k_ne) (fun _=>?_) (fun _=>?_) ?_
  rotate_left
  ·go_simp
   try w_num
   rfl
  ·rfl
  walk_nrm
  refine QuitsD.value ?_ rfl rfl (by k_ne) (fun _=>?_) (fun _=>?_) ?_
  rotate_left
  ·go_simp
   try w_num
   rfl
  ·rfl
  walk_nrm
  q_c stepG_region_end
  q_cond false
  q_c stepG_skip
  q_c stepG_seq
  q_c stepG_seq
  q_reg
  refine QuitsD.value ?_ rfl rfl (by k_ne) (fun _=>?_) (fun _=>?_) ?_
  rotate_left
  ·go_simp
   try w_num
   rfl
  ·rfl
  walk_nrm
  refine QuitsD.value ?_ rfl rfl (by k_ne) (fun _=>?_) (fun _=>?_) ?_
  rotate_left
  ·go_simp
   try w_num
   rfl
  ·rfl
  walk_nrm
  refine QuitsD.value ?_ rfl rfl (by k_ne) (fun _=>?_) (fun _=>?_) ?_
  rotate_left
  ·go_simp
   try w_num
   rfl
  ·rfl
  walk_nrm
  q_skip
  q_skip
  refine QuitsD.value ?_ rfl rfl (by k_ne) (fun _=>?_) (fun _=>?_) ?_
  rotate_left
  ·go_simp
   try w_num
   rfl
  ·rfl
  walk_nrm
  refine QuitsD.value ?_ rfl rfl (by k_ne) (fun _=>?_) (fun _=>?_) ?_
  rotate_left
  ·go_simp
   try w_num
   rfl
  ·rfl
  walk_nrm
  q_skip
  q_skip
  q_skip
  q_skip
  refine QuitsD.value ?_ rfl rfl (by k_ne) (fun _=>?_) (fun _=>?_) ?_
  rotate_left
  ·go_simp
   try w_num
   rfl
  ·rfl
  walk_nrm
  q_c stepG_region_end
  q_cond false
  q_c stepG_skip
  q_c stepG_seq
  q_c stepG_seq
  q_reg
  refine QuitsD.value ?_ rfl rfl (by k_ne) (fun _=>?_) (fun _=>?_) ?_
  rotate_left
  ·go_simp
   try w_num
   rfl
  ·rfl
  walk_nrm
  refine QuitsD.value ?_ rfl rfl (by k_ne) (fun _=>?_) (fun _=>?_) ?_
  rotate_left
  ·go_simp
   try w_num
   rfl
  ·rfl
  walk_nrm
  refine QuitsD.value ?_ rfl rfl (by k_ne) (fun _=>?_) (fun _=>?_) ?_
  rotate_left
  ·go_simp
   try w_num
   rfl
  ·rfl
  walk_nrm
  q_skip
  q_skip
  refine QuitsD.value ?_ rfl rfl (by k_ne) (fun _=>?_) (fun _=>?_) ?_
  rotate_left
  ·go_simp
   try w_num
   rfl
  ·rfl
  walk_nrm
  q_c stepG_region_end
  q_cond true
  q_c stepG_ret'
  q_enable
  q_leave0 H.f_add
  exact Qjb 856 hT
 ·skip
  have k0:∀ {W:World},WgAt L.tWg Wg W (((v+1:Nat):Int) * KK+((1:Nat):Int)) 0->WgAt L.tWg Wg W (((v:Nat)+1) * KK+1) 0:=fun hw=>by grind
  obtain ⟨V,hV⟩:∃ V:Int,V=(v:Int):=⟨_,rfl⟩;obtain ⟨S,hS⟩:∃ S:Int,S=V * KK+1:=⟨_,rfl⟩;have z:(v:Int) * KK+((1:Nat):Int)=S:=by simp_all
  have e0:IntKind.u64.wrap (((v:Nat)+1) * KK+1+18446744069414584320)=S:=by rw [IntKind.wrap_u64,hS,hV];simp only [KK];omega
  rw [z];clear z;have a1:S / 4294967296=V:=by grind [KK]
  have b1:bits .and .u64 S 2147483648=0:=by rw [hS,hV];have:=st_flag v 1 (by omega) (by omega);trivial
  have b2:bits .and .u64 S 2147483647=1:=by rw [hS,hV];have:=st_waiters v 1 (by omega) (by omega);trivial
  have a2:0<=S/\S < 9223372036854775808:=by omega
  clear hS;have c1:IntKind.i32.wrap V=V:=by rw [IntKind.wrap_i32];omega
  have q3:decide (V < 0)=false:=decide_eq_false (by omega);have q4:decide (0 < V)=true:=decide_eq_true (by omega);have q5:(V == 0)=false:=by simp;omega
  have q6:decide (V=0)=false:=decide_eq_false (by omega);have q7:(V == -1)=false:=by simp;omega
  have q8:decide (V=-1)=false:=decide_eq_false (by omega);refine ⟨_,fun W hw=>(stepG_add_atomic (v:=((v:Nat)+1) * KK+1) rfl rfl (by k_ne) rfl H.f_addU64 (x_addU64_n L) (x_addU64_b L) (x_addU64_x L) .u64 (x_addU64_f L) rfl rfl (WgAt.cellSt (k0 hw)) (WgAt.thaw (k0 hw) 0)).trans (by rw [e0];rfl),fun h=>absurd h.1 (by omega),fun _=>?_⟩;clear hV e0 k0
  walk_nrm
  refine QuitsD.value ?_ rfl rfl (by k_ne) (fun _=>?_) (fun _=>?_) ?_
  rotate_left
  ·go_simp
   try w_num
   rfl
  ·rfl
  walk_nrm
  q_c stepG_region_end
  q_c stepG_ret'
  q_leave1 H.f_uAdd
  refine QuitsD.value ?_ rfl rfl (by k_ne) (fun _=>?_) (fun _=>?_) ?_
  rotate_left
  ·go_simp
   try w_num
   rfl
  ·rfl
  walk_nrm
  q_c stepG_region_end
  q_c stepG_seq
  q_c stepG_seq
  q_reg
  refine QuitsD.value ?_ rfl rfl (by k_ne) (fun _=>?_) (fun _=>?_) ?_
  rotate_left
  ·go_simp
   try w_num
   rfl
  ·rfl
  walk_nrm
  refine QuitsD.value ?_ rfl rfl (by k_ne) (fun _=>?_) (fun _=>?_) ?_
  rotate_left
  ·go_simp
   try w_num
   rfl
  ·rfl
  walk_nrm
  refine QuitsD.value ?_ rfl rfl (by k_ne) (fun _=>?_) (fun _=>?_) ?_
  rotate_left
  ·go_simp
   try w_num
   rfl
  ·rfl
  walk_nrm
  refine QuitsD.value ?_ rfl rfl (by k_ne) (fun _=>?_) (fun _=>?_) ?_
  rotate_left
  ·go_simp
   try w_num
   rfl
  ·rfl
  walk_nrm
  q_skip
  q_skip
  refine QuitsD.value ?_ rfl rfl (by k_ne) (fun _=>?_) (fun _=>?_) ?_
  rotate_left
  ·go_simp
   try w_num
   rfl
  ·rfl
  walk_nrm
  q_c stepG_region_end
  q_cond false
  q_c stepG_skip
  q_c stepG_seq
  q_reg
  refine QuitsD.value ?_ rfl rfl (by k_ne) (fun _=>?_) (fun _=>?_) ?_
  rotate_left
  ·go_simp
   try w_num
   rfl
  ·rfl
  walk_nrm
  refine QuitsD.value ?_ rfl rfl (by k_ne) (fun _=>?_) (fun _=>?_) ?_
  rotate_left
  ·go_simp
   try w_num
   rfl
  ·rfl
  walk_nrm
  refine QuitsD.value ?_ rfl rfl (by k_ne) (fun _=>?_) (fun _=>?_) ?_
  rotate_left
  ·go_simp
   try w_num
   rfl
  ·simp [go_sem, *]
  walk_nrm
  refine QuitsD.value ?_ rfl rfl (by k_ne) (fun _=>?_) (fun _=>?_) ?_
  rotate_left
  ·go_simp
   try w_num
   rfl
  ·rfl
  walk_nrm
  q_c stepG_region_end
  q_c stepG_seq
  q_reg
  refine QuitsD.value ?_ rfl rfl (by k_ne) (fun _=>?_) (fun _=>?_) ?_
  rotate_left
  ·go_simp
   try w_num
   rfl
  ·rfl
  walk_nrm
  refine QuitsD.value ?_ rfl rfl (by k_ne) (fun _=>?_) (fun _=>?_) ?_
  rotate_left
  ·go_simp
   try w_num
   rfl
  ·rfl
  walk_nrm
  refine QuitsD.value ?_ rfl rfl (by k_ne) (fun _=>?_) (fun _=>?_) ?_
  rotate_left
  ·go_simp
   try w_num
   rfl
  ·simp [go_sem, *]
  walk_nrm
  refine QuitsD.value ?_ rfl rfl (by k_ne) (fun _=>?_) (fun _=>?_) ?_
  rotate_left
  ·go_simp
   try w_num
   rfl
  ·rfl
  walk_nrm
  q_c stepG_region_end
  q_c stepG_seq
  q_c stepG_seq
  q_reg
  refine QuitsD.value ?_ rfl rfl (by k_ne) (fun _=>?_) (fun _=>?_) ?_
  rotate_left
  ·go_simp
   try w_num
   rfl
  ·rfl
  walk_nrm
  refine QuitsD.value ?_ rfl rfl (by k_ne) (fun _=>?_) (fun _=>?_) ?_
  rotate_left
  ·go_simp
   try w_num
   rfl
  ·rfl
  walk_nrm
  refine QuitsD.value ?_ rfl rfl (by k_ne) (fun _=>?_) (fun _=>?_) ?_
  rotate_left
  ·go_simp
   try w_num
   rfl
  ·rfl
  walk_nrm
  refine QuitsD.value ?_ rfl rfl (by k_ne) (fun _=>?_) (fun _=>?_) ?_
  rotate_left
  ·go_simp
   try w_num
   rfl
  ·rfl
  walk_nrm
  refine QuitsD.value ?_ rfl rfl (by k_ne) (fun _=>?_) (fun _=>?_) ?_
  rotate_left
  ·go_simp
   try w_num
   rfl
  ·rfl
  walk_nrm
  q_skip
  q_skip
  q_skip
  q_skip
  refine QuitsD.value ?_ rfl rfl (by k_ne) (fun _=>?_) (fun _=>?_) ?_
  rotate_left
  ·go_simp
   try w_num
   rfl
  ·rfl
  walk_nrm
  q_c stepG_region_end
  q_cond false
  q_c stepG_skip
  q_c stepG_seq
  q_c stepG_seq
  q_reg
  refine QuitsD.value ?_ rfl rfl (by k_ne) (fun _=>?_) (fun _=>?_) ?_
  rotate_left
  ·go_simp
   try w_num
   rfl
  ·rfl
  walk_nrm
  refine QuitsD.value ?_ rfl rfl (by k_ne) (fun _=>?_) (fun _=>?_) ?_
  rotate_left
  ·go_simp
   try w_num
   rfl
  ·rfl
  walk_nrm
  q_c stepG_region_end
  q_cond false
  q_c stepG_skip
  q_c stepG_seq
  q_c stepG_seq
  q_reg
  refine QuitsD.value ?_ rfl rfl (by k_ne) (fun _=>?_) (fun _=>?_) ?_
  rotate_left
  ·go_simp
   try w_num
   rfl
  ·rfl
  walk_nrm
  refine QuitsD.value ?_ rfl rfl (by k_ne) (fun _=>?_) (fun _=>?_) ?_
  rotate_left
  ·go_simp
   try w_num
   rfl
  ·rfl
  walk_nrm
  refine QuitsD.value ?_ rfl rfl (by k_ne) (fun _=>?_) (fun _=>?_) ?_
  rotate_left
  ·go_simp
   try w_num
   rfl
  ·rfl
  walk_nrm
  refine QuitsD.value ?_ rfl rfl (by k_ne) (fun _=>?_) (fun _=>?_) ?_
  rotate_left
  ·go_simp
   try w_num
   rfl
  ·rfl
  walk_nrm
  refine QuitsD.value ?_ rfl rfl (by k_ne) (fun _=>?_) (fun _=>?_) ?_
  rotate_left
  ·go_simp
   try w_num
   rfl
  ·rfl
  walk_nrm
  refine QuitsD.value ?_ rfl rfl (by k_ne) (fun _=>?_) (fun _=>?_) ?_
  rotate_left
  ·go_simp
   try w_num
   rfl
  ·rfl
  walk_nrm
  refine QuitsD.value ?_ rfl rfl (by k_ne) (fun _=>?_) (fun _=>?_) ?_
  rotate_left
  ·go_simp
   try w_num
   rfl
  ·rfl
  walk_nrm
  q_skip
  q_skip
  q_skip
  q_skip
  refine QuitsD.value ?_ rfl rfl (by k_ne) (fun _=>?_) (fun _=>?_) ?_
  rotate_left
  ·go_simp
   try w_num
   rfl
  ·rfl
  walk_nrm
  q_c stepG_region_end
  q_cond false
  q_c stepG_skip
  q_c stepG_seq
  q_c stepG_seq
  q_reg
  refine QuitsD.value ?_ rfl rfl (by k_ne) (fun _=>?_) (fun _=>?_) ?_
  rotate_left
  ·go_simp
   try w_num
   rfl
  ·rfl
  walk_nrm
  refine QuitsD.value ?_ rfl rfl (by k_ne) (fun _=>?_) (fun _=>?_) ?_
  rotate_left
  ·go_simp
   try w_num
   rfl
  ·rfl
  walk_nrm
  refine QuitsD.value ?_ rfl rfl (by k_ne) (fun _=>?_) (fun _=>?_) ?_
  rotate_left
  ·go_simp
   try w_num
   rfl
  ·rfl
  walk_nrm
  q_skip
  q_skip
  refine QuitsD.value ?_ rfl rfl (by k_ne) (fun _=>?_) (fun _=>?_) ?_
  rotate_left
  ·go_simp
   try w_num
   rfl
  ·rfl
  walk_nrm
  q_c stepG_region_end
  q_cond true
  q_c stepG_ret'
  q_enable
  q_leave0 H.f_add
  exact Qjb 856 hT
set_option maxRecDepth 100000 in
set_option maxHeartbeats 8000000 in
theorem QSh {P:Program} {L:WgLink} (H:WgLib P L) {Wg:Nat} {c:Frame} {cs:List Frame} {qt:Nat} (hcm:c.mode=.returning) (hT:QuitsD P qt 0 (G c cs)) :
  LW P L.tWg Wg (qt+1013) .A (G ((baseD L.done).at ⟨#[.pointer (some ⟨Wg,0,none⟩),undef,undef,undef],[]⟩ [.code (ConcR.Gen.body_done L)]) (c::cs)):=by
 lib_facts
 obtain ⟨w,hK⟩:=YY L.tWg Wg;have hA:=@QSg P L H Wg;simp only [ConcR.Gen.body_done,ConcR.Gen.body_add,doneFn,addFn,Eb] at hA ⊢;refine LW.goes (m:=qt+1003) (n:=10) hK ?_
 u_reg rl hK
 u_op rl hK
 u_in rl hK
 refine goes_call rfl rfl (by k_ne) rfl H.f_add (nm_add L) rfl ⟨by u_nil,?_⟩
 walk_nrmf addFn
 refine Goes.stop (fun w₁ h₁=>?_);refine hA (qt:=qt+3) ?_
 q_c stepG_region_end
 q_c stepG_end
 exact QuitsD.leaveD rfl rfl H.f_done rfl hcm hT
end Go.Gw

end
section
namespace Go.Gw
open Go Go.Conc Go.RowKit Go.Conc.Lib Go.ConcR.Gen Go.ConcN
open Go.ConcR (KK wgBlock WgAt stA smA rd wr DC0)
theorem MA.kd {P:Program} {ty:TypeId} {Wg m:Nat} {g g' gE:Goroutine} (hs:g.status=.running) (h:∀ W,Live ty Wg W->stepG P true g W=.go g' W #[Go.ConcR.mk .disable]) (k:MA P ty Wg gE m .P1 g'):MA P ty Wg gE (m+1) .K g:=.inr ⟨hs,.inr ⟨g',h,k⟩⟩
theorem MA.p1 {P:Program} {ty:TypeId} {Wg m:Nat} {g gE:Goroutine} (hs:g.status=.running) (h:∀ v:Nat,v < 2147483647->∃ g',(∀ W,WgAt ty Wg W ((v:Int) * KK) 0->stepG P true g W=.go g' (W.setCell (stA Wg) (.int .u64 (((v+1:Nat):Int) * KK))) #[rd (stA Wg),wr (stA Wg)])/\MA P ty Wg gE m .P2 g'):MA P ty Wg gE (m+1) .P1 g:=.inr ⟨hs,.inr h⟩
theorem MA.rd {P:Program} {ty:TypeId} {Wg m:Nat} {g g' gE:Goroutine} (hs:g.status=.running) (h:∀ W,Live ty Wg W->stepG P true g W=.go g' W #[Go.ConcR.mk (.read (smA Wg))]) (k:MA P ty Wg gE m .P2 g'):MA P ty Wg gE (m+1) .P2 g:=.inr ⟨hs,.inr (.inl ⟨g',h,k⟩)⟩
theorem MA.en {P:Program} {ty:TypeId} {Wg m:Nat} {g g' gE:Goroutine} (hs:g.status=.running) (h:∀ W,Live ty Wg W->stepG P true g W=.go g' W #[Go.ConcR.mk .enable]) (k:MA P ty Wg gE m .E g'):MA P ty Wg gE (m+1) .P2 g:=.inr ⟨hs,.inr (.inr ⟨g',h,k⟩)⟩
theorem MA.e {P:Program} {ty:TypeId} {Wg m:Nat} {g gE:Goroutine} (h:g=gE):MA P ty Wg gE m .E g:=by cases m with | zero=>trivial | succ m=>exact .inl ⟨rfl,h⟩
section
variable {P:Program} {ty:TypeId} {Wg m:Nat} {An:Goroutine->Prop} {g g' gE:Goroutine}
theorem MW.kd (hs:g.status=.running) (h:∀ W,Live ty Wg W->stepG P true g W=.go g' W #[Go.ConcR.mk .disable]) (k:MW P ty Wg An gE m .R g'):MW P ty Wg An gE (m+1) .K g:=.inr ⟨hs,.inr ⟨g',h,k⟩⟩
theorem MW.r (h:An g):MW P ty Wg An gE m .R g:=by cases m with | zero=>exact .inr ⟨rfl,h⟩ | succ m=>exact .inl (.inr ⟨rfl,h⟩)
theorem MW.z (h:g=gE):MW P ty Wg An gE m .Z g:=by cases m with | zero=>exact .inl ⟨rfl,h⟩ | succ m=>exact .inl (.inl ⟨rfl,h⟩)
theorem MW.ld (hs:g.status=.running) (h:∀ v:Nat,v < 2147483648->∃ g',(∀ W,WgAt ty Wg W ((v:Int) * KK) 0->stepG P true g W=.go g' W #[Go.ConcR.rd (stA Wg)])/\(v=0->MW P ty Wg An gE m .E g')/\(v≠0->MW P ty Wg An gE m (.Cs v) g')):MW P ty Wg An gE (m+1) .L g:=.inr ⟨hs,.inr h⟩
theorem MW.cs {v:Nat} (hs:g.status=.running) (h:(∃ g',(∀ W,WgAt ty Wg W ((v:Int) * KK) 0->stepG P true g W=.go g' (W.setCell (stA Wg) (.int .u64 ((v:Int) * KK+1))) #[Go.ConcR.rd (stA Wg),Go.ConcR.wr (stA Wg)])/\MW P ty Wg An gE m .X g') /\
  ∀ u:Nat,u≠v->u < 2147483648->∃ g',(∀ W,WgAt ty Wg W ((u:Int) * KK) 0->stepG P true g W=.go g' W #[Go.ConcR.rd (stA Wg)])/\MW P ty Wg An gE m .R g'):MW P ty Wg An gE (m+1) (.Cs v) g:=.inr ⟨hs,.inr h⟩
theorem MW.x (hs:g.status=.running) (h:∀ W,Live ty Wg W->stepG P true g W=.go g' W #[Go.ConcR.mk (.write (smA Wg))]) (k:MW P ty Wg An gE m .S g'):MW P ty Wg An gE (m+1) .X g:=.inr ⟨hs,.inr ⟨g',h,k⟩⟩
theorem MW.s (hs:g.status=.running) (ho:g.offers=none) (hb:∀ W st,WgAt ty Wg W st 0->stepG P true g W=.go { g with status:=.blocked } W #[]) (h:∀ W,WgAt ty Wg W 0 1->stepG P true g W=.go g' (W.setCell (smA Wg) (.int .u32 0)) (semEvents (smA Wg))) (k:MW P ty Wg An gE m .F g'):MW P ty Wg An gE (m+1) .S g:=.inr ⟨hs,.inr ⟨ho,hb,g',h,k⟩⟩
theorem MW.f (hs:g.status=.running) (h:∀ W,WgAt ty Wg W 0 0->stepG P true g W=.go g' W #[Go.ConcR.rd (stA Wg)]) (k:MW P ty Wg An gE m .E g'):MW P ty Wg An gE (m+1) .F g:=.inr ⟨hs,.inr ⟨g',h,k⟩⟩
theorem MW.en (hs:g.status=.running) (h:∀ W,Live ty Wg W->stepG P true g W=.go g' W #[Go.ConcR.mk .enable]) (k:MW P ty Wg An gE m .Q g'):MW P ty Wg An gE (m+1) .E g:=.inr ⟨hs,.inr ⟨g',h,k⟩⟩
theorem MW.ac (hs:g.status=.running) (h:∀ W,Live ty Wg W->stepG P true g W=.go g' W #[Go.ConcR.mk (.acquire (stA Wg))]) (k:MW P ty Wg An gE m .Z g'):MW P ty Wg An gE (m+1) .Q g:=.inr ⟨hs,.inr ⟨g',h,k⟩⟩
end
set_option maxRecDepth 100000 in
set_option maxHeartbeats 8000000 in
theorem QSj {P:Program} {L:WgLink} (H:WgLib P L) {Wg:Nat} {b₀:Frame} {a₀:Act} {ops₀:Array Oper} {i₀:Nat} {rest₀:List Nat} {k₀:List Item} {cs:List Frame} :
  MA P L.tWg Wg (G (b₀.at (a₀.put ((ops₀[i₀]?).bind (·.dst)) (.tuple #[])) (.inRegion ops₀ rest₀::k₀)) cs) 1000 .K (G ((base L.add).at ⟨#[.pointer (some ⟨Wg,0,none⟩),.int .i64 1,undef,undef,undef,undef,undef,undef,undef,undef,undef,undef,undef,undef,undef,undef,undef,undef,undef,undef,undef,undef,undef,undef,undef,undef,undef,undef,undef,undef,undef,undef,undef,undef,undef,undef,undef,undef,undef,undef,undef,undef,undef,undef,undef,undef,undef,undef,undef,undef,undef,undef,undef,undef,undef,undef,undef,undef,undef,undef,undef,undef,undef,undef,undef,undef,undef,undef,undef,undef,undef,undef,undef,undef,undef,undef,undef,undef,undef,undef,undef,undef,undef,undef,undef,undef,undef,undef,undef,undef,undef,undef,undef,undef,undef,undef,undef,undef,undef,undef,undef,undef,undef,undef,undef,undef,undef,undef,undef,undef,undef,undef,undef,undef,undef,undef,undef],[]⟩ [.code (ConcR.Gen.body_add L)]) (b₀.at a₀ (.inRegion ops₀ (i₀::rest₀)::k₀)::cs)):=by
 lib_facts
 simp only [ConcR.Gen.body_add,addFn,Eb];obtain ⟨w,hK⟩:=YY L.tWg Wg;refine MA.goes (m:=987) (n:=13) hK ?_
 u_c stepG_seq rl hK
 u_cond true rl hK
 u_c stepG_seq rl hK
 u_c stepG_seq rl hK
 u_reg rl hK
 u_op rl hK
 u_op rl hK
 u_c stepG_region_end rl hK
 u_cond false rl hK
 u_c stepG_skip rl hK
 u_c stepG_seq rl hK
 u_reg rl hK
 refine Goes.stop (fun w₁ h₁=>?_);clear h₁ hK w w₁;refine MA.kd rfl (fun W hW=>stepG_mark0 .disable (by simp) rfl rfl (by k_ne) rfl H.f_disable (x_disable_n L) (x_disable_b L) (x_disable_x L) (x_disable_f L)) ?_
 walk_nrm
 obtain ⟨w,hK⟩:=YY L.tWg Wg;refine MA.goes (m:=951) (n:=35) hK ?_
 u_c stepG_region_end rl hK
 u_reg rl hK
 u_defer rl hK
 u_c stepG_region_end rl hK
 u_c stepG_seq rl hK
 u_reg rl hK
 u_op rl hK
 u_c stepG_region_end rl hK
 u_c stepG_seq rl hK
 u_c stepG_seq rl hK
 u_reg rl hK
 u_bub rl hK
 u_c stepG_region_end rl hK
 u_cond false rl hK
 u_c stepG_skip rl hK
 u_c stepG_seq rl hK
 u_reg rl hK
 u_op rl hK
 u_op rl hK
 u_op rl hK
 u_op rl hK
 u_op rl hK
 u_op rl hK
 u_call H.f_uAdd (nm_uAdd L) uAddFn rl hK
 u_c stepG_seq rl hK
 u_reg rl hK
 u_op rl hK
 u_c stepG_region_end rl hK
 u_c stepG_seq rl hK
 u_reg rl hK
 u_op rl hK
 u_op rl hK
 u_op rl hK
 u_op rl hK
 refine Goes.stop (fun w₁ h₁=>?_);clear h₁ hK w w₁;refine MA.p1 rfl fun v hv=>?_;rcases Ed v with rfl | hvp
 ·skip
  have e0:IntKind.u64.wrap (0+4294967296)=KK:=by decide
  have k0:∀ {W:World},WgAt L.tWg Wg W (((0:Nat):Int) * KK) 0->WgAt L.tWg Wg W 0 0:=fun hw=>by grind
  have z:(((0+1:Nat):Int)) * KK=KK:=by simp
  rw [z];refine ⟨_,fun W hw=>(stepG_add_atomic (v:=0) rfl rfl (by k_ne) rfl H.f_addU64 (x_addU64_n L) (x_addU64_b L) (x_addU64_x L) .u64 (x_addU64_f L) rfl rfl (WgAt.cellSt (k0 hw)) (WgAt.thaw (k0 hw) 0)).trans (by rw [e0];rfl),?_⟩;simp only [KK]
  walk_nrm
  obtain ⟨w,hK⟩:=YY L.tWg Wg;refine MA.goes (m:=896) (n:=54) hK ?_
  u_op rl hK
  u_c stepG_region_end rl hK
  u_c stepG_ret' rl hK
  u_leave1 H.f_uAdd rl hK
  u_op rl hK
  u_c stepG_region_end rl hK
  u_c stepG_seq rl hK
  u_c stepG_seq rl hK
  u_reg rl hK
  u_op rl hK
  u_op rl hK
  u_op rl hK
  u_op rl hK
  u_skip rl hK
  u_skip rl hK
  u_op rl hK
  u_c stepG_region_end rl hK
  u_cond false rl hK
  u_c stepG_skip rl hK
  u_c stepG_seq rl hK
  u_reg rl hK
  u_op rl hK
  u_op rl hK
  u_op rl hK
  u_op rl hK
  u_c stepG_region_end rl hK
  u_c stepG_seq rl hK
  u_reg rl hK
  u_op rl hK
  u_op rl hK
  u_op rl hK
  u_op rl hK
  u_c stepG_region_end rl hK
  u_c stepG_seq rl hK
  u_c stepG_seq rl hK
  u_reg rl hK
  u_op rl hK
  u_op rl hK
  u_op rl hK
  u_op rl hK
  u_op rl hK
  u_op rl hK
  u_op rl hK
  u_op rl hK
  u_op rl hK
  u_op rl hK
  u_c stepG_region_end rl hK
  u_cond true rl hK
  u_reg rl hK
  u_op rl hK
  u_op rl hK
  u_op rl hK
  u_conv H.underlying_tPU32 H.room_tU32 (Live.cell1 hK).choose_spec rl hK
  refine Goes.stop (fun w₁ h₁=>?_);clear h₁ hK w w₁;refine MA.rd rfl (fun W hW=>stepG_markAt .read (by simp) rfl rfl (by k_ne) rfl H.f_raceRead (x_raceRead_n L) (x_raceRead_b L) (x_raceRead_x L) (x_raceRead_f L) (ad:=⟨Wg,1,none⟩) (by simp [Act.eval])) ?_
  walk_nrm
  obtain ⟨w,hK⟩:=YY L.tWg Wg;refine MA.goes (m:=855) (n:=40) hK ?_
  u_c stepG_region_end rl hK
  u_c stepG_seq rl hK
  u_c stepG_seq rl hK
  u_reg rl hK
  u_op rl hK
  u_op rl hK
  u_c stepG_region_end rl hK
  u_cond false rl hK
  u_c stepG_skip rl hK
  u_c stepG_seq rl hK
  u_c stepG_seq rl hK
  u_reg rl hK
  u_op rl hK
  u_op rl hK
  u_op rl hK
  u_skip rl hK
  u_skip rl hK
  u_op rl hK
  u_op rl hK
  u_skip rl hK
  u_skip rl hK
  u_skip rl hK
  u_skip rl hK
  u_op rl hK
  u_c stepG_region_end rl hK
  u_cond false rl hK
  u_c stepG_skip rl hK
  u_c stepG_seq rl hK
  u_c stepG_seq rl hK
  u_reg rl hK
  u_op rl hK
  u_op rl hK
  u_op rl hK
  u_skip rl hK
  u_skip rl hK
  u_op rl hK
  u_c stepG_region_end rl hK
  u_cond true rl hK
  u_c stepG_ret' rl hK
  refine Goes.stop (fun w₁ h₁=>?_);clear h₁ hK w w₁;refine MA.en rfl (fun W hW=>stepG_unwind_entry (v:=.tuple #[]) (evs:=#[Go.ConcR.mk .enable]) rfl H.f_enable (x_enable_n L) (x_enable_b L) (x_enable_x L) (x_enable_f L) (by rfl) (by rfl) (by simp [Go.ConcR.mk])) ?_;obtain ⟨w,hK⟩:=YY L.tWg Wg;refine MA.goes (m:=852) (n:=2) hK ?_
  u_leave0 H.f_add rl hK
  grind [MA.e,Goes.stop]
 ·skip
  obtain ⟨V,hV⟩:∃ V:Int,V=(v:Int)+1:=⟨_,rfl⟩;obtain ⟨S,hS⟩:∃ S:Int,S=V * KK:=⟨_,rfl⟩;have k0:∀ {W:World},WgAt L.tWg Wg W ((v:Int) * KK) 0->WgAt L.tWg Wg W ((v:Int) * KK) 0:=fun hw=>hw
  have e0:IntKind.u64.wrap ((v:Int) * KK+4294967296)=S:=by rw [IntKind.wrap_u64,hS,hV];simp only [KK];omega
  have z:(((v+1:Nat):Int)) * KK=S:=by simp_all
  rw [z];clear z;have a1:S / 4294967296=V:=by grind [KK]
  have b1:bits .and .u64 S 2147483648=0:=by rw [hS,hV];have:=st_flag (v+1) 0 (by omega) (by omega);grind [KK]
  have b2:bits .and .u64 S 2147483647=0:=by rw [hS,hV];have:=st_waiters (v+1) 0 (by omega) (by omega);grind [KK]
  have a2:0<=S/\S < 9223372036854775808:=by omega
  clear hS;have c1:IntKind.i32.wrap V=V:=by rw [IntKind.wrap_i32];omega
  have q1:(V == 1)=false:=by simp;omega
  have q2:decide (V=1)=false:=by simp;omega
  have q3:decide (V < 0)=false:=decide_eq_false (by omega);have q4:decide (0 < V)=true:=decide_eq_true (by omega);have q5:(V == 0)=false:=by simp;omega
  have q6:decide (V=0)=false:=decide_eq_false (by omega);have q7:(V == -1)=false:=by simp;omega
  have q8:decide (V=-1)=false:=decide_eq_false (by omega);refine ⟨_,fun W hw=>(stepG_add_atomic (v:=(v:Int) * KK) rfl rfl (by k_ne) rfl H.f_addU64 (x_addU64_n L) (x_addU64_b L) (x_addU64_x L) .u64 (x_addU64_f L) rfl rfl (WgAt.cellSt (k0 hw)) (WgAt.thaw (k0 hw) 0)).trans (by rw [e0];rfl),?_⟩;clear hV e0 k0
  walk_nrm
  obtain ⟨w,hK⟩:=YY L.tWg Wg;refine MA.goes (m:=862) (n:=88) hK ?_
  u_op rl hK
  u_c stepG_region_end rl hK
  u_c stepG_ret' rl hK
  u_leave1 H.f_uAdd rl hK
  u_op rl hK
  u_c stepG_region_end rl hK
  u_c stepG_seq rl hK
  u_c stepG_seq rl hK
  u_reg rl hK
  u_op rl hK
  u_op rl hK
  u_op rl hK
  u_op rl hK
  u_skip rl hK
  u_skip rl hK
  u_op rl hK
  u_c stepG_region_end rl hK
  u_cond false rl hK
  u_c stepG_skip rl hK
  u_c stepG_seq rl hK
  u_reg rl hK
  u_op rl hK
  u_op rl hK
  u_op rl hK
  u_op rl hK
  u_c stepG_region_end rl hK
  u_c stepG_seq rl hK
  u_reg rl hK
  u_op rl hK
  u_op rl hK
  u_op rl hK
  u_op rl hK
  u_c stepG_region_end rl hK
  u_c stepG_seq rl hK
  u_c stepG_seq rl hK
  u_reg rl hK
  u_op rl hK
  u_op rl hK
  u_op rl hK
  u_op rl hK
  u_op rl hK
  u_op rl hK
  u_op rl hK
  u_op rl hK
  u_op rl hK
  u_op rl hK
  u_c stepG_region_end rl hK
  u_cond false rl hK
  u_c stepG_skip rl hK
  u_c stepG_seq rl hK
  u_c stepG_seq rl hK
  u_reg rl hK
  u_op rl hK
  u_op rl hK
  u_c stepG_region_end rl hK
  u_cond false rl hK
  u_c stepG_skip rl hK
  u_c stepG_seq rl hK
  u_c stepG_seq rl hK
  u_reg rl hK
  u_op rl hK
  u_op rl hK
  u_op rl hK
  u_skip rl hK
  u_skip rl hK
  u_op rl hK
  u_op rl hK
  u_skip rl hK
  u_skip rl hK
  u_skip rl hK
  u_skip rl hK
  u_op rl hK
  u_c stepG_region_end rl hK
  u_cond false rl hK
  u_c stepG_skip rl hK
  u_c stepG_seq rl hK
  u_c stepG_seq rl hK
  u_reg rl hK
  u_op rl hK
  u_op rl hK
  u_op rl hK
  u_skip rl hK
  u_skip rl hK
  u_op rl hK
  u_c stepG_region_end rl hK
  u_cond true rl hK
  u_c stepG_ret' rl hK
  refine Goes.stop (fun w₁ h₁=>?_);clear h₁ hK w w₁;refine MA.en rfl (fun W hW=>stepG_unwind_entry (v:=.tuple #[]) (evs:=#[Go.ConcR.mk .enable]) rfl H.f_enable (x_enable_n L) (x_enable_b L) (x_enable_x L) (x_enable_f L) (by rfl) (by rfl) (by simp [Go.ConcR.mk])) ?_;obtain ⟨w,hK⟩:=YY L.tWg Wg;refine MA.goes (m:=859) (n:=2) hK ?_
  u_leave0 H.f_add rl hK
  grind [MA.e,Goes.stop]
def AnW (L:WgLink) (Wg:Nat) (cs:List Frame) (g:Goroutine):Prop:=∃ T:Array Value,g=G ((base L.wait).at ⟨T,[]⟩ [.code (ConcR.Gen.L7 L),.inLoop (ConcR.Gen.L7 L),.inBlock 0]) cs/\T.size=84/\T[0]?=some (.pointer (some ⟨Wg,0,none⟩))
set_option maxRecDepth 100000 in
set_option maxHeartbeats 8000000 in
theorem QSx {P:Program} {L:WgLink} (H:WgLib P L) {Wg:Nat} {b₀:Frame} {a₀:Act} {ops₀:Array Oper} {i₀:Nat} {rest₀:List Nat} {k₀:List Item} {cs:List Frame} {gE:Goroutine}:MW P L.tWg Wg (AnW L Wg (b₀.at a₀ (.inRegion ops₀ (i₀::rest₀)::k₀)::cs)) gE 1000 .K (G ((base L.wait).at ⟨#[.pointer (some ⟨Wg,0,none⟩),undef,undef,undef,undef,undef,undef,undef,undef,undef,undef,undef,undef,undef,undef,undef,undef,undef,undef,undef,undef,undef,undef,undef,undef,undef,undef,undef,undef,undef,undef,undef,undef,undef,undef,undef,undef,undef,undef,undef,undef,undef,undef,undef,undef,undef,undef,undef,undef,undef,undef,undef,undef,undef,undef,undef,undef,undef,undef,undef,undef,undef,undef,undef,undef,undef,undef,undef,undef,undef,undef,undef,undef,undef,undef,undef,undef,undef,undef,undef,undef,undef,undef,undef],[]⟩ [.code (ConcR.Gen.body_wait L)]) (b₀.at a₀ (.inRegion ops₀ (i₀::rest₀)::k₀)::cs)):=by
 lib_facts
 simp only [ConcR.Gen.body_wait,waitFn,Eb];obtain ⟨w,hK⟩:=YY L.tWg Wg;refine Ea (m:=996) (n:=4) hK ?_
 u_c stepG_seq rl hK
 u_cond true rl hK
 u_reg rl hK
 refine Goes.stop (fun w₁ h₁=>?_);clear h₁ hK w w₁;refine MW.kd rfl (fun W hW=>stepG_mark0 .disable (by simp) rfl rfl (by k_ne) rfl H.f_disable (x_disable_n L) (x_disable_b L) (x_disable_x L) (x_disable_f L)) ?_
 walk_nrm
 obtain ⟨w,hK⟩:=YY L.tWg Wg;refine Ea (m:=991) (n:=4) hK ?_
 u_c stepG_region_end rl hK
 u_c stepG_block rl hK
 u_c stepG_loop rl hK
 refine Goes.stop (fun w₁ h₁=>?_);clear h₁ hK w w₁;exact MW.r ⟨_,rfl,by simp,by simp⟩
set_option maxRecDepth 100000 in
set_option maxHeartbeats 8000000 in
theorem QSw {P:Program} {L:WgLink} (H:WgLib P L) {Wg:Nat} {b₀:Frame} {a₀:Act} {ops₀:Array Oper} {i₀:Nat} {rest₀:List Nat} {k₀:List Item} {cs:List Frame} (g:Goroutine) (hA:AnW L Wg (b₀.at a₀ (.inRegion ops₀ (i₀::rest₀)::k₀)::cs) g):MW P L.tWg Wg (AnW L Wg (b₀.at a₀ (.inRegion ops₀ (i₀::rest₀)::k₀)::cs)) (G (b₀.at (a₀.put ((ops₀[i₀]?).bind (·.dst)) (.tuple #[])) (.inRegion ops₀ rest₀::k₀)) cs) 1000 .L g:=by
 lib_facts
 obtain ⟨T,rfl,hT84,t0⟩:=hA;obtain ⟨v0,v1,v2,v3,v4,v5,v6,v7,v8,v9,v10,v11,v12,v13,v14,v15,v16,v17,v18,v19,v20,v21,v22,v23,v24,v25,v26,v27,v28,v29,v30,v31,v32,v33,v34,v35,v36,v37,v38,v39,v40,v41,v42,v43,v44,v45,v46,v47,v48,v49,v50,v51,v52,v53,v54,v55,v56,v57,v58,v59,v60,v61,v62,v63,v64,v65,v66,v67,v68,v69,v70,v71,v72,v73,v74,v75,v76,v77,v78,v79,v80,v81,v82,v83,rfl⟩:=ConcR.Gen.array84 T hT84;simp only [List.getElem?_toArray,List.getElem?_cons_zero,Option.some.injEq] at t0;subst t0;simp only [ConcR.Gen.L7,ConcR.Gen.body_wait,waitFn,Eb];obtain ⟨w,hK⟩:=YY L.tWg Wg;refine Ea (m:=983) (n:=17) hK ?_
 u_c stepG_block rl hK
 u_c stepG_seq rl hK
 u_reg rl hK
 u_op rl hK
 u_op rl hK
 u_op rl hK
 u_call H.f_uLoad (nm_uLoad L) uLoadFn rl hK
 u_c stepG_seq rl hK
 u_reg rl hK
 u_op rl hK
 u_c stepG_region_end rl hK
 u_c stepG_seq rl hK
 u_reg rl hK
 u_op rl hK
 u_op rl hK
 u_op rl hK
 refine Goes.stop (fun w₁ h₁=>?_);clear h₁ hK w w₁;refine MW.ld rfl fun v hv=>?_;rcases Ed v with rfl | hvp
 ·skip
  have k0:∀ {W:World},WgAt L.tWg Wg W (((0:Nat):Int) * KK) 0->WgAt L.tWg Wg W 0 0:=fun hw=>by grind
  refine ⟨_,fun W hw=>stepG_load_atomic (v:=0) rfl rfl (by k_ne) rfl H.f_loadU64 (x_loadU64_n L) (x_loadU64_b L) (x_loadU64_x L) .u64 (x_loadU64_f L) rfl (WgAt.cellSt (k0 hw)),fun _=>?_,fun h=>absurd rfl h⟩
  walk_nrm
  obtain ⟨w,hK⟩:=YY L.tWg Wg;refine Ea (m:=950) (n:=32) hK ?_
  u_op rl hK
  u_c stepG_region_end rl hK
  u_c stepG_ret' rl hK
  u_leave1 H.f_uLoad rl hK
  u_op rl hK
  u_c stepG_region_end rl hK
  u_c stepG_seq rl hK
  u_reg rl hK
  u_op rl hK
  u_op rl hK
  u_op rl hK
  u_op rl hK
  u_c stepG_region_end rl hK
  u_c stepG_seq rl hK
  u_reg rl hK
  u_op rl hK
  u_op rl hK
  u_op rl hK
  u_op rl hK
  u_c stepG_region_end rl hK
  u_c stepG_seq rl hK
  u_c stepG_seq rl hK
  u_reg rl hK
  u_op rl hK
  u_op rl hK
  u_c stepG_region_end rl hK
  u_cond true rl hK
  u_c stepG_seq rl hK
  u_cond true rl hK
  u_c stepG_seq rl hK
  u_reg rl hK
  refine Goes.stop (fun w₁ h₁=>?_);clear h₁ hK w w₁;refine MW.en rfl (fun W hW=>stepG_mark0 .enable (by simp) rfl rfl (by k_ne) rfl H.f_enable (x_enable_n L) (x_enable_b L) (x_enable_x L) (x_enable_f L)) ?_
  walk_nrm
  obtain ⟨w,hK⟩:=YY L.tWg Wg;refine Ea (m:=944) (n:=5) hK ?_
  u_c stepG_region_end rl hK
  u_reg rl hK
  u_op rl hK
  u_conv H.underlying_tWgP H.room_tWg (Live.cell0 hK).choose_spec rl hK
  refine Goes.stop (fun w₁ h₁=>?_);clear h₁ hK w w₁;refine MW.ac rfl (fun W hW=>stepG_markAt .acquire (by simp) rfl rfl (by k_ne) rfl H.f_acquire (x_acquire_n L) (x_acquire_b L) (x_acquire_x L) (x_acquire_f L) (by simp [Act.eval,stA])) ?_
  walk_nrm
  obtain ⟨w,hK⟩:=YY L.tWg Wg;refine Ea (m:=922) (n:=21) hK ?_
  u_c stepG_region_end rl hK
  u_c stepG_seq rl hK
  u_c stepG_seq rl hK
  u_reg rl hK
  u_op rl hK
  u_op rl hK
  u_op rl hK
  u_op rl hK
  u_op rl hK
  u_op rl hK
  u_op rl hK
  u_op rl hK
  u_skip rl hK
  u_skip rl hK
  u_op rl hK
  u_c stepG_region_end rl hK
  u_cond false rl hK
  u_c stepG_skip rl hK
  u_c stepG_ret' rl hK
  u_leave0 H.f_wait rl hK
  grind [MW.z,Goes.stop]
 ·skip
  obtain ⟨V,hV⟩:∃ V:Int,V=(v:Int):=⟨_,rfl⟩;obtain ⟨S,hS⟩:∃ S:Int,S=V * KK:=⟨_,rfl⟩;have k0:∀ {W:World},WgAt L.tWg Wg W ((v:Int) * KK) 0->WgAt L.tWg Wg W S 0:=fun hw=>by simp_all
  have w1:IntKind.u64.wrap (S+1)=S+1:=by grind [KK,IntKind.wrap_u64]
  have zS:Pk ((v:Int) * KK=S):=⟨by rw [hS,hV]⟩;have hS0:Pk (S=V * KK):=⟨hS⟩;have hV0:Pk (V=(v:Int)):=⟨hV⟩;have a1:S / 4294967296=V:=by grind [KK]
  have b1:bits .and .u64 S 2147483648=0:=by rw [hS,hV];have:=st_flag v 0 (by omega) (by omega);grind [KK]
  have b2:bits .and .u64 S 2147483647=0:=by rw [hS,hV];have:=st_waiters v 0 (by omega) (by omega);grind [KK]
  have a2:0<=S/\S < 9223372036854775808:=by omega
  clear hS;have c1:IntKind.i32.wrap V=V:=by rw [IntKind.wrap_i32];omega
  have q3:decide (V < 0)=false:=decide_eq_false (by omega);have q4:decide (0 < V)=true:=decide_eq_true (by omega);have q5:(V == 0)=false:=by simp;omega
  have q6:decide (V=0)=false:=decide_eq_false (by omega);have q7:(V == -1)=false:=by simp;omega
  have q8:decide (V=-1)=false:=decide_eq_false (by omega);refine ⟨_,fun W hw=>stepG_load_atomic (v:=S) rfl rfl (by k_ne) rfl H.f_loadU64 (x_loadU64_n L) (x_loadU64_b L) (x_loadU64_x L) .u64 (x_loadU64_f L) rfl (WgAt.cellSt (k0 hw)),fun h0=>absurd h0 (by omega),fun _=>?_⟩;clear hV
  walk_nrm
  obtain ⟨w,hK⟩:=YY L.tWg Wg;refine Ea (m:=933) (n:=49) hK ?_
  u_op rl hK
  u_c stepG_region_end rl hK
  u_c stepG_ret' rl hK
  u_leave1 H.f_uLoad rl hK
  u_op rl hK
  u_c stepG_region_end rl hK
  u_c stepG_seq rl hK
  u_reg rl hK
  u_op rl hK
  u_op rl hK
  u_op rl hK
  u_op rl hK
  u_c stepG_region_end rl hK
  u_c stepG_seq rl hK
  u_reg rl hK
  u_op rl hK
  u_op rl hK
  u_op rl hK
  u_op rl hK
  u_c stepG_region_end rl hK
  u_c stepG_seq rl hK
  u_c stepG_seq rl hK
  u_reg rl hK
  u_op rl hK
  u_op rl hK
  u_c stepG_region_end rl hK
  u_cond false rl hK
  u_c stepG_skip rl hK
  u_c stepG_seq rl hK
  u_reg rl hK
  u_op rl hK
  u_op rl hK
  u_op rl hK
  u_op rl hK
  u_op rl hK
  u_op rl hK
  u_call H.f_uCas (nm_uCas L) uCasFn rl hK
  u_c stepG_seq rl hK
  u_reg rl hK
  u_op rl hK
  u_c stepG_region_end rl hK
  u_c stepG_seq rl hK
  u_reg rl hK
  u_op rl hK
  u_op rl hK
  u_op rl hK
  u_op rl hK
  u_op rl hK
  refine Goes.stop (fun w₁ h₁=>?_);clear h₁ hK w w₁;refine MW.cs rfl ⟨?_,fun u hu hu2=>?_⟩
  ·skip
   refine ⟨_,fun W hw=>(stepG_cas_hit (v:=S) (n:=S+1) rfl rfl (by k_ne) rfl H.f_casU64 (x_casU64_n L) (x_casU64_b L) (x_casU64_x L) .u64 (x_casU64_f L) rfl rfl rfl (WgAt.cellSt (k0 hw)) (WgAt.thaw (k0 hw) 0)).trans (by rw [zS.out];rfl),?_⟩;clear hV0 zS hS0 k0
   walk_nrm
   obtain ⟨w,hK⟩:=YY L.tWg Wg;refine Ea (m:=911) (n:=21) hK ?_
   u_op rl hK
   u_c stepG_region_end rl hK
   u_c stepG_ret' rl hK
   u_leave1 H.f_uCas rl hK
   u_c stepG_region_end rl hK
   u_cond true rl hK
   u_c stepG_seq rl hK
   u_c stepG_seq rl hK
   u_reg rl hK
   u_op rl hK
   u_op rl hK
   u_op rl hK
   u_op rl hK
   u_c stepG_region_end rl hK
   u_cond true rl hK
   u_reg rl hK
   u_op rl hK
   u_op rl hK
   u_op rl hK
   u_conv H.underlying_tPU32 H.room_tU32 (Live.cell1 hK).choose_spec rl hK
   refine Goes.stop (fun w₁ h₁=>?_);clear h₁ hK w w₁;refine MW.x rfl (fun W hW=>stepG_markAt .write (by simp) rfl rfl (by k_ne) rfl H.f_raceWrite (x_raceWrite_n L) (x_raceWrite_b L) (x_raceWrite_x L) (x_raceWrite_f L) (ad:=⟨Wg,1,none⟩) (by simp [Act.eval])) ?_
   walk_nrm
   obtain ⟨w,hK⟩:=YY L.tWg Wg;refine Ea (m:=886) (n:=24) hK ?_
   u_c stepG_region_end rl hK
   u_c stepG_seq rl hK
   u_reg rl hK
   u_op rl hK
   u_c stepG_region_end rl hK
   u_c stepG_seq rl hK
   u_c stepG_seq rl hK
   u_reg rl hK
   u_op rl hK
   u_op rl hK
   u_op rl hK
   u_op rl hK
   u_skip rl hK
   u_op rl hK
   u_c stepG_region_end rl hK
   u_cond false rl hK
   u_c stepG_skip rl hK
   u_c stepG_seq rl hK
   u_reg rl hK
   u_op rl hK
   u_op rl hK
   u_op rl hK
   u_op rl hK
   refine Goes.stop (fun w₁ h₁=>?_);clear h₁ hK w w₁;refine MW.s rfl rfl (fun W st hw=>stepG_semacquire_wait rfl rfl rfl H.f_semacquire (x_semacquire_n L) (x_semacquire_b L) (x_semacquire_x L) (x_semacquire_f L) (by simp [Act.eval,smA]) (WgAt.cellSm hw)) (fun W hw=>(stepG_semacquire (n:=1) rfl rfl (by k_ne) rfl H.f_semacquire (x_semacquire_n L) (x_semacquire_b L) (x_semacquire_x L) (x_semacquire_f L) (by simp [Act.eval,smA]) (WgAt.cellSm hw) (by decide) (WgAt.thaw hw 1)).trans (by rfl)) ?_
   walk_nrm
   obtain ⟨w,hK⟩:=YY L.tWg Wg;refine Ea (m:=868) (n:=17) hK ?_
   u_c stepG_region_end rl hK
   u_c stepG_seq rl hK
   u_reg rl hK
   u_op rl hK
   u_op rl hK
   u_op rl hK
   u_call H.f_uLoad (nm_uLoad L) uLoadFn rl hK
   u_c stepG_seq rl hK
   u_reg rl hK
   u_op rl hK
   u_c stepG_region_end rl hK
   u_c stepG_seq rl hK
   u_reg rl hK
   u_op rl hK
   u_op rl hK
   u_op rl hK
   refine Goes.stop (fun w₁ h₁=>?_);clear h₁ hK w w₁;refine MW.f rfl (fun W hw=>stepG_load_atomic (v:=0) rfl rfl (by k_ne) rfl H.f_loadU64 (x_loadU64_n L) (x_loadU64_b L) (x_loadU64_x L) .u64 (x_loadU64_f L) rfl (WgAt.cellSt hw)) ?_
   walk_nrm
   obtain ⟨w,hK⟩:=YY L.tWg Wg;refine Ea (m:=855) (n:=12) hK ?_
   u_op rl hK
   u_c stepG_region_end rl hK
   u_c stepG_ret' rl hK
   u_leave1 H.f_uLoad rl hK
   u_op rl hK
   u_op rl hK
   u_c stepG_region_end rl hK
   u_c stepG_seq rl hK
   u_cond true rl hK
   u_c stepG_seq rl hK
   u_reg rl hK
   refine Goes.stop (fun w₁ h₁=>?_);clear h₁ hK w w₁;refine MW.en rfl (fun W hW=>stepG_mark0 .enable (by simp) rfl rfl (by k_ne) rfl H.f_enable (x_enable_n L) (x_enable_b L) (x_enable_x L) (x_enable_f L)) ?_
   walk_nrm
   obtain ⟨w,hK⟩:=YY L.tWg Wg;refine Ea (m:=849) (n:=5) hK ?_
   u_c stepG_region_end rl hK
   u_reg rl hK
   u_op rl hK
   u_conv H.underlying_tWgP H.room_tWg (Live.cell0 hK).choose_spec rl hK
   refine Goes.stop (fun w₁ h₁=>?_);clear h₁ hK w w₁;refine MW.ac rfl (fun W hW=>stepG_markAt .acquire (by simp) rfl rfl (by k_ne) rfl H.f_acquire (x_acquire_n L) (x_acquire_b L) (x_acquire_x L) (x_acquire_f L) (by simp [Act.eval,stA])) ?_
   walk_nrm
   obtain ⟨w,hK⟩:=YY L.tWg Wg;refine Ea (m:=837) (n:=11) hK ?_
   u_c stepG_region_end rl hK
   u_c stepG_seq rl hK
   u_c stepG_seq rl hK
   u_reg rl hK
   u_op rl hK
   u_c stepG_region_end rl hK
   u_cond false rl hK
   u_c stepG_skip rl hK
   u_c stepG_ret' rl hK
   u_leave0 H.f_wait rl hK
   grind [MW.z,Goes.stop]
  ·skip
   refine ⟨_,fun W hw=>stepG_cas_miss (v:=(u:Int) * KK) (old:=S) (n:=S+1) rfl rfl (by k_ne) rfl H.f_casU64 (x_casU64_n L) (x_casU64_b L) (x_casU64_x L) .u64 (x_casU64_f L) rfl rfl rfl (WgAt.cellSt hw) (WgAt.thaw hw 0) (by rw [hS0.out,hV0.out];simp only [KK];omega),?_⟩;clear hV0 zS hS0 k0
   walk_nrm
   obtain ⟨w,hK⟩:=YY L.tWg Wg;refine Ea (m:=922) (n:=10) hK ?_
   u_op rl hK
   u_c stepG_region_end rl hK
   u_c stepG_ret' rl hK
   u_leave1 H.f_uCas rl hK
   u_c stepG_region_end rl hK
   u_cond false rl hK
   u_c stepG_skip rl hK
   u_c stepG_inBlock rl hK
   u_c stepG_inLoop rl hK
   refine Goes.stop (fun w₁ h₁=>?_);clear h₁ hK w w₁;exact MW.r ⟨_,rfl,by simp,by simp⟩
end Go.Gw

end
section
set_option maxRecDepth 100000
set_option maxHeartbeats 8000000
namespace Go.Gw
open Go Go.Proofs
abbrev lkLink:Go.Conc.Lib.WgLink:={ add:=113,done:=115,wait:=117,relMerge:=161,disable:=162,enable:=163,inBubble:=164,associate:=165,fatal:=166,uOr:=167,uAdd:=168,raceRead:=169,uLoad:=170,uStore:=171,disassociate:=172,semrelease:=173,acquire:=175,isAssociated:=176,uCas:=177,raceWrite:=178,semacquire:=179,orU64:=204,addU64:=205,loadU64:=206,storeU64:=207,casU64:=209,tWgP:=223,tUP:=193,tAssoc:=225,tWg:=187,tAU:=184,tU64:=182,tUint:=173,tU32:=185,tPU32:=229,tPAU:=262,tPU64:=264,tNoCopy:=179,tANoCopy:=180,tAlign64:=181 }
theorem lkLib:Go.Conc.Lib.WgLib Tryz.prog lkLink:=⟨Tryz.func113,Tryz.func115,Tryz.func117,Tryz.func161,Tryz.func162,Tryz.func163,Tryz.func164,Tryz.func165,Tryz.func166,Tryz.func167,Tryz.func168,Tryz.func169,Tryz.func170,Tryz.func171,Tryz.func172,Tryz.func173,Tryz.func175,Tryz.func176,Tryz.func177,Tryz.func178,Tryz.func179,Tryz.func204,Tryz.func205,Tryz.func206,Tryz.func207,Tryz.func209,Tryz.underlying223,Tryz.runUnderlying223,Tryz.sizeOf223,Tryz.isAgg223,Tryz.zeroValue223,Tryz.underlying193,Tryz.runUnderlying193,Tryz.sizeOf193,Tryz.isAgg193,Tryz.zeroValue193,Tryz.underlying225,Tryz.runUnderlying225,Tryz.sizeOf225,Tryz.isAgg225,Tryz.zeroValue225,Tryz.underlying187,Tryz.runUnderlying187,Tryz.sizeOf187,Tryz.isAgg187,Tryz.zeroValue187,Tryz.underlying184,Tryz.runUnderlying184,Tryz.sizeOf184,Tryz.isAgg184,Tryz.zeroValue184,Tryz.underlying182,Tryz.runUnderlying182,Tryz.sizeOf182,Tryz.isAgg182,Tryz.zeroValue182,Tryz.underlying173,Tryz.runUnderlying173,Tryz.sizeOf173,Tryz.isAgg173,Tryz.zeroValue173,Tryz.underlying185,Tryz.runUnderlying185,Tryz.sizeOf185,Tryz.isAgg185,Tryz.zeroValue185,Tryz.underlying229,Tryz.runUnderlying229,Tryz.sizeOf229,Tryz.isAgg229,Tryz.zeroValue229,Tryz.underlying262,Tryz.runUnderlying262,Tryz.sizeOf262,Tryz.isAgg262,Tryz.zeroValue262,Tryz.underlying264,Tryz.runUnderlying264,Tryz.sizeOf264,Tryz.isAgg264,Tryz.zeroValue264,Tryz.underlying0,Tryz.runUnderlying0,Tryz.sizeOf0,Tryz.isAgg0,Tryz.zeroValue0,Tryz.underlying3,Tryz.runUnderlying3,Tryz.sizeOf3,Tryz.isAgg3,Tryz.zeroValue3,Tryz.underlying4,Tryz.runUnderlying4,Tryz.sizeOf4,Tryz.isAgg4,Tryz.zeroValue4,Tryz.underlying9,Tryz.runUnderlying9,Tryz.sizeOf9,Tryz.isAgg9,Tryz.zeroValue9,Tryz.underlying20,Tryz.runUnderlying20,Tryz.sizeOf20,Tryz.isAgg20,Tryz.zeroValue20,Tryz.underlying21,Tryz.runUnderlying21,Tryz.sizeOf21,Tryz.isAgg21,Tryz.zeroValue21,(by kernel_rfl),(by kernel_rfl)⟩
end Go.Gw

end
section
namespace Go.Gw
open Go Go.Conc
def wD (ds:List Deferred) (a:Act):Act:=⟨a.tmps,ds⟩
section
variable {P:Program} {J:Jd P} {ds:List Deferred} {a:Act} {w:World}
theorem Qwg:(wD ds a).eval=a.eval:=by
 rfl
theorem Qpo (d:Option Nat) (v:Value):(wD ds a).put d v=wD ds (a.put d v):=by
 cases d<;>rfl
theorem Q4t {o:Oper} {K K':Act->World->Prop} (hK:∀ a w,K a w->K' (wD ds a) w) {r:Result Next} (h:upJ J o a K r):upJ J o (wD ds a) K' r:=by
 cases r with
 | halt x w'=>exact h
 | ok x w' =>
  cases x<;>first
   | exact h
   | (show K' _ _;rw [Qpo];exact hK _ _ h)
   | (intro c cs Stop hs;refine h c cs Stop fun v w'' h'=>hs v w'' ?_;grind [Qpo,wD])
theorem QWy {ops:Array Oper} {i:Nat} {K K':Act->World->Prop} (hK:∀ a w,K a w->K' (wD ds a) w) (h:Zw J ops i K a w):Zw J ops i K' (wD ds a) w:=by
 unfold Zw at *
 split
 ·simp_all
 ·rename_i o ho;rw [ho] at h;simp only at h;rw [Qwg];show if Region.wanted o (yielded ops a.tmps) then _ else _
  split
  ·rename_i hw;rw [if_pos hw] at h;refine ⟨h.1,h.2.imp (fun ⟨v,h1,h2⟩=>⟨v,h1,?_⟩) fun h1 w1 r=>Q4t hK (h1 w1 r)⟩
   grind [Qpo]
  simp_all [if_neg,Qpo]
end
section
variable {P:Program} [JD P] {n:Nat} {ρ:Env} {w:World} {ds:List Deferred}
theorem Qxc {ops:Array Oper} {S:World->Prop} {Kt:Array Bool->Act->World->Prop}:∀ (fuel:Nat) (listed:Array Bool) (a:Act) (w:World),Qed P ops S Kt fuel listed a w ->
  Qed P ops S (fun l a' w=>∃ a,a'=wD ds a/\Kt l a w) fuel listed (wD ds a) w
 | 0,listed,a,w,h=>⟨a,rfl,h⟩
 | fuel+1,listed,a,w,h=>⟨h.1,fun i hi=>QWy (fun a w h'=>⟨h'.1,Qxc fuel _ a w h'.2⟩) (h.2 i hi)⟩
theorem Q5c {id:Nat} {ops:List Oper} {j:Nat} (S:World->World->Prop) (hm:P.follows .mixedOrders=true) (body:List (Nat×Bool)) (hok:Qyq ops.toArray j body [j]=true) (hS:∀ w,S w w) {Kt:Env->World->Prop}
  {b:Frame} {k:List Item} {cs:List Frame} {Stop:Goroutine->World->Prop} (hb:b.kind≠.early)
  (h:TS P n ops (S { w with drawn:=w.drawn+1 }) Kt body ρ { w with drawn:=w.drawn+1 }) (hF:∀ ρ' w',Kt ρ' w'->Wlk (JD.j (P:=P)) Stop (G (b.at (wD ds (act n ρ')) (.inRegion ops.toArray [j]::k)) cs) w') :
  Wlk (JD.j (P:=P)) Stop (G (b.at (wD ds (act n ρ)) (.code (.region id ops.toArray true)::k)) cs) w:=by
 simp only [Qyq,Bool.and_eq_true] at hok;obtain ⟨⟨⟨⟨⟨hsel,hw⟩,hle⟩,hbl⟩,ht⟩,hbody⟩:=hok;have hbl:body.length=j:=by simp_all
 have ht:j+1=ops.toArray.size:=by simp_all
 have hle:j<=ops.toArray.size:=by omega
 have h1:=TS.toBK hsel hw body (Array.replicate ops.toArray.size false) ρ _ (by simp) (Closed.none _ _) (by grind [Qwd]) hbody (hS _) h;refine .by rfl fun w1 r=>⟨_,_,QHl,?_⟩
 simp only [Region.schedule,hm,Bool.true_or,if_true];have h2:=QJb (Kt:=fun l a' w=>∃ a,a'=wD ds a/\∃ ρ,a=act n ρ/\Qhd ops.toArray [j] l=true/\Kt ρ w) (Kf:=fun a w=>∃ ρ,a=wD ds (act n ρ)/\Kt ρ w) (fun listed a w ⟨a0,ha0,ρ,ha,hok,h⟩=>⟨hok,ρ,by rw [ha0,ha],h⟩) hb (fun a' w' ⟨ρ',ha,h⟩=>by subst ha;exact hF ρ' w' h) body.length (w1.tape w1.drawn (.order b.fn id)) _ _ _ (Qxc _ _ _ _ h1);rw [hbl,ht] at h2;exact h2.rely ⟨r.os,r.tape,r.output,r.size,r.block,r.fresh⟩
end
section
variable {P:Program} {main:Bool} {b:Frame} {a:Act} {k:List Item} {cs:List Frame} {w:World}
theorem QZp {T:TypeId} {ad:Addr} {q:Option Addr} {m c:Nat} {u:Value} {es:Array Event} (hT:Xh P T 1) (hc:w.cell? ad=some u) (hf:w.frozen? ad=false) :
  (Instr.storeAt T (.pointer (some ad)) (.slice q m c)).runT P w es=(.ok () (w.setCell ad (.slice q m c)),es.push ⟨.cell ad,true,false⟩):=by
 unfold Instr.storeAt Instr.sureAddr;simp only [pure_bind];unfold storeVar;refine (Q1 (Qjn hT)).trans ?_;have h0:ad.add 0=ad:=by rfl
 have e1:(store ad (.slice q m c)).runT P w es=(.ok () (w.setCell ad (.slice q m c)),es.push ⟨.cell ad,true,false⟩):=by
  show (Sem.store .plain ad (.slice q m c) (.pure ())).runT P w es=_
  grind [Sem.runT]
 trivial
theorem Q2h {ops:Array Oper} {i:Nat} {rest:List Nat} {o:Oper} {T:TypeId} {x y:Operand} {ad:Addr} {v u:Value} (ho:ops[i]?=some o) (hw:Region.wanted o (yielded ops a.tmps)=true) (hk:b.kind≠.early)
  (hop:o.op=.store T x y) (hdst:o.dst=none) (hT:Xh P T 1) (hx:a.eval x=.pointer (some ad)) (hy:a.eval y=v) (hv:∃ q m c,v=.slice q m c) (hq:(P.funcs[b.fn]?).any (·.norace)=false) (hc:w.cell? ad=some u) (hf:w.frozen? ad=false) :
  stepG P main (G (b.at a (.inRegion ops (i::rest)::k)) cs) w=.go (G (b.at a (.inRegion ops rest::k)) cs) (w.setCell ad v) #[⟨.cell ad,true,false⟩]:=by
 obtain ⟨q,m,c,rfl⟩:=hv;have h2:(execOp a.eval o).runT P w #[]=(.ok .skip (w.setCell ad (.slice q m c)),#[⟨.cell ad,true,false⟩]):=by
  have e0:execOp a.eval o=(Instr.storeAt T (.pointer (some ad)) (.slice q m c) >>= fun _=>Pure.pure Next.skip):=by grind [execOp]
  rw [e0];exact (Q1 (QZp hT hc hf)).trans rfl
 rw [Sem.runT_eq] at h2;have hr:(execOp a.eval o).run P w=.ok .skip (w.setCell ad (.slice q m c)):=congrArg Prod.fst h2;have he:(execOp a.eval o).events P w #[]=#[⟨.cell ad,true,false⟩]:=congrArg Prod.snd h2;have hfin:(b.at a (.inRegion ops (i::rest)::k)).finish undef=b.at a (.inRegion ops rest::k):=by grind [Act.put,Frame.finish_at]
 have hk':(b.kind == CallKind.early)=false:=by grind
 have hsn:seen P b.fn #[⟨.cell ad,true,false⟩]=#[⟨.cell ad,true,false⟩]:=by
  grind [seen]
 rw [stepG_oper ho hw,<-hfin];simp_all [stepG.apply,G,Frame.at,GStep.after]
end
end Go.Gw

end
section
set_option maxRecDepth 100000
set_option maxHeartbeats 8000000
namespace Go.Gw
open Go Go.Conc Go.Proofs
attribute [local irreducible] T0 TS TT TP TX TZ Eff Stp WC Quiet gd
theorem QDr:Xh Tryz.prog 174 1:=Yi (by kernel_rfl)
theorem QDh:YV Tryz.prog 174:=⟨_,Tryz.underlying174,trivial⟩
theorem QWt:YV Tryz.prog 122:=⟨_,Tryz.underlying122,trivial⟩
theorem QXj:Xh Tryz.prog 122 1:=Yi (by kernel_rfl)
theorem QWu:YV Tryz.prog 177:=⟨_,Tryz.underlying177,trivial⟩
theorem QDq:Xh Tryz.prog 188 1:=Yi (by kernel_rfl)
def Qdv (L:List Value) (x:List Ns):Value->World->Prop:=fun v w=>SlRd L w v x
def JZ:Code->Code
 | .seq _ y=>y
 | c=>c
def Quo:Code->Array Oper
 | .region _ o _=>o
 | _=>#[]
noncomputable def Qnk (Wg:Nat):List Deferred:=[dcall 115 #[.pointer (some ⟨Wg,0,none⟩)]]
theorem Q6e {P:Program} [JD P] {n:Nat} {ρ:Env} {w:World} {d:Option Nat} {t T:TypeId} {p:String} {af:Array Edge} {gu:Option (Nat×Bool)} {x y:Operand} {e C m cap j:Nat} {kk:IntKind} (hu:P.underlying T=some (.slice e)) (hs:Xh P e 1) (h1:j < m) (hx:Qn n ρ x=.slice (some ⟨C,0,none⟩) m cap) (hy:Qn n ρ y=.int kk (j:Int)) :
  Yl P n ρ ⟨d,.indexAddr T x y,t,p,af,gu⟩ w (.pointer (some ⟨C,j,none⟩)):=by
 have h2:(j:Int) < (m:Int):=by omega
 have e1:Addr.add ⟨C,0,none⟩ j=⟨C,j,none⟩:=by rw [YD,Nat.zero_add]
 exact YQ (X5 (Qkg _ _ _)) fun w1 _=>by simp [execOp,hx,hy,Instr.indexAt,asIntOf,run_underlying hu,Instr.sureAddr,h1,Zg hs,e1]
theorem QSi {Wg:Nat} {a:Act} {ops:Array Oper}:LW Tryz.prog 187 Wg 1018 .A (G ((baseD 114).at (wD (Qnk Wg) a) [.inRegion ops []]) [bot Tryz.prog]):=by
 refine ⟨rfl,.inl fun W _=>⟨_,stepG_region_end,?_⟩⟩;refine ⟨rfl,.inl fun W _=>⟨_,stepG_end,?_⟩⟩;refine ⟨rfl,.inl fun W _=>⟨_,stepG_unwind_enter (f:=115) (args:=#[.pointer (some ⟨Wg,0,none⟩)]) (ds:=[]) rfl lkLib.f_done (by kernel_rfl) rfl,?_⟩⟩;exact QSh lkLib (qt:=2) rfl (QXq Tryz.func114 rfl rfl)
theorem QWx {Z:Nat->Prop} {C Wg:Nat} {L:List Value} {w:World} (hL:LtL L w) {b2 b4 b5 k cap n:Nat} {pn:Value} {nd:Nt} {x:List Ns}
    (h2:RowAt w b2 [.slice (some ⟨C,0,none⟩) n cap]) (h4:RowAt w b4 [.int .i64 k]) (h5:RowAt w b5 [pn]) (hp:PtRd L w pn (some nd)) (hk:k < n) (hs:Qmu nd.line=some x) :
    Wlk (Jw Tryz.prog Z) (fun g w=>∃ m,Qdw Tryz.prog 187 Wg C k (Qdv L x) m g w) (born Tryz.prog { target:=.fn (.func 114) #[.pointer (some ⟨Wg,0,none⟩),.pointer (some ⟨b5,0,none⟩),.pointer (some ⟨b2,0,none⟩),.pointer (some ⟨b4,0,none⟩)],args:=#[] }) w:=by
  letI:JD Tryz.prog:=⟨Jw Tryz.prog Z⟩
  obtain ⟨bn,rfl,hpn⟩:=hp.is;refine .ctl rfl (fun W=>Q2g Tryz.func114 (by kernel_rfl) rfl) ?_;have e:=Qgf [.pointer (some ⟨Wg,0,none⟩),.pointer (some ⟨b5,0,none⟩),.pointer (some ⟨b2,0,none⟩),.pointer (some ⟨b4,0,none⟩)] 12 (by simp);refine Eq.subst (motive:=fun a=>Wlk (Jw Tryz.prog Z) (fun g w=>∃ m,Qdw Tryz.prog 187 Wg C k (Qdv L x) m g w) (G ((baseD 114).at a [.code _]) [bot Tryz.prog]) w) e.symm ?_;refine .ctl rfl (fun W=>stepG_seq) ?_;refine .ctl rfl (fun W=>stepG_region) ?_;refine .ctl rfl (fun W=>stepG_defer rfl rfl (by simp [baseD]) rfl) ?_;refine .ctl rfl (fun W=>stepG_region_end) ?_;have eD:dcall 115 (Array.map (act 12 (fun i=>[Value.pointer (some ⟨Wg,0,none⟩),.pointer (some ⟨b5,0,none⟩),.pointer (some ⟨b2,0,none⟩),.pointer (some ⟨b4,0,none⟩)].getD i undef)).eval #[Operand.tmp 0])=dcall 115 #[.pointer (some ⟨Wg,0,none⟩)]:=by
    rw [Qaf];simp only [List.map_toArray,List.map_cons,List.map_nil];rfl
  rw [eD];show Wlk (Jw Tryz.prog Z) (fun g w=>∃ m,Qdw Tryz.prog 187 Wg C k (Qdv L x) m g w) (G ((baseD 114).at (wD (Qnk Wg) (act 12 (fun i=>[Value.pointer (some ⟨Wg,0,none⟩),.pointer (some ⟨b5,0,none⟩),.pointer (some ⟨b2,0,none⟩),.pointer (some ⟨b4,0,none⟩)].getD i undef))) [.code (JZ (Tryz.f114.body.getD .skip))]) [bot Tryz.prog]) w;refine Q5c (n:=12) (j:=8) (ds:=Qnk Wg) (fun w0 w'=>Ext w0 w') Xu [(0,false),(1,false),(2,false),(3,false),(4,false),(5,false),(6,true),(7,false)] (by kernel_rfl) (fun w=>Chg.refl _ _) (by simp [baseD])
    (Kt:=fun ρ' w'=>ρ' 11=.pointer (some ⟨C,k,none⟩)/\SlRd L w' (ρ' 10) x) ?_ (fun ρ' w' ⟨k1,k2⟩=>.stop fun w1 r1=>⟨1018,rfl,G ((baseD 114).at (wD (Qnk Wg) (act 12 ρ')) [.inRegion (Quo (JZ (Tryz.f114.body.getD .skip))) []]) [bot Tryz.prog],ρ' 10,fun W cs e hC hkc=>?_,QSi,fun w2 r2=>k2.step (Stepp.ext (r1.trans r2).ext)⟩)
  · have e0:Ext w { w with drawn:=w.drawn+1 }:=Ext.drew w;generalize ({ w with drawn:=w.drawn+1 }:World)=w0 at e0 ⊢;refine Qdz (v:=.slice (some ⟨C,0,none⟩) n cap) rfl rfl (fun w' hS=>Qj QWu rfl (h2.at.ext (e0.trans hS))) ?_;refine Qdz (v:=.int .i64 k) rfl rfl (fun w' hS=>Qj QQ rfl (h4.at.ext (e0.trans hS))) ?_;refine Qdz (v:=.pointer (some ⟨bn,0,none⟩)) rfl rfl (fun w' hS=>Qj QDh rfl (h5.at.ext (e0.trans hS))) ?_;refine Qdz (v:=.pointer (some ⟨bn,0,none⟩)) rfl rfl (fun w' hS=>Yn rfl) ?_;refine Qdz (v:=.pointer (some ⟨bn,0,none⟩)) rfl rfl (fun w' hS=>ZT 0 Tryz.underlying176 rfl rfl ⟨0,QXj⟩ rfl rfl) ?_;obtain ⟨cs0,hat,v1,v2,h1,h2',rfl⟩:=hpn.at;refine Qdz (v:=v1) rfl rfl (fun w' hS=>Qj QWt rfl (hat.ext (e0.trans hS))) ?_;refine QIf rfl rfl (Qs Tryz.func116 (by kernel_rfl) rfl (QI rfl) (QRg (hL.chg e0) (h1.ext e0) hs) ?_);rintro _ w2 ⟨e2,v,rfl,hrd⟩;refine ⟨e2,?_⟩;refine Qdz (v:=.pointer (some ⟨C,k,none⟩)) rfl rfl (fun w' hS=>Q6e Tryz.underlying177 QDq hk rfl rfl) ?_;exact QIg ⟨rfl,hrd⟩
  · obtain ⟨q,c,hv,_⟩:=k2.shape;refine Q2h (ad:=⟨C,k,none⟩) (v:=ρ' 10) (u:=cs[k]) rfl rfl (by simp [baseD]) rfl rfl QDq (by rw [Qwg,Qaf];exact k1) (by rw [Qwg,Qaf];rfl) ⟨q,_,c,hv⟩ (by kernel_rfl) (by simp [World.cell?,hC,hkc]) (by simp [World.frozen?,hC])
end Go.Gw

end
section
set_option maxRecDepth 100000
set_option maxHeartbeats 8000000
namespace Go.Gw
open Go Go.Conc Go.Proofs
attribute [local irreducible] T0 TS TT TP TX TZ Eff Stp WC Quiet gd
section
variable {P:Program}
theorem QW.go {ty:TypeId} {Wg C N Low:Nat} {et:TypeId} {cs0:Array Value} {S:Goroutine->World->Prop} {Z:Nat->Prop} {orig:Nat->Option Obj} {O:List (Nat×(Value->World->Prop))} {b:Frame} {a:Act} {kk:List Item} {cs:List Frame} {ops:Array Oper} {i:Nat} {rest:List Nat} {o:Oper} {cl:Call} {f:FuncId} {caps:Array Value} {w:World}
  (K:Nat->Prop) (k:Nat) (φ:Value->World->Prop) (ho:ops[i]?=some o) (hop:o.op=.go cl) (hw:Region.wanted o (yielded ops a.tmps)=true) (hb:b.kind≠.early) (hd:∀ W,(resolve a.eval cl o.type).run P W=.ok { target:=.fn (.func f) caps,args:=#[] } W) (hde:∀ W,(resolve a.eval cl o.type).events P W #[]=#[])
  (hdst:o.dst=none) (hk:k < N) (hkO:∀ p∈O,p.1≠k)
  (hC:∀ w1,Rel w w1->Rows K w1) (hW:∀ w1,Rel w w1->Wlk (Jw P fun b=>Z b\/K b) (fun g w=>∃ m,Qdw P ty Wg C k φ m g w) (born P { target:=.fn (.func f) caps,args:=#[] }) (hid (fun b=>Z b\/K b) (frz K w1)))
  (hn:∀ w1,Rel w w1->QW P ty Wg C N Low et cs0 S 0 (fun b=>Z b\/K b) (Qbc Z K w1 orig) (O++[(k,φ)]) (G (b.at a (.inRegion ops rest::kk)) cs) (frz K w1)):QW P ty Wg C N Low et cs0 S 1 Z orig O (G (b.at a (.inRegion ops (i::rest)::kk)) cs) w:=by
 refine .fork _ _ K k φ rfl (fun W=>?_) hk hkO hC hW hn;have hrun:(execOp a.eval o).run P W=.ok (.spawn { target:=.fn (.func f) caps,args:=#[] }) W:=by simp [execOp,hop,hd]
 have hev:listed P b.fn a o W=#[]:=by
  simp_all [seen_none,execOp,listed]
 rw [stepG_spawn ho hw hb hrun rfl,hev,hdst];rfl
theorem QGc {main:Bool} {b:Frame} {a:Act} {kk:List Item} {cs:List Frame} {ops:Array Oper} {i:Nat} {rest:List Nat} {o:Oper} {f:FuncId} {fn:Func} {c:Code} {args:Array Operand} {ats:Array TypeId} (W:World)
    (ho:ops[i]?=some o) (hw:Region.wanted o (yielded ops a.tmps)=true) (hk:b.kind≠.early) (hop:o.op=.call { callee:=.value (.func f),args,argTypes:=ats })
    (hf : P.funcs[f]? = some fn) (hname : (fn.name == "runtime.NumGoroutine") = false) (hb : fn.body = some c) :
    stepG P main (G (b.at a (.inRegion ops (i::rest)::kk)) cs) W=.go (G ((base f).at { tmps:=args.map a.eval++Array.replicate (fn.ntmps - (args.map a.eval).size) undef,defers:=[] } [.code c]) (b.at a (.inRegion ops (i::rest)::kk)::cs)) W #[]:=by
  have hb':fn.body.isNone=false:=by rw [hb];rfl
  rw [stepG_enter ho hw hk (run_call_body hop hf hname hb'),enter_at _ hf hb]
  grind [listed,events_call_body,seen_none]
end
section
variable {Wg C N Low:Nat} {et:TypeId} {cs0:Array Value} {S:Goroutine->World->Prop} {Z:Nat->Prop} {orig:Nat->Option Obj} {O:List (Nat×(Value->World->Prop))} {b:Frame} {a:Act} {kk:List Item} {cs:List Frame} {ops:Array Oper} {i:Nat} {rest:List Nat} {o:Oper} {w:World} {args:Array Operand} {ats:Array TypeId}
theorem QW.addc (ho:ops[i]?=some o) (hw:Region.wanted o (yielded ops a.tmps)=true) (hk:b.kind≠.early) (hop:o.op=.call { callee:=.value (.func 113),args,argTypes:=ats }) (ha:args.map a.eval=#[.pointer (some ⟨Wg,0,none⟩),.int .i64 1])
  (h:∀ w1,Rel w w1->QW Tryz.prog 187 Wg C N Low et cs0 S 1 Z orig O (G (b.at (a.put ((ops[i]?).bind (·.dst)) (.tuple #[])) (.inRegion ops rest::kk)) cs) w1):QW Tryz.prog 187 Wg C N Low et cs0 S 0 Z orig O (G (b.at a (.inRegion ops (i::rest)::kk)) cs) w:=by
 refine QW.of (.ctl rfl (fun W=>QGc (c:=ConcR.Gen.body_add lkLink) W ho hw hk hop lkLib.f_add (by kernel_rfl) (by kernel_rfl)) (.stop fun w1 r1=>?_));refine .add _ 1000 rfl ?_ (fun w2 r2=>h w2 (r1.trans r2));rw [ha];refine Eq.subst (motive:=fun T=>MA Tryz.prog 187 Wg (G (b.at (a.put ((ops[i]?).bind (·.dst)) (.tuple #[])) (.inRegion ops rest::kk)) cs) 1000 .K (G ((base 113).at ⟨T,[]⟩ [.code (ConcR.Gen.body_add lkLink)]) (b.at a (.inRegion ops (i::rest)::kk)::cs))) ?_ (QSj lkLib)
 kernel_rfl
theorem QW.waitc (ho:ops[i]?=some o) (hw:Region.wanted o (yielded ops a.tmps)=true) (hk:b.kind≠.early) (hop:o.op=.call { callee:=.value (.func 117),args,argTypes:=ats }) (ha:args.map a.eval=#[.pointer (some ⟨Wg,0,none⟩)])
  (h:∀ w1 w' cs',Rel w w1->FullG C N Low cs0 O w1 w' cs'->S (G (b.at (a.put ((ops[i]?).bind (·.dst)) (.tuple #[])) (.inRegion ops rest::kk)) cs) (thaw Z orig (JY C cs' et w'))):QW Tryz.prog 187 Wg C N Low et cs0 S 0 Z orig O (G (b.at a (.inRegion ops (i::rest)::kk)) cs) w:=by
 refine QW.of (.ctl rfl (fun W=>QGc (c:=ConcR.Gen.body_wait lkLink) W ho hw hk hop lkLib.f_wait (by kernel_rfl) (by kernel_rfl)) (.stop fun w1 r1=>?_));refine .wait (AnW lkLink Wg (b.at a (.inRegion ops (i::rest)::kk)::cs)) _ 1000 1000 rfl (fun g ⟨T,hg,_⟩=>by rw [hg];rfl) rfl ?_ (fun g hg=>QSw lkLib g hg) (fun w2 w' cs' r2 hF=>h w2 w' cs' (r1.trans r2) hF);rw [ha];refine Eq.subst (motive:=fun T=>MW Tryz.prog 187 Wg (AnW lkLink Wg (b.at a (.inRegion ops (i::rest)::kk)::cs)) (G (b.at (a.put ((ops[i]?).bind (·.dst)) (.tuple #[])) (.inRegion ops rest::kk)) cs) 1000 .K (G ((base 117).at ⟨T,[]⟩ [.code (ConcR.Gen.body_wait lkLink)]) (b.at a (.inRegion ops (i::rest)::kk)::cs))) ?_ (QSx lkLib)
 kernel_rfl
end
end Go.Gw

end
section
set_option maxRecDepth 100000
set_option maxHeartbeats 8000000
namespace Go.Gw
open Go Go.Conc Go.Proofs
attribute [local irreducible] T0 TS TT TP TX TZ Eff Stp WC Quiet gd
theorem JN {ρ:Env} {d i:Nat} {v:Value} (h:i < d):Xm ρ (some d) v i=ρ i:=by simp [Xm,upd,Qir (Nat.ne_of_lt h)]
theorem QW.rely {P:Program} {ty:TypeId} {Wg C N Low:Nat} {et:TypeId} {cs0:Array Value} {S:Goroutine->World->Prop} {pd:Nat} {Z:Nat->Prop} {orig:Nat->Option Obj} {O:List (Nat×(Value->World->Prop))} {g:Goroutine} {w w1:World} (h:QW P ty Wg C N Low et cs0 S pd Z orig O g w) (r:Rel w w1):QW P ty Wg C N Low et cs0 S pd Z orig O g w1:=by
 cases h with
 | step nx hs h1 h2=>exact .step nx hs (fun w2 r2=>h1 w2 (r.trans r2)) (fun w2 r2=>h2 w2 (r.trans r2))
 | add gE m hs h1 h2=>exact .add gE m hs h1 (fun w2 r2=>h2 w2 (r.trans r2))
 | fork g' child K k φ hs h1 h2 h3 h4 h5 h6=>exact .fork g' child K k φ hs h1 h2 h3 (fun w2 r2=>h4 w2 (r.trans r2)) (fun w2 r2=>h5 w2 (r.trans r2)) (fun w2 r2=>h6 w2 (r.trans r2))
 | wait An gE m NA hs h1 h2 h3 h4 h5=>exact .wait An gE m NA hs h1 h2 h3 h4 (fun w2 w' cs r2 hF=>h5 w2 w' cs (r.trans r2) hF)
theorem QW.stop {P:Program} {ty:TypeId} {Wg C N Low:Nat} {et:TypeId} {cs0:Array Value} {S:Goroutine->World->Prop} {pd:Nat} {Z:Nat->Prop} {orig:Nat->Option Obj} {O:List (Nat×(Value->World->Prop))} {g:Goroutine} {w:World} {J:Jd P} (h:QW P ty Wg C N Low et cs0 S pd Z orig O g w):Wlk J (fun g w=>QW P ty Wg C N Low et cs0 S pd Z orig O g w) g w:=Wlk.stop fun w1 r=>h.rely r
theorem Qpj {ρ:Env} {d i:Nat} {v:Value} (h:i≠d):Xm ρ (some d) v i=ρ i:=by simp [Xm,upd,Qir h]
theorem Q6z:ZI Tryz.prog 174 [.pointer none]:=ZV (by kernel_rfl)
theorem Q7d:ZI Tryz.prog 3 [.int .i64 0]:=ZV (by kernel_rfl)
noncomputable def Qgu:List (Option Nt)->Option (List (List Ns))
 | []=>some []
 | o::l=>Ef o fun n=>Ef (Qmu n.line) fun x=>Ef (Qgu l) fun r=>some (x::r)
noncomputable def Qtx (ns:List (Option Nt)):Option (List (List Ns)):=bif ns.isEmpty then none else Qgu ns
theorem Qtw:∀ {ns:List (Option Nt)} {rs:List (List Ns)},Qgu ns=some rs->rs.length=ns.length/\∀ (k:Nat) (x:List Ns),rs[k]?=some x->∃ nd:Nt,ns[k]?=some (some nd)/\Qmu nd.line=some x
 | [],rs,h=>by cases h;exact ⟨rfl,fun k x h=>by simp at h⟩
 | o::l,rs,h=>by
  unfold Qgu at h;obtain ⟨nd,h1,h⟩:=Qcq h;obtain ⟨x,h2,h⟩:=Qcq h;obtain ⟨r,h3,h⟩:=Qcq h;cases h;obtain ⟨h4,h5⟩:=Qtw h3;refine ⟨by simp [h4],fun k y hy=>?_⟩;cases k with
  | zero=>simp at hy;subst hy;exact ⟨nd,by simp [h1],h2⟩
  | succ k=>simp at hy;obtain ⟨nd',h6,h7⟩:=h5 k y hy;exact ⟨nd',by simpa using h6,h7⟩
def Qvd:Code->Code
 | .seq x _=>x
 | c=>c
def lpO:Code->Code
 | .block _ (.loop c)=>c
 | c=>c
noncomputable def Qgt:Code:=JZ (Tryz.f81.body.getD .skip)
noncomputable def QDk:Code:=JZ (JZ (JZ Qgt))
noncomputable def LBo:Code:=lpO (JZ (Qvd (JZ Qgt)))
noncomputable def posts (L:List Value) (rs:List (List Ns)) (j:Nat):List (Nat×(Value->World->Prop)):=(List.range j).map fun k=>(k,Qdv L (rs.getD k []))
theorem QXo {L:List Value} {rs:List (List Ns)} {j:Nat}:posts L rs (j+1)=posts L rs j++[(j,Qdv L (rs.getD j []))]:=by
 unfold posts;rw [List.range_succ,List.map_append];rfl
theorem QXn {L:List Value} {rs:List (List Ns)} {j:Nat}:∀ p∈posts L rs j,p.1≠j:=fun p hp e=>by
 unfold posts at hp;obtain ⟨k,hk,rfl⟩:=List.mem_map.1 hp;have:=List.mem_range.1 hk;simp only at e;omega
section
variable {L:List Value} {w0:World} {C cap b2:Nat} {v:Value} {ns:List (Option Nt)} {rs:List (List Ns)} {ρ0:Env}
structure On0 (L:List Value) (w0:World) (C cap b2:Nat) (v:Value) (ns:List (Option Nt)) (rs:List (List Ns)) (ρ0:Env):Prop where
 hL:LtL L w0
 hC:pt C∈L
 r2:ρ0 2=pt b2
 n2:b2≠C
 B2:RowAt w0 b2 [.slice (some ⟨C,0,none⟩) ns.length cap]
 hs:SlRd L w0 v ns
 hn:ns.length<=cap
 hm:ns.length<=1073741824
 rs:Qgu ns=some rs
theorem Qub {b:Nat}:pt b∈[pt b]:=List.mem_singleton.2 rfl
theorem QNs (hP:On0 L w0 C cap b2 v ns rs ρ0) {Wg Low N:Nat} (hN:N=cap) {cs0:Array Value} {S:Goroutine->World->Prop} {b:Frame} (hb:b.kind≠.early) {kk:List Item} {cs:List Frame} (hW:w0.heap.size<=Wg)
    (hE:∀ ρ w Z orig,(∀ i,i < 3->ρ i=ρ0 i)->ρ 3=pt Wg->Inv w0 C Z orig w->QW Tryz.prog 187 Wg C N Low 188 cs0 S 0 Z orig (posts L rs ns.length) (G (b.at (act 91 ρ) kk) cs) w) :
    ∀ (i j:Nat),j+i=ns.length->∀ (ρ:Env) (w:World) (Z:Nat->Prop) (orig:Nat->Option Obj),(∀ i,i < 3->ρ i=ρ0 i)->ρ 3=pt Wg->ρ 21=v->ρ 22=.int .i64 ns.length->ρ 23=.int .i64 j->Inv w0 C Z orig w ->
      QW Tryz.prog 187 Wg C N Low 188 cs0 S 0 Z orig (posts L rs j) (G (b.at (act 91 ρ) (.code LBo::.inLoop LBo::.inBlock 0::kk)) cs) w:=by
  obtain ⟨hrl,hrg⟩:=Qtw hP.rs;have hm:=hP.hm
  have head : ∀ (j : Nat) (tr : Bool), tr = decide (j < ns.length) -> ∀ (ρ : Env) (w : World) (Z : Nat -> Prop) (orig : Nat -> Option Obj) (O : List (Nat × (Value -> World -> Prop))), ρ 22 = .int .i64 ns.length -> ρ 23 = .int .i64 j ->
      (∀ ρ',(∀ i,i < 24->ρ' i=ρ i)->QW Tryz.prog 187 Wg C N Low 188 cs0 S 0 Z orig O (G (b.at (act 91 ρ') (.code (bif tr then .skip else .exit 0)::.code (JZ (JZ LBo))::.inLoop LBo::.inBlock 0::kk)) cs) w) ->
      QW Tryz.prog 187 Wg C N Low 188 cs0 S 0 Z orig O (G (b.at (act 91 ρ) (.code LBo::.inLoop LBo::.inBlock 0::kk)) cs) w:=by
    intro j tr htr ρ w Z orig O h22 h23 hk;refine QW.of ?_
    letI:JD Tryz.prog:=⟨Jp Tryz.prog Z⟩
    refine Qca (Qoo (n:=91) (K:=fun ρ' w'=>w'=w/\ρ' 24=.bool tr/\∀ i,i < 24->ρ' i=ρ i) ?_ hb ?_)
    · refine ZW (v:=.bool (decide ((j:Int) < (ns.length:Int)))) rfl (Q2 h23 h22) ?_;refine Qb ⟨rfl,?_,fun i hi=>JN hi⟩;rw [htr];show Value.bool (decide ((j:Int) < (ns.length:Int)))=_;congr 1;by_cases h:j < ns.length
      · rw [decide_eq_true h,decide_eq_true];omega
      · rw [decide_eq_false h,decide_eq_false];omega
    · rintro ρ' w' ⟨rfl,h24,hr'⟩;exact Qca (QKf (n:=91) (by exact h24) (hk ρ' hr').stop)
  intro i
  induction i with
  | zero =>
    intro j hj ρ w Z orig hρ h3 h21 h22 h23 hI;obtain rfl:j=ns.length:=by omega
    refine head _ false (by simp) ρ w Z orig _ h22 h23 fun ρ' hr=>QW.of ?_
    letI:JD Tryz.prog:=⟨Jp Tryz.prog Z⟩
    refine QLu rfl ?_;exact (hE ρ' w Z orig (fun i hi=>(hr i (by omega)).trans (hρ i hi)) ((hr 3 (by omega)).trans h3) hI).stop
  | succ i ih =>
    intro j hj ρ w Z orig hρ h3 h21 h22 h23 hI;refine head _ true (by simp;omega) ρ w Z orig _ h22 h23 fun ρ1 hr1=>QW.of ?_
    letI:JD Tryz.prog:=⟨Jp Tryz.prog Z⟩
    have q3:ρ1 3=pt Wg:=(hr1 3 (by omega)).trans h3;have q21:ρ1 21=v:=(hr1 21 (by omega)).trans h21;have q22:ρ1 22=.int .i64 ns.length:=(hr1 22 (by omega)).trans h22;have q23:ρ1 23=.int .i64 j:=(hr1 23 (by omega)).trans h23;have hjl:j < ns.length:=by omega
    obtain ⟨x,hx⟩:∃ x,rs[j]?=some x:=⟨_,List.getElem?_eq_getElem (by omega)⟩;obtain ⟨nd,hnd,hps⟩:=hrg j x hx;have hel:idx ns (j:Int)=some (some nd):=by unfold idx;rw [if_pos (by omega)];simpa using hnd
    have hs':SlRd L w v ns:=hP.hs.step (hI.stepp hP.hC);obtain ⟨csn,hat,pn,hpn,rfl⟩:=SlRd.at hs' hel;have hlt:C < w0.heap.size:=hI.lt8;refine Q0n (Qca (Qxu (Qca (Qoo (n:=91) (K:=fun ρ' w'=>(∀ i,i < 24->i≠4->i≠5->ρ' i=ρ1 i)/\∃ b4 b5,ρ' 4=pt b4/\ρ' 5=pt b5/\w0.heap.size<=b4/\w0.heap.size<=b5/\Inv w0 C Z orig w'/\Box w' b4 [.int .i64 j] 3/\Box w' b5 [pn] 174/\PtRd L w' pn (some nd)) ?_ hb ?_))))
    · refine ZW (v:=.int .i64 j) rfl (Qq q23) ?_;refine ZW (v:=.pointer (some (Yy v (j:Int).toNat 1))) rfl (QT Tryz.underlying145 QDr hs' hel q21 q23) ?_;refine ZW (v:=pn) rfl (Qj QDh rfl hat) ?_;refine Qg rfl (Xl Q7d fun b4 w4 hb4 e4 hB4=>?_);refine Qg rfl (Xl Q6z fun b5 w5 hb5 e5 hB5=>?_);have n45:b4≠b5:=fun e=>by have:=hB4.lt;omega
      refine Qg rfl (Y9 (vs:=[.int .i64 j]) (cs':=[.int .i64 j]) QJ rfl rfl rfl rfl (hB4.ext e5) rfl (Qk rfl QH) rfl fun w6 c6 hB6=>?_);have hB5':=hB5.chg c6 (QO n45);refine Qg rfl (Y9 (vs:=[pn]) (cs':=[pn]) QDr (XL hpn.one1) rfl rfl rfl hB5' rfl (Qk hpn.one1 QH) rfl fun w7 c7 hB7=>Qb ?_);have h4w:w0.heap.size<=b4:=Ee hI.size hb4;have h5w:w0.heap.size<=b5:=Ee (Ee hI.size e4.size) hb5;have z4:¬ Z b4:=fun hz=>by obtain ⟨_,_,_,_,h1,_⟩:=hI.zrow _ hz;have:=Z1 h1;omega
      have z5:¬ Z b5:=fun hz=>by obtain ⟨_,_,_,_,h1,_⟩:=hI.zrow _ hz;have:=Z1 h1;have:=e4.size;omega
      have e07:Ext w w7:=QR (QR (e4.trans e5) c6 hb4) c7 (Ee e4.size hb5);refine ⟨fun i hi h1 h2=>?_,b4,b5,?_,rfl,h4w,h5w,((((hI.ext e4).ext e5).chg c6 (.inr ⟨h4w,z4⟩)).chg c7 (.inr ⟨h5w,z5⟩)),hB6.chg c7 (QO n45.symm),hB7,hpn.ext e07⟩
      · exact (Qpj h2).trans ((Qpj h1).trans ((JN (by omega)).trans ((JN (by omega)).trans (JN (by omega)))))
      · rfl
    · rintro ρ2 w2 ⟨k1,b4,b5,k4,k5,h4w,h5w,hI2,hB4,hB5,hpn2⟩;refine Qca (Qop ?_);refine .stop fun w3 r3=>?_;refine QW.addc rfl rfl hb rfl ?_ fun w4 r4=>QW.of ?_
      · rw [Qaf];simp only [List.map_toArray,List.map_cons,List.map_nil];show #[ρ2 3,Value.int .i64 1]=_;rw [(k1 3 (by omega) (by omega) (by omega)).trans q3]
      rw [Jx];show Wlk (Jp Tryz.prog Z) _ (G (b.at (act 91 (Xm ρ2 (some 28) (.tuple #[]))) _) cs) w4;generalize hρ3:Xm ρ2 (some 28) (.tuple #[])=ρ3;have hr3:∀ i,i < 28->ρ3 i=ρ2 i:=fun i hi=>by rw [<-hρ3];exact JN hi
      have p3:ρ3 3=pt Wg:=(hr3 3 (by omega)).trans ((k1 3 (by omega) (by omega) (by omega)).trans q3);have p2:ρ3 2=pt b2:=(hr3 2 (by omega)).trans ((k1 2 (by omega) (by omega) (by omega)).trans ((hr1 2 (by omega)).trans ((hρ 2 (by omega)).trans hP.r2)));have p4:ρ3 4=pt b4:=(hr3 4 (by omega)).trans k4;have p5:ρ3 5=pt b5:=(hr3 5 (by omega)).trans k5;refine Qrn (Qop ?_);refine QXa (n:=91) (i:=0) (rest:=[1]) (K:=fun v w'=>v=.func (.func 114) #[] (List.toArray [pt Wg,pt b5,pt b2,pt b4])/\w'=w4) rfl rfl ?_ hb ?_
      · exact QLi (Qac (cs:=[pt Wg,pt b5,pt b2,pt b4]) (JB p3 p5 p2 p4)) ⟨rfl,rfl⟩
      rintro _ w' ⟨rfl,rfl⟩;refine .stop fun w5 r5=>?_;have r25:Rel w2 w5:=(r3.trans r4).trans r5;have hI5:=hI2.rel r25;have hv:(act 91 (Xm ρ3 (some 29) (.func (.func 114) #[] (List.toArray [pt Wg,pt b5,pt b2,pt b4])))).eval (.tmp 29)=.func (.func 114) #[] (List.toArray [pt Wg,pt b5,pt b2,pt b4]):=by rw [Qaf];rfl
      have n4:b4≠C:=fun e=>by omega
      have n5:b5≠C:=fun e=>by omega
      refine QW.go (CC w5 C) j (Qdv L (rs.getD j [])) rfl rfl (by kernel_rfl) hb (f:=114) (caps:=#[pt Wg,pt b5,pt b2,pt b4]) (fun W=>?_) (fun W=>?_) rfl (by rw [hN];exact Nat.lt_of_lt_of_le hjl hP.hn) QXn (fun w6 r6=>QJz r6) (fun w6 r6=>?_) (fun w6 r6=>?_)
      · simp only [resolve,hv];simp [Deferred.ofValue]
      · simp only [resolve,hv];simp [Deferred.ofValue]
      · -- the worker
        have hgx:rs.getD j []=x:=by simp [List.getD,hx]
        rw [hgx];have sc:=Qyb (Z:=Z) (w:=w5) (w1:=w6) (L:=L) hP.hC r6;have scC:=Qyb (Z:=Z) (w:=w5) (w1:=w6) (L:=[pt C]) Qub r6;have s0C:=(hI5.stepp (L:=[pt C]) Qub).trans scC;refine QWx (n:=ns.length) (cap:=cap) (fun y hy k hk=>?_) (hP.B2.step s0C (Qfx hP.n2)) (RowAt.step scC (Qfx n4) (hB4.ext r25.ext).row) (RowAt.step scC (Qfx n5) (hB5.ext r25.ext).row) ((hpn2.ext r25.ext).step sc) hjl hps;have h1:=hP.hL y hy k hk;rw [Qry,Qlv];have:=r6.size;have:=hI5.size;omega
      · -- on
        have hI6:=hI5.frz r6;rw [<-QXo];generalize frz (CC w5 C) w6=w7 at hI6 ⊢;generalize hρ4:Xm ρ3 (some 29) (.func (.func 114) #[] (List.toArray [pt Wg,pt b5,pt b2,pt b4]))=ρ4;generalize (fun b=>Z b\/CC w5 C b)=Z2 at hI6 ⊢;generalize Qbc Z (CC w5 C) w6 orig=orig2 at hI6 ⊢;have hr4:∀ i,i < 24->i≠4->i≠5->ρ4 i=ρ i:=fun i hi h1 h2=>by rw [<-hρ4];exact (JN (by omega)).trans ((hr3 i (by omega)).trans ((k1 i hi h1 h2).trans (hr1 i hi)))
        refine QW.of ?_
        letI:JD Tryz.prog:=⟨Jp Tryz.prog Z2⟩
        refine Qrn (QOn (Qoo (n:=91) (K:=fun ρ' w'=>w'=w7/\ρ' 23=.int .i64 ((j+1:Nat):Int)/\∀ i,i < 23->ρ' i=ρ4 i) ?_ hb ?_))
        · refine ZW (v:=.int .i64 (w64 ((j:Int)+1))) rfl (QN ((hr4 23 (by omega) (by omega) (by omega)).trans h23) rfl) ?_;refine ZW (v:=.int .i64 (w64 ((j:Int)+1))) rfl (Qq rfl) ?_;refine Qb ⟨rfl,?_,fun i hi=>(JN hi).trans (JN (by omega))⟩;show Value.int .i64 (w64 ((j:Int)+1))=_;rw [XS (by omega)];rfl
        · rintro ρ5 w' ⟨rfl,k23,k5'⟩;refine QOo ?_;exact (ih (j+1) (by omega) ρ5 w' Z2 orig2 (fun i hi=>(k5' i (by omega)).trans ((hr4 i (by omega) (by omega) (by omega)).trans (hρ i hi))) ((k5' 3 (by omega)).trans ((hr4 3 (by omega) (by omega) (by omega)).trans h3)) ((k5' 21 (by omega)).trans ((hr4 21 (by omega) (by omega) (by omega)).trans h21)) ((k5' 22 (by omega)).trans ((hr4 22 (by omega) (by omega) (by omega)).trans h22)) k23 hI6).stop
end
end Go.Gw

end
section
set_option maxRecDepth 100000
set_option maxHeartbeats 8000000
namespace Go.Gw
open Go Go.Conc Go.Proofs
open Go.ConcR (wgBlock)
attribute [local irreducible] T0 TS TT TP TX TZ Eff Stp WC Quiet gd
theorem Inv.full {w0 w w':World} {C N Low:Nat} {Z:Nat->Prop} {orig:Nat->Option Obj} {cs0 cs:Array Value} {et:TypeId} {O:List (Nat×(Value->World->Prop))} (h:Inv w0 C Z orig w) (hF:FullG C N Low cs0 O w w' cs) (hlow:w0.heap.size<=Low):Inv w0 C Z orig (JY C cs et w'):=by
 have hm:=hF.more;refine ⟨hm.os.trans h.os,hm.tape.trans h.tape,hm.output.trans h.output,by rw [Quq,hm.size];exact h.size,fun b hb h8=>⟨(h.old b hb h8).1,fun hn=>?_⟩,fun b hb=>?_,h.z8,h.lt8⟩
 ·rw [Qgy h8,hF.low b (by omega) h8];exact (h.old b hb h8).2 hn
 ·obtain ⟨cs1,e,fz,fz',h1,h2⟩:=h.zrow b hb;have hne:b≠C:=fun e=>h.z8 (e▸hb)
  exact ⟨cs1,e,fz,fz',by rw [Qgy hne];exact hm.shows b cs1 e fz h1,h2⟩
theorem QZh {L:List Value} {C:Nat} {cs:Array Value} {et:TypeId} {w:World} (hC:pt C∈L):Stepp L w L (JY C cs et w):=⟨fun {b cs1 e fz} hb hA=>⟨⟨fz,by grind [Qgy,Qnh]⟩,hA⟩⟩
instance topJ:JD Tryz.prog:=⟨Jm Tryz.prog⟩
noncomputable def Qey:Array Oper:=Quo (Qvd Qgt)
theorem zi230':ZI Tryz.prog 187 [.int .u64 0,.int .u32 0]:=ZV (by kernel_rfl)
theorem QOg {ρ:Env} {w:World} {C:Nat} {cs0:Array Value} {b:Frame} {k:List Item} {cs:List Frame} {S:Goroutine->World->Prop} (hb:b.kind≠.early) (hC:w.heap[C]?=some (.cells cs0 188 (0,0))) (hN:cs0.size+1 < 2147483647)
  (h:∀ Wg w1,Rel w w1->w.heap.size<=Wg->Wg < w1.heap.size->QW Tryz.prog 187 Wg C cs0.size Wg 188 cs0 S 0 (fun _=>False) (fun _=>none) [] (G (b.at (act 91 (Xm ρ (some 3) (.pointer (some ⟨Wg,0,none⟩)))) (.inRegion Qey []::k)) cs) (Jn C w1)) :
  ∀ w1,Rel w w1->(Jm Tryz.prog).Ph (G (b.at (act 91 ρ) (.inRegion Qey [0]::k)) cs) w1 S:=by
 refine QOh (g:=G (b.at (act 91 ρ) (.inRegion Qey [0]::k)) cs) rfl hC hN (fun Wg=>G (b.at (act 91 (Xm ρ (some 3) (.pointer (some ⟨Wg,0,none⟩)))) (.inRegion Qey []::k)) cs) (fun W=>?_) h;obtain ⟨o,ho,hop,hg,hd⟩:∃ o:Oper,Qey[0]?=some o/\o.op=.alloc 187/\o.guard=none/\o.dst=some 3:=⟨_,rfl,rfl,rfl,rfl⟩;obtain ⟨inf,z,hz1,hz2,hz3⟩:=zi230'.ex;have hT:(execOp (act 91 ρ).eval o).runT Tryz.prog W #[]=(.ok (.value (.pointer (some ⟨W.heap.size,0,none⟩))) { W with heap:=W.heap.push (wgBlock 187 0 0) },#[]):=by
  have hzc:z.cells=#[.int .u64 0,.int .u32 0]:=by grind
  have e0:execOp (act 91 ρ).eval o=(zeroValue 187 >>= fun z=>newVar 187 z >>= fun a=>Pure.pure (Value.pointer (some a))) >>= fun v=>Pure.pure (Next.value v):=by
   simp [execOp,hop,Instr.alloc]
  rw [e0];rfl
 rw [Sem.runT_eq] at hT;have hr:=congrArg Prod.fst hT;have he:(execOp (act 91 ρ).eval o).events Tryz.prog W #[]=#[]:=congrArg Prod.snd hT;have:=stepG_value (P:=Tryz.prog) (main:=true) (b:=b) (a:=act 91 ρ) (k:=k) (cs:=cs) (ops:=Qey) (i:=0) (rest:=[]) ho (by simp [Region.wanted,hg]) hb hr
 grind [seen_none,listed,Jx]
theorem Inv.hide {w w1:World} {C:Nat} (r:Rel w w1) (hC:C < w.heap.size):Inv w C (fun _=>False) (fun _=>none) (Jn C w1) :=
 ⟨r.os,r.tape,r.output,by rw [Qzk];exact r.size,fun b hb h8=>⟨fun h=>h.elim,fun _=>by rw [Qlz h8];exact r.block b hb⟩,fun _ h=>h.elim,fun h=>h,hC⟩
end Go.Gw

end
section
set_option maxRecDepth 100000
set_option maxHeartbeats 8000000
namespace Go.Gw
open Go Go.Conc Go.Proofs
attribute [local irreducible] T0 TS TT TP TX TZ Eff Stp WC Quiet gd
variable {L:List Value} {w:World} {ρ:Env} {q:Post} {b b2 m:Nat} {v vs:Value} {ns:List (Option Nt)} {rs xs0:List (List Ns)}
theorem QWw (hL:LtL (vs::L) w) (r0:ρ 0=pt b) (r2:ρ 2=pt b2) (hB:Box w b [.map (some m),v] 147) (hB2:Box w b2 [vs] 177) (hs:SlRd (vs::L) w v ns) (ho:Own 188 (vs::L) w vs xs0) (hn:Qv vs≠some b) (hn2:Qv vs≠some b2)
    (hm:mk (ns.length:Int) ([]:List Ns)=some xs0) (hcap:∃ C,vs=.slice (some ⟨C,0,none⟩) xs0.length xs0.length) (hA:∀ k,Qv vs=some k->Avoids L k) (h:Qtx ns=some rs)
    (hK:∀ ρ' w',(∀ i,i < 3->ρ' i=ρ i)->Chg [vs] w w'->SlRd L w' vs rs->WC Tryz.prog 91 QDk q ρ' w'):WC Tryz.prog 91 Qgt q ρ w:=by
  obtain ⟨C,hvs⟩:=hcap;obtain ⟨_,hmax,hx0⟩:=Qna hm;have hlen:xs0.length=ns.length:=by grind
  have hG:Qgu ns=some rs:=by
    grind [Qtx]
  obtain ⟨hrl,hrg⟩:=Qtw hG;rw [hlen] at hvs;have hbk:Qv vs=some C:=by rw [hvs];rfl
  have hbp:Qv (pt C)=Qv vs:=by rw [hbk];rfl
  obtain ⟨cs0,hrow,hsz⟩:∃ cs0,w.heap[C]?=some (.cells cs0 188 (0,0))/\cs0.size=ns.length:=by
    rcases ho.nilOr with ⟨h1,_⟩ | ⟨g,cap,cur,h1,h2,h3,h4,h5,_⟩
    · simp_all
    · rw [hvs] at h1;injection h1 with h6 h7 h8
      injection h6 with h6
      injection h6 with h6
      subst h6;exact ⟨cur,h2,by rw [h5,<-h8];exact Ec _⟩
  have hClt:=Z1 hrow;have hL1:LtL (pt C::L) w:=fun x hx k hk=>by
    rcases List.mem_cons.1 hx with rfl | hx
    · simp_all
    · exact hL x (List.mem_cons_of_mem _ hx) k hk
  have hs1:SlRd (pt C::L) w v ns:=hs.step (Stepp.ren hbp);have nb:b≠C:=fun e=>hn (by rw [hbk,e])
  have nb2:b2≠C:=fun e=>hn2 (by rw [hbk,e])
  have hP:On0 (pt C::L) w C ns.length b2 v ns rs ρ:=⟨hL1,Qu,r2,nb2,by rw [<-hvs];exact hB2.row,hs1,Nat.le_refl _,by omega,hG⟩;unfold WC;intro bf k cs Stop hb hQ;show Wlk (Jm Tryz.prog) Stop _ w;refine Qca (Qop ?_);show Wlk (Jm Tryz.prog) Stop (G (bf.at (act 91 ρ) (.inRegion Qey [0]::.code (JZ Qgt)::k)) cs) w;refine .phase (fun g' w'=>∃ ρ',g'=G (bf.at (act 91 ρ') (.inRegion (Quo (Qvd (JZ (JZ Qgt)))) []::.code QDk::k)) cs/\(∀ i,i < 3->ρ' i=ρ i)/\Chg [vs] w w'/\SlRd L w' vs rs) rfl ?_ ?_
  · refine QOg hb hrow (by omega) fun Wg w1 r1 hWg hWl=>?_;have hI:=Inv.hide r1 hClt;refine QW.of ?_
    letI:JD Tryz.prog:=⟨Jp Tryz.prog fun _=>False⟩
    have hBh:=RowAt.step (hI.stepp (L:=[pt C]) Qub) (Qfx nb) hB.row;have hsh:=hs1.step (hI.stepp (L:=pt C::L) Qu);refine Qrn (Qca (Qca (Qoo (n:=91) (K:=fun ρ' w'=>w'=Jn C w1/\(∀ i,i < 4->ρ' i=Xm ρ (some 3) (pt Wg) i)/\ρ' 21=v/\ρ' 22=.int .i64 ns.length/\ρ' 23=.int .i64 0) ?_ hb ?_)))
    · refine ZW (v:=pt b) rfl (Qq (by trivial)) ?_;refine ZW (v:=pt b) rfl (Yn rfl) ?_;refine ZW (v:=.pointer (some ⟨b,1,none⟩)) rfl (ZT 1 Tryz.underlying147 rfl rfl ⟨0,Qcf⟩ rfl rfl) ?_;refine ZW (v:=v) rfl (Qj Qjs rfl (At.drop hBh.at 1)) ?_;refine ZW (v:=.int .i64 ns.length) rfl (QK rfl Tryz.underlying145 hsh rfl) ?_;refine ZW (v:=.int .i64 0) rfl (Qq rfl) ?_;exact Qb ⟨rfl,fun i hi=>(JN (by omega)).trans ((JN (by omega)).trans ((JN (by omega)).trans ((JN (by omega)).trans ((JN (by omega)).trans (JN (by omega)))))),rfl,rfl,rfl⟩
    · rintro ρ1 w' ⟨rfl,j1,j21,j22,j23⟩;refine Qxu (QSf ?_);have g1:∀ i,i < 3->ρ1 i=ρ i:=fun i hi=>(j1 i (by omega)).trans (Qpj (by omega))
      refine (QNs hP (Low:=Wg) (by rw [hsz]) hb hWg (fun ρ2 w2 Z orig i1 i2 i3=>?_) ns.length 0 (by omega) ρ1 _ (fun _=>False) (fun _=>none) g1 ((j1 3 (by omega)).trans rfl) j21 j22 j23 hI).stop;refine QW.of ?_
      letI:JD Tryz.prog:=⟨Jp Tryz.prog Z⟩
      refine Qca (Qop (.stop fun w3 r3=>?_));refine QW.waitc rfl rfl hb rfl ?_ fun w4 w5 cs' r4 hF=>?_
      · rw [Qaf];simp only [List.map_toArray,List.map_cons,List.map_nil];show #[ρ2 3]=_;rw [i2]
      have hI4:=(i3.rel r3).rel r4;have hIf:=hI4.full (et:=188) hF hWg;rw [Jx];refine ⟨_,rfl,fun i hi=>(Qpj (by omega)).trans (i1 i hi),?_,?_⟩
      · have hc:=hIf.thaw;exact ⟨hc.os,hc.tape,hc.output,hc.size,fun x hx hav=>hc.block x hx (fun y hy e=>by
          rcases List.mem_singleton.1 hy with rfl;exact hav vs (List.mem_singleton.2 rfl) (hbp▸e))⟩
      · have hz:¬ Z C:=hIf.z8;have hCw:C < w5.heap.size:=by rw [hF.more.size];exact Nat.lt_of_lt_of_le hClt hI4.size
        have hget:(thaw Z orig (JY C cs' 188 w5)).heap[C]?=some (.cells cs' 188 (0,0)):=by
          grind [Qhe,Qup]
        have hsz':cs'.size=ns.length:=by rw [hF.size,hsz]
        have hAC:Avoids L C:=hA C hbk;rw [hvs];have hmx:ns.length<=maxLen:=by unfold maxLen;omega
        have htk:(cs'.toList.drop 0).take (rs.length * 1)=cs'.toList:=by
          simp_all [Nat.le_refl,Array.length_toList,List.drop_zero,Ec,List.take_of_length_le]
        have hEl:Elems L (thaw Z orig (JY C cs' 188 w5)) ((cs'.toList.drop 0).take (rs.length * 1)) rs:=by
          rw [htk];refine ⟨by rw [Array.length_toList,hsz',hrl];exact (Ec _).symm,fun i x hx=>?_⟩;have hi:i < rs.length:=(List.getElem?_eq_some_iff.1 hx).1;have hgx:rs.getD i []=x:=by simp_all
          obtain ⟨u,xw,hu,hus,hsh⟩:=hF.full (i,Qdv (pt C::L) (rs.getD i [])) (List.mem_map.2 ⟨i,List.mem_range.2 (by omega),rfl⟩);have hus:SlRd (pt C::L) xw u (rs.getD i []):=hus;rw [hgx] at hus;refine ⟨u,?_,(((hus.step (Shows.stepp hsh)).step (QZh (C:=C) (cs:=cs') (et:=188) Qu)).step hIf.thawS).sub (fun y hy=>List.mem_cons_of_mem _ hy)⟩;show ((cs'.toList).drop (i * 1)).take 1=[u];simp_all [List.drop_eq_getElem_cons,List.getElem?_eq_some_iff,some,Ec]
        exact .inr ⟨C,0,ns.length,cs',188,(0,0),by rw [hrl],hget,hAC,by omega,hmx,by rw [hsz',Nat.zero_add];exact Nat.le_of_eq (Ec _),hEl⟩
  · rintro g' w' ⟨ρ',rfl,hq1,hq2,hq3⟩;have hw:=hK ρ' w' hq1 hq2 hq3;unfold WC at hw;exact .ctl rfl (fun _=>stepG_region_end) (hw bf k cs Stop hb hQ)
end Go.Gw

end
