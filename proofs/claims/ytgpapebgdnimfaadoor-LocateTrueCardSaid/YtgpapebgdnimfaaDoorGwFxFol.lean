/- What functions come to, printed by a program of this work. No condition. -/
import Derived.Test.YtgpapebgdnimfaaDoorGwFnC
set_option maxRecDepth 4096
set_option maxHeartbeats 1000000
set_option linter.unusedVariables false
namespace Go.Gw
open Go Go.Proofs
attribute [local irreducible] T0 TS TT TP Eff Stp WC Quiet gd
noncomputable def base_CopyRanges_spec (p_l : (List Range)) : Option (List Range) :=
  (Option.bind (app ([] : List Range) p_l) fun zs14 =>
  some zs14
  )
theorem base_CopyRanges_ok (L : List Value) (w : World) (hL : LtL L w) (v_p_l : Value) (p_l : (List Range)) (h_p_l : SlRd L w v_p_l p_l) (r : (List Range)) (h : base_CopyRanges_spec p_l = some r) :
    CallsTo Tryd.prog 58 [v_p_l] w (fun v w' => Ext w w' ∧ ∃ (v0 : Value), v0 = v ∧ SlRd L w' v0 r) := by
  have e0 : Ext w w := Chg.refl _ _
  refine callsTo_of_WC (n := 6) (rs := [.tmp 2]) Tryd.func58 rfl rfl rfl rfl rfl ?_
  refine WC_seqK fun K2 hK2 => ?_
  refine WC_region ?_
  refine T0_q (v := (.slice none 0 0)) rfl (yl_assign rfl) ?_
  refine T0_nil ?_
  refine hK2 _ _ ?_
  refine WC_seqK fun K3 hK3 => ?_
  refine WC_region ?_
  refine T0_e rfl (eff_buildOC (L := L) (xs := ([] : List Range)) (cells := []) Tryd.underlying29 ei36 rfl pc_nil rfl Elems.nil rfl ?_)
  intro v7 wd4 he5 hf8 h6
  have h9 := h_p_l.step (Stepp.add v7 he5 hf8)
  have hf11 : ∀ b, blk v7 = some b → w.heap.size ≤ b := fun b hb => Nat.le_trans e0.size (hf8 b hb)
  have e12 := e0.trans he5
  refine T0_q (v := v_p_l) rfl (yl_move rfl) ?_
  obtain ⟨zs14, hz15, h⟩ := bind_elim h
  refine T0_e rfl (eff_app Tryd.underlying29 ei36 rfl rfl rfl rfl h6 h9 hz15 ?_)
  intro v16 wd17 hc18 hbl19 h20
  have hf22 := fresh_swap hbl19 hf11 e12.size
  have h23 := h9.step (Stepp.swap hc18 hbl19)
  have e24 := chg_own e12 hc18 hf11
  refine T0_q (v := v16) rfl (yl_assign rfl) ?_
  refine T0_nil ?_
  refine hK3 _ _ ?_
  refine WC_ret ?_
  replace h := some_out h
  subst h
  exact ⟨[v16], ⟨rfl, trivial⟩, e24, v16, rfl, (h20.rdL (sub_skip (sub_refl _)) hL hf22)⟩

noncomputable def ref04_SpeedErr_spec (p_x : Range) : Option Int :=
  (Option.bind (base_Within_spec p_x.Lo (-140000) 140000) fun r12 =>
  (Option.bind (bif (!(!r12)) then base_Within_spec p_x.Hi (-140000) 140000 else some default) fun r17 =>
  (bif ((!r12) || (!r17)) then (
    some 2
  ) else (
    (bif (decide (p_x.Hi < p_x.Lo)) then (
      some 9
    ) else (
      some 0
    ))
  ))
  )
  )
theorem ref04_SpeedErr_ok (L : List Value) (w : World) (hL : LtL L w) (cs_p_x : List Value) (p_x : Range) (h_p_x : Rep.rd L w cs_p_x p_x) (r : Int) (h : ref04_SpeedErr_spec p_x = some r) :
    CallsTo Tryd.prog 61 [(.agg cs_p_x.toArray)] w (fun v w' => Ext w w' ∧ (.int .i64 r) = v) := by
  have e0 : Ext w w := Chg.refl _ _
  have h_p_x : cs_p_x = [(.int .i64 p_x.Lo), (.int .i64 p_x.Hi)] := h_p_x
  subst h_p_x
  refine callsTo_of_WC (n := 18) (rs := [.tmp 2]) Tryd.func61 rfl rfl rfl rfl rfl ?_
  refine WC_seqK fun K1 hK1 => ?_
  refine WC_region ?_
  refine T0_e rfl (eff_boxC (cs := [(.int .i64 p_x.Lo), (.int .i64 p_x.Hi)]) rfl rfl ?_)
  intro b2 wd3 hb4 he5 hB6
  have hbf7 := bfresh e0 hb4
  have e8 := e0.trans he5
  refine T0_q (v := (.int .i64 0)) rfl (yl_assign rfl) ?_
  refine T0_nil ?_
  refine hK1 _ _ ?_
  refine WC_seqK fun K10 hK10 => ?_
  refine WC_seqK fun K11 hK11 => ?_
  refine WC_region ?_
  refine T0_q (v := (.pointer (some ⟨b2, 0, none⟩))) rfl (yl_fa 0 Tryd.underlying36 rfl rfl ⟨0, sz3⟩ rfl rfl) ?_
  refine T0_q (v := (.int .i64 p_x.Lo)) rfl (yl_load sc3 rfl (Box.at hB6)) ?_
  obtain ⟨r12, hr13, h⟩ := bind_elim h
  refine T0_e rfl (eff_call Tryd.func35 nm35 rfl (ev3 rfl rfl rfl) (base_Within_ok [] _ (LtL.nil _) p_x.Lo (-140000) 140000 r12 hr13) ?_)
  rintro _ wd14 ⟨he15, rfl⟩
  have e16 := e8.trans he15
  refine T0_q (v := (.bool (!r12))) rfl (yl_not rfl) ?_
  refine T0_q (v := (.bool (!r12))) rfl (yl_move rfl) ?_
  refine T0_g (v := (.pointer (some ⟨b2, 1, none⟩))) (!(!r12)) (wanted_f rfl rfl rfl rfl) (fun hg => (yl_fa 1 Tryd.underlying36 rfl rfl ⟨0, sz3⟩ rfl rfl)) ?_
  refine T0_g (v := (.int .i64 p_x.Hi)) (!(!r12)) (wanted_f rfl rfl rfl rfl) (fun hg => (yl_load sc3 (gd_true hg) (At.drop (Box.at (hB6.ext he15)) 1))) ?_
  obtain ⟨r17, hr18, h⟩ := bind_elim h
  refine T0_ges (!(!r12)) (.bool r17) (wanted_f rfl rfl rfl rfl) (fun hg => eff_call Tryd.func35 nm35 rfl (ev3 (gd_true hg) rfl rfl) (base_Within_ok [] _ (LtL.nil _) p_x.Hi (-140000) 140000 r17 (cond_t hg hr18)) (by rintro _ wd19 ⟨he20, rfl⟩; exact ⟨rfl, he20⟩)) ?_
  intro wd19 he20
  have e21 := he15.trans he20
  have e22 := e16.trans he20
  refine T0_g (v := (.bool (!r17))) (!(!r12)) (wanted_f rfl rfl rfl rfl) (fun hg => (yl_not (gd_true hg))) ?_
  refine T0_q (v := (.bool ((!r12) || (!r17)))) rfl (yl_or rfl rfl (fun hb => (gd_true (not_t hb)))) ?_
  refine T0_nil ?_
  refine hK11 _ _ ?_
  refine WC_cond (b := ((!r12) || (!r17))) rfl (fun hb23 => ?_) (fun hb23 => ?_)
  · replace h := cond_t hb23 h
    refine WC_seqK fun K24 hK24 => ?_
    refine WC_region ?_
    refine T0_q (v := (.int .i64 2)) rfl (yl_assign rfl) ?_
    refine T0_nil ?_
    refine hK24 _ _ ?_
    refine WC_ret ?_
    replace h := some_out h
    subst h
    exact ⟨[(.int .i64 2)], ⟨rfl, trivial⟩, e22, rfl⟩
  · replace h := cond_f hb23 h
    refine WC_skip ?_
    refine hK10 _ _ ?_
    refine WC_seqK fun K25 hK25 => ?_
    refine WC_seqK fun K26 hK26 => ?_
    refine WC_region ?_
    refine T0_q (v := (.pointer (some ⟨b2, 0, none⟩))) rfl (yl_fa 0 Tryd.underlying36 rfl rfl ⟨0, sz3⟩ rfl rfl) ?_
    refine T0_q (v := (.int .i64 p_x.Lo)) rfl (yl_load sc3 rfl (Box.at (hB6.ext e21))) ?_
    refine T0_q (v := (.pointer (some ⟨b2, 1, none⟩))) rfl (yl_fa 1 Tryd.underlying36 rfl rfl ⟨0, sz3⟩ rfl rfl) ?_
    refine T0_q (v := (.int .i64 p_x.Hi)) rfl (yl_load sc3 rfl (At.drop (Box.at (hB6.ext e21)) 1)) ?_
    refine T0_q (v := (.bool (decide (p_x.Hi < p_x.Lo)))) rfl (yl_gtr rfl rfl) ?_
    refine T0_nil ?_
    refine hK26 _ _ ?_
    refine WC_cond (b := (decide (p_x.Hi < p_x.Lo))) rfl (fun hb27 => ?_) (fun hb27 => ?_)
    · replace h := cond_t hb27 h
      refine WC_seqK fun K28 hK28 => ?_
      refine WC_region ?_
      refine T0_q (v := (.int .i64 9)) rfl (yl_assign rfl) ?_
      refine T0_nil ?_
      refine hK28 _ _ ?_
      refine WC_ret ?_
      replace h := some_out h
      subst h
      exact ⟨[(.int .i64 9)], ⟨rfl, trivial⟩, e22, rfl⟩
    · replace h := cond_f hb27 h
      refine WC_skip ?_
      refine hK25 _ _ ?_
      refine WC_seqK fun K29 hK29 => ?_
      refine WC_region ?_
      refine T0_q (v := (.int .i64 0)) rfl (yl_assign rfl) ?_
      refine T0_nil ?_
      refine hK29 _ _ ?_
      refine WC_ret ?_
      replace h := some_out h
      subst h
      exact ⟨[(.int .i64 0)], ⟨rfl, trivial⟩, e22, rfl⟩

noncomputable def ref04_TimeErr_spec (p_n : Int) : Option Int :=
  (Option.bind (base_Within_spec p_n 0 10000000) fun r4 =>
  (bif (!r4) then (
    some 2
  ) else (
    some 0
  ))
  )
theorem ref04_TimeErr_ok (L : List Value) (w : World) (hL : LtL L w) (p_n : Int) (r : Int) (h : ref04_TimeErr_spec p_n = some r) :
    CallsTo Tryd.prog 62 [(.int .i64 p_n)] w (fun v w' => Ext w w' ∧ (.int .i64 r) = v) := by
  have e0 : Ext w w := Chg.refl _ _
  refine callsTo_of_WC (n := 6) (rs := [.tmp 2]) Tryd.func62 rfl rfl rfl rfl rfl ?_
  refine WC_seqK fun K1 hK1 => ?_
  refine WC_region ?_
  refine T0_q (v := (.int .i64 0)) rfl (yl_assign rfl) ?_
  refine T0_nil ?_
  refine hK1 _ _ ?_
  refine WC_seqK fun K2 hK2 => ?_
  refine WC_seqK fun K3 hK3 => ?_
  refine WC_region ?_
  refine T0_q (v := (.int .i64 p_n)) rfl (yl_move rfl) ?_
  obtain ⟨r4, hr5, h⟩ := bind_elim h
  refine T0_e rfl (eff_call Tryd.func35 nm35 rfl (ev3 rfl rfl rfl) (base_Within_ok [] _ (LtL.nil _) p_n 0 10000000 r4 hr5) ?_)
  rintro _ wd6 ⟨he7, rfl⟩
  have e8 := e0.trans he7
  refine T0_q (v := (.bool (!r4))) rfl (yl_not rfl) ?_
  refine T0_nil ?_
  refine hK3 _ _ ?_
  refine WC_cond (b := (!r4)) rfl (fun hb9 => ?_) (fun hb9 => ?_)
  · replace h := cond_t hb9 h
    refine WC_seqK fun K10 hK10 => ?_
    refine WC_region ?_
    refine T0_q (v := (.int .i64 2)) rfl (yl_assign rfl) ?_
    refine T0_nil ?_
    refine hK10 _ _ ?_
    refine WC_ret ?_
    replace h := some_out h
    subst h
    exact ⟨[(.int .i64 2)], ⟨rfl, trivial⟩, e8, rfl⟩
  · replace h := cond_f hb9 h
    refine WC_skip ?_
    refine hK2 _ _ ?_
    refine WC_seqK fun K11 hK11 => ?_
    refine WC_region ?_
    refine T0_q (v := (.int .i64 0)) rfl (yl_assign rfl) ?_
    refine T0_nil ?_
    refine hK11 _ _ ?_
    refine WC_ret ?_
    replace h := some_out h
    subst h
    exact ⟨[(.int .i64 0)], ⟨rfl, trivial⟩, e8, rfl⟩

noncomputable def ref04_CopyFixes_spec (p_l : (List LocateFix)) : Option (List LocateFix) :=
  (Option.bind (app ([] : List LocateFix) p_l) fun zs14 =>
  some zs14
  )
theorem ref04_CopyFixes_ok (L : List Value) (w : World) (hL : LtL L w) (v_p_l : Value) (p_l : (List LocateFix)) (h_p_l : SlRd L w v_p_l p_l) (r : (List LocateFix)) (h : ref04_CopyFixes_spec p_l = some r) :
    CallsTo Tryd.prog 68 [v_p_l] w (fun v w' => Ext w w' ∧ ∃ (v0 : Value), v0 = v ∧ SlRd L w' v0 r) := by
  have e0 : Ext w w := Chg.refl _ _
  refine callsTo_of_WC (n := 6) (rs := [.tmp 2]) Tryd.func68 rfl rfl rfl rfl rfl ?_
  refine WC_seqK fun K2 hK2 => ?_
  refine WC_region ?_
  refine T0_q (v := (.slice none 0 0)) rfl (yl_assign rfl) ?_
  refine T0_nil ?_
  refine hK2 _ _ ?_
  refine WC_seqK fun K3 hK3 => ?_
  refine WC_region ?_
  refine T0_e rfl (eff_buildOC (L := L) (xs := ([] : List LocateFix)) (cells := []) Tryd.underlying99 ei110 rfl pc_nil rfl Elems.nil rfl ?_)
  intro v7 wd4 he5 hf8 h6
  have h9 := h_p_l.step (Stepp.add v7 he5 hf8)
  have hf11 : ∀ b, blk v7 = some b → w.heap.size ≤ b := fun b hb => Nat.le_trans e0.size (hf8 b hb)
  have e12 := e0.trans he5
  refine T0_q (v := v_p_l) rfl (yl_move rfl) ?_
  obtain ⟨zs14, hz15, h⟩ := bind_elim h
  refine T0_e rfl (eff_app Tryd.underlying99 ei110 rfl rfl rfl rfl h6 h9 hz15 ?_)
  intro v16 wd17 hc18 hbl19 h20
  have hf22 := fresh_swap hbl19 hf11 e12.size
  have h23 := h9.step (Stepp.swap hc18 hbl19)
  have e24 := chg_own e12 hc18 hf11
  refine T0_q (v := v16) rfl (yl_assign rfl) ?_
  refine T0_nil ?_
  refine hK3 _ _ ?_
  refine WC_ret ?_
  replace h := some_out h
  subst h
  exact ⟨[v16], ⟨rfl, trivial⟩, e24, v16, rfl, (h20.rdL (sub_skip (sub_refl _)) hL hf22)⟩

noncomputable def locate_timeErr_spec (p_n : Int) : Option Int :=
  (Option.bind (locate_within_spec p_n 0 10000000) fun r3 =>
  (Option.bind (locate_unless_spec r3 2) fun r8 =>
  some r8
  )
  )
theorem locate_timeErr_ok (L : List Value) (w : World) (hL : LtL L w) (p_n : Int) (r : Int) (h : locate_timeErr_spec p_n = some r) :
    CallsTo Tryd.prog 109 [(.int .i64 p_n)] w (fun v w' => Ext w w' ∧ (.int .i64 r) = v) := by
  have e0 : Ext w w := Chg.refl _ _
  refine callsTo_of_WC (n := 6) (rs := [.tmp 2]) Tryd.func109 rfl rfl rfl rfl rfl ?_
  refine WC_seqK fun K1 hK1 => ?_
  refine WC_region ?_
  refine T0_q (v := (.int .i64 0)) rfl (yl_assign rfl) ?_
  refine T0_nil ?_
  refine hK1 _ _ ?_
  refine WC_seqK fun K2 hK2 => ?_
  refine WC_region ?_
  refine T0_q (v := (.int .i64 p_n)) rfl (yl_move rfl) ?_
  obtain ⟨r3, hr4, h⟩ := bind_elim h
  refine T0_e rfl (eff_call Tryd.func86 nm86 rfl (ev3 rfl rfl rfl) (locate_within_ok [] _ (LtL.nil _) p_n 0 10000000 r3 hr4) ?_)
  rintro _ wd5 ⟨he6, rfl⟩
  have e7 := e0.trans he6
  obtain ⟨r8, hr9, h⟩ := bind_elim h
  refine T0_e rfl (eff_call Tryd.func85 nm85 rfl (ev2 rfl rfl) (locate_unless_ok [] _ (LtL.nil _) r3 2 r8 hr9) ?_)
  rintro _ wd10 ⟨he11, rfl⟩
  have e12 := e7.trans he11
  refine T0_q (v := (.int .i64 r8)) rfl (yl_assign rfl) ?_
  refine T0_nil ?_
  refine hK2 _ _ ?_
  refine WC_ret ?_
  replace h := some_out h
  subst h
  exact ⟨[(.int .i64 r8)], ⟨rfl, trivial⟩, e12, rfl⟩

noncomputable def base_Floor_spec (p_n : Int) (p_by : Int) : Option Int :=
  (Option.bind (quo p_n p_by) fun q3 =>
  (Option.bind (rem p_n p_by) fun q7 =>
  (bif (decide (q7 < 0)) then (
    some (w64 (q3 - 1))
  ) else (
    some q3
  ))
  )
  )
theorem base_Floor_ok (L : List Value) (w : World) (hL : LtL L w) (p_n : Int) (p_by : Int) (r : Int) (h : base_Floor_spec p_n p_by = some r) :
    CallsTo Tryd.prog 111 [(.int .i64 p_n), (.int .i64 p_by)] w (fun v w' => Ext w w' ∧ (.int .i64 r) = v) := by
  have e0 : Ext w w := Chg.refl _ _
  refine callsTo_of_WC (n := 16) (rs := [.tmp 4]) Tryd.func111 rfl rfl rfl rfl rfl ?_
  refine WC_seqK fun K1 hK1 => ?_
  refine WC_region ?_
  refine T0_q (v := (.int .i64 0)) rfl (yl_assign rfl) ?_
  refine T0_nil ?_
  refine hK1 _ _ ?_
  refine WC_seqK fun K2 hK2 => ?_
  refine WC_region ?_
  refine T0_q (v := (.int .i64 p_n)) rfl (yl_move rfl) ?_
  refine T0_q (v := (.int .i64 p_by)) rfl (yl_move rfl) ?_
  obtain ⟨q3, hq4, h⟩ := bind_elim h
  refine T0_q (v := (.int .i64 q3)) rfl (yl_quo' hq4 rfl rfl) ?_
  refine T0_q (v := (.int .i64 q3)) rfl (yl_assign rfl) ?_
  refine T0_nil ?_
  refine hK2 _ _ ?_
  refine WC_seqK fun K5 hK5 => ?_
  refine WC_seqK fun K6 hK6 => ?_
  refine WC_region ?_
  refine T0_q (v := (.int .i64 p_n)) rfl (yl_move rfl) ?_
  refine T0_q (v := (.int .i64 p_by)) rfl (yl_move rfl) ?_
  obtain ⟨q7, hq8, h⟩ := bind_elim h
  refine T0_q (v := (.int .i64 q7)) rfl (yl_rem' hq8 rfl rfl) ?_
  refine T0_q (v := (.bool (decide (q7 < 0)))) rfl (yl_lss rfl rfl) ?_
  refine T0_nil ?_
  refine hK6 _ _ ?_
  refine WC_cond (b := (decide (q7 < 0))) rfl (fun hb9 => ?_) (fun hb9 => ?_)
  · replace h := cond_t hb9 h
    refine WC_region ?_
    refine T0_q (v := (.int .i64 q3)) rfl (yl_move rfl) ?_
    refine T0_q (v := (.int .i64 (w64 (q3 - 1)))) rfl (yl_sub rfl rfl) ?_
    refine T0_q (v := (.int .i64 (w64 (q3 - 1)))) rfl (yl_assign rfl) ?_
    refine T0_nil ?_
    refine hK5 _ _ ?_
    refine WC_seqK fun K10 hK10 => ?_
    refine WC_region ?_
    refine T0_q (v := (.int .i64 (w64 (q3 - 1)))) rfl (yl_move rfl) ?_
    refine T0_q (v := (.int .i64 (w64 (q3 - 1)))) rfl (yl_assign rfl) ?_
    refine T0_nil ?_
    refine hK10 _ _ ?_
    refine WC_ret ?_
    replace h := some_out h
    subst h
    exact ⟨[(.int .i64 (w64 (q3 - 1)))], ⟨rfl, trivial⟩, e0, rfl⟩
  · replace h := cond_f hb9 h
    refine WC_skip ?_
    refine hK5 _ _ ?_
    refine WC_seqK fun K11 hK11 => ?_
    refine WC_region ?_
    refine T0_q (v := (.int .i64 q3)) rfl (yl_move rfl) ?_
    refine T0_q (v := (.int .i64 q3)) rfl (yl_assign rfl) ?_
    refine T0_nil ?_
    refine hK11 _ _ ?_
    refine WC_ret ?_
    replace h := some_out h
    subst h
    exact ⟨[(.int .i64 q3)], ⟨rfl, trivial⟩, e0, rfl⟩

noncomputable def base_Ceil_spec (p_n : Int) (p_by : Int) : Option Int :=
  (Option.bind (base_Floor_spec (w64 (0 - p_n)) p_by) fun r3 =>
  some (w64 (0 - r3))
  )
theorem base_Ceil_ok (L : List Value) (w : World) (hL : LtL L w) (p_n : Int) (p_by : Int) (r : Int) (h : base_Ceil_spec p_n p_by = some r) :
    CallsTo Tryd.prog 112 [(.int .i64 p_n), (.int .i64 p_by)] w (fun v w' => Ext w w' ∧ (.int .i64 r) = v) := by
  have e0 : Ext w w := Chg.refl _ _
  refine callsTo_of_WC (n := 10) (rs := [.tmp 4]) Tryd.func112 rfl rfl rfl rfl rfl ?_
  refine WC_seqK fun K1 hK1 => ?_
  refine WC_region ?_
  refine T0_q (v := (.int .i64 0)) rfl (yl_assign rfl) ?_
  refine T0_nil ?_
  refine hK1 _ _ ?_
  refine WC_seqK fun K2 hK2 => ?_
  refine WC_region ?_
  refine T0_q (v := (.int .i64 p_n)) rfl (yl_move rfl) ?_
  refine T0_q (v := (.int .i64 (w64 (0 - p_n)))) rfl (yl_neg rfl) ?_
  refine T0_q (v := (.int .i64 p_by)) rfl (yl_move rfl) ?_
  obtain ⟨r3, hr4, h⟩ := bind_elim h
  refine T0_e rfl (eff_call Tryd.func111 nm111 rfl (ev2 rfl rfl) (base_Floor_ok [] _ (LtL.nil _) (w64 (0 - p_n)) p_by r3 hr4) ?_)
  rintro _ wd5 ⟨he6, rfl⟩
  have e7 := e0.trans he6
  refine T0_q (v := (.int .i64 (w64 (0 - r3)))) rfl (yl_neg rfl) ?_
  refine T0_q (v := (.int .i64 (w64 (0 - r3)))) rfl (yl_assign rfl) ?_
  refine T0_nil ?_
  refine hK2 _ _ ?_
  refine WC_ret ?_
  replace h := some_out h
  subst h
  exact ⟨[(.int .i64 (w64 (0 - r3)))], ⟨rfl, trivial⟩, e7, rfl⟩

noncomputable def locate_speedErr_1_spec (p_n : Int) : Option Bool :=
  (Option.bind (locate_within_spec p_n (-140000) 140000) fun r3 =>
  some r3
  )
theorem locate_speedErr_1_ok (L : List Value) (w : World) (hL : LtL L w) (p_n : Int) (r : Bool) (h : locate_speedErr_1_spec p_n = some r) :
    CallsTo Tryd.prog 128 [(.int .i64 p_n)] w (fun v w' => Ext w w' ∧ (.bool r) = v) := by
  have e0 : Ext w w := Chg.refl _ _
  refine callsTo_of_WC (n := 5) (rs := [.tmp 2]) Tryd.func128 rfl rfl rfl rfl rfl ?_
  refine WC_seqK fun K1 hK1 => ?_
  refine WC_region ?_
  refine T0_q (v := (.bool false)) rfl (yl_assign rfl) ?_
  refine T0_nil ?_
  refine hK1 _ _ ?_
  refine WC_seqK fun K2 hK2 => ?_
  refine WC_region ?_
  refine T0_q (v := (.int .i64 p_n)) rfl (yl_move rfl) ?_
  obtain ⟨r3, hr4, h⟩ := bind_elim h
  refine T0_e rfl (eff_call Tryd.func86 nm86 rfl (ev3 rfl rfl rfl) (locate_within_ok [] _ (LtL.nil _) p_n (-140000) 140000 r3 hr4) ?_)
  rintro _ wd5 ⟨he6, rfl⟩
  have e7 := e0.trans he6
  refine T0_q (v := (.bool r3)) rfl (yl_assign rfl) ?_
  refine T0_nil ?_
  refine hK2 _ _ ?_
  refine WC_ret ?_
  replace h := some_out h
  subst h
  exact ⟨[(.bool r3)], ⟨rfl, trivial⟩, e7, rfl⟩

noncomputable def locate_floor_spec (p_n : Int) (p_by : Int) : Option Int :=
  (Option.bind (rem p_n p_by) fun q4 =>
  (bif (decide (q4 < 0)) then (
    (Option.bind (quo (w64 (p_n - p_by)) p_by) fun q9 =>
    some q9
    )
  ) else (
    (Option.bind (quo p_n p_by) fun q12 =>
    some q12
    )
  ))
  )
theorem locate_floor_ok (L : List Value) (w : World) (hL : LtL L w) (p_n : Int) (p_by : Int) (r : Int) (h : locate_floor_spec p_n p_by = some r) :
    CallsTo Tryd.prog 129 [(.int .i64 p_n), (.int .i64 p_by)] w (fun v w' => Ext w w' ∧ (.int .i64 r) = v) := by
  have e0 : Ext w w := Chg.refl _ _
  refine callsTo_of_WC (n := 17) (rs := [.tmp 4]) Tryd.func129 rfl rfl rfl rfl rfl ?_
  refine WC_seqK fun K1 hK1 => ?_
  refine WC_region ?_
  refine T0_q (v := (.int .i64 0)) rfl (yl_assign rfl) ?_
  refine T0_nil ?_
  refine hK1 _ _ ?_
  refine WC_seqK fun K2 hK2 => ?_
  refine WC_seqK fun K3 hK3 => ?_
  refine WC_region ?_
  refine T0_q (v := (.int .i64 p_n)) rfl (yl_move rfl) ?_
  refine T0_q (v := (.int .i64 p_by)) rfl (yl_move rfl) ?_
  obtain ⟨q4, hq5, h⟩ := bind_elim h
  refine T0_q (v := (.int .i64 q4)) rfl (yl_rem' hq5 rfl rfl) ?_
  refine T0_q (v := (.int .i64 q4)) rfl (yl_assign rfl) ?_
  refine T0_nil ?_
  refine hK3 _ _ ?_
  refine WC_seqK fun K6 hK6 => ?_
  refine WC_region ?_
  refine T0_q (v := (.int .i64 q4)) rfl (yl_move rfl) ?_
  refine T0_q (v := (.bool (decide (q4 < 0)))) rfl (yl_lss rfl rfl) ?_
  refine T0_nil ?_
  refine hK6 _ _ ?_
  refine WC_cond (b := (decide (q4 < 0))) rfl (fun hb7 => ?_) (fun hb7 => ?_)
  · replace h := cond_t hb7 h
    refine WC_region ?_
    refine T0_q (v := (.int .i64 p_n)) rfl (yl_move rfl) ?_
    refine T0_q (v := (.int .i64 p_by)) rfl (yl_move rfl) ?_
    refine T0_q (v := (.int .i64 (w64 (p_n - p_by)))) rfl (yl_sub rfl rfl) ?_
    refine T0_q (v := (.int .i64 (w64 (p_n - p_by)))) rfl (yl_assign rfl) ?_
    refine T0_nil ?_
    refine hK2 _ _ ?_
    refine WC_seqK fun K8 hK8 => ?_
    refine WC_region ?_
    refine T0_q (v := (.int .i64 (w64 (p_n - p_by)))) rfl (yl_move rfl) ?_
    refine T0_q (v := (.int .i64 p_by)) rfl (yl_move rfl) ?_
    obtain ⟨q9, hq10, h⟩ := bind_elim h
    refine T0_q (v := (.int .i64 q9)) rfl (yl_quo' hq10 rfl rfl) ?_
    refine T0_q (v := (.int .i64 q9)) rfl (yl_assign rfl) ?_
    refine T0_nil ?_
    refine hK8 _ _ ?_
    refine WC_ret ?_
    replace h := some_out h
    subst h
    exact ⟨[(.int .i64 q9)], ⟨rfl, trivial⟩, e0, rfl⟩
  · replace h := cond_f hb7 h
    refine WC_skip ?_
    refine hK2 _ _ ?_
    refine WC_seqK fun K11 hK11 => ?_
    refine WC_region ?_
    refine T0_q (v := (.int .i64 p_n)) rfl (yl_move rfl) ?_
    refine T0_q (v := (.int .i64 p_by)) rfl (yl_move rfl) ?_
    obtain ⟨q12, hq13, h⟩ := bind_elim h
    refine T0_q (v := (.int .i64 q12)) rfl (yl_quo' hq13 rfl rfl) ?_
    refine T0_q (v := (.int .i64 q12)) rfl (yl_assign rfl) ?_
    refine T0_nil ?_
    refine hK11 _ _ ?_
    refine WC_ret ?_
    replace h := some_out h
    subst h
    exact ⟨[(.int .i64 q12)], ⟨rfl, trivial⟩, e0, rfl⟩

noncomputable def locate_ceil_spec (p_n : Int) (p_by : Int) : Option Int :=
  (Option.bind (locate_floor_spec (w64 (0 - p_n)) p_by) fun r3 =>
  some (w64 (0 - r3))
  )
theorem locate_ceil_ok (L : List Value) (w : World) (hL : LtL L w) (p_n : Int) (p_by : Int) (r : Int) (h : locate_ceil_spec p_n p_by = some r) :
    CallsTo Tryd.prog 130 [(.int .i64 p_n), (.int .i64 p_by)] w (fun v w' => Ext w w' ∧ (.int .i64 r) = v) := by
  have e0 : Ext w w := Chg.refl _ _
  refine callsTo_of_WC (n := 10) (rs := [.tmp 4]) Tryd.func130 rfl rfl rfl rfl rfl ?_
  refine WC_seqK fun K1 hK1 => ?_
  refine WC_region ?_
  refine T0_q (v := (.int .i64 0)) rfl (yl_assign rfl) ?_
  refine T0_nil ?_
  refine hK1 _ _ ?_
  refine WC_seqK fun K2 hK2 => ?_
  refine WC_region ?_
  refine T0_q (v := (.int .i64 p_n)) rfl (yl_move rfl) ?_
  refine T0_q (v := (.int .i64 (w64 (0 - p_n)))) rfl (yl_neg rfl) ?_
  refine T0_q (v := (.int .i64 p_by)) rfl (yl_move rfl) ?_
  obtain ⟨r3, hr4, h⟩ := bind_elim h
  refine T0_e rfl (eff_call Tryd.func129 nm129 rfl (ev2 rfl rfl) (locate_floor_ok [] _ (LtL.nil _) (w64 (0 - p_n)) p_by r3 hr4) ?_)
  rintro _ wd5 ⟨he6, rfl⟩
  have e7 := e0.trans he6
  refine T0_q (v := (.int .i64 (w64 (0 - r3)))) rfl (yl_neg rfl) ?_
  refine T0_q (v := (.int .i64 (w64 (0 - r3)))) rfl (yl_assign rfl) ?_
  refine T0_nil ?_
  refine hK2 _ _ ?_
  refine WC_ret ?_
  replace h := some_out h
  subst h
  exact ⟨[(.int .i64 (w64 (0 - r3)))], ⟨rfl, trivial⟩, e7, rfl⟩

noncomputable def ref04_Moved_spec (p_x : Range) (p_speed : Range) (p_time : Int) : Option Range :=
  (Option.bind (base_Floor_spec (w64 (p_speed.Lo * p_time)) 1000) fun r36 =>
  (Option.bind (base_Ceil_spec (w64 (p_speed.Hi * p_time)) 1000) fun r44 =>
  some (Range.mk (w64 (p_x.Lo + r36)) (w64 (p_x.Hi + r44)))
  )
  )
theorem ref04_Moved_ok (L : List Value) (w : World) (hL : LtL L w) (cs_p_x : List Value) (p_x : Range) (h_p_x : Rep.rd L w cs_p_x p_x) (cs_p_speed : List Value) (p_speed : Range) (h_p_speed : Rep.rd L w cs_p_speed p_speed) (p_time : Int) (r : Range) (h : ref04_Moved_spec p_x p_speed p_time = some r) :
    CallsTo Tryd.prog 63 [(.agg cs_p_x.toArray), (.agg cs_p_speed.toArray), (.int .i64 p_time)] w (fun v w' => Ext w w' ∧ ∃ (cs0 : List Value), (.agg cs0.toArray) = v ∧ Rep.rd L w' cs0 r) := by
  have e0 : Ext w w := Chg.refl _ _
  have h_p_x : cs_p_x = [(.int .i64 p_x.Lo), (.int .i64 p_x.Hi)] := h_p_x
  subst h_p_x
  have h_p_speed : cs_p_speed = [(.int .i64 p_speed.Lo), (.int .i64 p_speed.Hi)] := h_p_speed
  subst h_p_speed
  refine callsTo_of_WC (n := 24) (rs := [.cell 6 36]) Tryd.func63 rfl rfl rfl rfl rfl ?_
  refine WC_seqK fun K1 hK1 => ?_
  refine WC_region ?_
  refine T0_e rfl (eff_boxC (cs := [(.int .i64 p_x.Lo), (.int .i64 p_x.Hi)]) rfl rfl ?_)
  intro b2 wd3 hb4 he5 hB6
  have hbf7 := bfresh e0 hb4
  have e8 := e0.trans he5
  refine T0_e rfl (eff_boxC (cs := [(.int .i64 p_speed.Lo), (.int .i64 p_speed.Hi)]) rfl rfl ?_)
  intro b10 wd11 hb12 he13 hB14
  have hn15 : b10 ≠ b2 := box_ne hB6 hb12
  have hbf16 := bfresh e8 hb12
  have e17 := e8.trans he13
  refine T0_e rfl (eff_allocZ zi36 ?_)
  intro b19 wd20 hb21 he22 hB23
  have hn24 : b19 ≠ b2 := box_ne (hB6.ext he13) hb21
  have hn25 : b19 ≠ b10 := box_ne hB14 hb21
  have hbf26 := bfresh e17 hb21
  have e27 := he13.trans he22
  have e28 := e17.trans he22
  refine T0_nil ?_
  refine hK1 _ _ ?_
  refine WC_seqK fun K30 hK30 => ?_
  refine WC_plan mixed (.p 0 (.p 2 (.p 4 (.p 8 (.p 10 (.p 12 (.q 1 (.q 3 (.p 5 (.q 9 (.q 11 (.p 13 (.e 6 (.p 7 (.e 14 (.p 15 (.p 16 (.b 17 .done)))))))))))))))))) (by kernel_rfl) ?_
  intro wd31 he32
  have e33 := he22.trans he32
  have e34 := e27.trans he32
  have e35 := e28.trans he32
  refine TP_p (v := (.pointer (some ⟨b2, 0, none⟩))) rfl rfl (fun w' => (yl_fa 0 Tryd.underlying36 rfl rfl ⟨0, sz3⟩ rfl rfl)) ?_
  refine TP_p (v := (.pointer (some ⟨b10, 0, none⟩))) rfl rfl (fun w' => (yl_fa 0 Tryd.underlying36 rfl rfl ⟨0, sz3⟩ rfl rfl)) ?_
  refine TP_p (v := (.int .i64 p_time)) rfl rfl (fun w' => (yl_move rfl)) ?_
  refine TP_p (v := (.pointer (some ⟨b2, 1, none⟩))) rfl rfl (fun w' => (yl_fa 1 Tryd.underlying36 rfl rfl ⟨0, sz3⟩ rfl rfl)) ?_
  refine TP_p (v := (.pointer (some ⟨b10, 1, none⟩))) rfl rfl (fun w' => (yl_fa 1 Tryd.underlying36 rfl rfl ⟨0, sz3⟩ rfl rfl)) ?_
  refine TP_p (v := (.int .i64 p_time)) rfl rfl (fun w' => (yl_move rfl)) ?_
  refine TP_q (v := (.int .i64 p_x.Lo)) rfl rfl (fun w' hS => (yl_load sc3 rfl (Box.at (hB6.ext ((e34).trans hS))))) ?_
  refine TP_q (v := (.int .i64 p_speed.Lo)) rfl rfl (fun w' hS => (yl_load sc3 rfl (Box.at (hB14.ext ((e33).trans hS))))) ?_
  refine TP_p (v := (.int .i64 (w64 (p_speed.Lo * p_time)))) rfl rfl (fun w' => (yl_mul rfl rfl)) ?_
  refine TP_q (v := (.int .i64 p_x.Hi)) rfl rfl (fun w' hS => (yl_load sc3 rfl (At.drop (Box.at (hB6.ext ((e34).trans hS))) 1))) ?_
  refine TP_q (v := (.int .i64 p_speed.Hi)) rfl rfl (fun w' hS => (yl_load sc3 rfl (At.drop (Box.at (hB14.ext ((e33).trans hS))) 1))) ?_
  refine TP_p (v := (.int .i64 (w64 (p_speed.Hi * p_time)))) rfl rfl (fun w' => (yl_mul rfl rfl)) ?_
  obtain ⟨r36, hr37, h⟩ := bind_elim h
  refine TP_e rfl rfl (eff_call Tryd.func111 nm111 rfl (ev2 rfl rfl) (base_Floor_ok [] _ (LtL.nil _) (w64 (p_speed.Lo * p_time)) 1000 r36 hr37) ?_)
  rintro _ wd38 ⟨he39, rfl⟩
  have e40 := e33.trans he39
  have e41 := he32.trans he39
  have e42 := e34.trans he39
  have e43 := e35.trans he39
  refine ⟨he39, ?_⟩
  refine TP_p (v := (.int .i64 (w64 (p_x.Lo + r36)))) rfl rfl (fun w' => (yl_add rfl rfl)) ?_
  obtain ⟨r44, hr45, h⟩ := bind_elim h
  refine TP_e rfl rfl (eff_call Tryd.func112 nm112 rfl (ev2 rfl rfl) (base_Ceil_ok [] _ (LtL.nil _) (w64 (p_speed.Hi * p_time)) 1000 r44 hr45) ?_)
  rintro _ wd46 ⟨he47, rfl⟩
  have e48 := e40.trans he47
  have e49 := e41.trans he47
  have e50 := e42.trans he47
  have e51 := he39.trans he47
  have e52 := e43.trans he47
  refine ⟨e51, ?_⟩
  refine TP_p (v := (.int .i64 (w64 (p_x.Hi + r44)))) rfl rfl (fun w' => (yl_add rfl rfl)) ?_
  refine TP_p (v := (.agg (List.toArray [(.int .i64 (w64 (p_x.Lo + r36))), (.int .i64 (w64 (p_x.Hi + r44)))]))) rfl rfl (fun w' => (yl_buildC (cells := [(.int .i64 (w64 (p_x.Lo + r36))), (.int .i64 (w64 (p_x.Hi + r44)))]) bi36 (pc_cons rfl rfl (pc_cons rfl rfl pc_nil)) rfl)) ?_
  refine TP_b rfl rfl (eff_storeC (vs := [(.int .i64 (w64 (p_x.Lo + r36))), (.int .i64 (w64 (p_x.Hi + r44)))]) (cs' := [(.int .i64 (w64 (p_x.Lo + r36))), (.int .i64 (w64 (p_x.Hi + r44)))]) sz36 rfl rfl rfl rfl (hB23.ext e49) rfl (oc_cons rfl (oc_cons rfl oc_nil)) rfl ?_)
  intro wd53 hc54 hB55
  have h56 := (hB6.ext e50).chg hc54 (avoidb hn24)
  have h57 := (hB14.ext e48).chg hc54 (avoidb hn25)
  have e58 := chg_box e52 hc54 hbf26
  refine TP_done ?_
  refine hK30 _ _ ?_
  refine WC_ret ?_
  replace h := some_out h
  subst h
  exact ⟨[(.agg (List.toArray [(.int .i64 (w64 (p_x.Lo + r36))), (.int .i64 (w64 (p_x.Hi + r44)))]))], ⟨⟨_, rfl, run_loadVarA (cs := [(.int .i64 (w64 (p_x.Lo + r36))), (.int .i64 (w64 (p_x.Hi + r44)))]) ag36 (Box.at hB55)⟩, trivial⟩, e58, [(.int .i64 (w64 (p_x.Lo + r36))), (.int .i64 (w64 (p_x.Hi + r44)))], rfl, rfl⟩

noncomputable def ref04_Fused_s0 (p_Listappend : (List Range)) (p_String : Int) (x1128 : (List Range)) : (Int × Bool × Int) → Option ((Int × Bool × Int) ⊕ (Int × Bool)) := fun (x1264, x1266, x1268) =>
  (bif (decide (x1268 < (p_Listappend.length : Int))) then (
    (Option.bind (idx p_Listappend x1268) fun el1295 =>
    (Option.bind (ref04_IsFused_spec p_Listappend p_String el1295.Lo) fun r1302 =>
    (Option.bind ((bif (r1302 && (!(decide ((x1128.length : Int) = 0)))) then idx x1128 (w64 ((x1128.length : Int) - 1)) else some default)) fun el1307 =>
    (bif ((r1302 && ((decide ((x1128.length : Int) = 0)) || (decide (el1307.Hi < el1295.Lo)))) && ((!x1266) || (decide (el1295.Lo < x1264)))) then (
      some (.inl (el1295.Lo, true, w64 (x1268 + 1)))
    ) else (
      some (.inl (x1264, x1266, w64 (x1268 + 1)))
    ))
    )
    )
    )
  ) else (
    some (.inr (x1264, x1266))
  ))
noncomputable def ref04_Fused_s1 (p_Listappend : (List Range)) (p_String : Int) (x1278 : Int) : (Int × Bool × Int) → Option ((Int × Bool × Int) ⊕ (Int)) := fun (x1443, x1445, x1447) =>
  (bif (decide (x1447 < (p_Listappend.length : Int))) then (
    (Option.bind (idx p_Listappend x1447) fun el1473 =>
    (Option.bind (bif (decide (x1278 ≤ el1473.Hi)) then ref04_IsFused_spec p_Listappend p_String el1473.Hi else some default) fun r1480 =>
    (Option.bind (bif ((decide (x1278 ≤ el1473.Hi)) && r1480) then ref04_IsFused_spec p_Listappend p_String (w64 (el1473.Hi + 1)) else some default) fun r1485 =>
    (bif ((((decide (x1278 ≤ el1473.Hi)) && r1480) && (!r1485)) && ((!x1445) || (decide (el1473.Hi < x1443)))) then (
      some (.inl (el1473.Hi, true, w64 (x1447 + 1)))
    ) else (
      some (.inl (x1443, x1445, w64 (x1447 + 1)))
    ))
    )
    )
    )
  ) else (
    some (.inr x1443)
  ))
noncomputable def ref04_Fused_s2 (p_Listappend : (List Range)) (p_String : Int) : ((List Range)) → Option (((List Range)) ⊕ ((List Range) ⊕ Unit)) := fun x1128 =>
  (Option.bind (loop (ref04_Fused_s0 p_Listappend p_String x1128) (0, false, 0)) fun ((x1278, x1280) : Int × Bool) =>
  (bif (!x1280) then (
    some (.inr (.inl x1128))
  ) else (
    (Option.bind (loop (ref04_Fused_s1 p_Listappend p_String x1278) (0, false, 0)) fun (x1458 : Int) =>
    (Option.bind (app x1128 ([(Range.mk x1278 x1458)] : List Range)) fun zs1498 =>
    some (.inl zs1498)
    )
    )
  ))
  )
noncomputable def ref04_Fused_spec (p_Listappend : (List Range)) (p_String : Int) : Option (List Range) :=
  (Option.bind (loop (ref04_Fused_s2 p_Listappend p_String) ([] : List Range)) fun o1137 => jn0 o1137 fun (_ : Unit) => none)
theorem ref04_Fused_ok (L : List Value) (w : World) (hL : LtL L w) (v_p_Listappend : Value) (p_Listappend : (List Range)) (h_p_Listappend : SlRd L w v_p_Listappend p_Listappend) (p_String : Int) (r : (List Range)) (h : ref04_Fused_spec p_Listappend p_String = some r) :
    CallsTo Tryd.prog 65 [v_p_Listappend, (.int .i64 p_String)] w (fun v w' => Ext w w' ∧ ∃ (v0 : Value), v0 = v ∧ SlRd L w' v0 r) := by
  have e0 : Ext w w := Chg.refl _ _
  refine callsTo_of_WC (n := 102) (rs := [.tmp 4]) Tryd.func65 rfl rfl rfl rfl rfl ?_
  refine WC_seqK fun K2 hK2 => ?_
  refine WC_region ?_
  refine T0_q (v := (.slice none 0 0)) rfl (yl_assign rfl) ?_
  refine T0_nil ?_
  refine hK2 _ _ ?_
  refine WC_seqK fun K3 hK3 => ?_
  refine WC_region ?_
  refine T0_q (v := (.slice none 0 0)) rfl (yl_assign rfl) ?_
  refine T0_nil ?_
  refine hK3 _ _ ?_
  have h1133 := h_p_Listappend.step (add_nil _)
  have h1135 : Own 36 ((.slice none 0 0) :: L) w (.slice none 0 0) ([] : List Range) := Own.nil _ _ _
  obtain ⟨o1137, hl1138, hn1139⟩ := bind_elim h
  refine WC_post (fun _ _ => False) ?_ ?_
  · intro K1143 hK1143
    refine WC_block ?_
    refine WC_loopk (fun sv ρ wd1121 => ∃ (x1128 : (List Range)) (v1127 : Value), x1128 = sv ∧ ρ 0 = v_p_Listappend ∧ ρ 1 = (.int .i64 p_String) ∧ ρ 5 = v1127 ∧ SlRd (v1127 :: L) wd1121 v_p_Listappend p_Listappend ∧ Own 36 (v1127 :: L) wd1121 v1127 x1128 ∧ (∀ b, blk v1127 = some b → w.heap.size ≤ b) ∧ Ext w wd1121) hl1138 ⟨([] : List Range), (.slice none 0 0), rfl, rfl, rfl, rfl, h1133, h1135, (fun b h => blk_nil b h), e0⟩ ?_
    rintro _ ρ wd1121 ⟨x1128, v1127, rfl, hs1124, hs1125, hs1132, h1123, h1130, hf1131, e1122⟩ x1140 h hx1141 K1142 hK1142
    refine WC_block ?_
    refine WC_seqK fun K1145 hK1145 => ?_
    refine WC_region ?_
    refine T0_q (v := (.int .i64 0)) rfl (yl_assign rfl) ?_
    refine T0_q (v := (.bool false)) rfl (yl_assign rfl) ?_
    refine T0_nil ?_
    refine hK1145 _ _ ?_
    refine WC_seqK fun K1146 hK1146 => ?_
    refine WC_seqK fun K1147 hK1147 => ?_
    refine WC_region ?_
    refine T0_q (v := (.int .i64 0)) rfl (yl_assign rfl) ?_
    refine T0_nil ?_
    refine hK1147 _ _ ?_
    obtain ⟨o1282, hl1283, hn1284⟩ := bind_elim h
    refine WC_post (fun (ρ : Env) (wd1270 : World) => ∃ (x1278 : Int) (x1280 : Bool), (x1278, x1280) = o1282 ∧ ρ 0 = v_p_Listappend ∧ ρ 1 = (.int .i64 p_String) ∧ ρ 5 = v1127 ∧ ρ 6 = (.int .i64 x1278) ∧ ρ 7 = (.bool x1280) ∧ SlRd (v1127 :: L) wd1270 v_p_Listappend p_Listappend ∧ Own 36 (v1127 :: L) wd1270 v1127 x1128 ∧ Ext w wd1270) ?_ ?_
    · intro K1288 hK1288
      refine WC_block ?_
      refine WC_loopk (fun sv ρ wd1256 => ∃ (x1264 : Int) (x1266 : Bool) (x1268 : Int), (x1264, x1266, x1268) = sv ∧ ρ 0 = v_p_Listappend ∧ ρ 1 = (.int .i64 p_String) ∧ ρ 5 = v1127 ∧ ρ 6 = (.int .i64 x1264) ∧ ρ 7 = (.bool x1266) ∧ ρ 8 = (.int .i64 x1268) ∧ SlRd (v1127 :: L) wd1256 v_p_Listappend p_Listappend ∧ Own 36 (v1127 :: L) wd1256 v1127 x1128 ∧ Ext w wd1256) hl1283 ⟨0, false, 0, rfl, hs1124, hs1125, hs1132, rfl, rfl, rfl, h1123, h1130, e1122⟩ ?_
      rintro _ ρ wd1256 ⟨x1264, x1266, x1268, rfl, hs1259, hs1260, hs1263, hs1265, hs1267, hs1269, h1258, h1262, e1257⟩ x1285 h hx1286 K1287 hK1287
      refine WC_seqK fun K1290 hK1290 => ?_
      refine WC_seqK fun K1291 hK1291 => ?_
      refine WC_region ?_
      refine T0_q (v := (.int .i64 x1268)) rfl (yl_move hs1269) ?_
      refine T0_q (v := v_p_Listappend) rfl (yl_move hs1259) ?_
      refine T0_q (v := (.int .i64 (p_Listappend.length : Int))) rfl (yl_lenR rfl Tryd.underlying29 h1258 rfl) ?_
      refine T0_q (v := (.bool (decide (x1268 < (p_Listappend.length : Int))))) rfl (yl_lss rfl rfl) ?_
      refine T0_nil ?_
      refine hK1291 _ _ ?_
      refine WC_cond (b := (decide (x1268 < (p_Listappend.length : Int)))) rfl (fun hb1292 => ?_) (fun hb1292 => ?_)
      · replace h := cond_t hb1292 h
        refine WC_skip ?_
        refine hK1290 _ _ ?_
        refine WC_seqK fun K1293 hK1293 => ?_
        refine WC_block ?_
        refine WC_seqK fun K1294 hK1294 => ?_
        refine WC_region ?_
        refine T0_q (v := v_p_Listappend) rfl (yl_move hs1259) ?_
        refine T0_q (v := (.int .i64 x1268)) rfl (yl_move hs1269) ?_
        obtain ⟨el1295, hel1296, h⟩ := bind_elim h
        obtain ⟨cs1297, hat1298, hrd1299⟩ := SlRd.at h1258 hel1296
        have hrd1299 : cs1297 = [(.int .i64 el1295.Lo), (.int .i64 el1295.Hi)] := hrd1299
        subst hrd1299
        refine T0_q (v := (.pointer (some (elemAddr v_p_Listappend (x1268 : Int).toNat 2)))) rfl (yl_indexAddr Tryd.underlying29 sz36 h1258 hel1296 rfl rfl) ?_
        refine T0_q (v := (.pointer (some (elemAddr v_p_Listappend (x1268 : Int).toNat 2)))) rfl (yl_fa 0 Tryd.underlying36 rfl rfl ⟨0, sz3⟩ rfl rfl) ?_
        refine T0_q (v := (.int .i64 el1295.Lo)) rfl (yl_load sc3 rfl hat1298) ?_
        refine T0_q (v := (.int .i64 el1295.Lo)) rfl (yl_assign rfl) ?_
        refine T0_nil ?_
        refine hK1294 _ _ ?_
        refine WC_seqK fun K1301 hK1301 => ?_
        refine WC_region ?_
        refine T0_q (v := v_p_Listappend) rfl (yl_move hs1259) ?_
        refine T0_q (v := (.int .i64 p_String)) rfl (yl_move hs1260) ?_
        refine T0_q (v := (.int .i64 el1295.Lo)) rfl (yl_move rfl) ?_
        obtain ⟨r1302, hr1303, h⟩ := bind_elim h
        refine T0_e rfl (eff_call Tryd.func113 nm113 rfl (ev3 rfl rfl rfl) (ref04_IsFused_ok [] _ (LtL.nil _) v_p_Listappend p_Listappend (h1258.sub (fun _ h => by cases h)) p_String el1295.Lo r1302 hr1303) ?_)
        rintro _ wd1304 ⟨he1305, rfl⟩
        have e1306 := e1257.trans he1305
        refine T0_q (v := (.bool r1302)) rfl (yl_move rfl) ?_
        refine T0_g (v := v1127) r1302 (wanted_t rfl rfl rfl rfl) (fun hg => (yl_move hs1263)) ?_
        refine T0_g (v := (.int .i64 (x1128.length : Int))) r1302 (wanted_t rfl rfl rfl rfl) (fun hg => (yl_lenO rfl Tryd.underlying29 h1262 (gd_true hg))) ?_
        refine T0_g (v := (.bool (decide ((x1128.length : Int) = 0)))) r1302 (wanted_t rfl rfl rfl rfl) (fun hg => (yl_eql (gd_true hg) rfl)) ?_
        refine T0_g (v := (.bool (decide ((x1128.length : Int) = 0)))) r1302 (wanted_t rfl rfl rfl rfl) (fun hg => (yl_move (gd_true hg))) ?_
        refine T0_g (v := (.int .i64 el1295.Lo)) (r1302 && (!(decide ((x1128.length : Int) = 0)))) (wanted_gf rfl rfl rfl rfl) (fun hg => (yl_move rfl)) ?_
        refine T0_g (v := v1127) (r1302 && (!(decide ((x1128.length : Int) = 0)))) (wanted_gf rfl rfl rfl rfl) (fun hg => (yl_move hs1263)) ?_
        refine T0_g (v := v1127) (r1302 && (!(decide ((x1128.length : Int) = 0)))) (wanted_gf rfl rfl rfl rfl) (fun hg => (yl_move hs1263)) ?_
        refine T0_g (v := (.int .i64 (x1128.length : Int))) (r1302 && (!(decide ((x1128.length : Int) = 0)))) (wanted_gf rfl rfl rfl rfl) (fun hg => (yl_lenO rfl Tryd.underlying29 h1262 (gd_true hg))) ?_
        refine T0_g (v := (.int .i64 (w64 ((x1128.length : Int) - 1)))) (r1302 && (!(decide ((x1128.length : Int) = 0)))) (wanted_gf rfl rfl rfl rfl) (fun hg => (yl_sub (gd_true hg) rfl)) ?_
        obtain ⟨el1307, hel1308, h⟩ := bind_elim h
        have hat1310 : (r1302 && (!(decide ((x1128.length : Int) = 0)))) = true → At wd1256 (elemAddr v1127 (w64 ((x1128.length : Int) - 1) : Int).toNat 2) [(.int .i64 el1307.Lo), (.int .i64 el1307.Hi)] := fun hg => by obtain ⟨cs, hat, hrd⟩ := Own.at h1262 (cond_t hg hel1308); have hrd : cs = [(.int .i64 el1307.Lo), (.int .i64 el1307.Hi)] := hrd; subst hrd; exact hat
        refine T0_g (v := (.pointer (some (elemAddr v1127 (w64 ((x1128.length : Int) - 1) : Int).toNat 2)))) (r1302 && (!(decide ((x1128.length : Int) = 0)))) (wanted_gf rfl rfl rfl rfl) (fun hg => (yl_indexAddrO Tryd.underlying29 sz36 h1262 (cond_t hg hel1308) (gd_true hg) (gd_true hg))) ?_
        refine T0_g (v := (.pointer (some (Addr.add (elemAddr v1127 (w64 ((x1128.length : Int) - 1) : Int).toNat 2) 1)))) (r1302 && (!(decide ((x1128.length : Int) = 0)))) (wanted_gf rfl rfl rfl rfl) (fun hg => (yl_fa 1 Tryd.underlying36 rfl rfl ⟨0, sz3⟩ (gd_true hg) rfl)) ?_
        refine T0_g (v := (.int .i64 el1307.Hi)) (r1302 && (!(decide ((x1128.length : Int) = 0)))) (wanted_gf rfl rfl rfl rfl) (fun hg => (yl_load sc3 (gd_true hg) (At.drop ((hat1310 hg).ext' he1305) 1))) ?_
        refine T0_g (v := (.bool (decide (el1307.Hi < el1295.Lo)))) (r1302 && (!(decide ((x1128.length : Int) = 0)))) (wanted_gf rfl rfl rfl rfl) (fun hg => (yl_gtr (gd_true hg) (gd_true hg))) ?_
        refine T0_g (v := (.bool ((decide ((x1128.length : Int) = 0)) || (decide (el1307.Hi < el1295.Lo))))) r1302 (wanted_t rfl rfl rfl rfl) (fun hg => (yl_or (gd_true hg) rfl (fun hb => (gd_true (and_i hg (not_t hb)))))) ?_
        refine T0_q (v := (.bool (r1302 && ((decide ((x1128.length : Int) = 0)) || (decide (el1307.Hi < el1295.Lo)))))) rfl (yl_and rfl (fun hb => (gd_true hb)) rfl) ?_
        refine T0_q (v := (.bool (r1302 && ((decide ((x1128.length : Int) = 0)) || (decide (el1307.Hi < el1295.Lo)))))) rfl (yl_move rfl) ?_
        refine T0_g (v := (.bool x1266)) (r1302 && ((decide ((x1128.length : Int) = 0)) || (decide (el1307.Hi < el1295.Lo)))) (wanted_t rfl rfl rfl rfl) (fun hg => (yl_move hs1267)) ?_
        refine T0_g (v := (.bool (!x1266))) (r1302 && ((decide ((x1128.length : Int) = 0)) || (decide (el1307.Hi < el1295.Lo)))) (wanted_t rfl rfl rfl rfl) (fun hg => (yl_not (gd_true hg))) ?_
        refine T0_g (v := (.bool (!x1266))) (r1302 && ((decide ((x1128.length : Int) = 0)) || (decide (el1307.Hi < el1295.Lo)))) (wanted_t rfl rfl rfl rfl) (fun hg => (yl_move (gd_true hg))) ?_
        refine T0_g (v := (.int .i64 el1295.Lo)) ((r1302 && ((decide ((x1128.length : Int) = 0)) || (decide (el1307.Hi < el1295.Lo)))) && (!(!x1266))) (wanted_gf rfl rfl rfl rfl) (fun hg => (yl_move rfl)) ?_
        refine T0_g (v := (.int .i64 x1264)) ((r1302 && ((decide ((x1128.length : Int) = 0)) || (decide (el1307.Hi < el1295.Lo)))) && (!(!x1266))) (wanted_gf rfl rfl rfl rfl) (fun hg => (yl_move hs1265)) ?_
        refine T0_g (v := (.bool (decide (el1295.Lo < x1264)))) ((r1302 && ((decide ((x1128.length : Int) = 0)) || (decide (el1307.Hi < el1295.Lo)))) && (!(!x1266))) (wanted_gf rfl rfl rfl rfl) (fun hg => (yl_lss (gd_true hg) (gd_true hg))) ?_
        refine T0_g (v := (.bool ((!x1266) || (decide (el1295.Lo < x1264))))) (r1302 && ((decide ((x1128.length : Int) = 0)) || (decide (el1307.Hi < el1295.Lo)))) (wanted_t rfl rfl rfl rfl) (fun hg => (yl_or (gd_true hg) rfl (fun hb => (gd_true (and_i hg (not_t hb)))))) ?_
        refine T0_q (v := (.bool ((r1302 && ((decide ((x1128.length : Int) = 0)) || (decide (el1307.Hi < el1295.Lo)))) && ((!x1266) || (decide (el1295.Lo < x1264)))))) rfl (yl_and rfl (fun hb => (gd_true hb)) rfl) ?_
        refine T0_nil ?_
        refine hK1301 _ _ ?_
        refine WC_cond (b := ((r1302 && ((decide ((x1128.length : Int) = 0)) || (decide (el1307.Hi < el1295.Lo)))) && ((!x1266) || (decide (el1295.Lo < x1264))))) rfl (fun hb1312 => ?_) (fun hb1312 => ?_)
        · replace h := cond_t hb1312 h
          refine WC_region ?_
          refine T0_q (v := (.int .i64 el1295.Lo)) rfl (yl_move rfl) ?_
          refine T0_q (v := (.int .i64 el1295.Lo)) rfl (yl_assign rfl) ?_
          refine T0_q (v := (.bool true)) rfl (yl_assign rfl) ?_
          refine T0_nil ?_
          refine hK1293 _ _ ?_
          refine WC_region ?_
          refine T0_q (v := (.int .i64 x1268)) rfl (yl_move hs1269) ?_
          refine T0_q (v := (.int .i64 (w64 (x1268 + 1)))) rfl (yl_add rfl rfl) ?_
          refine T0_q (v := (.int .i64 (w64 (x1268 + 1)))) rfl (yl_assign rfl) ?_
          refine T0_nil ?_
          replace h := some_out h
          subst h
          refine hK1287 _ _ _ rfl ?_
          exact ⟨el1295.Lo, true, w64 (x1268 + 1), rfl, hs1259, hs1260, hs1263, rfl, rfl, rfl, (h1258.ext he1305), (h1262.ext he1305), e1306⟩
        · replace h := cond_f hb1312 h
          refine WC_skip ?_
          refine hK1293 _ _ ?_
          refine WC_region ?_
          refine T0_q (v := (.int .i64 x1268)) rfl (yl_move hs1269) ?_
          refine T0_q (v := (.int .i64 (w64 (x1268 + 1)))) rfl (yl_add rfl rfl) ?_
          refine T0_q (v := (.int .i64 (w64 (x1268 + 1)))) rfl (yl_assign rfl) ?_
          refine T0_nil ?_
          replace h := some_out h
          subst h
          refine hK1287 _ _ _ rfl ?_
          exact ⟨x1264, x1266, w64 (x1268 + 1), rfl, hs1259, hs1260, hs1263, hs1265, hs1267, rfl, (h1258.ext he1305), (h1262.ext he1305), e1306⟩
      · replace h := cond_f hb1292 h
        refine WC_exit ?_
        replace h := some_out h
        subst h
        have ho := hx1286 _ rfl
        subst ho
        refine hK1288 _ _ ?_
        exact ⟨x1264, x1266, rfl, hs1259, hs1260, hs1263, hs1265, hs1267, h1258, h1262, e1257⟩
    · rintro ρ wd1270 ⟨x1278, x1280, rfl, hs1273, hs1274, hs1277, hs1279, hs1281, h1272, h1276, e1271⟩
      replace h := hn1284
      refine hK1146 _ _ ?_
      refine WC_seqK fun K1313 hK1313 => ?_
      refine WC_seqK fun K1314 hK1314 => ?_
      refine WC_region ?_
      refine T0_q (v := (.bool x1280)) rfl (yl_move hs1281) ?_
      refine T0_q (v := (.bool (!x1280))) rfl (yl_not rfl) ?_
      refine T0_nil ?_
      refine hK1314 _ _ ?_
      refine WC_cond (b := (!x1280)) rfl (fun hb1315 => ?_) (fun hb1315 => ?_)
      · replace h := cond_t hb1315 h
        refine WC_seqK fun K1316 hK1316 => ?_
        refine WC_region ?_
        refine T0_q (v := v1127) rfl (yl_move hs1277) ?_
        refine T0_q (v := v1127) rfl (yl_assign rfl) ?_
        refine T0_nil ?_
        refine hK1316 _ _ ?_
        refine WC_ret ?_
        replace h := some_out h
        subst h
        have ho := hx1141 _ rfl
        subst ho
        replace h := jn0_inl hn1139
        replace h := some_out h
        subst h
        exact ⟨[v1127], ⟨rfl, trivial⟩, e1271, v1127, rfl, (h1276.rdL (sub_skip (sub_refl _)) hL hf1131)⟩
      · replace h := cond_f hb1315 h
        refine WC_skip ?_
        refine hK1313 _ _ ?_
        refine WC_seqK fun K1317 hK1317 => ?_
        refine WC_region ?_
        refine T0_q (v := (.int .i64 0)) rfl (yl_assign rfl) ?_
        refine T0_q (v := (.bool false)) rfl (yl_assign rfl) ?_
        refine T0_nil ?_
        refine hK1317 _ _ ?_
        refine WC_seqK fun K1318 hK1318 => ?_
        refine WC_seqK fun K1319 hK1319 => ?_
        refine WC_region ?_
        refine T0_q (v := (.int .i64 0)) rfl (yl_assign rfl) ?_
        refine T0_nil ?_
        refine hK1319 _ _ ?_
        obtain ⟨o1460, hl1461, hn1462⟩ := bind_elim h
        refine WC_post (fun (ρ : Env) (wd1449 : World) => ∃ (x1458 : Int), x1458 = o1460 ∧ ρ 0 = v_p_Listappend ∧ ρ 1 = (.int .i64 p_String) ∧ ρ 5 = v1127 ∧ ρ 6 = (.int .i64 x1278) ∧ ρ 10 = (.int .i64 x1458) ∧ SlRd (v1127 :: L) wd1449 v_p_Listappend p_Listappend ∧ Own 36 (v1127 :: L) wd1449 v1127 x1128 ∧ Ext w wd1449) ?_ ?_
        · intro K1466 hK1466
          refine WC_block ?_
          refine WC_loopk (fun sv ρ wd1434 => ∃ (x1443 : Int) (x1445 : Bool) (x1447 : Int), (x1443, x1445, x1447) = sv ∧ ρ 0 = v_p_Listappend ∧ ρ 1 = (.int .i64 p_String) ∧ ρ 5 = v1127 ∧ ρ 6 = (.int .i64 x1278) ∧ ρ 10 = (.int .i64 x1443) ∧ ρ 11 = (.bool x1445) ∧ ρ 12 = (.int .i64 x1447) ∧ SlRd (v1127 :: L) wd1434 v_p_Listappend p_Listappend ∧ Own 36 (v1127 :: L) wd1434 v1127 x1128 ∧ Ext w wd1434) hl1461 ⟨0, false, 0, rfl, hs1273, hs1274, hs1277, hs1279, rfl, rfl, rfl, h1272, h1276, e1271⟩ ?_
          rintro _ ρ wd1434 ⟨x1443, x1445, x1447, rfl, hs1437, hs1438, hs1441, hs1442, hs1444, hs1446, hs1448, h1436, h1440, e1435⟩ x1463 h hx1464 K1465 hK1465
          refine WC_seqK fun K1468 hK1468 => ?_
          refine WC_seqK fun K1469 hK1469 => ?_
          refine WC_region ?_
          refine T0_q (v := (.int .i64 x1447)) rfl (yl_move hs1448) ?_
          refine T0_q (v := v_p_Listappend) rfl (yl_move hs1437) ?_
          refine T0_q (v := (.int .i64 (p_Listappend.length : Int))) rfl (yl_lenR rfl Tryd.underlying29 h1436 rfl) ?_
          refine T0_q (v := (.bool (decide (x1447 < (p_Listappend.length : Int))))) rfl (yl_lss rfl rfl) ?_
          refine T0_nil ?_
          refine hK1469 _ _ ?_
          refine WC_cond (b := (decide (x1447 < (p_Listappend.length : Int)))) rfl (fun hb1470 => ?_) (fun hb1470 => ?_)
          · replace h := cond_t hb1470 h
            refine WC_skip ?_
            refine hK1468 _ _ ?_
            refine WC_seqK fun K1471 hK1471 => ?_
            refine WC_block ?_
            refine WC_seqK fun K1472 hK1472 => ?_
            refine WC_region ?_
            refine T0_q (v := v_p_Listappend) rfl (yl_move hs1437) ?_
            refine T0_q (v := (.int .i64 x1447)) rfl (yl_move hs1448) ?_
            obtain ⟨el1473, hel1474, h⟩ := bind_elim h
            obtain ⟨cs1475, hat1476, hrd1477⟩ := SlRd.at h1436 hel1474
            have hrd1477 : cs1475 = [(.int .i64 el1473.Lo), (.int .i64 el1473.Hi)] := hrd1477
            subst hrd1477
            refine T0_q (v := (.pointer (some (elemAddr v_p_Listappend (x1447 : Int).toNat 2)))) rfl (yl_indexAddr Tryd.underlying29 sz36 h1436 hel1474 rfl rfl) ?_
            refine T0_q (v := (.pointer (some (Addr.add (elemAddr v_p_Listappend (x1447 : Int).toNat 2) 1)))) rfl (yl_fa 1 Tryd.underlying36 rfl rfl ⟨0, sz3⟩ rfl rfl) ?_
            refine T0_q (v := (.int .i64 el1473.Hi)) rfl (yl_load sc3 rfl (At.drop hat1476 1)) ?_
            refine T0_q (v := (.int .i64 el1473.Hi)) rfl (yl_assign rfl) ?_
            refine T0_nil ?_
            refine hK1472 _ _ ?_
            refine WC_seqK fun K1479 hK1479 => ?_
            refine WC_region ?_
            refine T0_q (v := (.int .i64 el1473.Hi)) rfl (yl_move rfl) ?_
            refine T0_q (v := (.int .i64 x1278)) rfl (yl_move hs1442) ?_
            refine T0_q (v := (.bool (decide (x1278 ≤ el1473.Hi)))) rfl (yl_geq rfl rfl) ?_
            refine T0_q (v := (.bool (decide (x1278 ≤ el1473.Hi)))) rfl (yl_move rfl) ?_
            refine T0_g (v := v_p_Listappend) (decide (x1278 ≤ el1473.Hi)) (wanted_t rfl rfl rfl rfl) (fun hg => (yl_move hs1437)) ?_
            refine T0_g (v := (.int .i64 p_String)) (decide (x1278 ≤ el1473.Hi)) (wanted_t rfl rfl rfl rfl) (fun hg => (yl_move hs1438)) ?_
            refine T0_g (v := (.int .i64 el1473.Hi)) (decide (x1278 ≤ el1473.Hi)) (wanted_t rfl rfl rfl rfl) (fun hg => (yl_move rfl)) ?_
            obtain ⟨r1480, hr1481, h⟩ := bind_elim h
            refine T0_ges (decide (x1278 ≤ el1473.Hi)) (.bool r1480) (wanted_t rfl rfl rfl rfl) (fun hg => eff_call Tryd.func113 nm113 rfl (ev3 (gd_true hg) (gd_true hg) (gd_true hg)) (ref04_IsFused_ok [] _ (LtL.nil _) v_p_Listappend p_Listappend (h1436.sub (fun _ h => by cases h)) p_String el1473.Hi r1480 (cond_t hg hr1481)) (by rintro _ wd1482 ⟨he1483, rfl⟩; exact ⟨rfl, he1483⟩)) ?_
            intro wd1482 he1483
            have e1484 := e1435.trans he1483
            refine T0_q (v := (.bool ((decide (x1278 ≤ el1473.Hi)) && r1480))) rfl (yl_and rfl (fun hb => (gd_true hb)) rfl) ?_
            refine T0_q (v := (.bool ((decide (x1278 ≤ el1473.Hi)) && r1480))) rfl (yl_move rfl) ?_
            refine T0_g (v := v_p_Listappend) ((decide (x1278 ≤ el1473.Hi)) && r1480) (wanted_t rfl rfl rfl rfl) (fun hg => (yl_move hs1437)) ?_
            refine T0_g (v := (.int .i64 p_String)) ((decide (x1278 ≤ el1473.Hi)) && r1480) (wanted_t rfl rfl rfl rfl) (fun hg => (yl_move hs1438)) ?_
            refine T0_g (v := (.int .i64 el1473.Hi)) ((decide (x1278 ≤ el1473.Hi)) && r1480) (wanted_t rfl rfl rfl rfl) (fun hg => (yl_move rfl)) ?_
            refine T0_g (v := (.int .i64 (w64 (el1473.Hi + 1)))) ((decide (x1278 ≤ el1473.Hi)) && r1480) (wanted_t rfl rfl rfl rfl) (fun hg => (yl_add (gd_true hg) rfl)) ?_
            obtain ⟨r1485, hr1486, h⟩ := bind_elim h
            refine T0_ges ((decide (x1278 ≤ el1473.Hi)) && r1480) (.bool r1485) (wanted_t rfl rfl rfl rfl) (fun hg => eff_call Tryd.func113 nm113 rfl (ev3 (gd_true hg) (gd_true hg) (gd_true hg)) (ref04_IsFused_ok [] _ (LtL.nil _) v_p_Listappend p_Listappend ((h1436.ext he1483).sub (fun _ h => by cases h)) p_String (w64 (el1473.Hi + 1)) r1485 (cond_t hg hr1486)) (by rintro _ wd1487 ⟨he1488, rfl⟩; exact ⟨rfl, he1488⟩)) ?_
            intro wd1487 he1488
            have e1489 := he1483.trans he1488
            have e1490 := e1484.trans he1488
            refine T0_g (v := (.bool (!r1485))) ((decide (x1278 ≤ el1473.Hi)) && r1480) (wanted_t rfl rfl rfl rfl) (fun hg => (yl_not (gd_true hg))) ?_
            refine T0_q (v := (.bool (((decide (x1278 ≤ el1473.Hi)) && r1480) && (!r1485)))) rfl (yl_and rfl (fun hb => (gd_true hb)) rfl) ?_
            refine T0_q (v := (.bool (((decide (x1278 ≤ el1473.Hi)) && r1480) && (!r1485)))) rfl (yl_move rfl) ?_
            refine T0_g (v := (.bool x1445)) (((decide (x1278 ≤ el1473.Hi)) && r1480) && (!r1485)) (wanted_t rfl rfl rfl rfl) (fun hg => (yl_move hs1446)) ?_
            refine T0_g (v := (.bool (!x1445))) (((decide (x1278 ≤ el1473.Hi)) && r1480) && (!r1485)) (wanted_t rfl rfl rfl rfl) (fun hg => (yl_not (gd_true hg))) ?_
            refine T0_g (v := (.bool (!x1445))) (((decide (x1278 ≤ el1473.Hi)) && r1480) && (!r1485)) (wanted_t rfl rfl rfl rfl) (fun hg => (yl_move (gd_true hg))) ?_
            refine T0_g (v := (.int .i64 el1473.Hi)) ((((decide (x1278 ≤ el1473.Hi)) && r1480) && (!r1485)) && (!(!x1445))) (wanted_gf rfl rfl rfl rfl) (fun hg => (yl_move rfl)) ?_
            refine T0_g (v := (.int .i64 x1443)) ((((decide (x1278 ≤ el1473.Hi)) && r1480) && (!r1485)) && (!(!x1445))) (wanted_gf rfl rfl rfl rfl) (fun hg => (yl_move hs1444)) ?_
            refine T0_g (v := (.bool (decide (el1473.Hi < x1443)))) ((((decide (x1278 ≤ el1473.Hi)) && r1480) && (!r1485)) && (!(!x1445))) (wanted_gf rfl rfl rfl rfl) (fun hg => (yl_lss (gd_true hg) (gd_true hg))) ?_
            refine T0_g (v := (.bool ((!x1445) || (decide (el1473.Hi < x1443))))) (((decide (x1278 ≤ el1473.Hi)) && r1480) && (!r1485)) (wanted_t rfl rfl rfl rfl) (fun hg => (yl_or (gd_true hg) rfl (fun hb => (gd_true (and_i hg (not_t hb)))))) ?_
            refine T0_q (v := (.bool ((((decide (x1278 ≤ el1473.Hi)) && r1480) && (!r1485)) && ((!x1445) || (decide (el1473.Hi < x1443)))))) rfl (yl_and rfl (fun hb => (gd_true hb)) rfl) ?_
            refine T0_nil ?_
            refine hK1479 _ _ ?_
            refine WC_cond (b := ((((decide (x1278 ≤ el1473.Hi)) && r1480) && (!r1485)) && ((!x1445) || (decide (el1473.Hi < x1443))))) rfl (fun hb1491 => ?_) (fun hb1491 => ?_)
            · replace h := cond_t hb1491 h
              refine WC_region ?_
              refine T0_q (v := (.int .i64 el1473.Hi)) rfl (yl_move rfl) ?_
              refine T0_q (v := (.int .i64 el1473.Hi)) rfl (yl_assign rfl) ?_
              refine T0_q (v := (.bool true)) rfl (yl_assign rfl) ?_
              refine T0_nil ?_
              refine hK1471 _ _ ?_
              refine WC_region ?_
              refine T0_q (v := (.int .i64 x1447)) rfl (yl_move hs1448) ?_
              refine T0_q (v := (.int .i64 (w64 (x1447 + 1)))) rfl (yl_add rfl rfl) ?_
              refine T0_q (v := (.int .i64 (w64 (x1447 + 1)))) rfl (yl_assign rfl) ?_
              refine T0_nil ?_
              replace h := some_out h
              subst h
              refine hK1465 _ _ _ rfl ?_
              exact ⟨el1473.Hi, true, w64 (x1447 + 1), rfl, hs1437, hs1438, hs1441, hs1442, rfl, rfl, rfl, (h1436.ext e1489), (h1440.ext e1489), e1490⟩
            · replace h := cond_f hb1491 h
              refine WC_skip ?_
              refine hK1471 _ _ ?_
              refine WC_region ?_
              refine T0_q (v := (.int .i64 x1447)) rfl (yl_move hs1448) ?_
              refine T0_q (v := (.int .i64 (w64 (x1447 + 1)))) rfl (yl_add rfl rfl) ?_
              refine T0_q (v := (.int .i64 (w64 (x1447 + 1)))) rfl (yl_assign rfl) ?_
              refine T0_nil ?_
              replace h := some_out h
              subst h
              refine hK1465 _ _ _ rfl ?_
              exact ⟨x1443, x1445, w64 (x1447 + 1), rfl, hs1437, hs1438, hs1441, hs1442, hs1444, hs1446, rfl, (h1436.ext e1489), (h1440.ext e1489), e1490⟩
          · replace h := cond_f hb1470 h
            refine WC_exit ?_
            replace h := some_out h
            subst h
            have ho := hx1464 _ rfl
            subst ho
            refine hK1466 _ _ ?_
            exact ⟨x1443, rfl, hs1437, hs1438, hs1441, hs1442, hs1444, h1436, h1440, e1435⟩
        · rintro ρ wd1449 ⟨x1458, rfl, hs1452, hs1453, hs1456, hs1457, hs1459, h1451, h1455, e1450⟩
          replace h := hn1462
          refine hK1318 _ _ ?_
          refine WC_region ?_
          refine T0_q (v := v1127) rfl (yl_move hs1456) ?_
          refine T0_q (v := (.int .i64 x1278)) rfl (yl_move hs1457) ?_
          refine T0_q (v := (.int .i64 x1458)) rfl (yl_move hs1459) ?_
          refine T0_q (v := (.agg (List.toArray [(.int .i64 x1278), (.int .i64 x1458)]))) rfl (yl_buildC (cells := [(.int .i64 x1278), (.int .i64 x1458)]) bi36 (pc_cons rfl rfl (pc_cons rfl rfl pc_nil)) rfl) ?_
          refine T0_e rfl (eff_buildTC (xs := ([(Range.mk x1278 x1458)] : List Range)) (cells := [(.int .i64 x1278), (.int .i64 x1458)]) Tryd.underlying29 ei36 rfl (pc_cons rfl rfl pc_nil) rfl (Elems.cons (cs := [(.int .i64 x1278), (.int .i64 x1458)]) rfl Elems.nil) rfl (ltl_own (hL.chg e1450) h1455) ?_)
          intro b1495 wd1492 he1493 h1494
          have e1496 := e1450.trans he1493
          obtain ⟨zs1498, hz1499, h⟩ := bind_elim h
          refine T0_e rfl (eff_app Tryd.underlying29 ei36 rfl rfl rfl rfl (h1455.ext he1493) h1494 hz1499 ?_)
          intro v1500 wd1501 hc1502 hbl1503 h1504
          have hf1506 := fresh_swap hbl1503 hf1131 e1496.size
          have h1507 := (h1451.ext he1493).step (Stepp.swap hc1502 hbl1503)
          have h1508 := h1494.step (Stepp.swap hc1502 hbl1503)
          have e1509 := chg_own e1496 hc1502 hf1131
          refine T0_q (v := v1500) rfl (yl_assign rfl) ?_
          refine T0_nil ?_
          replace h := some_out h
          subst h
          refine hK1142 _ _ _ rfl ?_
          exact ⟨zs1498, v1500, rfl, hs1452, hs1453, rfl, h1507, h1504, hf1506, e1509⟩
  · rintro _ _ hf; exact hf.elim

noncomputable def ref04_Follow_s0 (p_String : (List LocateFix)) : (Int) → Option ((Int) ⊕ ((Range × Int × Int) ⊕ (Unit))) := fun x358 =>
  (bif (decide (x358 < (p_String.length : Int))) then (
    (Option.bind (idx p_String x358) fun el393 =>
    (Option.bind (ref04_TimeErr_spec el393.At) fun r399 =>
    (bif (!decide (r399 = 0)) then (
      some (.inr (.inl ((Range.mk 0 0), 0, r399)))
    ) else (
      (Option.bind (idx p_String x358) fun el416 =>
      (Option.bind (ref04_RangeErr_spec el416.Place) fun r422 =>
      (bif (!decide (r422 = 0)) then (
        some (.inr (.inl ((Range.mk 0 0), 0, r422)))
      ) else (
        (Option.bind ((bif (decide (0 < x358)) then idx p_String x358 else some default)) fun el443 =>
        (Option.bind ((bif (decide (0 < x358)) then idx p_String (w64 (x358 - 1)) else some default)) fun el448 =>
        (bif ((decide (0 < x358)) && (decide (el443.At < el448.At))) then (
          some (.inr (.inl ((Range.mk 0 0), 0, 9)))
        ) else (
          some (.inl (w64 (x358 + 1)))
        ))
        )
        )
      ))
      )
      )
    ))
    )
    )
  ) else (
    some (.inr (.inr ()))
  ))
noncomputable def ref04_Follow_s1 (p_Listappend : Range) (p_String : (List LocateFix)) : (Int × Int × Int) → Option ((Int × Int × Int) ⊕ ((Range × Int × Int) ⊕ (Int × Int))) := fun (x1030, x1038, x1039) =>
  (bif (decide (x1030 < (p_String.length : Int))) then (
    (Option.bind (idx p_String x1030) fun el1068 =>
    (Option.bind (idx p_String (w64 (x1030 - 1))) fun el1074 =>
    (Option.bind (ref04_Moved_spec (Range.mk x1038 x1039) p_Listappend (w64 (el1068.At - el1074.At))) fun r1080 =>
    (Option.bind (idx p_String x1030) fun el1116 =>
    (Option.bind (idx p_String x1030) fun el1122 =>
    (bif (decide ((if el1122.Place.Hi < r1080.Hi then el1122.Place.Hi else r1080.Hi) < (if r1080.Lo < el1116.Place.Lo then el1116.Place.Lo else r1080.Lo))) then (
      some (.inr (.inl ((Range.mk 0 0), x1030, 13)))
    ) else (
      some (.inl (w64 (x1030 + 1), (if r1080.Lo < el1116.Place.Lo then el1116.Place.Lo else r1080.Lo), (if el1122.Place.Hi < r1080.Hi then el1122.Place.Hi else r1080.Hi)))
    ))
    )
    )
    )
    )
    )
  ) else (
    some (.inr (.inr (x1038, x1039)))
  ))
noncomputable def ref04_Follow_spec (p_Listappend : Range) (p_String : (List LocateFix)) : Option (Range × Int × Int) :=
  (Option.bind (ref04_SpeedErr_spec p_Listappend) fun r43 =>
  (bif (!decide (r43 = 0)) then (
    some ((Range.mk 0 0), 0, r43)
  ) else (
    (bif (decide ((p_String.length : Int) = 0)) then (
      some ((Range.mk 0 0), 0, 10)
    ) else (
      (bif (decide (40 < (p_String.length : Int))) then (
        some ((Range.mk 0 0), 0, 8)
      ) else (
        (Option.bind (loop (ref04_Follow_s0 p_String) 0) fun o379 => jn0 o379 fun (_ : Unit) =>
        (Option.bind (idx p_String 0) fun el463 =>
        (Option.bind (loop (ref04_Follow_s1 p_Listappend p_String) (1, el463.Place.Lo, el463.Place.Hi)) fun o1052 => jn0 o1052 fun ((x1048, x1049) : Int × Int) =>
        some ((Range.mk x1048 x1049), 0, 0)
        )
        )
        )
      ))
    ))
  ))
  )
theorem ref04_Follow_ok (L : List Value) (w : World) (hL : LtL L w) (cs_p_Listappend : List Value) (p_Listappend : Range) (h_p_Listappend : Rep.rd L w cs_p_Listappend p_Listappend) (v_p_String : Value) (p_String : (List LocateFix)) (h_p_String : SlRd L w v_p_String p_String) (r : Range × Int × Int) (h : ref04_Follow_spec p_Listappend p_String = some r) :
    CallsTo Tryd.prog 69 [(.agg cs_p_Listappend.toArray), v_p_String] w (fun v w' => Ext w w' ∧ ∃ (cs0 : List Value), (.tuple #[(.agg cs0.toArray), (.int .i64 r.2.1), (.int .i64 r.2.2)]) = v ∧ Rep.rd L w' cs0 r.1) := by
  have e0 : Ext w w := Chg.refl _ _
  have h_p_Listappend : cs_p_Listappend = [(.int .i64 p_Listappend.Lo), (.int .i64 p_Listappend.Hi)] := h_p_Listappend
  subst h_p_Listappend
  refine callsTo_of_WC (n := 125) (rs := [.cell 4 36, .tmp 5, .tmp 6]) Tryd.func69 rfl rfl rfl rfl rfl ?_
  refine WC_seqK fun K2 hK2 => ?_
  refine WC_region ?_
  refine T0_e rfl (eff_boxC (cs := [(.int .i64 p_Listappend.Lo), (.int .i64 p_Listappend.Hi)]) rfl rfl ?_)
  intro b3 wd4 hb5 he6 hB7
  have hbf8 := bfresh e0 hb5
  have e9 := e0.trans he6
  refine T0_e rfl (eff_allocZ zi36 ?_)
  intro b11 wd12 hb13 he14 hB15
  have hn16 : b11 ≠ b3 := box_ne hB7 hb13
  have hbf17 := bfresh e9 hb13
  have h18 := (h_p_String.ext he6).step (add_box he14 hb13)
  have e19 := e9.trans he14
  refine T0_q (v := (.int .i64 0)) rfl (yl_assign rfl) ?_
  refine T0_q (v := (.int .i64 0)) rfl (yl_assign rfl) ?_
  refine T0_nil ?_
  refine hK2 _ _ ?_
  refine WC_seqK fun K21 hK21 => ?_
  refine WC_region ?_
  refine T0_q (v := (.agg (List.toArray [(.int .i64 0), (.int .i64 0)]))) rfl (yl_buildC (cells := [(.int .i64 0), (.int .i64 0)]) bi36 pc_nil rfl) ?_
  refine T0_e rfl (eff_allocZ zi36 ?_)
  intro b22 wd23 hb24 he25 hB26
  have hn27 : b22 ≠ b3 := box_ne (hB7.ext he14) hb24
  have hn28 : b22 ≠ b11 := box_ne hB15 hb24
  have hbf29 := bfresh e19 hb24
  have h30 := h18.step (add_box he25 hb24)
  have e31 := he14.trans he25
  have e32 := e19.trans he25
  refine T0_e rfl (eff_storeC (vs := [(.int .i64 0), (.int .i64 0)]) (cs' := [(.int .i64 0), (.int .i64 0)]) sz36 rfl rfl rfl rfl hB26 rfl (oc_cons rfl (oc_cons rfl oc_nil)) rfl ?_)
  intro wd34 hc35 hB36
  have h37 := h30.step (Stepp.chg_mem hc35 mem0)
  have h38 := (hB7.ext e31).chg hc35 (avoidb hn27)
  have h39 := (hB15.ext he25).chg hc35 (avoidb hn28)
  have e40 := chg_box e32 hc35 hbf29
  refine T0_nil ?_
  refine hK21 _ _ ?_
  refine WC_seqK fun K41 hK41 => ?_
  refine WC_seqK fun K42 hK42 => ?_
  refine WC_region ?_
  refine T0_q (v := (.agg (List.toArray [(.int .i64 p_Listappend.Lo), (.int .i64 p_Listappend.Hi)]))) rfl (yl_loadA (cs := [(.int .i64 p_Listappend.Lo), (.int .i64 p_Listappend.Hi)]) ag36 rfl (Box.at h38)) ?_
  obtain ⟨r43, hr44, h⟩ := bind_elim h
  refine T0_e rfl (eff_call Tryd.func61 nm61 rfl (ev1 rfl) (ref04_SpeedErr_ok [] _ (LtL.nil _) [(.int .i64 p_Listappend.Lo), (.int .i64 p_Listappend.Hi)] p_Listappend rfl r43 hr44) ?_)
  rintro _ wd45 ⟨he46, rfl⟩
  have e47 := e40.trans he46
  refine T0_q (v := (.int .i64 r43)) rfl (yl_assign rfl) ?_
  refine T0_nil ?_
  refine hK42 _ _ ?_
  refine WC_seqK fun K48 hK48 => ?_
  refine WC_region ?_
  refine T0_q (v := (.int .i64 r43)) rfl (yl_move rfl) ?_
  refine T0_q (v := (.bool (!decide (r43 = 0)))) rfl (yl_neq rfl rfl) ?_
  refine T0_nil ?_
  refine hK48 _ _ ?_
  refine WC_cond (b := (!decide (r43 = 0))) rfl (fun hb49 => ?_) (fun hb49 => ?_)
  · replace h := cond_t hb49 h
    refine WC_seqK fun K50 hK50 => ?_
    refine WC_region ?_
    refine T0_q (v := (.agg (List.toArray [(.int .i64 0), (.int .i64 0)]))) rfl (yl_loadA (cs := [(.int .i64 0), (.int .i64 0)]) ag36 rfl (Box.at (hB36.ext he46))) ?_
    refine T0_q (v := (.int .i64 r43)) rfl (yl_move rfl) ?_
    refine T0_e rfl (eff_storeC (vs := [(.int .i64 0), (.int .i64 0)]) (cs' := [(.int .i64 0), (.int .i64 0)]) sz36 rfl rfl rfl rfl (h39.ext he46) rfl (oc_cons rfl (oc_cons rfl oc_nil)) rfl ?_)
    intro wd51 hc52 hB53
    have h54 := (h37.ext he46).step (Stepp.chg_mem hc52 (memS mem0))
    have h55 := (h38.ext he46).chg hc52 (avoidb hn16)
    have h56 := (hB36.ext he46).chg hc52 (avoidb hn28.symm)
    have e57 := chg_box e47 hc52 hbf17
    refine T0_q (v := (.int .i64 0)) rfl (yl_assign rfl) ?_
    refine T0_q (v := (.int .i64 r43)) rfl (yl_assign rfl) ?_
    refine T0_nil ?_
    refine hK50 _ _ ?_
    refine WC_ret ?_
    replace h := some_out h
    subst h
    exact ⟨[(.agg (List.toArray [(.int .i64 0), (.int .i64 0)])), (.int .i64 0), (.int .i64 r43)], ⟨⟨_, rfl, run_loadVarA (cs := [(.int .i64 0), (.int .i64 0)]) ag36 (Box.at hB53)⟩, rfl, rfl, trivial⟩, e57, [(.int .i64 0), (.int .i64 0)], rfl, rfl⟩
  · replace h := cond_f hb49 h
    refine WC_skip ?_
    refine hK41 _ _ ?_
    refine WC_seqK fun K58 hK58 => ?_
    refine WC_seqK fun K59 hK59 => ?_
    refine WC_region ?_
    refine T0_q (v := v_p_String) rfl (yl_move rfl) ?_
    refine T0_q (v := (.int .i64 (p_String.length : Int))) rfl (yl_lenR rfl Tryd.underlying99 h37 rfl) ?_
    refine T0_q (v := (.bool (decide ((p_String.length : Int) = 0)))) rfl (yl_eql rfl rfl) ?_
    refine T0_nil ?_
    refine hK59 _ _ ?_
    refine WC_cond (b := (decide ((p_String.length : Int) = 0))) rfl (fun hb60 => ?_) (fun hb60 => ?_)
    · replace h := cond_t hb60 h
      refine WC_seqK fun K61 hK61 => ?_
      refine WC_region ?_
      refine T0_q (v := (.agg (List.toArray [(.int .i64 0), (.int .i64 0)]))) rfl (yl_loadA (cs := [(.int .i64 0), (.int .i64 0)]) ag36 rfl (Box.at (hB36.ext he46))) ?_
      refine T0_e rfl (eff_storeC (vs := [(.int .i64 0), (.int .i64 0)]) (cs' := [(.int .i64 0), (.int .i64 0)]) sz36 rfl rfl rfl rfl (h39.ext he46) rfl (oc_cons rfl (oc_cons rfl oc_nil)) rfl ?_)
      intro wd62 hc63 hB64
      have h65 := (h37.ext he46).step (Stepp.chg_mem hc63 (memS mem0))
      have h66 := (h38.ext he46).chg hc63 (avoidb hn16)
      have h67 := (hB36.ext he46).chg hc63 (avoidb hn28.symm)
      have e68 := chg_box e47 hc63 hbf17
      refine T0_q (v := (.int .i64 0)) rfl (yl_assign rfl) ?_
      refine T0_q (v := (.int .i64 10)) rfl (yl_assign rfl) ?_
      refine T0_nil ?_
      refine hK61 _ _ ?_
      refine WC_ret ?_
      replace h := some_out h
      subst h
      exact ⟨[(.agg (List.toArray [(.int .i64 0), (.int .i64 0)])), (.int .i64 0), (.int .i64 10)], ⟨⟨_, rfl, run_loadVarA (cs := [(.int .i64 0), (.int .i64 0)]) ag36 (Box.at hB64)⟩, rfl, rfl, trivial⟩, e68, [(.int .i64 0), (.int .i64 0)], rfl, rfl⟩
    · replace h := cond_f hb60 h
      refine WC_skip ?_
      refine hK58 _ _ ?_
      refine WC_seqK fun K69 hK69 => ?_
      refine WC_seqK fun K70 hK70 => ?_
      refine WC_region ?_
      refine T0_q (v := v_p_String) rfl (yl_move rfl) ?_
      refine T0_q (v := (.int .i64 (p_String.length : Int))) rfl (yl_lenR rfl Tryd.underlying99 h37 rfl) ?_
      refine T0_q (v := (.bool (decide (40 < (p_String.length : Int))))) rfl (yl_gtr rfl rfl) ?_
      refine T0_nil ?_
      refine hK70 _ _ ?_
      refine WC_cond (b := (decide (40 < (p_String.length : Int)))) rfl (fun hb71 => ?_) (fun hb71 => ?_)
      · replace h := cond_t hb71 h
        refine WC_seqK fun K72 hK72 => ?_
        refine WC_region ?_
        refine T0_q (v := (.agg (List.toArray [(.int .i64 0), (.int .i64 0)]))) rfl (yl_loadA (cs := [(.int .i64 0), (.int .i64 0)]) ag36 rfl (Box.at (hB36.ext he46))) ?_
        refine T0_e rfl (eff_storeC (vs := [(.int .i64 0), (.int .i64 0)]) (cs' := [(.int .i64 0), (.int .i64 0)]) sz36 rfl rfl rfl rfl (h39.ext he46) rfl (oc_cons rfl (oc_cons rfl oc_nil)) rfl ?_)
        intro wd73 hc74 hB75
        have h76 := (h37.ext he46).step (Stepp.chg_mem hc74 (memS mem0))
        have h77 := (h38.ext he46).chg hc74 (avoidb hn16)
        have h78 := (hB36.ext he46).chg hc74 (avoidb hn28.symm)
        have e79 := chg_box e47 hc74 hbf17
        refine T0_q (v := (.int .i64 0)) rfl (yl_assign rfl) ?_
        refine T0_q (v := (.int .i64 8)) rfl (yl_assign rfl) ?_
        refine T0_nil ?_
        refine hK72 _ _ ?_
        refine WC_ret ?_
        replace h := some_out h
        subst h
        exact ⟨[(.agg (List.toArray [(.int .i64 0), (.int .i64 0)])), (.int .i64 0), (.int .i64 8)], ⟨⟨_, rfl, run_loadVarA (cs := [(.int .i64 0), (.int .i64 0)]) ag36 (Box.at hB75)⟩, rfl, rfl, trivial⟩, e79, [(.int .i64 0), (.int .i64 0)], rfl, rfl⟩
      · replace h := cond_f hb71 h
        refine WC_skip ?_
        refine hK69 _ _ ?_
        refine WC_seqK fun K80 hK80 => ?_
        refine WC_seqK fun K81 hK81 => ?_
        refine WC_region ?_
        refine T0_q (v := (.int .i64 0)) rfl (yl_assign rfl) ?_
        refine T0_nil ?_
        refine hK81 _ _ ?_
        obtain ⟨o379, hl380, hn381⟩ := bind_elim h
        refine WC_post (fun (ρ : Env) (wd366 : World) => .inr () = o379 ∧ ρ 1 = v_p_String ∧ ρ 2 = (.pointer (some ⟨b3, 0, none⟩)) ∧ ρ 4 = (.pointer (some ⟨b11, 0, none⟩)) ∧ ρ 7 = (.pointer (some ⟨b22, 0, none⟩)) ∧ SlRd ((.pointer (some ⟨b22, 0, none⟩)) :: (.pointer (some ⟨b11, 0, none⟩)) :: L) wd366 v_p_String p_String ∧ Box wd366 b11 [(.int .i64 0), (.int .i64 0)] 36 ∧ Box wd366 b22 [(.int .i64 0), (.int .i64 0)] 36 ∧ Box wd366 b3 [(.int .i64 p_Listappend.Lo), (.int .i64 p_Listappend.Hi)] 36 ∧ Ext w wd366) ?_ ?_
        · intro K385 hK385
          refine WC_block ?_
          refine WC_loopk (fun sv ρ wd351 => ∃ (x358 : Int), x358 = sv ∧ ρ 1 = v_p_String ∧ ρ 2 = (.pointer (some ⟨b3, 0, none⟩)) ∧ ρ 4 = (.pointer (some ⟨b11, 0, none⟩)) ∧ ρ 7 = (.pointer (some ⟨b22, 0, none⟩)) ∧ ρ 9 = (.int .i64 x358) ∧ SlRd ((.pointer (some ⟨b22, 0, none⟩)) :: (.pointer (some ⟨b11, 0, none⟩)) :: L) wd351 v_p_String p_String ∧ Box wd351 b11 [(.int .i64 0), (.int .i64 0)] 36 ∧ Box wd351 b22 [(.int .i64 0), (.int .i64 0)] 36 ∧ Box wd351 b3 [(.int .i64 p_Listappend.Lo), (.int .i64 p_Listappend.Hi)] 36 ∧ Ext w wd351) hl380 ⟨0, rfl, rfl, rfl, rfl, rfl, rfl, (h37.ext he46), (h39.ext he46), (hB36.ext he46), (h38.ext he46), e47⟩ ?_
          rintro _ ρ wd351 ⟨x358, rfl, hs354, hs355, hs356, hs357, hs359, h353, hB361, hB363, hB365, e352⟩ x382 h hx383 K384 hK384
          refine WC_seqK fun K387 hK387 => ?_
          refine WC_seqK fun K388 hK388 => ?_
          refine WC_region ?_
          refine T0_q (v := (.int .i64 x358)) rfl (yl_move hs359) ?_
          refine T0_q (v := v_p_String) rfl (yl_move hs354) ?_
          refine T0_q (v := (.int .i64 (p_String.length : Int))) rfl (yl_lenR rfl Tryd.underlying99 h353 rfl) ?_
          refine T0_q (v := (.bool (decide (x358 < (p_String.length : Int))))) rfl (yl_lss rfl rfl) ?_
          refine T0_nil ?_
          refine hK388 _ _ ?_
          refine WC_cond (b := (decide (x358 < (p_String.length : Int)))) rfl (fun hb389 => ?_) (fun hb389 => ?_)
          · replace h := cond_t hb389 h
            refine WC_skip ?_
            refine hK387 _ _ ?_
            refine WC_seqK fun K390 hK390 => ?_
            refine WC_block ?_
            refine WC_seqK fun K391 hK391 => ?_
            refine WC_seqK fun K392 hK392 => ?_
            refine WC_region ?_
            refine T0_q (v := v_p_String) rfl (yl_move hs354) ?_
            refine T0_q (v := (.int .i64 x358)) rfl (yl_move hs359) ?_
            obtain ⟨el393, hel394, h⟩ := bind_elim h
            obtain ⟨cs395, hat396, hrd397⟩ := SlRd.at h353 hel394
            have hrd397 : cs395 = [(.int .i64 el393.At), (.int .i64 el393.Place.Lo), (.int .i64 el393.Place.Hi)] := hrd397
            subst hrd397
            refine T0_q (v := (.pointer (some (elemAddr v_p_String (x358 : Int).toNat 3)))) rfl (yl_indexAddr Tryd.underlying99 sz110 h353 hel394 rfl rfl) ?_
            refine T0_q (v := (.pointer (some (elemAddr v_p_String (x358 : Int).toNat 3)))) rfl (yl_fa 0 Tryd.underlying110 rfl rfl ⟨0, sz3⟩ rfl rfl) ?_
            refine T0_q (v := (.int .i64 el393.At)) rfl (yl_load sc3 rfl hat396) ?_
            obtain ⟨r399, hr400, h⟩ := bind_elim h
            refine T0_e rfl (eff_call Tryd.func62 nm62 rfl (ev1 rfl) (ref04_TimeErr_ok [] _ (LtL.nil _) el393.At r399 hr400) ?_)
            rintro _ wd401 ⟨he402, rfl⟩
            have e403 := e352.trans he402
            refine T0_q (v := (.int .i64 r399)) rfl (yl_assign rfl) ?_
            refine T0_nil ?_
            refine hK392 _ _ ?_
            refine WC_seqK fun K404 hK404 => ?_
            refine WC_region ?_
            refine T0_q (v := (.int .i64 r399)) rfl (yl_move rfl) ?_
            refine T0_q (v := (.bool (!decide (r399 = 0)))) rfl (yl_neq rfl rfl) ?_
            refine T0_nil ?_
            refine hK404 _ _ ?_
            refine WC_cond (b := (!decide (r399 = 0))) rfl (fun hb405 => ?_) (fun hb405 => ?_)
            · replace h := cond_t hb405 h
              refine WC_seqK fun K406 hK406 => ?_
              refine WC_region ?_
              refine T0_q (v := (.agg (List.toArray [(.int .i64 0), (.int .i64 0)]))) rfl (yl_loadA (cs := [(.int .i64 0), (.int .i64 0)]) ag36 hs357 (Box.at (hB363.ext he402))) ?_
              refine T0_q (v := (.int .i64 r399)) rfl (yl_move rfl) ?_
              refine T0_e rfl (eff_storeC (vs := [(.int .i64 0), (.int .i64 0)]) (cs' := [(.int .i64 0), (.int .i64 0)]) sz36 rfl rfl hs356 rfl (hB361.ext he402) rfl (oc_cons rfl (oc_cons rfl oc_nil)) rfl ?_)
              intro wd407 hc408 hB409
              have h410 := (h353.ext he402).step (Stepp.chg_mem hc408 (memS mem0))
              have h411 := (hB363.ext he402).chg hc408 (avoidb hn28.symm)
              have h412 := (hB365.ext he402).chg hc408 (avoidb hn16)
              have e413 := chg_box e403 hc408 hbf17
              refine T0_q (v := (.int .i64 0)) rfl (yl_assign rfl) ?_
              refine T0_q (v := (.int .i64 r399)) rfl (yl_assign rfl) ?_
              refine T0_nil ?_
              refine hK406 _ _ ?_
              refine WC_ret ?_
              replace h := some_out h
              subst h
              have ho := hx383 _ rfl
              subst ho
              replace h := jn0_inl hn381
              replace h := some_out h
              subst h
              exact ⟨[(.agg (List.toArray [(.int .i64 0), (.int .i64 0)])), (.int .i64 0), (.int .i64 r399)], ⟨⟨_, hs356, run_loadVarA (cs := [(.int .i64 0), (.int .i64 0)]) ag36 (Box.at hB409)⟩, rfl, rfl, trivial⟩, e413, [(.int .i64 0), (.int .i64 0)], rfl, rfl⟩
            · replace h := cond_f hb405 h
              refine WC_skip ?_
              refine hK391 _ _ ?_
              refine WC_seqK fun K414 hK414 => ?_
              refine WC_seqK fun K415 hK415 => ?_
              refine WC_region ?_
              refine T0_q (v := v_p_String) rfl (yl_move hs354) ?_
              refine T0_q (v := (.int .i64 x358)) rfl (yl_move hs359) ?_
              obtain ⟨el416, hel417, h⟩ := bind_elim h
              obtain ⟨cs418, hat419, hrd420⟩ := SlRd.at h353 hel417
              have hrd420 : cs418 = [(.int .i64 el416.At), (.int .i64 el416.Place.Lo), (.int .i64 el416.Place.Hi)] := hrd420
              subst hrd420
              refine T0_q (v := (.pointer (some (elemAddr v_p_String (x358 : Int).toNat 3)))) rfl (yl_indexAddr Tryd.underlying99 sz110 h353 hel417 rfl rfl) ?_
              refine T0_q (v := (.pointer (some (Addr.add (elemAddr v_p_String (x358 : Int).toNat 3) 1)))) rfl (yl_fa 1 Tryd.underlying110 rfl rfl ⟨1, sz36⟩ rfl rfl) ?_
              refine T0_q (v := (.agg (List.toArray [(.int .i64 el416.Place.Lo), (.int .i64 el416.Place.Hi)]))) rfl (yl_loadA (cs := [(.int .i64 el416.Place.Lo), (.int .i64 el416.Place.Hi)]) ag36 rfl (At.take (At.drop (hat419.ext' he402) 1) 2)) ?_
              obtain ⟨r422, hr423, h⟩ := bind_elim h
              refine T0_e rfl (eff_call Tryd.func60 nm60 rfl (ev1 rfl) (ref04_RangeErr_ok [] _ (LtL.nil _) [(.int .i64 el416.Place.Lo), (.int .i64 el416.Place.Hi)] el416.Place rfl r422 hr423) ?_)
              rintro _ wd424 ⟨he425, rfl⟩
              have e426 := he402.trans he425
              have e427 := e403.trans he425
              refine T0_q (v := (.int .i64 r422)) rfl (yl_assign rfl) ?_
              refine T0_nil ?_
              refine hK415 _ _ ?_
              refine WC_seqK fun K428 hK428 => ?_
              refine WC_region ?_
              refine T0_q (v := (.int .i64 r422)) rfl (yl_move rfl) ?_
              refine T0_q (v := (.bool (!decide (r422 = 0)))) rfl (yl_neq rfl rfl) ?_
              refine T0_nil ?_
              refine hK428 _ _ ?_
              refine WC_cond (b := (!decide (r422 = 0))) rfl (fun hb429 => ?_) (fun hb429 => ?_)
              · replace h := cond_t hb429 h
                refine WC_seqK fun K430 hK430 => ?_
                refine WC_region ?_
                refine T0_q (v := (.agg (List.toArray [(.int .i64 0), (.int .i64 0)]))) rfl (yl_loadA (cs := [(.int .i64 0), (.int .i64 0)]) ag36 hs357 (Box.at (hB363.ext e426))) ?_
                refine T0_q (v := (.int .i64 r422)) rfl (yl_move rfl) ?_
                refine T0_e rfl (eff_storeC (vs := [(.int .i64 0), (.int .i64 0)]) (cs' := [(.int .i64 0), (.int .i64 0)]) sz36 rfl rfl hs356 rfl (hB361.ext e426) rfl (oc_cons rfl (oc_cons rfl oc_nil)) rfl ?_)
                intro wd431 hc432 hB433
                have h434 := (h353.ext e426).step (Stepp.chg_mem hc432 (memS mem0))
                have h435 := (hB363.ext e426).chg hc432 (avoidb hn28.symm)
                have h436 := (hB365.ext e426).chg hc432 (avoidb hn16)
                have e437 := chg_box e427 hc432 hbf17
                refine T0_q (v := (.int .i64 0)) rfl (yl_assign rfl) ?_
                refine T0_q (v := (.int .i64 r422)) rfl (yl_assign rfl) ?_
                refine T0_nil ?_
                refine hK430 _ _ ?_
                refine WC_ret ?_
                replace h := some_out h
                subst h
                have ho := hx383 _ rfl
                subst ho
                replace h := jn0_inl hn381
                replace h := some_out h
                subst h
                exact ⟨[(.agg (List.toArray [(.int .i64 0), (.int .i64 0)])), (.int .i64 0), (.int .i64 r422)], ⟨⟨_, hs356, run_loadVarA (cs := [(.int .i64 0), (.int .i64 0)]) ag36 (Box.at hB433)⟩, rfl, rfl, trivial⟩, e437, [(.int .i64 0), (.int .i64 0)], rfl, rfl⟩
              · replace h := cond_f hb429 h
                refine WC_skip ?_
                refine hK414 _ _ ?_
                refine WC_seqK fun K438 hK438 => ?_
                refine WC_plan mixed (.p 0 (.p 1 (.p 2 (.p 3 (.p 4 (.p 5 (.p 6 (.p 8 (.p 9 (.p 10 (.p 11 (.p 12 (.q 7 (.q 13 (.p 14 (.p 15 .done)))))))))))))))) (by kernel_rfl) ?_
                intro wd439 he440
                have e441 := e426.trans he440
                have e442 := e427.trans he440
                refine TP_p (v := (.int .i64 x358)) rfl rfl (fun w' => (yl_move hs359)) ?_
                refine TP_p (v := (.bool (decide (0 < x358)))) rfl rfl (fun w' => (yl_gtr rfl rfl)) ?_
                refine TP_p (v := (.bool (decide (0 < x358)))) rfl rfl (fun w' => (yl_move rfl)) ?_
                refine TP_gp (v := v_p_String) (decide (0 < x358)) rfl (wanted_t rfl rfl rfl rfl) (fun w' hg => (yl_move hs354)) ?_
                refine TP_gp (v := (.int .i64 x358)) (decide (0 < x358)) rfl (wanted_t rfl rfl rfl rfl) (fun w' hg => (yl_move hs359)) ?_
                obtain ⟨el443, hel444, h⟩ := bind_elim h
                have hat446 : (decide (0 < x358)) = true → At wd351 (elemAddr v_p_String (x358 : Int).toNat 3) [(.int .i64 el443.At), (.int .i64 el443.Place.Lo), (.int .i64 el443.Place.Hi)] := fun hg => by obtain ⟨cs, hat, hrd⟩ := SlRd.at h353 (cond_t hg hel444); have hrd : cs = [(.int .i64 el443.At), (.int .i64 el443.Place.Lo), (.int .i64 el443.Place.Hi)] := hrd; subst hrd; exact hat
                refine TP_gp (v := (.pointer (some (elemAddr v_p_String (x358 : Int).toNat 3)))) (decide (0 < x358)) rfl (wanted_t rfl rfl rfl rfl) (fun w' hg => (yl_indexAddr Tryd.underlying99 sz110 h353 (cond_t hg hel444) (gd_true hg) (gd_true hg))) ?_
                refine TP_gp (v := (.pointer (some (elemAddr v_p_String (x358 : Int).toNat 3)))) (decide (0 < x358)) rfl (wanted_t rfl rfl rfl rfl) (fun w' hg => (yl_fa 0 Tryd.underlying110 rfl rfl ⟨0, sz3⟩ (gd_true hg) rfl)) ?_
                refine TP_gp (v := v_p_String) (decide (0 < x358)) rfl (wanted_t rfl rfl rfl rfl) (fun w' hg => (yl_move hs354)) ?_
                refine TP_gp (v := (.int .i64 x358)) (decide (0 < x358)) rfl (wanted_t rfl rfl rfl rfl) (fun w' hg => (yl_move hs359)) ?_
                refine TP_gp (v := (.int .i64 (w64 (x358 - 1)))) (decide (0 < x358)) rfl (wanted_t rfl rfl rfl rfl) (fun w' hg => (yl_sub (gd_true hg) rfl)) ?_
                obtain ⟨el448, hel449, h⟩ := bind_elim h
                have hat451 : (decide (0 < x358)) = true → At wd351 (elemAddr v_p_String (w64 (x358 - 1) : Int).toNat 3) [(.int .i64 el448.At), (.int .i64 el448.Place.Lo), (.int .i64 el448.Place.Hi)] := fun hg => by obtain ⟨cs, hat, hrd⟩ := SlRd.at h353 (cond_t hg hel449); have hrd : cs = [(.int .i64 el448.At), (.int .i64 el448.Place.Lo), (.int .i64 el448.Place.Hi)] := hrd; subst hrd; exact hat
                refine TP_gp (v := (.pointer (some (elemAddr v_p_String (w64 (x358 - 1) : Int).toNat 3)))) (decide (0 < x358)) rfl (wanted_t rfl rfl rfl rfl) (fun w' hg => (yl_indexAddr Tryd.underlying99 sz110 h353 (cond_t hg hel449) (gd_true hg) (gd_true hg))) ?_
                refine TP_gp (v := (.pointer (some (elemAddr v_p_String (w64 (x358 - 1) : Int).toNat 3)))) (decide (0 < x358)) rfl (wanted_t rfl rfl rfl rfl) (fun w' hg => (yl_fa 0 Tryd.underlying110 rfl rfl ⟨0, sz3⟩ (gd_true hg) rfl)) ?_
                refine TP_gq (v := (.int .i64 el443.At)) (decide (0 < x358)) rfl (wanted_t rfl rfl rfl rfl) (fun w' hS hg => (yl_load sc3 (gd_true hg) ((hat446 hg).ext' ((e441).trans hS)))) ?_
                refine TP_gq (v := (.int .i64 el448.At)) (decide (0 < x358)) rfl (wanted_t rfl rfl rfl rfl) (fun w' hS hg => (yl_load sc3 (gd_true hg) ((hat451 hg).ext' ((e441).trans hS)))) ?_
                refine TP_gp (v := (.bool (decide (el443.At < el448.At)))) (decide (0 < x358)) rfl (wanted_t rfl rfl rfl rfl) (fun w' hg => (yl_lss (gd_true hg) (gd_true hg))) ?_
                refine TP_p (v := (.bool ((decide (0 < x358)) && (decide (el443.At < el448.At))))) rfl rfl (fun w' => (yl_and rfl (fun hb => (gd_true hb)) rfl)) ?_
                refine TP_done ?_
                refine hK438 _ _ ?_
                refine WC_cond (b := ((decide (0 < x358)) && (decide (el443.At < el448.At)))) rfl (fun hb453 => ?_) (fun hb453 => ?_)
                · replace h := cond_t hb453 h
                  refine WC_seqK fun K454 hK454 => ?_
                  refine WC_region ?_
                  refine T0_q (v := (.agg (List.toArray [(.int .i64 0), (.int .i64 0)]))) rfl (yl_loadA (cs := [(.int .i64 0), (.int .i64 0)]) ag36 hs357 (Box.at (hB363.ext e441))) ?_
                  refine T0_e rfl (eff_storeC (vs := [(.int .i64 0), (.int .i64 0)]) (cs' := [(.int .i64 0), (.int .i64 0)]) sz36 rfl rfl hs356 rfl (hB361.ext e441) rfl (oc_cons rfl (oc_cons rfl oc_nil)) rfl ?_)
                  intro wd455 hc456 hB457
                  have h458 := (h353.ext e441).step (Stepp.chg_mem hc456 (memS mem0))
                  have h459 := (hB363.ext e441).chg hc456 (avoidb hn28.symm)
                  have h460 := (hB365.ext e441).chg hc456 (avoidb hn16)
                  have e461 := chg_box e442 hc456 hbf17
                  refine T0_q (v := (.int .i64 0)) rfl (yl_assign rfl) ?_
                  refine T0_q (v := (.int .i64 9)) rfl (yl_assign rfl) ?_
                  refine T0_nil ?_
                  refine hK454 _ _ ?_
                  refine WC_ret ?_
                  replace h := some_out h
                  subst h
                  have ho := hx383 _ rfl
                  subst ho
                  replace h := jn0_inl hn381
                  replace h := some_out h
                  subst h
                  exact ⟨[(.agg (List.toArray [(.int .i64 0), (.int .i64 0)])), (.int .i64 0), (.int .i64 9)], ⟨⟨_, hs356, run_loadVarA (cs := [(.int .i64 0), (.int .i64 0)]) ag36 (Box.at hB457)⟩, rfl, rfl, trivial⟩, e461, [(.int .i64 0), (.int .i64 0)], rfl, rfl⟩
                · replace h := cond_f hb453 h
                  refine WC_skip ?_
                  refine hK390 _ _ ?_
                  refine WC_region ?_
                  refine T0_q (v := (.int .i64 x358)) rfl (yl_move hs359) ?_
                  refine T0_q (v := (.int .i64 (w64 (x358 + 1)))) rfl (yl_add rfl rfl) ?_
                  refine T0_q (v := (.int .i64 (w64 (x358 + 1)))) rfl (yl_assign rfl) ?_
                  refine T0_nil ?_
                  replace h := some_out h
                  subst h
                  refine hK384 _ _ _ rfl ?_
                  exact ⟨w64 (x358 + 1), rfl, hs354, hs355, hs356, hs357, rfl, (h353.ext e441), (hB361.ext e441), (hB363.ext e441), (hB365.ext e441), e442⟩
          · replace h := cond_f hb389 h
            refine WC_exit ?_
            replace h := some_out h
            subst h
            have ho := hx383 _ rfl
            subst ho
            refine hK385 _ _ ?_
            exact ⟨rfl, hs354, hs355, hs356, hs357, h353, hB361, hB363, hB365, e352⟩
        · rintro ρ wd366 ⟨rfl, hs369, hs370, hs371, hs372, h368, hB374, hB376, hB378, e367⟩
          replace h := jn0_inr hn381
          refine hK80 _ _ ?_
          refine WC_seqK fun K462 hK462 => ?_
          refine WC_region ?_
          refine T0_q (v := v_p_String) rfl (yl_move hs369) ?_
          obtain ⟨el463, hel464, h⟩ := bind_elim h
          obtain ⟨cs465, hat466, hrd467⟩ := SlRd.at h368 hel464
          have hrd467 : cs465 = [(.int .i64 el463.At), (.int .i64 el463.Place.Lo), (.int .i64 el463.Place.Hi)] := hrd467
          subst hrd467
          refine T0_q (v := (.pointer (some (elemAddr v_p_String (0 : Int).toNat 3)))) rfl (yl_indexAddr Tryd.underlying99 sz110 h368 hel464 rfl rfl) ?_
          refine T0_q (v := (.pointer (some (Addr.add (elemAddr v_p_String (0 : Int).toNat 3) 1)))) rfl (yl_fa 1 Tryd.underlying110 rfl rfl ⟨1, sz36⟩ rfl rfl) ?_
          refine T0_q (v := (.agg (List.toArray [(.int .i64 el463.Place.Lo), (.int .i64 el463.Place.Hi)]))) rfl (yl_loadA (cs := [(.int .i64 el463.Place.Lo), (.int .i64 el463.Place.Hi)]) ag36 rfl (At.take (At.drop hat466 1) 2)) ?_
          refine T0_e rfl (eff_allocZ zi36 ?_)
          intro b469 wd470 hb471 he472 hB473
          have hn474 : b469 ≠ b11 := box_ne hB374 hb471
          have hn475 : b469 ≠ b22 := box_ne hB376 hb471
          have hn476 : b469 ≠ b3 := box_ne hB378 hb471
          have hbf477 := bfresh e367 hb471
          have h478 := h368.step (add_box he472 hb471)
          have e479 := e367.trans he472
          refine T0_e rfl (eff_storeC (vs := [(.int .i64 el463.Place.Lo), (.int .i64 el463.Place.Hi)]) (cs' := [(.int .i64 el463.Place.Lo), (.int .i64 el463.Place.Hi)]) sz36 rfl rfl rfl rfl hB473 rfl (oc_cons rfl (oc_cons rfl oc_nil)) rfl ?_)
          intro wd481 hc482 hB483
          have h484 := h478.step (Stepp.chg_mem hc482 mem0)
          have h485 := (hB374.ext he472).chg hc482 (avoidb hn474)
          have h486 := (hB376.ext he472).chg hc482 (avoidb hn475)
          have h487 := (hB378.ext he472).chg hc482 (avoidb hn476)
          have e488 := chg_box e479 hc482 hbf477
          refine T0_nil ?_
          refine hK462 _ _ ?_
          refine WC_seqK fun K489 hK489 => ?_
          refine WC_seqK fun K490 hK490 => ?_
          refine WC_region ?_
          refine T0_q (v := (.int .i64 1)) rfl (yl_assign rfl) ?_
          refine T0_nil ?_
          refine hK490 _ _ ?_
          obtain ⟨o1052, hl1053, hn1054⟩ := bind_elim h
          refine WC_post (fun (ρ : Env) (wd1042 : World) => ∃ (x1048 : Int) (x1049 : Int), .inr (x1048, x1049) = o1052 ∧ ρ 4 = (.pointer (some ⟨b11, 0, none⟩)) ∧ ρ 12 = (.pointer (some ⟨b469, 0, none⟩)) ∧ Box wd1042 b11 [(.int .i64 0), (.int .i64 0)] 36 ∧ Box wd1042 b469 [(.int .i64 x1048), (.int .i64 x1049)] 36 ∧ Ext w wd1042) ?_ ?_
          · intro K1058 hK1058
            refine WC_block ?_
            refine WC_loopk (fun sv ρ wd1022 => ∃ (x1030 : Int) (x1038 : Int) (x1039 : Int), (x1030, x1038, x1039) = sv ∧ ρ 1 = v_p_String ∧ ρ 2 = (.pointer (some ⟨b3, 0, none⟩)) ∧ ρ 4 = (.pointer (some ⟨b11, 0, none⟩)) ∧ ρ 7 = (.pointer (some ⟨b22, 0, none⟩)) ∧ ρ 12 = (.pointer (some ⟨b469, 0, none⟩)) ∧ ρ 13 = (.int .i64 x1030) ∧ SlRd ((.pointer (some ⟨b469, 0, none⟩)) :: (.pointer (some ⟨b22, 0, none⟩)) :: (.pointer (some ⟨b11, 0, none⟩)) :: L) wd1022 v_p_String p_String ∧ Box wd1022 b11 [(.int .i64 0), (.int .i64 0)] 36 ∧ Box wd1022 b22 [(.int .i64 0), (.int .i64 0)] 36 ∧ Box wd1022 b3 [(.int .i64 p_Listappend.Lo), (.int .i64 p_Listappend.Hi)] 36 ∧ Box wd1022 b469 [(.int .i64 x1038), (.int .i64 x1039)] 36 ∧ Ext w wd1022) hl1053 ⟨1, el463.Place.Lo, el463.Place.Hi, rfl, hs369, hs370, hs371, hs372, rfl, rfl, h484, h485, h486, h487, hB483, e488⟩ ?_
            rintro _ ρ wd1022 ⟨x1030, x1038, x1039, rfl, hs1025, hs1026, hs1027, hs1028, hs1029, hs1031, h1024, hB1033, hB1035, hB1037, hB1041, e1023⟩ x1055 h hx1056 K1057 hK1057
            refine WC_seqK fun K1060 hK1060 => ?_
            refine WC_seqK fun K1061 hK1061 => ?_
            refine WC_region ?_
            refine T0_q (v := (.int .i64 x1030)) rfl (yl_move hs1031) ?_
            refine T0_q (v := v_p_String) rfl (yl_move hs1025) ?_
            refine T0_q (v := (.int .i64 (p_String.length : Int))) rfl (yl_lenR rfl Tryd.underlying99 h1024 rfl) ?_
            refine T0_q (v := (.bool (decide (x1030 < (p_String.length : Int))))) rfl (yl_lss rfl rfl) ?_
            refine T0_nil ?_
            refine hK1061 _ _ ?_
            refine WC_cond (b := (decide (x1030 < (p_String.length : Int)))) rfl (fun hb1062 => ?_) (fun hb1062 => ?_)
            · replace h := cond_t hb1062 h
              refine WC_skip ?_
              refine hK1060 _ _ ?_
              refine WC_seqK fun K1063 hK1063 => ?_
              refine WC_block ?_
              refine WC_seqK fun K1064 hK1064 => ?_
              refine WC_plan mixed (.p 2 (.p 3 (.p 4 (.p 5 (.p 7 (.p 8 (.p 9 (.p 10 (.p 11 (.q 0 (.q 1 (.q 6 (.q 12 (.p 13 (.f 14 (.e 15 (.b 16 .done)) 15 (.e 14 (.b 16 .done))))))))))))))))) (by kernel_rfl) ?_
              intro wd1065 he1066
              have e1067 := e1023.trans he1066
              refine TP_p (v := v_p_String) rfl rfl (fun w' => (yl_move hs1025)) ?_
              refine TP_p (v := (.int .i64 x1030)) rfl rfl (fun w' => (yl_move hs1031)) ?_
              obtain ⟨el1068, hel1069, h⟩ := bind_elim h
              obtain ⟨cs1070, hat1071, hrd1072⟩ := SlRd.at h1024 hel1069
              have hrd1072 : cs1070 = [(.int .i64 el1068.At), (.int .i64 el1068.Place.Lo), (.int .i64 el1068.Place.Hi)] := hrd1072
              subst hrd1072
              refine TP_p (v := (.pointer (some (elemAddr v_p_String (x1030 : Int).toNat 3)))) rfl rfl (fun w' => (yl_indexAddr Tryd.underlying99 sz110 h1024 hel1069 rfl rfl)) ?_
              refine TP_p (v := (.pointer (some (elemAddr v_p_String (x1030 : Int).toNat 3)))) rfl rfl (fun w' => (yl_fa 0 Tryd.underlying110 rfl rfl ⟨0, sz3⟩ rfl rfl)) ?_
              refine TP_p (v := v_p_String) rfl rfl (fun w' => (yl_move hs1025)) ?_
              refine TP_p (v := (.int .i64 x1030)) rfl rfl (fun w' => (yl_move hs1031)) ?_
              refine TP_p (v := (.int .i64 (w64 (x1030 - 1)))) rfl rfl (fun w' => (yl_sub rfl rfl)) ?_
              obtain ⟨el1074, hel1075, h⟩ := bind_elim h
              obtain ⟨cs1076, hat1077, hrd1078⟩ := SlRd.at h1024 hel1075
              have hrd1078 : cs1076 = [(.int .i64 el1074.At), (.int .i64 el1074.Place.Lo), (.int .i64 el1074.Place.Hi)] := hrd1078
              subst hrd1078
              refine TP_p (v := (.pointer (some (elemAddr v_p_String (w64 (x1030 - 1) : Int).toNat 3)))) rfl rfl (fun w' => (yl_indexAddr Tryd.underlying99 sz110 h1024 hel1075 rfl rfl)) ?_
              refine TP_p (v := (.pointer (some (elemAddr v_p_String (w64 (x1030 - 1) : Int).toNat 3)))) rfl rfl (fun w' => (yl_fa 0 Tryd.underlying110 rfl rfl ⟨0, sz3⟩ rfl rfl)) ?_
              refine TP_q (v := (.agg (List.toArray [(.int .i64 x1038), (.int .i64 x1039)]))) rfl rfl (fun w' hS => (yl_loadA (cs := [(.int .i64 x1038), (.int .i64 x1039)]) ag36 hs1029 (Box.at (hB1041.ext ((he1066).trans hS))))) ?_
              refine TP_q (v := (.agg (List.toArray [(.int .i64 p_Listappend.Lo), (.int .i64 p_Listappend.Hi)]))) rfl rfl (fun w' hS => (yl_loadA (cs := [(.int .i64 p_Listappend.Lo), (.int .i64 p_Listappend.Hi)]) ag36 hs1026 (Box.at (hB1037.ext ((he1066).trans hS))))) ?_
              refine TP_q (v := (.int .i64 el1068.At)) rfl rfl (fun w' hS => (yl_load sc3 rfl (hat1071.ext' ((he1066).trans hS)))) ?_
              refine TP_q (v := (.int .i64 el1074.At)) rfl rfl (fun w' hS => (yl_load sc3 rfl (hat1077.ext' ((he1066).trans hS)))) ?_
              refine TP_p (v := (.int .i64 (w64 (el1068.At - el1074.At)))) rfl rfl (fun w' => (yl_sub rfl rfl)) ?_
              refine TP_f rfl rfl rfl rfl ?_ ?_
              · skip
                obtain ⟨r1080, hr1081, h⟩ := bind_elim h
                refine  (eff_call Tryd.func63 nm63 rfl (ev3 rfl rfl rfl) (ref04_Moved_ok [] _ (LtL.nil _) [(.int .i64 x1038), (.int .i64 x1039)] (Range.mk x1038 x1039) rfl [(.int .i64 p_Listappend.Lo), (.int .i64 p_Listappend.Hi)] p_Listappend rfl (w64 (el1068.At - el1074.At)) r1080 hr1081) ?_)
                rintro _ wd1082 ⟨he1083, cs1084, rfl, hrd1085⟩
                have e1086 := he1066.trans he1083
                have e1087 := e1067.trans he1083
                have hrd1085 : cs1084 = [(.int .i64 r1080.Lo), (.int .i64 r1080.Hi)] := hrd1085
                subst hrd1085
                refine ⟨he1083, ?_⟩
                refine TP_e rfl rfl (eff_allocZ zi36 ?_)
                intro b1088 wd1089 hb1090 he1091 hB1092
                have hn1093 : b1088 ≠ b11 := box_ne (hB1033.ext e1086) hb1090
                have hn1094 : b1088 ≠ b22 := box_ne (hB1035.ext e1086) hb1090
                have hn1095 : b1088 ≠ b3 := box_ne (hB1037.ext e1086) hb1090
                have hn1096 : b1088 ≠ b469 := box_ne (hB1041.ext e1086) hb1090
                have hbf1097 := bfresh e1087 hb1090
                have h1098 := (h1024.ext e1086).step (add_box he1091 hb1090)
                have e1099 := e1086.trans he1091
                have e1100 := he1083.trans he1091
                have e1101 := e1087.trans he1091
                refine ⟨e1100, ?_⟩
                refine TP_b rfl rfl (eff_storeC (vs := [(.int .i64 r1080.Lo), (.int .i64 r1080.Hi)]) (cs' := [(.int .i64 r1080.Lo), (.int .i64 r1080.Hi)]) sz36 rfl rfl rfl rfl hB1092 rfl (oc_cons rfl (oc_cons rfl oc_nil)) rfl ?_)
                intro wd1103 hc1104 hB1105
                have h1106 := h1098.step (Stepp.chg_mem hc1104 mem0)
                have h1107 := (hB1033.ext e1099).chg hc1104 (avoidb hn1093)
                have h1108 := (hB1035.ext e1099).chg hc1104 (avoidb hn1094)
                have h1109 := (hB1037.ext e1099).chg hc1104 (avoidb hn1095)
                have h1110 := (hB1041.ext e1099).chg hc1104 (avoidb hn1096)
                have e1111 := chg_box e1101 hc1104 hbf1097
                refine TP_done ?_
                refine hK1064 _ _ ?_
                refine WC_seqK fun K1112 hK1112 => ?_
                refine WC_plan mixed (.p 0 (.p 2 (.p 3 (.p 4 (.p 5 (.p 6 (.p 9 (.p 11 (.p 12 (.p 13 (.p 14 (.p 15 (.q 1 (.q 7 (.p 8 (.q 10 (.q 16 (.p 17 (.p 18 (.b 19 .done)))))))))))))))))))) (by kernel_rfl) ?_
                intro wd1113 he1114
                have e1115 := e1111.trans he1114
                refine TP_p (v := (.pointer (some ⟨b1088, 0, none⟩))) rfl rfl (fun w' => (yl_fa 0 Tryd.underlying36 rfl rfl ⟨0, sz3⟩ rfl rfl)) ?_
                refine TP_p (v := v_p_String) rfl rfl (fun w' => (yl_move hs1025)) ?_
                refine TP_p (v := (.int .i64 x1030)) rfl rfl (fun w' => (yl_move hs1031)) ?_
                obtain ⟨el1116, hel1117, h⟩ := bind_elim h
                obtain ⟨cs1118, hat1119, hrd1120⟩ := SlRd.at h1106 hel1117
                have hrd1120 : cs1118 = [(.int .i64 el1116.At), (.int .i64 el1116.Place.Lo), (.int .i64 el1116.Place.Hi)] := hrd1120
                subst hrd1120
                refine TP_p (v := (.pointer (some (elemAddr v_p_String (x1030 : Int).toNat 3)))) rfl rfl (fun w' => (yl_indexAddr Tryd.underlying99 sz110 h1106 hel1117 rfl rfl)) ?_
                refine TP_p (v := (.pointer (some (Addr.add (elemAddr v_p_String (x1030 : Int).toNat 3) 1)))) rfl rfl (fun w' => (yl_fa 1 Tryd.underlying110 rfl rfl ⟨1, sz36⟩ rfl rfl)) ?_
                refine TP_p (v := (.pointer (some (Addr.add (elemAddr v_p_String (x1030 : Int).toNat 3) 1)))) rfl rfl (fun w' => (yl_fa 0 Tryd.underlying36 rfl rfl ⟨0, sz3⟩ rfl rfl)) ?_
                refine TP_p (v := (.pointer (some ⟨b1088, 1, none⟩))) rfl rfl (fun w' => (yl_fa 1 Tryd.underlying36 rfl rfl ⟨0, sz3⟩ rfl rfl)) ?_
                refine TP_p (v := v_p_String) rfl rfl (fun w' => (yl_move hs1025)) ?_
                refine TP_p (v := (.int .i64 x1030)) rfl rfl (fun w' => (yl_move hs1031)) ?_
                obtain ⟨el1122, hel1123, h⟩ := bind_elim h
                obtain ⟨cs1124, hat1125, hrd1126⟩ := SlRd.at h1106 hel1123
                have hrd1126 : cs1124 = [(.int .i64 el1122.At), (.int .i64 el1122.Place.Lo), (.int .i64 el1122.Place.Hi)] := hrd1126
                subst hrd1126
                refine TP_p (v := (.pointer (some (elemAddr v_p_String (x1030 : Int).toNat 3)))) rfl rfl (fun w' => (yl_indexAddr Tryd.underlying99 sz110 h1106 hel1123 rfl rfl)) ?_
                refine TP_p (v := (.pointer (some (Addr.add (elemAddr v_p_String (x1030 : Int).toNat 3) 1)))) rfl rfl (fun w' => (yl_fa 1 Tryd.underlying110 rfl rfl ⟨1, sz36⟩ rfl rfl)) ?_
                refine TP_p (v := (.pointer (some (Addr.add (elemAddr v_p_String (x1030 : Int).toNat 3) 2)))) rfl rfl (fun w' => (yl_fa 1 Tryd.underlying36 rfl rfl ⟨0, sz3⟩ rfl rfl)) ?_
                refine TP_q (v := (.int .i64 r1080.Lo)) rfl rfl (fun w' hS => (yl_load sc3 rfl (Box.at (hB1105.ext ((he1114).trans hS))))) ?_
                refine TP_q (v := (.int .i64 el1116.Place.Lo)) rfl rfl (fun w' hS => (yl_load sc3 rfl (At.drop (hat1119.ext' ((he1114).trans hS)) 1))) ?_
                refine TP_p (v := (.int .i64 (if r1080.Lo < el1116.Place.Lo then el1116.Place.Lo else r1080.Lo))) rfl rfl (fun w' => (yl_max rfl rfl)) ?_
                refine TP_q (v := (.int .i64 r1080.Hi)) rfl rfl (fun w' hS => (yl_load sc3 rfl (At.drop (Box.at (hB1105.ext ((he1114).trans hS))) 1))) ?_
                refine TP_q (v := (.int .i64 el1122.Place.Hi)) rfl rfl (fun w' hS => (yl_load sc3 rfl (At.drop (hat1125.ext' ((he1114).trans hS)) 2))) ?_
                refine TP_p (v := (.int .i64 (if el1122.Place.Hi < r1080.Hi then el1122.Place.Hi else r1080.Hi))) rfl rfl (fun w' => (yl_min rfl rfl)) ?_
                refine TP_p (v := (.agg (List.toArray [(.int .i64 (if r1080.Lo < el1116.Place.Lo then el1116.Place.Lo else r1080.Lo)), (.int .i64 (if el1122.Place.Hi < r1080.Hi then el1122.Place.Hi else r1080.Hi))]))) rfl rfl (fun w' => (yl_buildC (cells := [(.int .i64 (if r1080.Lo < el1116.Place.Lo then el1116.Place.Lo else r1080.Lo)), (.int .i64 (if el1122.Place.Hi < r1080.Hi then el1122.Place.Hi else r1080.Hi))]) bi36 (pc_cons rfl rfl (pc_cons rfl rfl pc_nil)) rfl)) ?_
                refine TP_b rfl rfl (eff_storeC (vs := [(.int .i64 (if r1080.Lo < el1116.Place.Lo then el1116.Place.Lo else r1080.Lo)), (.int .i64 (if el1122.Place.Hi < r1080.Hi then el1122.Place.Hi else r1080.Hi))]) (cs' := [(.int .i64 (if r1080.Lo < el1116.Place.Lo then el1116.Place.Lo else r1080.Lo)), (.int .i64 (if el1122.Place.Hi < r1080.Hi then el1122.Place.Hi else r1080.Hi))]) sz36 rfl rfl hs1029 rfl (h1110.ext he1114) rfl (oc_cons rfl (oc_cons rfl oc_nil)) rfl ?_)
                intro wd1128 hc1129 hB1130
                have h1131 := (h1106.ext he1114).step (Stepp.chg_mem hc1129 (memS mem0))
                have h1132 := (h1107.ext he1114).chg hc1129 (avoidb hn474)
                have h1133 := (h1108.ext he1114).chg hc1129 (avoidb hn475)
                have h1134 := (h1109.ext he1114).chg hc1129 (avoidb hn476)
                have h1135 := (hB1105.ext he1114).chg hc1129 (avoidb hn1096.symm)
                have e1136 := chg_box e1115 hc1129 hbf477
                refine TP_done ?_
                refine hK1112 _ _ ?_
                refine WC_seqK fun K1137 hK1137 => ?_
                refine WC_region ?_
                refine T0_q (v := (.pointer (some ⟨b469, 0, none⟩))) rfl (yl_fa 0 Tryd.underlying36 rfl rfl ⟨0, sz3⟩ hs1029 rfl) ?_
                refine T0_q (v := (.int .i64 (if r1080.Lo < el1116.Place.Lo then el1116.Place.Lo else r1080.Lo))) rfl (yl_load sc3 rfl (Box.at hB1130)) ?_
                refine T0_q (v := (.pointer (some ⟨b469, 1, none⟩))) rfl (yl_fa 1 Tryd.underlying36 rfl rfl ⟨0, sz3⟩ hs1029 rfl) ?_
                refine T0_q (v := (.int .i64 (if el1122.Place.Hi < r1080.Hi then el1122.Place.Hi else r1080.Hi))) rfl (yl_load sc3 rfl (At.drop (Box.at hB1130) 1)) ?_
                refine T0_q (v := (.bool (decide ((if el1122.Place.Hi < r1080.Hi then el1122.Place.Hi else r1080.Hi) < (if r1080.Lo < el1116.Place.Lo then el1116.Place.Lo else r1080.Lo))))) rfl (yl_gtr rfl rfl) ?_
                refine T0_nil ?_
                refine hK1137 _ _ ?_
                refine WC_cond (b := (decide ((if el1122.Place.Hi < r1080.Hi then el1122.Place.Hi else r1080.Hi) < (if r1080.Lo < el1116.Place.Lo then el1116.Place.Lo else r1080.Lo)))) rfl (fun hb1138 => ?_) (fun hb1138 => ?_)
                · replace h := cond_t hb1138 h
                  refine WC_seqK fun K1139 hK1139 => ?_
                  refine WC_region ?_
                  refine T0_q (v := (.agg (List.toArray [(.int .i64 0), (.int .i64 0)]))) rfl (yl_loadA (cs := [(.int .i64 0), (.int .i64 0)]) ag36 hs1028 (Box.at h1133)) ?_
                  refine T0_q (v := (.int .i64 x1030)) rfl (yl_move hs1031) ?_
                  refine T0_e rfl (eff_storeC (vs := [(.int .i64 0), (.int .i64 0)]) (cs' := [(.int .i64 0), (.int .i64 0)]) sz36 rfl rfl hs1027 rfl h1132 rfl (oc_cons rfl (oc_cons rfl oc_nil)) rfl ?_)
                  intro wd1140 hc1141 hB1142
                  have h1143 := h1131.step (Stepp.chg_mem hc1141 (memS (memS (memS mem0))))
                  have h1144 := h1133.chg hc1141 (avoidb hn28.symm)
                  have h1145 := h1134.chg hc1141 (avoidb hn16)
                  have h1146 := hB1130.chg hc1141 (avoidb hn474.symm)
                  have h1147 := h1135.chg hc1141 (avoidb hn1093.symm)
                  have e1148 := chg_box e1136 hc1141 hbf17
                  refine T0_q (v := (.int .i64 x1030)) rfl (yl_assign rfl) ?_
                  refine T0_q (v := (.int .i64 13)) rfl (yl_assign rfl) ?_
                  refine T0_nil ?_
                  refine hK1139 _ _ ?_
                  refine WC_ret ?_
                  replace h := some_out h
                  subst h
                  have ho := hx1056 _ rfl
                  subst ho
                  replace h := jn0_inl hn1054
                  replace h := some_out h
                  subst h
                  exact ⟨[(.agg (List.toArray [(.int .i64 0), (.int .i64 0)])), (.int .i64 x1030), (.int .i64 13)], ⟨⟨_, hs1027, run_loadVarA (cs := [(.int .i64 0), (.int .i64 0)]) ag36 (Box.at hB1142)⟩, rfl, rfl, trivial⟩, e1148, [(.int .i64 0), (.int .i64 0)], rfl, rfl⟩
                · replace h := cond_f hb1138 h
                  refine WC_skip ?_
                  refine hK1063 _ _ ?_
                  refine WC_region ?_
                  refine T0_q (v := (.int .i64 x1030)) rfl (yl_move hs1031) ?_
                  refine T0_q (v := (.int .i64 (w64 (x1030 + 1)))) rfl (yl_add rfl rfl) ?_
                  refine T0_q (v := (.int .i64 (w64 (x1030 + 1)))) rfl (yl_assign rfl) ?_
                  refine T0_nil ?_
                  replace h := some_out h
                  subst h
                  refine hK1057 _ _ _ rfl ?_
                  exact ⟨w64 (x1030 + 1), (if r1080.Lo < el1116.Place.Lo then el1116.Place.Lo else r1080.Lo), (if el1122.Place.Hi < r1080.Hi then el1122.Place.Hi else r1080.Hi), rfl, hs1025, hs1026, hs1027, hs1028, hs1029, rfl, (h1131.sub (sub_cons (memS mem0) (sub_cons (memS (memS mem0)) (sub_cons (memS (memS (memS mem0))) (sub_skip (sub_skip (sub_skip (sub_skip (sub_refl _))))))))), h1132, h1133, h1134, hB1130, e1136⟩
              · skip
                refine  (eff_allocZ zi36 ?_)
                intro b1149 wd1150 hb1151 he1152 hB1153
                have hn1154 : b1149 ≠ b11 := box_ne (hB1033.ext he1066) hb1151
                have hn1155 : b1149 ≠ b22 := box_ne (hB1035.ext he1066) hb1151
                have hn1156 : b1149 ≠ b3 := box_ne (hB1037.ext he1066) hb1151
                have hn1157 : b1149 ≠ b469 := box_ne (hB1041.ext he1066) hb1151
                have hbf1158 := bfresh e1067 hb1151
                have h1159 := (h1024.ext he1066).step (add_box he1152 hb1151)
                have e1160 := he1066.trans he1152
                have e1161 := e1067.trans he1152
                refine ⟨he1152, ?_⟩
                obtain ⟨r1163, hr1164, h⟩ := bind_elim h
                refine TP_e rfl rfl (eff_call Tryd.func63 nm63 rfl (ev3 rfl rfl rfl) (ref04_Moved_ok [] _ (LtL.nil _) [(.int .i64 x1038), (.int .i64 x1039)] (Range.mk x1038 x1039) rfl [(.int .i64 p_Listappend.Lo), (.int .i64 p_Listappend.Hi)] p_Listappend rfl (w64 (el1068.At - el1074.At)) r1163 hr1164) ?_)
                rintro _ wd1165 ⟨he1166, cs1167, rfl, hrd1168⟩
                have e1169 := e1160.trans he1166
                have e1170 := he1152.trans he1166
                have e1171 := e1161.trans he1166
                have hrd1168 : cs1167 = [(.int .i64 r1163.Lo), (.int .i64 r1163.Hi)] := hrd1168
                subst hrd1168
                refine ⟨e1170, ?_⟩
                refine TP_b rfl rfl (eff_storeC (vs := [(.int .i64 r1163.Lo), (.int .i64 r1163.Hi)]) (cs' := [(.int .i64 r1163.Lo), (.int .i64 r1163.Hi)]) sz36 rfl rfl rfl rfl (hB1153.ext he1166) rfl (oc_cons rfl (oc_cons rfl oc_nil)) rfl ?_)
                intro wd1172 hc1173 hB1174
                have h1175 := (h1159.ext he1166).step (Stepp.chg_mem hc1173 mem0)
                have h1176 := (hB1033.ext e1169).chg hc1173 (avoidb hn1154)
                have h1177 := (hB1035.ext e1169).chg hc1173 (avoidb hn1155)
                have h1178 := (hB1037.ext e1169).chg hc1173 (avoidb hn1156)
                have h1179 := (hB1041.ext e1169).chg hc1173 (avoidb hn1157)
                have e1180 := chg_box e1171 hc1173 hbf1158
                refine TP_done ?_
                refine hK1064 _ _ ?_
                refine WC_seqK fun K1181 hK1181 => ?_
                refine WC_plan mixed (.p 0 (.p 2 (.p 3 (.p 4 (.p 5 (.p 6 (.p 9 (.p 11 (.p 12 (.p 13 (.p 14 (.p 15 (.q 1 (.q 7 (.p 8 (.q 10 (.q 16 (.p 17 (.p 18 (.b 19 .done)))))))))))))))))))) (by kernel_rfl) ?_
                intro wd1182 he1183
                have e1184 := e1180.trans he1183
                refine TP_p (v := (.pointer (some ⟨b1149, 0, none⟩))) rfl rfl (fun w' => (yl_fa 0 Tryd.underlying36 rfl rfl ⟨0, sz3⟩ rfl rfl)) ?_
                refine TP_p (v := v_p_String) rfl rfl (fun w' => (yl_move hs1025)) ?_
                refine TP_p (v := (.int .i64 x1030)) rfl rfl (fun w' => (yl_move hs1031)) ?_
                obtain ⟨el1185, hel1186, h⟩ := bind_elim h
                obtain ⟨cs1187, hat1188, hrd1189⟩ := SlRd.at h1175 hel1186
                have hrd1189 : cs1187 = [(.int .i64 el1185.At), (.int .i64 el1185.Place.Lo), (.int .i64 el1185.Place.Hi)] := hrd1189
                subst hrd1189
                refine TP_p (v := (.pointer (some (elemAddr v_p_String (x1030 : Int).toNat 3)))) rfl rfl (fun w' => (yl_indexAddr Tryd.underlying99 sz110 h1175 hel1186 rfl rfl)) ?_
                refine TP_p (v := (.pointer (some (Addr.add (elemAddr v_p_String (x1030 : Int).toNat 3) 1)))) rfl rfl (fun w' => (yl_fa 1 Tryd.underlying110 rfl rfl ⟨1, sz36⟩ rfl rfl)) ?_
                refine TP_p (v := (.pointer (some (Addr.add (elemAddr v_p_String (x1030 : Int).toNat 3) 1)))) rfl rfl (fun w' => (yl_fa 0 Tryd.underlying36 rfl rfl ⟨0, sz3⟩ rfl rfl)) ?_
                refine TP_p (v := (.pointer (some ⟨b1149, 1, none⟩))) rfl rfl (fun w' => (yl_fa 1 Tryd.underlying36 rfl rfl ⟨0, sz3⟩ rfl rfl)) ?_
                refine TP_p (v := v_p_String) rfl rfl (fun w' => (yl_move hs1025)) ?_
                refine TP_p (v := (.int .i64 x1030)) rfl rfl (fun w' => (yl_move hs1031)) ?_
                obtain ⟨el1191, hel1192, h⟩ := bind_elim h
                obtain ⟨cs1193, hat1194, hrd1195⟩ := SlRd.at h1175 hel1192
                have hrd1195 : cs1193 = [(.int .i64 el1191.At), (.int .i64 el1191.Place.Lo), (.int .i64 el1191.Place.Hi)] := hrd1195
                subst hrd1195
                refine TP_p (v := (.pointer (some (elemAddr v_p_String (x1030 : Int).toNat 3)))) rfl rfl (fun w' => (yl_indexAddr Tryd.underlying99 sz110 h1175 hel1192 rfl rfl)) ?_
                refine TP_p (v := (.pointer (some (Addr.add (elemAddr v_p_String (x1030 : Int).toNat 3) 1)))) rfl rfl (fun w' => (yl_fa 1 Tryd.underlying110 rfl rfl ⟨1, sz36⟩ rfl rfl)) ?_
                refine TP_p (v := (.pointer (some (Addr.add (elemAddr v_p_String (x1030 : Int).toNat 3) 2)))) rfl rfl (fun w' => (yl_fa 1 Tryd.underlying36 rfl rfl ⟨0, sz3⟩ rfl rfl)) ?_
                refine TP_q (v := (.int .i64 r1163.Lo)) rfl rfl (fun w' hS => (yl_load sc3 rfl (Box.at (hB1174.ext ((he1183).trans hS))))) ?_
                refine TP_q (v := (.int .i64 el1185.Place.Lo)) rfl rfl (fun w' hS => (yl_load sc3 rfl (At.drop (hat1188.ext' ((he1183).trans hS)) 1))) ?_
                refine TP_p (v := (.int .i64 (if r1163.Lo < el1185.Place.Lo then el1185.Place.Lo else r1163.Lo))) rfl rfl (fun w' => (yl_max rfl rfl)) ?_
                refine TP_q (v := (.int .i64 r1163.Hi)) rfl rfl (fun w' hS => (yl_load sc3 rfl (At.drop (Box.at (hB1174.ext ((he1183).trans hS))) 1))) ?_
                refine TP_q (v := (.int .i64 el1191.Place.Hi)) rfl rfl (fun w' hS => (yl_load sc3 rfl (At.drop (hat1194.ext' ((he1183).trans hS)) 2))) ?_
                refine TP_p (v := (.int .i64 (if el1191.Place.Hi < r1163.Hi then el1191.Place.Hi else r1163.Hi))) rfl rfl (fun w' => (yl_min rfl rfl)) ?_
                refine TP_p (v := (.agg (List.toArray [(.int .i64 (if r1163.Lo < el1185.Place.Lo then el1185.Place.Lo else r1163.Lo)), (.int .i64 (if el1191.Place.Hi < r1163.Hi then el1191.Place.Hi else r1163.Hi))]))) rfl rfl (fun w' => (yl_buildC (cells := [(.int .i64 (if r1163.Lo < el1185.Place.Lo then el1185.Place.Lo else r1163.Lo)), (.int .i64 (if el1191.Place.Hi < r1163.Hi then el1191.Place.Hi else r1163.Hi))]) bi36 (pc_cons rfl rfl (pc_cons rfl rfl pc_nil)) rfl)) ?_
                refine TP_b rfl rfl (eff_storeC (vs := [(.int .i64 (if r1163.Lo < el1185.Place.Lo then el1185.Place.Lo else r1163.Lo)), (.int .i64 (if el1191.Place.Hi < r1163.Hi then el1191.Place.Hi else r1163.Hi))]) (cs' := [(.int .i64 (if r1163.Lo < el1185.Place.Lo then el1185.Place.Lo else r1163.Lo)), (.int .i64 (if el1191.Place.Hi < r1163.Hi then el1191.Place.Hi else r1163.Hi))]) sz36 rfl rfl hs1029 rfl (h1179.ext he1183) rfl (oc_cons rfl (oc_cons rfl oc_nil)) rfl ?_)
                intro wd1197 hc1198 hB1199
                have h1200 := (h1175.ext he1183).step (Stepp.chg_mem hc1198 (memS mem0))
                have h1201 := (h1176.ext he1183).chg hc1198 (avoidb hn474)
                have h1202 := (h1177.ext he1183).chg hc1198 (avoidb hn475)
                have h1203 := (h1178.ext he1183).chg hc1198 (avoidb hn476)
                have h1204 := (hB1174.ext he1183).chg hc1198 (avoidb hn1157.symm)
                have e1205 := chg_box e1184 hc1198 hbf477
                refine TP_done ?_
                refine hK1181 _ _ ?_
                refine WC_seqK fun K1206 hK1206 => ?_
                refine WC_region ?_
                refine T0_q (v := (.pointer (some ⟨b469, 0, none⟩))) rfl (yl_fa 0 Tryd.underlying36 rfl rfl ⟨0, sz3⟩ hs1029 rfl) ?_
                refine T0_q (v := (.int .i64 (if r1163.Lo < el1185.Place.Lo then el1185.Place.Lo else r1163.Lo))) rfl (yl_load sc3 rfl (Box.at hB1199)) ?_
                refine T0_q (v := (.pointer (some ⟨b469, 1, none⟩))) rfl (yl_fa 1 Tryd.underlying36 rfl rfl ⟨0, sz3⟩ hs1029 rfl) ?_
                refine T0_q (v := (.int .i64 (if el1191.Place.Hi < r1163.Hi then el1191.Place.Hi else r1163.Hi))) rfl (yl_load sc3 rfl (At.drop (Box.at hB1199) 1)) ?_
                refine T0_q (v := (.bool (decide ((if el1191.Place.Hi < r1163.Hi then el1191.Place.Hi else r1163.Hi) < (if r1163.Lo < el1185.Place.Lo then el1185.Place.Lo else r1163.Lo))))) rfl (yl_gtr rfl rfl) ?_
                refine T0_nil ?_
                refine hK1206 _ _ ?_
                refine WC_cond (b := (decide ((if el1191.Place.Hi < r1163.Hi then el1191.Place.Hi else r1163.Hi) < (if r1163.Lo < el1185.Place.Lo then el1185.Place.Lo else r1163.Lo)))) rfl (fun hb1207 => ?_) (fun hb1207 => ?_)
                · replace h := cond_t hb1207 h
                  refine WC_seqK fun K1208 hK1208 => ?_
                  refine WC_region ?_
                  refine T0_q (v := (.agg (List.toArray [(.int .i64 0), (.int .i64 0)]))) rfl (yl_loadA (cs := [(.int .i64 0), (.int .i64 0)]) ag36 hs1028 (Box.at h1202)) ?_
                  refine T0_q (v := (.int .i64 x1030)) rfl (yl_move hs1031) ?_
                  refine T0_e rfl (eff_storeC (vs := [(.int .i64 0), (.int .i64 0)]) (cs' := [(.int .i64 0), (.int .i64 0)]) sz36 rfl rfl hs1027 rfl h1201 rfl (oc_cons rfl (oc_cons rfl oc_nil)) rfl ?_)
                  intro wd1209 hc1210 hB1211
                  have h1212 := h1200.step (Stepp.chg_mem hc1210 (memS (memS (memS mem0))))
                  have h1213 := h1202.chg hc1210 (avoidb hn28.symm)
                  have h1214 := h1203.chg hc1210 (avoidb hn16)
                  have h1215 := hB1199.chg hc1210 (avoidb hn474.symm)
                  have h1216 := h1204.chg hc1210 (avoidb hn1154.symm)
                  have e1217 := chg_box e1205 hc1210 hbf17
                  refine T0_q (v := (.int .i64 x1030)) rfl (yl_assign rfl) ?_
                  refine T0_q (v := (.int .i64 13)) rfl (yl_assign rfl) ?_
                  refine T0_nil ?_
                  refine hK1208 _ _ ?_
                  refine WC_ret ?_
                  replace h := some_out h
                  subst h
                  have ho := hx1056 _ rfl
                  subst ho
                  replace h := jn0_inl hn1054
                  replace h := some_out h
                  subst h
                  exact ⟨[(.agg (List.toArray [(.int .i64 0), (.int .i64 0)])), (.int .i64 x1030), (.int .i64 13)], ⟨⟨_, hs1027, run_loadVarA (cs := [(.int .i64 0), (.int .i64 0)]) ag36 (Box.at hB1211)⟩, rfl, rfl, trivial⟩, e1217, [(.int .i64 0), (.int .i64 0)], rfl, rfl⟩
                · replace h := cond_f hb1207 h
                  refine WC_skip ?_
                  refine hK1063 _ _ ?_
                  refine WC_region ?_
                  refine T0_q (v := (.int .i64 x1030)) rfl (yl_move hs1031) ?_
                  refine T0_q (v := (.int .i64 (w64 (x1030 + 1)))) rfl (yl_add rfl rfl) ?_
                  refine T0_q (v := (.int .i64 (w64 (x1030 + 1)))) rfl (yl_assign rfl) ?_
                  refine T0_nil ?_
                  replace h := some_out h
                  subst h
                  refine hK1057 _ _ _ rfl ?_
                  exact ⟨w64 (x1030 + 1), (if r1163.Lo < el1185.Place.Lo then el1185.Place.Lo else r1163.Lo), (if el1191.Place.Hi < r1163.Hi then el1191.Place.Hi else r1163.Hi), rfl, hs1025, hs1026, hs1027, hs1028, hs1029, rfl, (h1200.sub (sub_cons (memS mem0) (sub_cons (memS (memS mem0)) (sub_cons (memS (memS (memS mem0))) (sub_skip (sub_skip (sub_skip (sub_skip (sub_refl _))))))))), h1201, h1202, h1203, hB1199, e1205⟩
            · replace h := cond_f hb1062 h
              refine WC_exit ?_
              replace h := some_out h
              subst h
              have ho := hx1056 _ rfl
              subst ho
              refine hK1058 _ _ ?_
              exact ⟨x1038, x1039, rfl, hs1027, hs1029, hB1033, hB1041, e1023⟩
          · rintro ρ wd1042 ⟨x1048, x1049, rfl, hs1044, hs1045, hB1047, hB1051, e1043⟩
            replace h := jn0_inr hn1054
            refine hK489 _ _ ?_
            refine WC_seqK fun K1218 hK1218 => ?_
            refine WC_region ?_
            refine T0_q (v := (.agg (List.toArray [(.int .i64 x1048), (.int .i64 x1049)]))) rfl (yl_loadA (cs := [(.int .i64 x1048), (.int .i64 x1049)]) ag36 hs1045 (Box.at hB1051)) ?_
            refine T0_e rfl (eff_storeC (vs := [(.int .i64 x1048), (.int .i64 x1049)]) (cs' := [(.int .i64 x1048), (.int .i64 x1049)]) sz36 rfl rfl hs1044 rfl hB1047 rfl (oc_cons rfl (oc_cons rfl oc_nil)) rfl ?_)
            intro wd1219 hc1220 hB1221
            have h1222 := hB1051.chg hc1220 (avoidb hn474.symm)
            have e1223 := chg_box e1043 hc1220 hbf17
            refine T0_q (v := (.int .i64 0)) rfl (yl_assign rfl) ?_
            refine T0_q (v := (.int .i64 0)) rfl (yl_assign rfl) ?_
            refine T0_nil ?_
            refine hK1218 _ _ ?_
            refine WC_ret ?_
            replace h := some_out h
            subst h
            exact ⟨[(.agg (List.toArray [(.int .i64 x1048), (.int .i64 x1049)])), (.int .i64 0), (.int .i64 0)], ⟨⟨_, hs1044, run_loadVarA (cs := [(.int .i64 x1048), (.int .i64 x1049)]) ag36 (Box.at hB1221)⟩, rfl, rfl, trivial⟩, e1223, [(.int .i64 x1048), (.int .i64 x1049)], rfl, rfl⟩

noncomputable def locate_speedErr_spec (p_r : Range) : Option Int :=
  (Option.bind (locate_speedErr_1_spec p_r.Lo) fun r15 =>
  (Option.bind (bif r15 then locate_speedErr_1_spec p_r.Hi else some default) fun r21 =>
  (Option.bind (locate_unless_spec (r15 && r21) 2) fun r28 =>
  (Option.bind (locate_unless_spec (decide (p_r.Lo ≤ p_r.Hi)) 9) fun r35 =>
  (Option.bind (locate_first_spec ([r28, r35] : List Int)) fun r50 =>
  some r50
  )
  )
  )
  )
  )
theorem locate_speedErr_ok (L : List Value) (w : World) (hL : LtL L w) (cs_p_r : List Value) (p_r : Range) (h_p_r : Rep.rd L w cs_p_r p_r) (r : Int) (h : locate_speedErr_spec p_r = some r) :
    CallsTo Tryd.prog 108 [(.agg cs_p_r.toArray)] w (fun v w' => Ext w w' ∧ (.int .i64 r) = v) := by
  have e0 : Ext w w := Chg.refl _ _
  have h_p_r : cs_p_r = [(.int .i64 p_r.Lo), (.int .i64 p_r.Hi)] := h_p_r
  subst h_p_r
  refine callsTo_of_WC (n := 23) (rs := [.tmp 2]) Tryd.func108 rfl rfl rfl rfl rfl ?_
  refine WC_seqK fun K1 hK1 => ?_
  refine WC_region ?_
  refine T0_e rfl (eff_boxC (cs := [(.int .i64 p_r.Lo), (.int .i64 p_r.Hi)]) rfl rfl ?_)
  intro b2 wd3 hb4 he5 hB6
  have hbf7 := bfresh e0 hb4
  have e8 := e0.trans he5
  refine T0_q (v := (.int .i64 0)) rfl (yl_assign rfl) ?_
  refine T0_nil ?_
  refine hK1 _ _ ?_
  refine WC_seqK fun K10 hK10 => ?_
  refine WC_region ?_
  refine T0_q (v := (.func (.func 128) #[] #[])) rfl (yl_assign rfl) ?_
  refine T0_nil ?_
  refine hK10 _ _ ?_
  refine WC_seqK fun K11 hK11 => ?_
  refine WC_plan mixed (.p 0 (.p 1 (.p 11 (.p 13 (.q 2 (.q 12 (.q 14 (.p 15 (.e 3 (.p 4 (.p 5 (.p 6 (.q 7 (.e 8 (.p 9 (.e 10 (.e 16 (.e 17 (.e 18 (.p 19 .done)))))))))))))))))))) (by kernel_rfl) ?_
  intro wd12 he13
  have e14 := e8.trans he13
  refine TP_p (v := (.func (.func 128) #[] #[])) rfl rfl (fun w' => (yl_move rfl)) ?_
  refine TP_p (v := (.pointer (some ⟨b2, 0, none⟩))) rfl rfl (fun w' => (yl_fa 0 Tryd.underlying36 rfl rfl ⟨0, sz3⟩ rfl rfl)) ?_
  refine TP_p (v := (.pointer (some ⟨b2, 0, none⟩))) rfl rfl (fun w' => (yl_fa 0 Tryd.underlying36 rfl rfl ⟨0, sz3⟩ rfl rfl)) ?_
  refine TP_p (v := (.pointer (some ⟨b2, 1, none⟩))) rfl rfl (fun w' => (yl_fa 1 Tryd.underlying36 rfl rfl ⟨0, sz3⟩ rfl rfl)) ?_
  refine TP_q (v := (.int .i64 p_r.Lo)) rfl rfl (fun w' hS => (yl_load sc3 rfl (Box.at (hB6.ext ((he13).trans hS))))) ?_
  refine TP_q (v := (.int .i64 p_r.Lo)) rfl rfl (fun w' hS => (yl_load sc3 rfl (Box.at (hB6.ext ((he13).trans hS))))) ?_
  refine TP_q (v := (.int .i64 p_r.Hi)) rfl rfl (fun w' hS => (yl_load sc3 rfl (At.drop (Box.at (hB6.ext ((he13).trans hS))) 1))) ?_
  refine TP_p (v := (.bool (decide (p_r.Lo ≤ p_r.Hi)))) rfl rfl (fun w' => (yl_leq rfl rfl)) ?_
  obtain ⟨r15, hr16, h⟩ := bind_elim h
  refine TP_e rfl rfl (eff_callV rfl Tryd.func128 nm128 rfl (ev1 rfl) (locate_speedErr_1_ok [] _ (LtL.nil _) p_r.Lo r15 hr16) ?_)
  rintro _ wd17 ⟨he18, rfl⟩
  have e19 := he13.trans he18
  have e20 := e14.trans he18
  refine ⟨he18, ?_⟩
  refine TP_p (v := (.bool r15)) rfl rfl (fun w' => (yl_move rfl)) ?_
  refine TP_gp (v := (.func (.func 128) #[] #[])) r15 rfl (wanted_t rfl rfl rfl rfl) (fun w' hg => (yl_move rfl)) ?_
  refine TP_gp (v := (.pointer (some ⟨b2, 1, none⟩))) r15 rfl (wanted_t rfl rfl rfl rfl) (fun w' hg => (yl_fa 1 Tryd.underlying36 rfl rfl ⟨0, sz3⟩ rfl rfl)) ?_
  refine TP_gq (v := (.int .i64 p_r.Hi)) r15 rfl (wanted_t rfl rfl rfl rfl) (fun w' hS hg => (yl_load sc3 (gd_true hg) (At.drop (Box.at (hB6.ext ((he13).trans hS))) 1))) ?_
  obtain ⟨r21, hr22, h⟩ := bind_elim h
  refine TP_ges r15 (.bool r21) rfl (wanted_t rfl rfl rfl rfl) (fun hg => eff_callV (gd_true hg) Tryd.func128 nm128 rfl (ev1 (gd_true hg)) (locate_speedErr_1_ok [] _ (LtL.nil _) p_r.Hi r21 (cond_t hg hr22)) (by rintro _ wd23 ⟨he24, rfl⟩; exact ⟨rfl, he24⟩)) ?_
  intro wd23 he24
  have e25 := e19.trans he24
  have e26 := he18.trans he24
  have e27 := e20.trans he24
  refine ⟨e26, ?_⟩
  refine TP_p (v := (.bool (r15 && r21))) rfl rfl (fun w' => (yl_and rfl (fun hb => (gd_true hb)) rfl)) ?_
  obtain ⟨r28, hr29, h⟩ := bind_elim h
  refine TP_e rfl rfl (eff_call Tryd.func85 nm85 rfl (ev2 rfl rfl) (locate_unless_ok [] _ (LtL.nil _) (r15 && r21) 2 r28 hr29) ?_)
  rintro _ wd30 ⟨he31, rfl⟩
  have e32 := e25.trans he31
  have e33 := e26.trans he31
  have e34 := e27.trans he31
  refine ⟨e33, ?_⟩
  obtain ⟨r35, hr36, h⟩ := bind_elim h
  refine TP_e rfl rfl (eff_call Tryd.func85 nm85 rfl (ev2 rfl rfl) (locate_unless_ok [] _ (LtL.nil _) (decide (p_r.Lo ≤ p_r.Hi)) 9 r35 hr36) ?_)
  rintro _ wd37 ⟨he38, rfl⟩
  have e39 := e32.trans he38
  have e40 := e33.trans he38
  have e41 := e34.trans he38
  refine ⟨e40, ?_⟩
  refine TP_e rfl rfl (eff_buildTC (xs := ([r28, r35] : List Int)) (cells := [(.int .i64 r28), (.int .i64 r35)]) Tryd.underlying164 ei30 rfl (pc_cons rfl rfl (pc_cons rfl rfl pc_nil)) rfl (Elems.cons (cs := [(.int .i64 r28)]) rfl (Elems.cons (cs := [(.int .i64 r35)]) rfl Elems.nil)) rfl (hL.chg e41) ?_)
  intro b45 wd42 he43 h44
  have e46 := e39.trans he43
  have e47 := e40.trans he43
  have e48 := e41.trans he43
  refine ⟨e47, ?_⟩
  obtain ⟨r50, hr51, h⟩ := bind_elim h
  refine TP_e rfl rfl (eff_call Tryd.func84 nm84 rfl (ev1 rfl) (locate_first_ok [] _ (LtL.nil _) (.slice (some ⟨b45, 0, none⟩) 2 2) ([r28, r35] : List Int) (h44.sub (fun _ h => by cases h)) r50 hr51) ?_)
  rintro _ wd52 ⟨he53, rfl⟩
  have e54 := e46.trans he53
  have e55 := e47.trans he53
  have e56 := e48.trans he53
  refine ⟨e55, ?_⟩
  refine TP_p (v := (.int .i64 r50)) rfl rfl (fun w' => (yl_assign rfl)) ?_
  refine TP_done ?_
  refine hK11 _ _ ?_
  refine WC_ret ?_
  replace h := some_out h
  subst h
  exact ⟨[(.int .i64 r50)], ⟨rfl, trivial⟩, e56, rfl⟩

noncomputable def locate_moved_spec (p_x : Range) (p_speed : Range) (p_time : Int) : Option Range :=
  (Option.bind (locate_floor_spec (w64 (p_speed.Lo * p_time)) 1000) fun r36 =>
  (Option.bind (locate_ceil_spec (w64 (p_speed.Hi * p_time)) 1000) fun r44 =>
  some (Range.mk (w64 (p_x.Lo + r36)) (w64 (p_x.Hi + r44)))
  )
  )
theorem locate_moved_ok (L : List Value) (w : World) (hL : LtL L w) (cs_p_x : List Value) (p_x : Range) (h_p_x : Rep.rd L w cs_p_x p_x) (cs_p_speed : List Value) (p_speed : Range) (h_p_speed : Rep.rd L w cs_p_speed p_speed) (p_time : Int) (r : Range) (h : locate_moved_spec p_x p_speed p_time = some r) :
    CallsTo Tryd.prog 110 [(.agg cs_p_x.toArray), (.agg cs_p_speed.toArray), (.int .i64 p_time)] w (fun v w' => Ext w w' ∧ ∃ (cs0 : List Value), (.agg cs0.toArray) = v ∧ Rep.rd L w' cs0 r) := by
  have e0 : Ext w w := Chg.refl _ _
  have h_p_x : cs_p_x = [(.int .i64 p_x.Lo), (.int .i64 p_x.Hi)] := h_p_x
  subst h_p_x
  have h_p_speed : cs_p_speed = [(.int .i64 p_speed.Lo), (.int .i64 p_speed.Hi)] := h_p_speed
  subst h_p_speed
  refine callsTo_of_WC (n := 24) (rs := [.cell 6 36]) Tryd.func110 rfl rfl rfl rfl rfl ?_
  refine WC_seqK fun K1 hK1 => ?_
  refine WC_region ?_
  refine T0_e rfl (eff_boxC (cs := [(.int .i64 p_x.Lo), (.int .i64 p_x.Hi)]) rfl rfl ?_)
  intro b2 wd3 hb4 he5 hB6
  have hbf7 := bfresh e0 hb4
  have e8 := e0.trans he5
  refine T0_e rfl (eff_boxC (cs := [(.int .i64 p_speed.Lo), (.int .i64 p_speed.Hi)]) rfl rfl ?_)
  intro b10 wd11 hb12 he13 hB14
  have hn15 : b10 ≠ b2 := box_ne hB6 hb12
  have hbf16 := bfresh e8 hb12
  have e17 := e8.trans he13
  refine T0_e rfl (eff_allocZ zi36 ?_)
  intro b19 wd20 hb21 he22 hB23
  have hn24 : b19 ≠ b2 := box_ne (hB6.ext he13) hb21
  have hn25 : b19 ≠ b10 := box_ne hB14 hb21
  have hbf26 := bfresh e17 hb21
  have e27 := he13.trans he22
  have e28 := e17.trans he22
  refine T0_nil ?_
  refine hK1 _ _ ?_
  refine WC_seqK fun K30 hK30 => ?_
  refine WC_plan mixed (.p 0 (.p 2 (.p 4 (.p 8 (.p 10 (.p 12 (.q 1 (.q 3 (.p 5 (.q 9 (.q 11 (.p 13 (.e 6 (.p 7 (.e 14 (.p 15 (.p 16 (.b 17 .done)))))))))))))))))) (by kernel_rfl) ?_
  intro wd31 he32
  have e33 := he22.trans he32
  have e34 := e27.trans he32
  have e35 := e28.trans he32
  refine TP_p (v := (.pointer (some ⟨b2, 0, none⟩))) rfl rfl (fun w' => (yl_fa 0 Tryd.underlying36 rfl rfl ⟨0, sz3⟩ rfl rfl)) ?_
  refine TP_p (v := (.pointer (some ⟨b10, 0, none⟩))) rfl rfl (fun w' => (yl_fa 0 Tryd.underlying36 rfl rfl ⟨0, sz3⟩ rfl rfl)) ?_
  refine TP_p (v := (.int .i64 p_time)) rfl rfl (fun w' => (yl_move rfl)) ?_
  refine TP_p (v := (.pointer (some ⟨b2, 1, none⟩))) rfl rfl (fun w' => (yl_fa 1 Tryd.underlying36 rfl rfl ⟨0, sz3⟩ rfl rfl)) ?_
  refine TP_p (v := (.pointer (some ⟨b10, 1, none⟩))) rfl rfl (fun w' => (yl_fa 1 Tryd.underlying36 rfl rfl ⟨0, sz3⟩ rfl rfl)) ?_
  refine TP_p (v := (.int .i64 p_time)) rfl rfl (fun w' => (yl_move rfl)) ?_
  refine TP_q (v := (.int .i64 p_x.Lo)) rfl rfl (fun w' hS => (yl_load sc3 rfl (Box.at (hB6.ext ((e34).trans hS))))) ?_
  refine TP_q (v := (.int .i64 p_speed.Lo)) rfl rfl (fun w' hS => (yl_load sc3 rfl (Box.at (hB14.ext ((e33).trans hS))))) ?_
  refine TP_p (v := (.int .i64 (w64 (p_speed.Lo * p_time)))) rfl rfl (fun w' => (yl_mul rfl rfl)) ?_
  refine TP_q (v := (.int .i64 p_x.Hi)) rfl rfl (fun w' hS => (yl_load sc3 rfl (At.drop (Box.at (hB6.ext ((e34).trans hS))) 1))) ?_
  refine TP_q (v := (.int .i64 p_speed.Hi)) rfl rfl (fun w' hS => (yl_load sc3 rfl (At.drop (Box.at (hB14.ext ((e33).trans hS))) 1))) ?_
  refine TP_p (v := (.int .i64 (w64 (p_speed.Hi * p_time)))) rfl rfl (fun w' => (yl_mul rfl rfl)) ?_
  obtain ⟨r36, hr37, h⟩ := bind_elim h
  refine TP_e rfl rfl (eff_call Tryd.func129 nm129 rfl (ev2 rfl rfl) (locate_floor_ok [] _ (LtL.nil _) (w64 (p_speed.Lo * p_time)) 1000 r36 hr37) ?_)
  rintro _ wd38 ⟨he39, rfl⟩
  have e40 := e33.trans he39
  have e41 := he32.trans he39
  have e42 := e34.trans he39
  have e43 := e35.trans he39
  refine ⟨he39, ?_⟩
  refine TP_p (v := (.int .i64 (w64 (p_x.Lo + r36)))) rfl rfl (fun w' => (yl_add rfl rfl)) ?_
  obtain ⟨r44, hr45, h⟩ := bind_elim h
  refine TP_e rfl rfl (eff_call Tryd.func130 nm130 rfl (ev2 rfl rfl) (locate_ceil_ok [] _ (LtL.nil _) (w64 (p_speed.Hi * p_time)) 1000 r44 hr45) ?_)
  rintro _ wd46 ⟨he47, rfl⟩
  have e48 := e40.trans he47
  have e49 := e41.trans he47
  have e50 := e42.trans he47
  have e51 := he39.trans he47
  have e52 := e43.trans he47
  refine ⟨e51, ?_⟩
  refine TP_p (v := (.int .i64 (w64 (p_x.Hi + r44)))) rfl rfl (fun w' => (yl_add rfl rfl)) ?_
  refine TP_p (v := (.agg (List.toArray [(.int .i64 (w64 (p_x.Lo + r36))), (.int .i64 (w64 (p_x.Hi + r44)))]))) rfl rfl (fun w' => (yl_buildC (cells := [(.int .i64 (w64 (p_x.Lo + r36))), (.int .i64 (w64 (p_x.Hi + r44)))]) bi36 (pc_cons rfl rfl (pc_cons rfl rfl pc_nil)) rfl)) ?_
  refine TP_b rfl rfl (eff_storeC (vs := [(.int .i64 (w64 (p_x.Lo + r36))), (.int .i64 (w64 (p_x.Hi + r44)))]) (cs' := [(.int .i64 (w64 (p_x.Lo + r36))), (.int .i64 (w64 (p_x.Hi + r44)))]) sz36 rfl rfl rfl rfl (hB23.ext e49) rfl (oc_cons rfl (oc_cons rfl oc_nil)) rfl ?_)
  intro wd53 hc54 hB55
  have h56 := (hB6.ext e50).chg hc54 (avoidb hn24)
  have h57 := (hB14.ext e48).chg hc54 (avoidb hn25)
  have e58 := chg_box e52 hc54 hbf26
  refine TP_done ?_
  refine hK30 _ _ ?_
  refine WC_ret ?_
  replace h := some_out h
  subst h
  exact ⟨[(.agg (List.toArray [(.int .i64 (w64 (p_x.Lo + r36))), (.int .i64 (w64 (p_x.Hi + r44)))]))], ⟨⟨_, rfl, run_loadVarA (cs := [(.int .i64 (w64 (p_x.Lo + r36))), (.int .i64 (w64 (p_x.Hi + r44)))]) ag36 (Box.at hB55)⟩, trivial⟩, e58, [(.int .i64 (w64 (p_x.Lo + r36))), (.int .i64 (w64 (p_x.Hi + r44)))], rfl, rfl⟩

noncomputable def locate_Moved_spec (p_x : Range) (p_speed : Range) (p_time : Int) : Option (Range × Int) :=
  (Option.bind (locate_placesErr_spec p_x) fun r37 =>
  (Option.bind (locate_speedErr_spec p_speed) fun r45 =>
  (Option.bind (locate_timeErr_spec p_time) fun r54 =>
  (Option.bind (locate_first_spec ([r37, r45, r54] : List Int)) fun r73 =>
  (bif (!decide (r73 = 0)) then (
    some ((Range.mk 0 0), r73)
  ) else (
    (Option.bind (locate_moved_spec p_x p_speed p_time) fun r93 =>
    some (r93, 0)
    )
  ))
  )
  )
  )
  )
theorem locate_Moved_ok (L : List Value) (w : World) (hL : LtL L w) (cs_p_x : List Value) (p_x : Range) (h_p_x : Rep.rd L w cs_p_x p_x) (cs_p_speed : List Value) (p_speed : Range) (h_p_speed : Rep.rd L w cs_p_speed p_speed) (p_time : Int) (r : Range × Int) (h : locate_Moved_spec p_x p_speed p_time = some r) :
    CallsTo Tryd.prog 59 [(.agg cs_p_x.toArray), (.agg cs_p_speed.toArray), (.int .i64 p_time)] w (fun v w' => Ext w w' ∧ ∃ (cs0 : List Value), (.tuple #[(.agg cs0.toArray), (.int .i64 r.2)]) = v ∧ Rep.rd L w' cs0 r.1) := by
  have e0 : Ext w w := Chg.refl _ _
  have h_p_x : cs_p_x = [(.int .i64 p_x.Lo), (.int .i64 p_x.Hi)] := h_p_x
  subst h_p_x
  have h_p_speed : cs_p_speed = [(.int .i64 p_speed.Lo), (.int .i64 p_speed.Hi)] := h_p_speed
  subst h_p_speed
  refine callsTo_of_WC (n := 25) (rs := [.cell 6 36, .tmp 7]) Tryd.func59 rfl rfl rfl rfl rfl ?_
  refine WC_seqK fun K1 hK1 => ?_
  refine WC_region ?_
  refine T0_e rfl (eff_boxC (cs := [(.int .i64 p_x.Lo), (.int .i64 p_x.Hi)]) rfl rfl ?_)
  intro b2 wd3 hb4 he5 hB6
  have hbf7 := bfresh e0 hb4
  have e8 := e0.trans he5
  refine T0_e rfl (eff_boxC (cs := [(.int .i64 p_speed.Lo), (.int .i64 p_speed.Hi)]) rfl rfl ?_)
  intro b10 wd11 hb12 he13 hB14
  have hn15 : b10 ≠ b2 := box_ne hB6 hb12
  have hbf16 := bfresh e8 hb12
  have e17 := e8.trans he13
  refine T0_e rfl (eff_allocZ zi36 ?_)
  intro b19 wd20 hb21 he22 hB23
  have hn24 : b19 ≠ b2 := box_ne (hB6.ext he13) hb21
  have hn25 : b19 ≠ b10 := box_ne hB14 hb21
  have hbf26 := bfresh e17 hb21
  have e27 := he13.trans he22
  have e28 := e17.trans he22
  refine T0_q (v := (.int .i64 0)) rfl (yl_assign rfl) ?_
  refine T0_nil ?_
  refine hK1 _ _ ?_
  refine WC_seqK fun K30 hK30 => ?_
  refine WC_seqK fun K31 hK31 => ?_
  refine WC_plan mixed (.p 4 (.q 0 (.q 2 (.e 1 (.e 3 (.e 5 (.e 6 (.e 7 (.p 8 .done))))))))) (by kernel_rfl) ?_
  intro wd32 he33
  have e34 := he22.trans he33
  have e35 := e27.trans he33
  have e36 := e28.trans he33
  refine TP_p (v := (.int .i64 p_time)) rfl rfl (fun w' => (yl_move rfl)) ?_
  refine TP_q (v := (.agg (List.toArray [(.int .i64 p_x.Lo), (.int .i64 p_x.Hi)]))) rfl rfl (fun w' hS => (yl_loadA (cs := [(.int .i64 p_x.Lo), (.int .i64 p_x.Hi)]) ag36 rfl (Box.at (hB6.ext ((e35).trans hS))))) ?_
  refine TP_q (v := (.agg (List.toArray [(.int .i64 p_speed.Lo), (.int .i64 p_speed.Hi)]))) rfl rfl (fun w' hS => (yl_loadA (cs := [(.int .i64 p_speed.Lo), (.int .i64 p_speed.Hi)]) ag36 rfl (Box.at (hB14.ext ((e34).trans hS))))) ?_
  obtain ⟨r37, hr38, h⟩ := bind_elim h
  refine TP_e rfl rfl (eff_call Tryd.func105 nm105 rfl (ev1 rfl) (locate_placesErr_ok [] _ (LtL.nil _) [(.int .i64 p_x.Lo), (.int .i64 p_x.Hi)] p_x rfl r37 hr38) ?_)
  rintro _ wd39 ⟨he40, rfl⟩
  have e41 := e34.trans he40
  have e42 := he33.trans he40
  have e43 := e35.trans he40
  have e44 := e36.trans he40
  refine ⟨he40, ?_⟩
  obtain ⟨r45, hr46, h⟩ := bind_elim h
  refine TP_e rfl rfl (eff_call Tryd.func108 nm108 rfl (ev1 rfl) (locate_speedErr_ok [] _ (LtL.nil _) [(.int .i64 p_speed.Lo), (.int .i64 p_speed.Hi)] p_speed rfl r45 hr46) ?_)
  rintro _ wd47 ⟨he48, rfl⟩
  have e49 := e41.trans he48
  have e50 := e42.trans he48
  have e51 := e43.trans he48
  have e52 := he40.trans he48
  have e53 := e44.trans he48
  refine ⟨e52, ?_⟩
  obtain ⟨r54, hr55, h⟩ := bind_elim h
  refine TP_e rfl rfl (eff_call Tryd.func109 nm109 rfl (ev1 rfl) (locate_timeErr_ok [] _ (LtL.nil _) p_time r54 hr55) ?_)
  rintro _ wd56 ⟨he57, rfl⟩
  have e58 := e49.trans he57
  have e59 := e50.trans he57
  have e60 := e51.trans he57
  have e61 := e52.trans he57
  have e62 := e53.trans he57
  refine ⟨e61, ?_⟩
  refine TP_e rfl rfl (eff_buildTC (xs := ([r37, r45, r54] : List Int)) (cells := [(.int .i64 r37), (.int .i64 r45), (.int .i64 r54)]) Tryd.underlying164 ei30 rfl (pc_cons rfl rfl (pc_cons rfl rfl (pc_cons rfl rfl pc_nil))) rfl (Elems.cons (cs := [(.int .i64 r37)]) rfl (Elems.cons (cs := [(.int .i64 r45)]) rfl (Elems.cons (cs := [(.int .i64 r54)]) rfl Elems.nil))) rfl (ltl_box (hL.chg e62) (hB23.ext e59)) ?_)
  intro b66 wd63 he64 h65
  have e67 := e58.trans he64
  have e68 := e59.trans he64
  have e69 := e60.trans he64
  have e70 := e61.trans he64
  have e71 := e62.trans he64
  refine ⟨e70, ?_⟩
  obtain ⟨r73, hr74, h⟩ := bind_elim h
  refine TP_e rfl rfl (eff_call Tryd.func84 nm84 rfl (ev1 rfl) (locate_first_ok [] _ (LtL.nil _) (.slice (some ⟨b66, 0, none⟩) 3 3) ([r37, r45, r54] : List Int) (h65.sub (fun _ h => by cases h)) r73 hr74) ?_)
  rintro _ wd75 ⟨he76, rfl⟩
  have e77 := e67.trans he76
  have e78 := e68.trans he76
  have e79 := e69.trans he76
  have e80 := e70.trans he76
  have e81 := e71.trans he76
  refine ⟨e80, ?_⟩
  refine TP_p (v := (.int .i64 r73)) rfl rfl (fun w' => (yl_assign rfl)) ?_
  refine TP_done ?_
  refine hK31 _ _ ?_
  refine WC_seqK fun K82 hK82 => ?_
  refine WC_region ?_
  refine T0_q (v := (.int .i64 r73)) rfl (yl_move rfl) ?_
  refine T0_q (v := (.bool (!decide (r73 = 0)))) rfl (yl_neq rfl rfl) ?_
  refine T0_nil ?_
  refine hK82 _ _ ?_
  refine WC_cond (b := (!decide (r73 = 0))) rfl (fun hb83 => ?_) (fun hb83 => ?_)
  · replace h := cond_t hb83 h
    refine WC_seqK fun K84 hK84 => ?_
    refine WC_region ?_
    refine T0_q (v := (.agg (List.toArray [(.int .i64 0), (.int .i64 0)]))) rfl (yl_buildC (cells := [(.int .i64 0), (.int .i64 0)]) bi36 pc_nil rfl) ?_
    refine T0_q (v := (.int .i64 r73)) rfl (yl_move rfl) ?_
    refine T0_e rfl (eff_storeC (vs := [(.int .i64 0), (.int .i64 0)]) (cs' := [(.int .i64 0), (.int .i64 0)]) sz36 rfl rfl rfl rfl (hB23.ext e78) rfl (oc_cons rfl (oc_cons rfl oc_nil)) rfl ?_)
    intro wd85 hc86 hB87
    have h88 := (hB6.ext e79).chg hc86 (avoidb hn24)
    have h89 := (hB14.ext e77).chg hc86 (avoidb hn25)
    have h90 := (h65.ext he76).step (Stepp.chg_mem hc86 mem0)
    have e91 := chg_box e81 hc86 hbf26
    refine T0_q (v := (.int .i64 r73)) rfl (yl_assign rfl) ?_
    refine T0_nil ?_
    refine hK84 _ _ ?_
    refine WC_ret ?_
    replace h := some_out h
    subst h
    exact ⟨[(.agg (List.toArray [(.int .i64 0), (.int .i64 0)])), (.int .i64 r73)], ⟨⟨_, rfl, run_loadVarA (cs := [(.int .i64 0), (.int .i64 0)]) ag36 (Box.at hB87)⟩, rfl, trivial⟩, e91, [(.int .i64 0), (.int .i64 0)], rfl, rfl⟩
  · replace h := cond_f hb83 h
    refine WC_skip ?_
    refine hK30 _ _ ?_
    refine WC_seqK fun K92 hK92 => ?_
    refine WC_region ?_
    refine T0_q (v := (.agg (List.toArray [(.int .i64 p_x.Lo), (.int .i64 p_x.Hi)]))) rfl (yl_loadA (cs := [(.int .i64 p_x.Lo), (.int .i64 p_x.Hi)]) ag36 rfl (Box.at (hB6.ext e79))) ?_
    refine T0_q (v := (.agg (List.toArray [(.int .i64 p_speed.Lo), (.int .i64 p_speed.Hi)]))) rfl (yl_loadA (cs := [(.int .i64 p_speed.Lo), (.int .i64 p_speed.Hi)]) ag36 rfl (Box.at (hB14.ext e77))) ?_
    refine T0_q (v := (.int .i64 p_time)) rfl (yl_move rfl) ?_
    obtain ⟨r93, hr94, h⟩ := bind_elim h
    refine T0_e rfl (eff_call Tryd.func110 nm110 rfl (ev3 rfl rfl rfl) (locate_moved_ok [] _ (LtL.nil _) [(.int .i64 p_x.Lo), (.int .i64 p_x.Hi)] p_x rfl [(.int .i64 p_speed.Lo), (.int .i64 p_speed.Hi)] p_speed rfl p_time r93 hr94) ?_)
    rintro _ wd95 ⟨he96, cs97, rfl, hrd98⟩
    have e99 := e77.trans he96
    have e100 := e78.trans he96
    have e101 := e79.trans he96
    have e102 := he76.trans he96
    have e103 := e81.trans he96
    have hrd98 : cs97 = [(.int .i64 r93.Lo), (.int .i64 r93.Hi)] := hrd98
    subst hrd98
    refine T0_e rfl (eff_storeC (vs := [(.int .i64 r93.Lo), (.int .i64 r93.Hi)]) (cs' := [(.int .i64 r93.Lo), (.int .i64 r93.Hi)]) sz36 rfl rfl rfl rfl (hB23.ext e100) rfl (oc_cons rfl (oc_cons rfl oc_nil)) rfl ?_)
    intro wd104 hc105 hB106
    have h107 := (hB6.ext e101).chg hc105 (avoidb hn24)
    have h108 := (hB14.ext e99).chg hc105 (avoidb hn25)
    have h109 := (h65.ext e102).step (Stepp.chg_mem hc105 mem0)
    have e110 := chg_box e103 hc105 hbf26
    refine T0_q (v := (.int .i64 0)) rfl (yl_assign rfl) ?_
    refine T0_nil ?_
    refine hK92 _ _ ?_
    refine WC_ret ?_
    replace h := some_out h
    subst h
    exact ⟨[(.agg (List.toArray [(.int .i64 r93.Lo), (.int .i64 r93.Hi)])), (.int .i64 0)], ⟨⟨_, rfl, run_loadVarA (cs := [(.int .i64 r93.Lo), (.int .i64 r93.Hi)]) ag36 (Box.at hB106)⟩, rfl, trivial⟩, e110, [(.int .i64 r93.Lo), (.int .i64 r93.Hi)], rfl, rfl⟩

noncomputable def locate_Follow_s0 (p_String : (List LocateFix)) : (Int × Int) → Option ((Int × Int) ⊕ ((Range × Int × Int) ⊕ (Unit))) := fun (x363, x367) =>
  (bif (decide (x367 < (p_String.length : Int))) then (
    (Option.bind (idx p_String x367) fun el396 =>
    (Option.bind (locate_timeErr_spec el396.At) fun r425 =>
    (Option.bind (locate_placesErr_spec el396.Place) fun r431 =>
    (Option.bind (locate_unless_spec (decide (x363 ≤ el396.At)) 9) fun r438 =>
    (Option.bind (locate_first_spec ([r425, r431, r438] : List Int)) fun r453 =>
    (bif (!decide (r453 = 0)) then (
      some (.inr (.inl ((Range.mk 0 0), 0, r453)))
    ) else (
      some (.inl (el396.At, w64 (x367 + 1)))
    ))
    )
    )
    )
    )
    )
  ) else (
    some (.inr (.inr ()))
  ))
noncomputable def locate_Follow_s1 (p_Listappend : Range) (p_String : (List LocateFix)) : (Int × Int × Int) → Option ((Int × Int × Int) ⊕ ((Range × Int × Int) ⊕ (Int × Int))) := fun (x757, x763, x764) =>
  (bif (decide (x757 < (p_String.length : Int))) then (
    (Option.bind (idx p_String x757) fun el793 =>
    (Option.bind (idx p_String (w64 (x757 - 1))) fun el799 =>
    (Option.bind (locate_moved_spec (Range.mk x763 x764) p_Listappend (w64 (el793.At - el799.At))) fun r805 =>
    (Option.bind (idx p_String x757) fun el824 =>
    (Option.bind (idx p_String x757) fun el830 =>
    (bif (decide ((if el830.Place.Hi < r805.Hi then el830.Place.Hi else r805.Hi) < (if r805.Lo < el824.Place.Lo then el824.Place.Lo else r805.Lo))) then (
      some (.inr (.inl ((Range.mk 0 0), x757, 13)))
    ) else (
      some (.inl (w64 (x757 + 1), (if r805.Lo < el824.Place.Lo then el824.Place.Lo else r805.Lo), (if el830.Place.Hi < r805.Hi then el830.Place.Hi else r805.Hi)))
    ))
    )
    )
    )
    )
    )
  ) else (
    some (.inr (.inr (x763, x764)))
  ))
noncomputable def locate_Follow_spec (p_Listappend : Range) (p_String : (List LocateFix)) : Option (Range × Int × Int) :=
  (Option.bind (locate_speedErr_spec p_Listappend) fun r23 =>
  (Option.bind (locate_unless_spec (decide (0 < (p_String.length : Int))) 10) fun r29 =>
  (Option.bind (locate_unless_spec (decide ((p_String.length : Int) ≤ 40)) 8) fun r36 =>
  (Option.bind (locate_first_spec ([r23, r29, r36] : List Int)) fun r51 =>
  (bif (!decide (r51 = 0)) then (
    some ((Range.mk 0 0), 0, r51)
  ) else (
    (Option.bind (loop (locate_Follow_s0 p_String) (0, 0)) fun o383 => jn0 o383 fun (_ : Unit) =>
    (Option.bind (idx p_String 0) fun el472 =>
    (Option.bind (loop (locate_Follow_s1 p_Listappend p_String) (1, el472.Place.Lo, el472.Place.Hi)) fun o777 => jn0 o777 fun ((x773, x774) : Int × Int) =>
    some ((Range.mk x773 x774), 0, 0)
    )
    )
    )
  ))
  )
  )
  )
  )
theorem locate_Follow_ok (L : List Value) (w : World) (hL : LtL L w) (cs_p_Listappend : List Value) (p_Listappend : Range) (h_p_Listappend : Rep.rd L w cs_p_Listappend p_Listappend) (v_p_String : Value) (p_String : (List LocateFix)) (h_p_String : SlRd L w v_p_String p_String) (r : Range × Int × Int) (h : locate_Follow_spec p_Listappend p_String = some r) :
    CallsTo Tryd.prog 67 [(.agg cs_p_Listappend.toArray), v_p_String] w (fun v w' => Ext w w' ∧ ∃ (cs0 : List Value), (.tuple #[(.agg cs0.toArray), (.int .i64 r.2.1), (.int .i64 r.2.2)]) = v ∧ Rep.rd L w' cs0 r.1) := by
  have e0 : Ext w w := Chg.refl _ _
  have h_p_Listappend : cs_p_Listappend = [(.int .i64 p_Listappend.Lo), (.int .i64 p_Listappend.Hi)] := h_p_Listappend
  subst h_p_Listappend
  refine callsTo_of_WC (n := 108) (rs := [.cell 4 36, .tmp 5, .tmp 6]) Tryd.func67 rfl rfl rfl rfl rfl ?_
  refine WC_seqK fun K2 hK2 => ?_
  refine WC_region ?_
  refine T0_e rfl (eff_boxC (cs := [(.int .i64 p_Listappend.Lo), (.int .i64 p_Listappend.Hi)]) rfl rfl ?_)
  intro b3 wd4 hb5 he6 hB7
  have hbf8 := bfresh e0 hb5
  have e9 := e0.trans he6
  refine T0_e rfl (eff_allocZ zi36 ?_)
  intro b11 wd12 hb13 he14 hB15
  have hn16 : b11 ≠ b3 := box_ne hB7 hb13
  have hbf17 := bfresh e9 hb13
  have h18 := (h_p_String.ext he6).step (add_box he14 hb13)
  have e19 := e9.trans he14
  refine T0_q (v := (.int .i64 0)) rfl (yl_assign rfl) ?_
  refine T0_q (v := (.int .i64 0)) rfl (yl_assign rfl) ?_
  refine T0_nil ?_
  refine hK2 _ _ ?_
  refine WC_seqK fun K21 hK21 => ?_
  refine WC_seqK fun K22 hK22 => ?_
  refine WC_region ?_
  refine T0_q (v := (.agg (List.toArray [(.int .i64 p_Listappend.Lo), (.int .i64 p_Listappend.Hi)]))) rfl (yl_loadA (cs := [(.int .i64 p_Listappend.Lo), (.int .i64 p_Listappend.Hi)]) ag36 rfl (Box.at (hB7.ext he14))) ?_
  obtain ⟨r23, hr24, h⟩ := bind_elim h
  refine T0_e rfl (eff_call Tryd.func108 nm108 rfl (ev1 rfl) (locate_speedErr_ok [] _ (LtL.nil _) [(.int .i64 p_Listappend.Lo), (.int .i64 p_Listappend.Hi)] p_Listappend rfl r23 hr24) ?_)
  rintro _ wd25 ⟨he26, rfl⟩
  have e27 := he14.trans he26
  have e28 := e19.trans he26
  refine T0_q (v := v_p_String) rfl (yl_move rfl) ?_
  refine T0_q (v := (.int .i64 (p_String.length : Int))) rfl (yl_lenR rfl Tryd.underlying99 h18 rfl) ?_
  refine T0_q (v := (.bool (decide (0 < (p_String.length : Int))))) rfl (yl_gtr rfl rfl) ?_
  obtain ⟨r29, hr30, h⟩ := bind_elim h
  refine T0_e rfl (eff_call Tryd.func85 nm85 rfl (ev2 rfl rfl) (locate_unless_ok [] _ (LtL.nil _) (decide (0 < (p_String.length : Int))) 10 r29 hr30) ?_)
  rintro _ wd31 ⟨he32, rfl⟩
  have e33 := he26.trans he32
  have e34 := e27.trans he32
  have e35 := e28.trans he32
  refine T0_q (v := v_p_String) rfl (yl_move rfl) ?_
  refine T0_q (v := (.int .i64 (p_String.length : Int))) rfl (yl_lenR rfl Tryd.underlying99 h18 rfl) ?_
  refine T0_q (v := (.bool (decide ((p_String.length : Int) ≤ 40)))) rfl (yl_leq rfl rfl) ?_
  obtain ⟨r36, hr37, h⟩ := bind_elim h
  refine T0_e rfl (eff_call Tryd.func85 nm85 rfl (ev2 rfl rfl) (locate_unless_ok [] _ (LtL.nil _) (decide ((p_String.length : Int) ≤ 40)) 8 r36 hr37) ?_)
  rintro _ wd38 ⟨he39, rfl⟩
  have e40 := e33.trans he39
  have e41 := e34.trans he39
  have e42 := e35.trans he39
  refine T0_e rfl (eff_buildTC (xs := ([r23, r29, r36] : List Int)) (cells := [(.int .i64 r23), (.int .i64 r29), (.int .i64 r36)]) Tryd.underlying164 ei30 rfl (pc_cons rfl rfl (pc_cons rfl rfl (pc_cons rfl rfl pc_nil))) rfl (Elems.cons (cs := [(.int .i64 r23)]) rfl (Elems.cons (cs := [(.int .i64 r29)]) rfl (Elems.cons (cs := [(.int .i64 r36)]) rfl Elems.nil))) rfl (ltl_box (hL.chg e42) (hB15.ext e40)) ?_)
  intro b46 wd43 he44 h45
  have e47 := e40.trans he44
  have e48 := e41.trans he44
  have e49 := e42.trans he44
  obtain ⟨r51, hr52, h⟩ := bind_elim h
  refine T0_e rfl (eff_call Tryd.func84 nm84 rfl (ev1 rfl) (locate_first_ok [] _ (LtL.nil _) (.slice (some ⟨b46, 0, none⟩) 3 3) ([r23, r29, r36] : List Int) (h45.sub (fun _ h => by cases h)) r51 hr52) ?_)
  rintro _ wd53 ⟨he54, rfl⟩
  have e55 := e47.trans he54
  have e56 := e48.trans he54
  have e57 := e49.trans he54
  refine T0_q (v := (.int .i64 r51)) rfl (yl_assign rfl) ?_
  refine T0_nil ?_
  refine hK22 _ _ ?_
  refine WC_seqK fun K58 hK58 => ?_
  refine WC_region ?_
  refine T0_q (v := (.int .i64 r51)) rfl (yl_move rfl) ?_
  refine T0_q (v := (.bool (!decide (r51 = 0)))) rfl (yl_neq rfl rfl) ?_
  refine T0_nil ?_
  refine hK58 _ _ ?_
  refine WC_cond (b := (!decide (r51 = 0))) rfl (fun hb59 => ?_) (fun hb59 => ?_)
  · replace h := cond_t hb59 h
    refine WC_seqK fun K60 hK60 => ?_
    refine WC_region ?_
    refine T0_q (v := (.agg (List.toArray [(.int .i64 0), (.int .i64 0)]))) rfl (yl_buildC (cells := [(.int .i64 0), (.int .i64 0)]) bi36 pc_nil rfl) ?_
    refine T0_q (v := (.int .i64 r51)) rfl (yl_move rfl) ?_
    refine T0_e rfl (eff_storeC (vs := [(.int .i64 0), (.int .i64 0)]) (cs' := [(.int .i64 0), (.int .i64 0)]) sz36 rfl rfl rfl rfl (hB15.ext e55) rfl (oc_cons rfl (oc_cons rfl oc_nil)) rfl ?_)
    intro wd61 hc62 hB63
    have h64 := (h18.ext e55).step (Stepp.chg_mem hc62 mem0)
    have h65 := (hB7.ext e56).chg hc62 (avoidb hn16)
    have h66 := (h45.ext he54).step (Stepp.chg_mem hc62 mem0)
    have e67 := chg_box e57 hc62 hbf17
    refine T0_q (v := (.int .i64 0)) rfl (yl_assign rfl) ?_
    refine T0_q (v := (.int .i64 r51)) rfl (yl_assign rfl) ?_
    refine T0_nil ?_
    refine hK60 _ _ ?_
    refine WC_ret ?_
    replace h := some_out h
    subst h
    exact ⟨[(.agg (List.toArray [(.int .i64 0), (.int .i64 0)])), (.int .i64 0), (.int .i64 r51)], ⟨⟨_, rfl, run_loadVarA (cs := [(.int .i64 0), (.int .i64 0)]) ag36 (Box.at hB63)⟩, rfl, rfl, trivial⟩, e67, [(.int .i64 0), (.int .i64 0)], rfl, rfl⟩
  · replace h := cond_f hb59 h
    refine WC_skip ?_
    refine hK21 _ _ ?_
    refine WC_seqK fun K68 hK68 => ?_
    refine WC_region ?_
    refine T0_q (v := (.int .i64 0)) rfl (yl_assign rfl) ?_
    refine T0_nil ?_
    refine hK68 _ _ ?_
    refine WC_seqK fun K69 hK69 => ?_
    refine WC_seqK fun K70 hK70 => ?_
    refine WC_region ?_
    refine T0_q (v := v_p_String) rfl (yl_move rfl) ?_
    refine T0_q (v := (.int .i64 (p_String.length : Int))) rfl (yl_lenR rfl Tryd.underlying99 h18 rfl) ?_
    refine T0_q (v := (.int .i64 0)) rfl (yl_move rfl) ?_
    refine T0_nil ?_
    refine hK70 _ _ ?_
    obtain ⟨o383, hl384, hn385⟩ := bind_elim h
    refine WC_post (fun (ρ : Env) (wd373 : World) => .inr () = o383 ∧ ρ 1 = v_p_String ∧ ρ 2 = (.pointer (some ⟨b3, 0, none⟩)) ∧ ρ 4 = (.pointer (some ⟨b11, 0, none⟩)) ∧ SlRd ((.pointer (some ⟨b11, 0, none⟩)) :: L) wd373 v_p_String p_String ∧ Box wd373 b11 [(.int .i64 0), (.int .i64 0)] 36 ∧ Box wd373 b3 [(.int .i64 p_Listappend.Lo), (.int .i64 p_Listappend.Hi)] 36 ∧ Ext w wd373) ?_ ?_
    · intro K389 hK389
      refine WC_block ?_
      refine WC_loopk (fun sv ρ wd357 => ∃ (x363 : Int) (x367 : Int), (x363, x367) = sv ∧ ρ 1 = v_p_String ∧ ρ 2 = (.pointer (some ⟨b3, 0, none⟩)) ∧ ρ 4 = (.pointer (some ⟨b11, 0, none⟩)) ∧ ρ 8 = (.int .i64 x363) ∧ ρ 30 = v_p_String ∧ ρ 31 = (.int .i64 (p_String.length : Int)) ∧ ρ 32 = (.int .i64 x367) ∧ SlRd ((.pointer (some ⟨b11, 0, none⟩)) :: L) wd357 v_p_String p_String ∧ Box wd357 b11 [(.int .i64 0), (.int .i64 0)] 36 ∧ Box wd357 b3 [(.int .i64 p_Listappend.Lo), (.int .i64 p_Listappend.Hi)] 36 ∧ Ext w wd357) hl384 ⟨0, 0, rfl, rfl, rfl, rfl, rfl, rfl, rfl, rfl, (h18.ext e55), (hB15.ext e55), (hB7.ext e56), e57⟩ ?_
      rintro _ ρ wd357 ⟨x363, x367, rfl, hs360, hs361, hs362, hs364, hs365, hs366, hs368, h359, hB370, hB372, e358⟩ x386 h hx387 K388 hK388
      refine WC_seqK fun K391 hK391 => ?_
      refine WC_region ?_
      refine T0_q (v := (.bool (decide (x367 < (p_String.length : Int))))) rfl (yl_lss hs368 hs366) ?_
      refine T0_nil ?_
      refine hK391 _ _ ?_
      refine WC_seqK fun K392 hK392 => ?_
      refine WC_cond (b := (decide (x367 < (p_String.length : Int)))) rfl (fun hb393 => ?_) (fun hb393 => ?_)
      · replace h := cond_t hb393 h
        refine WC_skip ?_
        refine hK392 _ _ ?_
        refine WC_seqK fun K394 hK394 => ?_
        refine WC_block ?_
        refine WC_seqK fun K395 hK395 => ?_
        refine WC_region ?_
        obtain ⟨el396, hel397, h⟩ := bind_elim h
        obtain ⟨cs398, hat399, hrd400⟩ := SlRd.at h359 hel397
        have hrd400 : cs398 = [(.int .i64 el396.At), (.int .i64 el396.Place.Lo), (.int .i64 el396.Place.Hi)] := hrd400
        subst hrd400
        refine T0_q (v := (.pointer (some (elemAddr v_p_String (x367 : Int).toNat 3)))) rfl (yl_indexAddr Tryd.underlying99 sz110 h359 hel397 hs365 hs368) ?_
        refine T0_q (v := (.agg (List.toArray [(.int .i64 el396.At), (.int .i64 el396.Place.Lo), (.int .i64 el396.Place.Hi)]))) rfl (yl_loadA (cs := [(.int .i64 el396.At), (.int .i64 el396.Place.Lo), (.int .i64 el396.Place.Hi)]) ag110 rfl hat399) ?_
        refine T0_e rfl (eff_allocZ zi110 ?_)
        intro b402 wd403 hb404 he405 hB406
        have hn407 : b402 ≠ b11 := box_ne hB370 hb404
        have hn408 : b402 ≠ b3 := box_ne hB372 hb404
        have hbf409 := bfresh e358 hb404
        have h410 := h359.step (add_box he405 hb404)
        have e411 := e358.trans he405
        refine T0_e rfl (eff_storeC (vs := [(.int .i64 el396.At), (.int .i64 el396.Place.Lo), (.int .i64 el396.Place.Hi)]) (cs' := [(.int .i64 el396.At), (.int .i64 el396.Place.Lo), (.int .i64 el396.Place.Hi)]) sz110 rfl rfl rfl rfl hB406 rfl (oc_cons rfl (oc_cons rfl (oc_cons rfl oc_nil))) rfl ?_)
        intro wd413 hc414 hB415
        have h416 := h410.step (Stepp.chg_mem hc414 mem0)
        have h417 := (hB370.ext he405).chg hc414 (avoidb hn407)
        have h418 := (hB372.ext he405).chg hc414 (avoidb hn408)
        have e419 := chg_box e411 hc414 hbf409
        refine T0_nil ?_
        refine hK395 _ _ ?_
        refine WC_seqK fun K420 hK420 => ?_
        refine WC_seqK fun K421 hK421 => ?_
        refine WC_plan mixed (.p 0 (.p 3 (.p 6 (.p 8 (.q 1 (.q 4 (.q 7 (.p 9 (.e 2 (.e 5 (.e 10 (.e 11 (.e 12 (.p 13 .done)))))))))))))) (by kernel_rfl) ?_
        intro wd422 he423
        have e424 := e419.trans he423
        refine TP_p (v := (.pointer (some ⟨b402, 0, none⟩))) rfl rfl (fun w' => (yl_fa 0 Tryd.underlying110 rfl rfl ⟨0, sz3⟩ rfl rfl)) ?_
        refine TP_p (v := (.pointer (some ⟨b402, 1, none⟩))) rfl rfl (fun w' => (yl_fa 1 Tryd.underlying110 rfl rfl ⟨1, sz36⟩ rfl rfl)) ?_
        refine TP_p (v := (.pointer (some ⟨b402, 0, none⟩))) rfl rfl (fun w' => (yl_fa 0 Tryd.underlying110 rfl rfl ⟨0, sz3⟩ rfl rfl)) ?_
        refine TP_p (v := (.int .i64 x363)) rfl rfl (fun w' => (yl_move hs364)) ?_
        refine TP_q (v := (.int .i64 el396.At)) rfl rfl (fun w' hS => (yl_load sc3 rfl (Box.at (hB415.ext ((he423).trans hS))))) ?_
        refine TP_q (v := (.agg (List.toArray [(.int .i64 el396.Place.Lo), (.int .i64 el396.Place.Hi)]))) rfl rfl (fun w' hS => (yl_loadA (cs := [(.int .i64 el396.Place.Lo), (.int .i64 el396.Place.Hi)]) ag36 rfl (At.take (At.drop (Box.at (hB415.ext ((he423).trans hS))) 1) 2))) ?_
        refine TP_q (v := (.int .i64 el396.At)) rfl rfl (fun w' hS => (yl_load sc3 rfl (Box.at (hB415.ext ((he423).trans hS))))) ?_
        refine TP_p (v := (.bool (decide (x363 ≤ el396.At)))) rfl rfl (fun w' => (yl_geq rfl rfl)) ?_
        obtain ⟨r425, hr426, h⟩ := bind_elim h
        refine TP_e rfl rfl (eff_call Tryd.func109 nm109 rfl (ev1 rfl) (locate_timeErr_ok [] _ (LtL.nil _) el396.At r425 hr426) ?_)
        rintro _ wd427 ⟨he428, rfl⟩
        have e429 := he423.trans he428
        have e430 := e424.trans he428
        refine ⟨he428, ?_⟩
        obtain ⟨r431, hr432, h⟩ := bind_elim h
        refine TP_e rfl rfl (eff_call Tryd.func105 nm105 rfl (ev1 rfl) (locate_placesErr_ok [] _ (LtL.nil _) [(.int .i64 el396.Place.Lo), (.int .i64 el396.Place.Hi)] el396.Place rfl r431 hr432) ?_)
        rintro _ wd433 ⟨he434, rfl⟩
        have e435 := e429.trans he434
        have e436 := he428.trans he434
        have e437 := e430.trans he434
        refine ⟨e436, ?_⟩
        obtain ⟨r438, hr439, h⟩ := bind_elim h
        refine TP_e rfl rfl (eff_call Tryd.func85 nm85 rfl (ev2 rfl rfl) (locate_unless_ok [] _ (LtL.nil _) (decide (x363 ≤ el396.At)) 9 r438 hr439) ?_)
        rintro _ wd440 ⟨he441, rfl⟩
        have e442 := e435.trans he441
        have e443 := e436.trans he441
        have e444 := e437.trans he441
        refine ⟨e443, ?_⟩
        refine TP_e rfl rfl (eff_buildTC (xs := ([r425, r431, r438] : List Int)) (cells := [(.int .i64 r425), (.int .i64 r431), (.int .i64 r438)]) Tryd.underlying164 ei30 rfl (pc_cons rfl rfl (pc_cons rfl rfl (pc_cons rfl rfl pc_nil))) rfl (Elems.cons (cs := [(.int .i64 r425)]) rfl (Elems.cons (cs := [(.int .i64 r431)]) rfl (Elems.cons (cs := [(.int .i64 r438)]) rfl Elems.nil))) rfl (ltl_box (ltl_box (hL.chg e444) (h417.ext e442)) (hB415.ext e442)) ?_)
        intro b448 wd445 he446 h447
        have e449 := e442.trans he446
        have e450 := e443.trans he446
        have e451 := e444.trans he446
        refine ⟨e450, ?_⟩
        obtain ⟨r453, hr454, h⟩ := bind_elim h
        refine TP_e rfl rfl (eff_call Tryd.func84 nm84 rfl (ev1 rfl) (locate_first_ok [] _ (LtL.nil _) (.slice (some ⟨b448, 0, none⟩) 3 3) ([r425, r431, r438] : List Int) (h447.sub (fun _ h => by cases h)) r453 hr454) ?_)
        rintro _ wd455 ⟨he456, rfl⟩
        have e457 := e449.trans he456
        have e458 := e450.trans he456
        have e459 := e451.trans he456
        refine ⟨e458, ?_⟩
        refine TP_p (v := (.int .i64 r453)) rfl rfl (fun w' => (yl_assign rfl)) ?_
        refine TP_done ?_
        refine hK421 _ _ ?_
        refine WC_seqK fun K460 hK460 => ?_
        refine WC_region ?_
        refine T0_q (v := (.int .i64 r453)) rfl (yl_move rfl) ?_
        refine T0_q (v := (.bool (!decide (r453 = 0)))) rfl (yl_neq rfl rfl) ?_
        refine T0_nil ?_
        refine hK460 _ _ ?_
        refine WC_cond (b := (!decide (r453 = 0))) rfl (fun hb461 => ?_) (fun hb461 => ?_)
        · replace h := cond_t hb461 h
          refine WC_seqK fun K462 hK462 => ?_
          refine WC_region ?_
          refine T0_q (v := (.agg (List.toArray [(.int .i64 0), (.int .i64 0)]))) rfl (yl_buildC (cells := [(.int .i64 0), (.int .i64 0)]) bi36 pc_nil rfl) ?_
          refine T0_q (v := (.int .i64 r453)) rfl (yl_move rfl) ?_
          refine T0_e rfl (eff_storeC (vs := [(.int .i64 0), (.int .i64 0)]) (cs' := [(.int .i64 0), (.int .i64 0)]) sz36 rfl rfl hs362 rfl (h417.ext e457) rfl (oc_cons rfl (oc_cons rfl oc_nil)) rfl ?_)
          intro wd463 hc464 hB465
          have h466 := (h416.ext e457).step (Stepp.chg_mem hc464 (memS mem0))
          have h467 := (h418.ext e457).chg hc464 (avoidb hn16)
          have h468 := (hB415.ext e457).chg hc464 (avoidb hn407.symm)
          have h469 := (h447.ext he456).step (Stepp.chg_mem hc464 (memS mem0))
          have e470 := chg_box e459 hc464 hbf17
          refine T0_q (v := (.int .i64 0)) rfl (yl_assign rfl) ?_
          refine T0_q (v := (.int .i64 r453)) rfl (yl_assign rfl) ?_
          refine T0_nil ?_
          refine hK462 _ _ ?_
          refine WC_ret ?_
          replace h := some_out h
          subst h
          have ho := hx387 _ rfl
          subst ho
          replace h := jn0_inl hn385
          replace h := some_out h
          subst h
          exact ⟨[(.agg (List.toArray [(.int .i64 0), (.int .i64 0)])), (.int .i64 0), (.int .i64 r453)], ⟨⟨_, hs362, run_loadVarA (cs := [(.int .i64 0), (.int .i64 0)]) ag36 (Box.at hB465)⟩, rfl, rfl, trivial⟩, e470, [(.int .i64 0), (.int .i64 0)], rfl, rfl⟩
        · replace h := cond_f hb461 h
          refine WC_skip ?_
          refine hK420 _ _ ?_
          refine WC_region ?_
          refine T0_q (v := (.pointer (some ⟨b402, 0, none⟩))) rfl (yl_fa 0 Tryd.underlying110 rfl rfl ⟨0, sz3⟩ rfl rfl) ?_
          refine T0_q (v := (.int .i64 el396.At)) rfl (yl_load sc3 rfl (Box.at (hB415.ext e457))) ?_
          refine T0_q (v := (.int .i64 el396.At)) rfl (yl_assign rfl) ?_
          refine T0_nil ?_
          refine hK394 _ _ ?_
          refine WC_region ?_
          refine T0_q (v := (.int .i64 (w64 (x367 + 1)))) rfl (yl_add hs368 rfl) ?_
          refine T0_q (v := (.int .i64 (w64 (x367 + 1)))) rfl (yl_move rfl) ?_
          refine T0_nil ?_
          replace h := some_out h
          subst h
          refine hK388 _ _ _ rfl ?_
          exact ⟨el396.At, w64 (x367 + 1), rfl, hs360, hs361, hs362, rfl, hs365, hs366, rfl, ((h416.ext e457).sub (sub_cons (memS mem0) (sub_skip (sub_skip (sub_refl _))))), (h417.ext e457), (h418.ext e457), e459⟩
      · replace h := cond_f hb393 h
        refine WC_exit ?_
        replace h := some_out h
        subst h
        have ho := hx387 _ rfl
        subst ho
        refine hK389 _ _ ?_
        exact ⟨rfl, hs360, hs361, hs362, h359, hB370, hB372, e358⟩
    · rintro ρ wd373 ⟨rfl, hs376, hs377, hs378, h375, hB380, hB382, e374⟩
      replace h := jn0_inr hn385
      refine hK69 _ _ ?_
      refine WC_seqK fun K471 hK471 => ?_
      refine WC_region ?_
      refine T0_q (v := v_p_String) rfl (yl_move hs376) ?_
      obtain ⟨el472, hel473, h⟩ := bind_elim h
      obtain ⟨cs474, hat475, hrd476⟩ := SlRd.at h375 hel473
      have hrd476 : cs474 = [(.int .i64 el472.At), (.int .i64 el472.Place.Lo), (.int .i64 el472.Place.Hi)] := hrd476
      subst hrd476
      refine T0_q (v := (.pointer (some (elemAddr v_p_String (0 : Int).toNat 3)))) rfl (yl_indexAddr Tryd.underlying99 sz110 h375 hel473 rfl rfl) ?_
      refine T0_q (v := (.pointer (some (Addr.add (elemAddr v_p_String (0 : Int).toNat 3) 1)))) rfl (yl_fa 1 Tryd.underlying110 rfl rfl ⟨1, sz36⟩ rfl rfl) ?_
      refine T0_q (v := (.agg (List.toArray [(.int .i64 el472.Place.Lo), (.int .i64 el472.Place.Hi)]))) rfl (yl_loadA (cs := [(.int .i64 el472.Place.Lo), (.int .i64 el472.Place.Hi)]) ag36 rfl (At.take (At.drop hat475 1) 2)) ?_
      refine T0_e rfl (eff_allocZ zi36 ?_)
      intro b478 wd479 hb480 he481 hB482
      have hn483 : b478 ≠ b11 := box_ne hB380 hb480
      have hn484 : b478 ≠ b3 := box_ne hB382 hb480
      have hbf485 := bfresh e374 hb480
      have h486 := h375.step (add_box he481 hb480)
      have e487 := e374.trans he481
      refine T0_e rfl (eff_storeC (vs := [(.int .i64 el472.Place.Lo), (.int .i64 el472.Place.Hi)]) (cs' := [(.int .i64 el472.Place.Lo), (.int .i64 el472.Place.Hi)]) sz36 rfl rfl rfl rfl hB482 rfl (oc_cons rfl (oc_cons rfl oc_nil)) rfl ?_)
      intro wd489 hc490 hB491
      have h492 := h486.step (Stepp.chg_mem hc490 mem0)
      have h493 := (hB380.ext he481).chg hc490 (avoidb hn483)
      have h494 := (hB382.ext he481).chg hc490 (avoidb hn484)
      have e495 := chg_box e487 hc490 hbf485
      refine T0_nil ?_
      refine hK471 _ _ ?_
      refine WC_seqK fun K496 hK496 => ?_
      refine WC_seqK fun K497 hK497 => ?_
      refine WC_region ?_
      refine T0_q (v := (.int .i64 1)) rfl (yl_assign rfl) ?_
      refine T0_nil ?_
      refine hK497 _ _ ?_
      obtain ⟨o777, hl778, hn779⟩ := bind_elim h
      refine WC_post (fun (ρ : Env) (wd767 : World) => ∃ (x773 : Int) (x774 : Int), .inr (x773, x774) = o777 ∧ ρ 4 = (.pointer (some ⟨b11, 0, none⟩)) ∧ ρ 12 = (.pointer (some ⟨b478, 0, none⟩)) ∧ Box wd767 b11 [(.int .i64 0), (.int .i64 0)] 36 ∧ Box wd767 b478 [(.int .i64 x773), (.int .i64 x774)] 36 ∧ Ext w wd767) ?_ ?_
      · intro K783 hK783
        refine WC_block ?_
        refine WC_loopk (fun sv ρ wd750 => ∃ (x757 : Int) (x763 : Int) (x764 : Int), (x757, x763, x764) = sv ∧ ρ 1 = v_p_String ∧ ρ 2 = (.pointer (some ⟨b3, 0, none⟩)) ∧ ρ 4 = (.pointer (some ⟨b11, 0, none⟩)) ∧ ρ 12 = (.pointer (some ⟨b478, 0, none⟩)) ∧ ρ 13 = (.int .i64 x757) ∧ SlRd ((.pointer (some ⟨b478, 0, none⟩)) :: (.pointer (some ⟨b11, 0, none⟩)) :: L) wd750 v_p_String p_String ∧ Box wd750 b11 [(.int .i64 0), (.int .i64 0)] 36 ∧ Box wd750 b3 [(.int .i64 p_Listappend.Lo), (.int .i64 p_Listappend.Hi)] 36 ∧ Box wd750 b478 [(.int .i64 x763), (.int .i64 x764)] 36 ∧ Ext w wd750) hl778 ⟨1, el472.Place.Lo, el472.Place.Hi, rfl, hs376, hs377, hs378, rfl, rfl, h492, h493, h494, hB491, e495⟩ ?_
        rintro _ ρ wd750 ⟨x757, x763, x764, rfl, hs753, hs754, hs755, hs756, hs758, h752, hB760, hB762, hB766, e751⟩ x780 h hx781 K782 hK782
        refine WC_seqK fun K785 hK785 => ?_
        refine WC_seqK fun K786 hK786 => ?_
        refine WC_region ?_
        refine T0_q (v := (.int .i64 x757)) rfl (yl_move hs758) ?_
        refine T0_q (v := v_p_String) rfl (yl_move hs753) ?_
        refine T0_q (v := (.int .i64 (p_String.length : Int))) rfl (yl_lenR rfl Tryd.underlying99 h752 rfl) ?_
        refine T0_q (v := (.bool (decide (x757 < (p_String.length : Int))))) rfl (yl_lss rfl rfl) ?_
        refine T0_nil ?_
        refine hK786 _ _ ?_
        refine WC_cond (b := (decide (x757 < (p_String.length : Int)))) rfl (fun hb787 => ?_) (fun hb787 => ?_)
        · replace h := cond_t hb787 h
          refine WC_skip ?_
          refine hK785 _ _ ?_
          refine WC_seqK fun K788 hK788 => ?_
          refine WC_block ?_
          refine WC_seqK fun K789 hK789 => ?_
          refine WC_plan mixed (.p 2 (.p 3 (.p 4 (.p 5 (.p 7 (.p 8 (.p 9 (.p 10 (.p 11 (.q 0 (.q 1 (.q 6 (.q 12 (.p 13 (.e 14 (.b 15 .done)))))))))))))))) (by kernel_rfl) ?_
          intro wd790 he791
          have e792 := e751.trans he791
          refine TP_p (v := v_p_String) rfl rfl (fun w' => (yl_move hs753)) ?_
          refine TP_p (v := (.int .i64 x757)) rfl rfl (fun w' => (yl_move hs758)) ?_
          obtain ⟨el793, hel794, h⟩ := bind_elim h
          obtain ⟨cs795, hat796, hrd797⟩ := SlRd.at h752 hel794
          have hrd797 : cs795 = [(.int .i64 el793.At), (.int .i64 el793.Place.Lo), (.int .i64 el793.Place.Hi)] := hrd797
          subst hrd797
          refine TP_p (v := (.pointer (some (elemAddr v_p_String (x757 : Int).toNat 3)))) rfl rfl (fun w' => (yl_indexAddr Tryd.underlying99 sz110 h752 hel794 rfl rfl)) ?_
          refine TP_p (v := (.pointer (some (elemAddr v_p_String (x757 : Int).toNat 3)))) rfl rfl (fun w' => (yl_fa 0 Tryd.underlying110 rfl rfl ⟨0, sz3⟩ rfl rfl)) ?_
          refine TP_p (v := v_p_String) rfl rfl (fun w' => (yl_move hs753)) ?_
          refine TP_p (v := (.int .i64 x757)) rfl rfl (fun w' => (yl_move hs758)) ?_
          refine TP_p (v := (.int .i64 (w64 (x757 - 1)))) rfl rfl (fun w' => (yl_sub rfl rfl)) ?_
          obtain ⟨el799, hel800, h⟩ := bind_elim h
          obtain ⟨cs801, hat802, hrd803⟩ := SlRd.at h752 hel800
          have hrd803 : cs801 = [(.int .i64 el799.At), (.int .i64 el799.Place.Lo), (.int .i64 el799.Place.Hi)] := hrd803
          subst hrd803
          refine TP_p (v := (.pointer (some (elemAddr v_p_String (w64 (x757 - 1) : Int).toNat 3)))) rfl rfl (fun w' => (yl_indexAddr Tryd.underlying99 sz110 h752 hel800 rfl rfl)) ?_
          refine TP_p (v := (.pointer (some (elemAddr v_p_String (w64 (x757 - 1) : Int).toNat 3)))) rfl rfl (fun w' => (yl_fa 0 Tryd.underlying110 rfl rfl ⟨0, sz3⟩ rfl rfl)) ?_
          refine TP_q (v := (.agg (List.toArray [(.int .i64 x763), (.int .i64 x764)]))) rfl rfl (fun w' hS => (yl_loadA (cs := [(.int .i64 x763), (.int .i64 x764)]) ag36 hs756 (Box.at (hB766.ext ((he791).trans hS))))) ?_
          refine TP_q (v := (.agg (List.toArray [(.int .i64 p_Listappend.Lo), (.int .i64 p_Listappend.Hi)]))) rfl rfl (fun w' hS => (yl_loadA (cs := [(.int .i64 p_Listappend.Lo), (.int .i64 p_Listappend.Hi)]) ag36 hs754 (Box.at (hB762.ext ((he791).trans hS))))) ?_
          refine TP_q (v := (.int .i64 el793.At)) rfl rfl (fun w' hS => (yl_load sc3 rfl (hat796.ext' ((he791).trans hS)))) ?_
          refine TP_q (v := (.int .i64 el799.At)) rfl rfl (fun w' hS => (yl_load sc3 rfl (hat802.ext' ((he791).trans hS)))) ?_
          refine TP_p (v := (.int .i64 (w64 (el793.At - el799.At)))) rfl rfl (fun w' => (yl_sub rfl rfl)) ?_
          obtain ⟨r805, hr806, h⟩ := bind_elim h
          refine TP_e rfl rfl (eff_call Tryd.func110 nm110 rfl (ev3 rfl rfl rfl) (locate_moved_ok [] _ (LtL.nil _) [(.int .i64 x763), (.int .i64 x764)] (Range.mk x763 x764) rfl [(.int .i64 p_Listappend.Lo), (.int .i64 p_Listappend.Hi)] p_Listappend rfl (w64 (el793.At - el799.At)) r805 hr806) ?_)
          rintro _ wd807 ⟨he808, cs809, rfl, hrd810⟩
          have e811 := he791.trans he808
          have e812 := e792.trans he808
          have hrd810 : cs809 = [(.int .i64 r805.Lo), (.int .i64 r805.Hi)] := hrd810
          subst hrd810
          refine ⟨he808, ?_⟩
          refine TP_b rfl rfl (eff_storeC (vs := [(.int .i64 r805.Lo), (.int .i64 r805.Hi)]) (cs' := [(.int .i64 r805.Lo), (.int .i64 r805.Hi)]) sz36 rfl rfl hs756 rfl (hB766.ext e811) rfl (oc_cons rfl (oc_cons rfl oc_nil)) rfl ?_)
          intro wd813 hc814 hB815
          have h816 := (h752.ext e811).step (Stepp.chg_mem hc814 mem0)
          have h817 := (hB760.ext e811).chg hc814 (avoidb hn483)
          have h818 := (hB762.ext e811).chg hc814 (avoidb hn484)
          have e819 := chg_box e812 hc814 hbf485
          refine TP_done ?_
          refine hK789 _ _ ?_
          refine WC_seqK fun K820 hK820 => ?_
          refine WC_plan mixed (.p 0 (.p 2 (.p 3 (.p 4 (.p 5 (.p 6 (.p 9 (.p 11 (.p 12 (.p 13 (.p 14 (.p 15 (.q 1 (.q 7 (.p 8 (.q 10 (.q 16 (.p 17 (.p 18 (.b 19 .done)))))))))))))))))))) (by kernel_rfl) ?_
          intro wd821 he822
          have e823 := e819.trans he822
          refine TP_p (v := (.pointer (some ⟨b478, 0, none⟩))) rfl rfl (fun w' => (yl_fa 0 Tryd.underlying36 rfl rfl ⟨0, sz3⟩ hs756 rfl)) ?_
          refine TP_p (v := v_p_String) rfl rfl (fun w' => (yl_move hs753)) ?_
          refine TP_p (v := (.int .i64 x757)) rfl rfl (fun w' => (yl_move hs758)) ?_
          obtain ⟨el824, hel825, h⟩ := bind_elim h
          obtain ⟨cs826, hat827, hrd828⟩ := SlRd.at h816 hel825
          have hrd828 : cs826 = [(.int .i64 el824.At), (.int .i64 el824.Place.Lo), (.int .i64 el824.Place.Hi)] := hrd828
          subst hrd828
          refine TP_p (v := (.pointer (some (elemAddr v_p_String (x757 : Int).toNat 3)))) rfl rfl (fun w' => (yl_indexAddr Tryd.underlying99 sz110 h816 hel825 rfl rfl)) ?_
          refine TP_p (v := (.pointer (some (Addr.add (elemAddr v_p_String (x757 : Int).toNat 3) 1)))) rfl rfl (fun w' => (yl_fa 1 Tryd.underlying110 rfl rfl ⟨1, sz36⟩ rfl rfl)) ?_
          refine TP_p (v := (.pointer (some (Addr.add (elemAddr v_p_String (x757 : Int).toNat 3) 1)))) rfl rfl (fun w' => (yl_fa 0 Tryd.underlying36 rfl rfl ⟨0, sz3⟩ rfl rfl)) ?_
          refine TP_p (v := (.pointer (some ⟨b478, 1, none⟩))) rfl rfl (fun w' => (yl_fa 1 Tryd.underlying36 rfl rfl ⟨0, sz3⟩ hs756 rfl)) ?_
          refine TP_p (v := v_p_String) rfl rfl (fun w' => (yl_move hs753)) ?_
          refine TP_p (v := (.int .i64 x757)) rfl rfl (fun w' => (yl_move hs758)) ?_
          obtain ⟨el830, hel831, h⟩ := bind_elim h
          obtain ⟨cs832, hat833, hrd834⟩ := SlRd.at h816 hel831
          have hrd834 : cs832 = [(.int .i64 el830.At), (.int .i64 el830.Place.Lo), (.int .i64 el830.Place.Hi)] := hrd834
          subst hrd834
          refine TP_p (v := (.pointer (some (elemAddr v_p_String (x757 : Int).toNat 3)))) rfl rfl (fun w' => (yl_indexAddr Tryd.underlying99 sz110 h816 hel831 rfl rfl)) ?_
          refine TP_p (v := (.pointer (some (Addr.add (elemAddr v_p_String (x757 : Int).toNat 3) 1)))) rfl rfl (fun w' => (yl_fa 1 Tryd.underlying110 rfl rfl ⟨1, sz36⟩ rfl rfl)) ?_
          refine TP_p (v := (.pointer (some (Addr.add (elemAddr v_p_String (x757 : Int).toNat 3) 2)))) rfl rfl (fun w' => (yl_fa 1 Tryd.underlying36 rfl rfl ⟨0, sz3⟩ rfl rfl)) ?_
          refine TP_q (v := (.int .i64 r805.Lo)) rfl rfl (fun w' hS => (yl_load sc3 rfl (Box.at (hB815.ext ((he822).trans hS))))) ?_
          refine TP_q (v := (.int .i64 el824.Place.Lo)) rfl rfl (fun w' hS => (yl_load sc3 rfl (At.drop (hat827.ext' ((he822).trans hS)) 1))) ?_
          refine TP_p (v := (.int .i64 (if r805.Lo < el824.Place.Lo then el824.Place.Lo else r805.Lo))) rfl rfl (fun w' => (yl_max rfl rfl)) ?_
          refine TP_q (v := (.int .i64 r805.Hi)) rfl rfl (fun w' hS => (yl_load sc3 rfl (At.drop (Box.at (hB815.ext ((he822).trans hS))) 1))) ?_
          refine TP_q (v := (.int .i64 el830.Place.Hi)) rfl rfl (fun w' hS => (yl_load sc3 rfl (At.drop (hat833.ext' ((he822).trans hS)) 2))) ?_
          refine TP_p (v := (.int .i64 (if el830.Place.Hi < r805.Hi then el830.Place.Hi else r805.Hi))) rfl rfl (fun w' => (yl_min rfl rfl)) ?_
          refine TP_p (v := (.agg (List.toArray [(.int .i64 (if r805.Lo < el824.Place.Lo then el824.Place.Lo else r805.Lo)), (.int .i64 (if el830.Place.Hi < r805.Hi then el830.Place.Hi else r805.Hi))]))) rfl rfl (fun w' => (yl_buildC (cells := [(.int .i64 (if r805.Lo < el824.Place.Lo then el824.Place.Lo else r805.Lo)), (.int .i64 (if el830.Place.Hi < r805.Hi then el830.Place.Hi else r805.Hi))]) bi36 (pc_cons rfl rfl (pc_cons rfl rfl pc_nil)) rfl)) ?_
          refine TP_b rfl rfl (eff_storeC (vs := [(.int .i64 (if r805.Lo < el824.Place.Lo then el824.Place.Lo else r805.Lo)), (.int .i64 (if el830.Place.Hi < r805.Hi then el830.Place.Hi else r805.Hi))]) (cs' := [(.int .i64 (if r805.Lo < el824.Place.Lo then el824.Place.Lo else r805.Lo)), (.int .i64 (if el830.Place.Hi < r805.Hi then el830.Place.Hi else r805.Hi))]) sz36 rfl rfl hs756 rfl (hB815.ext he822) rfl (oc_cons rfl (oc_cons rfl oc_nil)) rfl ?_)
          intro wd836 hc837 hB838
          have h839 := (h816.ext he822).step (Stepp.chg_mem hc837 mem0)
          have h840 := (h817.ext he822).chg hc837 (avoidb hn483)
          have h841 := (h818.ext he822).chg hc837 (avoidb hn484)
          have e842 := chg_box e823 hc837 hbf485
          refine TP_done ?_
          refine hK820 _ _ ?_
          refine WC_seqK fun K843 hK843 => ?_
          refine WC_region ?_
          refine T0_q (v := (.pointer (some ⟨b478, 0, none⟩))) rfl (yl_fa 0 Tryd.underlying36 rfl rfl ⟨0, sz3⟩ hs756 rfl) ?_
          refine T0_q (v := (.int .i64 (if r805.Lo < el824.Place.Lo then el824.Place.Lo else r805.Lo))) rfl (yl_load sc3 rfl (Box.at hB838)) ?_
          refine T0_q (v := (.pointer (some ⟨b478, 1, none⟩))) rfl (yl_fa 1 Tryd.underlying36 rfl rfl ⟨0, sz3⟩ hs756 rfl) ?_
          refine T0_q (v := (.int .i64 (if el830.Place.Hi < r805.Hi then el830.Place.Hi else r805.Hi))) rfl (yl_load sc3 rfl (At.drop (Box.at hB838) 1)) ?_
          refine T0_q (v := (.bool (decide ((if el830.Place.Hi < r805.Hi then el830.Place.Hi else r805.Hi) < (if r805.Lo < el824.Place.Lo then el824.Place.Lo else r805.Lo))))) rfl (yl_gtr rfl rfl) ?_
          refine T0_nil ?_
          refine hK843 _ _ ?_
          refine WC_cond (b := (decide ((if el830.Place.Hi < r805.Hi then el830.Place.Hi else r805.Hi) < (if r805.Lo < el824.Place.Lo then el824.Place.Lo else r805.Lo)))) rfl (fun hb844 => ?_) (fun hb844 => ?_)
          · replace h := cond_t hb844 h
            refine WC_seqK fun K845 hK845 => ?_
            refine WC_region ?_
            refine T0_q (v := (.agg (List.toArray [(.int .i64 0), (.int .i64 0)]))) rfl (yl_buildC (cells := [(.int .i64 0), (.int .i64 0)]) bi36 pc_nil rfl) ?_
            refine T0_q (v := (.int .i64 x757)) rfl (yl_move hs758) ?_
            refine T0_e rfl (eff_storeC (vs := [(.int .i64 0), (.int .i64 0)]) (cs' := [(.int .i64 0), (.int .i64 0)]) sz36 rfl rfl hs755 rfl h840 rfl (oc_cons rfl (oc_cons rfl oc_nil)) rfl ?_)
            intro wd846 hc847 hB848
            have h849 := h839.step (Stepp.chg_mem hc847 (memS mem0))
            have h850 := h841.chg hc847 (avoidb hn16)
            have h851 := hB838.chg hc847 (avoidb hn483.symm)
            have e852 := chg_box e842 hc847 hbf17
            refine T0_q (v := (.int .i64 x757)) rfl (yl_assign rfl) ?_
            refine T0_q (v := (.int .i64 13)) rfl (yl_assign rfl) ?_
            refine T0_nil ?_
            refine hK845 _ _ ?_
            refine WC_ret ?_
            replace h := some_out h
            subst h
            have ho := hx781 _ rfl
            subst ho
            replace h := jn0_inl hn779
            replace h := some_out h
            subst h
            exact ⟨[(.agg (List.toArray [(.int .i64 0), (.int .i64 0)])), (.int .i64 x757), (.int .i64 13)], ⟨⟨_, hs755, run_loadVarA (cs := [(.int .i64 0), (.int .i64 0)]) ag36 (Box.at hB848)⟩, rfl, rfl, trivial⟩, e852, [(.int .i64 0), (.int .i64 0)], rfl, rfl⟩
          · replace h := cond_f hb844 h
            refine WC_skip ?_
            refine hK788 _ _ ?_
            refine WC_region ?_
            refine T0_q (v := (.int .i64 x757)) rfl (yl_move hs758) ?_
            refine T0_q (v := (.int .i64 (w64 (x757 + 1)))) rfl (yl_add rfl rfl) ?_
            refine T0_q (v := (.int .i64 (w64 (x757 + 1)))) rfl (yl_assign rfl) ?_
            refine T0_nil ?_
            replace h := some_out h
            subst h
            refine hK782 _ _ _ rfl ?_
            exact ⟨w64 (x757 + 1), (if r805.Lo < el824.Place.Lo then el824.Place.Lo else r805.Lo), (if el830.Place.Hi < r805.Hi then el830.Place.Hi else r805.Hi), rfl, hs753, hs754, hs755, hs756, rfl, h839, h840, h841, hB838, e842⟩
        · replace h := cond_f hb787 h
          refine WC_exit ?_
          replace h := some_out h
          subst h
          have ho := hx781 _ rfl
          subst ho
          refine hK783 _ _ ?_
          exact ⟨x763, x764, rfl, hs755, hs756, hB760, hB766, e751⟩
      · rintro ρ wd767 ⟨x773, x774, rfl, hs769, hs770, hB772, hB776, e768⟩
        replace h := jn0_inr hn779
        refine hK496 _ _ ?_
        refine WC_seqK fun K853 hK853 => ?_
        refine WC_region ?_
        refine T0_q (v := (.agg (List.toArray [(.int .i64 x773), (.int .i64 x774)]))) rfl (yl_loadA (cs := [(.int .i64 x773), (.int .i64 x774)]) ag36 hs770 (Box.at hB776)) ?_
        refine T0_e rfl (eff_storeC (vs := [(.int .i64 x773), (.int .i64 x774)]) (cs' := [(.int .i64 x773), (.int .i64 x774)]) sz36 rfl rfl hs769 rfl hB772 rfl (oc_cons rfl (oc_cons rfl oc_nil)) rfl ?_)
        intro wd854 hc855 hB856
        have h857 := hB776.chg hc855 (avoidb hn483.symm)
        have e858 := chg_box e768 hc855 hbf17
        refine T0_q (v := (.int .i64 0)) rfl (yl_assign rfl) ?_
        refine T0_q (v := (.int .i64 0)) rfl (yl_assign rfl) ?_
        refine T0_nil ?_
        refine hK853 _ _ ?_
        refine WC_ret ?_
        replace h := some_out h
        subst h
        exact ⟨[(.agg (List.toArray [(.int .i64 x773), (.int .i64 x774)])), (.int .i64 0), (.int .i64 0)], ⟨⟨_, hs769, run_loadVarA (cs := [(.int .i64 x773), (.int .i64 x774)]) ag36 (Box.at hB856)⟩, rfl, rfl, trivial⟩, e858, [(.int .i64 x773), (.int .i64 x774)], rfl, rfl⟩

end Go.Gw
