/- What functions come to, printed by a program of this work. No condition. -/
import Derived.Test.YtgpapebgdnimfaaGwSortE
set_option maxRecDepth 4096
set_option maxHeartbeats 1000000
set_option linter.unusedVariables false
namespace Go.Gw
open Go Go.Proofs
attribute [local irreducible] T0 TS TT TP Eff Stp WC Quiet gd
noncomputable def base_Within_spec (p_n : Int) (p_lo : Int) (p_hi : Int) : Option Bool :=
  some ((decide (p_lo ≤ p_n)) && (decide (p_n ≤ p_hi)))
theorem base_Within_ok (L : List Value) (w : World) (hL : LtL L w) (p_n : Int) (p_lo : Int) (p_hi : Int) (r : Bool) (h : base_Within_spec p_n p_lo p_hi = some r) :
    CallsTo Try.prog 7 [(.int .i64 p_n), (.int .i64 p_lo), (.int .i64 p_hi)] w (fun v w' => Ext w w' ∧ (.bool r) = v) := by
  have e0 : Ext w w := Chg.refl _ _
  refine callsTo_of_WC (n := 15) (rs := [.tmp 6]) Try.func7 rfl rfl rfl rfl rfl ?_
  refine WC_seqK fun K1 hK1 => ?_
  refine WC_region ?_
  refine T0_q (v := (.bool false)) rfl (yl_assign rfl) ?_
  refine T0_nil ?_
  refine hK1 _ _ ?_
  refine WC_seqK fun K2 hK2 => ?_
  refine WC_region ?_
  refine T0_q (v := (.int .i64 p_lo)) rfl (yl_move rfl) ?_
  refine T0_q (v := (.int .i64 p_n)) rfl (yl_move rfl) ?_
  refine T0_q (v := (.bool (decide (p_lo ≤ p_n)))) rfl (yl_leq rfl rfl) ?_
  refine T0_q (v := (.bool (decide (p_lo ≤ p_n)))) rfl (yl_move rfl) ?_
  refine T0_g (v := (.int .i64 p_n)) (decide (p_lo ≤ p_n)) (wanted_t rfl rfl rfl rfl) (fun hg => (yl_move rfl)) ?_
  refine T0_g (v := (.int .i64 p_hi)) (decide (p_lo ≤ p_n)) (wanted_t rfl rfl rfl rfl) (fun hg => (yl_move rfl)) ?_
  refine T0_g (v := (.bool (decide (p_n ≤ p_hi)))) (decide (p_lo ≤ p_n)) (wanted_t rfl rfl rfl rfl) (fun hg => (yl_leq (gd_true hg) (gd_true hg))) ?_
  refine T0_q (v := (.bool ((decide (p_lo ≤ p_n)) && (decide (p_n ≤ p_hi))))) rfl (yl_and rfl (fun hb => (gd_true hb)) rfl) ?_
  refine T0_q (v := (.bool ((decide (p_lo ≤ p_n)) && (decide (p_n ≤ p_hi))))) rfl (yl_assign rfl) ?_
  refine T0_nil ?_
  refine hK2 _ _ ?_
  refine WC_ret ?_
  replace h := some_out h
  subst h
  exact ⟨[(.bool ((decide (p_lo ≤ p_n)) && (decide (p_n ≤ p_hi))))], ⟨rfl, trivial⟩, e0, rfl⟩

noncomputable def ref04_RangeErr_spec (p_x : Range) : Option Int :=
  (Option.bind (base_Within_spec p_x.Lo 0 1000000000) fun r12 =>
  (Option.bind (bif (!(!r12)) then base_Within_spec p_x.Hi 0 1000000000 else some default) fun r17 =>
  (bif ((!r12) || (!r17)) then (
    some 2
  ) else (
    (bif (decide (p_x.Hi < p_x.Lo)) then (
      some 9
    ) else (
      some 0
    ))
  ))
  )
  )
theorem ref04_RangeErr_ok (L : List Value) (w : World) (hL : LtL L w) (cs_p_x : List Value) (p_x : Range) (h_p_x : Rep.rd L w cs_p_x p_x) (r : Int) (h : ref04_RangeErr_spec p_x = some r) :
    CallsTo Try.prog 11 [(.agg cs_p_x.toArray)] w (fun v w' => Ext w w' ∧ (.int .i64 r) = v) := by
  have e0 : Ext w w := Chg.refl _ _
  have h_p_x : cs_p_x = [(.int .i64 p_x.Lo), (.int .i64 p_x.Hi)] := h_p_x
  subst h_p_x
  refine callsTo_of_WC (n := 18) (rs := [.tmp 2]) Try.func11 rfl rfl rfl rfl rfl ?_
  refine WC_seqK fun K1 hK1 => ?_
  refine WC_region ?_
  refine T0_e rfl (eff_boxC (cs := [(.int .i64 p_x.Lo), (.int .i64 p_x.Hi)]) rfl rfl ?_)
  intro b2 wd3 hb4 he5 hB6
  have hbf7 := bfresh e0 hb4
  have e8 := e0.trans he5
  refine T0_q (v := (.int .i64 0)) rfl (yl_assign rfl) ?_
  refine T0_nil ?_
  refine hK1 _ _ ?_
  refine WC_seqK fun K10 hK10 => ?_
  refine WC_seqK fun K11 hK11 => ?_
  refine WC_region ?_
  refine T0_q (v := (.pointer (some ⟨b2, 0, none⟩))) rfl (yl_fa 0 Try.underlying35 rfl rfl ⟨0, sz3⟩ rfl rfl) ?_
  refine T0_q (v := (.int .i64 p_x.Lo)) rfl (yl_load sc3 rfl (Box.at hB6)) ?_
  obtain ⟨r12, hr13, h⟩ := bind_elim h
  refine T0_e rfl (eff_call Try.func7 nm7 rfl (ev3 rfl rfl rfl) (base_Within_ok [] _ (LtL.nil _) p_x.Lo 0 1000000000 r12 hr13) ?_)
  rintro _ wd14 ⟨he15, rfl⟩
  have e16 := e8.trans he15
  refine T0_q (v := (.bool (!r12))) rfl (yl_not rfl) ?_
  refine T0_q (v := (.bool (!r12))) rfl (yl_move rfl) ?_
  refine T0_g (v := (.pointer (some ⟨b2, 1, none⟩))) (!(!r12)) (wanted_f rfl rfl rfl rfl) (fun hg => (yl_fa 1 Try.underlying35 rfl rfl ⟨0, sz3⟩ rfl rfl)) ?_
  refine T0_g (v := (.int .i64 p_x.Hi)) (!(!r12)) (wanted_f rfl rfl rfl rfl) (fun hg => (yl_load sc3 (gd_true hg) (At.drop (Box.at (hB6.ext he15)) 1))) ?_
  obtain ⟨r17, hr18, h⟩ := bind_elim h
  refine T0_ges (!(!r12)) (.bool r17) (wanted_f rfl rfl rfl rfl) (fun hg => eff_call Try.func7 nm7 rfl (ev3 (gd_true hg) rfl rfl) (base_Within_ok [] _ (LtL.nil _) p_x.Hi 0 1000000000 r17 (cond_t hg hr18)) (by rintro _ wd19 ⟨he20, rfl⟩; exact ⟨rfl, he20⟩)) ?_
  intro wd19 he20
  have e21 := he15.trans he20
  have e22 := e16.trans he20
  refine T0_g (v := (.bool (!r17))) (!(!r12)) (wanted_f rfl rfl rfl rfl) (fun hg => (yl_not (gd_true hg))) ?_
  refine T0_q (v := (.bool ((!r12) || (!r17)))) rfl (yl_or rfl rfl (fun hb => (gd_true (not_t hb)))) ?_
  refine T0_nil ?_
  refine hK11 _ _ ?_
  refine WC_cond (b := ((!r12) || (!r17))) rfl (fun hb23 => ?_) (fun hb23 => ?_)
  · replace h := cond_t hb23 h
    refine WC_seqK fun K24 hK24 => ?_
    refine WC_region ?_
    refine T0_q (v := (.int .i64 2)) rfl (yl_assign rfl) ?_
    refine T0_nil ?_
    refine hK24 _ _ ?_
    refine WC_ret ?_
    replace h := some_out h
    subst h
    exact ⟨[(.int .i64 2)], ⟨rfl, trivial⟩, e22, rfl⟩
  · replace h := cond_f hb23 h
    refine WC_skip ?_
    refine hK10 _ _ ?_
    refine WC_seqK fun K25 hK25 => ?_
    refine WC_seqK fun K26 hK26 => ?_
    refine WC_region ?_
    refine T0_q (v := (.pointer (some ⟨b2, 0, none⟩))) rfl (yl_fa 0 Try.underlying35 rfl rfl ⟨0, sz3⟩ rfl rfl) ?_
    refine T0_q (v := (.int .i64 p_x.Lo)) rfl (yl_load sc3 rfl (Box.at (hB6.ext e21))) ?_
    refine T0_q (v := (.pointer (some ⟨b2, 1, none⟩))) rfl (yl_fa 1 Try.underlying35 rfl rfl ⟨0, sz3⟩ rfl rfl) ?_
    refine T0_q (v := (.int .i64 p_x.Hi)) rfl (yl_load sc3 rfl (At.drop (Box.at (hB6.ext e21)) 1)) ?_
    refine T0_q (v := (.bool (decide (p_x.Hi < p_x.Lo)))) rfl (yl_gtr rfl rfl) ?_
    refine T0_nil ?_
    refine hK26 _ _ ?_
    refine WC_cond (b := (decide (p_x.Hi < p_x.Lo))) rfl (fun hb27 => ?_) (fun hb27 => ?_)
    · replace h := cond_t hb27 h
      refine WC_seqK fun K28 hK28 => ?_
      refine WC_region ?_
      refine T0_q (v := (.int .i64 9)) rfl (yl_assign rfl) ?_
      refine T0_nil ?_
      refine hK28 _ _ ?_
      refine WC_ret ?_
      replace h := some_out h
      subst h
      exact ⟨[(.int .i64 9)], ⟨rfl, trivial⟩, e22, rfl⟩
    · replace h := cond_f hb27 h
      refine WC_skip ?_
      refine hK25 _ _ ?_
      refine WC_seqK fun K29 hK29 => ?_
      refine WC_region ?_
      refine T0_q (v := (.int .i64 0)) rfl (yl_assign rfl) ?_
      refine T0_nil ?_
      refine hK29 _ _ ?_
      refine WC_ret ?_
      replace h := some_out h
      subst h
      exact ⟨[(.int .i64 0)], ⟨rfl, trivial⟩, e22, rfl⟩

noncomputable def base_Floor_spec (p_n : Int) (p_by : Int) : Option Int :=
  (Option.bind (quo p_n p_by) fun q3 =>
  (Option.bind (rem p_n p_by) fun q7 =>
  (bif (decide (q7 < 0)) then (
    some (w64 (q3 - 1))
  ) else (
    some q3
  ))
  )
  )
theorem base_Floor_ok (L : List Value) (w : World) (hL : LtL L w) (p_n : Int) (p_by : Int) (r : Int) (h : base_Floor_spec p_n p_by = some r) :
    CallsTo Try.prog 15 [(.int .i64 p_n), (.int .i64 p_by)] w (fun v w' => Ext w w' ∧ (.int .i64 r) = v) := by
  have e0 : Ext w w := Chg.refl _ _
  refine callsTo_of_WC (n := 16) (rs := [.tmp 4]) Try.func15 rfl rfl rfl rfl rfl ?_
  refine WC_seqK fun K1 hK1 => ?_
  refine WC_region ?_
  refine T0_q (v := (.int .i64 0)) rfl (yl_assign rfl) ?_
  refine T0_nil ?_
  refine hK1 _ _ ?_
  refine WC_seqK fun K2 hK2 => ?_
  refine WC_region ?_
  refine T0_q (v := (.int .i64 p_n)) rfl (yl_move rfl) ?_
  refine T0_q (v := (.int .i64 p_by)) rfl (yl_move rfl) ?_
  obtain ⟨q3, hq4, h⟩ := bind_elim h
  refine T0_q (v := (.int .i64 q3)) rfl (yl_quo' hq4 rfl rfl) ?_
  refine T0_q (v := (.int .i64 q3)) rfl (yl_assign rfl) ?_
  refine T0_nil ?_
  refine hK2 _ _ ?_
  refine WC_seqK fun K5 hK5 => ?_
  refine WC_seqK fun K6 hK6 => ?_
  refine WC_region ?_
  refine T0_q (v := (.int .i64 p_n)) rfl (yl_move rfl) ?_
  refine T0_q (v := (.int .i64 p_by)) rfl (yl_move rfl) ?_
  obtain ⟨q7, hq8, h⟩ := bind_elim h
  refine T0_q (v := (.int .i64 q7)) rfl (yl_rem' hq8 rfl rfl) ?_
  refine T0_q (v := (.bool (decide (q7 < 0)))) rfl (yl_lss rfl rfl) ?_
  refine T0_nil ?_
  refine hK6 _ _ ?_
  refine WC_cond (b := (decide (q7 < 0))) rfl (fun hb9 => ?_) (fun hb9 => ?_)
  · replace h := cond_t hb9 h
    refine WC_region ?_
    refine T0_q (v := (.int .i64 q3)) rfl (yl_move rfl) ?_
    refine T0_q (v := (.int .i64 (w64 (q3 - 1)))) rfl (yl_sub rfl rfl) ?_
    refine T0_q (v := (.int .i64 (w64 (q3 - 1)))) rfl (yl_assign rfl) ?_
    refine T0_nil ?_
    refine hK5 _ _ ?_
    refine WC_seqK fun K10 hK10 => ?_
    refine WC_region ?_
    refine T0_q (v := (.int .i64 (w64 (q3 - 1)))) rfl (yl_move rfl) ?_
    refine T0_q (v := (.int .i64 (w64 (q3 - 1)))) rfl (yl_assign rfl) ?_
    refine T0_nil ?_
    refine hK10 _ _ ?_
    refine WC_ret ?_
    replace h := some_out h
    subst h
    exact ⟨[(.int .i64 (w64 (q3 - 1)))], ⟨rfl, trivial⟩, e0, rfl⟩
  · replace h := cond_f hb9 h
    refine WC_skip ?_
    refine hK5 _ _ ?_
    refine WC_seqK fun K11 hK11 => ?_
    refine WC_region ?_
    refine T0_q (v := (.int .i64 q3)) rfl (yl_move rfl) ?_
    refine T0_q (v := (.int .i64 q3)) rfl (yl_assign rfl) ?_
    refine T0_nil ?_
    refine hK11 _ _ ?_
    refine WC_ret ?_
    replace h := some_out h
    subst h
    exact ⟨[(.int .i64 q3)], ⟨rfl, trivial⟩, e0, rfl⟩

noncomputable def base_Ceil_spec (p_n : Int) (p_by : Int) : Option Int :=
  (Option.bind (base_Floor_spec (w64 (0 - p_n)) p_by) fun r3 =>
  some (w64 (0 - r3))
  )
theorem base_Ceil_ok (L : List Value) (w : World) (hL : LtL L w) (p_n : Int) (p_by : Int) (r : Int) (h : base_Ceil_spec p_n p_by = some r) :
    CallsTo Try.prog 16 [(.int .i64 p_n), (.int .i64 p_by)] w (fun v w' => Ext w w' ∧ (.int .i64 r) = v) := by
  have e0 : Ext w w := Chg.refl _ _
  refine callsTo_of_WC (n := 10) (rs := [.tmp 4]) Try.func16 rfl rfl rfl rfl rfl ?_
  refine WC_seqK fun K1 hK1 => ?_
  refine WC_region ?_
  refine T0_q (v := (.int .i64 0)) rfl (yl_assign rfl) ?_
  refine T0_nil ?_
  refine hK1 _ _ ?_
  refine WC_seqK fun K2 hK2 => ?_
  refine WC_region ?_
  refine T0_q (v := (.int .i64 p_n)) rfl (yl_move rfl) ?_
  refine T0_q (v := (.int .i64 (w64 (0 - p_n)))) rfl (yl_neg rfl) ?_
  refine T0_q (v := (.int .i64 p_by)) rfl (yl_move rfl) ?_
  obtain ⟨r3, hr4, h⟩ := bind_elim h
  refine T0_e rfl (eff_call Try.func15 nm15 rfl (ev2 rfl rfl) (base_Floor_ok [] _ (LtL.nil _) (w64 (0 - p_n)) p_by r3 hr4) ?_)
  rintro _ wd5 ⟨he6, rfl⟩
  have e7 := e0.trans he6
  refine T0_q (v := (.int .i64 (w64 (0 - r3)))) rfl (yl_neg rfl) ?_
  refine T0_q (v := (.int .i64 (w64 (0 - r3)))) rfl (yl_assign rfl) ?_
  refine T0_nil ?_
  refine hK2 _ _ ?_
  refine WC_ret ?_
  replace h := some_out h
  subst h
  exact ⟨[(.int .i64 (w64 (0 - r3)))], ⟨rfl, trivial⟩, e7, rfl⟩

noncomputable def ref04_SpeedErr_spec (p_x : Range) : Option Int :=
  (Option.bind (base_Within_spec p_x.Lo (-140000) 140000) fun r12 =>
  (Option.bind (bif (!(!r12)) then base_Within_spec p_x.Hi (-140000) 140000 else some default) fun r17 =>
  (bif ((!r12) || (!r17)) then (
    some 2
  ) else (
    (bif (decide (p_x.Hi < p_x.Lo)) then (
      some 9
    ) else (
      some 0
    ))
  ))
  )
  )
theorem ref04_SpeedErr_ok (L : List Value) (w : World) (hL : LtL L w) (cs_p_x : List Value) (p_x : Range) (h_p_x : Rep.rd L w cs_p_x p_x) (r : Int) (h : ref04_SpeedErr_spec p_x = some r) :
    CallsTo Try.prog 17 [(.agg cs_p_x.toArray)] w (fun v w' => Ext w w' ∧ (.int .i64 r) = v) := by
  have e0 : Ext w w := Chg.refl _ _
  have h_p_x : cs_p_x = [(.int .i64 p_x.Lo), (.int .i64 p_x.Hi)] := h_p_x
  subst h_p_x
  refine callsTo_of_WC (n := 18) (rs := [.tmp 2]) Try.func17 rfl rfl rfl rfl rfl ?_
  refine WC_seqK fun K1 hK1 => ?_
  refine WC_region ?_
  refine T0_e rfl (eff_boxC (cs := [(.int .i64 p_x.Lo), (.int .i64 p_x.Hi)]) rfl rfl ?_)
  intro b2 wd3 hb4 he5 hB6
  have hbf7 := bfresh e0 hb4
  have e8 := e0.trans he5
  refine T0_q (v := (.int .i64 0)) rfl (yl_assign rfl) ?_
  refine T0_nil ?_
  refine hK1 _ _ ?_
  refine WC_seqK fun K10 hK10 => ?_
  refine WC_seqK fun K11 hK11 => ?_
  refine WC_region ?_
  refine T0_q (v := (.pointer (some ⟨b2, 0, none⟩))) rfl (yl_fa 0 Try.underlying35 rfl rfl ⟨0, sz3⟩ rfl rfl) ?_
  refine T0_q (v := (.int .i64 p_x.Lo)) rfl (yl_load sc3 rfl (Box.at hB6)) ?_
  obtain ⟨r12, hr13, h⟩ := bind_elim h
  refine T0_e rfl (eff_call Try.func7 nm7 rfl (ev3 rfl rfl rfl) (base_Within_ok [] _ (LtL.nil _) p_x.Lo (-140000) 140000 r12 hr13) ?_)
  rintro _ wd14 ⟨he15, rfl⟩
  have e16 := e8.trans he15
  refine T0_q (v := (.bool (!r12))) rfl (yl_not rfl) ?_
  refine T0_q (v := (.bool (!r12))) rfl (yl_move rfl) ?_
  refine T0_g (v := (.pointer (some ⟨b2, 1, none⟩))) (!(!r12)) (wanted_f rfl rfl rfl rfl) (fun hg => (yl_fa 1 Try.underlying35 rfl rfl ⟨0, sz3⟩ rfl rfl)) ?_
  refine T0_g (v := (.int .i64 p_x.Hi)) (!(!r12)) (wanted_f rfl rfl rfl rfl) (fun hg => (yl_load sc3 (gd_true hg) (At.drop (Box.at (hB6.ext he15)) 1))) ?_
  obtain ⟨r17, hr18, h⟩ := bind_elim h
  refine T0_ges (!(!r12)) (.bool r17) (wanted_f rfl rfl rfl rfl) (fun hg => eff_call Try.func7 nm7 rfl (ev3 (gd_true hg) rfl rfl) (base_Within_ok [] _ (LtL.nil _) p_x.Hi (-140000) 140000 r17 (cond_t hg hr18)) (by rintro _ wd19 ⟨he20, rfl⟩; exact ⟨rfl, he20⟩)) ?_
  intro wd19 he20
  have e21 := he15.trans he20
  have e22 := e16.trans he20
  refine T0_g (v := (.bool (!r17))) (!(!r12)) (wanted_f rfl rfl rfl rfl) (fun hg => (yl_not (gd_true hg))) ?_
  refine T0_q (v := (.bool ((!r12) || (!r17)))) rfl (yl_or rfl rfl (fun hb => (gd_true (not_t hb)))) ?_
  refine T0_nil ?_
  refine hK11 _ _ ?_
  refine WC_cond (b := ((!r12) || (!r17))) rfl (fun hb23 => ?_) (fun hb23 => ?_)
  · replace h := cond_t hb23 h
    refine WC_seqK fun K24 hK24 => ?_
    refine WC_region ?_
    refine T0_q (v := (.int .i64 2)) rfl (yl_assign rfl) ?_
    refine T0_nil ?_
    refine hK24 _ _ ?_
    refine WC_ret ?_
    replace h := some_out h
    subst h
    exact ⟨[(.int .i64 2)], ⟨rfl, trivial⟩, e22, rfl⟩
  · replace h := cond_f hb23 h
    refine WC_skip ?_
    refine hK10 _ _ ?_
    refine WC_seqK fun K25 hK25 => ?_
    refine WC_seqK fun K26 hK26 => ?_
    refine WC_region ?_
    refine T0_q (v := (.pointer (some ⟨b2, 0, none⟩))) rfl (yl_fa 0 Try.underlying35 rfl rfl ⟨0, sz3⟩ rfl rfl) ?_
    refine T0_q (v := (.int .i64 p_x.Lo)) rfl (yl_load sc3 rfl (Box.at (hB6.ext e21))) ?_
    refine T0_q (v := (.pointer (some ⟨b2, 1, none⟩))) rfl (yl_fa 1 Try.underlying35 rfl rfl ⟨0, sz3⟩ rfl rfl) ?_
    refine T0_q (v := (.int .i64 p_x.Hi)) rfl (yl_load sc3 rfl (At.drop (Box.at (hB6.ext e21)) 1)) ?_
    refine T0_q (v := (.bool (decide (p_x.Hi < p_x.Lo)))) rfl (yl_gtr rfl rfl) ?_
    refine T0_nil ?_
    refine hK26 _ _ ?_
    refine WC_cond (b := (decide (p_x.Hi < p_x.Lo))) rfl (fun hb27 => ?_) (fun hb27 => ?_)
    · replace h := cond_t hb27 h
      refine WC_seqK fun K28 hK28 => ?_
      refine WC_region ?_
      refine T0_q (v := (.int .i64 9)) rfl (yl_assign rfl) ?_
      refine T0_nil ?_
      refine hK28 _ _ ?_
      refine WC_ret ?_
      replace h := some_out h
      subst h
      exact ⟨[(.int .i64 9)], ⟨rfl, trivial⟩, e22, rfl⟩
    · replace h := cond_f hb27 h
      refine WC_skip ?_
      refine hK25 _ _ ?_
      refine WC_seqK fun K29 hK29 => ?_
      refine WC_region ?_
      refine T0_q (v := (.int .i64 0)) rfl (yl_assign rfl) ?_
      refine T0_nil ?_
      refine hK29 _ _ ?_
      refine WC_ret ?_
      replace h := some_out h
      subst h
      exact ⟨[(.int .i64 0)], ⟨rfl, trivial⟩, e22, rfl⟩

noncomputable def ref04_CopyFixes_spec (p_l : (List LocateFix)) : Option (List LocateFix) :=
  (Option.bind (app ([] : List LocateFix) p_l) fun zs14 =>
  some zs14
  )
theorem ref04_CopyFixes_ok (L : List Value) (w : World) (hL : LtL L w) (v_p_l : Value) (p_l : (List LocateFix)) (h_p_l : SlRd L w v_p_l p_l) (r : (List LocateFix)) (h : ref04_CopyFixes_spec p_l = some r) :
    CallsTo Try.prog 19 [v_p_l] w (fun v w' => Ext w w' ∧ ∃ (v0 : Value), v0 = v ∧ SlRd L w' v0 r) := by
  have e0 : Ext w w := Chg.refl _ _
  refine callsTo_of_WC (n := 6) (rs := [.tmp 2]) Try.func19 rfl rfl rfl rfl rfl ?_
  refine WC_seqK fun K2 hK2 => ?_
  refine WC_region ?_
  refine T0_q (v := (.slice none 0 0)) rfl (yl_assign rfl) ?_
  refine T0_nil ?_
  refine hK2 _ _ ?_
  refine WC_seqK fun K3 hK3 => ?_
  refine WC_region ?_
  refine T0_e rfl (eff_buildOC (L := L) (xs := ([] : List LocateFix)) (cells := []) Try.underlying32 ei51 rfl pc_nil rfl Elems.nil rfl ?_)
  intro v7 wd4 he5 hf8 h6
  have h9 := h_p_l.step (Stepp.add v7 he5 hf8)
  have hf11 : ∀ b, blk v7 = some b → w.heap.size ≤ b := fun b hb => Nat.le_trans e0.size (hf8 b hb)
  have e12 := e0.trans he5
  refine T0_q (v := v_p_l) rfl (yl_move rfl) ?_
  obtain ⟨zs14, hz15, h⟩ := bind_elim h
  refine T0_e rfl (eff_app Try.underlying32 ei51 rfl rfl rfl rfl h6 h9 hz15 ?_)
  intro v16 wd17 hc18 hbl19 h20
  have hf22 := fresh_swap hbl19 hf11 e12.size
  have h23 := h9.step (Stepp.swap hc18 hbl19)
  have e24 := chg_own e12 hc18 hf11
  refine T0_q (v := v16) rfl (yl_assign rfl) ?_
  refine T0_nil ?_
  refine hK3 _ _ ?_
  refine WC_ret ?_
  replace h := some_out h
  subst h
  exact ⟨[v16], ⟨rfl, trivial⟩, e24, v16, rfl, (h20.rdL (sub_skip (sub_refl _)) hL hf22)⟩

noncomputable def base_CopyRanges_spec (p_l : (List Range)) : Option (List Range) :=
  (Option.bind (app ([] : List Range) p_l) fun zs14 =>
  some zs14
  )
theorem base_CopyRanges_ok (L : List Value) (w : World) (hL : LtL L w) (v_p_l : Value) (p_l : (List Range)) (h_p_l : SlRd L w v_p_l p_l) (r : (List Range)) (h : base_CopyRanges_spec p_l = some r) :
    CallsTo Try.prog 21 [v_p_l] w (fun v w' => Ext w w' ∧ ∃ (v0 : Value), v0 = v ∧ SlRd L w' v0 r) := by
  have e0 : Ext w w := Chg.refl _ _
  refine callsTo_of_WC (n := 6) (rs := [.tmp 2]) Try.func21 rfl rfl rfl rfl rfl ?_
  refine WC_seqK fun K2 hK2 => ?_
  refine WC_region ?_
  refine T0_q (v := (.slice none 0 0)) rfl (yl_assign rfl) ?_
  refine T0_nil ?_
  refine hK2 _ _ ?_
  refine WC_seqK fun K3 hK3 => ?_
  refine WC_region ?_
  refine T0_e rfl (eff_buildOC (L := L) (xs := ([] : List Range)) (cells := []) Try.underlying33 ei35 rfl pc_nil rfl Elems.nil rfl ?_)
  intro v7 wd4 he5 hf8 h6
  have h9 := h_p_l.step (Stepp.add v7 he5 hf8)
  have hf11 : ∀ b, blk v7 = some b → w.heap.size ≤ b := fun b hb => Nat.le_trans e0.size (hf8 b hb)
  have e12 := e0.trans he5
  refine T0_q (v := v_p_l) rfl (yl_move rfl) ?_
  obtain ⟨zs14, hz15, h⟩ := bind_elim h
  refine T0_e rfl (eff_app Try.underlying33 ei35 rfl rfl rfl rfl h6 h9 hz15 ?_)
  intro v16 wd17 hc18 hbl19 h20
  have hf22 := fresh_swap hbl19 hf11 e12.size
  have h23 := h9.step (Stepp.swap hc18 hbl19)
  have e24 := chg_own e12 hc18 hf11
  refine T0_q (v := v16) rfl (yl_assign rfl) ?_
  refine T0_nil ?_
  refine hK3 _ _ ?_
  refine WC_ret ?_
  replace h := some_out h
  subst h
  exact ⟨[v16], ⟨rfl, trivial⟩, e24, v16, rfl, (h20.rdL (sub_skip (sub_refl _)) hL hf22)⟩

noncomputable def ref04_CheckTrack_s0 (p_Listappend : LocateTrack) : (Int) → Option ((Int) ⊕ ((Int × Int) ⊕ (Unit))) := fun x113 =>
  (bif (decide (x113 < (p_Listappend.Vanes.length : Int))) then (
    (Option.bind (idx p_Listappend.Vanes x113) fun el137 =>
    (Option.bind (base_Within_spec el137 0 1) fun r143 =>
    (bif (!r143) then (
      some (.inr (.inl (x113, 15)))
    ) else (
      some (.inl (w64 (x113 + 1)))
    ))
    )
    )
  ) else (
    some (.inr (.inr ()))
  ))
noncomputable def ref04_CheckTrack_spec (p_Listappend : LocateTrack) : Option (Int × Int) :=
  (Option.bind (base_Within_spec p_Listappend.Window 1 12) fun r15 =>
  (bif (!r15) then (
    some (0, 2)
  ) else (
    (bif (decide ((p_Listappend.Vanes.length : Int) < p_Listappend.Window)) then (
      some (0, 10)
    ) else (
      (bif (decide (40 < (p_Listappend.Vanes.length : Int))) then (
        some (0, 8)
      ) else (
        (Option.bind (loop (ref04_CheckTrack_s0 p_Listappend) 0) fun o124 => jn0 o124 fun (_ : Unit) =>
        (Option.bind (base_Within_spec p_Listappend.Tooth 1 1000) fun r152 =>
        (Option.bind (bif (!(!r152)) then base_Within_spec p_Listappend.PerVane 1 12 else some default) fun r157 =>
        (Option.bind (bif (!((!r152) || (!r157))) then base_Within_spec p_Listappend.First 0 999000000 else some default) fun r163 =>
        (Option.bind (bif (!(((!r152) || (!r157)) || (!r163))) then base_Within_spec p_Listappend.Modulus 1 1000 else some default) fun r169 =>
        (Option.bind (bif (!((((!r152) || (!r157)) || (!r163)) || (!r169))) then base_Within_spec p_Listappend.Slack 0 p_Listappend.Modulus else some default) fun r175 =>
        (Option.bind (bif (!(((((!r152) || (!r157)) || (!r163)) || (!r169)) || (!r175))) then base_Within_spec p_Listappend.Errors 0 p_Listappend.Window else some default) fun r181 =>
        (bif ((((((!r152) || (!r157)) || (!r163)) || (!r169)) || (!r175)) || (!r181)) then (
          some (0, 2)
        ) else (
          some (0, 0)
        ))
        )
        )
        )
        )
        )
        )
        )
      ))
    ))
  ))
  )
theorem ref04_CheckTrack_ok (L : List Value) (w : World) (hL : LtL L w) (cs_p_Listappend : List Value) (p_Listappend : LocateTrack) (h_p_Listappend : Rep.rd L w cs_p_Listappend p_Listappend) (r : Int × Int) (h : ref04_CheckTrack_spec p_Listappend = some r) :
    CallsTo Try.prog 24 [(.agg cs_p_Listappend.toArray)] w (fun v w' => Ext w w' ∧ (.tuple #[(.int .i64 r.1), (.int .i64 r.2)]) = v) := by
  have e0 : Ext w w := Chg.refl _ _
  obtain ⟨v1, h2, rfl⟩ := h_p_Listappend
  refine callsTo_of_WC (n := 72) (rs := [.tmp 2, .tmp 3]) Try.func24 rfl rfl rfl rfl rfl ?_
  refine WC_seqK fun K4 hK4 => ?_
  refine WC_region ?_
  refine T0_e rfl (eff_boxC (cs := [v1, (.int .i64 p_Listappend.Window), (.int .i64 p_Listappend.Tooth), (.int .i64 p_Listappend.PerVane), (.int .i64 p_Listappend.First), (.int .i64 p_Listappend.Modulus), (.int .i64 p_Listappend.Slack), (.int .i64 p_Listappend.Errors), (.bool p_Listappend.Round)]) rfl rfl ?_)
  intro b5 wd6 hb7 he8 hB9
  have hbf10 := bfresh e0 hb7
  have e11 := e0.trans he8
  refine T0_q (v := (.int .i64 0)) rfl (yl_assign rfl) ?_
  refine T0_q (v := (.int .i64 0)) rfl (yl_assign rfl) ?_
  refine T0_nil ?_
  refine hK4 _ _ ?_
  refine WC_seqK fun K13 hK13 => ?_
  refine WC_seqK fun K14 hK14 => ?_
  refine WC_region ?_
  refine T0_q (v := (.pointer (some ⟨b5, 1, none⟩))) rfl (yl_fa 1 Try.underlying24 rfl rfl ⟨0, sz3⟩ rfl rfl) ?_
  refine T0_q (v := (.int .i64 p_Listappend.Window)) rfl (yl_load sc3 rfl (At.drop (Box.at hB9) 1)) ?_
  obtain ⟨r15, hr16, h⟩ := bind_elim h
  refine T0_e rfl (eff_call Try.func7 nm7 rfl (ev3 rfl rfl rfl) (base_Within_ok [] _ (LtL.nil _) p_Listappend.Window 1 12 r15 hr16) ?_)
  rintro _ wd17 ⟨he18, rfl⟩
  have e19 := he8.trans he18
  have e20 := e11.trans he18
  refine T0_q (v := (.bool (!r15))) rfl (yl_not rfl) ?_
  refine T0_nil ?_
  refine hK14 _ _ ?_
  refine WC_cond (b := (!r15)) rfl (fun hb21 => ?_) (fun hb21 => ?_)
  · replace h := cond_t hb21 h
    refine WC_seqK fun K22 hK22 => ?_
    refine WC_region ?_
    refine T0_q (v := (.int .i64 0)) rfl (yl_assign rfl) ?_
    refine T0_q (v := (.int .i64 2)) rfl (yl_assign rfl) ?_
    refine T0_nil ?_
    refine hK22 _ _ ?_
    refine WC_ret ?_
    replace h := some_out h
    subst h
    exact ⟨[(.int .i64 0), (.int .i64 2)], ⟨rfl, rfl, trivial⟩, e20, rfl⟩
  · replace h := cond_f hb21 h
    refine WC_skip ?_
    refine hK13 _ _ ?_
    refine WC_seqK fun K23 hK23 => ?_
    refine WC_seqK fun K24 hK24 => ?_
    refine WC_region ?_
    refine T0_q (v := (.pointer (some ⟨b5, 0, none⟩))) rfl (yl_fa 0 Try.underlying24 rfl rfl ⟨0, sz22⟩ rfl rfl) ?_
    refine T0_q (v := v1) rfl (yl_load sc22 rfl (Box.at (hB9.ext he18))) ?_
    refine T0_q (v := (.int .i64 (p_Listappend.Vanes.length : Int))) rfl (yl_lenR rfl Try.underlying22 h2 rfl) ?_
    refine T0_q (v := (.pointer (some ⟨b5, 1, none⟩))) rfl (yl_fa 1 Try.underlying24 rfl rfl ⟨0, sz3⟩ rfl rfl) ?_
    refine T0_q (v := (.int .i64 p_Listappend.Window)) rfl (yl_load sc3 rfl (At.drop (Box.at (hB9.ext he18)) 1)) ?_
    refine T0_q (v := (.bool (decide ((p_Listappend.Vanes.length : Int) < p_Listappend.Window)))) rfl (yl_lss rfl rfl) ?_
    refine T0_nil ?_
    refine hK24 _ _ ?_
    refine WC_cond (b := (decide ((p_Listappend.Vanes.length : Int) < p_Listappend.Window))) rfl (fun hb25 => ?_) (fun hb25 => ?_)
    · replace h := cond_t hb25 h
      refine WC_seqK fun K26 hK26 => ?_
      refine WC_region ?_
      refine T0_q (v := (.int .i64 0)) rfl (yl_assign rfl) ?_
      refine T0_q (v := (.int .i64 10)) rfl (yl_assign rfl) ?_
      refine T0_nil ?_
      refine hK26 _ _ ?_
      refine WC_ret ?_
      replace h := some_out h
      subst h
      exact ⟨[(.int .i64 0), (.int .i64 10)], ⟨rfl, rfl, trivial⟩, e20, rfl⟩
    · replace h := cond_f hb25 h
      refine WC_skip ?_
      refine hK23 _ _ ?_
      refine WC_seqK fun K27 hK27 => ?_
      refine WC_seqK fun K28 hK28 => ?_
      refine WC_region ?_
      refine T0_q (v := (.pointer (some ⟨b5, 0, none⟩))) rfl (yl_fa 0 Try.underlying24 rfl rfl ⟨0, sz22⟩ rfl rfl) ?_
      refine T0_q (v := v1) rfl (yl_load sc22 rfl (Box.at (hB9.ext he18))) ?_
      refine T0_q (v := (.int .i64 (p_Listappend.Vanes.length : Int))) rfl (yl_lenR rfl Try.underlying22 h2 rfl) ?_
      refine T0_q (v := (.bool (decide (40 < (p_Listappend.Vanes.length : Int))))) rfl (yl_gtr rfl rfl) ?_
      refine T0_nil ?_
      refine hK28 _ _ ?_
      refine WC_cond (b := (decide (40 < (p_Listappend.Vanes.length : Int)))) rfl (fun hb29 => ?_) (fun hb29 => ?_)
      · replace h := cond_t hb29 h
        refine WC_seqK fun K30 hK30 => ?_
        refine WC_region ?_
        refine T0_q (v := (.int .i64 0)) rfl (yl_assign rfl) ?_
        refine T0_q (v := (.int .i64 8)) rfl (yl_assign rfl) ?_
        refine T0_nil ?_
        refine hK30 _ _ ?_
        refine WC_ret ?_
        replace h := some_out h
        subst h
        exact ⟨[(.int .i64 0), (.int .i64 8)], ⟨rfl, rfl, trivial⟩, e20, rfl⟩
      · replace h := cond_f hb29 h
        refine WC_skip ?_
        refine hK27 _ _ ?_
        refine WC_seqK fun K31 hK31 => ?_
        refine WC_seqK fun K32 hK32 => ?_
        refine WC_region ?_
        refine T0_q (v := (.int .i64 0)) rfl (yl_assign rfl) ?_
        refine T0_nil ?_
        refine hK32 _ _ ?_
        obtain ⟨o124, hl125, hn126⟩ := bind_elim h
        refine WC_post (fun (ρ : Env) (wd118 : World) => .inr () = o124 ∧ ρ 1 = (.pointer (some ⟨b5, 0, none⟩)) ∧ SlRd L wd118 v1 p_Listappend.Vanes ∧ Box wd118 b5 [v1, (.int .i64 p_Listappend.Window), (.int .i64 p_Listappend.Tooth), (.int .i64 p_Listappend.PerVane), (.int .i64 p_Listappend.First), (.int .i64 p_Listappend.Modulus), (.int .i64 p_Listappend.Slack), (.int .i64 p_Listappend.Errors), (.bool p_Listappend.Round)] 24 ∧ Ext w wd118) ?_ ?_
        · intro K130 hK130
          refine WC_block ?_
          refine WC_loopk (fun sv ρ wd110 => ∃ (x113 : Int), x113 = sv ∧ ρ 1 = (.pointer (some ⟨b5, 0, none⟩)) ∧ ρ 4 = (.int .i64 x113) ∧ SlRd L wd110 v1 p_Listappend.Vanes ∧ Box wd110 b5 [v1, (.int .i64 p_Listappend.Window), (.int .i64 p_Listappend.Tooth), (.int .i64 p_Listappend.PerVane), (.int .i64 p_Listappend.First), (.int .i64 p_Listappend.Modulus), (.int .i64 p_Listappend.Slack), (.int .i64 p_Listappend.Errors), (.bool p_Listappend.Round)] 24 ∧ Ext w wd110) hl125 ⟨0, rfl, rfl, rfl, (h2.ext e19), (hB9.ext he18), e20⟩ ?_
          rintro _ ρ wd110 ⟨x113, rfl, hs112, hs114, h115, hB117, e111⟩ x127 h hx128 K129 hK129
          refine WC_seqK fun K132 hK132 => ?_
          refine WC_seqK fun K133 hK133 => ?_
          refine WC_region ?_
          refine T0_q (v := (.int .i64 x113)) rfl (yl_move hs114) ?_
          refine T0_q (v := (.pointer (some ⟨b5, 0, none⟩))) rfl (yl_fa 0 Try.underlying24 rfl rfl ⟨0, sz22⟩ hs112 rfl) ?_
          refine T0_q (v := v1) rfl (yl_load sc22 rfl (Box.at hB117)) ?_
          refine T0_q (v := (.int .i64 (p_Listappend.Vanes.length : Int))) rfl (yl_lenR rfl Try.underlying22 h115 rfl) ?_
          refine T0_q (v := (.bool (decide (x113 < (p_Listappend.Vanes.length : Int))))) rfl (yl_lss rfl rfl) ?_
          refine T0_nil ?_
          refine hK133 _ _ ?_
          refine WC_cond (b := (decide (x113 < (p_Listappend.Vanes.length : Int)))) rfl (fun hb134 => ?_) (fun hb134 => ?_)
          · replace h := cond_t hb134 h
            refine WC_skip ?_
            refine hK132 _ _ ?_
            refine WC_seqK fun K135 hK135 => ?_
            refine WC_block ?_
            refine WC_seqK fun K136 hK136 => ?_
            refine WC_region ?_
            refine T0_q (v := (.pointer (some ⟨b5, 0, none⟩))) rfl (yl_fa 0 Try.underlying24 rfl rfl ⟨0, sz22⟩ hs112 rfl) ?_
            refine T0_q (v := v1) rfl (yl_load sc22 rfl (Box.at hB117)) ?_
            refine T0_q (v := (.int .i64 x113)) rfl (yl_move hs114) ?_
            obtain ⟨el137, hel138, h⟩ := bind_elim h
            obtain ⟨cs139, hat140, hrd141⟩ := SlRd.at h115 hel138
            have hrd141 : cs139 = [(.int .i64 el137)] := hrd141
            subst hrd141
            refine T0_q (v := (.pointer (some (elemAddr v1 (x113 : Int).toNat 1)))) rfl (yl_indexAddr Try.underlying22 sz3 h115 hel138 rfl rfl) ?_
            refine T0_q (v := (.int .i64 el137)) rfl (yl_load sc3 rfl hat140) ?_
            obtain ⟨r143, hr144, h⟩ := bind_elim h
            refine T0_e rfl (eff_call Try.func7 nm7 rfl (ev3 rfl rfl rfl) (base_Within_ok [] _ (LtL.nil _) el137 0 1 r143 hr144) ?_)
            rintro _ wd145 ⟨he146, rfl⟩
            have e147 := e111.trans he146
            refine T0_q (v := (.bool (!r143))) rfl (yl_not rfl) ?_
            refine T0_nil ?_
            refine hK136 _ _ ?_
            refine WC_cond (b := (!r143)) rfl (fun hb148 => ?_) (fun hb148 => ?_)
            · replace h := cond_t hb148 h
              refine WC_seqK fun K149 hK149 => ?_
              refine WC_region ?_
              refine T0_q (v := (.int .i64 x113)) rfl (yl_move hs114) ?_
              refine T0_q (v := (.int .i64 x113)) rfl (yl_assign rfl) ?_
              refine T0_q (v := (.int .i64 15)) rfl (yl_assign rfl) ?_
              refine T0_nil ?_
              refine hK149 _ _ ?_
              refine WC_ret ?_
              replace h := some_out h
              subst h
              have ho := hx128 _ rfl
              subst ho
              replace h := jn0_inl hn126
              replace h := some_out h
              subst h
              exact ⟨[(.int .i64 x113), (.int .i64 15)], ⟨rfl, rfl, trivial⟩, e147, rfl⟩
            · replace h := cond_f hb148 h
              refine WC_skip ?_
              refine hK135 _ _ ?_
              refine WC_region ?_
              refine T0_q (v := (.int .i64 x113)) rfl (yl_move hs114) ?_
              refine T0_q (v := (.int .i64 (w64 (x113 + 1)))) rfl (yl_add rfl rfl) ?_
              refine T0_q (v := (.int .i64 (w64 (x113 + 1)))) rfl (yl_assign rfl) ?_
              refine T0_nil ?_
              replace h := some_out h
              subst h
              refine hK129 _ _ _ rfl ?_
              exact ⟨w64 (x113 + 1), rfl, hs112, rfl, (h115.ext he146), (hB117.ext he146), e147⟩
          · replace h := cond_f hb134 h
            refine WC_exit ?_
            replace h := some_out h
            subst h
            have ho := hx128 _ rfl
            subst ho
            refine hK130 _ _ ?_
            exact ⟨rfl, hs112, h115, hB117, e111⟩
        · rintro ρ wd118 ⟨rfl, hs120, h121, hB123, e119⟩
          replace h := jn0_inr hn126
          refine hK31 _ _ ?_
          refine WC_seqK fun K150 hK150 => ?_
          refine WC_seqK fun K151 hK151 => ?_
          refine WC_region ?_
          refine T0_q (v := (.pointer (some ⟨b5, 2, none⟩))) rfl (yl_fa 2 Try.underlying24 rfl rfl ⟨0, sz3⟩ hs120 rfl) ?_
          refine T0_q (v := (.int .i64 p_Listappend.Tooth)) rfl (yl_load sc3 rfl (At.drop (Box.at hB123) 2)) ?_
          obtain ⟨r152, hr153, h⟩ := bind_elim h
          refine T0_e rfl (eff_call Try.func7 nm7 rfl (ev3 rfl rfl rfl) (base_Within_ok [] _ (LtL.nil _) p_Listappend.Tooth 1 1000 r152 hr153) ?_)
          rintro _ wd154 ⟨he155, rfl⟩
          have e156 := e119.trans he155
          refine T0_q (v := (.bool (!r152))) rfl (yl_not rfl) ?_
          refine T0_q (v := (.bool (!r152))) rfl (yl_move rfl) ?_
          refine T0_g (v := (.pointer (some ⟨b5, 3, none⟩))) (!(!r152)) (wanted_f rfl rfl rfl rfl) (fun hg => (yl_fa 3 Try.underlying24 rfl rfl ⟨0, sz3⟩ hs120 rfl)) ?_
          refine T0_g (v := (.int .i64 p_Listappend.PerVane)) (!(!r152)) (wanted_f rfl rfl rfl rfl) (fun hg => (yl_load sc3 (gd_true hg) (At.drop (Box.at (hB123.ext he155)) 3))) ?_
          obtain ⟨r157, hr158, h⟩ := bind_elim h
          refine T0_ges (!(!r152)) (.bool r157) (wanted_f rfl rfl rfl rfl) (fun hg => eff_call Try.func7 nm7 rfl (ev3 (gd_true hg) rfl rfl) (base_Within_ok [] _ (LtL.nil _) p_Listappend.PerVane 1 12 r157 (cond_t hg hr158)) (by rintro _ wd159 ⟨he160, rfl⟩; exact ⟨rfl, he160⟩)) ?_
          intro wd159 he160
          have e161 := he155.trans he160
          have e162 := e156.trans he160
          refine T0_g (v := (.bool (!r157))) (!(!r152)) (wanted_f rfl rfl rfl rfl) (fun hg => (yl_not (gd_true hg))) ?_
          refine T0_q (v := (.bool ((!r152) || (!r157)))) rfl (yl_or rfl rfl (fun hb => (gd_true (not_t hb)))) ?_
          refine T0_q (v := (.bool ((!r152) || (!r157)))) rfl (yl_move rfl) ?_
          refine T0_g (v := (.pointer (some ⟨b5, 4, none⟩))) (!((!r152) || (!r157))) (wanted_f rfl rfl rfl rfl) (fun hg => (yl_fa 4 Try.underlying24 rfl rfl ⟨0, sz3⟩ hs120 rfl)) ?_
          refine T0_g (v := (.int .i64 p_Listappend.First)) (!((!r152) || (!r157))) (wanted_f rfl rfl rfl rfl) (fun hg => (yl_load sc3 (gd_true hg) (At.drop (Box.at (hB123.ext e161)) 4))) ?_
          obtain ⟨r163, hr164, h⟩ := bind_elim h
          refine T0_ges (!((!r152) || (!r157))) (.bool r163) (wanted_f rfl rfl rfl rfl) (fun hg => eff_call Try.func7 nm7 rfl (ev3 (gd_true hg) rfl rfl) (base_Within_ok [] _ (LtL.nil _) p_Listappend.First 0 999000000 r163 (cond_t hg hr164)) (by rintro _ wd165 ⟨he166, rfl⟩; exact ⟨rfl, he166⟩)) ?_
          intro wd165 he166
          have e167 := e161.trans he166
          have e168 := e162.trans he166
          refine T0_g (v := (.bool (!r163))) (!((!r152) || (!r157))) (wanted_f rfl rfl rfl rfl) (fun hg => (yl_not (gd_true hg))) ?_
          refine T0_q (v := (.bool (((!r152) || (!r157)) || (!r163)))) rfl (yl_or rfl rfl (fun hb => (gd_true (not_t hb)))) ?_
          refine T0_q (v := (.bool (((!r152) || (!r157)) || (!r163)))) rfl (yl_move rfl) ?_
          refine T0_g (v := (.pointer (some ⟨b5, 5, none⟩))) (!(((!r152) || (!r157)) || (!r163))) (wanted_f rfl rfl rfl rfl) (fun hg => (yl_fa 5 Try.underlying24 rfl rfl ⟨0, sz3⟩ hs120 rfl)) ?_
          refine T0_g (v := (.int .i64 p_Listappend.Modulus)) (!(((!r152) || (!r157)) || (!r163))) (wanted_f rfl rfl rfl rfl) (fun hg => (yl_load sc3 (gd_true hg) (At.drop (Box.at (hB123.ext e167)) 5))) ?_
          obtain ⟨r169, hr170, h⟩ := bind_elim h
          refine T0_ges (!(((!r152) || (!r157)) || (!r163))) (.bool r169) (wanted_f rfl rfl rfl rfl) (fun hg => eff_call Try.func7 nm7 rfl (ev3 (gd_true hg) rfl rfl) (base_Within_ok [] _ (LtL.nil _) p_Listappend.Modulus 1 1000 r169 (cond_t hg hr170)) (by rintro _ wd171 ⟨he172, rfl⟩; exact ⟨rfl, he172⟩)) ?_
          intro wd171 he172
          have e173 := e167.trans he172
          have e174 := e168.trans he172
          refine T0_g (v := (.bool (!r169))) (!(((!r152) || (!r157)) || (!r163))) (wanted_f rfl rfl rfl rfl) (fun hg => (yl_not (gd_true hg))) ?_
          refine T0_q (v := (.bool ((((!r152) || (!r157)) || (!r163)) || (!r169)))) rfl (yl_or rfl rfl (fun hb => (gd_true (not_t hb)))) ?_
          refine T0_q (v := (.bool ((((!r152) || (!r157)) || (!r163)) || (!r169)))) rfl (yl_move rfl) ?_
          refine T0_g (v := (.pointer (some ⟨b5, 6, none⟩))) (!((((!r152) || (!r157)) || (!r163)) || (!r169))) (wanted_f rfl rfl rfl rfl) (fun hg => (yl_fa 6 Try.underlying24 rfl rfl ⟨0, sz3⟩ hs120 rfl)) ?_
          refine T0_g (v := (.int .i64 p_Listappend.Slack)) (!((((!r152) || (!r157)) || (!r163)) || (!r169))) (wanted_f rfl rfl rfl rfl) (fun hg => (yl_load sc3 (gd_true hg) (At.drop (Box.at (hB123.ext e173)) 6))) ?_
          refine T0_g (v := (.pointer (some ⟨b5, 5, none⟩))) (!((((!r152) || (!r157)) || (!r163)) || (!r169))) (wanted_f rfl rfl rfl rfl) (fun hg => (yl_fa 5 Try.underlying24 rfl rfl ⟨0, sz3⟩ hs120 rfl)) ?_
          refine T0_g (v := (.int .i64 p_Listappend.Modulus)) (!((((!r152) || (!r157)) || (!r163)) || (!r169))) (wanted_f rfl rfl rfl rfl) (fun hg => (yl_load sc3 (gd_true hg) (At.drop (Box.at (hB123.ext e173)) 5))) ?_
          obtain ⟨r175, hr176, h⟩ := bind_elim h
          refine T0_ges (!((((!r152) || (!r157)) || (!r163)) || (!r169))) (.bool r175) (wanted_f rfl rfl rfl rfl) (fun hg => eff_call Try.func7 nm7 rfl (ev3 (gd_true hg) rfl (gd_true hg)) (base_Within_ok [] _ (LtL.nil _) p_Listappend.Slack 0 p_Listappend.Modulus r175 (cond_t hg hr176)) (by rintro _ wd177 ⟨he178, rfl⟩; exact ⟨rfl, he178⟩)) ?_
          intro wd177 he178
          have e179 := e173.trans he178
          have e180 := e174.trans he178
          refine T0_g (v := (.bool (!r175))) (!((((!r152) || (!r157)) || (!r163)) || (!r169))) (wanted_f rfl rfl rfl rfl) (fun hg => (yl_not (gd_true hg))) ?_
          refine T0_q (v := (.bool (((((!r152) || (!r157)) || (!r163)) || (!r169)) || (!r175)))) rfl (yl_or rfl rfl (fun hb => (gd_true (not_t hb)))) ?_
          refine T0_q (v := (.bool (((((!r152) || (!r157)) || (!r163)) || (!r169)) || (!r175)))) rfl (yl_move rfl) ?_
          refine T0_g (v := (.pointer (some ⟨b5, 7, none⟩))) (!(((((!r152) || (!r157)) || (!r163)) || (!r169)) || (!r175))) (wanted_f rfl rfl rfl rfl) (fun hg => (yl_fa 7 Try.underlying24 rfl rfl ⟨0, sz3⟩ hs120 rfl)) ?_
          refine T0_g (v := (.int .i64 p_Listappend.Errors)) (!(((((!r152) || (!r157)) || (!r163)) || (!r169)) || (!r175))) (wanted_f rfl rfl rfl rfl) (fun hg => (yl_load sc3 (gd_true hg) (At.drop (Box.at (hB123.ext e179)) 7))) ?_
          refine T0_g (v := (.pointer (some ⟨b5, 1, none⟩))) (!(((((!r152) || (!r157)) || (!r163)) || (!r169)) || (!r175))) (wanted_f rfl rfl rfl rfl) (fun hg => (yl_fa 1 Try.underlying24 rfl rfl ⟨0, sz3⟩ hs120 rfl)) ?_
          refine T0_g (v := (.int .i64 p_Listappend.Window)) (!(((((!r152) || (!r157)) || (!r163)) || (!r169)) || (!r175))) (wanted_f rfl rfl rfl rfl) (fun hg => (yl_load sc3 (gd_true hg) (At.drop (Box.at (hB123.ext e179)) 1))) ?_
          obtain ⟨r181, hr182, h⟩ := bind_elim h
          refine T0_ges (!(((((!r152) || (!r157)) || (!r163)) || (!r169)) || (!r175))) (.bool r181) (wanted_f rfl rfl rfl rfl) (fun hg => eff_call Try.func7 nm7 rfl (ev3 (gd_true hg) rfl (gd_true hg)) (base_Within_ok [] _ (LtL.nil _) p_Listappend.Errors 0 p_Listappend.Window r181 (cond_t hg hr182)) (by rintro _ wd183 ⟨he184, rfl⟩; exact ⟨rfl, he184⟩)) ?_
          intro wd183 he184
          have e185 := e179.trans he184
          have e186 := e180.trans he184
          refine T0_g (v := (.bool (!r181))) (!(((((!r152) || (!r157)) || (!r163)) || (!r169)) || (!r175))) (wanted_f rfl rfl rfl rfl) (fun hg => (yl_not (gd_true hg))) ?_
          refine T0_q (v := (.bool ((((((!r152) || (!r157)) || (!r163)) || (!r169)) || (!r175)) || (!r181)))) rfl (yl_or rfl rfl (fun hb => (gd_true (not_t hb)))) ?_
          refine T0_nil ?_
          refine hK151 _ _ ?_
          refine WC_cond (b := ((((((!r152) || (!r157)) || (!r163)) || (!r169)) || (!r175)) || (!r181))) rfl (fun hb187 => ?_) (fun hb187 => ?_)
          · replace h := cond_t hb187 h
            refine WC_seqK fun K188 hK188 => ?_
            refine WC_region ?_
            refine T0_q (v := (.int .i64 0)) rfl (yl_assign rfl) ?_
            refine T0_q (v := (.int .i64 2)) rfl (yl_assign rfl) ?_
            refine T0_nil ?_
            refine hK188 _ _ ?_
            refine WC_ret ?_
            replace h := some_out h
            subst h
            exact ⟨[(.int .i64 0), (.int .i64 2)], ⟨rfl, rfl, trivial⟩, e186, rfl⟩
          · replace h := cond_f hb187 h
            refine WC_skip ?_
            refine hK150 _ _ ?_
            refine WC_seqK fun K189 hK189 => ?_
            refine WC_region ?_
            refine T0_q (v := (.int .i64 0)) rfl (yl_assign rfl) ?_
            refine T0_q (v := (.int .i64 0)) rfl (yl_assign rfl) ?_
            refine T0_nil ?_
            refine hK189 _ _ ?_
            refine WC_ret ?_
            replace h := some_out h
            subst h
            exact ⟨[(.int .i64 0), (.int .i64 0)], ⟨rfl, rfl, trivial⟩, e186, rfl⟩

noncomputable def locate_within_spec (p_n : Int) (p_lo : Int) (p_hi : Int) : Option Bool :=
  some ((decide (p_lo ≤ p_n)) && (decide (p_n ≤ p_hi)))
theorem locate_within_ok (L : List Value) (w : World) (hL : LtL L w) (p_n : Int) (p_lo : Int) (p_hi : Int) (r : Bool) (h : locate_within_spec p_n p_lo p_hi = some r) :
    CallsTo Try.prog 27 [(.int .i64 p_n), (.int .i64 p_lo), (.int .i64 p_hi)] w (fun v w' => Ext w w' ∧ (.bool r) = v) := by
  have e0 : Ext w w := Chg.refl _ _
  refine callsTo_of_WC (n := 15) (rs := [.tmp 6]) Try.func27 rfl rfl rfl rfl rfl ?_
  refine WC_seqK fun K1 hK1 => ?_
  refine WC_region ?_
  refine T0_q (v := (.bool false)) rfl (yl_assign rfl) ?_
  refine T0_nil ?_
  refine hK1 _ _ ?_
  refine WC_seqK fun K2 hK2 => ?_
  refine WC_region ?_
  refine T0_q (v := (.int .i64 p_lo)) rfl (yl_move rfl) ?_
  refine T0_q (v := (.int .i64 p_n)) rfl (yl_move rfl) ?_
  refine T0_q (v := (.bool (decide (p_lo ≤ p_n)))) rfl (yl_leq rfl rfl) ?_
  refine T0_q (v := (.bool (decide (p_lo ≤ p_n)))) rfl (yl_move rfl) ?_
  refine T0_g (v := (.int .i64 p_n)) (decide (p_lo ≤ p_n)) (wanted_t rfl rfl rfl rfl) (fun hg => (yl_move rfl)) ?_
  refine T0_g (v := (.int .i64 p_hi)) (decide (p_lo ≤ p_n)) (wanted_t rfl rfl rfl rfl) (fun hg => (yl_move rfl)) ?_
  refine T0_g (v := (.bool (decide (p_n ≤ p_hi)))) (decide (p_lo ≤ p_n)) (wanted_t rfl rfl rfl rfl) (fun hg => (yl_leq (gd_true hg) (gd_true hg))) ?_
  refine T0_q (v := (.bool ((decide (p_lo ≤ p_n)) && (decide (p_n ≤ p_hi))))) rfl (yl_and rfl (fun hb => (gd_true hb)) rfl) ?_
  refine T0_q (v := (.bool ((decide (p_lo ≤ p_n)) && (decide (p_n ≤ p_hi))))) rfl (yl_assign rfl) ?_
  refine T0_nil ?_
  refine hK2 _ _ ?_
  refine WC_ret ?_
  replace h := some_out h
  subst h
  exact ⟨[(.bool ((decide (p_lo ≤ p_n)) && (decide (p_n ≤ p_hi))))], ⟨rfl, trivial⟩, e0, rfl⟩

noncomputable def locate_track_places_spec (p_t : locate_track) (p_from : Int) (p_to : Int) : Option Range :=
  some (Range.mk (w64 (p_t.LocateTrack.First + (w64 (p_from * p_t.LocateTrack.Tooth)))) (w64 ((w64 ((w64 (p_t.LocateTrack.First + (w64 (p_to * p_t.LocateTrack.Tooth)))) + p_t.LocateTrack.Tooth)) - 1)))
theorem locate_track_places_ok (L : List Value) (w : World) (hL : LtL L w) (cs_p_t : List Value) (p_t : locate_track) (h_p_t : Rep.rd L w cs_p_t p_t) (p_from : Int) (p_to : Int) (r : Range) (h : locate_track_places_spec p_t p_from p_to = some r) :
    CallsTo Try.prog 29 [(.agg cs_p_t.toArray), (.int .i64 p_from), (.int .i64 p_to)] w (fun v w' => Ext w w' ∧ ∃ (cs0 : List Value), (.agg cs0.toArray) = v ∧ Rep.rd L w' cs0 r) := by
  have e0 : Ext w w := Chg.refl _ _
  obtain ⟨v1, h2, rfl⟩ := h_p_t
  refine callsTo_of_WC (n := 31) (rs := [.cell 6 35]) Try.func29 rfl rfl rfl rfl rfl ?_
  refine WC_seqK fun K4 hK4 => ?_
  refine WC_region ?_
  refine T0_e rfl (eff_boxC (cs := [v1, (.int .i64 p_t.LocateTrack.Window), (.int .i64 p_t.LocateTrack.Tooth), (.int .i64 p_t.LocateTrack.PerVane), (.int .i64 p_t.LocateTrack.First), (.int .i64 p_t.LocateTrack.Modulus), (.int .i64 p_t.LocateTrack.Slack), (.int .i64 p_t.LocateTrack.Errors), (.bool p_t.LocateTrack.Round)]) rfl rfl ?_)
  intro b5 wd6 hb7 he8 hB9
  have hbf10 := bfresh e0 hb7
  have e11 := e0.trans he8
  refine T0_e rfl (eff_allocZ zi35 ?_)
  intro b13 wd14 hb15 he16 hB17
  have hn18 : b13 ≠ b5 := box_ne hB9 hb15
  have hbf19 := bfresh e11 hb15
  have h20 := (h2.ext he8).step (add_box he16 hb15)
  have e21 := e11.trans he16
  refine T0_nil ?_
  refine hK4 _ _ ?_
  refine WC_seqK fun K23 hK23 => ?_
  refine WC_region ?_
  refine T0_q (v := (.pointer (some ⟨b5, 0, none⟩))) rfl (yl_fa 0 Try.underlying68 rfl rfl ⟨8, sz24⟩ rfl rfl) ?_
  refine T0_q (v := (.pointer (some ⟨b5, 4, none⟩))) rfl (yl_fa 4 Try.underlying24 rfl rfl ⟨0, sz3⟩ rfl rfl) ?_
  refine T0_q (v := (.int .i64 p_t.LocateTrack.First)) rfl (yl_load sc3 rfl (At.drop (Box.at (hB9.ext he16)) 4)) ?_
  refine T0_q (v := (.int .i64 p_from)) rfl (yl_move rfl) ?_
  refine T0_q (v := (.pointer (some ⟨b5, 0, none⟩))) rfl (yl_fa 0 Try.underlying68 rfl rfl ⟨8, sz24⟩ rfl rfl) ?_
  refine T0_q (v := (.pointer (some ⟨b5, 2, none⟩))) rfl (yl_fa 2 Try.underlying24 rfl rfl ⟨0, sz3⟩ rfl rfl) ?_
  refine T0_q (v := (.int .i64 p_t.LocateTrack.Tooth)) rfl (yl_load sc3 rfl (At.drop (Box.at (hB9.ext he16)) 2)) ?_
  refine T0_q (v := (.int .i64 (w64 (p_from * p_t.LocateTrack.Tooth)))) rfl (yl_mul rfl rfl) ?_
  refine T0_q (v := (.int .i64 (w64 (p_t.LocateTrack.First + (w64 (p_from * p_t.LocateTrack.Tooth)))))) rfl (yl_add rfl rfl) ?_
  refine T0_q (v := (.pointer (some ⟨b5, 0, none⟩))) rfl (yl_fa 0 Try.underlying68 rfl rfl ⟨8, sz24⟩ rfl rfl) ?_
  refine T0_q (v := (.pointer (some ⟨b5, 4, none⟩))) rfl (yl_fa 4 Try.underlying24 rfl rfl ⟨0, sz3⟩ rfl rfl) ?_
  refine T0_q (v := (.int .i64 p_t.LocateTrack.First)) rfl (yl_load sc3 rfl (At.drop (Box.at (hB9.ext he16)) 4)) ?_
  refine T0_q (v := (.int .i64 p_to)) rfl (yl_move rfl) ?_
  refine T0_q (v := (.pointer (some ⟨b5, 0, none⟩))) rfl (yl_fa 0 Try.underlying68 rfl rfl ⟨8, sz24⟩ rfl rfl) ?_
  refine T0_q (v := (.pointer (some ⟨b5, 2, none⟩))) rfl (yl_fa 2 Try.underlying24 rfl rfl ⟨0, sz3⟩ rfl rfl) ?_
  refine T0_q (v := (.int .i64 p_t.LocateTrack.Tooth)) rfl (yl_load sc3 rfl (At.drop (Box.at (hB9.ext he16)) 2)) ?_
  refine T0_q (v := (.int .i64 (w64 (p_to * p_t.LocateTrack.Tooth)))) rfl (yl_mul rfl rfl) ?_
  refine T0_q (v := (.int .i64 (w64 (p_t.LocateTrack.First + (w64 (p_to * p_t.LocateTrack.Tooth)))))) rfl (yl_add rfl rfl) ?_
  refine T0_q (v := (.pointer (some ⟨b5, 0, none⟩))) rfl (yl_fa 0 Try.underlying68 rfl rfl ⟨8, sz24⟩ rfl rfl) ?_
  refine T0_q (v := (.pointer (some ⟨b5, 2, none⟩))) rfl (yl_fa 2 Try.underlying24 rfl rfl ⟨0, sz3⟩ rfl rfl) ?_
  refine T0_q (v := (.int .i64 p_t.LocateTrack.Tooth)) rfl (yl_load sc3 rfl (At.drop (Box.at (hB9.ext he16)) 2)) ?_
  refine T0_q (v := (.int .i64 (w64 ((w64 (p_t.LocateTrack.First + (w64 (p_to * p_t.LocateTrack.Tooth)))) + p_t.LocateTrack.Tooth)))) rfl (yl_add rfl rfl) ?_
  refine T0_q (v := (.int .i64 (w64 ((w64 ((w64 (p_t.LocateTrack.First + (w64 (p_to * p_t.LocateTrack.Tooth)))) + p_t.LocateTrack.Tooth)) - 1)))) rfl (yl_sub rfl rfl) ?_
  refine T0_q (v := (.agg (List.toArray [(.int .i64 (w64 (p_t.LocateTrack.First + (w64 (p_from * p_t.LocateTrack.Tooth))))), (.int .i64 (w64 ((w64 ((w64 (p_t.LocateTrack.First + (w64 (p_to * p_t.LocateTrack.Tooth)))) + p_t.LocateTrack.Tooth)) - 1)))]))) rfl (yl_buildC (cells := [(.int .i64 (w64 (p_t.LocateTrack.First + (w64 (p_from * p_t.LocateTrack.Tooth))))), (.int .i64 (w64 ((w64 ((w64 (p_t.LocateTrack.First + (w64 (p_to * p_t.LocateTrack.Tooth)))) + p_t.LocateTrack.Tooth)) - 1)))]) bi35 (pc_cons rfl rfl (pc_cons rfl rfl pc_nil)) rfl) ?_
  refine T0_e rfl (eff_storeC (vs := [(.int .i64 (w64 (p_t.LocateTrack.First + (w64 (p_from * p_t.LocateTrack.Tooth))))), (.int .i64 (w64 ((w64 ((w64 (p_t.LocateTrack.First + (w64 (p_to * p_t.LocateTrack.Tooth)))) + p_t.LocateTrack.Tooth)) - 1)))]) (cs' := [(.int .i64 (w64 (p_t.LocateTrack.First + (w64 (p_from * p_t.LocateTrack.Tooth))))), (.int .i64 (w64 ((w64 ((w64 (p_t.LocateTrack.First + (w64 (p_to * p_t.LocateTrack.Tooth)))) + p_t.LocateTrack.Tooth)) - 1)))]) sz35 rfl rfl rfl rfl hB17 rfl (oc_cons rfl (oc_cons rfl oc_nil)) rfl ?_)
  intro wd24 hc25 hB26
  have h27 := h20.step (Stepp.chg_mem hc25 mem0)
  have h28 := (hB9.ext he16).chg hc25 (avoidb hn18)
  have e29 := chg_box e21 hc25 hbf19
  refine T0_nil ?_
  refine hK23 _ _ ?_
  refine WC_ret ?_
  replace h := some_out h
  subst h
  exact ⟨[(.agg (List.toArray [(.int .i64 (w64 (p_t.LocateTrack.First + (w64 (p_from * p_t.LocateTrack.Tooth))))), (.int .i64 (w64 ((w64 ((w64 (p_t.LocateTrack.First + (w64 (p_to * p_t.LocateTrack.Tooth)))) + p_t.LocateTrack.Tooth)) - 1)))]))], ⟨⟨_, rfl, run_loadVarA (cs := [(.int .i64 (w64 (p_t.LocateTrack.First + (w64 (p_from * p_t.LocateTrack.Tooth))))), (.int .i64 (w64 ((w64 ((w64 (p_t.LocateTrack.First + (w64 (p_to * p_t.LocateTrack.Tooth)))) + p_t.LocateTrack.Tooth)) - 1)))]) ag35 (Box.at hB26)⟩, trivial⟩, e29, [(.int .i64 (w64 (p_t.LocateTrack.First + (w64 (p_from * p_t.LocateTrack.Tooth))))), (.int .i64 (w64 ((w64 ((w64 (p_t.LocateTrack.First + (w64 (p_to * p_t.LocateTrack.Tooth)))) + p_t.LocateTrack.Tooth)) - 1)))], rfl, rfl⟩

noncomputable def base_CopyInts_spec (p_l : (List Int)) : Option (List Int) :=
  (Option.bind (app ([] : List Int) p_l) fun zs14 =>
  some zs14
  )
theorem base_CopyInts_ok (L : List Value) (w : World) (hL : LtL L w) (v_p_l : Value) (p_l : (List Int)) (h_p_l : SlRd L w v_p_l p_l) (r : (List Int)) (h : base_CopyInts_spec p_l = some r) :
    CallsTo Try.prog 30 [v_p_l] w (fun v w' => Ext w w' ∧ ∃ (v0 : Value), v0 = v ∧ SlRd L w' v0 r) := by
  have e0 : Ext w w := Chg.refl _ _
  refine callsTo_of_WC (n := 6) (rs := [.tmp 2]) Try.func30 rfl rfl rfl rfl rfl ?_
  refine WC_seqK fun K2 hK2 => ?_
  refine WC_region ?_
  refine T0_q (v := (.slice none 0 0)) rfl (yl_assign rfl) ?_
  refine T0_nil ?_
  refine hK2 _ _ ?_
  refine WC_seqK fun K3 hK3 => ?_
  refine WC_region ?_
  refine T0_e rfl (eff_buildOC (L := L) (xs := ([] : List Int)) (cells := []) Try.underlying22 ei3 rfl pc_nil rfl Elems.nil rfl ?_)
  intro v7 wd4 he5 hf8 h6
  have h9 := h_p_l.step (Stepp.add v7 he5 hf8)
  have hf11 : ∀ b, blk v7 = some b → w.heap.size ≤ b := fun b hb => Nat.le_trans e0.size (hf8 b hb)
  have e12 := e0.trans he5
  refine T0_q (v := v_p_l) rfl (yl_move rfl) ?_
  obtain ⟨zs14, hz15, h⟩ := bind_elim h
  refine T0_e rfl (eff_app Try.underlying22 ei3 rfl rfl rfl rfl h6 h9 hz15 ?_)
  intro v16 wd17 hc18 hbl19 h20
  have hf22 := fresh_swap hbl19 hf11 e12.size
  have h23 := h9.step (Stepp.swap hc18 hbl19)
  have e24 := chg_own e12 hc18 hf11
  refine T0_q (v := v16) rfl (yl_assign rfl) ?_
  refine T0_nil ?_
  refine hK3 _ _ ?_
  refine WC_ret ?_
  replace h := some_out h
  subst h
  exact ⟨[v16], ⟨rfl, trivial⟩, e24, v16, rfl, (h20.rdL (sub_skip (sub_refl _)) hL hf22)⟩
theorem base_CopyInts_own (L : List Value) (w : World) (hL : LtL L w) (v_p_l : Value) (p_l : (List Int)) (h_p_l : SlRd L w v_p_l p_l) (r : (List Int)) (h : base_CopyInts_spec p_l = some r) :
    CallsTo Try.prog 30 [v_p_l] w (fun v w' => Ext w w' ∧ ∃ (v0 : Value), v0 = v ∧ (∀ b, blk v0 = some b → w.heap.size ≤ b) ∧ Own 3 (v0 :: L) w' v0 r) := by
  have e0 : Ext w w := Chg.refl _ _
  refine callsTo_of_WC (n := 6) (rs := [.tmp 2]) Try.func30 rfl rfl rfl rfl rfl ?_
  refine WC_seqK fun K2 hK2 => ?_
  refine WC_region ?_
  refine T0_q (v := (.slice none 0 0)) rfl (yl_assign rfl) ?_
  refine T0_nil ?_
  refine hK2 _ _ ?_
  refine WC_seqK fun K3 hK3 => ?_
  refine WC_region ?_
  refine T0_e rfl (eff_buildOC (L := L) (xs := ([] : List Int)) (cells := []) Try.underlying22 ei3 rfl pc_nil rfl Elems.nil rfl ?_)
  intro v7 wd4 he5 hf8 h6
  have h9 := h_p_l.step (Stepp.add v7 he5 hf8)
  have hf11 : ∀ b, blk v7 = some b → w.heap.size ≤ b := fun b hb => Nat.le_trans e0.size (hf8 b hb)
  have e12 := e0.trans he5
  refine T0_q (v := v_p_l) rfl (yl_move rfl) ?_
  obtain ⟨zs14, hz15, h⟩ := bind_elim h
  refine T0_e rfl (eff_app Try.underlying22 ei3 rfl rfl rfl rfl h6 h9 hz15 ?_)
  intro v16 wd17 hc18 hbl19 h20
  have hf22 := fresh_swap hbl19 hf11 e12.size
  have h23 := h9.step (Stepp.swap hc18 hbl19)
  have e24 := chg_own e12 hc18 hf11
  refine T0_q (v := v16) rfl (yl_assign rfl) ?_
  refine T0_nil ?_
  refine hK3 _ _ ?_
  refine WC_ret ?_
  replace h := some_out h
  subst h
  exact ⟨[v16], ⟨rfl, trivial⟩, e24, v16, rfl, hf22, (h20.sub (sub_cons mem0 (sub_skip (sub_refl _))))⟩

noncomputable def ref04_WindowAt_s0 (p_i : Int) (p_t : LocateTrack) : ((List Int) × Int) → Option (((List Int) × Int) ⊕ ((List Int))) := fun (x181, x186) =>
  (bif (decide (x186 < p_t.Window)) then (
    (Option.bind (rem (w64 (p_i + x186)) (p_t.Vanes.length : Int)) fun q220 =>
    (Option.bind (idx p_t.Vanes q220) fun el222 =>
    (Option.bind (app x181 ([el222] : List Int)) fun zs235 =>
    some (.inl (zs235, w64 (x186 + 1)))
    )
    )
    )
  ) else (
    some (.inr x181)
  ))
noncomputable def ref04_WindowAt_spec (p_t : LocateTrack) (p_i : Int) : Option (List Int) :=
  (Option.bind (loop (ref04_WindowAt_s0 p_i p_t) (([] : List Int), 0)) fun (x200 : (List Int)) =>
  some x200
  )
theorem ref04_WindowAt_ok (L : List Value) (w : World) (hL : LtL L w) (cs_p_t : List Value) (p_t : LocateTrack) (h_p_t : Rep.rd L w cs_p_t p_t) (p_i : Int) (r : (List Int)) (h : ref04_WindowAt_spec p_t p_i = some r) :
    CallsTo Try.prog 31 [(.agg cs_p_t.toArray), (.int .i64 p_i)] w (fun v w' => Ext w w' ∧ ∃ (v0 : Value), v0 = v ∧ SlRd L w' v0 r) := by
  have e0 : Ext w w := Chg.refl _ _
  obtain ⟨v1, h2, rfl⟩ := h_p_t
  refine callsTo_of_WC (n := 28) (rs := [.tmp 4]) Try.func31 rfl rfl rfl rfl rfl ?_
  refine WC_seqK fun K4 hK4 => ?_
  refine WC_region ?_
  refine T0_e rfl (eff_boxC (cs := [v1, (.int .i64 p_t.Window), (.int .i64 p_t.Tooth), (.int .i64 p_t.PerVane), (.int .i64 p_t.First), (.int .i64 p_t.Modulus), (.int .i64 p_t.Slack), (.int .i64 p_t.Errors), (.bool p_t.Round)]) rfl rfl ?_)
  intro b5 wd6 hb7 he8 hB9
  have hbf10 := bfresh e0 hb7
  have e11 := e0.trans he8
  refine T0_q (v := (.slice none 0 0)) rfl (yl_assign rfl) ?_
  refine T0_nil ?_
  refine hK4 _ _ ?_
  refine WC_seqK fun K13 hK13 => ?_
  refine WC_region ?_
  refine T0_q (v := (.slice none 0 0)) rfl (yl_assign rfl) ?_
  refine T0_nil ?_
  refine hK13 _ _ ?_
  refine WC_seqK fun K14 hK14 => ?_
  refine WC_seqK fun K15 hK15 => ?_
  refine WC_region ?_
  refine T0_q (v := (.int .i64 0)) rfl (yl_assign rfl) ?_
  refine T0_nil ?_
  refine hK15 _ _ ?_
  have h192 := (h2.ext he8).step (add_nil _)
  have h194 : Own 3 ((.slice none 0 0) :: L) wd6 (.slice none 0 0) ([] : List Int) := Own.nil _ _ _
  obtain ⟨o205, hl206, hn207⟩ := bind_elim h
  refine WC_post (fun (ρ : Env) (wd196 : World) => ∃ (x200 : (List Int)) (v199 : Value), x200 = o205 ∧ ρ 5 = v199 ∧ Own 3 (v199 :: L) wd196 v199 x200 ∧ (∀ b, blk v199 = some b → w.heap.size ≤ b) ∧ Ext w wd196) ?_ ?_
  · intro K211 hK211
    refine WC_block ?_
    refine WC_loopk (fun sv ρ wd175 => ∃ (x181 : (List Int)) (x186 : Int) (v180 : Value), (x181, x186) = sv ∧ ρ 1 = (.int .i64 p_i) ∧ ρ 2 = (.pointer (some ⟨b5, 0, none⟩)) ∧ ρ 5 = v180 ∧ ρ 6 = (.int .i64 x186) ∧ SlRd (v180 :: L) wd175 v1 p_t.Vanes ∧ Box wd175 b5 [v1, (.int .i64 p_t.Window), (.int .i64 p_t.Tooth), (.int .i64 p_t.PerVane), (.int .i64 p_t.First), (.int .i64 p_t.Modulus), (.int .i64 p_t.Slack), (.int .i64 p_t.Errors), (.bool p_t.Round)] 24 ∧ Own 3 (v180 :: L) wd175 v180 x181 ∧ (∀ b, blk v180 = some b → w.heap.size ≤ b) ∧ (blk v180 ≠ some b5) ∧ Ext w wd175) hl206 ⟨([] : List Int), 0, (.slice none 0 0), rfl, rfl, rfl, rfl, rfl, h192, hB9, h194, (fun b h => blk_nil b h), (fun h => by cases h), e11⟩ ?_
    rintro _ ρ wd175 ⟨x181, x186, v180, rfl, hs177, hs178, hs185, hs187, h188, hB190, h183, hf184, hn191, e176⟩ x208 h hx209 K210 hK210
    refine WC_seqK fun K213 hK213 => ?_
    refine WC_seqK fun K214 hK214 => ?_
    refine WC_region ?_
    refine T0_q (v := (.int .i64 x186)) rfl (yl_move hs187) ?_
    refine T0_q (v := (.pointer (some ⟨b5, 1, none⟩))) rfl (yl_fa 1 Try.underlying24 rfl rfl ⟨0, sz3⟩ hs178 rfl) ?_
    refine T0_q (v := (.int .i64 p_t.Window)) rfl (yl_load sc3 rfl (At.drop (Box.at hB190) 1)) ?_
    refine T0_q (v := (.bool (decide (x186 < p_t.Window)))) rfl (yl_lss rfl rfl) ?_
    refine T0_nil ?_
    refine hK214 _ _ ?_
    refine WC_cond (b := (decide (x186 < p_t.Window))) rfl (fun hb215 => ?_) (fun hb215 => ?_)
    · replace h := cond_t hb215 h
      refine WC_skip ?_
      refine hK213 _ _ ?_
      refine WC_seqK fun K216 hK216 => ?_
      refine WC_block ?_
      refine WC_plan mixed (.p 0 (.p 1 (.p 3 (.p 4 (.p 5 (.p 6 (.q 2 (.q 7 (.p 8 (.p 9 (.p 10 (.q 11 (.e 12 (.b 13 (.p 14 .done))))))))))))))) (by kernel_rfl) ?_
      intro wd217 he218
      have e219 := e176.trans he218
      refine TP_p (v := v180) rfl rfl (fun w' => (yl_move hs185)) ?_
      refine TP_p (v := (.pointer (some ⟨b5, 0, none⟩))) rfl rfl (fun w' => (yl_fa 0 Try.underlying24 rfl rfl ⟨0, sz22⟩ hs178 rfl)) ?_
      refine TP_p (v := (.int .i64 p_i)) rfl rfl (fun w' => (yl_move hs177)) ?_
      refine TP_p (v := (.int .i64 x186)) rfl rfl (fun w' => (yl_move hs187)) ?_
      refine TP_p (v := (.int .i64 (w64 (p_i + x186)))) rfl rfl (fun w' => (yl_add rfl rfl)) ?_
      refine TP_p (v := (.pointer (some ⟨b5, 0, none⟩))) rfl rfl (fun w' => (yl_fa 0 Try.underlying24 rfl rfl ⟨0, sz22⟩ hs178 rfl)) ?_
      refine TP_q (v := v1) rfl rfl (fun w' hS => (yl_load sc22 rfl (Box.at (hB190.ext ((he218).trans hS))))) ?_
      refine TP_q (v := v1) rfl rfl (fun w' hS => (yl_load sc22 rfl (Box.at (hB190.ext ((he218).trans hS))))) ?_
      refine TP_p (v := (.int .i64 (p_t.Vanes.length : Int))) rfl rfl (fun w' => (yl_lenR rfl Try.underlying22 h188 rfl)) ?_
      obtain ⟨q220, hq221, h⟩ := bind_elim h
      refine TP_p (v := (.int .i64 q220)) rfl rfl (fun w' => (yl_rem' hq221 rfl rfl)) ?_
      obtain ⟨el222, hel223, h⟩ := bind_elim h
      obtain ⟨cs224, hat225, hrd226⟩ := SlRd.at h188 hel223
      have hrd226 : cs224 = [(.int .i64 el222)] := hrd226
      subst hrd226
      refine TP_p (v := (.pointer (some (elemAddr v1 (q220 : Int).toNat 1)))) rfl rfl (fun w' => (yl_indexAddr Try.underlying22 sz3 h188 hel223 rfl rfl)) ?_
      refine TP_q (v := (.int .i64 el222)) rfl rfl (fun w' hS => (yl_load sc3 rfl (hat225.ext' ((he218).trans hS)))) ?_
      refine TP_e rfl rfl (eff_buildTC (xs := ([el222] : List Int)) (cells := [(.int .i64 el222)]) Try.underlying22 ei3 rfl (pc_cons rfl rfl pc_nil) rfl (Elems.cons (cs := [(.int .i64 el222)]) rfl Elems.nil) rfl (ltl_own (hL.chg e219) (h183.ext he218)) ?_)
      intro b231 wd228 he229 h230
      have e232 := he218.trans he229
      have e233 := e219.trans he229
      refine ⟨he229, ?_⟩
      obtain ⟨zs235, hz236, h⟩ := bind_elim h
      refine TP_b rfl rfl (eff_app Try.underlying22 ei3 rfl rfl rfl rfl (h183.ext e232) h230 hz236 ?_)
      intro v237 wd238 hc239 hbl240 h241
      have hn243 : blk v237 ≠ some b5 := ne_swap hbl240 hn191 (hB190.ext e232)
      have hf244 := fresh_swap hbl240 hf184 e233.size
      have h245 := (h188.ext e232).step (Stepp.swap hc239 hbl240)
      have h246 := (hB190.ext e232).chg hc239 (avoid1 hn191)
      have h247 := h230.step (Stepp.swap hc239 hbl240)
      have e248 := chg_own e233 hc239 hf184
      refine TP_p (v := v237) rfl rfl (fun w' => (yl_assign rfl)) ?_
      refine TP_done ?_
      refine hK216 _ _ ?_
      refine WC_region ?_
      refine T0_q (v := (.int .i64 x186)) rfl (yl_move hs187) ?_
      refine T0_q (v := (.int .i64 (w64 (x186 + 1)))) rfl (yl_add rfl rfl) ?_
      refine T0_q (v := (.int .i64 (w64 (x186 + 1)))) rfl (yl_assign rfl) ?_
      refine T0_nil ?_
      replace h := some_out h
      subst h
      refine hK210 _ _ _ rfl ?_
      exact ⟨zs235, w64 (x186 + 1), v237, rfl, hs177, hs178, rfl, rfl, h245, h246, h241, hf244, hn243, e248⟩
    · replace h := cond_f hb215 h
      refine WC_exit ?_
      replace h := some_out h
      subst h
      have ho := hx209 _ rfl
      subst ho
      refine hK211 _ _ ?_
      exact ⟨x181, v180, rfl, hs185, h183, hf184, e176⟩
  · rintro ρ wd196 ⟨x200, v199, rfl, hs204, h202, hf203, e197⟩
    replace h := hn207
    refine hK14 _ _ ?_
    refine WC_seqK fun K250 hK250 => ?_
    refine WC_region ?_
    refine T0_q (v := v199) rfl (yl_move hs204) ?_
    refine T0_q (v := v199) rfl (yl_assign rfl) ?_
    refine T0_nil ?_
    refine hK250 _ _ ?_
    refine WC_ret ?_
    replace h := some_out h
    subst h
    exact ⟨[v199], ⟨rfl, trivial⟩, e197, v199, rfl, (h202.rdL (sub_skip (sub_refl _)) hL hf203)⟩
theorem ref04_WindowAt_own (L : List Value) (w : World) (hL : LtL L w) (cs_p_t : List Value) (p_t : LocateTrack) (h_p_t : Rep.rd L w cs_p_t p_t) (p_i : Int) (r : (List Int)) (h : ref04_WindowAt_spec p_t p_i = some r) :
    CallsTo Try.prog 31 [(.agg cs_p_t.toArray), (.int .i64 p_i)] w (fun v w' => Ext w w' ∧ ∃ (v0 : Value), v0 = v ∧ (∀ b, blk v0 = some b → w.heap.size ≤ b) ∧ Own 3 (v0 :: L) w' v0 r) := by
  have e0 : Ext w w := Chg.refl _ _
  obtain ⟨v1, h2, rfl⟩ := h_p_t
  refine callsTo_of_WC (n := 28) (rs := [.tmp 4]) Try.func31 rfl rfl rfl rfl rfl ?_
  refine WC_seqK fun K4 hK4 => ?_
  refine WC_region ?_
  refine T0_e rfl (eff_boxC (cs := [v1, (.int .i64 p_t.Window), (.int .i64 p_t.Tooth), (.int .i64 p_t.PerVane), (.int .i64 p_t.First), (.int .i64 p_t.Modulus), (.int .i64 p_t.Slack), (.int .i64 p_t.Errors), (.bool p_t.Round)]) rfl rfl ?_)
  intro b5 wd6 hb7 he8 hB9
  have hbf10 := bfresh e0 hb7
  have e11 := e0.trans he8
  refine T0_q (v := (.slice none 0 0)) rfl (yl_assign rfl) ?_
  refine T0_nil ?_
  refine hK4 _ _ ?_
  refine WC_seqK fun K13 hK13 => ?_
  refine WC_region ?_
  refine T0_q (v := (.slice none 0 0)) rfl (yl_assign rfl) ?_
  refine T0_nil ?_
  refine hK13 _ _ ?_
  refine WC_seqK fun K14 hK14 => ?_
  refine WC_seqK fun K15 hK15 => ?_
  refine WC_region ?_
  refine T0_q (v := (.int .i64 0)) rfl (yl_assign rfl) ?_
  refine T0_nil ?_
  refine hK15 _ _ ?_
  have h192 := (h2.ext he8).step (add_nil _)
  have h194 : Own 3 ((.slice none 0 0) :: L) wd6 (.slice none 0 0) ([] : List Int) := Own.nil _ _ _
  obtain ⟨o205, hl206, hn207⟩ := bind_elim h
  refine WC_post (fun (ρ : Env) (wd196 : World) => ∃ (x200 : (List Int)) (v199 : Value), x200 = o205 ∧ ρ 5 = v199 ∧ Own 3 (v199 :: L) wd196 v199 x200 ∧ (∀ b, blk v199 = some b → w.heap.size ≤ b) ∧ Ext w wd196) ?_ ?_
  · intro K211 hK211
    refine WC_block ?_
    refine WC_loopk (fun sv ρ wd175 => ∃ (x181 : (List Int)) (x186 : Int) (v180 : Value), (x181, x186) = sv ∧ ρ 1 = (.int .i64 p_i) ∧ ρ 2 = (.pointer (some ⟨b5, 0, none⟩)) ∧ ρ 5 = v180 ∧ ρ 6 = (.int .i64 x186) ∧ SlRd (v180 :: L) wd175 v1 p_t.Vanes ∧ Box wd175 b5 [v1, (.int .i64 p_t.Window), (.int .i64 p_t.Tooth), (.int .i64 p_t.PerVane), (.int .i64 p_t.First), (.int .i64 p_t.Modulus), (.int .i64 p_t.Slack), (.int .i64 p_t.Errors), (.bool p_t.Round)] 24 ∧ Own 3 (v180 :: L) wd175 v180 x181 ∧ (∀ b, blk v180 = some b → w.heap.size ≤ b) ∧ (blk v180 ≠ some b5) ∧ Ext w wd175) hl206 ⟨([] : List Int), 0, (.slice none 0 0), rfl, rfl, rfl, rfl, rfl, h192, hB9, h194, (fun b h => blk_nil b h), (fun h => by cases h), e11⟩ ?_
    rintro _ ρ wd175 ⟨x181, x186, v180, rfl, hs177, hs178, hs185, hs187, h188, hB190, h183, hf184, hn191, e176⟩ x208 h hx209 K210 hK210
    refine WC_seqK fun K213 hK213 => ?_
    refine WC_seqK fun K214 hK214 => ?_
    refine WC_region ?_
    refine T0_q (v := (.int .i64 x186)) rfl (yl_move hs187) ?_
    refine T0_q (v := (.pointer (some ⟨b5, 1, none⟩))) rfl (yl_fa 1 Try.underlying24 rfl rfl ⟨0, sz3⟩ hs178 rfl) ?_
    refine T0_q (v := (.int .i64 p_t.Window)) rfl (yl_load sc3 rfl (At.drop (Box.at hB190) 1)) ?_
    refine T0_q (v := (.bool (decide (x186 < p_t.Window)))) rfl (yl_lss rfl rfl) ?_
    refine T0_nil ?_
    refine hK214 _ _ ?_
    refine WC_cond (b := (decide (x186 < p_t.Window))) rfl (fun hb215 => ?_) (fun hb215 => ?_)
    · replace h := cond_t hb215 h
      refine WC_skip ?_
      refine hK213 _ _ ?_
      refine WC_seqK fun K216 hK216 => ?_
      refine WC_block ?_
      refine WC_plan mixed (.p 0 (.p 1 (.p 3 (.p 4 (.p 5 (.p 6 (.q 2 (.q 7 (.p 8 (.p 9 (.p 10 (.q 11 (.e 12 (.b 13 (.p 14 .done))))))))))))))) (by kernel_rfl) ?_
      intro wd217 he218
      have e219 := e176.trans he218
      refine TP_p (v := v180) rfl rfl (fun w' => (yl_move hs185)) ?_
      refine TP_p (v := (.pointer (some ⟨b5, 0, none⟩))) rfl rfl (fun w' => (yl_fa 0 Try.underlying24 rfl rfl ⟨0, sz22⟩ hs178 rfl)) ?_
      refine TP_p (v := (.int .i64 p_i)) rfl rfl (fun w' => (yl_move hs177)) ?_
      refine TP_p (v := (.int .i64 x186)) rfl rfl (fun w' => (yl_move hs187)) ?_
      refine TP_p (v := (.int .i64 (w64 (p_i + x186)))) rfl rfl (fun w' => (yl_add rfl rfl)) ?_
      refine TP_p (v := (.pointer (some ⟨b5, 0, none⟩))) rfl rfl (fun w' => (yl_fa 0 Try.underlying24 rfl rfl ⟨0, sz22⟩ hs178 rfl)) ?_
      refine TP_q (v := v1) rfl rfl (fun w' hS => (yl_load sc22 rfl (Box.at (hB190.ext ((he218).trans hS))))) ?_
      refine TP_q (v := v1) rfl rfl (fun w' hS => (yl_load sc22 rfl (Box.at (hB190.ext ((he218).trans hS))))) ?_
      refine TP_p (v := (.int .i64 (p_t.Vanes.length : Int))) rfl rfl (fun w' => (yl_lenR rfl Try.underlying22 h188 rfl)) ?_
      obtain ⟨q220, hq221, h⟩ := bind_elim h
      refine TP_p (v := (.int .i64 q220)) rfl rfl (fun w' => (yl_rem' hq221 rfl rfl)) ?_
      obtain ⟨el222, hel223, h⟩ := bind_elim h
      obtain ⟨cs224, hat225, hrd226⟩ := SlRd.at h188 hel223
      have hrd226 : cs224 = [(.int .i64 el222)] := hrd226
      subst hrd226
      refine TP_p (v := (.pointer (some (elemAddr v1 (q220 : Int).toNat 1)))) rfl rfl (fun w' => (yl_indexAddr Try.underlying22 sz3 h188 hel223 rfl rfl)) ?_
      refine TP_q (v := (.int .i64 el222)) rfl rfl (fun w' hS => (yl_load sc3 rfl (hat225.ext' ((he218).trans hS)))) ?_
      refine TP_e rfl rfl (eff_buildTC (xs := ([el222] : List Int)) (cells := [(.int .i64 el222)]) Try.underlying22 ei3 rfl (pc_cons rfl rfl pc_nil) rfl (Elems.cons (cs := [(.int .i64 el222)]) rfl Elems.nil) rfl (ltl_own (hL.chg e219) (h183.ext he218)) ?_)
      intro b231 wd228 he229 h230
      have e232 := he218.trans he229
      have e233 := e219.trans he229
      refine ⟨he229, ?_⟩
      obtain ⟨zs235, hz236, h⟩ := bind_elim h
      refine TP_b rfl rfl (eff_app Try.underlying22 ei3 rfl rfl rfl rfl (h183.ext e232) h230 hz236 ?_)
      intro v237 wd238 hc239 hbl240 h241
      have hn243 : blk v237 ≠ some b5 := ne_swap hbl240 hn191 (hB190.ext e232)
      have hf244 := fresh_swap hbl240 hf184 e233.size
      have h245 := (h188.ext e232).step (Stepp.swap hc239 hbl240)
      have h246 := (hB190.ext e232).chg hc239 (avoid1 hn191)
      have h247 := h230.step (Stepp.swap hc239 hbl240)
      have e248 := chg_own e233 hc239 hf184
      refine TP_p (v := v237) rfl rfl (fun w' => (yl_assign rfl)) ?_
      refine TP_done ?_
      refine hK216 _ _ ?_
      refine WC_region ?_
      refine T0_q (v := (.int .i64 x186)) rfl (yl_move hs187) ?_
      refine T0_q (v := (.int .i64 (w64 (x186 + 1)))) rfl (yl_add rfl rfl) ?_
      refine T0_q (v := (.int .i64 (w64 (x186 + 1)))) rfl (yl_assign rfl) ?_
      refine T0_nil ?_
      replace h := some_out h
      subst h
      refine hK210 _ _ _ rfl ?_
      exact ⟨zs235, w64 (x186 + 1), v237, rfl, hs177, hs178, rfl, rfl, h245, h246, h241, hf244, hn243, e248⟩
    · replace h := cond_f hb215 h
      refine WC_exit ?_
      replace h := some_out h
      subst h
      have ho := hx209 _ rfl
      subst ho
      refine hK211 _ _ ?_
      exact ⟨x181, v180, rfl, hs185, h183, hf184, e176⟩
  · rintro ρ wd196 ⟨x200, v199, rfl, hs204, h202, hf203, e197⟩
    replace h := hn207
    refine hK14 _ _ ?_
    refine WC_seqK fun K250 hK250 => ?_
    refine WC_region ?_
    refine T0_q (v := v199) rfl (yl_move hs204) ?_
    refine T0_q (v := v199) rfl (yl_assign rfl) ?_
    refine T0_nil ?_
    refine hK250 _ _ ?_
    refine WC_ret ?_
    replace h := some_out h
    subst h
    exact ⟨[v199], ⟨rfl, trivial⟩, e197, v199, rfl, hf203, (h202.sub (sub_cons mem0 (sub_skip (sub_refl _))))⟩

noncomputable def base_Mod_spec (p_n : Int) (p_by : Int) : Option Int :=
  (Option.bind (rem p_n p_by) fun q3 =>
  (bif (decide (q3 < 0)) then (
    some (w64 (q3 + p_by))
  ) else (
    some q3
  ))
  )
theorem base_Mod_ok (L : List Value) (w : World) (hL : LtL L w) (p_n : Int) (p_by : Int) (r : Int) (h : base_Mod_spec p_n p_by = some r) :
    CallsTo Try.prog 32 [(.int .i64 p_n), (.int .i64 p_by)] w (fun v w' => Ext w w' ∧ (.int .i64 r) = v) := by
  have e0 : Ext w w := Chg.refl _ _
  refine callsTo_of_WC (n := 14) (rs := [.tmp 4]) Try.func32 rfl rfl rfl rfl rfl ?_
  refine WC_seqK fun K1 hK1 => ?_
  refine WC_region ?_
  refine T0_q (v := (.int .i64 0)) rfl (yl_assign rfl) ?_
  refine T0_nil ?_
  refine hK1 _ _ ?_
  refine WC_seqK fun K2 hK2 => ?_
  refine WC_region ?_
  refine T0_q (v := (.int .i64 p_n)) rfl (yl_move rfl) ?_
  refine T0_q (v := (.int .i64 p_by)) rfl (yl_move rfl) ?_
  obtain ⟨q3, hq4, h⟩ := bind_elim h
  refine T0_q (v := (.int .i64 q3)) rfl (yl_rem' hq4 rfl rfl) ?_
  refine T0_q (v := (.int .i64 q3)) rfl (yl_assign rfl) ?_
  refine T0_nil ?_
  refine hK2 _ _ ?_
  refine WC_seqK fun K5 hK5 => ?_
  refine WC_seqK fun K6 hK6 => ?_
  refine WC_region ?_
  refine T0_q (v := (.int .i64 q3)) rfl (yl_move rfl) ?_
  refine T0_q (v := (.bool (decide (q3 < 0)))) rfl (yl_lss rfl rfl) ?_
  refine T0_nil ?_
  refine hK6 _ _ ?_
  refine WC_cond (b := (decide (q3 < 0))) rfl (fun hb7 => ?_) (fun hb7 => ?_)
  · replace h := cond_t hb7 h
    refine WC_region ?_
    refine T0_q (v := (.int .i64 q3)) rfl (yl_move rfl) ?_
    refine T0_q (v := (.int .i64 p_by)) rfl (yl_move rfl) ?_
    refine T0_q (v := (.int .i64 (w64 (q3 + p_by)))) rfl (yl_add rfl rfl) ?_
    refine T0_q (v := (.int .i64 (w64 (q3 + p_by)))) rfl (yl_assign rfl) ?_
    refine T0_nil ?_
    refine hK5 _ _ ?_
    refine WC_seqK fun K8 hK8 => ?_
    refine WC_region ?_
    refine T0_q (v := (.int .i64 (w64 (q3 + p_by)))) rfl (yl_move rfl) ?_
    refine T0_q (v := (.int .i64 (w64 (q3 + p_by)))) rfl (yl_assign rfl) ?_
    refine T0_nil ?_
    refine hK8 _ _ ?_
    refine WC_ret ?_
    replace h := some_out h
    subst h
    exact ⟨[(.int .i64 (w64 (q3 + p_by)))], ⟨rfl, trivial⟩, e0, rfl⟩
  · replace h := cond_f hb7 h
    refine WC_skip ?_
    refine hK5 _ _ ?_
    refine WC_seqK fun K9 hK9 => ?_
    refine WC_region ?_
    refine T0_q (v := (.int .i64 q3)) rfl (yl_move rfl) ?_
    refine T0_q (v := (.int .i64 q3)) rfl (yl_assign rfl) ?_
    refine T0_nil ?_
    refine hK9 _ _ ?_
    refine WC_ret ?_
    replace h := some_out h
    subst h
    exact ⟨[(.int .i64 q3)], ⟨rfl, trivial⟩, e0, rfl⟩

noncomputable def locate_first_s0 (p_l : (List Int)) : (Int) → Option ((Int) ⊕ (Int ⊕ (Unit))) := fun x72 =>
  (bif (decide (x72 < (p_l.length : Int))) then (
    (Option.bind (idx p_l x72) fun el89 =>
    (bif (!decide (el89 = 0)) then (
      some (.inr (.inl el89))
    ) else (
      some (.inl (w64 (x72 + 1)))
    ))
    )
  ) else (
    some (.inr (.inr ()))
  ))
noncomputable def locate_first_spec (p_l : (List Int)) : Option Int :=
  (Option.bind (loop (locate_first_s0 p_l) 0) fun o76 => jn0 o76 fun (_ : Unit) =>
  some 0
  )
theorem locate_first_ok (L : List Value) (w : World) (hL : LtL L w) (v_p_l : Value) (p_l : (List Int)) (h_p_l : SlRd L w v_p_l p_l) (r : Int) (h : locate_first_spec p_l = some r) :
    CallsTo Try.prog 35 [v_p_l] w (fun v w' => Ext w w' ∧ (.int .i64 r) = v) := by
  have e0 : Ext w w := Chg.refl _ _
  refine callsTo_of_WC (n := 15) (rs := [.tmp 2]) Try.func35 rfl rfl rfl rfl rfl ?_
  refine WC_seqK fun K2 hK2 => ?_
  refine WC_region ?_
  refine T0_q (v := (.int .i64 0)) rfl (yl_assign rfl) ?_
  refine T0_nil ?_
  refine hK2 _ _ ?_
  refine WC_seqK fun K3 hK3 => ?_
  refine WC_seqK fun K4 hK4 => ?_
  refine WC_region ?_
  refine T0_q (v := v_p_l) rfl (yl_move rfl) ?_
  refine T0_q (v := (.int .i64 (p_l.length : Int))) rfl (yl_lenR rfl Try.underlying91 h_p_l rfl) ?_
  refine T0_q (v := (.int .i64 0)) rfl (yl_move rfl) ?_
  refine T0_nil ?_
  refine hK4 _ _ ?_
  obtain ⟨o76, hl77, hn78⟩ := bind_elim h
  refine WC_post (fun (ρ : Env) (wd74 : World) => .inr () = o76 ∧ Ext w wd74) ?_ ?_
  · intro K82 hK82
    refine WC_block ?_
    refine WC_loopk (fun sv ρ wd67 => ∃ (x72 : Int), x72 = sv ∧ ρ 5 = v_p_l ∧ ρ 6 = (.int .i64 (p_l.length : Int)) ∧ ρ 7 = (.int .i64 x72) ∧ SlRd L wd67 v_p_l p_l ∧ Ext w wd67) hl77 ⟨0, rfl, rfl, rfl, rfl, h_p_l, e0⟩ ?_
    rintro _ ρ wd67 ⟨x72, rfl, hs70, hs71, hs73, h69, e68⟩ x79 h hx80 K81 hK81
    refine WC_seqK fun K84 hK84 => ?_
    refine WC_region ?_
    refine T0_q (v := (.bool (decide (x72 < (p_l.length : Int))))) rfl (yl_lss hs73 hs71) ?_
    refine T0_nil ?_
    refine hK84 _ _ ?_
    refine WC_seqK fun K85 hK85 => ?_
    refine WC_cond (b := (decide (x72 < (p_l.length : Int)))) rfl (fun hb86 => ?_) (fun hb86 => ?_)
    · replace h := cond_t hb86 h
      refine WC_skip ?_
      refine hK85 _ _ ?_
      refine WC_seqK fun K87 hK87 => ?_
      refine WC_block ?_
      refine WC_seqK fun K88 hK88 => ?_
      refine WC_region ?_
      obtain ⟨el89, hel90, h⟩ := bind_elim h
      obtain ⟨cs91, hat92, hrd93⟩ := SlRd.at h69 hel90
      have hrd93 : cs91 = [(.int .i64 el89)] := hrd93
      subst hrd93
      refine T0_q (v := (.pointer (some (elemAddr v_p_l (x72 : Int).toNat 1)))) rfl (yl_indexAddr Try.underlying91 sz37 h69 hel90 hs70 hs73) ?_
      refine T0_q (v := (.int .i64 el89)) rfl (yl_load sc37 rfl hat92) ?_
      refine T0_q (v := (.int .i64 el89)) rfl (yl_assign rfl) ?_
      refine T0_nil ?_
      refine hK88 _ _ ?_
      refine WC_seqK fun K95 hK95 => ?_
      refine WC_region ?_
      refine T0_q (v := (.int .i64 el89)) rfl (yl_move rfl) ?_
      refine T0_q (v := (.bool (!decide (el89 = 0)))) rfl (yl_neq rfl rfl) ?_
      refine T0_nil ?_
      refine hK95 _ _ ?_
      refine WC_cond (b := (!decide (el89 = 0))) rfl (fun hb96 => ?_) (fun hb96 => ?_)
      · replace h := cond_t hb96 h
        refine WC_seqK fun K97 hK97 => ?_
        refine WC_region ?_
        refine T0_q (v := (.int .i64 el89)) rfl (yl_move rfl) ?_
        refine T0_q (v := (.int .i64 el89)) rfl (yl_assign rfl) ?_
        refine T0_nil ?_
        refine hK97 _ _ ?_
        refine WC_ret ?_
        replace h := some_out h
        subst h
        have ho := hx80 _ rfl
        subst ho
        replace h := jn0_inl hn78
        replace h := some_out h
        subst h
        exact ⟨[(.int .i64 el89)], ⟨rfl, trivial⟩, e68, rfl⟩
      · replace h := cond_f hb96 h
        refine WC_skip ?_
        refine hK87 _ _ ?_
        refine WC_region ?_
        refine T0_q (v := (.int .i64 (w64 (x72 + 1)))) rfl (yl_add hs73 rfl) ?_
        refine T0_q (v := (.int .i64 (w64 (x72 + 1)))) rfl (yl_move rfl) ?_
        refine T0_nil ?_
        replace h := some_out h
        subst h
        refine hK81 _ _ _ rfl ?_
        exact ⟨w64 (x72 + 1), rfl, hs70, hs71, rfl, h69, e68⟩
    · replace h := cond_f hb86 h
      refine WC_exit ?_
      replace h := some_out h
      subst h
      have ho := hx80 _ rfl
      subst ho
      refine hK82 _ _ ?_
      exact ⟨rfl, e68⟩
  · rintro ρ wd74 ⟨rfl, e75⟩
    replace h := jn0_inr hn78
    refine hK3 _ _ ?_
    refine WC_seqK fun K98 hK98 => ?_
    refine WC_region ?_
    refine T0_q (v := (.int .i64 0)) rfl (yl_assign rfl) ?_
    refine T0_nil ?_
    refine hK98 _ _ ?_
    refine WC_ret ?_
    replace h := some_out h
    subst h
    exact ⟨[(.int .i64 0)], ⟨rfl, trivial⟩, e75, rfl⟩

noncomputable def locate_unless_spec (p_is : Bool) (p_e : Int) : Option Int :=
  (bif p_is then (
    some 0
  ) else (
    some p_e
  ))
theorem locate_unless_ok (L : List Value) (w : World) (hL : LtL L w) (p_is : Bool) (p_e : Int) (r : Int) (h : locate_unless_spec p_is p_e = some r) :
    CallsTo Try.prog 37 [(.bool p_is), (.int .i64 p_e)] w (fun v w' => Ext w w' ∧ (.int .i64 r) = v) := by
  have e0 : Ext w w := Chg.refl _ _
  refine callsTo_of_WC (n := 7) (rs := [.tmp 4]) Try.func37 rfl rfl rfl rfl rfl ?_
  refine WC_seqK fun K1 hK1 => ?_
  refine WC_region ?_
  refine T0_q (v := (.int .i64 0)) rfl (yl_assign rfl) ?_
  refine T0_nil ?_
  refine hK1 _ _ ?_
  refine WC_seqK fun K2 hK2 => ?_
  refine WC_seqK fun K3 hK3 => ?_
  refine WC_region ?_
  refine T0_q (v := (.bool p_is)) rfl (yl_move rfl) ?_
  refine T0_nil ?_
  refine hK3 _ _ ?_
  refine WC_cond (b := p_is) rfl (fun hb4 => ?_) (fun hb4 => ?_)
  · replace h := cond_t hb4 h
    refine WC_seqK fun K5 hK5 => ?_
    refine WC_region ?_
    refine T0_q (v := (.int .i64 0)) rfl (yl_assign rfl) ?_
    refine T0_nil ?_
    refine hK5 _ _ ?_
    refine WC_ret ?_
    replace h := some_out h
    subst h
    exact ⟨[(.int .i64 0)], ⟨rfl, trivial⟩, e0, rfl⟩
  · replace h := cond_f hb4 h
    refine WC_skip ?_
    refine hK2 _ _ ?_
    refine WC_seqK fun K6 hK6 => ?_
    refine WC_region ?_
    refine T0_q (v := (.int .i64 p_e)) rfl (yl_move rfl) ?_
    refine T0_q (v := (.int .i64 p_e)) rfl (yl_assign rfl) ?_
    refine T0_nil ?_
    refine hK6 _ _ ?_
    refine WC_ret ?_
    replace h := some_out h
    subst h
    exact ⟨[(.int .i64 p_e)], ⟨rfl, trivial⟩, e0, rfl⟩

noncomputable def locate_timeErr_spec (p_n : Int) : Option Int :=
  (Option.bind (locate_within_spec p_n 0 10000000) fun r3 =>
  (Option.bind (locate_unless_spec r3 2) fun r8 =>
  some r8
  )
  )
theorem locate_timeErr_ok (L : List Value) (w : World) (hL : LtL L w) (p_n : Int) (r : Int) (h : locate_timeErr_spec p_n = some r) :
    CallsTo Try.prog 38 [(.int .i64 p_n)] w (fun v w' => Ext w w' ∧ (.int .i64 r) = v) := by
  have e0 : Ext w w := Chg.refl _ _
  refine callsTo_of_WC (n := 6) (rs := [.tmp 2]) Try.func38 rfl rfl rfl rfl rfl ?_
  refine WC_seqK fun K1 hK1 => ?_
  refine WC_region ?_
  refine T0_q (v := (.int .i64 0)) rfl (yl_assign rfl) ?_
  refine T0_nil ?_
  refine hK1 _ _ ?_
  refine WC_seqK fun K2 hK2 => ?_
  refine WC_region ?_
  refine T0_q (v := (.int .i64 p_n)) rfl (yl_move rfl) ?_
  obtain ⟨r3, hr4, h⟩ := bind_elim h
  refine T0_e rfl (eff_call Try.func27 nm27 rfl (ev3 rfl rfl rfl) (locate_within_ok [] _ (LtL.nil _) p_n 0 10000000 r3 hr4) ?_)
  rintro _ wd5 ⟨he6, rfl⟩
  have e7 := e0.trans he6
  obtain ⟨r8, hr9, h⟩ := bind_elim h
  refine T0_e rfl (eff_call Try.func37 nm37 rfl (ev2 rfl rfl) (locate_unless_ok [] _ (LtL.nil _) r3 2 r8 hr9) ?_)
  rintro _ wd10 ⟨he11, rfl⟩
  have e12 := e7.trans he11
  refine T0_q (v := (.int .i64 r8)) rfl (yl_assign rfl) ?_
  refine T0_nil ?_
  refine hK2 _ _ ?_
  refine WC_ret ?_
  replace h := some_out h
  subst h
  exact ⟨[(.int .i64 r8)], ⟨rfl, trivial⟩, e12, rfl⟩

noncomputable def locate_divisor_s0 : (Int × Int) → Option ((Int × Int) ⊕ (Int)) := fun (x45, x47) =>
  (bif (!decide (x47 = 0)) then (
    (Option.bind (rem x45 x47) fun q67 =>
    some (.inl (x47, q67))
    )
  ) else (
    some (.inr x45)
  ))
noncomputable def locate_divisor_spec (p_a : Int) (p_b : Int) : Option Int :=
  (Option.bind (loop locate_divisor_s0 (p_a, p_b)) fun (x51 : Int) =>
  some x51
  )
theorem locate_divisor_ok (L : List Value) (w : World) (hL : LtL L w) (p_a : Int) (p_b : Int) (r : Int) (h : locate_divisor_spec p_a p_b = some r) :
    CallsTo Try.prog 43 [(.int .i64 p_a), (.int .i64 p_b)] w (fun v w' => Ext w w' ∧ (.int .i64 r) = v) := by
  have e0 : Ext w w := Chg.refl _ _
  refine callsTo_of_WC (n := 12) (rs := [.tmp 4]) Try.func43 rfl rfl rfl rfl rfl ?_
  refine WC_seqK fun K1 hK1 => ?_
  refine WC_region ?_
  refine T0_q (v := (.int .i64 0)) rfl (yl_assign rfl) ?_
  refine T0_nil ?_
  refine hK1 _ _ ?_
  refine WC_seqK fun K2 hK2 => ?_
  obtain ⟨o53, hl54, hn55⟩ := bind_elim h
  refine WC_post (fun (ρ : Env) (wd49 : World) => ∃ (x51 : Int), x51 = o53 ∧ ρ 0 = (.int .i64 x51) ∧ Ext w wd49) ?_ ?_
  · intro K59 hK59
    refine WC_block ?_
    refine WC_loopk (fun sv ρ wd43 => ∃ (x45 : Int) (x47 : Int), (x45, x47) = sv ∧ ρ 0 = (.int .i64 x45) ∧ ρ 1 = (.int .i64 x47) ∧ Ext w wd43) hl54 ⟨p_a, p_b, rfl, rfl, rfl, e0⟩ ?_
    rintro _ ρ wd43 ⟨x45, x47, rfl, hs46, hs48, e44⟩ x56 h hx57 K58 hK58
    refine WC_seqK fun K61 hK61 => ?_
    refine WC_seqK fun K62 hK62 => ?_
    refine WC_region ?_
    refine T0_q (v := (.int .i64 x47)) rfl (yl_move hs48) ?_
    refine T0_q (v := (.bool (!decide (x47 = 0)))) rfl (yl_neq rfl rfl) ?_
    refine T0_nil ?_
    refine hK62 _ _ ?_
    refine WC_cond (b := (!decide (x47 = 0))) rfl (fun hb63 => ?_) (fun hb63 => ?_)
    · replace h := cond_t hb63 h
      refine WC_skip ?_
      refine hK61 _ _ ?_
      refine WC_block ?_
      refine WC_plan mixed (.p 0 (.p 1 (.p 2 (.p 3 (.p 4 (.p 5 .done)))))) (by kernel_rfl) ?_
      intro wd64 he65
      have e66 := e44.trans he65
      refine TP_p (v := (.int .i64 x47)) rfl rfl (fun w' => (yl_move hs48)) ?_
      refine TP_p (v := (.int .i64 x45)) rfl rfl (fun w' => (yl_move hs46)) ?_
      refine TP_p (v := (.int .i64 x47)) rfl rfl (fun w' => (yl_move hs48)) ?_
      obtain ⟨q67, hq68, h⟩ := bind_elim h
      refine TP_p (v := (.int .i64 q67)) rfl rfl (fun w' => (yl_rem' hq68 rfl rfl)) ?_
      refine TP_p (v := (.int .i64 x47)) rfl rfl (fun w' => (yl_assign rfl)) ?_
      refine TP_p (v := (.int .i64 q67)) rfl rfl (fun w' => (yl_assign rfl)) ?_
      refine TP_done ?_
      replace h := some_out h
      subst h
      refine hK58 _ _ _ rfl ?_
      exact ⟨x47, q67, rfl, rfl, rfl, e66⟩
    · replace h := cond_f hb63 h
      refine WC_exit ?_
      replace h := some_out h
      subst h
      have ho := hx57 _ rfl
      subst ho
      refine hK59 _ _ ?_
      exact ⟨x45, rfl, hs46, e44⟩
  · rintro ρ wd49 ⟨x51, rfl, hs52, e50⟩
    replace h := hn55
    refine hK2 _ _ ?_
    refine WC_seqK fun K69 hK69 => ?_
    refine WC_region ?_
    refine T0_q (v := (.int .i64 x51)) rfl (yl_move hs52) ?_
    refine T0_q (v := (.int .i64 x51)) rfl (yl_assign rfl) ?_
    refine T0_nil ?_
    refine hK69 _ _ ?_
    refine WC_ret ?_
    replace h := some_out h
    subst h
    exact ⟨[(.int .i64 x51)], ⟨rfl, trivial⟩, e50, rfl⟩

noncomputable def ref04_WindowsOf_spec (p_t : LocateTrack) : Option Int :=
  (bif p_t.Round then (
    some (p_t.Vanes.length : Int)
  ) else (
    some (w64 ((w64 ((p_t.Vanes.length : Int) - p_t.Window)) + 1))
  ))
theorem ref04_WindowsOf_ok (L : List Value) (w : World) (hL : LtL L w) (cs_p_t : List Value) (p_t : LocateTrack) (h_p_t : Rep.rd L w cs_p_t p_t) (r : Int) (h : ref04_WindowsOf_spec p_t = some r) :
    CallsTo Try.prog 44 [(.agg cs_p_t.toArray)] w (fun v w' => Ext w w' ∧ (.int .i64 r) = v) := by
  have e0 : Ext w w := Chg.refl _ _
  obtain ⟨v1, h2, rfl⟩ := h_p_t
  refine callsTo_of_WC (n := 15) (rs := [.tmp 2]) Try.func44 rfl rfl rfl rfl rfl ?_
  refine WC_seqK fun K4 hK4 => ?_
  refine WC_region ?_
  refine T0_e rfl (eff_boxC (cs := [v1, (.int .i64 p_t.Window), (.int .i64 p_t.Tooth), (.int .i64 p_t.PerVane), (.int .i64 p_t.First), (.int .i64 p_t.Modulus), (.int .i64 p_t.Slack), (.int .i64 p_t.Errors), (.bool p_t.Round)]) rfl rfl ?_)
  intro b5 wd6 hb7 he8 hB9
  have hbf10 := bfresh e0 hb7
  have e11 := e0.trans he8
  refine T0_q (v := (.int .i64 0)) rfl (yl_assign rfl) ?_
  refine T0_nil ?_
  refine hK4 _ _ ?_
  refine WC_seqK fun K13 hK13 => ?_
  refine WC_seqK fun K14 hK14 => ?_
  refine WC_region ?_
  refine T0_q (v := (.pointer (some ⟨b5, 8, none⟩))) rfl (yl_fa 8 Try.underlying24 rfl rfl ⟨0, sz4⟩ rfl rfl) ?_
  refine T0_q (v := (.bool p_t.Round)) rfl (yl_load sc4 rfl (At.drop (Box.at hB9) 8)) ?_
  refine T0_nil ?_
  refine hK14 _ _ ?_
  refine WC_cond (b := p_t.Round) rfl (fun hb15 => ?_) (fun hb15 => ?_)
  · replace h := cond_t hb15 h
    refine WC_seqK fun K16 hK16 => ?_
    refine WC_region ?_
    refine T0_q (v := (.pointer (some ⟨b5, 0, none⟩))) rfl (yl_fa 0 Try.underlying24 rfl rfl ⟨0, sz22⟩ rfl rfl) ?_
    refine T0_q (v := v1) rfl (yl_load sc22 rfl (Box.at hB9)) ?_
    refine T0_q (v := (.int .i64 (p_t.Vanes.length : Int))) rfl (yl_lenR rfl Try.underlying22 h2 rfl) ?_
    refine T0_q (v := (.int .i64 (p_t.Vanes.length : Int))) rfl (yl_assign rfl) ?_
    refine T0_nil ?_
    refine hK16 _ _ ?_
    refine WC_ret ?_
    replace h := some_out h
    subst h
    exact ⟨[(.int .i64 (p_t.Vanes.length : Int))], ⟨rfl, trivial⟩, e11, rfl⟩
  · replace h := cond_f hb15 h
    refine WC_skip ?_
    refine hK13 _ _ ?_
    refine WC_seqK fun K17 hK17 => ?_
    refine WC_region ?_
    refine T0_q (v := (.pointer (some ⟨b5, 0, none⟩))) rfl (yl_fa 0 Try.underlying24 rfl rfl ⟨0, sz22⟩ rfl rfl) ?_
    refine T0_q (v := v1) rfl (yl_load sc22 rfl (Box.at hB9)) ?_
    refine T0_q (v := (.int .i64 (p_t.Vanes.length : Int))) rfl (yl_lenR rfl Try.underlying22 h2 rfl) ?_
    refine T0_q (v := (.pointer (some ⟨b5, 1, none⟩))) rfl (yl_fa 1 Try.underlying24 rfl rfl ⟨0, sz3⟩ rfl rfl) ?_
    refine T0_q (v := (.int .i64 p_t.Window)) rfl (yl_load sc3 rfl (At.drop (Box.at hB9) 1)) ?_
    refine T0_q (v := (.int .i64 (w64 ((p_t.Vanes.length : Int) - p_t.Window)))) rfl (yl_sub rfl rfl) ?_
    refine T0_q (v := (.int .i64 (w64 ((w64 ((p_t.Vanes.length : Int) - p_t.Window)) + 1)))) rfl (yl_add rfl rfl) ?_
    refine T0_q (v := (.int .i64 (w64 ((w64 ((p_t.Vanes.length : Int) - p_t.Window)) + 1)))) rfl (yl_assign rfl) ?_
    refine T0_nil ?_
    refine hK17 _ _ ?_
    refine WC_ret ?_
    replace h := some_out h
    subst h
    exact ⟨[(.int .i64 (w64 ((w64 ((p_t.Vanes.length : Int) - p_t.Window)) + 1)))], ⟨rfl, trivial⟩, e11, rfl⟩

noncomputable def locate_track_windows_spec (p_t : locate_track) : Option Int :=
  (bif p_t.LocateTrack.Round then (
    some (p_t.LocateTrack.Vanes.length : Int)
  ) else (
    some (w64 ((w64 ((p_t.LocateTrack.Vanes.length : Int) - p_t.LocateTrack.Window)) + 1))
  ))
theorem locate_track_windows_ok (L : List Value) (w : World) (hL : LtL L w) (cs_p_t : List Value) (p_t : locate_track) (h_p_t : Rep.rd L w cs_p_t p_t) (r : Int) (h : locate_track_windows_spec p_t = some r) :
    CallsTo Try.prog 46 [(.agg cs_p_t.toArray)] w (fun v w' => Ext w w' ∧ (.int .i64 r) = v) := by
  have e0 : Ext w w := Chg.refl _ _
  obtain ⟨v1, h2, rfl⟩ := h_p_t
  refine callsTo_of_WC (n := 19) (rs := [.tmp 2]) Try.func46 rfl rfl rfl rfl rfl ?_
  refine WC_seqK fun K4 hK4 => ?_
  refine WC_region ?_
  refine T0_e rfl (eff_boxC (cs := [v1, (.int .i64 p_t.LocateTrack.Window), (.int .i64 p_t.LocateTrack.Tooth), (.int .i64 p_t.LocateTrack.PerVane), (.int .i64 p_t.LocateTrack.First), (.int .i64 p_t.LocateTrack.Modulus), (.int .i64 p_t.LocateTrack.Slack), (.int .i64 p_t.LocateTrack.Errors), (.bool p_t.LocateTrack.Round)]) rfl rfl ?_)
  intro b5 wd6 hb7 he8 hB9
  have hbf10 := bfresh e0 hb7
  have e11 := e0.trans he8
  refine T0_q (v := (.int .i64 0)) rfl (yl_assign rfl) ?_
  refine T0_nil ?_
  refine hK4 _ _ ?_
  refine WC_seqK fun K13 hK13 => ?_
  refine WC_seqK fun K14 hK14 => ?_
  refine WC_region ?_
  refine T0_q (v := (.pointer (some ⟨b5, 0, none⟩))) rfl (yl_fa 0 Try.underlying68 rfl rfl ⟨8, sz24⟩ rfl rfl) ?_
  refine T0_q (v := (.pointer (some ⟨b5, 8, none⟩))) rfl (yl_fa 8 Try.underlying24 rfl rfl ⟨0, sz4⟩ rfl rfl) ?_
  refine T0_q (v := (.bool p_t.LocateTrack.Round)) rfl (yl_load sc4 rfl (At.drop (Box.at hB9) 8)) ?_
  refine T0_nil ?_
  refine hK14 _ _ ?_
  refine WC_cond (b := p_t.LocateTrack.Round) rfl (fun hb15 => ?_) (fun hb15 => ?_)
  · replace h := cond_t hb15 h
    refine WC_seqK fun K16 hK16 => ?_
    refine WC_region ?_
    refine T0_q (v := (.pointer (some ⟨b5, 0, none⟩))) rfl (yl_fa 0 Try.underlying68 rfl rfl ⟨8, sz24⟩ rfl rfl) ?_
    refine T0_q (v := (.pointer (some ⟨b5, 0, none⟩))) rfl (yl_fa 0 Try.underlying24 rfl rfl ⟨0, sz22⟩ rfl rfl) ?_
    refine T0_q (v := v1) rfl (yl_load sc22 rfl (Box.at hB9)) ?_
    refine T0_q (v := (.int .i64 (p_t.LocateTrack.Vanes.length : Int))) rfl (yl_lenR rfl Try.underlying22 h2 rfl) ?_
    refine T0_q (v := (.int .i64 (p_t.LocateTrack.Vanes.length : Int))) rfl (yl_assign rfl) ?_
    refine T0_nil ?_
    refine hK16 _ _ ?_
    refine WC_ret ?_
    replace h := some_out h
    subst h
    exact ⟨[(.int .i64 (p_t.LocateTrack.Vanes.length : Int))], ⟨rfl, trivial⟩, e11, rfl⟩
  · replace h := cond_f hb15 h
    refine WC_skip ?_
    refine hK13 _ _ ?_
    refine WC_seqK fun K17 hK17 => ?_
    refine WC_region ?_
    refine T0_q (v := (.pointer (some ⟨b5, 0, none⟩))) rfl (yl_fa 0 Try.underlying68 rfl rfl ⟨8, sz24⟩ rfl rfl) ?_
    refine T0_q (v := (.pointer (some ⟨b5, 0, none⟩))) rfl (yl_fa 0 Try.underlying24 rfl rfl ⟨0, sz22⟩ rfl rfl) ?_
    refine T0_q (v := v1) rfl (yl_load sc22 rfl (Box.at hB9)) ?_
    refine T0_q (v := (.int .i64 (p_t.LocateTrack.Vanes.length : Int))) rfl (yl_lenR rfl Try.underlying22 h2 rfl) ?_
    refine T0_q (v := (.pointer (some ⟨b5, 0, none⟩))) rfl (yl_fa 0 Try.underlying68 rfl rfl ⟨8, sz24⟩ rfl rfl) ?_
    refine T0_q (v := (.pointer (some ⟨b5, 1, none⟩))) rfl (yl_fa 1 Try.underlying24 rfl rfl ⟨0, sz3⟩ rfl rfl) ?_
    refine T0_q (v := (.int .i64 p_t.LocateTrack.Window)) rfl (yl_load sc3 rfl (At.drop (Box.at hB9) 1)) ?_
    refine T0_q (v := (.int .i64 (w64 ((p_t.LocateTrack.Vanes.length : Int) - p_t.LocateTrack.Window)))) rfl (yl_sub rfl rfl) ?_
    refine T0_q (v := (.int .i64 (w64 ((w64 ((p_t.LocateTrack.Vanes.length : Int) - p_t.LocateTrack.Window)) + 1)))) rfl (yl_add rfl rfl) ?_
    refine T0_q (v := (.int .i64 (w64 ((w64 ((p_t.LocateTrack.Vanes.length : Int) - p_t.LocateTrack.Window)) + 1)))) rfl (yl_assign rfl) ?_
    refine T0_nil ?_
    refine hK17 _ _ ?_
    refine WC_ret ?_
    replace h := some_out h
    subst h
    exact ⟨[(.int .i64 (w64 ((w64 ((p_t.LocateTrack.Vanes.length : Int) - p_t.LocateTrack.Window)) + 1)))], ⟨rfl, trivial⟩, e11, rfl⟩

noncomputable def locate_speedErr_1_spec (p_n : Int) : Option Bool :=
  (Option.bind (locate_within_spec p_n (-140000) 140000) fun r3 =>
  some r3
  )
theorem locate_speedErr_1_ok (L : List Value) (w : World) (hL : LtL L w) (p_n : Int) (r : Bool) (h : locate_speedErr_1_spec p_n = some r) :
    CallsTo Try.prog 49 [(.int .i64 p_n)] w (fun v w' => Ext w w' ∧ (.bool r) = v) := by
  have e0 : Ext w w := Chg.refl _ _
  refine callsTo_of_WC (n := 5) (rs := [.tmp 2]) Try.func49 rfl rfl rfl rfl rfl ?_
  refine WC_seqK fun K1 hK1 => ?_
  refine WC_region ?_
  refine T0_q (v := (.bool false)) rfl (yl_assign rfl) ?_
  refine T0_nil ?_
  refine hK1 _ _ ?_
  refine WC_seqK fun K2 hK2 => ?_
  refine WC_region ?_
  refine T0_q (v := (.int .i64 p_n)) rfl (yl_move rfl) ?_
  obtain ⟨r3, hr4, h⟩ := bind_elim h
  refine T0_e rfl (eff_call Try.func27 nm27 rfl (ev3 rfl rfl rfl) (locate_within_ok [] _ (LtL.nil _) p_n (-140000) 140000 r3 hr4) ?_)
  rintro _ wd5 ⟨he6, rfl⟩
  have e7 := e0.trans he6
  refine T0_q (v := (.bool r3)) rfl (yl_assign rfl) ?_
  refine T0_nil ?_
  refine hK2 _ _ ?_
  refine WC_ret ?_
  replace h := some_out h
  subst h
  exact ⟨[(.bool r3)], ⟨rfl, trivial⟩, e7, rfl⟩

noncomputable def locate_isPlace_spec (p_n : Int) : Option Bool :=
  (Option.bind (locate_within_spec p_n 0 1000000000) fun r3 =>
  some r3
  )
theorem locate_isPlace_ok (L : List Value) (w : World) (hL : LtL L w) (p_n : Int) (r : Bool) (h : locate_isPlace_spec p_n = some r) :
    CallsTo Try.prog 50 [(.int .i64 p_n)] w (fun v w' => Ext w w' ∧ (.bool r) = v) := by
  have e0 : Ext w w := Chg.refl _ _
  refine callsTo_of_WC (n := 5) (rs := [.tmp 2]) Try.func50 rfl rfl rfl rfl rfl ?_
  refine WC_seqK fun K1 hK1 => ?_
  refine WC_region ?_
  refine T0_q (v := (.bool false)) rfl (yl_assign rfl) ?_
  refine T0_nil ?_
  refine hK1 _ _ ?_
  refine WC_seqK fun K2 hK2 => ?_
  refine WC_region ?_
  refine T0_q (v := (.int .i64 p_n)) rfl (yl_move rfl) ?_
  obtain ⟨r3, hr4, h⟩ := bind_elim h
  refine T0_e rfl (eff_call Try.func27 nm27 rfl (ev3 rfl rfl rfl) (locate_within_ok [] _ (LtL.nil _) p_n 0 1000000000 r3 hr4) ?_)
  rintro _ wd5 ⟨he6, rfl⟩
  have e7 := e0.trans he6
  refine T0_q (v := (.bool r3)) rfl (yl_assign rfl) ?_
  refine T0_nil ?_
  refine hK2 _ _ ?_
  refine WC_ret ?_
  replace h := some_out h
  subst h
  exact ⟨[(.bool r3)], ⟨rfl, trivial⟩, e7, rfl⟩

noncomputable def locate_floor_spec (p_n : Int) (p_by : Int) : Option Int :=
  (Option.bind (rem p_n p_by) fun q4 =>
  (bif (decide (q4 < 0)) then (
    (Option.bind (quo (w64 (p_n - p_by)) p_by) fun q9 =>
    some q9
    )
  ) else (
    (Option.bind (quo p_n p_by) fun q12 =>
    some q12
    )
  ))
  )
theorem locate_floor_ok (L : List Value) (w : World) (hL : LtL L w) (p_n : Int) (p_by : Int) (r : Int) (h : locate_floor_spec p_n p_by = some r) :
    CallsTo Try.prog 51 [(.int .i64 p_n), (.int .i64 p_by)] w (fun v w' => Ext w w' ∧ (.int .i64 r) = v) := by
  have e0 : Ext w w := Chg.refl _ _
  refine callsTo_of_WC (n := 17) (rs := [.tmp 4]) Try.func51 rfl rfl rfl rfl rfl ?_
  refine WC_seqK fun K1 hK1 => ?_
  refine WC_region ?_
  refine T0_q (v := (.int .i64 0)) rfl (yl_assign rfl) ?_
  refine T0_nil ?_
  refine hK1 _ _ ?_
  refine WC_seqK fun K2 hK2 => ?_
  refine WC_seqK fun K3 hK3 => ?_
  refine WC_region ?_
  refine T0_q (v := (.int .i64 p_n)) rfl (yl_move rfl) ?_
  refine T0_q (v := (.int .i64 p_by)) rfl (yl_move rfl) ?_
  obtain ⟨q4, hq5, h⟩ := bind_elim h
  refine T0_q (v := (.int .i64 q4)) rfl (yl_rem' hq5 rfl rfl) ?_
  refine T0_q (v := (.int .i64 q4)) rfl (yl_assign rfl) ?_
  refine T0_nil ?_
  refine hK3 _ _ ?_
  refine WC_seqK fun K6 hK6 => ?_
  refine WC_region ?_
  refine T0_q (v := (.int .i64 q4)) rfl (yl_move rfl) ?_
  refine T0_q (v := (.bool (decide (q4 < 0)))) rfl (yl_lss rfl rfl) ?_
  refine T0_nil ?_
  refine hK6 _ _ ?_
  refine WC_cond (b := (decide (q4 < 0))) rfl (fun hb7 => ?_) (fun hb7 => ?_)
  · replace h := cond_t hb7 h
    refine WC_region ?_
    refine T0_q (v := (.int .i64 p_n)) rfl (yl_move rfl) ?_
    refine T0_q (v := (.int .i64 p_by)) rfl (yl_move rfl) ?_
    refine T0_q (v := (.int .i64 (w64 (p_n - p_by)))) rfl (yl_sub rfl rfl) ?_
    refine T0_q (v := (.int .i64 (w64 (p_n - p_by)))) rfl (yl_assign rfl) ?_
    refine T0_nil ?_
    refine hK2 _ _ ?_
    refine WC_seqK fun K8 hK8 => ?_
    refine WC_region ?_
    refine T0_q (v := (.int .i64 (w64 (p_n - p_by)))) rfl (yl_move rfl) ?_
    refine T0_q (v := (.int .i64 p_by)) rfl (yl_move rfl) ?_
    obtain ⟨q9, hq10, h⟩ := bind_elim h
    refine T0_q (v := (.int .i64 q9)) rfl (yl_quo' hq10 rfl rfl) ?_
    refine T0_q (v := (.int .i64 q9)) rfl (yl_assign rfl) ?_
    refine T0_nil ?_
    refine hK8 _ _ ?_
    refine WC_ret ?_
    replace h := some_out h
    subst h
    exact ⟨[(.int .i64 q9)], ⟨rfl, trivial⟩, e0, rfl⟩
  · replace h := cond_f hb7 h
    refine WC_skip ?_
    refine hK2 _ _ ?_
    refine WC_seqK fun K11 hK11 => ?_
    refine WC_region ?_
    refine T0_q (v := (.int .i64 p_n)) rfl (yl_move rfl) ?_
    refine T0_q (v := (.int .i64 p_by)) rfl (yl_move rfl) ?_
    obtain ⟨q12, hq13, h⟩ := bind_elim h
    refine T0_q (v := (.int .i64 q12)) rfl (yl_quo' hq13 rfl rfl) ?_
    refine T0_q (v := (.int .i64 q12)) rfl (yl_assign rfl) ?_
    refine T0_nil ?_
    refine hK11 _ _ ?_
    refine WC_ret ?_
    replace h := some_out h
    subst h
    exact ⟨[(.int .i64 q12)], ⟨rfl, trivial⟩, e0, rfl⟩

noncomputable def locate_ceil_spec (p_n : Int) (p_by : Int) : Option Int :=
  (Option.bind (locate_floor_spec (w64 (0 - p_n)) p_by) fun r3 =>
  some (w64 (0 - r3))
  )
theorem locate_ceil_ok (L : List Value) (w : World) (hL : LtL L w) (p_n : Int) (p_by : Int) (r : Int) (h : locate_ceil_spec p_n p_by = some r) :
    CallsTo Try.prog 52 [(.int .i64 p_n), (.int .i64 p_by)] w (fun v w' => Ext w w' ∧ (.int .i64 r) = v) := by
  have e0 : Ext w w := Chg.refl _ _
  refine callsTo_of_WC (n := 10) (rs := [.tmp 4]) Try.func52 rfl rfl rfl rfl rfl ?_
  refine WC_seqK fun K1 hK1 => ?_
  refine WC_region ?_
  refine T0_q (v := (.int .i64 0)) rfl (yl_assign rfl) ?_
  refine T0_nil ?_
  refine hK1 _ _ ?_
  refine WC_seqK fun K2 hK2 => ?_
  refine WC_region ?_
  refine T0_q (v := (.int .i64 p_n)) rfl (yl_move rfl) ?_
  refine T0_q (v := (.int .i64 (w64 (0 - p_n)))) rfl (yl_neg rfl) ?_
  refine T0_q (v := (.int .i64 p_by)) rfl (yl_move rfl) ?_
  obtain ⟨r3, hr4, h⟩ := bind_elim h
  refine T0_e rfl (eff_call Try.func51 nm51 rfl (ev2 rfl rfl) (locate_floor_ok [] _ (LtL.nil _) (w64 (0 - p_n)) p_by r3 hr4) ?_)
  rintro _ wd5 ⟨he6, rfl⟩
  have e7 := e0.trans he6
  refine T0_q (v := (.int .i64 (w64 (0 - r3)))) rfl (yl_neg rfl) ?_
  refine T0_q (v := (.int .i64 (w64 (0 - r3)))) rfl (yl_assign rfl) ?_
  refine T0_nil ?_
  refine hK2 _ _ ?_
  refine WC_ret ?_
  replace h := some_out h
  subst h
  exact ⟨[(.int .i64 (w64 (0 - r3)))], ⟨rfl, trivial⟩, e7, rfl⟩

noncomputable def locate_isBit_spec (p_n : Int) : Option Bool :=
  some ((decide (p_n = 0)) || (decide (p_n = 1)))
theorem locate_isBit_ok (L : List Value) (w : World) (hL : LtL L w) (p_n : Int) (r : Bool) (h : locate_isBit_spec p_n = some r) :
    CallsTo Try.prog 57 [(.int .i64 p_n)] w (fun v w' => Ext w w' ∧ (.bool r) = v) := by
  have e0 : Ext w w := Chg.refl _ _
  refine callsTo_of_WC (n := 9) (rs := [.tmp 2]) Try.func57 rfl rfl rfl rfl rfl ?_
  refine WC_seqK fun K1 hK1 => ?_
  refine WC_region ?_
  refine T0_q (v := (.bool false)) rfl (yl_assign rfl) ?_
  refine T0_nil ?_
  refine hK1 _ _ ?_
  refine WC_seqK fun K2 hK2 => ?_
  refine WC_region ?_
  refine T0_q (v := (.int .i64 p_n)) rfl (yl_move rfl) ?_
  refine T0_q (v := (.bool (decide (p_n = 0)))) rfl (yl_eql rfl rfl) ?_
  refine T0_q (v := (.bool (decide (p_n = 0)))) rfl (yl_move rfl) ?_
  refine T0_g (v := (.int .i64 p_n)) (!(decide (p_n = 0))) (wanted_f rfl rfl rfl rfl) (fun hg => (yl_move rfl)) ?_
  refine T0_g (v := (.bool (decide (p_n = 1)))) (!(decide (p_n = 0))) (wanted_f rfl rfl rfl rfl) (fun hg => (yl_eql (gd_true hg) rfl)) ?_
  refine T0_q (v := (.bool ((decide (p_n = 0)) || (decide (p_n = 1))))) rfl (yl_or rfl rfl (fun hb => (gd_true (not_t hb)))) ?_
  refine T0_q (v := (.bool ((decide (p_n = 0)) || (decide (p_n = 1))))) rfl (yl_assign rfl) ?_
  refine T0_nil ?_
  refine hK2 _ _ ?_
  refine WC_ret ?_
  replace h := some_out h
  subst h
  exact ⟨[(.bool ((decide (p_n = 0)) || (decide (p_n = 1))))], ⟨rfl, trivial⟩, e0, rfl⟩

noncomputable def locate_isSeen_spec (p_n : Int) : Option Bool :=
  (Option.bind (locate_isBit_spec p_n) fun r3 =>
  some (r3 || (decide (p_n = 2)))
  )
theorem locate_isSeen_ok (L : List Value) (w : World) (hL : LtL L w) (p_n : Int) (r : Bool) (h : locate_isSeen_spec p_n = some r) :
    CallsTo Try.prog 60 [(.int .i64 p_n)] w (fun v w' => Ext w w' ∧ (.bool r) = v) := by
  have e0 : Ext w w := Chg.refl _ _
  refine callsTo_of_WC (n := 9) (rs := [.tmp 2]) Try.func60 rfl rfl rfl rfl rfl ?_
  refine WC_seqK fun K1 hK1 => ?_
  refine WC_region ?_
  refine T0_q (v := (.bool false)) rfl (yl_assign rfl) ?_
  refine T0_nil ?_
  refine hK1 _ _ ?_
  refine WC_seqK fun K2 hK2 => ?_
  refine WC_region ?_
  refine T0_q (v := (.int .i64 p_n)) rfl (yl_move rfl) ?_
  obtain ⟨r3, hr4, h⟩ := bind_elim h
  refine T0_e rfl (eff_call Try.func57 nm57 rfl (ev1 rfl) (locate_isBit_ok [] _ (LtL.nil _) p_n r3 hr4) ?_)
  rintro _ wd5 ⟨he6, rfl⟩
  have e7 := e0.trans he6
  refine T0_q (v := (.bool r3)) rfl (yl_move rfl) ?_
  refine T0_g (v := (.int .i64 p_n)) (!r3) (wanted_f rfl rfl rfl rfl) (fun hg => (yl_move rfl)) ?_
  refine T0_g (v := (.bool (decide (p_n = 2)))) (!r3) (wanted_f rfl rfl rfl rfl) (fun hg => (yl_eql (gd_true hg) rfl)) ?_
  refine T0_q (v := (.bool (r3 || (decide (p_n = 2))))) rfl (yl_or rfl rfl (fun hb => (gd_true (not_t hb)))) ?_
  refine T0_q (v := (.bool (r3 || (decide (p_n = 2))))) rfl (yl_assign rfl) ?_
  refine T0_nil ?_
  refine hK2 _ _ ?_
  refine WC_ret ?_
  replace h := some_out h
  subst h
  exact ⟨[(.bool (r3 || (decide (p_n = 2))))], ⟨rfl, trivial⟩, e7, rfl⟩

noncomputable def locate_track_seen_spec (p_t : locate_track) (p_l : (List Int)) : Option Arr12_Int :=
  some (Arr12_Int.mk (p_l.getD 0 0) (p_l.getD 1 0) (p_l.getD 2 0) (p_l.getD 3 0) (p_l.getD 4 0) (p_l.getD 5 0) (p_l.getD 6 0) (p_l.getD 7 0) (p_l.getD 8 0) (p_l.getD 9 0) (p_l.getD 10 0) (p_l.getD 11 0))
theorem locate_track_seen_ok (L : List Value) (w : World) (hL : LtL L w) (cs_p_t : List Value) (p_t : locate_track) (h_p_t : Rep.rd L w cs_p_t p_t) (v_p_l : Value) (p_l : (List Int)) (h_p_l : SlRd L w v_p_l p_l) (r : Arr12_Int) (h : locate_track_seen_spec p_t p_l = some r) :
    CallsTo Try.prog 61 [(.agg cs_p_t.toArray), v_p_l] w (fun v w' => Ext w w' ∧ ∃ (cs0 : List Value), (.agg cs0.toArray) = v ∧ Rep.rd L w' cs0 r) := by
  have e0 : Ext w w := Chg.refl _ _
  obtain ⟨v1, h2, rfl⟩ := h_p_t
  refine callsTo_of_WC (n := 10) (rs := [.cell 4 99]) Try.func61 rfl rfl rfl rfl rfl ?_
  refine WC_seqK fun K5 hK5 => ?_
  refine WC_region ?_
  refine T0_e rfl (eff_boxC (cs := [v1, (.int .i64 p_t.LocateTrack.Window), (.int .i64 p_t.LocateTrack.Tooth), (.int .i64 p_t.LocateTrack.PerVane), (.int .i64 p_t.LocateTrack.First), (.int .i64 p_t.LocateTrack.Modulus), (.int .i64 p_t.LocateTrack.Slack), (.int .i64 p_t.LocateTrack.Errors), (.bool p_t.LocateTrack.Round)]) rfl rfl ?_)
  intro b6 wd7 hb8 he9 hB10
  have hbf11 := bfresh e0 hb8
  have e12 := e0.trans he9
  refine T0_e rfl (eff_allocZ zi99 ?_)
  intro b14 wd15 hb16 he17 hB18
  have hn19 : b14 ≠ b6 := box_ne hB10 hb16
  have hbf20 := bfresh e12 hb16
  have h21 := (h2.ext he9).step (add_box he17 hb16)
  have h22 := (h_p_l.ext he9).step (add_box he17 hb16)
  have e23 := e12.trans he17
  refine T0_nil ?_
  refine hK5 _ _ ?_
  refine WC_seqK fun K25 hK25 => ?_
  refine WC_region ?_
  refine T0_e rfl (eff_allocZ zi99 ?_)
  intro b26 wd27 hb28 he29 hB30
  have hn31 : b26 ≠ b6 := box_ne (hB10.ext he17) hb28
  have hn32 : b26 ≠ b14 := box_ne hB18 hb28
  have hbf33 := bfresh e23 hb28
  have h34 := h21.step (add_box he29 hb28)
  have h35 := h22.step (add_box he29 hb28)
  have e36 := he17.trans he29
  have e37 := e23.trans he29
  refine T0_nil ?_
  refine hK25 _ _ ?_
  refine WC_seqK fun K39 hK39 => ?_
  refine WC_region ?_
  refine T0_q (v := (.slice (some ⟨b26, 0, none⟩) 12 12)) rfl (yl_sliceAv Try.underlying99 sz3 rfl rfl rfl) ?_
  refine T0_q (v := v_p_l) rfl (yl_move rfl) ?_
  refine T0_e rfl (eff_copyA (xs := [0, 0, 0, 0, 0, 0, 0, 0, 0, 0, 0, 0]) (zs := [(p_l.getD 0 0), (p_l.getD 1 0), (p_l.getD 2 0), (p_l.getD 3 0), (p_l.getD 4 0), (p_l.getD 5 0), (p_l.getD 6 0), (p_l.getD 7 0), (p_l.getD 8 0), (p_l.getD 9 0), (p_l.getD 10 0), (p_l.getD 11 0)]) Try.underlying22 sz3 rfl rfl rfl hB30 rfl rfl h35 (cpy_getD12 _ _ _ _ _ _ _ _ _ _ _ _ _) ?_)
  intro wd40 hc41 hB42
  have h43 := h34.step (Stepp.chg_mem hc41 mem0)
  have h44 := h35.step (Stepp.chg_mem hc41 mem0)
  have h45 := (hB10.ext e36).chg hc41 (avoidb hn31)
  have h46 := (hB18.ext he29).chg hc41 (avoidb hn32)
  have e47 := chg_box e37 hc41 hbf33
  refine T0_nil ?_
  refine hK39 _ _ ?_
  refine WC_seqK fun K48 hK48 => ?_
  refine WC_region ?_
  refine T0_q (v := (.agg (List.toArray [(.int .i64 (p_l.getD 0 0)), (.int .i64 (p_l.getD 1 0)), (.int .i64 (p_l.getD 2 0)), (.int .i64 (p_l.getD 3 0)), (.int .i64 (p_l.getD 4 0)), (.int .i64 (p_l.getD 5 0)), (.int .i64 (p_l.getD 6 0)), (.int .i64 (p_l.getD 7 0)), (.int .i64 (p_l.getD 8 0)), (.int .i64 (p_l.getD 9 0)), (.int .i64 (p_l.getD 10 0)), (.int .i64 (p_l.getD 11 0))]))) rfl (yl_loadA (cs := [(.int .i64 (p_l.getD 0 0)), (.int .i64 (p_l.getD 1 0)), (.int .i64 (p_l.getD 2 0)), (.int .i64 (p_l.getD 3 0)), (.int .i64 (p_l.getD 4 0)), (.int .i64 (p_l.getD 5 0)), (.int .i64 (p_l.getD 6 0)), (.int .i64 (p_l.getD 7 0)), (.int .i64 (p_l.getD 8 0)), (.int .i64 (p_l.getD 9 0)), (.int .i64 (p_l.getD 10 0)), (.int .i64 (p_l.getD 11 0))]) ag99 rfl (Box.at hB42)) ?_
  refine T0_e rfl (eff_storeC (vs := [(.int .i64 (p_l.getD 0 0)), (.int .i64 (p_l.getD 1 0)), (.int .i64 (p_l.getD 2 0)), (.int .i64 (p_l.getD 3 0)), (.int .i64 (p_l.getD 4 0)), (.int .i64 (p_l.getD 5 0)), (.int .i64 (p_l.getD 6 0)), (.int .i64 (p_l.getD 7 0)), (.int .i64 (p_l.getD 8 0)), (.int .i64 (p_l.getD 9 0)), (.int .i64 (p_l.getD 10 0)), (.int .i64 (p_l.getD 11 0))]) (cs' := [(.int .i64 (p_l.getD 0 0)), (.int .i64 (p_l.getD 1 0)), (.int .i64 (p_l.getD 2 0)), (.int .i64 (p_l.getD 3 0)), (.int .i64 (p_l.getD 4 0)), (.int .i64 (p_l.getD 5 0)), (.int .i64 (p_l.getD 6 0)), (.int .i64 (p_l.getD 7 0)), (.int .i64 (p_l.getD 8 0)), (.int .i64 (p_l.getD 9 0)), (.int .i64 (p_l.getD 10 0)), (.int .i64 (p_l.getD 11 0))]) sz99 rfl rfl rfl rfl h46 rfl (oc_cons rfl (oc_cons rfl (oc_cons rfl (oc_cons rfl (oc_cons rfl (oc_cons rfl (oc_cons rfl (oc_cons rfl (oc_cons rfl (oc_cons rfl (oc_cons rfl (oc_cons rfl oc_nil)))))))))))) rfl ?_)
  intro wd49 hc50 hB51
  have h52 := h43.step (Stepp.chg_mem hc50 (memS mem0))
  have h53 := h44.step (Stepp.chg_mem hc50 (memS mem0))
  have h54 := h45.chg hc50 (avoidb hn19)
  have h55 := hB42.chg hc50 (avoidb hn32.symm)
  have e56 := chg_box e47 hc50 hbf20
  refine T0_nil ?_
  refine hK48 _ _ ?_
  refine WC_ret ?_
  replace h := some_out h
  subst h
  exact ⟨[(.agg (List.toArray [(.int .i64 (p_l.getD 0 0)), (.int .i64 (p_l.getD 1 0)), (.int .i64 (p_l.getD 2 0)), (.int .i64 (p_l.getD 3 0)), (.int .i64 (p_l.getD 4 0)), (.int .i64 (p_l.getD 5 0)), (.int .i64 (p_l.getD 6 0)), (.int .i64 (p_l.getD 7 0)), (.int .i64 (p_l.getD 8 0)), (.int .i64 (p_l.getD 9 0)), (.int .i64 (p_l.getD 10 0)), (.int .i64 (p_l.getD 11 0))]))], ⟨⟨_, rfl, run_loadVarA (cs := [(.int .i64 (p_l.getD 0 0)), (.int .i64 (p_l.getD 1 0)), (.int .i64 (p_l.getD 2 0)), (.int .i64 (p_l.getD 3 0)), (.int .i64 (p_l.getD 4 0)), (.int .i64 (p_l.getD 5 0)), (.int .i64 (p_l.getD 6 0)), (.int .i64 (p_l.getD 7 0)), (.int .i64 (p_l.getD 8 0)), (.int .i64 (p_l.getD 9 0)), (.int .i64 (p_l.getD 10 0)), (.int .i64 (p_l.getD 11 0))]) ag99 (Box.at hB51)⟩, trivial⟩, e56, [(.int .i64 (p_l.getD 0 0)), (.int .i64 (p_l.getD 1 0)), (.int .i64 (p_l.getD 2 0)), (.int .i64 (p_l.getD 3 0)), (.int .i64 (p_l.getD 4 0)), (.int .i64 (p_l.getD 5 0)), (.int .i64 (p_l.getD 6 0)), (.int .i64 (p_l.getD 7 0)), (.int .i64 (p_l.getD 8 0)), (.int .i64 (p_l.getD 9 0)), (.int .i64 (p_l.getD 10 0)), (.int .i64 (p_l.getD 11 0))], rfl, rfl⟩

noncomputable def locate_track_at_s0 (p_i : Int) (p_t : locate_track) : (Int × Int × Int × Int × Int × Int × Int × Int × Int × Int × Int × Int × Int) → Option ((Int × Int × Int × Int × Int × Int × Int × Int × Int × Int × Int × Int × Int) ⊕ (Int × Int × Int × Int × Int × Int × Int × Int × Int × Int × Int × Int)) := fun (x231, x235, x236, x237, x238, x239, x240, x241, x242, x243, x244, x245, x246) =>
  (bif (decide (x231 < p_t.LocateTrack.Window)) then (
    (Option.bind (rem (w64 (p_i + x231)) (p_t.LocateTrack.Vanes.length : Int)) fun q288 =>
    (Option.bind (idx p_t.LocateTrack.Vanes q288) fun el290 =>
    (Option.bind (idx [x235, x236, x237, x238, x239, x240, x241, x242, x243, x244, x245, x246] x231) fun el296 =>
    some (.inl (w64 (x231 + 1), (bif Nat.beq (x231 : Int).toNat 0 then el290 else x235), (bif Nat.beq (x231 : Int).toNat 1 then el290 else x236), (bif Nat.beq (x231 : Int).toNat 2 then el290 else x237), (bif Nat.beq (x231 : Int).toNat 3 then el290 else x238), (bif Nat.beq (x231 : Int).toNat 4 then el290 else x239), (bif Nat.beq (x231 : Int).toNat 5 then el290 else x240), (bif Nat.beq (x231 : Int).toNat 6 then el290 else x241), (bif Nat.beq (x231 : Int).toNat 7 then el290 else x242), (bif Nat.beq (x231 : Int).toNat 8 then el290 else x243), (bif Nat.beq (x231 : Int).toNat 9 then el290 else x244), (bif Nat.beq (x231 : Int).toNat 10 then el290 else x245), (bif Nat.beq (x231 : Int).toNat 11 then el290 else x246)))
    )
    )
    )
  ) else (
    some (.inr (x235, x236, x237, x238, x239, x240, x241, x242, x243, x244, x245, x246))
  ))
noncomputable def locate_track_at_spec (p_t : locate_track) (p_i : Int) : Option Arr12_Int :=
  (Option.bind (loop (locate_track_at_s0 p_i p_t) (0, 0, 0, 0, 0, 0, 0, 0, 0, 0, 0, 0, 0)) fun ((x258, x259, x260, x261, x262, x263, x264, x265, x266, x267, x268, x269) : Int × Int × Int × Int × Int × Int × Int × Int × Int × Int × Int × Int) =>
  some (Arr12_Int.mk x258 x259 x260 x261 x262 x263 x264 x265 x266 x267 x268 x269)
  )
theorem locate_track_at_ok (L : List Value) (w : World) (hL : LtL L w) (cs_p_t : List Value) (p_t : locate_track) (h_p_t : Rep.rd L w cs_p_t p_t) (p_i : Int) (r : Arr12_Int) (h : locate_track_at_spec p_t p_i = some r) :
    CallsTo Try.prog 62 [(.agg cs_p_t.toArray), (.int .i64 p_i)] w (fun v w' => Ext w w' ∧ ∃ (cs0 : List Value), (.agg cs0.toArray) = v ∧ Rep.rd L w' cs0 r) := by
  have e0 : Ext w w := Chg.refl _ _
  obtain ⟨v1, h2, rfl⟩ := h_p_t
  refine callsTo_of_WC (n := 30) (rs := [.cell 4 99]) Try.func62 rfl rfl rfl rfl rfl ?_
  refine WC_seqK fun K4 hK4 => ?_
  refine WC_region ?_
  refine T0_e rfl (eff_boxC (cs := [v1, (.int .i64 p_t.LocateTrack.Window), (.int .i64 p_t.LocateTrack.Tooth), (.int .i64 p_t.LocateTrack.PerVane), (.int .i64 p_t.LocateTrack.First), (.int .i64 p_t.LocateTrack.Modulus), (.int .i64 p_t.LocateTrack.Slack), (.int .i64 p_t.LocateTrack.Errors), (.bool p_t.LocateTrack.Round)]) rfl rfl ?_)
  intro b5 wd6 hb7 he8 hB9
  have hbf10 := bfresh e0 hb7
  have e11 := e0.trans he8
  refine T0_e rfl (eff_allocZ zi99 ?_)
  intro b13 wd14 hb15 he16 hB17
  have hn18 : b13 ≠ b5 := box_ne hB9 hb15
  have hbf19 := bfresh e11 hb15
  have h20 := (h2.ext he8).step (add_box he16 hb15)
  have e21 := e11.trans he16
  refine T0_nil ?_
  refine hK4 _ _ ?_
  refine WC_seqK fun K23 hK23 => ?_
  refine WC_region ?_
  refine T0_e rfl (eff_allocZ zi99 ?_)
  intro b24 wd25 hb26 he27 hB28
  have hn29 : b24 ≠ b5 := box_ne (hB9.ext he16) hb26
  have hn30 : b24 ≠ b13 := box_ne hB17 hb26
  have hbf31 := bfresh e21 hb26
  have h32 := h20.step (add_box he27 hb26)
  have e33 := he16.trans he27
  have e34 := e21.trans he27
  refine T0_nil ?_
  refine hK23 _ _ ?_
  refine WC_seqK fun K36 hK36 => ?_
  refine WC_seqK fun K37 hK37 => ?_
  refine WC_region ?_
  refine T0_q (v := (.pointer (some ⟨b5, 0, none⟩))) rfl (yl_fa 0 Try.underlying68 rfl rfl ⟨8, sz24⟩ rfl rfl) ?_
  refine T0_q (v := (.pointer (some ⟨b5, 1, none⟩))) rfl (yl_fa 1 Try.underlying24 rfl rfl ⟨0, sz3⟩ rfl rfl) ?_
  refine T0_q (v := (.int .i64 p_t.LocateTrack.Window)) rfl (yl_load sc3 rfl (At.drop (Box.at (hB9.ext e33)) 1)) ?_
  refine T0_q (v := (.int .i64 0)) rfl (yl_move rfl) ?_
  refine T0_nil ?_
  refine hK37 _ _ ?_
  obtain ⟨o272, hl273, hn274⟩ := bind_elim h
  refine WC_post (fun (ρ : Env) (wd252 : World) => ∃ (x258 : Int) (x259 : Int) (x260 : Int) (x261 : Int) (x262 : Int) (x263 : Int) (x264 : Int) (x265 : Int) (x266 : Int) (x267 : Int) (x268 : Int) (x269 : Int), (x258, x259, x260, x261, x262, x263, x264, x265, x266, x267, x268, x269) = o272 ∧ ρ 4 = (.pointer (some ⟨b13, 0, none⟩)) ∧ ρ 5 = (.pointer (some ⟨b24, 0, none⟩)) ∧ Box wd252 b13 [(.int .i64 0), (.int .i64 0), (.int .i64 0), (.int .i64 0), (.int .i64 0), (.int .i64 0), (.int .i64 0), (.int .i64 0), (.int .i64 0), (.int .i64 0), (.int .i64 0), (.int .i64 0)] 99 ∧ Box wd252 b24 [(.int .i64 x258), (.int .i64 x259), (.int .i64 x260), (.int .i64 x261), (.int .i64 x262), (.int .i64 x263), (.int .i64 x264), (.int .i64 x265), (.int .i64 x266), (.int .i64 x267), (.int .i64 x268), (.int .i64 x269)] 99 ∧ Ext w wd252) ?_ ?_
  · intro K278 hK278
    refine WC_block ?_
    refine WC_loopk (fun sv ρ wd224 => ∃ (x231 : Int) (x235 : Int) (x236 : Int) (x237 : Int) (x238 : Int) (x239 : Int) (x240 : Int) (x241 : Int) (x242 : Int) (x243 : Int) (x244 : Int) (x245 : Int) (x246 : Int), (x231, x235, x236, x237, x238, x239, x240, x241, x242, x243, x244, x245, x246) = sv ∧ ρ 1 = (.int .i64 p_i) ∧ ρ 2 = (.pointer (some ⟨b5, 0, none⟩)) ∧ ρ 4 = (.pointer (some ⟨b13, 0, none⟩)) ∧ ρ 5 = (.pointer (some ⟨b24, 0, none⟩)) ∧ ρ 9 = (.int .i64 p_t.LocateTrack.Window) ∧ ρ 10 = (.int .i64 x231) ∧ SlRd ((.pointer (some ⟨b24, 0, none⟩)) :: (.pointer (some ⟨b13, 0, none⟩)) :: L) wd224 v1 p_t.LocateTrack.Vanes ∧ Box wd224 b13 [(.int .i64 0), (.int .i64 0), (.int .i64 0), (.int .i64 0), (.int .i64 0), (.int .i64 0), (.int .i64 0), (.int .i64 0), (.int .i64 0), (.int .i64 0), (.int .i64 0), (.int .i64 0)] 99 ∧ Box wd224 b24 [(.int .i64 x235), (.int .i64 x236), (.int .i64 x237), (.int .i64 x238), (.int .i64 x239), (.int .i64 x240), (.int .i64 x241), (.int .i64 x242), (.int .i64 x243), (.int .i64 x244), (.int .i64 x245), (.int .i64 x246)] 99 ∧ Box wd224 b5 [v1, (.int .i64 p_t.LocateTrack.Window), (.int .i64 p_t.LocateTrack.Tooth), (.int .i64 p_t.LocateTrack.PerVane), (.int .i64 p_t.LocateTrack.First), (.int .i64 p_t.LocateTrack.Modulus), (.int .i64 p_t.LocateTrack.Slack), (.int .i64 p_t.LocateTrack.Errors), (.bool p_t.LocateTrack.Round)] 68 ∧ Ext w wd224) hl273 ⟨0, 0, 0, 0, 0, 0, 0, 0, 0, 0, 0, 0, 0, rfl, rfl, rfl, rfl, rfl, rfl, rfl, h32, (hB17.ext he27), hB28, (hB9.ext e33), e34⟩ ?_
    rintro _ ρ wd224 ⟨x231, x235, x236, x237, x238, x239, x240, x241, x242, x243, x244, x245, x246, rfl, hs226, hs227, hs228, hs229, hs230, hs232, h249, hB234, hB248, hB251, e225⟩ x275 h hx276 K277 hK277
    refine WC_seqK fun K280 hK280 => ?_
    refine WC_region ?_
    refine T0_q (v := (.bool (decide (x231 < p_t.LocateTrack.Window)))) rfl (yl_lss hs232 hs230) ?_
    refine T0_nil ?_
    refine hK280 _ _ ?_
    refine WC_seqK fun K281 hK281 => ?_
    refine WC_cond (b := (decide (x231 < p_t.LocateTrack.Window))) rfl (fun hb282 => ?_) (fun hb282 => ?_)
    · replace h := cond_t hb282 h
      refine WC_skip ?_
      refine hK281 _ _ ?_
      refine WC_seqK fun K283 hK283 => ?_
      refine WC_block ?_
      refine WC_seqK fun K284 hK284 => ?_
      refine WC_region ?_
      refine T0_q (v := (.int .i64 x231)) rfl (yl_move hs232) ?_
      refine T0_q (v := (.int .i64 x231)) rfl (yl_assign rfl) ?_
      refine T0_nil ?_
      refine hK284 _ _ ?_
      refine WC_plan mixed (.p 0 (.p 1 (.p 2 (.p 4 (.p 5 (.p 6 (.p 7 (.p 8 (.q 3 (.q 9 (.p 10 (.p 11 (.p 12 (.q 13 (.p 14 (.b 15 .done)))))))))))))))) (by kernel_rfl) ?_
      intro wd285 he286
      have e287 := e225.trans he286
      refine TP_p (v := (.int .i64 x231)) rfl rfl (fun w' => (yl_move rfl)) ?_
      refine TP_p (v := (.pointer (some ⟨b5, 0, none⟩))) rfl rfl (fun w' => (yl_fa 0 Try.underlying68 rfl rfl ⟨8, sz24⟩ hs227 rfl)) ?_
      refine TP_p (v := (.pointer (some ⟨b5, 0, none⟩))) rfl rfl (fun w' => (yl_fa 0 Try.underlying24 rfl rfl ⟨0, sz22⟩ rfl rfl)) ?_
      refine TP_p (v := (.int .i64 p_i)) rfl rfl (fun w' => (yl_move hs226)) ?_
      refine TP_p (v := (.int .i64 x231)) rfl rfl (fun w' => (yl_move rfl)) ?_
      refine TP_p (v := (.int .i64 (w64 (p_i + x231)))) rfl rfl (fun w' => (yl_add rfl rfl)) ?_
      refine TP_p (v := (.pointer (some ⟨b5, 0, none⟩))) rfl rfl (fun w' => (yl_fa 0 Try.underlying68 rfl rfl ⟨8, sz24⟩ hs227 rfl)) ?_
      refine TP_p (v := (.pointer (some ⟨b5, 0, none⟩))) rfl rfl (fun w' => (yl_fa 0 Try.underlying24 rfl rfl ⟨0, sz22⟩ rfl rfl)) ?_
      refine TP_q (v := v1) rfl rfl (fun w' hS => (yl_load sc22 rfl (Box.at (hB251.ext ((he286).trans hS))))) ?_
      refine TP_q (v := v1) rfl rfl (fun w' hS => (yl_load sc22 rfl (Box.at (hB251.ext ((he286).trans hS))))) ?_
      refine TP_p (v := (.int .i64 (p_t.LocateTrack.Vanes.length : Int))) rfl rfl (fun w' => (yl_lenR rfl Try.underlying22 h249 rfl)) ?_
      obtain ⟨q288, hq289, h⟩ := bind_elim h
      refine TP_p (v := (.int .i64 q288)) rfl rfl (fun w' => (yl_rem' hq289 rfl rfl)) ?_
      obtain ⟨el290, hel291, h⟩ := bind_elim h
      obtain ⟨cs292, hat293, hrd294⟩ := SlRd.at h249 hel291
      have hrd294 : cs292 = [(.int .i64 el290)] := hrd294
      subst hrd294
      refine TP_p (v := (.pointer (some (elemAddr v1 (q288 : Int).toNat 1)))) rfl rfl (fun w' => (yl_indexAddr Try.underlying22 sz3 h249 hel291 rfl rfl)) ?_
      refine TP_q (v := (.int .i64 el290)) rfl rfl (fun w' hS => (yl_load sc3 rfl (hat293.ext' ((he286).trans hS)))) ?_
      obtain ⟨el296, hel297, h⟩ := bind_elim h
      refine TP_p (v := (.pointer (some (Addr.add ⟨b24, 0, none⟩ ((x231 : Int).toNat * 1))))) rfl rfl (fun w' => (yl_indexAddrA Try.underlying99 sz3 (idx_some hel297).1 (glob_lt (xs := [x235, x236, x237, x238, x239, x240, x241, x242, x243, x244, x245, x246]) hel297) hs229 rfl)) ?_
      refine TP_b rfl rfl (eff_storeI (xs := [x235, x236, x237, x238, x239, x240, x241, x242, x243, x244, x245, x246]) (ys := [(bif Nat.beq (x231 : Int).toNat 0 then el290 else x235), (bif Nat.beq (x231 : Int).toNat 1 then el290 else x236), (bif Nat.beq (x231 : Int).toNat 2 then el290 else x237), (bif Nat.beq (x231 : Int).toNat 3 then el290 else x238), (bif Nat.beq (x231 : Int).toNat 4 then el290 else x239), (bif Nat.beq (x231 : Int).toNat 5 then el290 else x240), (bif Nat.beq (x231 : Int).toNat 6 then el290 else x241), (bif Nat.beq (x231 : Int).toNat 7 then el290 else x242), (bif Nat.beq (x231 : Int).toNat 8 then el290 else x243), (bif Nat.beq (x231 : Int).toNat 9 then el290 else x244), (bif Nat.beq (x231 : Int).toNat 10 then el290 else x245), (bif Nat.beq (x231 : Int).toNat 11 then el290 else x246)]) sz3 rfl rfl hel297 rfl (hB248.ext he286) rfl ?_)
      intro wd298 hc299 hB300
      have h301 := (hB234.ext he286).chg hc299 (avoidb hn30)
      have h302 := (h249.ext he286).step (Stepp.chg_mem hc299 mem0)
      have h303 := (hB251.ext he286).chg hc299 (avoidb hn29)
      have e304 := chg_box e287 hc299 hbf31
      refine TP_done ?_
      refine hK283 _ _ ?_
      refine WC_region ?_
      refine T0_q (v := (.int .i64 (w64 (x231 + 1)))) rfl (yl_add hs232 rfl) ?_
      refine T0_q (v := (.int .i64 (w64 (x231 + 1)))) rfl (yl_move rfl) ?_
      refine T0_nil ?_
      replace h := some_out h
      subst h
      refine hK277 _ _ _ rfl ?_
      exact ⟨w64 (x231 + 1), (bif Nat.beq (x231 : Int).toNat 0 then el290 else x235), (bif Nat.beq (x231 : Int).toNat 1 then el290 else x236), (bif Nat.beq (x231 : Int).toNat 2 then el290 else x237), (bif Nat.beq (x231 : Int).toNat 3 then el290 else x238), (bif Nat.beq (x231 : Int).toNat 4 then el290 else x239), (bif Nat.beq (x231 : Int).toNat 5 then el290 else x240), (bif Nat.beq (x231 : Int).toNat 6 then el290 else x241), (bif Nat.beq (x231 : Int).toNat 7 then el290 else x242), (bif Nat.beq (x231 : Int).toNat 8 then el290 else x243), (bif Nat.beq (x231 : Int).toNat 9 then el290 else x244), (bif Nat.beq (x231 : Int).toNat 10 then el290 else x245), (bif Nat.beq (x231 : Int).toNat 11 then el290 else x246), rfl, hs226, hs227, hs228, hs229, hs230, rfl, h302, h301, hB300, h303, e304⟩
    · replace h := cond_f hb282 h
      refine WC_exit ?_
      replace h := some_out h
      subst h
      have ho := hx276 _ rfl
      subst ho
      refine hK278 _ _ ?_
      exact ⟨x235, x236, x237, x238, x239, x240, x241, x242, x243, x244, x245, x246, rfl, hs228, hs229, hB234, hB248, e225⟩
  · rintro ρ wd252 ⟨x258, x259, x260, x261, x262, x263, x264, x265, x266, x267, x268, x269, rfl, hs254, hs255, hB257, hB271, e253⟩
    replace h := hn274
    refine hK36 _ _ ?_
    refine WC_seqK fun K305 hK305 => ?_
    refine WC_region ?_
    refine T0_q (v := (.agg (List.toArray [(.int .i64 x258), (.int .i64 x259), (.int .i64 x260), (.int .i64 x261), (.int .i64 x262), (.int .i64 x263), (.int .i64 x264), (.int .i64 x265), (.int .i64 x266), (.int .i64 x267), (.int .i64 x268), (.int .i64 x269)]))) rfl (yl_loadA (cs := [(.int .i64 x258), (.int .i64 x259), (.int .i64 x260), (.int .i64 x261), (.int .i64 x262), (.int .i64 x263), (.int .i64 x264), (.int .i64 x265), (.int .i64 x266), (.int .i64 x267), (.int .i64 x268), (.int .i64 x269)]) ag99 hs255 (Box.at hB271)) ?_
    refine T0_e rfl (eff_storeC (vs := [(.int .i64 x258), (.int .i64 x259), (.int .i64 x260), (.int .i64 x261), (.int .i64 x262), (.int .i64 x263), (.int .i64 x264), (.int .i64 x265), (.int .i64 x266), (.int .i64 x267), (.int .i64 x268), (.int .i64 x269)]) (cs' := [(.int .i64 x258), (.int .i64 x259), (.int .i64 x260), (.int .i64 x261), (.int .i64 x262), (.int .i64 x263), (.int .i64 x264), (.int .i64 x265), (.int .i64 x266), (.int .i64 x267), (.int .i64 x268), (.int .i64 x269)]) sz99 rfl rfl hs254 rfl hB257 rfl (oc_cons rfl (oc_cons rfl (oc_cons rfl (oc_cons rfl (oc_cons rfl (oc_cons rfl (oc_cons rfl (oc_cons rfl (oc_cons rfl (oc_cons rfl (oc_cons rfl (oc_cons rfl oc_nil)))))))))))) rfl ?_)
    intro wd306 hc307 hB308
    have h309 := hB271.chg hc307 (avoidb hn30.symm)
    have e310 := chg_box e253 hc307 hbf19
    refine T0_nil ?_
    refine hK305 _ _ ?_
    refine WC_ret ?_
    replace h := some_out h
    subst h
    exact ⟨[(.agg (List.toArray [(.int .i64 x258), (.int .i64 x259), (.int .i64 x260), (.int .i64 x261), (.int .i64 x262), (.int .i64 x263), (.int .i64 x264), (.int .i64 x265), (.int .i64 x266), (.int .i64 x267), (.int .i64 x268), (.int .i64 x269)]))], ⟨⟨_, hs254, run_loadVarA (cs := [(.int .i64 x258), (.int .i64 x259), (.int .i64 x260), (.int .i64 x261), (.int .i64 x262), (.int .i64 x263), (.int .i64 x264), (.int .i64 x265), (.int .i64 x266), (.int .i64 x267), (.int .i64 x268), (.int .i64 x269)]) ag99 (Box.at hB308)⟩, trivial⟩, e310, [(.int .i64 x258), (.int .i64 x259), (.int .i64 x260), (.int .i64 x261), (.int .i64 x262), (.int .i64 x263), (.int .i64 x264), (.int .i64 x265), (.int .i64 x266), (.int .i64 x267), (.int .i64 x268), (.int .i64 x269)], rfl, rfl⟩

noncomputable def locate_window_differ_s0 (p_o : Arr12_Int) (p_w : Arr12_Int) : (Int × Int) → Option ((Int × Int) ⊕ (Int)) := fun (x88, x91) =>
  (bif (decide (x91 < 12)) then (
    (Option.bind (idx [p_w.e0, p_w.e1, p_w.e2, p_w.e3, p_w.e4, p_w.e5, p_w.e6, p_w.e7, p_w.e8, p_w.e9, p_w.e10, p_w.e11] x91) fun el112 =>
    (Option.bind (idx [p_o.e0, p_o.e1, p_o.e2, p_o.e3, p_o.e4, p_o.e5, p_o.e6, p_o.e7, p_o.e8, p_o.e9, p_o.e10, p_o.e11] x91) fun el115 =>
    (Option.bind ((bif ((!decide (el112 = el115)) && (!decide (el112 = 2))) then idx [p_o.e0, p_o.e1, p_o.e2, p_o.e3, p_o.e4, p_o.e5, p_o.e6, p_o.e7, p_o.e8, p_o.e9, p_o.e10, p_o.e11] x91 else some default)) fun el117 =>
    (bif (((!decide (el112 = el115)) && (!decide (el112 = 2))) && (!decide (el117 = 2))) then (
      some (.inl (w64 (x88 + 1), w64 (x91 + 1)))
    ) else (
      some (.inl (x88, w64 (x91 + 1)))
    ))
    )
    )
    )
  ) else (
    some (.inr x88)
  ))
noncomputable def locate_window_differ_spec (p_w : Arr12_Int) (p_o : Arr12_Int) : Option Int :=
  (Option.bind (loop (locate_window_differ_s0 p_o p_w) (0, 0)) fun (x97 : Int) =>
  some x97
  )
theorem locate_window_differ_ok (L : List Value) (w : World) (hL : LtL L w) (cs_p_w : List Value) (p_w : Arr12_Int) (h_p_w : Rep.rd L w cs_p_w p_w) (cs_p_o : List Value) (p_o : Arr12_Int) (h_p_o : Rep.rd L w cs_p_o p_o) (r : Int) (h : locate_window_differ_spec p_w p_o = some r) :
    CallsTo Try.prog 63 [(.agg cs_p_w.toArray), (.agg cs_p_o.toArray)] w (fun v w' => Ext w w' ∧ (.int .i64 r) = v) := by
  have e0 : Ext w w := Chg.refl _ _
  have h_p_w : cs_p_w = [(.int .i64 p_w.e0), (.int .i64 p_w.e1), (.int .i64 p_w.e2), (.int .i64 p_w.e3), (.int .i64 p_w.e4), (.int .i64 p_w.e5), (.int .i64 p_w.e6), (.int .i64 p_w.e7), (.int .i64 p_w.e8), (.int .i64 p_w.e9), (.int .i64 p_w.e10), (.int .i64 p_w.e11)] := h_p_w
  subst h_p_w
  have h_p_o : cs_p_o = [(.int .i64 p_o.e0), (.int .i64 p_o.e1), (.int .i64 p_o.e2), (.int .i64 p_o.e3), (.int .i64 p_o.e4), (.int .i64 p_o.e5), (.int .i64 p_o.e6), (.int .i64 p_o.e7), (.int .i64 p_o.e8), (.int .i64 p_o.e9), (.int .i64 p_o.e10), (.int .i64 p_o.e11)] := h_p_o
  subst h_p_o
  refine callsTo_of_WC (n := 32) (rs := [.tmp 4]) Try.func63 rfl rfl rfl rfl rfl ?_
  refine WC_seqK fun K1 hK1 => ?_
  refine WC_region ?_
  refine T0_e rfl (eff_boxC (cs := [(.int .i64 p_w.e0), (.int .i64 p_w.e1), (.int .i64 p_w.e2), (.int .i64 p_w.e3), (.int .i64 p_w.e4), (.int .i64 p_w.e5), (.int .i64 p_w.e6), (.int .i64 p_w.e7), (.int .i64 p_w.e8), (.int .i64 p_w.e9), (.int .i64 p_w.e10), (.int .i64 p_w.e11)]) rfl rfl ?_)
  intro b2 wd3 hb4 he5 hB6
  have hbf7 := bfresh e0 hb4
  have e8 := e0.trans he5
  refine T0_e rfl (eff_boxC (cs := [(.int .i64 p_o.e0), (.int .i64 p_o.e1), (.int .i64 p_o.e2), (.int .i64 p_o.e3), (.int .i64 p_o.e4), (.int .i64 p_o.e5), (.int .i64 p_o.e6), (.int .i64 p_o.e7), (.int .i64 p_o.e8), (.int .i64 p_o.e9), (.int .i64 p_o.e10), (.int .i64 p_o.e11)]) rfl rfl ?_)
  intro b10 wd11 hb12 he13 hB14
  have hn15 : b10 ≠ b2 := box_ne hB6 hb12
  have hbf16 := bfresh e8 hb12
  have e17 := e8.trans he13
  refine T0_q (v := (.int .i64 0)) rfl (yl_assign rfl) ?_
  refine T0_nil ?_
  refine hK1 _ _ ?_
  refine WC_seqK fun K19 hK19 => ?_
  refine WC_region ?_
  refine T0_q (v := (.int .i64 0)) rfl (yl_assign rfl) ?_
  refine T0_nil ?_
  refine hK19 _ _ ?_
  refine WC_seqK fun K20 hK20 => ?_
  refine WC_seqK fun K21 hK21 => ?_
  refine WC_region ?_
  refine T0_q (v := (.agg (List.toArray [(.int .i64 p_w.e0), (.int .i64 p_w.e1), (.int .i64 p_w.e2), (.int .i64 p_w.e3), (.int .i64 p_w.e4), (.int .i64 p_w.e5), (.int .i64 p_w.e6), (.int .i64 p_w.e7), (.int .i64 p_w.e8), (.int .i64 p_w.e9), (.int .i64 p_w.e10), (.int .i64 p_w.e11)]))) rfl (yl_loadA (cs := [(.int .i64 p_w.e0), (.int .i64 p_w.e1), (.int .i64 p_w.e2), (.int .i64 p_w.e3), (.int .i64 p_w.e4), (.int .i64 p_w.e5), (.int .i64 p_w.e6), (.int .i64 p_w.e7), (.int .i64 p_w.e8), (.int .i64 p_w.e9), (.int .i64 p_w.e10), (.int .i64 p_w.e11)]) ag99 rfl (Box.at (hB6.ext he13))) ?_
  refine T0_q (v := (.int .i64 0)) rfl (yl_move rfl) ?_
  refine T0_nil ?_
  refine hK21 _ _ ?_
  obtain ⟨o99, hl100, hn101⟩ := bind_elim h
  refine WC_post (fun (ρ : Env) (wd95 : World) => ∃ (x97 : Int), x97 = o99 ∧ ρ 5 = (.int .i64 x97) ∧ Ext w wd95) ?_ ?_
  · intro K105 hK105
    refine WC_block ?_
    refine WC_loopk (fun sv ρ wd85 => ∃ (x88 : Int) (x91 : Int), (x88, x91) = sv ∧ ρ 3 = (.pointer (some ⟨b10, 0, none⟩)) ∧ ρ 5 = (.int .i64 x88) ∧ ρ 8 = (.agg (List.toArray [(.int .i64 p_w.e0), (.int .i64 p_w.e1), (.int .i64 p_w.e2), (.int .i64 p_w.e3), (.int .i64 p_w.e4), (.int .i64 p_w.e5), (.int .i64 p_w.e6), (.int .i64 p_w.e7), (.int .i64 p_w.e8), (.int .i64 p_w.e9), (.int .i64 p_w.e10), (.int .i64 p_w.e11)])) ∧ ρ 9 = (.int .i64 x91) ∧ Box wd85 b10 [(.int .i64 p_o.e0), (.int .i64 p_o.e1), (.int .i64 p_o.e2), (.int .i64 p_o.e3), (.int .i64 p_o.e4), (.int .i64 p_o.e5), (.int .i64 p_o.e6), (.int .i64 p_o.e7), (.int .i64 p_o.e8), (.int .i64 p_o.e9), (.int .i64 p_o.e10), (.int .i64 p_o.e11)] 99 ∧ Ext w wd85) hl100 ⟨0, 0, rfl, rfl, rfl, rfl, rfl, hB14, e17⟩ ?_
    rintro _ ρ wd85 ⟨x88, x91, rfl, hs87, hs89, hs90, hs92, hB94, e86⟩ x102 h hx103 K104 hK104
    refine WC_seqK fun K107 hK107 => ?_
    refine WC_region ?_
    refine T0_q (v := (.bool (decide (x91 < 12)))) rfl (yl_lss hs92 rfl) ?_
    refine T0_nil ?_
    refine hK107 _ _ ?_
    refine WC_seqK fun K108 hK108 => ?_
    refine WC_cond (b := (decide (x91 < 12))) rfl (fun hb109 => ?_) (fun hb109 => ?_)
    · replace h := cond_t hb109 h
      refine WC_skip ?_
      refine hK108 _ _ ?_
      refine WC_seqK fun K110 hK110 => ?_
      refine WC_block ?_
      refine WC_seqK fun K111 hK111 => ?_
      refine WC_region ?_
      refine T0_q (v := (.int .i64 x91)) rfl (yl_move hs92) ?_
      obtain ⟨el112, hel113, h⟩ := bind_elim h
      refine T0_q (v := (.int .i64 el112)) rfl (yl_index1 (xs := [p_w.e0, p_w.e1, p_w.e2, p_w.e3, p_w.e4, p_w.e5, p_w.e6, p_w.e7, p_w.e8, p_w.e9, p_w.e10, p_w.e11]) Try.underlying99 sc3 sz3 rfl hs90 hs92 hel113) ?_
      refine T0_q (v := (.int .i64 x91)) rfl (yl_assign rfl) ?_
      refine T0_q (v := (.int .i64 el112)) rfl (yl_assign rfl) ?_
      refine T0_nil ?_
      refine hK111 _ _ ?_
      refine WC_seqK fun K114 hK114 => ?_
      refine WC_region ?_
      refine T0_q (v := (.int .i64 el112)) rfl (yl_move rfl) ?_
      refine T0_q (v := (.int .i64 x91)) rfl (yl_move rfl) ?_
      obtain ⟨el115, hel116, h⟩ := bind_elim h
      refine T0_q (v := (.pointer (some (Addr.add ⟨b10, 0, none⟩ ((x91 : Int).toNat * 1))))) rfl (yl_indexAddrA Try.underlying99 sz3 (idx_some hel116).1 (glob_lt (xs := [p_o.e0, p_o.e1, p_o.e2, p_o.e3, p_o.e4, p_o.e5, p_o.e6, p_o.e7, p_o.e8, p_o.e9, p_o.e10, p_o.e11]) hel116) hs87 rfl) ?_
      refine T0_q (v := (.int .i64 el115)) rfl (yl_load sc3 rfl (glob_at (xs := [p_o.e0, p_o.e1, p_o.e2, p_o.e3, p_o.e4, p_o.e5, p_o.e6, p_o.e7, p_o.e8, p_o.e9, p_o.e10, p_o.e11]) (Box.at hB94) hel116)) ?_
      refine T0_q (v := (.bool (!decide (el112 = el115)))) rfl (yl_neq rfl rfl) ?_
      refine T0_q (v := (.bool (!decide (el112 = el115)))) rfl (yl_move rfl) ?_
      refine T0_g (v := (.int .i64 el112)) (!decide (el112 = el115)) (wanted_t rfl rfl rfl rfl) (fun hg => (yl_move rfl)) ?_
      refine T0_g (v := (.bool (!decide (el112 = 2)))) (!decide (el112 = el115)) (wanted_t rfl rfl rfl rfl) (fun hg => (yl_neq (gd_true hg) rfl)) ?_
      refine T0_q (v := (.bool ((!decide (el112 = el115)) && (!decide (el112 = 2))))) rfl (yl_and rfl (fun hb => (gd_true hb)) rfl) ?_
      refine T0_q (v := (.bool ((!decide (el112 = el115)) && (!decide (el112 = 2))))) rfl (yl_move rfl) ?_
      refine T0_g (v := (.int .i64 x91)) ((!decide (el112 = el115)) && (!decide (el112 = 2))) (wanted_t rfl rfl rfl rfl) (fun hg => (yl_move rfl)) ?_
      obtain ⟨el117, hel118, h⟩ := bind_elim h
      refine T0_g (v := (.pointer (some (Addr.add ⟨b10, 0, none⟩ ((x91 : Int).toNat * 1))))) ((!decide (el112 = el115)) && (!decide (el112 = 2))) (wanted_t rfl rfl rfl rfl) (fun hg => (yl_indexAddrA Try.underlying99 sz3 (idx_some (cond_t hg hel118)).1 (glob_lt (xs := [p_o.e0, p_o.e1, p_o.e2, p_o.e3, p_o.e4, p_o.e5, p_o.e6, p_o.e7, p_o.e8, p_o.e9, p_o.e10, p_o.e11]) (cond_t hg hel118)) hs87 (gd_true hg))) ?_
      refine T0_g (v := (.int .i64 el117)) ((!decide (el112 = el115)) && (!decide (el112 = 2))) (wanted_t rfl rfl rfl rfl) (fun hg => (yl_load sc3 (gd_true hg) (glob_at (xs := [p_o.e0, p_o.e1, p_o.e2, p_o.e3, p_o.e4, p_o.e5, p_o.e6, p_o.e7, p_o.e8, p_o.e9, p_o.e10, p_o.e11]) (Box.at hB94) (cond_t hg hel118)))) ?_
      refine T0_g (v := (.bool (!decide (el117 = 2)))) ((!decide (el112 = el115)) && (!decide (el112 = 2))) (wanted_t rfl rfl rfl rfl) (fun hg => (yl_neq (gd_true hg) rfl)) ?_
      refine T0_q (v := (.bool (((!decide (el112 = el115)) && (!decide (el112 = 2))) && (!decide (el117 = 2))))) rfl (yl_and rfl (fun hb => (gd_true hb)) rfl) ?_
      refine T0_nil ?_
      refine hK114 _ _ ?_
      refine WC_cond (b := (((!decide (el112 = el115)) && (!decide (el112 = 2))) && (!decide (el117 = 2)))) rfl (fun hb119 => ?_) (fun hb119 => ?_)
      · replace h := cond_t hb119 h
        refine WC_region ?_
        refine T0_q (v := (.int .i64 x88)) rfl (yl_move hs89) ?_
        refine T0_q (v := (.int .i64 (w64 (x88 + 1)))) rfl (yl_add rfl rfl) ?_
        refine T0_q (v := (.int .i64 (w64 (x88 + 1)))) rfl (yl_assign rfl) ?_
        refine T0_nil ?_
        refine hK110 _ _ ?_
        refine WC_region ?_
        refine T0_q (v := (.int .i64 (w64 (x91 + 1)))) rfl (yl_add hs92 rfl) ?_
        refine T0_q (v := (.int .i64 (w64 (x91 + 1)))) rfl (yl_move rfl) ?_
        refine T0_nil ?_
        replace h := some_out h
        subst h
        refine hK104 _ _ _ rfl ?_
        exact ⟨w64 (x88 + 1), w64 (x91 + 1), rfl, hs87, rfl, hs90, rfl, hB94, e86⟩
      · replace h := cond_f hb119 h
        refine WC_skip ?_
        refine hK110 _ _ ?_
        refine WC_region ?_
        refine T0_q (v := (.int .i64 (w64 (x91 + 1)))) rfl (yl_add hs92 rfl) ?_
        refine T0_q (v := (.int .i64 (w64 (x91 + 1)))) rfl (yl_move rfl) ?_
        refine T0_nil ?_
        replace h := some_out h
        subst h
        refine hK104 _ _ _ rfl ?_
        exact ⟨x88, w64 (x91 + 1), rfl, hs87, hs89, hs90, rfl, hB94, e86⟩
    · replace h := cond_f hb109 h
      refine WC_exit ?_
      replace h := some_out h
      subst h
      have ho := hx103 _ rfl
      subst ho
      refine hK105 _ _ ?_
      exact ⟨x88, rfl, hs89, e86⟩
  · rintro ρ wd95 ⟨x97, rfl, hs98, e96⟩
    replace h := hn101
    refine hK20 _ _ ?_
    refine WC_seqK fun K120 hK120 => ?_
    refine WC_region ?_
    refine T0_q (v := (.int .i64 x97)) rfl (yl_move hs98) ?_
    refine T0_q (v := (.int .i64 x97)) rfl (yl_assign rfl) ?_
    refine T0_nil ?_
    refine hK120 _ _ ?_
    refine WC_ret ?_
    replace h := some_out h
    subst h
    exact ⟨[(.int .i64 x97)], ⟨rfl, trivial⟩, e96, rfl⟩

noncomputable def ref04_TrackErr_spec (p_t : LocateTrack) : Option Int :=
  (Option.bind (ref04_CheckTrack_spec p_t) fun r14 =>
  some r14.2
  )
theorem ref04_TrackErr_ok (L : List Value) (w : World) (hL : LtL L w) (cs_p_t : List Value) (p_t : LocateTrack) (h_p_t : Rep.rd L w cs_p_t p_t) (r : Int) (h : ref04_TrackErr_spec p_t = some r) :
    CallsTo Try.prog 6 [(.agg cs_p_t.toArray)] w (fun v w' => Ext w w' ∧ (.int .i64 r) = v) := by
  have e0 : Ext w w := Chg.refl _ _
  obtain ⟨v1, h2, rfl⟩ := h_p_t
  refine callsTo_of_WC (n := 11) (rs := [.tmp 2]) Try.func6 rfl rfl rfl rfl rfl ?_
  refine WC_seqK fun K4 hK4 => ?_
  refine WC_region ?_
  refine T0_e rfl (eff_boxC (cs := [v1, (.int .i64 p_t.Window), (.int .i64 p_t.Tooth), (.int .i64 p_t.PerVane), (.int .i64 p_t.First), (.int .i64 p_t.Modulus), (.int .i64 p_t.Slack), (.int .i64 p_t.Errors), (.bool p_t.Round)]) rfl rfl ?_)
  intro b5 wd6 hb7 he8 hB9
  have hbf10 := bfresh e0 hb7
  have e11 := e0.trans he8
  refine T0_q (v := (.int .i64 0)) rfl (yl_assign rfl) ?_
  refine T0_nil ?_
  refine hK4 _ _ ?_
  refine WC_seqK fun K13 hK13 => ?_
  refine WC_region ?_
  refine T0_q (v := (.agg (List.toArray [v1, (.int .i64 p_t.Window), (.int .i64 p_t.Tooth), (.int .i64 p_t.PerVane), (.int .i64 p_t.First), (.int .i64 p_t.Modulus), (.int .i64 p_t.Slack), (.int .i64 p_t.Errors), (.bool p_t.Round)]))) rfl (yl_loadA (cs := [v1, (.int .i64 p_t.Window), (.int .i64 p_t.Tooth), (.int .i64 p_t.PerVane), (.int .i64 p_t.First), (.int .i64 p_t.Modulus), (.int .i64 p_t.Slack), (.int .i64 p_t.Errors), (.bool p_t.Round)]) ag24 rfl (Box.at hB9)) ?_
  obtain ⟨r14, hr15, h⟩ := bind_elim h
  refine T0_e rfl (eff_call Try.func24 nm24 rfl (ev1 rfl) (ref04_CheckTrack_ok [] _ (LtL.nil _) [v1, (.int .i64 p_t.Window), (.int .i64 p_t.Tooth), (.int .i64 p_t.PerVane), (.int .i64 p_t.First), (.int .i64 p_t.Modulus), (.int .i64 p_t.Slack), (.int .i64 p_t.Errors), (.bool p_t.Round)] p_t ⟨v1, ((h2.ext he8).sub (fun _ h => by cases h)), rfl⟩ r14 hr15) ?_)
  rintro _ wd16 ⟨he17, rfl⟩
  have e18 := he8.trans he17
  have e19 := e11.trans he17
  refine T0_q (v := (.tuple #[(.int .i64 r14.1), (.int .i64 r14.2)])) rfl (yl_move rfl) ?_
  refine T0_q (v := (.int .i64 r14.1)) rfl (yl_extract rfl rfl) ?_
  refine T0_q (v := (.int .i64 r14.2)) rfl (yl_extract rfl rfl) ?_
  refine T0_q (v := (.int .i64 r14.1)) rfl (yl_assign rfl) ?_
  refine T0_q (v := (.int .i64 r14.2)) rfl (yl_assign rfl) ?_
  refine T0_nil ?_
  refine hK13 _ _ ?_
  refine WC_seqK fun K20 hK20 => ?_
  refine WC_region ?_
  refine T0_q (v := (.int .i64 r14.2)) rfl (yl_move rfl) ?_
  refine T0_q (v := (.int .i64 r14.2)) rfl (yl_assign rfl) ?_
  refine T0_nil ?_
  refine hK20 _ _ ?_
  refine WC_ret ?_
  replace h := some_out h
  subst h
  exact ⟨[(.int .i64 r14.2)], ⟨rfl, trivial⟩, e19, rfl⟩

noncomputable def ref04_Copy_spec (p_t : LocateTrack) : Option LocateTrack :=
  (Option.bind (base_CopyInts_spec p_t.Vanes) fun r25 =>
  some (LocateTrack.mk r25 p_t.Window p_t.Tooth p_t.PerVane p_t.First p_t.Modulus p_t.Slack p_t.Errors p_t.Round)
  )
theorem ref04_Copy_ok (L : List Value) (w : World) (hL : LtL L w) (cs_p_t : List Value) (p_t : LocateTrack) (h_p_t : Rep.rd L w cs_p_t p_t) (r : LocateTrack) (h : ref04_Copy_spec p_t = some r) :
    CallsTo Try.prog 10 [(.agg cs_p_t.toArray)] w (fun v w' => Ext w w' ∧ ∃ (cs0 : List Value), (.agg cs0.toArray) = v ∧ Rep.rd L w' cs0 r) := by
  have e0 : Ext w w := Chg.refl _ _
  obtain ⟨v1, h2, rfl⟩ := h_p_t
  refine callsTo_of_WC (n := 8) (rs := [.cell 2 24]) Try.func10 rfl rfl rfl rfl rfl ?_
  refine WC_seqK fun K4 hK4 => ?_
  refine WC_region ?_
  refine T0_e rfl (eff_boxC (cs := [v1, (.int .i64 p_t.Window), (.int .i64 p_t.Tooth), (.int .i64 p_t.PerVane), (.int .i64 p_t.First), (.int .i64 p_t.Modulus), (.int .i64 p_t.Slack), (.int .i64 p_t.Errors), (.bool p_t.Round)]) rfl rfl ?_)
  intro b5 wd6 hb7 he8 hB9
  have hbf10 := bfresh e0 hb7
  have h11 := h2.step (add_box he8 hb7)
  have e12 := e0.trans he8
  refine T0_e rfl (eff_allocZ zi24 ?_)
  intro b14 wd15 hb16 he17 hB18
  have hn19 : b14 ≠ b5 := box_ne hB9 hb16
  have hbf20 := bfresh e12 hb16
  have h21 := h11.step (add_box he17 hb16)
  have e22 := e12.trans he17
  refine T0_nil ?_
  refine hK4 _ _ ?_
  refine WC_seqK fun K24 hK24 => ?_
  refine WC_region ?_
  refine T0_q (v := (.pointer (some ⟨b5, 0, none⟩))) rfl (yl_fa 0 Try.underlying24 rfl rfl ⟨0, sz22⟩ rfl rfl) ?_
  refine T0_q (v := v1) rfl (yl_load sc22 rfl (Box.at (hB9.ext he17))) ?_
  obtain ⟨r25, hr26, h⟩ := bind_elim h
  refine T0_e rfl (eff_call Try.func30 nm30 rfl (ev1 rfl) (base_CopyInts_ok ((.pointer (some ⟨b14, 0, none⟩)) :: (.pointer (some ⟨b5, 0, none⟩)) :: L) _ (ltl_box (ltl_box (hL.chg e22) (hB9.ext he17)) hB18) v1 p_t.Vanes h21 r25 hr26) ?_)
  rintro _ wd27 ⟨he28, v29, rfl, h30⟩
  have e31 := he17.trans he28
  have e32 := e22.trans he28
  refine T0_q (v := (.pointer (some ⟨b5, 0, none⟩))) rfl (yl_fa 0 Try.underlying24 rfl rfl ⟨0, sz22⟩ rfl rfl) ?_
  refine T0_e rfl (eff_storeC (vs := [v29]) (cs' := [v29, (.int .i64 p_t.Window), (.int .i64 p_t.Tooth), (.int .i64 p_t.PerVane), (.int .i64 p_t.First), (.int .i64 p_t.Modulus), (.int .i64 p_t.Slack), (.int .i64 p_t.Errors), (.bool p_t.Round)]) sz22 (cells_one h30.one1) rfl rfl rfl (hB9.ext e31) rfl (oc_cons h30.one1 oc_nil) rfl ?_)
  intro wd34 hc35 hB36
  have h37 := (h21.ext he28).step (Stepp.chg_mem hc35 (memS mem0))
  have h38 := (hB18.ext he28).chg hc35 (avoidb hn19.symm)
  have h39 := h30.step (Stepp.chg_mem hc35 (memS mem0))
  have e40 := chg_box e32 hc35 hbf10
  refine T0_nil ?_
  refine hK24 _ _ ?_
  refine WC_seqK fun K41 hK41 => ?_
  refine WC_region ?_
  refine T0_q (v := (.agg (List.toArray [v29, (.int .i64 p_t.Window), (.int .i64 p_t.Tooth), (.int .i64 p_t.PerVane), (.int .i64 p_t.First), (.int .i64 p_t.Modulus), (.int .i64 p_t.Slack), (.int .i64 p_t.Errors), (.bool p_t.Round)]))) rfl (yl_loadA (cs := [v29, (.int .i64 p_t.Window), (.int .i64 p_t.Tooth), (.int .i64 p_t.PerVane), (.int .i64 p_t.First), (.int .i64 p_t.Modulus), (.int .i64 p_t.Slack), (.int .i64 p_t.Errors), (.bool p_t.Round)]) ag24 rfl (Box.at hB36)) ?_
  refine T0_e rfl (eff_storeC (vs := [v29, (.int .i64 p_t.Window), (.int .i64 p_t.Tooth), (.int .i64 p_t.PerVane), (.int .i64 p_t.First), (.int .i64 p_t.Modulus), (.int .i64 p_t.Slack), (.int .i64 p_t.Errors), (.bool p_t.Round)]) (cs' := [v29, (.int .i64 p_t.Window), (.int .i64 p_t.Tooth), (.int .i64 p_t.PerVane), (.int .i64 p_t.First), (.int .i64 p_t.Modulus), (.int .i64 p_t.Slack), (.int .i64 p_t.Errors), (.bool p_t.Round)]) sz24 rfl rfl rfl rfl h38 rfl (oc_cons h39.one1 (oc_cons rfl (oc_cons rfl (oc_cons rfl (oc_cons rfl (oc_cons rfl (oc_cons rfl (oc_cons rfl (oc_cons rfl oc_nil))))))))) rfl ?_)
  intro wd42 hc43 hB44
  have h45 := h37.step (Stepp.chg_mem hc43 mem0)
  have h46 := hB36.chg hc43 (avoidb hn19)
  have h47 := h39.step (Stepp.chg_mem hc43 mem0)
  have e48 := chg_box e40 hc43 hbf20
  refine T0_nil ?_
  refine hK41 _ _ ?_
  refine WC_ret ?_
  replace h := some_out h
  subst h
  exact ⟨[(.agg (List.toArray [v29, (.int .i64 p_t.Window), (.int .i64 p_t.Tooth), (.int .i64 p_t.PerVane), (.int .i64 p_t.First), (.int .i64 p_t.Modulus), (.int .i64 p_t.Slack), (.int .i64 p_t.Errors), (.bool p_t.Round)]))], ⟨⟨_, rfl, run_loadVarA (cs := [v29, (.int .i64 p_t.Window), (.int .i64 p_t.Tooth), (.int .i64 p_t.PerVane), (.int .i64 p_t.First), (.int .i64 p_t.Modulus), (.int .i64 p_t.Slack), (.int .i64 p_t.Errors), (.bool p_t.Round)]) ag24 (Box.at hB44)⟩, trivial⟩, e48, [v29, (.int .i64 p_t.Window), (.int .i64 p_t.Tooth), (.int .i64 p_t.PerVane), (.int .i64 p_t.First), (.int .i64 p_t.Modulus), (.int .i64 p_t.Slack), (.int .i64 p_t.Errors), (.bool p_t.Round)], rfl, ⟨v29, (h47.sub (sub_skip (sub_skip (sub_refl _)))), rfl⟩⟩

noncomputable def locate_Joined_s0 (p_Listappend : (List LocateRest)) : (Int) → Option ((Int) ⊕ ((LocateRest × Int) ⊕ (Unit))) := fun x234 =>
  (bif (decide (x234 < (p_Listappend.length : Int))) then (
    (Option.bind (idx p_Listappend x234) fun el259 =>
    (Option.bind (locate_within_spec el259.Modulus 1 1000) fun r282 =>
    (Option.bind (bif (!(!r282)) then locate_within_spec el259.Rest 0 (w64 (el259.Modulus - 1)) else some default) fun r287 =>
    (bif ((!r282) || (!r287)) then (
      some (.inr (.inl ((LocateRest.mk 0 0), 2)))
    ) else (
      some (.inl (w64 (x234 + 1)))
    ))
    )
    )
    )
  ) else (
    some (.inr (.inr ()))
  ))
noncomputable def locate_Joined_s1 (p_Listappend : (List LocateRest)) : (Int × Int) → Option ((Int × Int) ⊕ ((LocateRest × Int) ⊕ (Unit))) := fun (x489, x493) =>
  (bif (decide (x493 < (p_Listappend.length : Int))) then (
    (Option.bind (idx p_Listappend x493) fun el517 =>
    (Option.bind (locate_divisor_spec x489 el517.Modulus) fun r543 =>
    (Option.bind (quo el517.Modulus r543) fun q549 =>
    (bif (decide (1000000000 < w64 (x489 * q549))) then (
      some (.inr (.inl ((LocateRest.mk 0 0), 8)))
    ) else (
      some (.inl (w64 (x489 * q549), w64 (x493 + 1)))
    ))
    )
    )
    )
  ) else (
    some (.inr (.inr ()))
  ))
noncomputable def locate_Joined_s2 (el1442 : LocateRest) (x1415 : Int) : (Int × Int) → Option ((Int × Int) ⊕ (((Int × Int × Int) ⊕ ((LocateRest × Int) ⊕ (Int × Int))) ⊕ (Int))) := fun (x1606, x1616) =>
  (Option.bind (rem x1616 el1442.Modulus) fun q1648 =>
  (bif (!decide (q1648 = el1442.Rest)) then (
    (bif (decide (el1442.Modulus < w64 (x1606 + 1))) then (
      some (.inr (.inl (.inr (.inl ((LocateRest.mk 0 0), 12)))))
    ) else (
      some (.inl (w64 (x1606 + 1), w64 (x1616 + x1415)))
    ))
  ) else (
    some (.inr (.inr x1616))
  ))
  )
noncomputable def locate_Joined_s3 (p_Listappend : (List LocateRest)) : (Int × Int × Int) → Option ((Int × Int × Int) ⊕ ((LocateRest × Int) ⊕ (Int × Int))) := fun (x1411, x1415, x1416) =>
  (bif (decide (x1411 < (p_Listappend.length : Int))) then (
    (Option.bind (idx p_Listappend x1411) fun el1442 =>
    (Option.bind (loop (locate_Joined_s2 el1442 x1415) (0, x1416)) fun o1635 => jn0 o1635 fun (x1632 : Int) =>
    (Option.bind (locate_divisor_spec x1415 el1442.Modulus) fun r1674 =>
    (Option.bind (quo el1442.Modulus r1674) fun q1680 =>
    (Option.bind (rem x1632 (w64 (x1415 * q1680))) fun q1689 =>
    some (.inl (w64 (x1411 + 1), w64 (x1415 * q1680), q1689))
    )
    )
    )
    )
    )
  ) else (
    some (.inr (.inr (x1415, x1416)))
  ))
noncomputable def locate_Joined_spec (p_Listappend : (List LocateRest)) : Option (LocateRest × Int) :=
  (Option.bind (locate_unless_spec (decide (0 < (p_Listappend.length : Int))) 10) fun r14 =>
  (Option.bind (locate_unless_spec (decide ((p_Listappend.length : Int) ≤ 6)) 8) fun r19 =>
  (Option.bind (locate_first_spec ([r14, r19] : List Int)) fun r32 =>
  (bif (!decide (r32 = 0)) then (
    some ((LocateRest.mk 0 0), r32)
  ) else (
    (Option.bind (loop (locate_Joined_s0 p_Listappend) 0) fun o246 => jn0 o246 fun (_ : Unit) =>
    (Option.bind (loop (locate_Joined_s1 p_Listappend) (1, 0)) fun o504 => jn0 o504 fun (_ : Unit) =>
    (Option.bind (loop (locate_Joined_s3 p_Listappend) (0, 1, 0)) fun o1429 => jn0 o1429 fun ((x1425, x1426) : Int × Int) =>
    some ((LocateRest.mk x1425 x1426), 0)
    )
    )
    )
  ))
  )
  )
  )
theorem locate_Joined_ok (L : List Value) (w : World) (hL : LtL L w) (v_p_Listappend : Value) (p_Listappend : (List LocateRest)) (h_p_Listappend : SlRd L w v_p_Listappend p_Listappend) (r : LocateRest × Int) (h : locate_Joined_spec p_Listappend = some r) :
    CallsTo Try.prog 23 [v_p_Listappend] w (fun v w' => Ext w w' ∧ ∃ (cs0 : List Value), (.tuple #[(.agg cs0.toArray), (.int .i64 r.2)]) = v ∧ Rep.rd L w' cs0 r.1) := by
  have e0 : Ext w w := Chg.refl _ _
  refine callsTo_of_WC (n := 116) (rs := [.cell 2 61, .tmp 3]) Try.func23 rfl rfl rfl rfl rfl ?_
  refine WC_seqK fun K2 hK2 => ?_
  refine WC_region ?_
  refine T0_e rfl (eff_allocZ zi61 ?_)
  intro b3 wd4 hb5 he6 hB7
  have hbf8 := bfresh e0 hb5
  have h9 := h_p_Listappend.step (add_box he6 hb5)
  have e10 := e0.trans he6
  refine T0_q (v := (.int .i64 0)) rfl (yl_assign rfl) ?_
  refine T0_nil ?_
  refine hK2 _ _ ?_
  refine WC_seqK fun K12 hK12 => ?_
  refine WC_seqK fun K13 hK13 => ?_
  refine WC_region ?_
  refine T0_q (v := v_p_Listappend) rfl (yl_move rfl) ?_
  refine T0_q (v := (.int .i64 (p_Listappend.length : Int))) rfl (yl_lenR rfl Try.underlying64 h9 rfl) ?_
  refine T0_q (v := (.bool (decide (0 < (p_Listappend.length : Int))))) rfl (yl_gtr rfl rfl) ?_
  obtain ⟨r14, hr15, h⟩ := bind_elim h
  refine T0_e rfl (eff_call Try.func37 nm37 rfl (ev2 rfl rfl) (locate_unless_ok [] _ (LtL.nil _) (decide (0 < (p_Listappend.length : Int))) 10 r14 hr15) ?_)
  rintro _ wd16 ⟨he17, rfl⟩
  have e18 := e10.trans he17
  refine T0_q (v := v_p_Listappend) rfl (yl_move rfl) ?_
  refine T0_q (v := (.int .i64 (p_Listappend.length : Int))) rfl (yl_lenR rfl Try.underlying64 h9 rfl) ?_
  refine T0_q (v := (.bool (decide ((p_Listappend.length : Int) ≤ 6)))) rfl (yl_leq rfl rfl) ?_
  obtain ⟨r19, hr20, h⟩ := bind_elim h
  refine T0_e rfl (eff_call Try.func37 nm37 rfl (ev2 rfl rfl) (locate_unless_ok [] _ (LtL.nil _) (decide ((p_Listappend.length : Int) ≤ 6)) 8 r19 hr20) ?_)
  rintro _ wd21 ⟨he22, rfl⟩
  have e23 := he17.trans he22
  have e24 := e18.trans he22
  refine T0_e rfl (eff_buildTC (xs := ([r14, r19] : List Int)) (cells := [(.int .i64 r14), (.int .i64 r19)]) Try.underlying91 ei37 rfl (pc_cons rfl rfl (pc_cons rfl rfl pc_nil)) rfl (Elems.cons (cs := [(.int .i64 r14)]) rfl (Elems.cons (cs := [(.int .i64 r19)]) rfl Elems.nil)) rfl (ltl_box (hL.chg e24) (hB7.ext e23)) ?_)
  intro b28 wd25 he26 h27
  have e29 := e23.trans he26
  have e30 := e24.trans he26
  obtain ⟨r32, hr33, h⟩ := bind_elim h
  refine T0_e rfl (eff_call Try.func35 nm35 rfl (ev1 rfl) (locate_first_ok [] _ (LtL.nil _) (.slice (some ⟨b28, 0, none⟩) 2 2) ([r14, r19] : List Int) (h27.sub (fun _ h => by cases h)) r32 hr33) ?_)
  rintro _ wd34 ⟨he35, rfl⟩
  have e36 := e29.trans he35
  have e37 := e30.trans he35
  refine T0_q (v := (.int .i64 r32)) rfl (yl_assign rfl) ?_
  refine T0_nil ?_
  refine hK13 _ _ ?_
  refine WC_seqK fun K38 hK38 => ?_
  refine WC_region ?_
  refine T0_q (v := (.int .i64 r32)) rfl (yl_move rfl) ?_
  refine T0_q (v := (.bool (!decide (r32 = 0)))) rfl (yl_neq rfl rfl) ?_
  refine T0_nil ?_
  refine hK38 _ _ ?_
  refine WC_cond (b := (!decide (r32 = 0))) rfl (fun hb39 => ?_) (fun hb39 => ?_)
  · replace h := cond_t hb39 h
    refine WC_seqK fun K40 hK40 => ?_
    refine WC_region ?_
    refine T0_q (v := (.agg (List.toArray [(.int .i64 0), (.int .i64 0)]))) rfl (yl_buildC (cells := [(.int .i64 0), (.int .i64 0)]) bi61 pc_nil rfl) ?_
    refine T0_q (v := (.int .i64 r32)) rfl (yl_move rfl) ?_
    refine T0_e rfl (eff_storeC (vs := [(.int .i64 0), (.int .i64 0)]) (cs' := [(.int .i64 0), (.int .i64 0)]) sz61 rfl rfl rfl rfl (hB7.ext e36) rfl (oc_cons rfl (oc_cons rfl oc_nil)) rfl ?_)
    intro wd41 hc42 hB43
    have h44 := (h9.ext e36).step (Stepp.chg_mem hc42 mem0)
    have h45 := (h27.ext he35).step (Stepp.chg_mem hc42 mem0)
    have e46 := chg_box e37 hc42 hbf8
    refine T0_q (v := (.int .i64 r32)) rfl (yl_assign rfl) ?_
    refine T0_nil ?_
    refine hK40 _ _ ?_
    refine WC_ret ?_
    replace h := some_out h
    subst h
    exact ⟨[(.agg (List.toArray [(.int .i64 0), (.int .i64 0)])), (.int .i64 r32)], ⟨⟨_, rfl, run_loadVarA (cs := [(.int .i64 0), (.int .i64 0)]) ag61 (Box.at hB43)⟩, rfl, trivial⟩, e46, [(.int .i64 0), (.int .i64 0)], rfl, rfl⟩
  · replace h := cond_f hb39 h
    refine WC_skip ?_
    refine hK12 _ _ ?_
    refine WC_seqK fun K47 hK47 => ?_
    refine WC_region ?_
    refine T0_q (v := (.int .i64 1)) rfl (yl_assign rfl) ?_
    refine T0_nil ?_
    refine hK47 _ _ ?_
    refine WC_seqK fun K48 hK48 => ?_
    refine WC_seqK fun K49 hK49 => ?_
    refine WC_region ?_
    refine T0_q (v := v_p_Listappend) rfl (yl_move rfl) ?_
    refine T0_q (v := (.int .i64 (p_Listappend.length : Int))) rfl (yl_lenR rfl Try.underlying64 h9 rfl) ?_
    refine T0_q (v := (.int .i64 0)) rfl (yl_move rfl) ?_
    refine T0_nil ?_
    refine hK49 _ _ ?_
    obtain ⟨o246, hl247, hn248⟩ := bind_elim h
    refine WC_post (fun (ρ : Env) (wd238 : World) => .inr () = o246 ∧ ρ 0 = v_p_Listappend ∧ ρ 2 = (.pointer (some ⟨b3, 0, none⟩)) ∧ ρ 5 = (.int .i64 1) ∧ SlRd ((.pointer (some ⟨b3, 0, none⟩)) :: L) wd238 v_p_Listappend p_Listappend ∧ Box wd238 b3 [(.int .i64 0), (.int .i64 0)] 61 ∧ Ext w wd238) ?_ ?_
    · intro K252 hK252
      refine WC_block ?_
      refine WC_loopk (fun sv ρ wd226 => ∃ (x234 : Int), x234 = sv ∧ ρ 0 = v_p_Listappend ∧ ρ 2 = (.pointer (some ⟨b3, 0, none⟩)) ∧ ρ 5 = (.int .i64 1) ∧ ρ 28 = v_p_Listappend ∧ ρ 29 = (.int .i64 (p_Listappend.length : Int)) ∧ ρ 30 = (.int .i64 x234) ∧ SlRd ((.pointer (some ⟨b3, 0, none⟩)) :: L) wd226 v_p_Listappend p_Listappend ∧ Box wd226 b3 [(.int .i64 0), (.int .i64 0)] 61 ∧ Ext w wd226) hl247 ⟨0, rfl, rfl, rfl, rfl, rfl, rfl, rfl, (h9.ext e36), (hB7.ext e36), e37⟩ ?_
      rintro _ ρ wd226 ⟨x234, rfl, hs229, hs230, hs231, hs232, hs233, hs235, h228, hB237, e227⟩ x249 h hx250 K251 hK251
      refine WC_seqK fun K254 hK254 => ?_
      refine WC_region ?_
      refine T0_q (v := (.bool (decide (x234 < (p_Listappend.length : Int))))) rfl (yl_lss hs235 hs233) ?_
      refine T0_nil ?_
      refine hK254 _ _ ?_
      refine WC_seqK fun K255 hK255 => ?_
      refine WC_cond (b := (decide (x234 < (p_Listappend.length : Int)))) rfl (fun hb256 => ?_) (fun hb256 => ?_)
      · replace h := cond_t hb256 h
        refine WC_skip ?_
        refine hK255 _ _ ?_
        refine WC_seqK fun K257 hK257 => ?_
        refine WC_block ?_
        refine WC_seqK fun K258 hK258 => ?_
        refine WC_region ?_
        obtain ⟨el259, hel260, h⟩ := bind_elim h
        obtain ⟨cs261, hat262, hrd263⟩ := SlRd.at h228 hel260
        have hrd263 : cs261 = [(.int .i64 el259.Modulus), (.int .i64 el259.Rest)] := hrd263
        subst hrd263
        refine T0_q (v := (.pointer (some (elemAddr v_p_Listappend (x234 : Int).toNat 2)))) rfl (yl_indexAddr Try.underlying64 sz61 h228 hel260 hs232 hs235) ?_
        refine T0_q (v := (.agg (List.toArray [(.int .i64 el259.Modulus), (.int .i64 el259.Rest)]))) rfl (yl_loadA (cs := [(.int .i64 el259.Modulus), (.int .i64 el259.Rest)]) ag61 rfl hat262) ?_
        refine T0_e rfl (eff_allocZ zi61 ?_)
        intro b265 wd266 hb267 he268 hB269
        have hn270 : b265 ≠ b3 := box_ne hB237 hb267
        have hbf271 := bfresh e227 hb267
        have h272 := h228.step (add_box he268 hb267)
        have e273 := e227.trans he268
        refine T0_e rfl (eff_storeC (vs := [(.int .i64 el259.Modulus), (.int .i64 el259.Rest)]) (cs' := [(.int .i64 el259.Modulus), (.int .i64 el259.Rest)]) sz61 rfl rfl rfl rfl hB269 rfl (oc_cons rfl (oc_cons rfl oc_nil)) rfl ?_)
        intro wd275 hc276 hB277
        have h278 := h272.step (Stepp.chg_mem hc276 mem0)
        have h279 := (hB237.ext he268).chg hc276 (avoidb hn270)
        have e280 := chg_box e273 hc276 hbf271
        refine T0_nil ?_
        refine hK258 _ _ ?_
        refine WC_seqK fun K281 hK281 => ?_
        refine WC_region ?_
        refine T0_q (v := (.pointer (some ⟨b265, 0, none⟩))) rfl (yl_fa 0 Try.underlying61 rfl rfl ⟨0, sz3⟩ rfl rfl) ?_
        refine T0_q (v := (.int .i64 el259.Modulus)) rfl (yl_load sc3 rfl (Box.at hB277)) ?_
        obtain ⟨r282, hr283, h⟩ := bind_elim h
        refine T0_e rfl (eff_call Try.func27 nm27 rfl (ev3 rfl rfl rfl) (locate_within_ok [] _ (LtL.nil _) el259.Modulus 1 1000 r282 hr283) ?_)
        rintro _ wd284 ⟨he285, rfl⟩
        have e286 := e280.trans he285
        refine T0_q (v := (.bool (!r282))) rfl (yl_not rfl) ?_
        refine T0_q (v := (.bool (!r282))) rfl (yl_move rfl) ?_
        refine T0_g (v := (.pointer (some ⟨b265, 1, none⟩))) (!(!r282)) (wanted_f rfl rfl rfl rfl) (fun hg => (yl_fa 1 Try.underlying61 rfl rfl ⟨0, sz3⟩ rfl rfl)) ?_
        refine T0_g (v := (.int .i64 el259.Rest)) (!(!r282)) (wanted_f rfl rfl rfl rfl) (fun hg => (yl_load sc3 (gd_true hg) (At.drop (Box.at (hB277.ext he285)) 1))) ?_
        refine T0_g (v := (.pointer (some ⟨b265, 0, none⟩))) (!(!r282)) (wanted_f rfl rfl rfl rfl) (fun hg => (yl_fa 0 Try.underlying61 rfl rfl ⟨0, sz3⟩ rfl rfl)) ?_
        refine T0_g (v := (.int .i64 el259.Modulus)) (!(!r282)) (wanted_f rfl rfl rfl rfl) (fun hg => (yl_load sc3 (gd_true hg) (Box.at (hB277.ext he285)))) ?_
        refine T0_g (v := (.int .i64 (w64 (el259.Modulus - 1)))) (!(!r282)) (wanted_f rfl rfl rfl rfl) (fun hg => (yl_sub (gd_true hg) rfl)) ?_
        obtain ⟨r287, hr288, h⟩ := bind_elim h
        refine T0_ges (!(!r282)) (.bool r287) (wanted_f rfl rfl rfl rfl) (fun hg => eff_call Try.func27 nm27 rfl (ev3 (gd_true hg) rfl (gd_true hg)) (locate_within_ok [] _ (LtL.nil _) el259.Rest 0 (w64 (el259.Modulus - 1)) r287 (cond_t hg hr288)) (by rintro _ wd289 ⟨he290, rfl⟩; exact ⟨rfl, he290⟩)) ?_
        intro wd289 he290
        have e291 := he285.trans he290
        have e292 := e286.trans he290
        refine T0_g (v := (.bool (!r287))) (!(!r282)) (wanted_f rfl rfl rfl rfl) (fun hg => (yl_not (gd_true hg))) ?_
        refine T0_q (v := (.bool ((!r282) || (!r287)))) rfl (yl_or rfl rfl (fun hb => (gd_true (not_t hb)))) ?_
        refine T0_nil ?_
        refine hK281 _ _ ?_
        refine WC_cond (b := ((!r282) || (!r287))) rfl (fun hb293 => ?_) (fun hb293 => ?_)
        · replace h := cond_t hb293 h
          refine WC_seqK fun K294 hK294 => ?_
          refine WC_region ?_
          refine T0_q (v := (.agg (List.toArray [(.int .i64 0), (.int .i64 0)]))) rfl (yl_buildC (cells := [(.int .i64 0), (.int .i64 0)]) bi61 pc_nil rfl) ?_
          refine T0_e rfl (eff_storeC (vs := [(.int .i64 0), (.int .i64 0)]) (cs' := [(.int .i64 0), (.int .i64 0)]) sz61 rfl rfl hs230 rfl (h279.ext e291) rfl (oc_cons rfl (oc_cons rfl oc_nil)) rfl ?_)
          intro wd295 hc296 hB297
          have h298 := (h278.ext e291).step (Stepp.chg_mem hc296 (memS mem0))
          have h299 := (hB277.ext e291).chg hc296 (avoidb hn270.symm)
          have e300 := chg_box e292 hc296 hbf8
          refine T0_q (v := (.int .i64 2)) rfl (yl_assign rfl) ?_
          refine T0_nil ?_
          refine hK294 _ _ ?_
          refine WC_ret ?_
          replace h := some_out h
          subst h
          have ho := hx250 _ rfl
          subst ho
          replace h := jn0_inl hn248
          replace h := some_out h
          subst h
          exact ⟨[(.agg (List.toArray [(.int .i64 0), (.int .i64 0)])), (.int .i64 2)], ⟨⟨_, hs230, run_loadVarA (cs := [(.int .i64 0), (.int .i64 0)]) ag61 (Box.at hB297)⟩, rfl, trivial⟩, e300, [(.int .i64 0), (.int .i64 0)], rfl, rfl⟩
        · replace h := cond_f hb293 h
          refine WC_skip ?_
          refine hK257 _ _ ?_
          refine WC_region ?_
          refine T0_q (v := (.int .i64 (w64 (x234 + 1)))) rfl (yl_add hs235 rfl) ?_
          refine T0_q (v := (.int .i64 (w64 (x234 + 1)))) rfl (yl_move rfl) ?_
          refine T0_nil ?_
          replace h := some_out h
          subst h
          refine hK251 _ _ _ rfl ?_
          exact ⟨w64 (x234 + 1), rfl, hs229, hs230, hs231, hs232, hs233, rfl, ((h278.ext e291).sub (sub_cons (memS mem0) (sub_skip (sub_skip (sub_refl _))))), (h279.ext e291), e292⟩
      · replace h := cond_f hb256 h
        refine WC_exit ?_
        replace h := some_out h
        subst h
        have ho := hx250 _ rfl
        subst ho
        refine hK252 _ _ ?_
        exact ⟨rfl, hs229, hs230, hs231, h228, hB237, e227⟩
    · rintro ρ wd238 ⟨rfl, hs241, hs242, hs243, h240, hB245, e239⟩
      replace h := jn0_inr hn248
      refine hK48 _ _ ?_
      refine WC_seqK fun K301 hK301 => ?_
      refine WC_seqK fun K302 hK302 => ?_
      refine WC_region ?_
      refine T0_q (v := v_p_Listappend) rfl (yl_move hs241) ?_
      refine T0_q (v := (.int .i64 (p_Listappend.length : Int))) rfl (yl_lenR rfl Try.underlying64 h240 rfl) ?_
      refine T0_q (v := (.int .i64 0)) rfl (yl_move rfl) ?_
      refine T0_nil ?_
      refine hK302 _ _ ?_
      obtain ⟨o504, hl505, hn506⟩ := bind_elim h
      refine WC_post (fun (ρ : Env) (wd497 : World) => .inr () = o504 ∧ ρ 0 = v_p_Listappend ∧ ρ 2 = (.pointer (some ⟨b3, 0, none⟩)) ∧ SlRd ((.pointer (some ⟨b3, 0, none⟩)) :: L) wd497 v_p_Listappend p_Listappend ∧ Box wd497 b3 [(.int .i64 0), (.int .i64 0)] 61 ∧ Ext w wd497) ?_ ?_
      · intro K510 hK510
        refine WC_block ?_
        refine WC_loopk (fun sv ρ wd484 => ∃ (x489 : Int) (x493 : Int), (x489, x493) = sv ∧ ρ 0 = v_p_Listappend ∧ ρ 2 = (.pointer (some ⟨b3, 0, none⟩)) ∧ ρ 5 = (.int .i64 x489) ∧ ρ 49 = v_p_Listappend ∧ ρ 50 = (.int .i64 (p_Listappend.length : Int)) ∧ ρ 51 = (.int .i64 x493) ∧ SlRd ((.pointer (some ⟨b3, 0, none⟩)) :: L) wd484 v_p_Listappend p_Listappend ∧ Box wd484 b3 [(.int .i64 0), (.int .i64 0)] 61 ∧ Ext w wd484) hl505 ⟨1, 0, rfl, hs241, hs242, hs243, rfl, rfl, rfl, h240, hB245, e239⟩ ?_
        rintro _ ρ wd484 ⟨x489, x493, rfl, hs487, hs488, hs490, hs491, hs492, hs494, h486, hB496, e485⟩ x507 h hx508 K509 hK509
        refine WC_seqK fun K512 hK512 => ?_
        refine WC_region ?_
        refine T0_q (v := (.bool (decide (x493 < (p_Listappend.length : Int))))) rfl (yl_lss hs494 hs492) ?_
        refine T0_nil ?_
        refine hK512 _ _ ?_
        refine WC_seqK fun K513 hK513 => ?_
        refine WC_cond (b := (decide (x493 < (p_Listappend.length : Int)))) rfl (fun hb514 => ?_) (fun hb514 => ?_)
        · replace h := cond_t hb514 h
          refine WC_skip ?_
          refine hK513 _ _ ?_
          refine WC_seqK fun K515 hK515 => ?_
          refine WC_block ?_
          refine WC_seqK fun K516 hK516 => ?_
          refine WC_region ?_
          obtain ⟨el517, hel518, h⟩ := bind_elim h
          obtain ⟨cs519, hat520, hrd521⟩ := SlRd.at h486 hel518
          have hrd521 : cs519 = [(.int .i64 el517.Modulus), (.int .i64 el517.Rest)] := hrd521
          subst hrd521
          refine T0_q (v := (.pointer (some (elemAddr v_p_Listappend (x493 : Int).toNat 2)))) rfl (yl_indexAddr Try.underlying64 sz61 h486 hel518 hs491 hs494) ?_
          refine T0_q (v := (.agg (List.toArray [(.int .i64 el517.Modulus), (.int .i64 el517.Rest)]))) rfl (yl_loadA (cs := [(.int .i64 el517.Modulus), (.int .i64 el517.Rest)]) ag61 rfl hat520) ?_
          refine T0_e rfl (eff_allocZ zi61 ?_)
          intro b523 wd524 hb525 he526 hB527
          have hn528 : b523 ≠ b3 := box_ne hB496 hb525
          have hbf529 := bfresh e485 hb525
          have h530 := h486.step (add_box he526 hb525)
          have e531 := e485.trans he526
          refine T0_e rfl (eff_storeC (vs := [(.int .i64 el517.Modulus), (.int .i64 el517.Rest)]) (cs' := [(.int .i64 el517.Modulus), (.int .i64 el517.Rest)]) sz61 rfl rfl rfl rfl hB527 rfl (oc_cons rfl (oc_cons rfl oc_nil)) rfl ?_)
          intro wd533 hc534 hB535
          have h536 := h530.step (Stepp.chg_mem hc534 mem0)
          have h537 := (hB496.ext he526).chg hc534 (avoidb hn528)
          have e538 := chg_box e531 hc534 hbf529
          refine T0_nil ?_
          refine hK516 _ _ ?_
          refine WC_seqK fun K539 hK539 => ?_
          refine WC_plan mixed (.p 0 (.p 1 (.p 3 (.p 4 (.q 2 (.q 5 (.e 6 (.p 7 (.p 8 (.p 9 .done)))))))))) (by kernel_rfl) ?_
          intro wd540 he541
          have e542 := e538.trans he541
          refine TP_p (v := (.int .i64 x489)) rfl rfl (fun w' => (yl_move hs490)) ?_
          refine TP_p (v := (.pointer (some ⟨b523, 0, none⟩))) rfl rfl (fun w' => (yl_fa 0 Try.underlying61 rfl rfl ⟨0, sz3⟩ rfl rfl)) ?_
          refine TP_p (v := (.int .i64 x489)) rfl rfl (fun w' => (yl_move hs490)) ?_
          refine TP_p (v := (.pointer (some ⟨b523, 0, none⟩))) rfl rfl (fun w' => (yl_fa 0 Try.underlying61 rfl rfl ⟨0, sz3⟩ rfl rfl)) ?_
          refine TP_q (v := (.int .i64 el517.Modulus)) rfl rfl (fun w' hS => (yl_load sc3 rfl (Box.at (hB535.ext ((he541).trans hS))))) ?_
          refine TP_q (v := (.int .i64 el517.Modulus)) rfl rfl (fun w' hS => (yl_load sc3 rfl (Box.at (hB535.ext ((he541).trans hS))))) ?_
          obtain ⟨r543, hr544, h⟩ := bind_elim h
          refine TP_e rfl rfl (eff_call Try.func43 nm43 rfl (ev2 rfl rfl) (locate_divisor_ok [] _ (LtL.nil _) x489 el517.Modulus r543 hr544) ?_)
          rintro _ wd545 ⟨he546, rfl⟩
          have e547 := he541.trans he546
          have e548 := e542.trans he546
          refine ⟨he546, ?_⟩
          obtain ⟨q549, hq550, h⟩ := bind_elim h
          refine TP_p (v := (.int .i64 q549)) rfl rfl (fun w' => (yl_quo' hq550 rfl rfl)) ?_
          refine TP_p (v := (.int .i64 (w64 (x489 * q549)))) rfl rfl (fun w' => (yl_mul rfl rfl)) ?_
          refine TP_p (v := (.int .i64 (w64 (x489 * q549)))) rfl rfl (fun w' => (yl_assign rfl)) ?_
          refine TP_done ?_
          refine hK539 _ _ ?_
          refine WC_seqK fun K551 hK551 => ?_
          refine WC_region ?_
          refine T0_q (v := (.int .i64 (w64 (x489 * q549)))) rfl (yl_move rfl) ?_
          refine T0_q (v := (.bool (decide (1000000000 < w64 (x489 * q549))))) rfl (yl_gtr rfl rfl) ?_
          refine T0_nil ?_
          refine hK551 _ _ ?_
          refine WC_cond (b := (decide (1000000000 < w64 (x489 * q549)))) rfl (fun hb552 => ?_) (fun hb552 => ?_)
          · replace h := cond_t hb552 h
            refine WC_seqK fun K553 hK553 => ?_
            refine WC_region ?_
            refine T0_q (v := (.agg (List.toArray [(.int .i64 0), (.int .i64 0)]))) rfl (yl_buildC (cells := [(.int .i64 0), (.int .i64 0)]) bi61 pc_nil rfl) ?_
            refine T0_e rfl (eff_storeC (vs := [(.int .i64 0), (.int .i64 0)]) (cs' := [(.int .i64 0), (.int .i64 0)]) sz61 rfl rfl hs488 rfl (h537.ext e547) rfl (oc_cons rfl (oc_cons rfl oc_nil)) rfl ?_)
            intro wd554 hc555 hB556
            have h557 := (h536.ext e547).step (Stepp.chg_mem hc555 (memS mem0))
            have h558 := (hB535.ext e547).chg hc555 (avoidb hn528.symm)
            have e559 := chg_box e548 hc555 hbf8
            refine T0_q (v := (.int .i64 8)) rfl (yl_assign rfl) ?_
            refine T0_nil ?_
            refine hK553 _ _ ?_
            refine WC_ret ?_
            replace h := some_out h
            subst h
            have ho := hx508 _ rfl
            subst ho
            replace h := jn0_inl hn506
            replace h := some_out h
            subst h
            exact ⟨[(.agg (List.toArray [(.int .i64 0), (.int .i64 0)])), (.int .i64 8)], ⟨⟨_, hs488, run_loadVarA (cs := [(.int .i64 0), (.int .i64 0)]) ag61 (Box.at hB556)⟩, rfl, trivial⟩, e559, [(.int .i64 0), (.int .i64 0)], rfl, rfl⟩
          · replace h := cond_f hb552 h
            refine WC_skip ?_
            refine hK515 _ _ ?_
            refine WC_region ?_
            refine T0_q (v := (.int .i64 (w64 (x493 + 1)))) rfl (yl_add hs494 rfl) ?_
            refine T0_q (v := (.int .i64 (w64 (x493 + 1)))) rfl (yl_move rfl) ?_
            refine T0_nil ?_
            replace h := some_out h
            subst h
            refine hK509 _ _ _ rfl ?_
            exact ⟨w64 (x489 * q549), w64 (x493 + 1), rfl, hs487, hs488, rfl, hs491, hs492, rfl, ((h536.ext e547).sub (sub_cons (memS mem0) (sub_skip (sub_skip (sub_refl _))))), (h537.ext e547), e548⟩
        · replace h := cond_f hb514 h
          refine WC_exit ?_
          replace h := some_out h
          subst h
          have ho := hx508 _ rfl
          subst ho
          refine hK510 _ _ ?_
          exact ⟨rfl, hs487, hs488, h486, hB496, e485⟩
      · rintro ρ wd497 ⟨rfl, hs500, hs501, h499, hB503, e498⟩
        replace h := jn0_inr hn506
        refine hK301 _ _ ?_
        refine WC_seqK fun K560 hK560 => ?_
        refine WC_region ?_
        refine T0_q (v := (.agg (List.toArray [(.int .i64 1), (.int .i64 0)]))) rfl (yl_buildC (cells := [(.int .i64 1), (.int .i64 0)]) bi61 (pc_cons rfl rfl pc_nil) rfl) ?_
        refine T0_e rfl (eff_allocZ zi61 ?_)
        intro b561 wd562 hb563 he564 hB565
        have hn566 : b561 ≠ b3 := box_ne hB503 hb563
        have hbf567 := bfresh e498 hb563
        have h568 := h499.step (add_box he564 hb563)
        have e569 := e498.trans he564
        refine T0_e rfl (eff_storeC (vs := [(.int .i64 1), (.int .i64 0)]) (cs' := [(.int .i64 1), (.int .i64 0)]) sz61 rfl rfl rfl rfl hB565 rfl (oc_cons rfl (oc_cons rfl oc_nil)) rfl ?_)
        intro wd571 hc572 hB573
        have h574 := h568.step (Stepp.chg_mem hc572 mem0)
        have h575 := (hB503.ext he564).chg hc572 (avoidb hn566)
        have e576 := chg_box e569 hc572 hbf567
        refine T0_nil ?_
        refine hK560 _ _ ?_
        refine WC_seqK fun K577 hK577 => ?_
        refine WC_seqK fun K578 hK578 => ?_
        refine WC_region ?_
        refine T0_q (v := v_p_Listappend) rfl (yl_move hs500) ?_
        refine T0_q (v := (.int .i64 (p_Listappend.length : Int))) rfl (yl_lenR rfl Try.underlying64 h574 rfl) ?_
        refine T0_q (v := (.int .i64 0)) rfl (yl_move rfl) ?_
        refine T0_nil ?_
        refine hK578 _ _ ?_
        obtain ⟨o1429, hl1430, hn1431⟩ := bind_elim h
        refine WC_post (fun (ρ : Env) (wd1419 : World) => ∃ (x1425 : Int) (x1426 : Int), .inr (x1425, x1426) = o1429 ∧ ρ 2 = (.pointer (some ⟨b3, 0, none⟩)) ∧ ρ 10 = (.pointer (some ⟨b561, 0, none⟩)) ∧ Box wd1419 b3 [(.int .i64 0), (.int .i64 0)] 61 ∧ Box wd1419 b561 [(.int .i64 x1425), (.int .i64 x1426)] 61 ∧ Ext w wd1419) ?_ ?_
        · intro K1435 hK1435
          refine WC_block ?_
          refine WC_loopk (fun sv ρ wd1404 => ∃ (x1411 : Int) (x1415 : Int) (x1416 : Int), (x1411, x1415, x1416) = sv ∧ ρ 2 = (.pointer (some ⟨b3, 0, none⟩)) ∧ ρ 10 = (.pointer (some ⟨b561, 0, none⟩)) ∧ ρ 69 = v_p_Listappend ∧ ρ 70 = (.int .i64 (p_Listappend.length : Int)) ∧ ρ 71 = (.int .i64 x1411) ∧ SlRd ((.pointer (some ⟨b561, 0, none⟩)) :: (.pointer (some ⟨b3, 0, none⟩)) :: L) wd1404 v_p_Listappend p_Listappend ∧ Box wd1404 b3 [(.int .i64 0), (.int .i64 0)] 61 ∧ Box wd1404 b561 [(.int .i64 x1415), (.int .i64 x1416)] 61 ∧ Ext w wd1404) hl1430 ⟨0, 1, 0, rfl, hs501, rfl, rfl, rfl, rfl, h574, h575, hB573, e576⟩ ?_
          rintro _ ρ wd1404 ⟨x1411, x1415, x1416, rfl, hs1406, hs1407, hs1409, hs1410, hs1412, h1408, hB1414, hB1418, e1405⟩ x1432 h hx1433 K1434 hK1434
          refine WC_seqK fun K1437 hK1437 => ?_
          refine WC_region ?_
          refine T0_q (v := (.bool (decide (x1411 < (p_Listappend.length : Int))))) rfl (yl_lss hs1412 hs1410) ?_
          refine T0_nil ?_
          refine hK1437 _ _ ?_
          refine WC_seqK fun K1438 hK1438 => ?_
          refine WC_cond (b := (decide (x1411 < (p_Listappend.length : Int)))) rfl (fun hb1439 => ?_) (fun hb1439 => ?_)
          · replace h := cond_t hb1439 h
            refine WC_skip ?_
            refine hK1438 _ _ ?_
            refine WC_seqK fun K1440 hK1440 => ?_
            refine WC_block ?_
            refine WC_seqK fun K1441 hK1441 => ?_
            refine WC_region ?_
            obtain ⟨el1442, hel1443, h⟩ := bind_elim h
            obtain ⟨cs1444, hat1445, hrd1446⟩ := SlRd.at h1408 hel1443
            have hrd1446 : cs1444 = [(.int .i64 el1442.Modulus), (.int .i64 el1442.Rest)] := hrd1446
            subst hrd1446
            refine T0_q (v := (.pointer (some (elemAddr v_p_Listappend (x1411 : Int).toNat 2)))) rfl (yl_indexAddr Try.underlying64 sz61 h1408 hel1443 hs1409 hs1412) ?_
            refine T0_q (v := (.agg (List.toArray [(.int .i64 el1442.Modulus), (.int .i64 el1442.Rest)]))) rfl (yl_loadA (cs := [(.int .i64 el1442.Modulus), (.int .i64 el1442.Rest)]) ag61 rfl hat1445) ?_
            refine T0_e rfl (eff_allocZ zi61 ?_)
            intro b1448 wd1449 hb1450 he1451 hB1452
            have hn1453 : b1448 ≠ b3 := box_ne hB1414 hb1450
            have hn1454 : b1448 ≠ b561 := box_ne hB1418 hb1450
            have hbf1455 := bfresh e1405 hb1450
            have h1456 := h1408.step (add_box he1451 hb1450)
            have e1457 := e1405.trans he1451
            refine T0_e rfl (eff_storeC (vs := [(.int .i64 el1442.Modulus), (.int .i64 el1442.Rest)]) (cs' := [(.int .i64 el1442.Modulus), (.int .i64 el1442.Rest)]) sz61 rfl rfl rfl rfl hB1452 rfl (oc_cons rfl (oc_cons rfl oc_nil)) rfl ?_)
            intro wd1459 hc1460 hB1461
            have h1462 := h1456.step (Stepp.chg_mem hc1460 mem0)
            have h1463 := (hB1414.ext he1451).chg hc1460 (avoidb hn1453)
            have h1464 := (hB1418.ext he1451).chg hc1460 (avoidb hn1454)
            have e1465 := chg_box e1457 hc1460 hbf1455
            refine T0_nil ?_
            refine hK1441 _ _ ?_
            refine WC_seqK fun K1466 hK1466 => ?_
            refine WC_region ?_
            refine T0_q (v := (.int .i64 0)) rfl (yl_assign rfl) ?_
            refine T0_nil ?_
            refine hK1466 _ _ ?_
            refine WC_seqK fun K1467 hK1467 => ?_
            obtain ⟨o1635, hl1636, hn1637⟩ := bind_elim h
            refine WC_post (fun (ρ : Env) (wd1619 : World) => ∃ (x1632 : Int), .inr x1632 = o1635 ∧ ρ 2 = (.pointer (some ⟨b3, 0, none⟩)) ∧ ρ 10 = (.pointer (some ⟨b561, 0, none⟩)) ∧ ρ 12 = (.pointer (some ⟨b1448, 0, none⟩)) ∧ ρ 69 = v_p_Listappend ∧ ρ 70 = (.int .i64 (p_Listappend.length : Int)) ∧ ρ 71 = (.int .i64 x1411) ∧ SlRd ((.pointer (some ⟨b1448, 0, none⟩)) :: (.pointer (some ⟨b561, 0, none⟩)) :: (.pointer (some ⟨b3, 0, none⟩)) :: L) wd1619 v_p_Listappend p_Listappend ∧ Box wd1619 b1448 [(.int .i64 el1442.Modulus), (.int .i64 el1442.Rest)] 61 ∧ Box wd1619 b3 [(.int .i64 0), (.int .i64 0)] 61 ∧ Box wd1619 b561 [(.int .i64 x1415), (.int .i64 x1632)] 61 ∧ Ext w wd1619) ?_ ?_
            · intro K1641 hK1641
              refine WC_block ?_
              refine WC_loopk (fun sv ρ wd1601 => ∃ (x1606 : Int) (x1616 : Int), (x1606, x1616) = sv ∧ ρ 2 = (.pointer (some ⟨b3, 0, none⟩)) ∧ ρ 10 = (.pointer (some ⟨b561, 0, none⟩)) ∧ ρ 12 = (.pointer (some ⟨b1448, 0, none⟩)) ∧ ρ 13 = (.int .i64 x1606) ∧ ρ 69 = v_p_Listappend ∧ ρ 70 = (.int .i64 (p_Listappend.length : Int)) ∧ ρ 71 = (.int .i64 x1411) ∧ SlRd ((.pointer (some ⟨b1448, 0, none⟩)) :: (.pointer (some ⟨b561, 0, none⟩)) :: (.pointer (some ⟨b3, 0, none⟩)) :: L) wd1601 v_p_Listappend p_Listappend ∧ Box wd1601 b1448 [(.int .i64 el1442.Modulus), (.int .i64 el1442.Rest)] 61 ∧ Box wd1601 b3 [(.int .i64 0), (.int .i64 0)] 61 ∧ Box wd1601 b561 [(.int .i64 x1415), (.int .i64 x1616)] 61 ∧ Ext w wd1601) hl1636 ⟨0, x1416, rfl, hs1406, hs1407, rfl, rfl, hs1409, hs1410, hs1412, h1462, hB1461, h1463, h1464, e1465⟩ ?_
              rintro _ ρ wd1601 ⟨x1606, x1616, rfl, hs1603, hs1604, hs1605, hs1607, hs1609, hs1610, hs1611, h1608, hB1613, hB1615, hB1618, e1602⟩ x1638 h hx1639 K1640 hK1640
              refine WC_seqK fun K1643 hK1643 => ?_
              refine WC_seqK fun K1644 hK1644 => ?_
              refine WC_plan mixed (.p 0 (.p 2 (.p 5 (.q 1 (.q 3 (.p 4 (.q 6 (.p 7 .done)))))))) (by kernel_rfl) ?_
              intro wd1645 he1646
              have e1647 := e1602.trans he1646
              refine TP_p (v := (.pointer (some ⟨b561, 1, none⟩))) rfl rfl (fun w' => (yl_fa 1 Try.underlying61 rfl rfl ⟨0, sz3⟩ hs1604 rfl)) ?_
              refine TP_p (v := (.pointer (some ⟨b1448, 0, none⟩))) rfl rfl (fun w' => (yl_fa 0 Try.underlying61 rfl rfl ⟨0, sz3⟩ hs1605 rfl)) ?_
              refine TP_p (v := (.pointer (some ⟨b1448, 1, none⟩))) rfl rfl (fun w' => (yl_fa 1 Try.underlying61 rfl rfl ⟨0, sz3⟩ hs1605 rfl)) ?_
              refine TP_q (v := (.int .i64 x1616)) rfl rfl (fun w' hS => (yl_load sc3 rfl (At.drop (Box.at (hB1618.ext ((he1646).trans hS))) 1))) ?_
              refine TP_q (v := (.int .i64 el1442.Modulus)) rfl rfl (fun w' hS => (yl_load sc3 rfl (Box.at (hB1613.ext ((he1646).trans hS))))) ?_
              obtain ⟨q1648, hq1649, h⟩ := bind_elim h
              refine TP_p (v := (.int .i64 q1648)) rfl rfl (fun w' => (yl_rem' hq1649 rfl rfl)) ?_
              refine TP_q (v := (.int .i64 el1442.Rest)) rfl rfl (fun w' hS => (yl_load sc3 rfl (At.drop (Box.at (hB1613.ext ((he1646).trans hS))) 1))) ?_
              refine TP_p (v := (.bool (!decide (q1648 = el1442.Rest)))) rfl rfl (fun w' => (yl_neq rfl rfl)) ?_
              refine TP_done ?_
              refine hK1644 _ _ ?_
              refine WC_cond (b := (!decide (q1648 = el1442.Rest))) rfl (fun hb1650 => ?_) (fun hb1650 => ?_)
              · replace h := cond_t hb1650 h
                refine WC_skip ?_
                refine hK1643 _ _ ?_
                refine WC_block ?_
                refine WC_seqK fun K1651 hK1651 => ?_
                refine WC_seqK fun K1652 hK1652 => ?_
                refine WC_region ?_
                refine T0_q (v := (.int .i64 x1606)) rfl (yl_move hs1607) ?_
                refine T0_q (v := (.int .i64 (w64 (x1606 + 1)))) rfl (yl_add rfl rfl) ?_
                refine T0_q (v := (.int .i64 (w64 (x1606 + 1)))) rfl (yl_assign rfl) ?_
                refine T0_nil ?_
                refine hK1652 _ _ ?_
                refine WC_seqK fun K1653 hK1653 => ?_
                refine WC_region ?_
                refine T0_q (v := (.int .i64 (w64 (x1606 + 1)))) rfl (yl_move rfl) ?_
                refine T0_q (v := (.pointer (some ⟨b1448, 0, none⟩))) rfl (yl_fa 0 Try.underlying61 rfl rfl ⟨0, sz3⟩ hs1605 rfl) ?_
                refine T0_q (v := (.int .i64 el1442.Modulus)) rfl (yl_load sc3 rfl (Box.at (hB1613.ext he1646))) ?_
                refine T0_q (v := (.bool (decide (el1442.Modulus < w64 (x1606 + 1))))) rfl (yl_gtr rfl rfl) ?_
                refine T0_nil ?_
                refine hK1653 _ _ ?_
                refine WC_cond (b := (decide (el1442.Modulus < w64 (x1606 + 1)))) rfl (fun hb1654 => ?_) (fun hb1654 => ?_)
                · replace h := cond_t hb1654 h
                  refine WC_seqK fun K1655 hK1655 => ?_
                  refine WC_region ?_
                  refine T0_q (v := (.agg (List.toArray [(.int .i64 0), (.int .i64 0)]))) rfl (yl_buildC (cells := [(.int .i64 0), (.int .i64 0)]) bi61 pc_nil rfl) ?_
                  refine T0_e rfl (eff_storeC (vs := [(.int .i64 0), (.int .i64 0)]) (cs' := [(.int .i64 0), (.int .i64 0)]) sz61 rfl rfl hs1603 rfl (hB1615.ext he1646) rfl (oc_cons rfl (oc_cons rfl oc_nil)) rfl ?_)
                  intro wd1656 hc1657 hB1658
                  have h1659 := (h1608.ext he1646).step (Stepp.chg_mem hc1657 (memS (memS mem0)))
                  have h1660 := (hB1613.ext he1646).chg hc1657 (avoidb hn1453.symm)
                  have h1661 := (hB1618.ext he1646).chg hc1657 (avoidb hn566.symm)
                  have e1662 := chg_box e1647 hc1657 hbf8
                  refine T0_q (v := (.int .i64 12)) rfl (yl_assign rfl) ?_
                  refine T0_nil ?_
                  refine hK1655 _ _ ?_
                  refine WC_ret ?_
                  replace h := some_out h
                  subst h
                  have ho := hx1639 _ rfl
                  subst ho
                  replace h := jn0_inl hn1637
                  replace h := some_out h
                  subst h
                  have ho := hx1433 _ rfl
                  subst ho
                  replace h := jn0_inl hn1431
                  replace h := some_out h
                  subst h
                  exact ⟨[(.agg (List.toArray [(.int .i64 0), (.int .i64 0)])), (.int .i64 12)], ⟨⟨_, hs1603, run_loadVarA (cs := [(.int .i64 0), (.int .i64 0)]) ag61 (Box.at hB1658)⟩, rfl, trivial⟩, e1662, [(.int .i64 0), (.int .i64 0)], rfl, rfl⟩
                · replace h := cond_f hb1654 h
                  refine WC_skip ?_
                  refine hK1651 _ _ ?_
                  refine WC_region ?_
                  refine T0_q (v := (.pointer (some ⟨b561, 1, none⟩))) rfl (yl_fa 1 Try.underlying61 rfl rfl ⟨0, sz3⟩ hs1604 rfl) ?_
                  refine T0_q (v := (.int .i64 x1616)) rfl (yl_load sc3 rfl (At.drop (Box.at (hB1618.ext he1646)) 1)) ?_
                  refine T0_q (v := (.pointer (some ⟨b561, 0, none⟩))) rfl (yl_fa 0 Try.underlying61 rfl rfl ⟨0, sz3⟩ hs1604 rfl) ?_
                  refine T0_q (v := (.int .i64 x1415)) rfl (yl_load sc3 rfl (Box.at (hB1618.ext he1646))) ?_
                  refine T0_q (v := (.int .i64 (w64 (x1616 + x1415)))) rfl (yl_add rfl rfl) ?_
                  refine T0_q (v := (.pointer (some ⟨b561, 1, none⟩))) rfl (yl_fa 1 Try.underlying61 rfl rfl ⟨0, sz3⟩ hs1604 rfl) ?_
                  refine T0_e rfl (eff_storeC (vs := [(.int .i64 (w64 (x1616 + x1415)))]) (cs' := [(.int .i64 x1415), (.int .i64 (w64 (x1616 + x1415)))]) sz3 rfl rfl rfl rfl (hB1618.ext he1646) rfl (oc_cons rfl oc_nil) rfl ?_)
                  intro wd1663 hc1664 hB1665
                  have h1666 := (h1608.ext he1646).step (Stepp.chg_mem hc1664 (memS mem0))
                  have h1667 := (hB1613.ext he1646).chg hc1664 (avoidb hn1454.symm)
                  have h1668 := (hB1615.ext he1646).chg hc1664 (avoidb hn566)
                  have e1669 := chg_box e1647 hc1664 hbf567
                  refine T0_nil ?_
                  replace h := some_out h
                  subst h
                  refine hK1640 _ _ _ rfl ?_
                  exact ⟨w64 (x1606 + 1), w64 (x1616 + x1415), rfl, hs1603, hs1604, hs1605, rfl, hs1609, hs1610, hs1611, h1666, h1667, h1668, hB1665, e1669⟩
              · replace h := cond_f hb1650 h
                refine WC_exit ?_
                replace h := some_out h
                subst h
                have ho := hx1639 _ rfl
                subst ho
                refine hK1641 _ _ ?_
                exact ⟨x1616, rfl, hs1603, hs1604, hs1605, hs1609, hs1610, hs1611, (h1608.ext he1646), (hB1613.ext he1646), (hB1615.ext he1646), (hB1618.ext he1646), e1647⟩
            · rintro ρ wd1619 ⟨x1632, rfl, hs1621, hs1622, hs1623, hs1625, hs1626, hs1627, h1624, hB1629, hB1631, hB1634, e1620⟩
              replace h := jn0_inr hn1637
              refine hK1467 _ _ ?_
              refine WC_seqK fun K1670 hK1670 => ?_
              refine WC_plan mixed (.p 0 (.p 2 (.p 4 (.p 6 (.q 1 (.q 3 (.q 5 (.q 7 (.e 8 (.p 9 (.p 10 (.p 11 (.b 12 .done))))))))))))) (by kernel_rfl) ?_
              intro wd1671 he1672
              have e1673 := e1620.trans he1672
              refine TP_p (v := (.pointer (some ⟨b561, 0, none⟩))) rfl rfl (fun w' => (yl_fa 0 Try.underlying61 rfl rfl ⟨0, sz3⟩ hs1622 rfl)) ?_
              refine TP_p (v := (.pointer (some ⟨b1448, 0, none⟩))) rfl rfl (fun w' => (yl_fa 0 Try.underlying61 rfl rfl ⟨0, sz3⟩ hs1623 rfl)) ?_
              refine TP_p (v := (.pointer (some ⟨b561, 0, none⟩))) rfl rfl (fun w' => (yl_fa 0 Try.underlying61 rfl rfl ⟨0, sz3⟩ hs1622 rfl)) ?_
              refine TP_p (v := (.pointer (some ⟨b1448, 0, none⟩))) rfl rfl (fun w' => (yl_fa 0 Try.underlying61 rfl rfl ⟨0, sz3⟩ hs1623 rfl)) ?_
              refine TP_q (v := (.int .i64 x1415)) rfl rfl (fun w' hS => (yl_load sc3 rfl (Box.at (hB1634.ext ((he1672).trans hS))))) ?_
              refine TP_q (v := (.int .i64 el1442.Modulus)) rfl rfl (fun w' hS => (yl_load sc3 rfl (Box.at (hB1629.ext ((he1672).trans hS))))) ?_
              refine TP_q (v := (.int .i64 x1415)) rfl rfl (fun w' hS => (yl_load sc3 rfl (Box.at (hB1634.ext ((he1672).trans hS))))) ?_
              refine TP_q (v := (.int .i64 el1442.Modulus)) rfl rfl (fun w' hS => (yl_load sc3 rfl (Box.at (hB1629.ext ((he1672).trans hS))))) ?_
              obtain ⟨r1674, hr1675, h⟩ := bind_elim h
              refine TP_e rfl rfl (eff_call Try.func43 nm43 rfl (ev2 rfl rfl) (locate_divisor_ok [] _ (LtL.nil _) x1415 el1442.Modulus r1674 hr1675) ?_)
              rintro _ wd1676 ⟨he1677, rfl⟩
              have e1678 := he1672.trans he1677
              have e1679 := e1673.trans he1677
              refine ⟨he1677, ?_⟩
              obtain ⟨q1680, hq1681, h⟩ := bind_elim h
              refine TP_p (v := (.int .i64 q1680)) rfl rfl (fun w' => (yl_quo' hq1681 rfl rfl)) ?_
              refine TP_p (v := (.int .i64 (w64 (x1415 * q1680)))) rfl rfl (fun w' => (yl_mul rfl rfl)) ?_
              refine TP_p (v := (.pointer (some ⟨b561, 0, none⟩))) rfl rfl (fun w' => (yl_fa 0 Try.underlying61 rfl rfl ⟨0, sz3⟩ hs1622 rfl)) ?_
              refine TP_b rfl rfl (eff_storeC (vs := [(.int .i64 (w64 (x1415 * q1680)))]) (cs' := [(.int .i64 (w64 (x1415 * q1680))), (.int .i64 x1632)]) sz3 rfl rfl rfl rfl (hB1634.ext e1678) rfl (oc_cons rfl oc_nil) rfl ?_)
              intro wd1682 hc1683 hB1684
              have h1685 := (h1624.ext e1678).step (Stepp.chg_mem hc1683 (memS mem0))
              have h1686 := (hB1629.ext e1678).chg hc1683 (avoidb hn1454.symm)
              have h1687 := (hB1631.ext e1678).chg hc1683 (avoidb hn566)
              have e1688 := chg_box e1679 hc1683 hbf567
              refine TP_done ?_
              refine hK1670 _ _ ?_
              refine WC_region ?_
              refine T0_q (v := (.pointer (some ⟨b561, 1, none⟩))) rfl (yl_fa 1 Try.underlying61 rfl rfl ⟨0, sz3⟩ hs1622 rfl) ?_
              refine T0_q (v := (.int .i64 x1632)) rfl (yl_load sc3 rfl (At.drop (Box.at hB1684) 1)) ?_
              refine T0_q (v := (.pointer (some ⟨b561, 0, none⟩))) rfl (yl_fa 0 Try.underlying61 rfl rfl ⟨0, sz3⟩ hs1622 rfl) ?_
              refine T0_q (v := (.int .i64 (w64 (x1415 * q1680)))) rfl (yl_load sc3 rfl (Box.at hB1684)) ?_
              obtain ⟨q1689, hq1690, h⟩ := bind_elim h
              refine T0_q (v := (.int .i64 q1689)) rfl (yl_rem' hq1690 rfl rfl) ?_
              refine T0_q (v := (.pointer (some ⟨b561, 1, none⟩))) rfl (yl_fa 1 Try.underlying61 rfl rfl ⟨0, sz3⟩ hs1622 rfl) ?_
              refine T0_e rfl (eff_storeC (vs := [(.int .i64 q1689)]) (cs' := [(.int .i64 (w64 (x1415 * q1680))), (.int .i64 q1689)]) sz3 rfl rfl rfl rfl hB1684 rfl (oc_cons rfl oc_nil) rfl ?_)
              intro wd1691 hc1692 hB1693
              have h1694 := h1685.step (Stepp.chg_mem hc1692 (memS mem0))
              have h1695 := h1686.chg hc1692 (avoidb hn1454.symm)
              have h1696 := h1687.chg hc1692 (avoidb hn566)
              have e1697 := chg_box e1688 hc1692 hbf567
              refine T0_nil ?_
              refine hK1440 _ _ ?_
              refine WC_region ?_
              refine T0_q (v := (.int .i64 (w64 (x1411 + 1)))) rfl (yl_add hs1627 rfl) ?_
              refine T0_q (v := (.int .i64 (w64 (x1411 + 1)))) rfl (yl_move rfl) ?_
              refine T0_nil ?_
              replace h := some_out h
              subst h
              refine hK1434 _ _ _ rfl ?_
              exact ⟨w64 (x1411 + 1), w64 (x1415 * q1680), q1689, rfl, hs1621, hs1622, hs1625, hs1626, rfl, (h1694.sub (sub_cons (memS mem0) (sub_cons (memS (memS mem0)) (sub_skip (sub_skip (sub_skip (sub_refl _))))))), h1696, hB1693, e1697⟩
          · replace h := cond_f hb1439 h
            refine WC_exit ?_
            replace h := some_out h
            subst h
            have ho := hx1433 _ rfl
            subst ho
            refine hK1435 _ _ ?_
            exact ⟨x1415, x1416, rfl, hs1406, hs1407, hB1414, hB1418, e1405⟩
        · rintro ρ wd1419 ⟨x1425, x1426, rfl, hs1421, hs1422, hB1424, hB1428, e1420⟩
          replace h := jn0_inr hn1431
          refine hK577 _ _ ?_
          refine WC_seqK fun K1698 hK1698 => ?_
          refine WC_region ?_
          refine T0_q (v := (.agg (List.toArray [(.int .i64 x1425), (.int .i64 x1426)]))) rfl (yl_loadA (cs := [(.int .i64 x1425), (.int .i64 x1426)]) ag61 hs1422 (Box.at hB1428)) ?_
          refine T0_e rfl (eff_storeC (vs := [(.int .i64 x1425), (.int .i64 x1426)]) (cs' := [(.int .i64 x1425), (.int .i64 x1426)]) sz61 rfl rfl hs1421 rfl hB1424 rfl (oc_cons rfl (oc_cons rfl oc_nil)) rfl ?_)
          intro wd1699 hc1700 hB1701
          have h1702 := hB1428.chg hc1700 (avoidb hn566.symm)
          have e1703 := chg_box e1420 hc1700 hbf8
          refine T0_q (v := (.int .i64 0)) rfl (yl_assign rfl) ?_
          refine T0_nil ?_
          refine hK1698 _ _ ?_
          refine WC_ret ?_
          replace h := some_out h
          subst h
          exact ⟨[(.agg (List.toArray [(.int .i64 x1425), (.int .i64 x1426)])), (.int .i64 0)], ⟨⟨_, hs1421, run_loadVarA (cs := [(.int .i64 x1425), (.int .i64 x1426)]) ag61 (Box.at hB1701)⟩, rfl, trivial⟩, e1703, [(.int .i64 x1425), (.int .i64 x1426)], rfl, rfl⟩

noncomputable def ref04_TeethOf_spec (p_t : LocateTrack) : Option Int :=
  (Option.bind (ref04_WindowsOf_spec p_t) fun r18 =>
  some (w64 (r18 * p_t.PerVane))
  )
theorem ref04_TeethOf_ok (L : List Value) (w : World) (hL : LtL L w) (cs_p_t : List Value) (p_t : LocateTrack) (h_p_t : Rep.rd L w cs_p_t p_t) (r : Int) (h : ref04_TeethOf_spec p_t = some r) :
    CallsTo Try.prog 25 [(.agg cs_p_t.toArray)] w (fun v w' => Ext w w' ∧ (.int .i64 r) = v) := by
  have e0 : Ext w w := Chg.refl _ _
  obtain ⟨v1, h2, rfl⟩ := h_p_t
  refine callsTo_of_WC (n := 8) (rs := [.tmp 2]) Try.func25 rfl rfl rfl rfl rfl ?_
  refine WC_seqK fun K4 hK4 => ?_
  refine WC_region ?_
  refine T0_e rfl (eff_boxC (cs := [v1, (.int .i64 p_t.Window), (.int .i64 p_t.Tooth), (.int .i64 p_t.PerVane), (.int .i64 p_t.First), (.int .i64 p_t.Modulus), (.int .i64 p_t.Slack), (.int .i64 p_t.Errors), (.bool p_t.Round)]) rfl rfl ?_)
  intro b5 wd6 hb7 he8 hB9
  have hbf10 := bfresh e0 hb7
  have e11 := e0.trans he8
  refine T0_q (v := (.int .i64 0)) rfl (yl_assign rfl) ?_
  refine T0_nil ?_
  refine hK4 _ _ ?_
  refine WC_seqK fun K13 hK13 => ?_
  refine WC_plan mixed (.p 2 (.q 0 (.q 3 (.e 1 (.p 4 (.p 5 .done)))))) (by kernel_rfl) ?_
  intro wd14 he15
  have e16 := he8.trans he15
  have e17 := e11.trans he15
  refine TP_p (v := (.pointer (some ⟨b5, 3, none⟩))) rfl rfl (fun w' => (yl_fa 3 Try.underlying24 rfl rfl ⟨0, sz3⟩ rfl rfl)) ?_
  refine TP_q (v := (.agg (List.toArray [v1, (.int .i64 p_t.Window), (.int .i64 p_t.Tooth), (.int .i64 p_t.PerVane), (.int .i64 p_t.First), (.int .i64 p_t.Modulus), (.int .i64 p_t.Slack), (.int .i64 p_t.Errors), (.bool p_t.Round)]))) rfl rfl (fun w' hS => (yl_loadA (cs := [v1, (.int .i64 p_t.Window), (.int .i64 p_t.Tooth), (.int .i64 p_t.PerVane), (.int .i64 p_t.First), (.int .i64 p_t.Modulus), (.int .i64 p_t.Slack), (.int .i64 p_t.Errors), (.bool p_t.Round)]) ag24 rfl (Box.at (hB9.ext ((he15).trans hS))))) ?_
  refine TP_q (v := (.int .i64 p_t.PerVane)) rfl rfl (fun w' hS => (yl_load sc3 rfl (At.drop (Box.at (hB9.ext ((he15).trans hS))) 3))) ?_
  obtain ⟨r18, hr19, h⟩ := bind_elim h
  refine TP_e rfl rfl (eff_call Try.func44 nm44 rfl (ev1 rfl) (ref04_WindowsOf_ok [] _ (LtL.nil _) [v1, (.int .i64 p_t.Window), (.int .i64 p_t.Tooth), (.int .i64 p_t.PerVane), (.int .i64 p_t.First), (.int .i64 p_t.Modulus), (.int .i64 p_t.Slack), (.int .i64 p_t.Errors), (.bool p_t.Round)] p_t ⟨v1, ((h2.ext e16).sub (fun _ h => by cases h)), rfl⟩ r18 hr19) ?_)
  rintro _ wd20 ⟨he21, rfl⟩
  have e22 := e16.trans he21
  have e23 := he15.trans he21
  have e24 := e17.trans he21
  refine ⟨he21, ?_⟩
  refine TP_p (v := (.int .i64 (w64 (r18 * p_t.PerVane)))) rfl rfl (fun w' => (yl_mul rfl rfl)) ?_
  refine TP_p (v := (.int .i64 (w64 (r18 * p_t.PerVane)))) rfl rfl (fun w' => (yl_assign rfl)) ?_
  refine TP_done ?_
  refine hK13 _ _ ?_
  refine WC_ret ?_
  replace h := some_out h
  subst h
  exact ⟨[(.int .i64 (w64 (r18 * p_t.PerVane)))], ⟨rfl, trivial⟩, e24, rfl⟩

noncomputable def locate_track_teeth_spec (p_t : locate_track) : Option Int :=
  (Option.bind (locate_track_windows_spec p_t) fun r18 =>
  some (w64 (p_t.LocateTrack.PerVane * r18))
  )
theorem locate_track_teeth_ok (L : List Value) (w : World) (hL : LtL L w) (cs_p_t : List Value) (p_t : locate_track) (h_p_t : Rep.rd L w cs_p_t p_t) (r : Int) (h : locate_track_teeth_spec p_t = some r) :
    CallsTo Try.prog 28 [(.agg cs_p_t.toArray)] w (fun v w' => Ext w w' ∧ (.int .i64 r) = v) := by
  have e0 : Ext w w := Chg.refl _ _
  obtain ⟨v1, h2, rfl⟩ := h_p_t
  refine callsTo_of_WC (n := 9) (rs := [.tmp 2]) Try.func28 rfl rfl rfl rfl rfl ?_
  refine WC_seqK fun K4 hK4 => ?_
  refine WC_region ?_
  refine T0_e rfl (eff_boxC (cs := [v1, (.int .i64 p_t.LocateTrack.Window), (.int .i64 p_t.LocateTrack.Tooth), (.int .i64 p_t.LocateTrack.PerVane), (.int .i64 p_t.LocateTrack.First), (.int .i64 p_t.LocateTrack.Modulus), (.int .i64 p_t.LocateTrack.Slack), (.int .i64 p_t.LocateTrack.Errors), (.bool p_t.LocateTrack.Round)]) rfl rfl ?_)
  intro b5 wd6 hb7 he8 hB9
  have hbf10 := bfresh e0 hb7
  have e11 := e0.trans he8
  refine T0_q (v := (.int .i64 0)) rfl (yl_assign rfl) ?_
  refine T0_nil ?_
  refine hK4 _ _ ?_
  refine WC_seqK fun K13 hK13 => ?_
  refine WC_plan mixed (.p 0 (.p 1 (.q 2 (.q 3 (.e 4 (.p 5 (.p 6 .done))))))) (by kernel_rfl) ?_
  intro wd14 he15
  have e16 := he8.trans he15
  have e17 := e11.trans he15
  refine TP_p (v := (.pointer (some ⟨b5, 0, none⟩))) rfl rfl (fun w' => (yl_fa 0 Try.underlying68 rfl rfl ⟨8, sz24⟩ rfl rfl)) ?_
  refine TP_p (v := (.pointer (some ⟨b5, 3, none⟩))) rfl rfl (fun w' => (yl_fa 3 Try.underlying24 rfl rfl ⟨0, sz3⟩ rfl rfl)) ?_
  refine TP_q (v := (.int .i64 p_t.LocateTrack.PerVane)) rfl rfl (fun w' hS => (yl_load sc3 rfl (At.drop (Box.at (hB9.ext ((he15).trans hS))) 3))) ?_
  refine TP_q (v := (.agg (List.toArray [v1, (.int .i64 p_t.LocateTrack.Window), (.int .i64 p_t.LocateTrack.Tooth), (.int .i64 p_t.LocateTrack.PerVane), (.int .i64 p_t.LocateTrack.First), (.int .i64 p_t.LocateTrack.Modulus), (.int .i64 p_t.LocateTrack.Slack), (.int .i64 p_t.LocateTrack.Errors), (.bool p_t.LocateTrack.Round)]))) rfl rfl (fun w' hS => (yl_loadA (cs := [v1, (.int .i64 p_t.LocateTrack.Window), (.int .i64 p_t.LocateTrack.Tooth), (.int .i64 p_t.LocateTrack.PerVane), (.int .i64 p_t.LocateTrack.First), (.int .i64 p_t.LocateTrack.Modulus), (.int .i64 p_t.LocateTrack.Slack), (.int .i64 p_t.LocateTrack.Errors), (.bool p_t.LocateTrack.Round)]) ag68 rfl (Box.at (hB9.ext ((he15).trans hS))))) ?_
  obtain ⟨r18, hr19, h⟩ := bind_elim h
  refine TP_e rfl rfl (eff_call Try.func46 nm46 rfl (ev1 rfl) (locate_track_windows_ok [] _ (LtL.nil _) [v1, (.int .i64 p_t.LocateTrack.Window), (.int .i64 p_t.LocateTrack.Tooth), (.int .i64 p_t.LocateTrack.PerVane), (.int .i64 p_t.LocateTrack.First), (.int .i64 p_t.LocateTrack.Modulus), (.int .i64 p_t.LocateTrack.Slack), (.int .i64 p_t.LocateTrack.Errors), (.bool p_t.LocateTrack.Round)] p_t ⟨v1, ((h2.ext e16).sub (fun _ h => by cases h)), rfl⟩ r18 hr19) ?_)
  rintro _ wd20 ⟨he21, rfl⟩
  have e22 := e16.trans he21
  have e23 := he15.trans he21
  have e24 := e17.trans he21
  refine ⟨he21, ?_⟩
  refine TP_p (v := (.int .i64 (w64 (p_t.LocateTrack.PerVane * r18)))) rfl rfl (fun w' => (yl_mul rfl rfl)) ?_
  refine TP_p (v := (.int .i64 (w64 (p_t.LocateTrack.PerVane * r18)))) rfl rfl (fun w' => (yl_assign rfl)) ?_
  refine TP_done ?_
  refine hK13 _ _ ?_
  refine WC_ret ?_
  replace h := some_out h
  subst h
  exact ⟨[(.int .i64 (w64 (p_t.LocateTrack.PerVane * r18)))], ⟨rfl, trivial⟩, e24, rfl⟩

noncomputable def locate_only_api_Range_spec (p_l : (List Range)) (p_e : Int) : Option (Range × Int) :=
  (Option.bind (locate_unless_spec (decide (0 < (p_l.length : Int))) 12) fun r24 =>
  (Option.bind (locate_unless_spec (decide ((p_l.length : Int) ≤ 1)) 29) fun r30 =>
  (Option.bind (locate_first_spec ([p_e, r24, r30] : List Int)) fun r45 =>
  (bif (decide (r45 = 0)) then (
    (Option.bind (idx p_l 0) fun el56 =>
    some (el56, r45)
    )
  ) else (
    some ((Range.mk 0 0), r45)
  ))
  )
  )
  )
theorem locate_only_api_Range_ok (L : List Value) (w : World) (hL : LtL L w) (v_p_l : Value) (p_l : (List Range)) (h_p_l : SlRd L w v_p_l p_l) (p_e : Int) (r : Range × Int) (h : locate_only_api_Range_spec p_l p_e = some r) :
    CallsTo Try.prog 33 [v_p_l, (.int .i64 p_e)] w (fun v w' => Ext w w' ∧ ∃ (cs0 : List Value), (.tuple #[(.agg cs0.toArray), (.int .i64 r.2)]) = v ∧ Rep.rd L w' cs0 r.1) := by
  have e0 : Ext w w := Chg.refl _ _
  refine callsTo_of_WC (n := 27) (rs := [.cell 4 35, .tmp 5]) Try.func33 rfl rfl rfl rfl rfl ?_
  refine WC_seqK fun K2 hK2 => ?_
  refine WC_region ?_
  refine T0_e rfl (eff_allocZ zi35 ?_)
  intro b3 wd4 hb5 he6 hB7
  have hbf8 := bfresh e0 hb5
  have h9 := h_p_l.step (add_box he6 hb5)
  have e10 := e0.trans he6
  refine T0_q (v := (.int .i64 0)) rfl (yl_assign rfl) ?_
  refine T0_nil ?_
  refine hK2 _ _ ?_
  refine WC_seqK fun K12 hK12 => ?_
  refine WC_region ?_
  refine T0_e rfl (eff_allocZ zi35 ?_)
  intro b13 wd14 hb15 he16 hB17
  have hn18 : b13 ≠ b3 := box_ne hB7 hb15
  have hbf19 := bfresh e10 hb15
  have e20 := e10.trans he16
  refine T0_nil ?_
  refine hK12 _ _ ?_
  refine WC_seqK fun K22 hK22 => ?_
  refine WC_seqK fun K23 hK23 => ?_
  refine WC_region ?_
  refine T0_q (v := (.int .i64 p_e)) rfl (yl_move rfl) ?_
  refine T0_q (v := v_p_l) rfl (yl_move rfl) ?_
  refine T0_q (v := (.int .i64 (p_l.length : Int))) rfl (yl_lenR rfl Try.underlying33 h9 rfl) ?_
  refine T0_q (v := (.bool (decide (0 < (p_l.length : Int))))) rfl (yl_gtr rfl rfl) ?_
  obtain ⟨r24, hr25, h⟩ := bind_elim h
  refine T0_e rfl (eff_call Try.func37 nm37 rfl (ev2 rfl rfl) (locate_unless_ok [] _ (LtL.nil _) (decide (0 < (p_l.length : Int))) 12 r24 hr25) ?_)
  rintro _ wd26 ⟨he27, rfl⟩
  have e28 := he16.trans he27
  have e29 := e20.trans he27
  refine T0_q (v := v_p_l) rfl (yl_move rfl) ?_
  refine T0_q (v := (.int .i64 (p_l.length : Int))) rfl (yl_lenR rfl Try.underlying33 h9 rfl) ?_
  refine T0_q (v := (.bool (decide ((p_l.length : Int) ≤ 1)))) rfl (yl_leq rfl rfl) ?_
  obtain ⟨r30, hr31, h⟩ := bind_elim h
  refine T0_e rfl (eff_call Try.func37 nm37 rfl (ev2 rfl rfl) (locate_unless_ok [] _ (LtL.nil _) (decide ((p_l.length : Int) ≤ 1)) 29 r30 hr31) ?_)
  rintro _ wd32 ⟨he33, rfl⟩
  have e34 := he27.trans he33
  have e35 := e28.trans he33
  have e36 := e29.trans he33
  refine T0_e rfl (eff_buildTC (xs := ([p_e, r24, r30] : List Int)) (cells := [(.int .i64 p_e), (.int .i64 r24), (.int .i64 r30)]) Try.underlying91 ei37 rfl (pc_cons rfl rfl (pc_cons rfl rfl (pc_cons rfl rfl pc_nil))) rfl (Elems.cons (cs := [(.int .i64 p_e)]) rfl (Elems.cons (cs := [(.int .i64 r24)]) rfl (Elems.cons (cs := [(.int .i64 r30)]) rfl Elems.nil))) rfl (ltl_box (hL.chg e36) (hB7.ext e35)) ?_)
  intro b40 wd37 he38 h39
  have e41 := e34.trans he38
  have e42 := e35.trans he38
  have e43 := e36.trans he38
  obtain ⟨r45, hr46, h⟩ := bind_elim h
  refine T0_e rfl (eff_call Try.func35 nm35 rfl (ev1 rfl) (locate_first_ok [] _ (LtL.nil _) (.slice (some ⟨b40, 0, none⟩) 3 3) ([p_e, r24, r30] : List Int) (h39.sub (fun _ h => by cases h)) r45 hr46) ?_)
  rintro _ wd47 ⟨he48, rfl⟩
  have e49 := e41.trans he48
  have e50 := e42.trans he48
  have e51 := e43.trans he48
  refine T0_q (v := (.int .i64 r45)) rfl (yl_assign rfl) ?_
  refine T0_nil ?_
  refine hK23 _ _ ?_
  refine WC_seqK fun K52 hK52 => ?_
  refine WC_region ?_
  refine T0_q (v := (.int .i64 r45)) rfl (yl_move rfl) ?_
  refine T0_nil ?_
  refine hK52 _ _ ?_
  refine WC_block ?_
  refine WC_seqK fun K53 hK53 => ?_
  refine WC_region ?_
  refine T0_q (v := (.bool (decide (r45 = 0)))) rfl (yl_eql rfl rfl) ?_
  refine T0_q (v := (.bool (decide (r45 = 0)))) rfl (yl_assign rfl) ?_
  refine T0_nil ?_
  refine hK53 _ _ ?_
  refine WC_cond (b := (decide (r45 = 0))) rfl (fun hb54 => ?_) (fun hb54 => ?_)
  · replace h := cond_t hb54 h
    refine WC_seqK fun K55 hK55 => ?_
    refine WC_region ?_
    refine T0_q (v := v_p_l) rfl (yl_move rfl) ?_
    obtain ⟨el56, hel57, h⟩ := bind_elim h
    obtain ⟨cs58, hat59, hrd60⟩ := SlRd.at h9 hel57
    have hrd60 : cs58 = [(.int .i64 el56.Lo), (.int .i64 el56.Hi)] := hrd60
    subst hrd60
    refine T0_q (v := (.pointer (some (elemAddr v_p_l (0 : Int).toNat 2)))) rfl (yl_indexAddr Try.underlying33 sz35 h9 hel57 rfl rfl) ?_
    refine T0_q (v := (.agg (List.toArray [(.int .i64 el56.Lo), (.int .i64 el56.Hi)]))) rfl (yl_loadA (cs := [(.int .i64 el56.Lo), (.int .i64 el56.Hi)]) ag35 rfl (hat59.ext' e50)) ?_
    refine T0_q (v := (.int .i64 r45)) rfl (yl_move rfl) ?_
    refine T0_e rfl (eff_storeC (vs := [(.int .i64 el56.Lo), (.int .i64 el56.Hi)]) (cs' := [(.int .i64 el56.Lo), (.int .i64 el56.Hi)]) sz35 rfl rfl rfl rfl (hB7.ext e50) rfl (oc_cons rfl (oc_cons rfl oc_nil)) rfl ?_)
    intro wd62 hc63 hB64
    have h65 := (h9.ext e50).step (Stepp.chg_mem hc63 mem0)
    have h66 := (hB17.ext e49).chg hc63 (avoidb hn18.symm)
    have h67 := (h39.ext he48).step (Stepp.chg_mem hc63 mem0)
    have e68 := chg_box e51 hc63 hbf8
    refine T0_q (v := (.int .i64 r45)) rfl (yl_assign rfl) ?_
    refine T0_nil ?_
    refine hK55 _ _ ?_
    refine WC_ret ?_
    replace h := some_out h
    subst h
    exact ⟨[(.agg (List.toArray [(.int .i64 el56.Lo), (.int .i64 el56.Hi)])), (.int .i64 r45)], ⟨⟨_, rfl, run_loadVarA (cs := [(.int .i64 el56.Lo), (.int .i64 el56.Hi)]) ag35 (Box.at hB64)⟩, rfl, trivial⟩, e68, [(.int .i64 el56.Lo), (.int .i64 el56.Hi)], rfl, rfl⟩
  · replace h := cond_f hb54 h
    refine WC_skip ?_
    refine hK22 _ _ ?_
    refine WC_seqK fun K69 hK69 => ?_
    refine WC_region ?_
    refine T0_q (v := (.agg (List.toArray [(.int .i64 0), (.int .i64 0)]))) rfl (yl_loadA (cs := [(.int .i64 0), (.int .i64 0)]) ag35 rfl (Box.at (hB17.ext e49))) ?_
    refine T0_q (v := (.int .i64 r45)) rfl (yl_move rfl) ?_
    refine T0_e rfl (eff_storeC (vs := [(.int .i64 0), (.int .i64 0)]) (cs' := [(.int .i64 0), (.int .i64 0)]) sz35 rfl rfl rfl rfl (hB7.ext e50) rfl (oc_cons rfl (oc_cons rfl oc_nil)) rfl ?_)
    intro wd70 hc71 hB72
    have h73 := (h9.ext e50).step (Stepp.chg_mem hc71 mem0)
    have h74 := (hB17.ext e49).chg hc71 (avoidb hn18.symm)
    have h75 := (h39.ext he48).step (Stepp.chg_mem hc71 mem0)
    have e76 := chg_box e51 hc71 hbf8
    refine T0_q (v := (.int .i64 r45)) rfl (yl_assign rfl) ?_
    refine T0_nil ?_
    refine hK69 _ _ ?_
    refine WC_ret ?_
    replace h := some_out h
    subst h
    exact ⟨[(.agg (List.toArray [(.int .i64 0), (.int .i64 0)])), (.int .i64 r45)], ⟨⟨_, rfl, run_loadVarA (cs := [(.int .i64 0), (.int .i64 0)]) ag35 (Box.at hB72)⟩, rfl, trivial⟩, e76, [(.int .i64 0), (.int .i64 0)], rfl, rfl⟩

noncomputable def locate_speedErr_spec (p_r : Range) : Option Int :=
  (Option.bind (locate_speedErr_1_spec p_r.Lo) fun r15 =>
  (Option.bind (bif r15 then locate_speedErr_1_spec p_r.Hi else some default) fun r21 =>
  (Option.bind (locate_unless_spec (r15 && r21) 2) fun r28 =>
  (Option.bind (locate_unless_spec (decide (p_r.Lo ≤ p_r.Hi)) 9) fun r35 =>
  (Option.bind (locate_first_spec ([r28, r35] : List Int)) fun r50 =>
  some r50
  )
  )
  )
  )
  )
theorem locate_speedErr_ok (L : List Value) (w : World) (hL : LtL L w) (cs_p_r : List Value) (p_r : Range) (h_p_r : Rep.rd L w cs_p_r p_r) (r : Int) (h : locate_speedErr_spec p_r = some r) :
    CallsTo Try.prog 36 [(.agg cs_p_r.toArray)] w (fun v w' => Ext w w' ∧ (.int .i64 r) = v) := by
  have e0 : Ext w w := Chg.refl _ _
  have h_p_r : cs_p_r = [(.int .i64 p_r.Lo), (.int .i64 p_r.Hi)] := h_p_r
  subst h_p_r
  refine callsTo_of_WC (n := 23) (rs := [.tmp 2]) Try.func36 rfl rfl rfl rfl rfl ?_
  refine WC_seqK fun K1 hK1 => ?_
  refine WC_region ?_
  refine T0_e rfl (eff_boxC (cs := [(.int .i64 p_r.Lo), (.int .i64 p_r.Hi)]) rfl rfl ?_)
  intro b2 wd3 hb4 he5 hB6
  have hbf7 := bfresh e0 hb4
  have e8 := e0.trans he5
  refine T0_q (v := (.int .i64 0)) rfl (yl_assign rfl) ?_
  refine T0_nil ?_
  refine hK1 _ _ ?_
  refine WC_seqK fun K10 hK10 => ?_
  refine WC_region ?_
  refine T0_q (v := (.func (.func 49) #[] #[])) rfl (yl_assign rfl) ?_
  refine T0_nil ?_
  refine hK10 _ _ ?_
  refine WC_seqK fun K11 hK11 => ?_
  refine WC_plan mixed (.p 0 (.p 1 (.p 11 (.p 13 (.q 2 (.q 12 (.q 14 (.p 15 (.e 3 (.p 4 (.p 5 (.p 6 (.q 7 (.e 8 (.p 9 (.e 10 (.e 16 (.e 17 (.e 18 (.p 19 .done)))))))))))))))))))) (by kernel_rfl) ?_
  intro wd12 he13
  have e14 := e8.trans he13
  refine TP_p (v := (.func (.func 49) #[] #[])) rfl rfl (fun w' => (yl_move rfl)) ?_
  refine TP_p (v := (.pointer (some ⟨b2, 0, none⟩))) rfl rfl (fun w' => (yl_fa 0 Try.underlying35 rfl rfl ⟨0, sz3⟩ rfl rfl)) ?_
  refine TP_p (v := (.pointer (some ⟨b2, 0, none⟩))) rfl rfl (fun w' => (yl_fa 0 Try.underlying35 rfl rfl ⟨0, sz3⟩ rfl rfl)) ?_
  refine TP_p (v := (.pointer (some ⟨b2, 1, none⟩))) rfl rfl (fun w' => (yl_fa 1 Try.underlying35 rfl rfl ⟨0, sz3⟩ rfl rfl)) ?_
  refine TP_q (v := (.int .i64 p_r.Lo)) rfl rfl (fun w' hS => (yl_load sc3 rfl (Box.at (hB6.ext ((he13).trans hS))))) ?_
  refine TP_q (v := (.int .i64 p_r.Lo)) rfl rfl (fun w' hS => (yl_load sc3 rfl (Box.at (hB6.ext ((he13).trans hS))))) ?_
  refine TP_q (v := (.int .i64 p_r.Hi)) rfl rfl (fun w' hS => (yl_load sc3 rfl (At.drop (Box.at (hB6.ext ((he13).trans hS))) 1))) ?_
  refine TP_p (v := (.bool (decide (p_r.Lo ≤ p_r.Hi)))) rfl rfl (fun w' => (yl_leq rfl rfl)) ?_
  obtain ⟨r15, hr16, h⟩ := bind_elim h
  refine TP_e rfl rfl (eff_callV rfl Try.func49 nm49 rfl (ev1 rfl) (locate_speedErr_1_ok [] _ (LtL.nil _) p_r.Lo r15 hr16) ?_)
  rintro _ wd17 ⟨he18, rfl⟩
  have e19 := he13.trans he18
  have e20 := e14.trans he18
  refine ⟨he18, ?_⟩
  refine TP_p (v := (.bool r15)) rfl rfl (fun w' => (yl_move rfl)) ?_
  refine TP_gp (v := (.func (.func 49) #[] #[])) r15 rfl (wanted_t rfl rfl rfl rfl) (fun w' hg => (yl_move rfl)) ?_
  refine TP_gp (v := (.pointer (some ⟨b2, 1, none⟩))) r15 rfl (wanted_t rfl rfl rfl rfl) (fun w' hg => (yl_fa 1 Try.underlying35 rfl rfl ⟨0, sz3⟩ rfl rfl)) ?_
  refine TP_gq (v := (.int .i64 p_r.Hi)) r15 rfl (wanted_t rfl rfl rfl rfl) (fun w' hS hg => (yl_load sc3 (gd_true hg) (At.drop (Box.at (hB6.ext ((he13).trans hS))) 1))) ?_
  obtain ⟨r21, hr22, h⟩ := bind_elim h
  refine TP_ges r15 (.bool r21) rfl (wanted_t rfl rfl rfl rfl) (fun hg => eff_callV (gd_true hg) Try.func49 nm49 rfl (ev1 (gd_true hg)) (locate_speedErr_1_ok [] _ (LtL.nil _) p_r.Hi r21 (cond_t hg hr22)) (by rintro _ wd23 ⟨he24, rfl⟩; exact ⟨rfl, he24⟩)) ?_
  intro wd23 he24
  have e25 := e19.trans he24
  have e26 := he18.trans he24
  have e27 := e20.trans he24
  refine ⟨e26, ?_⟩
  refine TP_p (v := (.bool (r15 && r21))) rfl rfl (fun w' => (yl_and rfl (fun hb => (gd_true hb)) rfl)) ?_
  obtain ⟨r28, hr29, h⟩ := bind_elim h
  refine TP_e rfl rfl (eff_call Try.func37 nm37 rfl (ev2 rfl rfl) (locate_unless_ok [] _ (LtL.nil _) (r15 && r21) 2 r28 hr29) ?_)
  rintro _ wd30 ⟨he31, rfl⟩
  have e32 := e25.trans he31
  have e33 := e26.trans he31
  have e34 := e27.trans he31
  refine ⟨e33, ?_⟩
  obtain ⟨r35, hr36, h⟩ := bind_elim h
  refine TP_e rfl rfl (eff_call Try.func37 nm37 rfl (ev2 rfl rfl) (locate_unless_ok [] _ (LtL.nil _) (decide (p_r.Lo ≤ p_r.Hi)) 9 r35 hr36) ?_)
  rintro _ wd37 ⟨he38, rfl⟩
  have e39 := e32.trans he38
  have e40 := e33.trans he38
  have e41 := e34.trans he38
  refine ⟨e40, ?_⟩
  refine TP_e rfl rfl (eff_buildTC (xs := ([r28, r35] : List Int)) (cells := [(.int .i64 r28), (.int .i64 r35)]) Try.underlying91 ei37 rfl (pc_cons rfl rfl (pc_cons rfl rfl pc_nil)) rfl (Elems.cons (cs := [(.int .i64 r28)]) rfl (Elems.cons (cs := [(.int .i64 r35)]) rfl Elems.nil)) rfl (hL.chg e41) ?_)
  intro b45 wd42 he43 h44
  have e46 := e39.trans he43
  have e47 := e40.trans he43
  have e48 := e41.trans he43
  refine ⟨e47, ?_⟩
  obtain ⟨r50, hr51, h⟩ := bind_elim h
  refine TP_e rfl rfl (eff_call Try.func35 nm35 rfl (ev1 rfl) (locate_first_ok [] _ (LtL.nil _) (.slice (some ⟨b45, 0, none⟩) 2 2) ([r28, r35] : List Int) (h44.sub (fun _ h => by cases h)) r50 hr51) ?_)
  rintro _ wd52 ⟨he53, rfl⟩
  have e54 := e46.trans he53
  have e55 := e47.trans he53
  have e56 := e48.trans he53
  refine ⟨e55, ?_⟩
  refine TP_p (v := (.int .i64 r50)) rfl rfl (fun w' => (yl_assign rfl)) ?_
  refine TP_done ?_
  refine hK11 _ _ ?_
  refine WC_ret ?_
  replace h := some_out h
  subst h
  exact ⟨[(.int .i64 r50)], ⟨rfl, trivial⟩, e56, rfl⟩

noncomputable def locate_placesErr_spec (p_r : Range) : Option Int :=
  (Option.bind (locate_isPlace_spec p_r.Lo) fun r14 =>
  (Option.bind (bif r14 then locate_isPlace_spec p_r.Hi else some default) fun r20 =>
  (Option.bind (locate_unless_spec (r14 && r20) 2) fun r27 =>
  (Option.bind (locate_unless_spec (decide (p_r.Lo ≤ p_r.Hi)) 9) fun r34 =>
  (Option.bind (locate_first_spec ([r27, r34] : List Int)) fun r49 =>
  some r49
  )
  )
  )
  )
  )
theorem locate_placesErr_ok (L : List Value) (w : World) (hL : LtL L w) (cs_p_r : List Value) (p_r : Range) (h_p_r : Rep.rd L w cs_p_r p_r) (r : Int) (h : locate_placesErr_spec p_r = some r) :
    CallsTo Try.prog 39 [(.agg cs_p_r.toArray)] w (fun v w' => Ext w w' ∧ (.int .i64 r) = v) := by
  have e0 : Ext w w := Chg.refl _ _
  have h_p_r : cs_p_r = [(.int .i64 p_r.Lo), (.int .i64 p_r.Hi)] := h_p_r
  subst h_p_r
  refine callsTo_of_WC (n := 20) (rs := [.tmp 2]) Try.func39 rfl rfl rfl rfl rfl ?_
  refine WC_seqK fun K1 hK1 => ?_
  refine WC_region ?_
  refine T0_e rfl (eff_boxC (cs := [(.int .i64 p_r.Lo), (.int .i64 p_r.Hi)]) rfl rfl ?_)
  intro b2 wd3 hb4 he5 hB6
  have hbf7 := bfresh e0 hb4
  have e8 := e0.trans he5
  refine T0_q (v := (.int .i64 0)) rfl (yl_assign rfl) ?_
  refine T0_nil ?_
  refine hK1 _ _ ?_
  refine WC_seqK fun K10 hK10 => ?_
  refine WC_plan mixed (.p 0 (.p 9 (.p 11 (.q 1 (.q 10 (.q 12 (.p 13 (.e 2 (.p 3 (.p 4 (.q 5 (.e 6 (.p 7 (.e 8 (.e 14 (.e 15 (.e 16 (.p 17 .done)))))))))))))))))) (by kernel_rfl) ?_
  intro wd11 he12
  have e13 := e8.trans he12
  refine TP_p (v := (.pointer (some ⟨b2, 0, none⟩))) rfl rfl (fun w' => (yl_fa 0 Try.underlying35 rfl rfl ⟨0, sz3⟩ rfl rfl)) ?_
  refine TP_p (v := (.pointer (some ⟨b2, 0, none⟩))) rfl rfl (fun w' => (yl_fa 0 Try.underlying35 rfl rfl ⟨0, sz3⟩ rfl rfl)) ?_
  refine TP_p (v := (.pointer (some ⟨b2, 1, none⟩))) rfl rfl (fun w' => (yl_fa 1 Try.underlying35 rfl rfl ⟨0, sz3⟩ rfl rfl)) ?_
  refine TP_q (v := (.int .i64 p_r.Lo)) rfl rfl (fun w' hS => (yl_load sc3 rfl (Box.at (hB6.ext ((he12).trans hS))))) ?_
  refine TP_q (v := (.int .i64 p_r.Lo)) rfl rfl (fun w' hS => (yl_load sc3 rfl (Box.at (hB6.ext ((he12).trans hS))))) ?_
  refine TP_q (v := (.int .i64 p_r.Hi)) rfl rfl (fun w' hS => (yl_load sc3 rfl (At.drop (Box.at (hB6.ext ((he12).trans hS))) 1))) ?_
  refine TP_p (v := (.bool (decide (p_r.Lo ≤ p_r.Hi)))) rfl rfl (fun w' => (yl_leq rfl rfl)) ?_
  obtain ⟨r14, hr15, h⟩ := bind_elim h
  refine TP_e rfl rfl (eff_call Try.func50 nm50 rfl (ev1 rfl) (locate_isPlace_ok [] _ (LtL.nil _) p_r.Lo r14 hr15) ?_)
  rintro _ wd16 ⟨he17, rfl⟩
  have e18 := he12.trans he17
  have e19 := e13.trans he17
  refine ⟨he17, ?_⟩
  refine TP_p (v := (.bool r14)) rfl rfl (fun w' => (yl_move rfl)) ?_
  refine TP_gp (v := (.pointer (some ⟨b2, 1, none⟩))) r14 rfl (wanted_t rfl rfl rfl rfl) (fun w' hg => (yl_fa 1 Try.underlying35 rfl rfl ⟨0, sz3⟩ rfl rfl)) ?_
  refine TP_gq (v := (.int .i64 p_r.Hi)) r14 rfl (wanted_t rfl rfl rfl rfl) (fun w' hS hg => (yl_load sc3 (gd_true hg) (At.drop (Box.at (hB6.ext ((he12).trans hS))) 1))) ?_
  obtain ⟨r20, hr21, h⟩ := bind_elim h
  refine TP_ges r14 (.bool r20) rfl (wanted_t rfl rfl rfl rfl) (fun hg => eff_call Try.func50 nm50 rfl (ev1 (gd_true hg)) (locate_isPlace_ok [] _ (LtL.nil _) p_r.Hi r20 (cond_t hg hr21)) (by rintro _ wd22 ⟨he23, rfl⟩; exact ⟨rfl, he23⟩)) ?_
  intro wd22 he23
  have e24 := e18.trans he23
  have e25 := he17.trans he23
  have e26 := e19.trans he23
  refine ⟨e25, ?_⟩
  refine TP_p (v := (.bool (r14 && r20))) rfl rfl (fun w' => (yl_and rfl (fun hb => (gd_true hb)) rfl)) ?_
  obtain ⟨r27, hr28, h⟩ := bind_elim h
  refine TP_e rfl rfl (eff_call Try.func37 nm37 rfl (ev2 rfl rfl) (locate_unless_ok [] _ (LtL.nil _) (r14 && r20) 2 r27 hr28) ?_)
  rintro _ wd29 ⟨he30, rfl⟩
  have e31 := e24.trans he30
  have e32 := e25.trans he30
  have e33 := e26.trans he30
  refine ⟨e32, ?_⟩
  obtain ⟨r34, hr35, h⟩ := bind_elim h
  refine TP_e rfl rfl (eff_call Try.func37 nm37 rfl (ev2 rfl rfl) (locate_unless_ok [] _ (LtL.nil _) (decide (p_r.Lo ≤ p_r.Hi)) 9 r34 hr35) ?_)
  rintro _ wd36 ⟨he37, rfl⟩
  have e38 := e31.trans he37
  have e39 := e32.trans he37
  have e40 := e33.trans he37
  refine ⟨e39, ?_⟩
  refine TP_e rfl rfl (eff_buildTC (xs := ([r27, r34] : List Int)) (cells := [(.int .i64 r27), (.int .i64 r34)]) Try.underlying91 ei37 rfl (pc_cons rfl rfl (pc_cons rfl rfl pc_nil)) rfl (Elems.cons (cs := [(.int .i64 r27)]) rfl (Elems.cons (cs := [(.int .i64 r34)]) rfl Elems.nil)) rfl (hL.chg e40) ?_)
  intro b44 wd41 he42 h43
  have e45 := e38.trans he42
  have e46 := e39.trans he42
  have e47 := e40.trans he42
  refine ⟨e46, ?_⟩
  obtain ⟨r49, hr50, h⟩ := bind_elim h
  refine TP_e rfl rfl (eff_call Try.func35 nm35 rfl (ev1 rfl) (locate_first_ok [] _ (LtL.nil _) (.slice (some ⟨b44, 0, none⟩) 2 2) ([r27, r34] : List Int) (h43.sub (fun _ h => by cases h)) r49 hr50) ?_)
  rintro _ wd51 ⟨he52, rfl⟩
  have e53 := e45.trans he52
  have e54 := e46.trans he52
  have e55 := e47.trans he52
  refine ⟨e54, ?_⟩
  refine TP_p (v := (.int .i64 r49)) rfl rfl (fun w' => (yl_assign rfl)) ?_
  refine TP_done ?_
  refine hK10 _ _ ?_
  refine WC_ret ?_
  replace h := some_out h
  subst h
  exact ⟨[(.int .i64 r49)], ⟨rfl, trivial⟩, e55, rfl⟩

noncomputable def locate_moved_spec (p_x : Range) (p_speed : Range) (p_time : Int) : Option Range :=
  (Option.bind (locate_floor_spec (w64 (p_speed.Lo * p_time)) 1000) fun r36 =>
  (Option.bind (locate_ceil_spec (w64 (p_speed.Hi * p_time)) 1000) fun r44 =>
  some (Range.mk (w64 (p_x.Lo + r36)) (w64 (p_x.Hi + r44)))
  )
  )
theorem locate_moved_ok (L : List Value) (w : World) (hL : LtL L w) (cs_p_x : List Value) (p_x : Range) (h_p_x : Rep.rd L w cs_p_x p_x) (cs_p_speed : List Value) (p_speed : Range) (h_p_speed : Rep.rd L w cs_p_speed p_speed) (p_time : Int) (r : Range) (h : locate_moved_spec p_x p_speed p_time = some r) :
    CallsTo Try.prog 40 [(.agg cs_p_x.toArray), (.agg cs_p_speed.toArray), (.int .i64 p_time)] w (fun v w' => Ext w w' ∧ ∃ (cs0 : List Value), (.agg cs0.toArray) = v ∧ Rep.rd L w' cs0 r) := by
  have e0 : Ext w w := Chg.refl _ _
  have h_p_x : cs_p_x = [(.int .i64 p_x.Lo), (.int .i64 p_x.Hi)] := h_p_x
  subst h_p_x
  have h_p_speed : cs_p_speed = [(.int .i64 p_speed.Lo), (.int .i64 p_speed.Hi)] := h_p_speed
  subst h_p_speed
  refine callsTo_of_WC (n := 24) (rs := [.cell 6 35]) Try.func40 rfl rfl rfl rfl rfl ?_
  refine WC_seqK fun K1 hK1 => ?_
  refine WC_region ?_
  refine T0_e rfl (eff_boxC (cs := [(.int .i64 p_x.Lo), (.int .i64 p_x.Hi)]) rfl rfl ?_)
  intro b2 wd3 hb4 he5 hB6
  have hbf7 := bfresh e0 hb4
  have e8 := e0.trans he5
  refine T0_e rfl (eff_boxC (cs := [(.int .i64 p_speed.Lo), (.int .i64 p_speed.Hi)]) rfl rfl ?_)
  intro b10 wd11 hb12 he13 hB14
  have hn15 : b10 ≠ b2 := box_ne hB6 hb12
  have hbf16 := bfresh e8 hb12
  have e17 := e8.trans he13
  refine T0_e rfl (eff_allocZ zi35 ?_)
  intro b19 wd20 hb21 he22 hB23
  have hn24 : b19 ≠ b2 := box_ne (hB6.ext he13) hb21
  have hn25 : b19 ≠ b10 := box_ne hB14 hb21
  have hbf26 := bfresh e17 hb21
  have e27 := he13.trans he22
  have e28 := e17.trans he22
  refine T0_nil ?_
  refine hK1 _ _ ?_
  refine WC_seqK fun K30 hK30 => ?_
  refine WC_plan mixed (.p 0 (.p 2 (.p 4 (.p 8 (.p 10 (.p 12 (.q 1 (.q 3 (.p 5 (.q 9 (.q 11 (.p 13 (.e 6 (.p 7 (.e 14 (.p 15 (.p 16 (.b 17 .done)))))))))))))))))) (by kernel_rfl) ?_
  intro wd31 he32
  have e33 := he22.trans he32
  have e34 := e27.trans he32
  have e35 := e28.trans he32
  refine TP_p (v := (.pointer (some ⟨b2, 0, none⟩))) rfl rfl (fun w' => (yl_fa 0 Try.underlying35 rfl rfl ⟨0, sz3⟩ rfl rfl)) ?_
  refine TP_p (v := (.pointer (some ⟨b10, 0, none⟩))) rfl rfl (fun w' => (yl_fa 0 Try.underlying35 rfl rfl ⟨0, sz3⟩ rfl rfl)) ?_
  refine TP_p (v := (.int .i64 p_time)) rfl rfl (fun w' => (yl_move rfl)) ?_
  refine TP_p (v := (.pointer (some ⟨b2, 1, none⟩))) rfl rfl (fun w' => (yl_fa 1 Try.underlying35 rfl rfl ⟨0, sz3⟩ rfl rfl)) ?_
  refine TP_p (v := (.pointer (some ⟨b10, 1, none⟩))) rfl rfl (fun w' => (yl_fa 1 Try.underlying35 rfl rfl ⟨0, sz3⟩ rfl rfl)) ?_
  refine TP_p (v := (.int .i64 p_time)) rfl rfl (fun w' => (yl_move rfl)) ?_
  refine TP_q (v := (.int .i64 p_x.Lo)) rfl rfl (fun w' hS => (yl_load sc3 rfl (Box.at (hB6.ext ((e34).trans hS))))) ?_
  refine TP_q (v := (.int .i64 p_speed.Lo)) rfl rfl (fun w' hS => (yl_load sc3 rfl (Box.at (hB14.ext ((e33).trans hS))))) ?_
  refine TP_p (v := (.int .i64 (w64 (p_speed.Lo * p_time)))) rfl rfl (fun w' => (yl_mul rfl rfl)) ?_
  refine TP_q (v := (.int .i64 p_x.Hi)) rfl rfl (fun w' hS => (yl_load sc3 rfl (At.drop (Box.at (hB6.ext ((e34).trans hS))) 1))) ?_
  refine TP_q (v := (.int .i64 p_speed.Hi)) rfl rfl (fun w' hS => (yl_load sc3 rfl (At.drop (Box.at (hB14.ext ((e33).trans hS))) 1))) ?_
  refine TP_p (v := (.int .i64 (w64 (p_speed.Hi * p_time)))) rfl rfl (fun w' => (yl_mul rfl rfl)) ?_
  obtain ⟨r36, hr37, h⟩ := bind_elim h
  refine TP_e rfl rfl (eff_call Try.func51 nm51 rfl (ev2 rfl rfl) (locate_floor_ok [] _ (LtL.nil _) (w64 (p_speed.Lo * p_time)) 1000 r36 hr37) ?_)
  rintro _ wd38 ⟨he39, rfl⟩
  have e40 := e33.trans he39
  have e41 := he32.trans he39
  have e42 := e34.trans he39
  have e43 := e35.trans he39
  refine ⟨he39, ?_⟩
  refine TP_p (v := (.int .i64 (w64 (p_x.Lo + r36)))) rfl rfl (fun w' => (yl_add rfl rfl)) ?_
  obtain ⟨r44, hr45, h⟩ := bind_elim h
  refine TP_e rfl rfl (eff_call Try.func52 nm52 rfl (ev2 rfl rfl) (locate_ceil_ok [] _ (LtL.nil _) (w64 (p_speed.Hi * p_time)) 1000 r44 hr45) ?_)
  rintro _ wd46 ⟨he47, rfl⟩
  have e48 := e40.trans he47
  have e49 := e41.trans he47
  have e50 := e42.trans he47
  have e51 := he39.trans he47
  have e52 := e43.trans he47
  refine ⟨e51, ?_⟩
  refine TP_p (v := (.int .i64 (w64 (p_x.Hi + r44)))) rfl rfl (fun w' => (yl_add rfl rfl)) ?_
  refine TP_p (v := (.agg (List.toArray [(.int .i64 (w64 (p_x.Lo + r36))), (.int .i64 (w64 (p_x.Hi + r44)))]))) rfl rfl (fun w' => (yl_buildC (cells := [(.int .i64 (w64 (p_x.Lo + r36))), (.int .i64 (w64 (p_x.Hi + r44)))]) bi35 (pc_cons rfl rfl (pc_cons rfl rfl pc_nil)) rfl)) ?_
  refine TP_b rfl rfl (eff_storeC (vs := [(.int .i64 (w64 (p_x.Lo + r36))), (.int .i64 (w64 (p_x.Hi + r44)))]) (cs' := [(.int .i64 (w64 (p_x.Lo + r36))), (.int .i64 (w64 (p_x.Hi + r44)))]) sz35 rfl rfl rfl rfl (hB23.ext e49) rfl (oc_cons rfl (oc_cons rfl oc_nil)) rfl ?_)
  intro wd53 hc54 hB55
  have h56 := (hB6.ext e50).chg hc54 (avoidb hn24)
  have h57 := (hB14.ext e48).chg hc54 (avoidb hn25)
  have e58 := chg_box e52 hc54 hbf26
  refine TP_done ?_
  refine hK30 _ _ ?_
  refine WC_ret ?_
  replace h := some_out h
  subst h
  exact ⟨[(.agg (List.toArray [(.int .i64 (w64 (p_x.Lo + r36))), (.int .i64 (w64 (p_x.Hi + r44)))]))], ⟨⟨_, rfl, run_loadVarA (cs := [(.int .i64 (w64 (p_x.Lo + r36))), (.int .i64 (w64 (p_x.Hi + r44)))]) ag35 (Box.at hB55)⟩, trivial⟩, e58, [(.int .i64 (w64 (p_x.Lo + r36))), (.int .i64 (w64 (p_x.Hi + r44)))], rfl, rfl⟩

noncomputable def locate_track_near_s0 (p_t : locate_track) (r16 : Arr12_Int) (r45 : Int) : ((List Int) × Int) → Option (((List Int) × Int) ⊕ ((List Int))) := fun (x261, x268) =>
  (bif (decide (x268 < r45)) then (
    (Option.bind (locate_track_at_spec p_t x268) fun r308 =>
    (Option.bind (locate_window_differ_spec r308 r16) fun r316 =>
    (bif (decide (r316 ≤ p_t.LocateTrack.Errors)) then (
      (Option.bind (app x261 ([x268] : List Int)) fun zs331 =>
      some (.inl (zs331, w64 (x268 + 1)))
      )
    ) else (
      some (.inl (x261, w64 (x268 + 1)))
    ))
    )
    )
  ) else (
    some (.inr x261)
  ))
noncomputable def locate_track_near_spec (p_t : locate_track) (p_seen : (List Int)) : Option (List Int) :=
  (Option.bind (locate_track_seen_spec p_t p_seen) fun r16 =>
  (Option.bind (locate_track_windows_spec p_t) fun r45 =>
  (Option.bind (loop (locate_track_near_s0 p_t r16 r45) (([] : List Int), 0)) fun (x286 : (List Int)) =>
  some x286
  )
  )
  )
theorem locate_track_near_ok (L : List Value) (w : World) (hL : LtL L w) (cs_p_t : List Value) (p_t : locate_track) (h_p_t : Rep.rd L w cs_p_t p_t) (v_p_seen : Value) (p_seen : (List Int)) (h_p_seen : SlRd L w v_p_seen p_seen) (r : (List Int)) (h : locate_track_near_spec p_t p_seen = some r) :
    CallsTo Try.prog 48 [(.agg cs_p_t.toArray), v_p_seen] w (fun v w' => Ext w w' ∧ ∃ (v0 : Value), v0 = v ∧ SlRd L w' v0 r) := by
  have e0 : Ext w w := Chg.refl _ _
  obtain ⟨v1, h2, rfl⟩ := h_p_t
  refine callsTo_of_WC (n := 31) (rs := [.tmp 4]) Try.func48 rfl rfl rfl rfl rfl ?_
  refine WC_seqK fun K5 hK5 => ?_
  refine WC_region ?_
  refine T0_e rfl (eff_boxC (cs := [v1, (.int .i64 p_t.LocateTrack.Window), (.int .i64 p_t.LocateTrack.Tooth), (.int .i64 p_t.LocateTrack.PerVane), (.int .i64 p_t.LocateTrack.First), (.int .i64 p_t.LocateTrack.Modulus), (.int .i64 p_t.LocateTrack.Slack), (.int .i64 p_t.LocateTrack.Errors), (.bool p_t.LocateTrack.Round)]) rfl rfl ?_)
  intro b6 wd7 hb8 he9 hB10
  have hbf11 := bfresh e0 hb8
  have e12 := e0.trans he9
  refine T0_q (v := (.slice none 0 0)) rfl (yl_assign rfl) ?_
  refine T0_nil ?_
  refine hK5 _ _ ?_
  refine WC_seqK fun K14 hK14 => ?_
  refine WC_region ?_
  refine T0_q (v := (.slice none 0 0)) rfl (yl_assign rfl) ?_
  refine T0_nil ?_
  refine hK14 _ _ ?_
  refine WC_seqK fun K15 hK15 => ?_
  refine WC_region ?_
  refine T0_q (v := (.agg (List.toArray [v1, (.int .i64 p_t.LocateTrack.Window), (.int .i64 p_t.LocateTrack.Tooth), (.int .i64 p_t.LocateTrack.PerVane), (.int .i64 p_t.LocateTrack.First), (.int .i64 p_t.LocateTrack.Modulus), (.int .i64 p_t.LocateTrack.Slack), (.int .i64 p_t.LocateTrack.Errors), (.bool p_t.LocateTrack.Round)]))) rfl (yl_loadA (cs := [v1, (.int .i64 p_t.LocateTrack.Window), (.int .i64 p_t.LocateTrack.Tooth), (.int .i64 p_t.LocateTrack.PerVane), (.int .i64 p_t.LocateTrack.First), (.int .i64 p_t.LocateTrack.Modulus), (.int .i64 p_t.LocateTrack.Slack), (.int .i64 p_t.LocateTrack.Errors), (.bool p_t.LocateTrack.Round)]) ag68 rfl (Box.at hB10)) ?_
  refine T0_q (v := v_p_seen) rfl (yl_move rfl) ?_
  obtain ⟨r16, hr17, h⟩ := bind_elim h
  refine T0_e rfl (eff_call Try.func61 nm61 rfl (ev2 rfl rfl) (locate_track_seen_ok [] _ (LtL.nil _) [v1, (.int .i64 p_t.LocateTrack.Window), (.int .i64 p_t.LocateTrack.Tooth), (.int .i64 p_t.LocateTrack.PerVane), (.int .i64 p_t.LocateTrack.First), (.int .i64 p_t.LocateTrack.Modulus), (.int .i64 p_t.LocateTrack.Slack), (.int .i64 p_t.LocateTrack.Errors), (.bool p_t.LocateTrack.Round)] p_t ⟨v1, ((h2.ext he9).sub (fun _ h => by cases h)), rfl⟩ v_p_seen p_seen ((h_p_seen.ext he9).sub (fun _ h => by cases h)) r16 hr17) ?_)
  rintro _ wd18 ⟨he19, cs20, rfl, hrd21⟩
  have e22 := he9.trans he19
  have e23 := e12.trans he19
  have hrd21 : cs20 = [(.int .i64 r16.e0), (.int .i64 r16.e1), (.int .i64 r16.e2), (.int .i64 r16.e3), (.int .i64 r16.e4), (.int .i64 r16.e5), (.int .i64 r16.e6), (.int .i64 r16.e7), (.int .i64 r16.e8), (.int .i64 r16.e9), (.int .i64 r16.e10), (.int .i64 r16.e11)] := hrd21
  subst hrd21
  refine T0_e rfl (eff_allocZ zi99 ?_)
  intro b24 wd25 hb26 he27 hB28
  have hn29 : b24 ≠ b6 := box_ne (hB10.ext he19) hb26
  have hbf30 := bfresh e23 hb26
  have h31 := (h2.ext e22).step (add_box he27 hb26)
  have h32 := (h_p_seen.ext e22).step (add_box he27 hb26)
  have e33 := he19.trans he27
  have e34 := e23.trans he27
  refine T0_e rfl (eff_storeC (vs := [(.int .i64 r16.e0), (.int .i64 r16.e1), (.int .i64 r16.e2), (.int .i64 r16.e3), (.int .i64 r16.e4), (.int .i64 r16.e5), (.int .i64 r16.e6), (.int .i64 r16.e7), (.int .i64 r16.e8), (.int .i64 r16.e9), (.int .i64 r16.e10), (.int .i64 r16.e11)]) (cs' := [(.int .i64 r16.e0), (.int .i64 r16.e1), (.int .i64 r16.e2), (.int .i64 r16.e3), (.int .i64 r16.e4), (.int .i64 r16.e5), (.int .i64 r16.e6), (.int .i64 r16.e7), (.int .i64 r16.e8), (.int .i64 r16.e9), (.int .i64 r16.e10), (.int .i64 r16.e11)]) sz99 rfl rfl rfl rfl hB28 rfl (oc_cons rfl (oc_cons rfl (oc_cons rfl (oc_cons rfl (oc_cons rfl (oc_cons rfl (oc_cons rfl (oc_cons rfl (oc_cons rfl (oc_cons rfl (oc_cons rfl (oc_cons rfl oc_nil)))))))))))) rfl ?_)
  intro wd36 hc37 hB38
  have h39 := h31.step (Stepp.chg_mem hc37 mem0)
  have h40 := h32.step (Stepp.chg_mem hc37 mem0)
  have h41 := (hB10.ext e33).chg hc37 (avoidb hn29)
  have e42 := chg_box e34 hc37 hbf30
  refine T0_nil ?_
  refine hK15 _ _ ?_
  refine WC_seqK fun K43 hK43 => ?_
  refine WC_seqK fun K44 hK44 => ?_
  refine WC_region ?_
  refine T0_q (v := (.agg (List.toArray [v1, (.int .i64 p_t.LocateTrack.Window), (.int .i64 p_t.LocateTrack.Tooth), (.int .i64 p_t.LocateTrack.PerVane), (.int .i64 p_t.LocateTrack.First), (.int .i64 p_t.LocateTrack.Modulus), (.int .i64 p_t.LocateTrack.Slack), (.int .i64 p_t.LocateTrack.Errors), (.bool p_t.LocateTrack.Round)]))) rfl (yl_loadA (cs := [v1, (.int .i64 p_t.LocateTrack.Window), (.int .i64 p_t.LocateTrack.Tooth), (.int .i64 p_t.LocateTrack.PerVane), (.int .i64 p_t.LocateTrack.First), (.int .i64 p_t.LocateTrack.Modulus), (.int .i64 p_t.LocateTrack.Slack), (.int .i64 p_t.LocateTrack.Errors), (.bool p_t.LocateTrack.Round)]) ag68 rfl (Box.at h41)) ?_
  obtain ⟨r45, hr46, h⟩ := bind_elim h
  refine T0_e rfl (eff_call Try.func46 nm46 rfl (ev1 rfl) (locate_track_windows_ok [] _ (LtL.nil _) [v1, (.int .i64 p_t.LocateTrack.Window), (.int .i64 p_t.LocateTrack.Tooth), (.int .i64 p_t.LocateTrack.PerVane), (.int .i64 p_t.LocateTrack.First), (.int .i64 p_t.LocateTrack.Modulus), (.int .i64 p_t.LocateTrack.Slack), (.int .i64 p_t.LocateTrack.Errors), (.bool p_t.LocateTrack.Round)] p_t ⟨v1, (h39.sub (fun _ h => by cases h)), rfl⟩ r45 hr46) ?_)
  rintro _ wd47 ⟨he48, rfl⟩
  have e49 := e42.trans he48
  refine T0_q (v := (.int .i64 0)) rfl (yl_move rfl) ?_
  refine T0_nil ?_
  refine hK44 _ _ ?_
  have h277 := (h39.ext he48).step (add_nil _)
  have h278 := (h40.ext he48).step (add_nil _)
  have h280 : Own 3 ((.slice none 0 0) :: (.pointer (some ⟨b24, 0, none⟩)) :: L) wd47 (.slice none 0 0) ([] : List Int) := Own.nil _ _ _
  obtain ⟨o291, hl292, hn293⟩ := bind_elim h
  refine WC_post (fun (ρ : Env) (wd282 : World) => ∃ (x286 : (List Int)) (v285 : Value), x286 = o291 ∧ ρ 5 = v285 ∧ Own 3 (v285 :: L) wd282 v285 x286 ∧ (∀ b, blk v285 = some b → w.heap.size ≤ b) ∧ Ext w wd282) ?_ ?_
  · intro K297 hK297
    refine WC_block ?_
    refine WC_loopk (fun sv ρ wd256 => ∃ (x261 : (List Int)) (x268 : Int) (v260 : Value), (x261, x268) = sv ∧ ρ 2 = (.pointer (some ⟨b6, 0, none⟩)) ∧ ρ 5 = v260 ∧ ρ 6 = (.pointer (some ⟨b24, 0, none⟩)) ∧ ρ 12 = (.int .i64 r45) ∧ ρ 13 = (.int .i64 x268) ∧ SlRd (v260 :: (.pointer (some ⟨b24, 0, none⟩)) :: L) wd256 v1 p_t.LocateTrack.Vanes ∧ Box wd256 b24 [(.int .i64 r16.e0), (.int .i64 r16.e1), (.int .i64 r16.e2), (.int .i64 r16.e3), (.int .i64 r16.e4), (.int .i64 r16.e5), (.int .i64 r16.e6), (.int .i64 r16.e7), (.int .i64 r16.e8), (.int .i64 r16.e9), (.int .i64 r16.e10), (.int .i64 r16.e11)] 99 ∧ Box wd256 b6 [v1, (.int .i64 p_t.LocateTrack.Window), (.int .i64 p_t.LocateTrack.Tooth), (.int .i64 p_t.LocateTrack.PerVane), (.int .i64 p_t.LocateTrack.First), (.int .i64 p_t.LocateTrack.Modulus), (.int .i64 p_t.LocateTrack.Slack), (.int .i64 p_t.LocateTrack.Errors), (.bool p_t.LocateTrack.Round)] 68 ∧ Own 3 (v260 :: (.pointer (some ⟨b24, 0, none⟩)) :: L) wd256 v260 x261 ∧ (∀ b, blk v260 = some b → w.heap.size ≤ b) ∧ (blk v260 ≠ some b24) ∧ (blk v260 ≠ some b6) ∧ Ext w wd256) hl292 ⟨([] : List Int), 0, (.slice none 0 0), rfl, rfl, rfl, rfl, rfl, rfl, h277, (hB38.ext he48), (h41.ext he48), h280, (fun b h => blk_nil b h), (fun h => by cases h), (fun h => by cases h), e49⟩ ?_
    rintro _ ρ wd256 ⟨x261, x268, v260, rfl, hs258, hs265, hs266, hs267, hs269, h272, hB271, hB274, h263, hf264, hn275, hn276, e257⟩ x294 h hx295 K296 hK296
    refine WC_seqK fun K299 hK299 => ?_
    refine WC_region ?_
    refine T0_q (v := (.bool (decide (x268 < r45)))) rfl (yl_lss hs269 hs267) ?_
    refine T0_nil ?_
    refine hK299 _ _ ?_
    refine WC_seqK fun K300 hK300 => ?_
    refine WC_cond (b := (decide (x268 < r45))) rfl (fun hb301 => ?_) (fun hb301 => ?_)
    · replace h := cond_t hb301 h
      refine WC_skip ?_
      refine hK300 _ _ ?_
      refine WC_seqK fun K302 hK302 => ?_
      refine WC_block ?_
      refine WC_seqK fun K303 hK303 => ?_
      refine WC_region ?_
      refine T0_q (v := (.int .i64 x268)) rfl (yl_move hs269) ?_
      refine T0_q (v := (.int .i64 x268)) rfl (yl_assign rfl) ?_
      refine T0_nil ?_
      refine hK303 _ _ ?_
      refine WC_seqK fun K304 hK304 => ?_
      refine WC_plan mixed (.p 1 (.p 5 (.p 6 (.q 0 (.q 3 (.q 7 (.e 2 (.e 4 (.p 8 .done))))))))) (by kernel_rfl) ?_
      intro wd305 he306
      have e307 := e257.trans he306
      refine TP_p (v := (.int .i64 x268)) rfl rfl (fun w' => (yl_move rfl)) ?_
      refine TP_p (v := (.pointer (some ⟨b6, 0, none⟩))) rfl rfl (fun w' => (yl_fa 0 Try.underlying68 rfl rfl ⟨8, sz24⟩ hs258 rfl)) ?_
      refine TP_p (v := (.pointer (some ⟨b6, 7, none⟩))) rfl rfl (fun w' => (yl_fa 7 Try.underlying24 rfl rfl ⟨0, sz3⟩ rfl rfl)) ?_
      refine TP_q (v := (.agg (List.toArray [v1, (.int .i64 p_t.LocateTrack.Window), (.int .i64 p_t.LocateTrack.Tooth), (.int .i64 p_t.LocateTrack.PerVane), (.int .i64 p_t.LocateTrack.First), (.int .i64 p_t.LocateTrack.Modulus), (.int .i64 p_t.LocateTrack.Slack), (.int .i64 p_t.LocateTrack.Errors), (.bool p_t.LocateTrack.Round)]))) rfl rfl (fun w' hS => (yl_loadA (cs := [v1, (.int .i64 p_t.LocateTrack.Window), (.int .i64 p_t.LocateTrack.Tooth), (.int .i64 p_t.LocateTrack.PerVane), (.int .i64 p_t.LocateTrack.First), (.int .i64 p_t.LocateTrack.Modulus), (.int .i64 p_t.LocateTrack.Slack), (.int .i64 p_t.LocateTrack.Errors), (.bool p_t.LocateTrack.Round)]) ag68 hs258 (Box.at (hB274.ext ((he306).trans hS))))) ?_
      refine TP_q (v := (.agg (List.toArray [(.int .i64 r16.e0), (.int .i64 r16.e1), (.int .i64 r16.e2), (.int .i64 r16.e3), (.int .i64 r16.e4), (.int .i64 r16.e5), (.int .i64 r16.e6), (.int .i64 r16.e7), (.int .i64 r16.e8), (.int .i64 r16.e9), (.int .i64 r16.e10), (.int .i64 r16.e11)]))) rfl rfl (fun w' hS => (yl_loadA (cs := [(.int .i64 r16.e0), (.int .i64 r16.e1), (.int .i64 r16.e2), (.int .i64 r16.e3), (.int .i64 r16.e4), (.int .i64 r16.e5), (.int .i64 r16.e6), (.int .i64 r16.e7), (.int .i64 r16.e8), (.int .i64 r16.e9), (.int .i64 r16.e10), (.int .i64 r16.e11)]) ag99 hs266 (Box.at (hB271.ext ((he306).trans hS))))) ?_
      refine TP_q (v := (.int .i64 p_t.LocateTrack.Errors)) rfl rfl (fun w' hS => (yl_load sc3 rfl (At.drop (Box.at (hB274.ext ((he306).trans hS))) 7))) ?_
      obtain ⟨r308, hr309, h⟩ := bind_elim h
      refine TP_e rfl rfl (eff_call Try.func62 nm62 rfl (ev2 rfl rfl) (locate_track_at_ok [] _ (LtL.nil _) [v1, (.int .i64 p_t.LocateTrack.Window), (.int .i64 p_t.LocateTrack.Tooth), (.int .i64 p_t.LocateTrack.PerVane), (.int .i64 p_t.LocateTrack.First), (.int .i64 p_t.LocateTrack.Modulus), (.int .i64 p_t.LocateTrack.Slack), (.int .i64 p_t.LocateTrack.Errors), (.bool p_t.LocateTrack.Round)] p_t ⟨v1, ((h272.ext he306).sub (fun _ h => by cases h)), rfl⟩ x268 r308 hr309) ?_)
      rintro _ wd310 ⟨he311, cs312, rfl, hrd313⟩
      have e314 := he306.trans he311
      have e315 := e307.trans he311
      have hrd313 : cs312 = [(.int .i64 r308.e0), (.int .i64 r308.e1), (.int .i64 r308.e2), (.int .i64 r308.e3), (.int .i64 r308.e4), (.int .i64 r308.e5), (.int .i64 r308.e6), (.int .i64 r308.e7), (.int .i64 r308.e8), (.int .i64 r308.e9), (.int .i64 r308.e10), (.int .i64 r308.e11)] := hrd313
      subst hrd313
      refine ⟨he311, ?_⟩
      obtain ⟨r316, hr317, h⟩ := bind_elim h
      refine TP_e rfl rfl (eff_call Try.func63 nm63 rfl (ev2 rfl rfl) (locate_window_differ_ok [] _ (LtL.nil _) [(.int .i64 r308.e0), (.int .i64 r308.e1), (.int .i64 r308.e2), (.int .i64 r308.e3), (.int .i64 r308.e4), (.int .i64 r308.e5), (.int .i64 r308.e6), (.int .i64 r308.e7), (.int .i64 r308.e8), (.int .i64 r308.e9), (.int .i64 r308.e10), (.int .i64 r308.e11)] r308 rfl [(.int .i64 r16.e0), (.int .i64 r16.e1), (.int .i64 r16.e2), (.int .i64 r16.e3), (.int .i64 r16.e4), (.int .i64 r16.e5), (.int .i64 r16.e6), (.int .i64 r16.e7), (.int .i64 r16.e8), (.int .i64 r16.e9), (.int .i64 r16.e10), (.int .i64 r16.e11)] r16 rfl r316 hr317) ?_)
      rintro _ wd318 ⟨he319, rfl⟩
      have e320 := e314.trans he319
      have e321 := he311.trans he319
      have e322 := e315.trans he319
      refine ⟨e321, ?_⟩
      refine TP_p (v := (.bool (decide (r316 ≤ p_t.LocateTrack.Errors)))) rfl rfl (fun w' => (yl_leq rfl rfl)) ?_
      refine TP_done ?_
      refine hK304 _ _ ?_
      refine WC_cond (b := (decide (r316 ≤ p_t.LocateTrack.Errors))) rfl (fun hb323 => ?_) (fun hb323 => ?_)
      · replace h := cond_t hb323 h
        refine WC_region ?_
        refine T0_q (v := v260) rfl (yl_move hs265) ?_
        refine T0_q (v := (.int .i64 x268)) rfl (yl_move rfl) ?_
        refine T0_e rfl (eff_buildTC (xs := ([x268] : List Int)) (cells := [(.int .i64 x268)]) Try.underlying22 ei3 rfl (pc_cons rfl rfl pc_nil) rfl (Elems.cons (cs := [(.int .i64 x268)]) rfl Elems.nil) rfl (ltl_own (ltl_box (hL.chg e322) (hB271.ext e320)) (h263.ext e320)) ?_)
        intro b327 wd324 he325 h326
        have e328 := e320.trans he325
        have e329 := e322.trans he325
        obtain ⟨zs331, hz332, h⟩ := bind_elim h
        refine T0_e rfl (eff_app Try.underlying22 ei3 rfl rfl rfl rfl (h263.ext e328) h326 hz332 ?_)
        intro v333 wd334 hc335 hbl336 h337
        have hn339 : blk v333 ≠ some b24 := ne_swap hbl336 hn275 (hB271.ext e328)
        have hn340 : blk v333 ≠ some b6 := ne_swap hbl336 hn276 (hB274.ext e328)
        have hf341 := fresh_swap hbl336 hf264 e329.size
        have h342 := (hB271.ext e328).chg hc335 (avoid1 hn275)
        have h343 := (h272.ext e328).step (Stepp.swap hc335 hbl336)
        have h344 := (hB274.ext e328).chg hc335 (avoid1 hn276)
        have h345 := h326.step (Stepp.swap hc335 hbl336)
        have e346 := chg_own e329 hc335 hf264
        refine T0_q (v := v333) rfl (yl_assign rfl) ?_
        refine T0_nil ?_
        refine hK302 _ _ ?_
        refine WC_region ?_
        refine T0_q (v := (.int .i64 (w64 (x268 + 1)))) rfl (yl_add hs269 rfl) ?_
        refine T0_q (v := (.int .i64 (w64 (x268 + 1)))) rfl (yl_move rfl) ?_
        refine T0_nil ?_
        replace h := some_out h
        subst h
        refine hK296 _ _ _ rfl ?_
        exact ⟨zs331, w64 (x268 + 1), v333, rfl, hs258, rfl, hs266, hs267, rfl, h343, h342, h344, h337, hf341, hn339, hn340, e346⟩
      · replace h := cond_f hb323 h
        refine WC_skip ?_
        refine hK302 _ _ ?_
        refine WC_region ?_
        refine T0_q (v := (.int .i64 (w64 (x268 + 1)))) rfl (yl_add hs269 rfl) ?_
        refine T0_q (v := (.int .i64 (w64 (x268 + 1)))) rfl (yl_move rfl) ?_
        refine T0_nil ?_
        replace h := some_out h
        subst h
        refine hK296 _ _ _ rfl ?_
        exact ⟨x261, w64 (x268 + 1), v260, rfl, hs258, hs265, hs266, hs267, rfl, (h272.ext e320), (hB271.ext e320), (hB274.ext e320), (h263.ext e320), hf264, hn275, hn276, e322⟩
    · replace h := cond_f hb301 h
      refine WC_exit ?_
      replace h := some_out h
      subst h
      have ho := hx295 _ rfl
      subst ho
      refine hK297 _ _ ?_
      exact ⟨x261, v260, rfl, hs265, (h263.sub (sub_cons mem0 (sub_skip (sub_skip (sub_refl _))))), hf264, e257⟩
  · rintro ρ wd282 ⟨x286, v285, rfl, hs290, h288, hf289, e283⟩
    replace h := hn293
    refine hK43 _ _ ?_
    refine WC_seqK fun K348 hK348 => ?_
    refine WC_region ?_
    refine T0_q (v := v285) rfl (yl_move hs290) ?_
    refine T0_q (v := v285) rfl (yl_assign rfl) ?_
    refine T0_nil ?_
    refine hK348 _ _ ?_
    refine WC_ret ?_
    replace h := some_out h
    subst h
    exact ⟨[v285], ⟨rfl, trivial⟩, e283, v285, rfl, (h288.rdL (sub_skip (sub_refl _)) hL hf289)⟩

noncomputable def locate_CheckTrack_1_spec (p_n : Int) : Option Bool :=
  (Option.bind (locate_isBit_spec p_n) fun r3 =>
  some (!r3)
  )
theorem locate_CheckTrack_1_ok (L : List Value) (w : World) (hL : LtL L w) (p_n : Int) (r : Bool) (h : locate_CheckTrack_1_spec p_n = some r) :
    CallsTo Try.prog 56 [(.int .i64 p_n)] w (fun v w' => Ext w w' ∧ (.bool r) = v) := by
  have e0 : Ext w w := Chg.refl _ _
  refine callsTo_of_WC (n := 6) (rs := [.tmp 2]) Try.func56 rfl rfl rfl rfl rfl ?_
  refine WC_seqK fun K1 hK1 => ?_
  refine WC_region ?_
  refine T0_q (v := (.bool false)) rfl (yl_assign rfl) ?_
  refine T0_nil ?_
  refine hK1 _ _ ?_
  refine WC_seqK fun K2 hK2 => ?_
  refine WC_region ?_
  refine T0_q (v := (.int .i64 p_n)) rfl (yl_move rfl) ?_
  obtain ⟨r3, hr4, h⟩ := bind_elim h
  refine T0_e rfl (eff_call Try.func57 nm57 rfl (ev1 rfl) (locate_isBit_ok [] _ (LtL.nil _) p_n r3 hr4) ?_)
  rintro _ wd5 ⟨he6, rfl⟩
  have e7 := e0.trans he6
  refine T0_q (v := (.bool (!r3))) rfl (yl_not rfl) ?_
  refine T0_q (v := (.bool (!r3))) rfl (yl_assign rfl) ?_
  refine T0_nil ?_
  refine hK2 _ _ ?_
  refine WC_ret ?_
  replace h := some_out h
  subst h
  exact ⟨[(.bool (!r3))], ⟨rfl, trivial⟩, e7, rfl⟩

noncomputable def locate_openSeen_1_spec (p_n : Int) : Option Bool :=
  (Option.bind (locate_isSeen_spec p_n) fun r3 =>
  some (!r3)
  )
theorem locate_openSeen_1_ok (L : List Value) (w : World) (hL : LtL L w) (p_n : Int) (r : Bool) (h : locate_openSeen_1_spec p_n = some r) :
    CallsTo Try.prog 59 [(.int .i64 p_n)] w (fun v w' => Ext w w' ∧ (.bool r) = v) := by
  have e0 : Ext w w := Chg.refl _ _
  refine callsTo_of_WC (n := 6) (rs := [.tmp 2]) Try.func59 rfl rfl rfl rfl rfl ?_
  refine WC_seqK fun K1 hK1 => ?_
  refine WC_region ?_
  refine T0_q (v := (.bool false)) rfl (yl_assign rfl) ?_
  refine T0_nil ?_
  refine hK1 _ _ ?_
  refine WC_seqK fun K2 hK2 => ?_
  refine WC_region ?_
  refine T0_q (v := (.int .i64 p_n)) rfl (yl_move rfl) ?_
  obtain ⟨r3, hr4, h⟩ := bind_elim h
  refine T0_e rfl (eff_call Try.func60 nm60 rfl (ev1 rfl) (locate_isSeen_ok [] _ (LtL.nil _) p_n r3 hr4) ?_)
  rintro _ wd5 ⟨he6, rfl⟩
  have e7 := e0.trans he6
  refine T0_q (v := (.bool (!r3))) rfl (yl_not rfl) ?_
  refine T0_q (v := (.bool (!r3))) rfl (yl_assign rfl) ?_
  refine T0_nil ?_
  refine hK2 _ _ ?_
  refine WC_ret ?_
  replace h := some_out h
  subst h
  exact ⟨[(.bool (!r3))], ⟨rfl, trivial⟩, e7, rfl⟩

noncomputable def slices_IndexFunc_int_56_s0 (p_s : (List Int)) : (Int) → Option ((Int) ⊕ (Int ⊕ (Unit))) := fun x91 =>
  (bif (decide (x91 < (p_s.length : Int))) then (
    (Option.bind (idx p_s x91) fun el109 =>
    (Option.bind (locate_CheckTrack_1_spec el109) fun r115 =>
    (bif r115 then (
      some (.inr (.inl x91))
    ) else (
      some (.inl (w64 (x91 + 1)))
    ))
    )
    )
  ) else (
    some (.inr (.inr ()))
  ))
noncomputable def slices_IndexFunc_int_56_spec (p_s : (List Int)) : Option Int :=
  (Option.bind (loop (slices_IndexFunc_int_56_s0 p_s) 0) fun o95 => jn0 o95 fun (_ : Unit) =>
  some (-1)
  )
theorem slices_IndexFunc_int_56_ok (L : List Value) (w : World) (hL : LtL L w) (v_p_s : Value) (p_s : (List Int)) (h_p_s : SlRd L w v_p_s p_s) (r : Int) (h : slices_IndexFunc_int_56_spec p_s = some r) :
    CallsTo Try.prog 55 [v_p_s, (.func (.func 56) #[] #[])] w (fun v w' => Ext w w' ∧ (.int .i64 r) = v) := by
  have e0 : Ext w w := Chg.refl _ _
  refine callsTo_of_WC (n := 19) (rs := [.tmp 4]) Try.func55 rfl rfl rfl rfl rfl ?_
  refine WC_seqK fun K2 hK2 => ?_
  refine WC_region ?_
  refine T0_q (v := (.int .i64 0)) rfl (yl_assign rfl) ?_
  refine T0_nil ?_
  refine hK2 _ _ ?_
  refine WC_seqK fun K3 hK3 => ?_
  refine WC_seqK fun K4 hK4 => ?_
  refine WC_region ?_
  refine T0_q (v := v_p_s) rfl (yl_move rfl) ?_
  refine T0_q (v := (.int .i64 (p_s.length : Int))) rfl (yl_lenR rfl Try.underlying22 h_p_s rfl) ?_
  refine T0_q (v := (.int .i64 0)) rfl (yl_move rfl) ?_
  refine T0_nil ?_
  refine hK4 _ _ ?_
  obtain ⟨o95, hl96, hn97⟩ := bind_elim h
  refine WC_post (fun (ρ : Env) (wd93 : World) => .inr () = o95 ∧ Ext w wd93) ?_ ?_
  · intro K101 hK101
    refine WC_block ?_
    refine WC_loopk (fun sv ρ wd85 => ∃ (x91 : Int), x91 = sv ∧ ρ 0 = v_p_s ∧ ρ 1 = (.func (.func 56) #[] #[]) ∧ ρ 7 = (.int .i64 (p_s.length : Int)) ∧ ρ 8 = (.int .i64 x91) ∧ SlRd L wd85 v_p_s p_s ∧ Ext w wd85) hl96 ⟨0, rfl, rfl, rfl, rfl, rfl, h_p_s, e0⟩ ?_
    rintro _ ρ wd85 ⟨x91, rfl, hs88, hs89, hs90, hs92, h87, e86⟩ x98 h hx99 K100 hK100
    refine WC_seqK fun K103 hK103 => ?_
    refine WC_region ?_
    refine T0_q (v := (.bool (decide (x91 < (p_s.length : Int))))) rfl (yl_lss hs92 hs90) ?_
    refine T0_nil ?_
    refine hK103 _ _ ?_
    refine WC_seqK fun K104 hK104 => ?_
    refine WC_cond (b := (decide (x91 < (p_s.length : Int)))) rfl (fun hb105 => ?_) (fun hb105 => ?_)
    · replace h := cond_t hb105 h
      refine WC_skip ?_
      refine hK104 _ _ ?_
      refine WC_seqK fun K106 hK106 => ?_
      refine WC_block ?_
      refine WC_seqK fun K107 hK107 => ?_
      refine WC_region ?_
      refine T0_q (v := (.int .i64 x91)) rfl (yl_move hs92) ?_
      refine T0_q (v := (.int .i64 x91)) rfl (yl_assign rfl) ?_
      refine T0_nil ?_
      refine hK107 _ _ ?_
      refine WC_seqK fun K108 hK108 => ?_
      refine WC_region ?_
      refine T0_q (v := (.func (.func 56) #[] #[])) rfl (yl_move hs89) ?_
      refine T0_q (v := v_p_s) rfl (yl_move hs88) ?_
      refine T0_q (v := (.int .i64 x91)) rfl (yl_move rfl) ?_
      obtain ⟨el109, hel110, h⟩ := bind_elim h
      obtain ⟨cs111, hat112, hrd113⟩ := SlRd.at h87 hel110
      have hrd113 : cs111 = [(.int .i64 el109)] := hrd113
      subst hrd113
      refine T0_q (v := (.pointer (some (elemAddr v_p_s (x91 : Int).toNat 1)))) rfl (yl_indexAddr Try.underlying22 sz3 h87 hel110 rfl rfl) ?_
      refine T0_q (v := (.int .i64 el109)) rfl (yl_load sc3 rfl hat112) ?_
      obtain ⟨r115, hr116, h⟩ := bind_elim h
      refine T0_e rfl (eff_callV rfl Try.func56 nm56 rfl (ev1 rfl) (locate_CheckTrack_1_ok [] _ (LtL.nil _) el109 r115 hr116) ?_)
      rintro _ wd117 ⟨he118, rfl⟩
      have e119 := e86.trans he118
      refine T0_nil ?_
      refine hK108 _ _ ?_
      refine WC_cond (b := r115) rfl (fun hb120 => ?_) (fun hb120 => ?_)
      · replace h := cond_t hb120 h
        refine WC_seqK fun K121 hK121 => ?_
        refine WC_region ?_
        refine T0_q (v := (.int .i64 x91)) rfl (yl_move rfl) ?_
        refine T0_q (v := (.int .i64 x91)) rfl (yl_assign rfl) ?_
        refine T0_nil ?_
        refine hK121 _ _ ?_
        refine WC_ret ?_
        replace h := some_out h
        subst h
        have ho := hx99 _ rfl
        subst ho
        replace h := jn0_inl hn97
        replace h := some_out h
        subst h
        exact ⟨[(.int .i64 x91)], ⟨rfl, trivial⟩, e119, rfl⟩
      · replace h := cond_f hb120 h
        refine WC_skip ?_
        refine hK106 _ _ ?_
        refine WC_region ?_
        refine T0_q (v := (.int .i64 (w64 (x91 + 1)))) rfl (yl_add hs92 rfl) ?_
        refine T0_q (v := (.int .i64 (w64 (x91 + 1)))) rfl (yl_move rfl) ?_
        refine T0_nil ?_
        replace h := some_out h
        subst h
        refine hK100 _ _ _ rfl ?_
        exact ⟨w64 (x91 + 1), rfl, hs88, hs89, hs90, rfl, (h87.ext he118), e119⟩
    · replace h := cond_f hb105 h
      refine WC_exit ?_
      replace h := some_out h
      subst h
      have ho := hx99 _ rfl
      subst ho
      refine hK101 _ _ ?_
      exact ⟨rfl, e86⟩
  · rintro ρ wd93 ⟨rfl, e94⟩
    replace h := jn0_inr hn97
    refine hK3 _ _ ?_
    refine WC_seqK fun K122 hK122 => ?_
    refine WC_region ?_
    refine T0_q (v := (.int .i64 (-1))) rfl (yl_assign rfl) ?_
    refine T0_nil ?_
    refine hK122 _ _ ?_
    refine WC_ret ?_
    replace h := some_out h
    subst h
    exact ⟨[(.int .i64 (-1))], ⟨rfl, trivial⟩, e94, rfl⟩

noncomputable def ref04_ToothErr_spec (p_t : LocateTrack) (p_i : Int) : Option Int :=
  (Option.bind (ref04_TeethOf_spec p_t) fun r15 =>
  (Option.bind (base_Within_spec p_i 0 (w64 (r15 - 1))) fun r21 =>
  (bif (!r21) then (
    some 6
  ) else (
    some 0
  ))
  )
  )
theorem ref04_ToothErr_ok (L : List Value) (w : World) (hL : LtL L w) (cs_p_t : List Value) (p_t : LocateTrack) (h_p_t : Rep.rd L w cs_p_t p_t) (p_i : Int) (r : Int) (h : ref04_ToothErr_spec p_t p_i = some r) :
    CallsTo Try.prog 8 [(.agg cs_p_t.toArray), (.int .i64 p_i)] w (fun v w' => Ext w w' ∧ (.int .i64 r) = v) := by
  have e0 : Ext w w := Chg.refl _ _
  obtain ⟨v1, h2, rfl⟩ := h_p_t
  refine callsTo_of_WC (n := 11) (rs := [.tmp 4]) Try.func8 rfl rfl rfl rfl rfl ?_
  refine WC_seqK fun K4 hK4 => ?_
  refine WC_region ?_
  refine T0_e rfl (eff_boxC (cs := [v1, (.int .i64 p_t.Window), (.int .i64 p_t.Tooth), (.int .i64 p_t.PerVane), (.int .i64 p_t.First), (.int .i64 p_t.Modulus), (.int .i64 p_t.Slack), (.int .i64 p_t.Errors), (.bool p_t.Round)]) rfl rfl ?_)
  intro b5 wd6 hb7 he8 hB9
  have hbf10 := bfresh e0 hb7
  have e11 := e0.trans he8
  refine T0_q (v := (.int .i64 0)) rfl (yl_assign rfl) ?_
  refine T0_nil ?_
  refine hK4 _ _ ?_
  refine WC_seqK fun K13 hK13 => ?_
  refine WC_seqK fun K14 hK14 => ?_
  refine WC_region ?_
  refine T0_q (v := (.int .i64 p_i)) rfl (yl_move rfl) ?_
  refine T0_q (v := (.agg (List.toArray [v1, (.int .i64 p_t.Window), (.int .i64 p_t.Tooth), (.int .i64 p_t.PerVane), (.int .i64 p_t.First), (.int .i64 p_t.Modulus), (.int .i64 p_t.Slack), (.int .i64 p_t.Errors), (.bool p_t.Round)]))) rfl (yl_loadA (cs := [v1, (.int .i64 p_t.Window), (.int .i64 p_t.Tooth), (.int .i64 p_t.PerVane), (.int .i64 p_t.First), (.int .i64 p_t.Modulus), (.int .i64 p_t.Slack), (.int .i64 p_t.Errors), (.bool p_t.Round)]) ag24 rfl (Box.at hB9)) ?_
  obtain ⟨r15, hr16, h⟩ := bind_elim h
  refine T0_e rfl (eff_call Try.func25 nm25 rfl (ev1 rfl) (ref04_TeethOf_ok [] _ (LtL.nil _) [v1, (.int .i64 p_t.Window), (.int .i64 p_t.Tooth), (.int .i64 p_t.PerVane), (.int .i64 p_t.First), (.int .i64 p_t.Modulus), (.int .i64 p_t.Slack), (.int .i64 p_t.Errors), (.bool p_t.Round)] p_t ⟨v1, ((h2.ext he8).sub (fun _ h => by cases h)), rfl⟩ r15 hr16) ?_)
  rintro _ wd17 ⟨he18, rfl⟩
  have e19 := he8.trans he18
  have e20 := e11.trans he18
  refine T0_q (v := (.int .i64 (w64 (r15 - 1)))) rfl (yl_sub rfl rfl) ?_
  obtain ⟨r21, hr22, h⟩ := bind_elim h
  refine T0_e rfl (eff_call Try.func7 nm7 rfl (ev3 rfl rfl rfl) (base_Within_ok [] _ (LtL.nil _) p_i 0 (w64 (r15 - 1)) r21 hr22) ?_)
  rintro _ wd23 ⟨he24, rfl⟩
  have e25 := e19.trans he24
  have e26 := he18.trans he24
  have e27 := e20.trans he24
  refine T0_q (v := (.bool (!r21))) rfl (yl_not rfl) ?_
  refine T0_nil ?_
  refine hK14 _ _ ?_
  refine WC_cond (b := (!r21)) rfl (fun hb28 => ?_) (fun hb28 => ?_)
  · replace h := cond_t hb28 h
    refine WC_seqK fun K29 hK29 => ?_
    refine WC_region ?_
    refine T0_q (v := (.int .i64 6)) rfl (yl_assign rfl) ?_
    refine T0_nil ?_
    refine hK29 _ _ ?_
    refine WC_ret ?_
    replace h := some_out h
    subst h
    exact ⟨[(.int .i64 6)], ⟨rfl, trivial⟩, e27, rfl⟩
  · replace h := cond_f hb28 h
    refine WC_skip ?_
    refine hK13 _ _ ?_
    refine WC_seqK fun K30 hK30 => ?_
    refine WC_region ?_
    refine T0_q (v := (.int .i64 0)) rfl (yl_assign rfl) ?_
    refine T0_nil ?_
    refine hK30 _ _ ?_
    refine WC_ret ?_
    replace h := some_out h
    subst h
    exact ⟨[(.int .i64 0)], ⟨rfl, trivial⟩, e27, rfl⟩

end Go.Gw
