/- What functions come to, printed by a program of this work. No condition. -/
import Derived.Test.YtgpapebgdnimfaaDoorGwFnC
set_option maxRecDepth 4096
set_option maxHeartbeats 1000000
set_option linter.unusedVariables false
namespace Go.Gw
open Go Go.Proofs
attribute [local irreducible] T0 TS TT TP Eff Stp WC Quiet gd
noncomputable def law04_LocateSteps_s0 (p_Listappend : (List Int)) : ((List Int) × Int) → Option (((List Int) × Int) ⊕ ((List Int))) := fun (x377, x382) =>
  (bif (decide (0 ≤ x382)) then (
    (Option.bind (idx p_Listappend x382) fun el437 =>
    (Option.bind (app x377 ([el437] : List Int)) fun zs449 =>
    some (.inl (zs449, w64 (x382 - 1)))
    )
    )
  ) else (
    some (.inr x377)
  ))
noncomputable def law04_LocateSteps_spec (p_Listappend : (List Int)) (p_String : Int) : Option Bool :=
  (Option.bind (law04_awake_spec) fun r5 =>
  (bif (!r5) then (
    some false
  ) else (
    (bif (decide (202 < (p_Listappend.length : Int))) then (
      some true
    ) else (
      (Option.bind (base_CopyInts_spec p_Listappend) fun r17 =>
      (Option.bind (locate_Counted_spec r17) fun r26 =>
      (Option.bind (ref04_StatesErr_spec p_Listappend) fun r52 =>
      (bif (!decide (r52 = 0)) then (
        some ((decide (r26.2 = r52)) && (decide ((LocateSteps.mk r26.1.Steps r26.1.Skips) = (LocateSteps.mk 0 0))))
      ) else (
        (Option.bind (bif (!(!decide (r26.2 = 0))) then ref04_Counted_spec p_Listappend else some default) fun r66 =>
        (bif ((!decide (r26.2 = 0)) || (!(decide ((LocateSteps.mk r26.1.Steps r26.1.Skips) = r66)))) then (
          some false
        ) else (
          (bif (decide ((p_Listappend.length : Int) = 0)) then (
            some true
          ) else (
            (Option.bind (base_Mod_spec p_String (p_Listappend.length : Int)) fun r81 =>
            (Option.bind (cut p_Listappend 0 (w64 (r81 + 1))) fun ys88 =>
            (Option.bind (base_CopyInts_spec ys88) fun r92 =>
            (Option.bind (locate_Counted_spec r92) fun r101 =>
            (Option.bind (cut p_Listappend r81 (p_Listappend.length : Int)) fun ys133 =>
            (Option.bind (base_CopyInts_spec ys133) fun r137 =>
            (Option.bind (locate_Counted_spec r137) fun r145 =>
            (Option.bind (loop (law04_LocateSteps_s0 p_Listappend) (([] : List Int), w64 ((p_Listappend.length : Int) - 1))) fun (x411 : (List Int)) =>
            (Option.bind (locate_Counted_spec x411) fun r469 =>
            some ((((((decide (r101.2 = 0)) && (decide (r145.2 = 0))) && (decide (r469.2 = 0))) && (decide (w64 (r101.1.Steps + r145.1.Steps) = r26.1.Steps))) && (decide (w64 (r101.1.Skips + r145.1.Skips) = r26.1.Skips))) && (decide ((LocateSteps.mk r469.1.Steps r469.1.Skips) = (LocateSteps.mk (w64 (0 - r26.1.Steps)) r26.1.Skips))))
            )
            )
            )
            )
            )
            )
            )
            )
            )
          ))
        ))
        )
      ))
      )
      )
      )
    ))
  ))
  )
theorem law04_LocateSteps_ok (L : List Value) (w : World) (hL : LtL L w) (hg0 : At w ⟨0, 0, none⟩ [.int .i64 0, .int .i64 1, .int .i64 3, .int .i64 2]) (v_p_Listappend : Value) (p_Listappend : (List Int)) (h_p_Listappend : SlRd L w v_p_Listappend p_Listappend) (p_String : Int) (r : Bool) (h : law04_LocateSteps_spec p_Listappend p_String = some r) :
    CallsTo Tryd.prog 6 [v_p_Listappend, (.int .i64 p_String)] w (fun v w' => Ext w w' ∧ (.bool r) = v) := by
  have e0 : Ext w w := Chg.refl _ _
  refine callsTo_of_WC (n := 131) (rs := [.tmp 4]) Tryd.func6 rfl rfl rfl rfl rfl ?_
  refine WC_seqK fun K2 hK2 => ?_
  refine WC_region ?_
  refine T0_q (v := (.bool false)) rfl (yl_assign rfl) ?_
  refine T0_nil ?_
  refine hK2 _ _ ?_
  refine WC_seqK fun K3 hK3 => ?_
  refine WC_seqK fun K4 hK4 => ?_
  refine WC_region ?_
  obtain ⟨r5, hr6, h⟩ := bind_elim h
  refine T0_e rfl (eff_call Tryd.func18 nm18 rfl ev0 (law04_awake_ok [] _ (LtL.nil _) (hg0.ext e0)  r5 hr6) ?_)
  rintro _ wd7 ⟨he8, rfl⟩
  have e9 := e0.trans he8
  refine T0_q (v := (.bool (!r5))) rfl (yl_not rfl) ?_
  refine T0_nil ?_
  refine hK4 _ _ ?_
  refine WC_cond (b := (!r5)) rfl (fun hb10 => ?_) (fun hb10 => ?_)
  · replace h := cond_t hb10 h
    refine WC_seqK fun K11 hK11 => ?_
    refine WC_region ?_
    refine T0_q (v := (.bool false)) rfl (yl_assign rfl) ?_
    refine T0_nil ?_
    refine hK11 _ _ ?_
    refine WC_ret ?_
    replace h := some_out h
    subst h
    exact ⟨[(.bool false)], ⟨rfl, trivial⟩, e9, rfl⟩
  · replace h := cond_f hb10 h
    refine WC_skip ?_
    refine hK3 _ _ ?_
    refine WC_seqK fun K12 hK12 => ?_
    refine WC_seqK fun K13 hK13 => ?_
    refine WC_region ?_
    refine T0_q (v := v_p_Listappend) rfl (yl_move rfl) ?_
    refine T0_q (v := (.int .i64 (p_Listappend.length : Int))) rfl (yl_lenR rfl Tryd.underlying22 h_p_Listappend rfl) ?_
    refine T0_q (v := (.bool (decide (202 < (p_Listappend.length : Int))))) rfl (yl_gtr rfl rfl) ?_
    refine T0_nil ?_
    refine hK13 _ _ ?_
    refine WC_cond (b := (decide (202 < (p_Listappend.length : Int)))) rfl (fun hb14 => ?_) (fun hb14 => ?_)
    · replace h := cond_t hb14 h
      refine WC_seqK fun K15 hK15 => ?_
      refine WC_region ?_
      refine T0_q (v := (.bool true)) rfl (yl_assign rfl) ?_
      refine T0_nil ?_
      refine hK15 _ _ ?_
      refine WC_ret ?_
      replace h := some_out h
      subst h
      exact ⟨[(.bool true)], ⟨rfl, trivial⟩, e9, rfl⟩
    · replace h := cond_f hb14 h
      refine WC_skip ?_
      refine hK12 _ _ ?_
      refine WC_seqK fun K16 hK16 => ?_
      refine WC_region ?_
      refine T0_q (v := v_p_Listappend) rfl (yl_move rfl) ?_
      obtain ⟨r17, hr18, h⟩ := bind_elim h
      refine T0_e rfl (eff_call Tryd.func30 nm30 rfl (ev1 rfl) (base_CopyInts_ok L _ (hL.chg e9) v_p_Listappend p_Listappend (h_p_Listappend.ext he8) r17 hr18) ?_)
      rintro _ wd19 ⟨he20, v21, rfl, h22⟩
      have e23 := he8.trans he20
      have e24 := e9.trans he20
      obtain ⟨r26, hr27, h⟩ := bind_elim h
      refine T0_e rfl (eff_call Tryd.func36 nm36 rfl (ev1 rfl) (locate_Counted_ok [] _ (LtL.nil _) (hg0.ext e24) v21 r17 (h22.sub (fun _ h => by cases h)) r26 hr27) ?_)
      rintro _ wd28 ⟨he29, cs30, rfl, hrd31⟩
      have e32 := e23.trans he29
      have e33 := e24.trans he29
      have hrd31 : cs30 = [(.int .i64 r26.1.Steps), (.int .i64 r26.1.Skips)] := hrd31
      subst hrd31
      refine T0_q (v := (.tuple #[(.agg (List.toArray [(.int .i64 r26.1.Steps), (.int .i64 r26.1.Skips)])), (.int .i64 r26.2)])) rfl (yl_move rfl) ?_
      refine T0_q (v := (.agg (List.toArray [(.int .i64 r26.1.Steps), (.int .i64 r26.1.Skips)]))) rfl (yl_extract rfl rfl) ?_
      refine T0_q (v := (.int .i64 r26.2)) rfl (yl_extract rfl rfl) ?_
      refine T0_e rfl (eff_allocZ zi62 ?_)
      intro b34 wd35 hb36 he37 hB38
      have hbf39 := bfresh e33 hb36
      have h40 := (h_p_Listappend.ext e32).step (add_box he37 hb36)
      have h41 := (h22.ext he29).step (add_box he37 hb36)
      have e42 := e33.trans he37
      refine T0_e rfl (eff_storeC (vs := [(.int .i64 r26.1.Steps), (.int .i64 r26.1.Skips)]) (cs' := [(.int .i64 r26.1.Steps), (.int .i64 r26.1.Skips)]) sz62 rfl rfl rfl rfl hB38 rfl (oc_cons rfl (oc_cons rfl oc_nil)) rfl ?_)
      intro wd44 hc45 hB46
      have h47 := h40.step (Stepp.chg_mem hc45 mem0)
      have h48 := h41.step (Stepp.chg_mem hc45 mem0)
      have e49 := chg_box e42 hc45 hbf39
      refine T0_q (v := (.int .i64 r26.2)) rfl (yl_assign rfl) ?_
      refine T0_nil ?_
      refine hK16 _ _ ?_
      refine WC_seqK fun K50 hK50 => ?_
      refine WC_seqK fun K51 hK51 => ?_
      refine WC_region ?_
      refine T0_q (v := v_p_Listappend) rfl (yl_move rfl) ?_
      obtain ⟨r52, hr53, h⟩ := bind_elim h
      refine T0_e rfl (eff_call Tryd.func37 nm37 rfl (ev1 rfl) (ref04_StatesErr_ok [] _ (LtL.nil _) v_p_Listappend p_Listappend (h47.sub (fun _ h => by cases h)) r52 hr53) ?_)
      rintro _ wd54 ⟨he55, rfl⟩
      have e56 := e49.trans he55
      refine T0_q (v := (.int .i64 r52)) rfl (yl_assign rfl) ?_
      refine T0_nil ?_
      refine hK51 _ _ ?_
      refine WC_seqK fun K57 hK57 => ?_
      refine WC_region ?_
      refine T0_q (v := (.int .i64 r52)) rfl (yl_move rfl) ?_
      refine T0_q (v := (.bool (!decide (r52 = 0)))) rfl (yl_neq rfl rfl) ?_
      refine T0_nil ?_
      refine hK57 _ _ ?_
      refine WC_cond (b := (!decide (r52 = 0))) rfl (fun hb58 => ?_) (fun hb58 => ?_)
      · replace h := cond_t hb58 h
        refine WC_seqK fun K59 hK59 => ?_
        refine WC_region ?_
        refine T0_q (v := (.int .i64 r26.2)) rfl (yl_move rfl) ?_
        refine T0_q (v := (.int .i64 r52)) rfl (yl_move rfl) ?_
        refine T0_q (v := (.bool (decide (r26.2 = r52)))) rfl (yl_eql rfl rfl) ?_
        refine T0_q (v := (.bool (decide (r26.2 = r52)))) rfl (yl_move rfl) ?_
        refine T0_g (v := (.agg (List.toArray [(.int .i64 r26.1.Steps), (.int .i64 r26.1.Skips)]))) (decide (r26.2 = r52)) (wanted_t rfl rfl rfl rfl) (fun hg => (yl_loadA (cs := [(.int .i64 r26.1.Steps), (.int .i64 r26.1.Skips)]) ag62 rfl (Box.at (hB46.ext he55)))) ?_
        refine T0_g (v := (.agg (List.toArray [(.int .i64 0), (.int .i64 0)]))) (decide (r26.2 = r52)) (wanted_t rfl rfl rfl rfl) (fun hg => (yl_buildC (cells := [(.int .i64 0), (.int .i64 0)]) bi62 pc_nil rfl)) ?_
        refine T0_g (v := (.bool (decide ((LocateSteps.mk r26.1.Steps r26.1.Skips) = (LocateSteps.mk 0 0))))) (decide (r26.2 = r52)) (wanted_t rfl rfl rfl rfl) (fun hg => (yl_eqlS eg62 (gd_true hg) (gd_true hg) (eqs62 (LocateSteps.mk r26.1.Steps r26.1.Skips) (LocateSteps.mk 0 0) _))) ?_
        refine T0_q (v := (.bool ((decide (r26.2 = r52)) && (decide ((LocateSteps.mk r26.1.Steps r26.1.Skips) = (LocateSteps.mk 0 0)))))) rfl (yl_and rfl (fun hb => (gd_true hb)) rfl) ?_
        refine T0_q (v := (.bool ((decide (r26.2 = r52)) && (decide ((LocateSteps.mk r26.1.Steps r26.1.Skips) = (LocateSteps.mk 0 0)))))) rfl (yl_assign rfl) ?_
        refine T0_nil ?_
        refine hK59 _ _ ?_
        refine WC_ret ?_
        replace h := some_out h
        subst h
        exact ⟨[(.bool ((decide (r26.2 = r52)) && (decide ((LocateSteps.mk r26.1.Steps r26.1.Skips) = (LocateSteps.mk 0 0)))))], ⟨rfl, trivial⟩, e56, rfl⟩
      · replace h := cond_f hb58 h
        refine WC_skip ?_
        refine hK50 _ _ ?_
        refine WC_seqK fun K60 hK60 => ?_
        refine WC_seqK fun K61 hK61 => ?_
        refine WC_plan mixed (.p 0 (.p 1 (.p 2 (.p 4 (.q 3 (.e 5 (.p 6 (.p 7 .done)))))))) (by kernel_rfl) ?_
        intro wd62 he63
        have e64 := he55.trans he63
        have e65 := e56.trans he63
        refine TP_p (v := (.int .i64 r26.2)) rfl rfl (fun w' => (yl_move rfl)) ?_
        refine TP_p (v := (.bool (!decide (r26.2 = 0)))) rfl rfl (fun w' => (yl_neq rfl rfl)) ?_
        refine TP_p (v := (.bool (!decide (r26.2 = 0)))) rfl rfl (fun w' => (yl_move rfl)) ?_
        refine TP_gp (v := v_p_Listappend) (!(!decide (r26.2 = 0))) rfl (wanted_f rfl rfl rfl rfl) (fun w' hg => (yl_move rfl)) ?_
        refine TP_gq (v := (.agg (List.toArray [(.int .i64 r26.1.Steps), (.int .i64 r26.1.Skips)]))) (!(!decide (r26.2 = 0))) rfl (wanted_f rfl rfl rfl rfl) (fun w' hS hg => (yl_loadA (cs := [(.int .i64 r26.1.Steps), (.int .i64 r26.1.Skips)]) ag62 rfl (Box.at (hB46.ext ((e64).trans hS))))) ?_
        obtain ⟨r66, hr67, h⟩ := bind_elim h
        refine TP_ges (!(!decide (r26.2 = 0))) (.agg (List.toArray [(.int .i64 r66.Steps), (.int .i64 r66.Skips)])) rfl (wanted_f rfl rfl rfl rfl) (fun hg => eff_call Tryd.func38 nm38 rfl (ev1 (gd_true hg)) (ref04_Counted_ok [] _ (LtL.nil _) v_p_Listappend p_Listappend ((h47.ext e64).sub (fun _ h => by cases h)) r66 (cond_t hg hr67)) (by rintro _ wd68 ⟨he69, cs70, rfl, hrd71⟩; have hrd71 : cs70 = [(.int .i64 r66.Steps), (.int .i64 r66.Skips)] := hrd71; subst hrd71; exact ⟨rfl, he69⟩)) ?_
        intro wd68 he69
        have e72 := e64.trans he69
        have e73 := e65.trans he69
        refine ⟨he69, ?_⟩
        refine TP_gp (v := (.bool (!(decide ((LocateSteps.mk r26.1.Steps r26.1.Skips) = r66))))) (!(!decide (r26.2 = 0))) rfl (wanted_f rfl rfl rfl rfl) (fun w' hg => (yl_neqS eg62 (gd_true hg) (gd_true hg) (eqs62 (LocateSteps.mk r26.1.Steps r26.1.Skips) r66 _))) ?_
        refine TP_p (v := (.bool ((!decide (r26.2 = 0)) || (!(decide ((LocateSteps.mk r26.1.Steps r26.1.Skips) = r66)))))) rfl rfl (fun w' => (yl_or rfl rfl (fun hb => (gd_true (not_t hb))))) ?_
        refine TP_done ?_
        refine hK61 _ _ ?_
        refine WC_cond (b := ((!decide (r26.2 = 0)) || (!(decide ((LocateSteps.mk r26.1.Steps r26.1.Skips) = r66))))) rfl (fun hb74 => ?_) (fun hb74 => ?_)
        · replace h := cond_t hb74 h
          refine WC_seqK fun K75 hK75 => ?_
          refine WC_region ?_
          refine T0_q (v := (.bool false)) rfl (yl_assign rfl) ?_
          refine T0_nil ?_
          refine hK75 _ _ ?_
          refine WC_ret ?_
          replace h := some_out h
          subst h
          exact ⟨[(.bool false)], ⟨rfl, trivial⟩, e73, rfl⟩
        · replace h := cond_f hb74 h
          refine WC_skip ?_
          refine hK60 _ _ ?_
          refine WC_seqK fun K76 hK76 => ?_
          refine WC_seqK fun K77 hK77 => ?_
          refine WC_region ?_
          refine T0_q (v := v_p_Listappend) rfl (yl_move rfl) ?_
          refine T0_q (v := (.int .i64 (p_Listappend.length : Int))) rfl (yl_lenR rfl Tryd.underlying22 h47 rfl) ?_
          refine T0_q (v := (.bool (decide ((p_Listappend.length : Int) = 0)))) rfl (yl_eql rfl rfl) ?_
          refine T0_nil ?_
          refine hK77 _ _ ?_
          refine WC_cond (b := (decide ((p_Listappend.length : Int) = 0))) rfl (fun hb78 => ?_) (fun hb78 => ?_)
          · replace h := cond_t hb78 h
            refine WC_seqK fun K79 hK79 => ?_
            refine WC_region ?_
            refine T0_q (v := (.bool true)) rfl (yl_assign rfl) ?_
            refine T0_nil ?_
            refine hK79 _ _ ?_
            refine WC_ret ?_
            replace h := some_out h
            subst h
            exact ⟨[(.bool true)], ⟨rfl, trivial⟩, e73, rfl⟩
          · replace h := cond_f hb78 h
            refine WC_skip ?_
            refine hK76 _ _ ?_
            refine WC_seqK fun K80 hK80 => ?_
            refine WC_region ?_
            refine T0_q (v := (.int .i64 p_String)) rfl (yl_move rfl) ?_
            refine T0_q (v := v_p_Listappend) rfl (yl_move rfl) ?_
            refine T0_q (v := (.int .i64 (p_Listappend.length : Int))) rfl (yl_lenR rfl Tryd.underlying22 h47 rfl) ?_
            obtain ⟨r81, hr82, h⟩ := bind_elim h
            refine T0_e rfl (eff_call Tryd.func28 nm28 rfl (ev2 rfl rfl) (base_Mod_ok [] _ (LtL.nil _) p_String (p_Listappend.length : Int) r81 hr82) ?_)
            rintro _ wd83 ⟨he84, rfl⟩
            have e85 := e72.trans he84
            have e86 := e73.trans he84
            refine T0_q (v := (.int .i64 r81)) rfl (yl_assign rfl) ?_
            refine T0_nil ?_
            refine hK80 _ _ ?_
            refine WC_seqK fun K87 hK87 => ?_
            refine WC_region ?_
            refine T0_q (v := v_p_Listappend) rfl (yl_move rfl) ?_
            refine T0_q (v := (.int .i64 r81)) rfl (yl_move rfl) ?_
            refine T0_q (v := (.int .i64 (w64 (r81 + 1)))) rfl (yl_add rfl rfl) ?_
            obtain ⟨ys88, hys89, h⟩ := bind_elim h
            have h90 := SlRd.cut h47 hys89
            refine T0_q (v := (cutv v_p_Listappend (0 : Int).toNat (w64 (r81 + 1) : Int).toNat 1)) rfl (yl_cut_h Tryd.underlying22 sz3 h47 hys89 rfl rfl) ?_
            obtain ⟨r92, hr93, h⟩ := bind_elim h
            refine T0_e rfl (eff_call Tryd.func30 nm30 rfl (ev1 rfl) (base_CopyInts_ok ((.pointer (some ⟨b34, 0, none⟩)) :: L) _ (ltl_box (hL.chg e86) (hB46.ext e85)) (cutv v_p_Listappend (0 : Int).toNat (w64 (r81 + 1) : Int).toNat 1) ys88 (h90.ext e85) r92 hr93) ?_)
            rintro _ wd94 ⟨he95, v96, rfl, h97⟩
            have e98 := e85.trans he95
            have e99 := e86.trans he95
            obtain ⟨r101, hr102, h⟩ := bind_elim h
            refine T0_e rfl (eff_call Tryd.func36 nm36 rfl (ev1 rfl) (locate_Counted_ok [] _ (LtL.nil _) (hg0.ext e99) v96 r92 (h97.sub (fun _ h => by cases h)) r101 hr102) ?_)
            rintro _ wd103 ⟨he104, cs105, rfl, hrd106⟩
            have e107 := e98.trans he104
            have e108 := e99.trans he104
            have hrd106 : cs105 = [(.int .i64 r101.1.Steps), (.int .i64 r101.1.Skips)] := hrd106
            subst hrd106
            refine T0_q (v := (.tuple #[(.agg (List.toArray [(.int .i64 r101.1.Steps), (.int .i64 r101.1.Skips)])), (.int .i64 r101.2)])) rfl (yl_move rfl) ?_
            refine T0_q (v := (.agg (List.toArray [(.int .i64 r101.1.Steps), (.int .i64 r101.1.Skips)]))) rfl (yl_extract rfl rfl) ?_
            refine T0_q (v := (.int .i64 r101.2)) rfl (yl_extract rfl rfl) ?_
            refine T0_e rfl (eff_allocZ zi62 ?_)
            intro b109 wd110 hb111 he112 hB113
            have hn114 : b109 ≠ b34 := box_ne (hB46.ext e107) hb111
            have hbf115 := bfresh e108 hb111
            have h116 := (h47.ext e107).step (add_box he112 hb111)
            have h117 := (h48.ext e107).step (add_box he112 hb111)
            have h118 := (h90.ext e107).step (add_box he112 hb111)
            have h119 := (h97.ext he104).step (add_box he112 hb111)
            have e120 := e107.trans he112
            have e121 := e108.trans he112
            refine T0_e rfl (eff_storeC (vs := [(.int .i64 r101.1.Steps), (.int .i64 r101.1.Skips)]) (cs' := [(.int .i64 r101.1.Steps), (.int .i64 r101.1.Skips)]) sz62 rfl rfl rfl rfl hB113 rfl (oc_cons rfl (oc_cons rfl oc_nil)) rfl ?_)
            intro wd123 hc124 hB125
            have h126 := h116.step (Stepp.chg_mem hc124 mem0)
            have h127 := h117.step (Stepp.chg_mem hc124 mem0)
            have h128 := (hB46.ext e120).chg hc124 (avoidb hn114)
            have h129 := h118.step (Stepp.chg_mem hc124 mem0)
            have h130 := h119.step (Stepp.chg_mem hc124 mem0)
            have e131 := chg_box e121 hc124 hbf115
            refine T0_q (v := (.int .i64 r101.2)) rfl (yl_assign rfl) ?_
            refine T0_nil ?_
            refine hK87 _ _ ?_
            refine WC_seqK fun K132 hK132 => ?_
            refine WC_region ?_
            refine T0_q (v := v_p_Listappend) rfl (yl_move rfl) ?_
            refine T0_q (v := (.int .i64 r81)) rfl (yl_move rfl) ?_
            obtain ⟨ys133, hys134, h⟩ := bind_elim h
            have h135 := SlRd.cut h126 hys134
            refine T0_q (v := (cutv v_p_Listappend (r81 : Int).toNat ((p_Listappend.length : Int) : Int).toNat 1)) rfl (yl_cut_l Tryd.underlying22 sz3 h126 hys134 rfl rfl) ?_
            obtain ⟨r137, hr138, h⟩ := bind_elim h
            refine T0_e rfl (eff_call Tryd.func30 nm30 rfl (ev1 rfl) (base_CopyInts_ok ((.pointer (some ⟨b109, 0, none⟩)) :: (.pointer (some ⟨b34, 0, none⟩)) :: L) _ (ltl_box (ltl_box (hL.chg e131) h128) hB125) (cutv v_p_Listappend (r81 : Int).toNat ((p_Listappend.length : Int) : Int).toNat 1) ys133 h135 r137 hr138) ?_)
            rintro _ wd139 ⟨he140, v141, rfl, h142⟩
            have e143 := e131.trans he140
            obtain ⟨r145, hr146, h⟩ := bind_elim h
            refine T0_e rfl (eff_call Tryd.func36 nm36 rfl (ev1 rfl) (locate_Counted_ok [] _ (LtL.nil _) (hg0.ext e143) v141 r137 (h142.sub (fun _ h => by cases h)) r145 hr146) ?_)
            rintro _ wd147 ⟨he148, cs149, rfl, hrd150⟩
            have e151 := he140.trans he148
            have e152 := e143.trans he148
            have hrd150 : cs149 = [(.int .i64 r145.1.Steps), (.int .i64 r145.1.Skips)] := hrd150
            subst hrd150
            refine T0_q (v := (.tuple #[(.agg (List.toArray [(.int .i64 r145.1.Steps), (.int .i64 r145.1.Skips)])), (.int .i64 r145.2)])) rfl (yl_move rfl) ?_
            refine T0_q (v := (.agg (List.toArray [(.int .i64 r145.1.Steps), (.int .i64 r145.1.Skips)]))) rfl (yl_extract rfl rfl) ?_
            refine T0_q (v := (.int .i64 r145.2)) rfl (yl_extract rfl rfl) ?_
            refine T0_e rfl (eff_allocZ zi62 ?_)
            intro b153 wd154 hb155 he156 hB157
            have hn158 : b153 ≠ b34 := box_ne (h128.ext e151) hb155
            have hn159 : b153 ≠ b109 := box_ne (hB125.ext e151) hb155
            have hbf160 := bfresh e152 hb155
            have h161 := (h126.ext e151).step (add_box he156 hb155)
            have h162 := (h127.ext e151).step (add_box he156 hb155)
            have h163 := (h129.ext e151).step (add_box he156 hb155)
            have h164 := (h130.ext e151).step (add_box he156 hb155)
            have h165 := (h135.ext e151).step (add_box he156 hb155)
            have h166 := (h142.ext he148).step (add_box he156 hb155)
            have e167 := e151.trans he156
            have e168 := e152.trans he156
            refine T0_e rfl (eff_storeC (vs := [(.int .i64 r145.1.Steps), (.int .i64 r145.1.Skips)]) (cs' := [(.int .i64 r145.1.Steps), (.int .i64 r145.1.Skips)]) sz62 rfl rfl rfl rfl hB157 rfl (oc_cons rfl (oc_cons rfl oc_nil)) rfl ?_)
            intro wd170 hc171 hB172
            have h173 := h161.step (Stepp.chg_mem hc171 mem0)
            have h174 := h162.step (Stepp.chg_mem hc171 mem0)
            have h175 := (h128.ext e167).chg hc171 (avoidb hn158)
            have h176 := h163.step (Stepp.chg_mem hc171 mem0)
            have h177 := h164.step (Stepp.chg_mem hc171 mem0)
            have h178 := (hB125.ext e167).chg hc171 (avoidb hn159)
            have h179 := h165.step (Stepp.chg_mem hc171 mem0)
            have h180 := h166.step (Stepp.chg_mem hc171 mem0)
            have e181 := chg_box e168 hc171 hbf160
            refine T0_q (v := (.int .i64 r145.2)) rfl (yl_assign rfl) ?_
            refine T0_nil ?_
            refine hK132 _ _ ?_
            refine WC_seqK fun K182 hK182 => ?_
            refine WC_region ?_
            refine T0_q (v := (.slice none 0 0)) rfl (yl_assign rfl) ?_
            refine T0_nil ?_
            refine hK182 _ _ ?_
            refine WC_seqK fun K183 hK183 => ?_
            refine WC_seqK fun K184 hK184 => ?_
            refine WC_region ?_
            refine T0_q (v := v_p_Listappend) rfl (yl_move rfl) ?_
            refine T0_q (v := (.int .i64 (p_Listappend.length : Int))) rfl (yl_lenR rfl Tryd.underlying22 h173 rfl) ?_
            refine T0_q (v := (.int .i64 (w64 ((p_Listappend.length : Int) - 1)))) rfl (yl_sub rfl rfl) ?_
            refine T0_q (v := (.int .i64 (w64 ((p_Listappend.length : Int) - 1)))) rfl (yl_assign rfl) ?_
            refine T0_nil ?_
            refine hK184 _ _ ?_
            have h393 := h173.step (add_nil _)
            have h394 := h174.step (add_nil _)
            have h395 := h176.step (add_nil _)
            have h396 := h177.step (add_nil _)
            have h397 := h179.step (add_nil _)
            have h398 := h180.step (add_nil _)
            have h400 : Own 3 ((.slice none 0 0) :: (.pointer (some ⟨b153, 0, none⟩)) :: (.pointer (some ⟨b109, 0, none⟩)) :: (.pointer (some ⟨b34, 0, none⟩)) :: L) wd170 (.slice none 0 0) ([] : List Int) := Own.nil _ _ _
            obtain ⟨o425, hl426, hn427⟩ := bind_elim h
            refine WC_post (fun (ρ : Env) (wd402 : World) => ∃ (x411 : (List Int)) (v410 : Value), x411 = o425 ∧ ρ 5 = (.pointer (some ⟨b34, 0, none⟩)) ∧ ρ 9 = (.pointer (some ⟨b109, 0, none⟩)) ∧ ρ 10 = (.int .i64 r101.2) ∧ ρ 11 = (.pointer (some ⟨b153, 0, none⟩)) ∧ ρ 12 = (.int .i64 r145.2) ∧ ρ 13 = v410 ∧ Box wd402 b109 [(.int .i64 r101.1.Steps), (.int .i64 r101.1.Skips)] 62 ∧ Box wd402 b153 [(.int .i64 r145.1.Steps), (.int .i64 r145.1.Skips)] 62 ∧ Box wd402 b34 [(.int .i64 r26.1.Steps), (.int .i64 r26.1.Skips)] 62 ∧ Own 3 (v410 :: (.pointer (some ⟨b153, 0, none⟩)) :: (.pointer (some ⟨b109, 0, none⟩)) :: (.pointer (some ⟨b34, 0, none⟩)) :: L) wd402 v410 x411 ∧ (∀ b, blk v410 = some b → w.heap.size ≤ b) ∧ (blk v410 ≠ some b109) ∧ (blk v410 ≠ some b153) ∧ (blk v410 ≠ some b34) ∧ Ext w wd402) ?_ ?_
            · intro K431 hK431
              refine WC_block ?_
              refine WC_loopk (fun sv ρ wd366 => ∃ (x377 : (List Int)) (x382 : Int) (v376 : Value), (x377, x382) = sv ∧ ρ 0 = v_p_Listappend ∧ ρ 5 = (.pointer (some ⟨b34, 0, none⟩)) ∧ ρ 9 = (.pointer (some ⟨b109, 0, none⟩)) ∧ ρ 10 = (.int .i64 r101.2) ∧ ρ 11 = (.pointer (some ⟨b153, 0, none⟩)) ∧ ρ 12 = (.int .i64 r145.2) ∧ ρ 13 = v376 ∧ ρ 14 = (.int .i64 x382) ∧ SlRd (v376 :: (.pointer (some ⟨b153, 0, none⟩)) :: (.pointer (some ⟨b109, 0, none⟩)) :: (.pointer (some ⟨b34, 0, none⟩)) :: L) wd366 v_p_Listappend p_Listappend ∧ Box wd366 b109 [(.int .i64 r101.1.Steps), (.int .i64 r101.1.Skips)] 62 ∧ Box wd366 b153 [(.int .i64 r145.1.Steps), (.int .i64 r145.1.Skips)] 62 ∧ Box wd366 b34 [(.int .i64 r26.1.Steps), (.int .i64 r26.1.Skips)] 62 ∧ Own 3 (v376 :: (.pointer (some ⟨b153, 0, none⟩)) :: (.pointer (some ⟨b109, 0, none⟩)) :: (.pointer (some ⟨b34, 0, none⟩)) :: L) wd366 v376 x377 ∧ (∀ b, blk v376 = some b → w.heap.size ≤ b) ∧ (blk v376 ≠ some b109) ∧ (blk v376 ≠ some b153) ∧ (blk v376 ≠ some b34) ∧ Ext w wd366) hl426 ⟨([] : List Int), w64 ((p_Listappend.length : Int) - 1), (.slice none 0 0), rfl, rfl, rfl, rfl, rfl, rfl, rfl, rfl, rfl, h393, h178, hB172, h175, h400, (fun b h => blk_nil b h), (fun h => by cases h), (fun h => by cases h), (fun h => by cases h), e181⟩ ?_
              rintro _ ρ wd366 ⟨x377, x382, v376, rfl, hs369, hs370, hs371, hs372, hs373, hs374, hs381, hs383, h368, hB385, hB387, hB389, h379, hf380, hn390, hn391, hn392, e367⟩ x428 h hx429 K430 hK430
              refine WC_seqK fun K433 hK433 => ?_
              refine WC_seqK fun K434 hK434 => ?_
              refine WC_region ?_
              refine T0_q (v := (.int .i64 x382)) rfl (yl_move hs383) ?_
              refine T0_q (v := (.bool (decide (0 ≤ x382)))) rfl (yl_geq rfl rfl) ?_
              refine T0_nil ?_
              refine hK434 _ _ ?_
              refine WC_cond (b := (decide (0 ≤ x382))) rfl (fun hb435 => ?_) (fun hb435 => ?_)
              · replace h := cond_t hb435 h
                refine WC_skip ?_
                refine hK433 _ _ ?_
                refine WC_seqK fun K436 hK436 => ?_
                refine WC_block ?_
                refine WC_region ?_
                refine T0_q (v := v376) rfl (yl_move hs381) ?_
                refine T0_q (v := v_p_Listappend) rfl (yl_move hs369) ?_
                refine T0_q (v := (.int .i64 x382)) rfl (yl_move hs383) ?_
                obtain ⟨el437, hel438, h⟩ := bind_elim h
                obtain ⟨cs439, hat440, hrd441⟩ := SlRd.at h368 hel438
                have hrd441 : cs439 = [(.int .i64 el437)] := hrd441
                subst hrd441
                refine T0_q (v := (.pointer (some (elemAddr v_p_Listappend (x382 : Int).toNat 1)))) rfl (yl_indexAddr Tryd.underlying22 sz3 h368 hel438 rfl rfl) ?_
                refine T0_q (v := (.int .i64 el437)) rfl (yl_load sc3 rfl hat440) ?_
                refine T0_e rfl (eff_buildTC (xs := ([el437] : List Int)) (cells := [(.int .i64 el437)]) Tryd.underlying22 ei3 rfl (pc_cons rfl rfl pc_nil) rfl (Elems.cons (cs := [(.int .i64 el437)]) rfl Elems.nil) rfl (ltl_own (ltl_box (ltl_box (ltl_box (hL.chg e367) hB389) hB385) hB387) h379) ?_)
                intro b446 wd443 he444 h445
                have e447 := e367.trans he444
                obtain ⟨zs449, hz450, h⟩ := bind_elim h
                refine T0_e rfl (eff_app Tryd.underlying22 ei3 rfl rfl rfl rfl (h379.ext he444) h445 hz450 ?_)
                intro v451 wd452 hc453 hbl454 h455
                have hn457 : blk v451 ≠ some b109 := ne_swap hbl454 hn390 (hB385.ext he444)
                have hn458 : blk v451 ≠ some b153 := ne_swap hbl454 hn391 (hB387.ext he444)
                have hn459 : blk v451 ≠ some b34 := ne_swap hbl454 hn392 (hB389.ext he444)
                have hf460 := fresh_swap hbl454 hf380 e447.size
                have h461 := (h368.ext he444).step (Stepp.swap hc453 hbl454)
                have h462 := (hB385.ext he444).chg hc453 (avoid1 hn390)
                have h463 := (hB387.ext he444).chg hc453 (avoid1 hn391)
                have h464 := (hB389.ext he444).chg hc453 (avoid1 hn392)
                have h465 := h445.step (Stepp.swap hc453 hbl454)
                have e466 := chg_own e447 hc453 hf380
                refine T0_q (v := v451) rfl (yl_assign rfl) ?_
                refine T0_nil ?_
                refine hK436 _ _ ?_
                refine WC_region ?_
                refine T0_q (v := (.int .i64 x382)) rfl (yl_move hs383) ?_
                refine T0_q (v := (.int .i64 (w64 (x382 - 1)))) rfl (yl_sub rfl rfl) ?_
                refine T0_q (v := (.int .i64 (w64 (x382 - 1)))) rfl (yl_assign rfl) ?_
                refine T0_nil ?_
                replace h := some_out h
                subst h
                refine hK430 _ _ _ rfl ?_
                exact ⟨zs449, w64 (x382 - 1), v451, rfl, hs369, hs370, hs371, hs372, hs373, hs374, rfl, rfl, h461, h462, h463, h464, h455, hf460, hn457, hn458, hn459, e466⟩
              · replace h := cond_f hb435 h
                refine WC_exit ?_
                replace h := some_out h
                subst h
                have ho := hx429 _ rfl
                subst ho
                refine hK431 _ _ ?_
                exact ⟨x377, v376, rfl, hs370, hs371, hs372, hs373, hs374, hs381, hB385, hB387, hB389, h379, hf380, hn390, hn391, hn392, e367⟩
            · rintro ρ wd402 ⟨x411, v410, rfl, hs404, hs405, hs406, hs407, hs408, hs415, hB417, hB419, hB421, h413, hf414, hn422, hn423, hn424, e403⟩
              replace h := hn427
              refine hK183 _ _ ?_
              refine WC_seqK fun K468 hK468 => ?_
              refine WC_region ?_
              refine T0_q (v := v410) rfl (yl_move hs415) ?_
              obtain ⟨r469, hr470, h⟩ := bind_elim h
              refine T0_e rfl (eff_call Tryd.func36 nm36 rfl (ev1 rfl) (locate_Counted_ok [] _ (LtL.nil _) (hg0.ext e403) v410 x411 (h413.rdL (fun _ h => by cases h) (LtL.nil w) hf414) r469 hr470) ?_)
              rintro _ wd471 ⟨he472, cs473, rfl, hrd474⟩
              have e475 := e403.trans he472
              have hrd474 : cs473 = [(.int .i64 r469.1.Steps), (.int .i64 r469.1.Skips)] := hrd474
              subst hrd474
              refine T0_q (v := (.tuple #[(.agg (List.toArray [(.int .i64 r469.1.Steps), (.int .i64 r469.1.Skips)])), (.int .i64 r469.2)])) rfl (yl_move rfl) ?_
              refine T0_q (v := (.agg (List.toArray [(.int .i64 r469.1.Steps), (.int .i64 r469.1.Skips)]))) rfl (yl_extract rfl rfl) ?_
              refine T0_q (v := (.int .i64 r469.2)) rfl (yl_extract rfl rfl) ?_
              refine T0_e rfl (eff_allocZ zi62 ?_)
              intro b476 wd477 hb478 he479 hB480
              have hn481 : b476 ≠ b109 := box_ne (hB417.ext he472) hb478
              have hn482 : b476 ≠ b153 := box_ne (hB419.ext he472) hb478
              have hn483 : b476 ≠ b34 := box_ne (hB421.ext he472) hb478
              have hn484 : blk v410 ≠ some b476 := ne_new_box (h413.ext he472) hb478
              have hbf485 := bfresh e475 hb478
              have h486 := (h413.ext he472).step (add_box he479 hb478) he479 (fun _ _ => Avoids.nil _)
              have e487 := he472.trans he479
              have e488 := e475.trans he479
              refine T0_e rfl (eff_storeC (vs := [(.int .i64 r469.1.Steps), (.int .i64 r469.1.Skips)]) (cs' := [(.int .i64 r469.1.Steps), (.int .i64 r469.1.Skips)]) sz62 rfl rfl rfl rfl hB480 rfl (oc_cons rfl (oc_cons rfl oc_nil)) rfl ?_)
              intro wd490 hc491 hB492
              have h493 := h486.step (Stepp.chg_mem hc491 mem0) hc491 (av_box hn484)
              have h494 := (hB417.ext e487).chg hc491 (avoidb hn481)
              have h495 := (hB419.ext e487).chg hc491 (avoidb hn482)
              have h496 := (hB421.ext e487).chg hc491 (avoidb hn483)
              have e497 := chg_box e488 hc491 hbf485
              refine T0_q (v := (.int .i64 r469.2)) rfl (yl_assign rfl) ?_
              refine T0_nil ?_
              refine hK468 _ _ ?_
              refine WC_seqK fun K498 hK498 => ?_
              refine WC_region ?_
              refine T0_q (v := (.int .i64 r101.2)) rfl (yl_move hs406) ?_
              refine T0_q (v := (.bool (decide (r101.2 = 0)))) rfl (yl_eql rfl rfl) ?_
              refine T0_q (v := (.bool (decide (r101.2 = 0)))) rfl (yl_move rfl) ?_
              refine T0_g (v := (.int .i64 r145.2)) (decide (r101.2 = 0)) (wanted_t rfl rfl rfl rfl) (fun hg => (yl_move hs408)) ?_
              refine T0_g (v := (.bool (decide (r145.2 = 0)))) (decide (r101.2 = 0)) (wanted_t rfl rfl rfl rfl) (fun hg => (yl_eql (gd_true hg) rfl)) ?_
              refine T0_q (v := (.bool ((decide (r101.2 = 0)) && (decide (r145.2 = 0))))) rfl (yl_and rfl (fun hb => (gd_true hb)) rfl) ?_
              refine T0_q (v := (.bool ((decide (r101.2 = 0)) && (decide (r145.2 = 0))))) rfl (yl_move rfl) ?_
              refine T0_g (v := (.int .i64 r469.2)) ((decide (r101.2 = 0)) && (decide (r145.2 = 0))) (wanted_t rfl rfl rfl rfl) (fun hg => (yl_move rfl)) ?_
              refine T0_g (v := (.bool (decide (r469.2 = 0)))) ((decide (r101.2 = 0)) && (decide (r145.2 = 0))) (wanted_t rfl rfl rfl rfl) (fun hg => (yl_eql (gd_true hg) rfl)) ?_
              refine T0_q (v := (.bool (((decide (r101.2 = 0)) && (decide (r145.2 = 0))) && (decide (r469.2 = 0))))) rfl (yl_and rfl (fun hb => (gd_true hb)) rfl) ?_
              refine T0_q (v := (.bool (((decide (r101.2 = 0)) && (decide (r145.2 = 0))) && (decide (r469.2 = 0))))) rfl (yl_move rfl) ?_
              refine T0_g (v := (.pointer (some ⟨b109, 0, none⟩))) (((decide (r101.2 = 0)) && (decide (r145.2 = 0))) && (decide (r469.2 = 0))) (wanted_t rfl rfl rfl rfl) (fun hg => (yl_fa 0 Tryd.underlying62 rfl rfl ⟨0, sz3⟩ hs405 rfl)) ?_
              refine T0_g (v := (.int .i64 r101.1.Steps)) (((decide (r101.2 = 0)) && (decide (r145.2 = 0))) && (decide (r469.2 = 0))) (wanted_t rfl rfl rfl rfl) (fun hg => (yl_load sc3 (gd_true hg) (Box.at h494))) ?_
              refine T0_g (v := (.pointer (some ⟨b153, 0, none⟩))) (((decide (r101.2 = 0)) && (decide (r145.2 = 0))) && (decide (r469.2 = 0))) (wanted_t rfl rfl rfl rfl) (fun hg => (yl_fa 0 Tryd.underlying62 rfl rfl ⟨0, sz3⟩ hs407 rfl)) ?_
              refine T0_g (v := (.int .i64 r145.1.Steps)) (((decide (r101.2 = 0)) && (decide (r145.2 = 0))) && (decide (r469.2 = 0))) (wanted_t rfl rfl rfl rfl) (fun hg => (yl_load sc3 (gd_true hg) (Box.at h495))) ?_
              refine T0_g (v := (.int .i64 (w64 (r101.1.Steps + r145.1.Steps)))) (((decide (r101.2 = 0)) && (decide (r145.2 = 0))) && (decide (r469.2 = 0))) (wanted_t rfl rfl rfl rfl) (fun hg => (yl_add (gd_true hg) (gd_true hg))) ?_
              refine T0_g (v := (.pointer (some ⟨b34, 0, none⟩))) (((decide (r101.2 = 0)) && (decide (r145.2 = 0))) && (decide (r469.2 = 0))) (wanted_t rfl rfl rfl rfl) (fun hg => (yl_fa 0 Tryd.underlying62 rfl rfl ⟨0, sz3⟩ hs404 rfl)) ?_
              refine T0_g (v := (.int .i64 r26.1.Steps)) (((decide (r101.2 = 0)) && (decide (r145.2 = 0))) && (decide (r469.2 = 0))) (wanted_t rfl rfl rfl rfl) (fun hg => (yl_load sc3 (gd_true hg) (Box.at h496))) ?_
              refine T0_g (v := (.bool (decide (w64 (r101.1.Steps + r145.1.Steps) = r26.1.Steps)))) (((decide (r101.2 = 0)) && (decide (r145.2 = 0))) && (decide (r469.2 = 0))) (wanted_t rfl rfl rfl rfl) (fun hg => (yl_eql (gd_true hg) (gd_true hg))) ?_
              refine T0_q (v := (.bool ((((decide (r101.2 = 0)) && (decide (r145.2 = 0))) && (decide (r469.2 = 0))) && (decide (w64 (r101.1.Steps + r145.1.Steps) = r26.1.Steps))))) rfl (yl_and rfl (fun hb => (gd_true hb)) rfl) ?_
              refine T0_q (v := (.bool ((((decide (r101.2 = 0)) && (decide (r145.2 = 0))) && (decide (r469.2 = 0))) && (decide (w64 (r101.1.Steps + r145.1.Steps) = r26.1.Steps))))) rfl (yl_move rfl) ?_
              refine T0_g (v := (.pointer (some ⟨b109, 1, none⟩))) ((((decide (r101.2 = 0)) && (decide (r145.2 = 0))) && (decide (r469.2 = 0))) && (decide (w64 (r101.1.Steps + r145.1.Steps) = r26.1.Steps))) (wanted_t rfl rfl rfl rfl) (fun hg => (yl_fa 1 Tryd.underlying62 rfl rfl ⟨0, sz3⟩ hs405 rfl)) ?_
              refine T0_g (v := (.int .i64 r101.1.Skips)) ((((decide (r101.2 = 0)) && (decide (r145.2 = 0))) && (decide (r469.2 = 0))) && (decide (w64 (r101.1.Steps + r145.1.Steps) = r26.1.Steps))) (wanted_t rfl rfl rfl rfl) (fun hg => (yl_load sc3 (gd_true hg) (At.drop (Box.at h494) 1))) ?_
              refine T0_g (v := (.pointer (some ⟨b153, 1, none⟩))) ((((decide (r101.2 = 0)) && (decide (r145.2 = 0))) && (decide (r469.2 = 0))) && (decide (w64 (r101.1.Steps + r145.1.Steps) = r26.1.Steps))) (wanted_t rfl rfl rfl rfl) (fun hg => (yl_fa 1 Tryd.underlying62 rfl rfl ⟨0, sz3⟩ hs407 rfl)) ?_
              refine T0_g (v := (.int .i64 r145.1.Skips)) ((((decide (r101.2 = 0)) && (decide (r145.2 = 0))) && (decide (r469.2 = 0))) && (decide (w64 (r101.1.Steps + r145.1.Steps) = r26.1.Steps))) (wanted_t rfl rfl rfl rfl) (fun hg => (yl_load sc3 (gd_true hg) (At.drop (Box.at h495) 1))) ?_
              refine T0_g (v := (.int .i64 (w64 (r101.1.Skips + r145.1.Skips)))) ((((decide (r101.2 = 0)) && (decide (r145.2 = 0))) && (decide (r469.2 = 0))) && (decide (w64 (r101.1.Steps + r145.1.Steps) = r26.1.Steps))) (wanted_t rfl rfl rfl rfl) (fun hg => (yl_add (gd_true hg) (gd_true hg))) ?_
              refine T0_g (v := (.pointer (some ⟨b34, 1, none⟩))) ((((decide (r101.2 = 0)) && (decide (r145.2 = 0))) && (decide (r469.2 = 0))) && (decide (w64 (r101.1.Steps + r145.1.Steps) = r26.1.Steps))) (wanted_t rfl rfl rfl rfl) (fun hg => (yl_fa 1 Tryd.underlying62 rfl rfl ⟨0, sz3⟩ hs404 rfl)) ?_
              refine T0_g (v := (.int .i64 r26.1.Skips)) ((((decide (r101.2 = 0)) && (decide (r145.2 = 0))) && (decide (r469.2 = 0))) && (decide (w64 (r101.1.Steps + r145.1.Steps) = r26.1.Steps))) (wanted_t rfl rfl rfl rfl) (fun hg => (yl_load sc3 (gd_true hg) (At.drop (Box.at h496) 1))) ?_
              refine T0_g (v := (.bool (decide (w64 (r101.1.Skips + r145.1.Skips) = r26.1.Skips)))) ((((decide (r101.2 = 0)) && (decide (r145.2 = 0))) && (decide (r469.2 = 0))) && (decide (w64 (r101.1.Steps + r145.1.Steps) = r26.1.Steps))) (wanted_t rfl rfl rfl rfl) (fun hg => (yl_eql (gd_true hg) (gd_true hg))) ?_
              refine T0_q (v := (.bool (((((decide (r101.2 = 0)) && (decide (r145.2 = 0))) && (decide (r469.2 = 0))) && (decide (w64 (r101.1.Steps + r145.1.Steps) = r26.1.Steps))) && (decide (w64 (r101.1.Skips + r145.1.Skips) = r26.1.Skips))))) rfl (yl_and rfl (fun hb => (gd_true hb)) rfl) ?_
              refine T0_q (v := (.bool (((((decide (r101.2 = 0)) && (decide (r145.2 = 0))) && (decide (r469.2 = 0))) && (decide (w64 (r101.1.Steps + r145.1.Steps) = r26.1.Steps))) && (decide (w64 (r101.1.Skips + r145.1.Skips) = r26.1.Skips))))) rfl (yl_move rfl) ?_
              refine T0_g (v := (.agg (List.toArray [(.int .i64 r469.1.Steps), (.int .i64 r469.1.Skips)]))) (((((decide (r101.2 = 0)) && (decide (r145.2 = 0))) && (decide (r469.2 = 0))) && (decide (w64 (r101.1.Steps + r145.1.Steps) = r26.1.Steps))) && (decide (w64 (r101.1.Skips + r145.1.Skips) = r26.1.Skips))) (wanted_t rfl rfl rfl rfl) (fun hg => (yl_loadA (cs := [(.int .i64 r469.1.Steps), (.int .i64 r469.1.Skips)]) ag62 rfl (Box.at hB492))) ?_
              refine T0_g (v := (.pointer (some ⟨b34, 0, none⟩))) (((((decide (r101.2 = 0)) && (decide (r145.2 = 0))) && (decide (r469.2 = 0))) && (decide (w64 (r101.1.Steps + r145.1.Steps) = r26.1.Steps))) && (decide (w64 (r101.1.Skips + r145.1.Skips) = r26.1.Skips))) (wanted_t rfl rfl rfl rfl) (fun hg => (yl_fa 0 Tryd.underlying62 rfl rfl ⟨0, sz3⟩ hs404 rfl)) ?_
              refine T0_g (v := (.int .i64 r26.1.Steps)) (((((decide (r101.2 = 0)) && (decide (r145.2 = 0))) && (decide (r469.2 = 0))) && (decide (w64 (r101.1.Steps + r145.1.Steps) = r26.1.Steps))) && (decide (w64 (r101.1.Skips + r145.1.Skips) = r26.1.Skips))) (wanted_t rfl rfl rfl rfl) (fun hg => (yl_load sc3 (gd_true hg) (Box.at h496))) ?_
              refine T0_g (v := (.int .i64 (w64 (0 - r26.1.Steps)))) (((((decide (r101.2 = 0)) && (decide (r145.2 = 0))) && (decide (r469.2 = 0))) && (decide (w64 (r101.1.Steps + r145.1.Steps) = r26.1.Steps))) && (decide (w64 (r101.1.Skips + r145.1.Skips) = r26.1.Skips))) (wanted_t rfl rfl rfl rfl) (fun hg => (yl_neg (gd_true hg))) ?_
              refine T0_g (v := (.pointer (some ⟨b34, 1, none⟩))) (((((decide (r101.2 = 0)) && (decide (r145.2 = 0))) && (decide (r469.2 = 0))) && (decide (w64 (r101.1.Steps + r145.1.Steps) = r26.1.Steps))) && (decide (w64 (r101.1.Skips + r145.1.Skips) = r26.1.Skips))) (wanted_t rfl rfl rfl rfl) (fun hg => (yl_fa 1 Tryd.underlying62 rfl rfl ⟨0, sz3⟩ hs404 rfl)) ?_
              refine T0_g (v := (.int .i64 r26.1.Skips)) (((((decide (r101.2 = 0)) && (decide (r145.2 = 0))) && (decide (r469.2 = 0))) && (decide (w64 (r101.1.Steps + r145.1.Steps) = r26.1.Steps))) && (decide (w64 (r101.1.Skips + r145.1.Skips) = r26.1.Skips))) (wanted_t rfl rfl rfl rfl) (fun hg => (yl_load sc3 (gd_true hg) (At.drop (Box.at h496) 1))) ?_
              refine T0_g (v := (.agg (List.toArray [(.int .i64 (w64 (0 - r26.1.Steps))), (.int .i64 r26.1.Skips)]))) (((((decide (r101.2 = 0)) && (decide (r145.2 = 0))) && (decide (r469.2 = 0))) && (decide (w64 (r101.1.Steps + r145.1.Steps) = r26.1.Steps))) && (decide (w64 (r101.1.Skips + r145.1.Skips) = r26.1.Skips))) (wanted_t rfl rfl rfl rfl) (fun hg => (yl_buildC (cells := [(.int .i64 (w64 (0 - r26.1.Steps))), (.int .i64 r26.1.Skips)]) bi62 (pc_cons (gd_true hg) rfl (pc_cons (gd_true hg) rfl pc_nil)) rfl)) ?_
              refine T0_g (v := (.bool (decide ((LocateSteps.mk r469.1.Steps r469.1.Skips) = (LocateSteps.mk (w64 (0 - r26.1.Steps)) r26.1.Skips))))) (((((decide (r101.2 = 0)) && (decide (r145.2 = 0))) && (decide (r469.2 = 0))) && (decide (w64 (r101.1.Steps + r145.1.Steps) = r26.1.Steps))) && (decide (w64 (r101.1.Skips + r145.1.Skips) = r26.1.Skips))) (wanted_t rfl rfl rfl rfl) (fun hg => (yl_eqlS eg62 (gd_true hg) (gd_true hg) (eqs62 (LocateSteps.mk r469.1.Steps r469.1.Skips) (LocateSteps.mk (w64 (0 - r26.1.Steps)) r26.1.Skips) _))) ?_
              refine T0_q (v := (.bool ((((((decide (r101.2 = 0)) && (decide (r145.2 = 0))) && (decide (r469.2 = 0))) && (decide (w64 (r101.1.Steps + r145.1.Steps) = r26.1.Steps))) && (decide (w64 (r101.1.Skips + r145.1.Skips) = r26.1.Skips))) && (decide ((LocateSteps.mk r469.1.Steps r469.1.Skips) = (LocateSteps.mk (w64 (0 - r26.1.Steps)) r26.1.Skips)))))) rfl (yl_and rfl (fun hb => (gd_true hb)) rfl) ?_
              refine T0_q (v := (.bool ((((((decide (r101.2 = 0)) && (decide (r145.2 = 0))) && (decide (r469.2 = 0))) && (decide (w64 (r101.1.Steps + r145.1.Steps) = r26.1.Steps))) && (decide (w64 (r101.1.Skips + r145.1.Skips) = r26.1.Skips))) && (decide ((LocateSteps.mk r469.1.Steps r469.1.Skips) = (LocateSteps.mk (w64 (0 - r26.1.Steps)) r26.1.Skips)))))) rfl (yl_assign rfl) ?_
              refine T0_nil ?_
              refine hK498 _ _ ?_
              refine WC_ret ?_
              replace h := some_out h
              subst h
              exact ⟨[(.bool ((((((decide (r101.2 = 0)) && (decide (r145.2 = 0))) && (decide (r469.2 = 0))) && (decide (w64 (r101.1.Steps + r145.1.Steps) = r26.1.Steps))) && (decide (w64 (r101.1.Skips + r145.1.Skips) = r26.1.Skips))) && (decide ((LocateSteps.mk r469.1.Steps r469.1.Skips) = (LocateSteps.mk (w64 (0 - r26.1.Steps)) r26.1.Skips)))))], ⟨rfl, trivial⟩, e497, rfl⟩

end Go.Gw
