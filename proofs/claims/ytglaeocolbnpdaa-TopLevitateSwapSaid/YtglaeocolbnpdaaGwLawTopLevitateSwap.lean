/- What functions come to, printed by a program of this work. No condition. -/
import Derived.Test.YtglaeocolbnpdaaGwFnD
import Derived.Test.YtglaeocolbnpdaaGwPlan2
import Derived.Test.YtglaeocolbnpdaaGwFacts2
set_option maxRecDepth 4096
set_option maxHeartbeats 8000000
set_option linter.unusedVariables false
namespace Go.Gw
open Go Go.Proofs
attribute [local irreducible] T0 TS TT TP TX Eff Stp WC Quiet gd
noncomputable def guidewaytop_TopLevitateSwap_s0 (p_Listappend : LevitatePlant) : (Int × (List (List (List Int)))) → Option ((Int × (List (List (List Int)))) ⊕ ((List (List (List Int))))) := fun (x445, x449) =>
  (bif (decide (x445 < (p_Listappend.Maps.length : Int))) then (
    (Option.bind (idx p_Listappend.Maps x445) fun el515 =>
    (Option.bind (guidewaytop_crossed_spec el515) fun r524 =>
    (Option.bind (app x449 ([r524] : List (List (List Int)))) fun zs540 =>
    some (.inl (w64 (x445 + 1), zs540))
    )
    )
    )
  ) else (
    some (.inr x449)
  ))
noncomputable def guidewaytop_TopLevitateSwap_s1 (p_Listappend : LevitatePlant) : (Int × (List (List (List Int)))) → Option ((Int × (List (List (List Int)))) ⊕ ((List (List (List Int))))) := fun (x1203, x1214) =>
  (bif (decide (x1203 < (p_Listappend.Maps.length : Int))) then (
    (Option.bind (idx p_Listappend.Maps x1203) fun el1273 =>
    (Option.bind (guidewaytop_crossed_spec el1273) fun r1282 =>
    (Option.bind (app x1214 ([r1282] : List (List (List Int)))) fun zs1298 =>
    some (.inl (w64 (x1203 + 1), zs1298))
    )
    )
    )
  ) else (
    some (.inr x1214)
  ))
noncomputable def guidewaytop_TopLevitateSwap_spec (p_Listappend : LevitatePlant) (p_String : LevitateProof) (p_ListappendStringpproofstartpproofstartqmaebfxgyh : (List Int)) : Option Bool :=
  (Option.bind (guidewaytop_levitated_spec) fun r32 =>
  (bif (!r32) then (
    some false
  ) else (
    (Option.bind (law02_Few_spec p_Listappend) fun r43 =>
    (Option.bind (bif (!(!r43)) then ref02_PlantErr_spec p_Listappend else some default) fun r51 =>
    (Option.bind (bif (!(((!r43) || (!decide (r51 = 0))) || (!decide ((p_String.Form.length : Int) = (p_Listappend.Noise.length : Int))))) then ref02_FormErr_spec p_String.Form else some default) fun r59 =>
    (Option.bind (bif (!((((!r43) || (!decide (r51 = 0))) || (!decide ((p_String.Form.length : Int) = (p_Listappend.Noise.length : Int)))) || (!decide (r59 = 0)))) then ref02_BoxErr_spec p_Listappend p_ListappendStringpproofstartpproofstartqmaebfxgyh else some default) fun r67 =>
    (bif (((((!r43) || (!decide (r51 = 0))) || (!decide ((p_String.Form.length : Int) = (p_Listappend.Noise.length : Int)))) || (!decide (r59 = 0))) || (!decide (r67 = 0))) then (
      some true
    ) else (
      (Option.bind (guidewaytop_grows_spec p_Listappend) fun r79 =>
      (bif r79 then (
        some true
      ) else (
        (Option.bind (guidewaytop_backward_spec p_Listappend.Noise) fun r96 =>
        (Option.bind (loop (guidewaytop_TopLevitateSwap_s0 p_Listappend) (0, ([] : List (List (List Int))))) fun (x483 : (List (List (List Int)))) =>
        (Option.bind (ref02_CopyPlant_spec p_Listappend) fun r581 =>
        (Option.bind (base_CopyInts_spec p_ListappendStringpproofstartpproofstartqmaebfxgyh) fun r594 =>
        (Option.bind (levitate_LeastBox_spec r581 r594) fun r603 =>
        (Option.bind (ref02_CopyPlant_spec (LevitatePlant.mk p_Listappend.Den x483 r96)) fun r625 =>
        (Option.bind (guidewaytop_backward_spec p_ListappendStringpproofstartpproofstartqmaebfxgyh) fun r639 =>
        (Option.bind (levitate_LeastBox_spec r625 r639) fun r649 =>
        (Option.bind (bif (!((!decide (r603.2 = r649.2)) || (!decide ((r603.1.length : Int) = (r649.1.length : Int))))) then guidewaytop_backward_spec r603.1 else some default) fun r662 =>
        (Option.bind (bif (!((!decide (r603.2 = r649.2)) || (!decide ((r603.1.length : Int) = (r649.1.length : Int))))) then base_Ints_spec r662 r649.1 else some default) fun r677 =>
        (bif (((!decide (r603.2 = r649.2)) || (!decide ((r603.1.length : Int) = (r649.1.length : Int)))) || (!r677)) then (
          some false
        ) else (
          (Option.bind (ref02_CopyPlant_spec p_Listappend) fun r699 =>
          (Option.bind (base_CopyLists_spec p_String.Form) fun r718 =>
          (Option.bind (levitate_CheckProof_spec r699 (LevitateProof.mk r718 p_String.Rate p_String.Level)) fun r732 =>
          (Option.bind (ref02_CopyPlant_spec (LevitatePlant.mk p_Listappend.Den x483 r96)) fun r759 =>
          (Option.bind (guidewaytop_crossed_spec p_String.Form) fun r781 =>
          (Option.bind (levitate_CheckProof_spec r759 (LevitateProof.mk r781 p_String.Rate p_String.Level)) fun r798 =>
          (Option.bind (bif ((decide (r732.2 = r798.2)) && (decide ((r732.1.length : Int) = (r798.1.length : Int)))) then guidewaytop_backward_spec r732.1 else some default) fun r817 =>
          (Option.bind (bif ((decide (r732.2 = r798.2)) && (decide ((r732.1.length : Int) = (r798.1.length : Int)))) then base_Ints_spec r817 r798.1 else some default) fun r839 =>
          some (((decide (r732.2 = r798.2)) && (decide ((r732.1.length : Int) = (r798.1.length : Int)))) && r839)
          )
          )
          )
          )
          )
          )
          )
          )
        ))
        )
        )
        )
        )
        )
        )
        )
        )
        )
        )
      ))
      )
    ))
    )
    )
    )
    )
  ))
  )
theorem guidewaytop_TopLevitateSwap_ok (L : List Value) (w : World) (hL : LtL L w) (cs_p_Listappend : List Value) (p_Listappend : LevitatePlant) (h_p_Listappend : Rep.rd L w cs_p_Listappend p_Listappend) (cs_p_String : List Value) (p_String : LevitateProof) (h_p_String : Rep.rd L w cs_p_String p_String) (v_p_ListappendStringpproofstartpproofstartqmaebfxgyh : Value) (p_ListappendStringpproofstartpproofstartqmaebfxgyh : (List Int)) (h_p_ListappendStringpproofstartpproofstartqmaebfxgyh : SlRd L w v_p_ListappendStringpproofstartpproofstartqmaebfxgyh p_ListappendStringpproofstartpproofstartqmaebfxgyh) (r : Bool) (h : guidewaytop_TopLevitateSwap_spec p_Listappend p_String p_ListappendStringpproofstartpproofstartqmaebfxgyh = some r) :
    CallsTo Try.prog 5 [(.agg cs_p_Listappend.toArray), (.agg cs_p_String.toArray), v_p_ListappendStringpproofstartpproofstartqmaebfxgyh] w (fun v w' => Ext w w' ∧ (.bool r) = v) := by
  have e0 : Ext w w := Chg.refl _ _
  obtain ⟨v1, v3, h2, h4, rfl⟩ := h_p_Listappend
  obtain ⟨v7, h8, rfl⟩ := h_p_String
  refine callsTo_of_WC (n := 151) (rs := [.tmp 6]) Try.func5 rfl rfl rfl rfl rfl ?_
  refine WC_seqK fun K11 hK11 => ?_
  refine WC_region ?_
  refine T0_e rfl (eff_boxC (cs := [(.int .i64 p_Listappend.Den), v1, v3]) rfl rfl ?_)
  intro b12 wd13 hb14 he15 hB16
  have hbf17 := bfresh e0 hb14
  have e18 := e0.trans he15
  refine T0_e rfl (eff_boxC (cs := [v7, (.int .i64 p_String.Rate.e0), (.int .i64 p_String.Rate.e1), (.int .i64 p_String.Level)]) rfl rfl ?_)
  intro b20 wd21 hb22 he23 hB24
  have hn25 : b20 ≠ b12 := box_ne hB16 hb22
  have hbf26 := bfresh e18 hb22
  have e27 := he15.trans he23
  have e28 := e18.trans he23
  refine T0_q (v := (.bool false)) rfl (yl_assign rfl) ?_
  refine T0_nil ?_
  refine hK11 _ _ ?_
  refine WC_seqK fun K30 hK30 => ?_
  refine WC_seqK fun K31 hK31 => ?_
  refine WC_region ?_
  have hq := bind_elim h
  clear h
  obtain ⟨r32, hr33, h⟩ := hq
  refine T0_e rfl (eff_call Try.func15 nm15 rfl ev0 (guidewaytop_levitated_ok [] _ (LtL.nil _)  r32 hr33) ?_)
  rintro _ wd34 ⟨he35, rfl⟩
  have e36 := e27.trans he35
  have e37 := he23.trans he35
  have e38 := e28.trans he35
  refine T0_q (v := (.bool (!r32))) rfl (yl_not rfl) ?_
  refine T0_nil ?_
  refine hK31 _ _ ?_
  refine WC_cond (b := (!r32)) rfl (fun hb39 => ?_) (fun hb39 => ?_)
  · clear hK11 hK30 hK31
    replace h := cond_t hb39 h
    refine WC_seqK fun K40 hK40 => ?_
    refine WC_region ?_
    refine T0_q (v := (.bool false)) rfl (yl_assign rfl) ?_
    refine T0_nil ?_
    refine hK40 _ _ ?_
    refine WC_ret ?_
    replace h := some_out h
    subst h
    exact ⟨[(.bool false)], ⟨rfl, trivial⟩, e38, rfl⟩
  · clear hK11 hK31
    replace h := cond_f hb39 h
    refine WC_skip ?_
    refine hK30 _ _ ?_
    refine WC_seqK fun K41 hK41 => ?_
    refine WC_seqK fun K42 hK42 => ?_
    refine WC_region ?_
    refine T0_q (v := (.agg (List.toArray [(.int .i64 p_Listappend.Den), v1, v3]))) rfl (yl_loadA (cs := [(.int .i64 p_Listappend.Den), v1, v3]) ag25 rfl (Box.at (hB16.ext e37))) ?_
    have hq := bind_elim h
    clear h
    obtain ⟨r43, hr44, h⟩ := hq
    refine T0_e rfl (eff_call Try.func8 nm8 rfl (ev1 rfl) (law02_Few_ok [] _ (LtL.nil _) [(.int .i64 p_Listappend.Den), v1, v3] p_Listappend ⟨v1, v3, ((h2.ext e36).sub (fun _ h => by cases h)), ((h4.ext e36).sub (fun _ h => by cases h)), rfl⟩ r43 hr44) ?_)
    rintro _ wd45 ⟨he46, rfl⟩
    have e47 := e36.trans he46
    have e48 := e37.trans he46
    have e49 := he35.trans he46
    have e50 := e38.trans he46
    refine T0_q (v := (.bool (!r43))) rfl (yl_not rfl) ?_
    refine T0_q (v := (.bool (!r43))) rfl (yl_move rfl) ?_
    refine T0_g (v := (.agg (List.toArray [(.int .i64 p_Listappend.Den), v1, v3]))) (!(!r43)) (wanted_f rfl rfl rfl rfl) (fun hg => (yl_loadA (cs := [(.int .i64 p_Listappend.Den), v1, v3]) ag25 rfl (Box.at (hB16.ext e48)))) ?_
    have hq := bind_elim h
    clear h
    obtain ⟨r51, hr52, h⟩ := hq
    refine T0_ges (!(!r43)) (.int .i64 r51) (wanted_f rfl rfl rfl rfl) (fun hg => eff_call Try.func16 nm16 rfl (ev1 (gd_true hg)) (ref02_PlantErr_ok [] _ (LtL.nil _) [(.int .i64 p_Listappend.Den), v1, v3] p_Listappend ⟨v1, v3, ((h2.ext e47).sub (fun _ h => by cases h)), ((h4.ext e47).sub (fun _ h => by cases h)), rfl⟩ r51 (cond_t hg hr52)) (by rintro _ wd53 ⟨he54, rfl⟩; exact ⟨rfl, he54⟩)) ?_
    intro wd53 he54
    have e55 := e47.trans he54
    have e56 := e48.trans he54
    have e57 := e49.trans he54
    have e58 := e50.trans he54
    refine T0_g (v := (.bool (!decide (r51 = 0)))) (!(!r43)) (wanted_f rfl rfl rfl rfl) (fun hg => (yl_neq (gd_true hg) rfl)) ?_
    refine T0_q (v := (.bool ((!r43) || (!decide (r51 = 0))))) rfl (yl_or rfl rfl (fun hb => (gd_true (not_t hb)))) ?_
    refine T0_q (v := (.bool ((!r43) || (!decide (r51 = 0))))) rfl (yl_move rfl) ?_
    refine T0_g (v := (.pointer (some ⟨b20, 0, none⟩))) (!((!r43) || (!decide (r51 = 0)))) (wanted_f rfl rfl rfl rfl) (fun hg => (yl_fa 0 Try.underlying50 rfl rfl ⟨0, sz47⟩ rfl rfl)) ?_
    refine T0_g (v := v7) (!((!r43) || (!decide (r51 = 0)))) (wanted_f rfl rfl rfl rfl) (fun hg => (yl_load sc47 (gd_true hg) (Box.at (hB24.ext e57)))) ?_
    refine T0_g (v := (.int .i64 (p_String.Form.length : Int))) (!((!r43) || (!decide (r51 = 0)))) (wanted_f rfl rfl rfl rfl) (fun hg => (yl_lenR rfl Try.underlying47 h8 (gd_true hg))) ?_
    refine T0_g (v := (.pointer (some ⟨b12, 2, none⟩))) (!((!r43) || (!decide (r51 = 0)))) (wanted_f rfl rfl rfl rfl) (fun hg => (yl_fa 2 Try.underlying25 rfl rfl ⟨0, sz23⟩ rfl rfl)) ?_
    refine T0_g (v := v3) (!((!r43) || (!decide (r51 = 0)))) (wanted_f rfl rfl rfl rfl) (fun hg => (yl_load sc23 (gd_true hg) (At.drop (Box.at (hB16.ext e56)) 2))) ?_
    refine T0_g (v := (.int .i64 (p_Listappend.Noise.length : Int))) (!((!r43) || (!decide (r51 = 0)))) (wanted_f rfl rfl rfl rfl) (fun hg => (yl_lenR rfl Try.underlying23 h4 (gd_true hg))) ?_
    refine T0_g (v := (.bool (!decide ((p_String.Form.length : Int) = (p_Listappend.Noise.length : Int))))) (!((!r43) || (!decide (r51 = 0)))) (wanted_f rfl rfl rfl rfl) (fun hg => (yl_neq (gd_true hg) (gd_true hg))) ?_
    refine T0_q (v := (.bool (((!r43) || (!decide (r51 = 0))) || (!decide ((p_String.Form.length : Int) = (p_Listappend.Noise.length : Int)))))) rfl (yl_or rfl rfl (fun hb => (gd_true (not_t hb)))) ?_
    refine T0_q (v := (.bool (((!r43) || (!decide (r51 = 0))) || (!decide ((p_String.Form.length : Int) = (p_Listappend.Noise.length : Int)))))) rfl (yl_move rfl) ?_
    refine T0_g (v := (.pointer (some ⟨b20, 0, none⟩))) (!(((!r43) || (!decide (r51 = 0))) || (!decide ((p_String.Form.length : Int) = (p_Listappend.Noise.length : Int))))) (wanted_f rfl rfl rfl rfl) (fun hg => (yl_fa 0 Try.underlying50 rfl rfl ⟨0, sz47⟩ rfl rfl)) ?_
    refine T0_g (v := v7) (!(((!r43) || (!decide (r51 = 0))) || (!decide ((p_String.Form.length : Int) = (p_Listappend.Noise.length : Int))))) (wanted_f rfl rfl rfl rfl) (fun hg => (yl_load sc47 (gd_true hg) (Box.at (hB24.ext e57)))) ?_
    have hq := bind_elim h
    clear h
    obtain ⟨r59, hr60, h⟩ := hq
    refine T0_ges (!(((!r43) || (!decide (r51 = 0))) || (!decide ((p_String.Form.length : Int) = (p_Listappend.Noise.length : Int))))) (.int .i64 r59) (wanted_f rfl rfl rfl rfl) (fun hg => eff_call Try.func17 nm17 rfl (ev1 (gd_true hg)) (ref02_FormErr_ok [] _ (LtL.nil _) v7 p_String.Form ((h8.ext e55).sub (fun _ h => by cases h)) r59 (cond_t hg hr60)) (by rintro _ wd61 ⟨he62, rfl⟩; exact ⟨rfl, he62⟩)) ?_
    intro wd61 he62
    have e63 := e55.trans he62
    have e64 := e56.trans he62
    have e65 := e57.trans he62
    have e66 := e58.trans he62
    refine T0_g (v := (.bool (!decide (r59 = 0)))) (!(((!r43) || (!decide (r51 = 0))) || (!decide ((p_String.Form.length : Int) = (p_Listappend.Noise.length : Int))))) (wanted_f rfl rfl rfl rfl) (fun hg => (yl_neq (gd_true hg) rfl)) ?_
    refine T0_q (v := (.bool ((((!r43) || (!decide (r51 = 0))) || (!decide ((p_String.Form.length : Int) = (p_Listappend.Noise.length : Int)))) || (!decide (r59 = 0))))) rfl (yl_or rfl rfl (fun hb => (gd_true (not_t hb)))) ?_
    refine T0_q (v := (.bool ((((!r43) || (!decide (r51 = 0))) || (!decide ((p_String.Form.length : Int) = (p_Listappend.Noise.length : Int)))) || (!decide (r59 = 0))))) rfl (yl_move rfl) ?_
    refine T0_g (v := (.agg (List.toArray [(.int .i64 p_Listappend.Den), v1, v3]))) (!((((!r43) || (!decide (r51 = 0))) || (!decide ((p_String.Form.length : Int) = (p_Listappend.Noise.length : Int)))) || (!decide (r59 = 0)))) (wanted_f rfl rfl rfl rfl) (fun hg => (yl_loadA (cs := [(.int .i64 p_Listappend.Den), v1, v3]) ag25 rfl (Box.at (hB16.ext e64)))) ?_
    refine T0_g (v := v_p_ListappendStringpproofstartpproofstartqmaebfxgyh) (!((((!r43) || (!decide (r51 = 0))) || (!decide ((p_String.Form.length : Int) = (p_Listappend.Noise.length : Int)))) || (!decide (r59 = 0)))) (wanted_f rfl rfl rfl rfl) (fun hg => (yl_move rfl)) ?_
    have hq := bind_elim h
    clear h
    obtain ⟨r67, hr68, h⟩ := hq
    refine T0_ges (!((((!r43) || (!decide (r51 = 0))) || (!decide ((p_String.Form.length : Int) = (p_Listappend.Noise.length : Int)))) || (!decide (r59 = 0)))) (.int .i64 r67) (wanted_f rfl rfl rfl rfl) (fun hg => eff_call Try.func18 nm18 rfl (ev2 (gd_true hg) (gd_true hg)) (ref02_BoxErr_ok [] _ (LtL.nil _) [(.int .i64 p_Listappend.Den), v1, v3] p_Listappend ⟨v1, v3, ((h2.ext e63).sub (fun _ h => by cases h)), ((h4.ext e63).sub (fun _ h => by cases h)), rfl⟩ v_p_ListappendStringpproofstartpproofstartqmaebfxgyh p_ListappendStringpproofstartpproofstartqmaebfxgyh ((h_p_ListappendStringpproofstartpproofstartqmaebfxgyh.ext e63).sub (fun _ h => by cases h)) r67 (cond_t hg hr68)) (by rintro _ wd69 ⟨he70, rfl⟩; exact ⟨rfl, he70⟩)) ?_
    intro wd69 he70
    have e71 := e63.trans he70
    have e72 := e64.trans he70
    have e73 := e65.trans he70
    have e74 := e66.trans he70
    refine T0_g (v := (.bool (!decide (r67 = 0)))) (!((((!r43) || (!decide (r51 = 0))) || (!decide ((p_String.Form.length : Int) = (p_Listappend.Noise.length : Int)))) || (!decide (r59 = 0)))) (wanted_f rfl rfl rfl rfl) (fun hg => (yl_neq (gd_true hg) rfl)) ?_
    refine T0_q (v := (.bool (((((!r43) || (!decide (r51 = 0))) || (!decide ((p_String.Form.length : Int) = (p_Listappend.Noise.length : Int)))) || (!decide (r59 = 0))) || (!decide (r67 = 0))))) rfl (yl_or rfl rfl (fun hb => (gd_true (not_t hb)))) ?_
    refine T0_nil ?_
    refine hK42 _ _ ?_
    refine WC_cond (b := (((((!r43) || (!decide (r51 = 0))) || (!decide ((p_String.Form.length : Int) = (p_Listappend.Noise.length : Int)))) || (!decide (r59 = 0))) || (!decide (r67 = 0)))) rfl (fun hb75 => ?_) (fun hb75 => ?_)
    · clear hK30 hK41 hK42
      replace h := cond_t hb75 h
      refine WC_seqK fun K76 hK76 => ?_
      refine WC_region ?_
      refine T0_q (v := (.bool true)) rfl (yl_assign rfl) ?_
      refine T0_nil ?_
      refine hK76 _ _ ?_
      refine WC_ret ?_
      replace h := some_out h
      subst h
      exact ⟨[(.bool true)], ⟨rfl, trivial⟩, e74, rfl⟩
    · clear hK30 hK42
      replace h := cond_f hb75 h
      refine WC_skip ?_
      refine hK41 _ _ ?_
      refine WC_seqK fun K77 hK77 => ?_
      refine WC_seqK fun K78 hK78 => ?_
      refine WC_region ?_
      refine T0_q (v := (.agg (List.toArray [(.int .i64 p_Listappend.Den), v1, v3]))) rfl (yl_loadA (cs := [(.int .i64 p_Listappend.Den), v1, v3]) ag25 rfl (Box.at (hB16.ext e72))) ?_
      have hq := bind_elim h
      clear h
      obtain ⟨r79, hr80, h⟩ := hq
      refine T0_e rfl (eff_call Try.func19 nm19 rfl (ev1 rfl) (guidewaytop_grows_ok [] _ (LtL.nil _) [(.int .i64 p_Listappend.Den), v1, v3] p_Listappend ⟨v1, v3, ((h2.ext e71).sub (fun _ h => by cases h)), ((h4.ext e71).sub (fun _ h => by cases h)), rfl⟩ r79 hr80) ?_)
      rintro _ wd81 ⟨he82, rfl⟩
      have e83 := e71.trans he82
      have e84 := e72.trans he82
      have e85 := e73.trans he82
      have e86 := e74.trans he82
      refine T0_nil ?_
      refine hK78 _ _ ?_
      refine WC_cond (b := r79) rfl (fun hb87 => ?_) (fun hb87 => ?_)
      · clear hK41 hK77 hK78
        replace h := cond_t hb87 h
        refine WC_seqK fun K88 hK88 => ?_
        refine WC_region ?_
        refine T0_q (v := (.bool true)) rfl (yl_assign rfl) ?_
        refine T0_nil ?_
        refine hK88 _ _ ?_
        refine WC_ret ?_
        replace h := some_out h
        subst h
        exact ⟨[(.bool true)], ⟨rfl, trivial⟩, e86, rfl⟩
      · clear hK41 hK78
        replace h := cond_f hb87 h
        refine WC_skip ?_
        refine hK77 _ _ ?_
        refine WC_seqK fun K89 hK89 => ?_
        refine WC_planX mixed (.p 0 (.p 2 (.q 1 (.q 3 (.f 4 (.p 5 (.e 6 (.b 7 .done))) 6 (.e 4 (.p 5 (.b 7 .done)))))))) (by kernel_rfl) ?_
        intro wd90 he91
        have e92 := e83.trans he91
        have e93 := e84.trans he91
        have e94 := e85.trans he91
        have e95 := e86.trans he91
        refine TX_p (v := (.pointer (some ⟨b12, 0, none⟩))) rfl rfl (fun w' => (yl_fa 0 Try.underlying25 rfl rfl ⟨0, sz3⟩ rfl rfl)) ?_
        refine TX_p (v := (.pointer (some ⟨b12, 2, none⟩))) rfl rfl (fun w' => (yl_fa 2 Try.underlying25 rfl rfl ⟨0, sz23⟩ rfl rfl)) ?_
        refine TX_q (v := (.int .i64 p_Listappend.Den)) rfl rfl (fun w' hS => (yl_load sc3 rfl (Box.at (hB16.ext (e93.trans hS))))) ?_
        refine TX_q (v := v3) rfl rfl (fun w' hS => (yl_load sc23 rfl (At.drop (Box.at (hB16.ext (e93.trans hS))) 2))) ?_
        refine TX_f rfl rfl rfl rfl ?_ ?_
        · clear hK77
          skip
          have hq := bind_elim h
          clear h
          obtain ⟨r96, hr97, h⟩ := hq
          refine  (eff_call Try.func20 nm20 rfl (ev1 rfl) (guidewaytop_backward_ok L _ (hL.chg e95) v3 p_Listappend.Noise (h4.ext e92) r96 hr97) ?_)
          rintro _ wd98 ⟨he99, v100, rfl, h101⟩
          have e102 := e92.trans he99
          have e103 := e93.trans he99
          have e104 := e94.trans he99
          have e105 := e95.trans he99
          refine ⟨he99, ?_⟩
          refine TX_p (v := (.agg (List.toArray [(.int .i64 p_Listappend.Den), (.slice none 0 0), v100]))) rfl rfl (fun w' => (yl_buildC (cells := [(.int .i64 p_Listappend.Den), (.slice none 0 0), v100]) bi25 (pc_cons rfl rfl (pc_cons rfl (cells_one h101.one1) pc_nil)) rfl)) ?_
          refine TX_e rfl rfl (eff_allocZ zi25 ?_)
          intro b107 wd108 hb109 he110 hB111
          have hn112 : b107 ≠ b12 := box_ne (hB16.ext e103) hb109
          have hn113 : b107 ≠ b20 := box_ne (hB24.ext e104) hb109
          have hbf114 := bfresh e105 hb109
          have h115 := (h2.ext e102).step (add_box he110 hb109)
          have h116 := (h4.ext e102).step (add_box he110 hb109)
          have h117 := (h8.ext e102).step (add_box he110 hb109)
          have h118 := (h_p_ListappendStringpproofstartpproofstartqmaebfxgyh.ext e102).step (add_box he110 hb109)
          have h119 := h101.step (add_box he110 hb109)
          have e120 := e103.trans he110
          have e121 := e104.trans he110
          have e122 := e105.trans he110
          refine ⟨he110, ?_⟩
          refine TX_b rfl rfl (eff_storeC (vs := [(.int .i64 p_Listappend.Den), (.slice none 0 0), v100]) (cs' := [(.int .i64 p_Listappend.Den), (.slice none 0 0), v100]) sz25 rfl rfl rfl rfl hB111 rfl (oc_cons rfl (oc_cons rfl (oc_cons h119.one1 oc_nil))) rfl ?_)
          intro wd124 hc125 hB126
          have h127 := h115.step (Stepp.chg_mem hc125 mem0)
          have h128 := h116.step (Stepp.chg_mem hc125 mem0)
          have h129 := h117.step (Stepp.chg_mem hc125 mem0)
          have h130 := h118.step (Stepp.chg_mem hc125 mem0)
          have h131 := (hB16.ext e120).chg hc125 (avoidb hn112)
          have h132 := (hB24.ext e121).chg hc125 (avoidb hn113)
          have h133 := h119.step (Stepp.chg_mem hc125 mem0)
          have e134 := chg_box e122 hc125 hbf114
          refine TX_done ?_
          refine hK89 _ _ ?_
          refine WC_seqK fun K135 hK135 => ?_
          refine WC_seqK fun K136 hK136 => ?_
          refine WC_region ?_
          refine T0_q (v := (.int .i64 0)) rfl (yl_assign rfl) ?_
          refine T0_nil ?_
          refine hK136 _ _ ?_
          have h466 := h127.step (add_nil _)
          have h467 := h128.step (add_nil _)
          have h468 := h129.step (add_nil _)
          have h469 := h130.step (add_nil _)
          have h470 := h133.step (add_nil _)
          have h472 : Own 47 ((.slice none 0 0) :: (.pointer (some ⟨b107, 0, none⟩)) :: L) wd124 (.slice none 0 0) ([] : List (List (List Int))) := Own.nil _ _ _
          have hq := bind_elim h
          clear h
          obtain ⟨o500, hl501, hn502⟩ := hq
          refine WC_post (fun (ρ : Env) (wd474 : World) => ∃ (x483 : (List (List (List Int)))) (v482 : Value), x483 = o500 ∧ ρ 2 = v_p_ListappendStringpproofstartpproofstartqmaebfxgyh ∧ ρ 3 = (.pointer (some ⟨b12, 0, none⟩)) ∧ ρ 4 = (.pointer (some ⟨b20, 0, none⟩)) ∧ ρ 7 = (.pointer (some ⟨b107, 0, none⟩)) ∧ SlRd (v482 :: (.pointer (some ⟨b107, 0, none⟩)) :: L) wd474 v_p_ListappendStringpproofstartpproofstartqmaebfxgyh p_ListappendStringpproofstartpproofstartqmaebfxgyh ∧ SlRd (v482 :: (.pointer (some ⟨b107, 0, none⟩)) :: L) wd474 v100 r96 ∧ SlRd (v482 :: (.pointer (some ⟨b107, 0, none⟩)) :: L) wd474 v1 p_Listappend.Maps ∧ SlRd (v482 :: (.pointer (some ⟨b107, 0, none⟩)) :: L) wd474 v3 p_Listappend.Noise ∧ SlRd (v482 :: (.pointer (some ⟨b107, 0, none⟩)) :: L) wd474 v7 p_String.Form ∧ Box wd474 b107 [(.int .i64 p_Listappend.Den), v482, v100] 25 ∧ Box wd474 b12 [(.int .i64 p_Listappend.Den), v1, v3] 25 ∧ Box wd474 b20 [v7, (.int .i64 p_String.Rate.e0), (.int .i64 p_String.Rate.e1), (.int .i64 p_String.Level)] 50 ∧ Own 47 (v482 :: (.pointer (some ⟨b107, 0, none⟩)) :: L) wd474 v482 x483 ∧ (∀ b, blk v482 = some b → w.heap.size ≤ b) ∧ (blk v482 ≠ some b107) ∧ (blk v482 ≠ some b12) ∧ (blk v482 ≠ some b20) ∧ Ext w wd474) ?_ ?_
          · clear hK135 hK136 hK89
            intro K506 hK506
            refine WC_block ?_
            refine WC_loopk (fun sv ρ wd438 => ∃ (x445 : Int) (x449 : (List (List (List Int)))) (v448 : Value), (x445, x449) = sv ∧ ρ 2 = v_p_ListappendStringpproofstartpproofstartqmaebfxgyh ∧ ρ 3 = (.pointer (some ⟨b12, 0, none⟩)) ∧ ρ 4 = (.pointer (some ⟨b20, 0, none⟩)) ∧ ρ 7 = (.pointer (some ⟨b107, 0, none⟩)) ∧ ρ 8 = (.int .i64 x445) ∧ SlRd (v448 :: (.pointer (some ⟨b107, 0, none⟩)) :: L) wd438 v_p_ListappendStringpproofstartpproofstartqmaebfxgyh p_ListappendStringpproofstartpproofstartqmaebfxgyh ∧ SlRd (v448 :: (.pointer (some ⟨b107, 0, none⟩)) :: L) wd438 v100 r96 ∧ SlRd (v448 :: (.pointer (some ⟨b107, 0, none⟩)) :: L) wd438 v1 p_Listappend.Maps ∧ SlRd (v448 :: (.pointer (some ⟨b107, 0, none⟩)) :: L) wd438 v3 p_Listappend.Noise ∧ SlRd (v448 :: (.pointer (some ⟨b107, 0, none⟩)) :: L) wd438 v7 p_String.Form ∧ Box wd438 b107 [(.int .i64 p_Listappend.Den), v448, v100] 25 ∧ Box wd438 b12 [(.int .i64 p_Listappend.Den), v1, v3] 25 ∧ Box wd438 b20 [v7, (.int .i64 p_String.Rate.e0), (.int .i64 p_String.Rate.e1), (.int .i64 p_String.Level)] 50 ∧ Own 47 (v448 :: (.pointer (some ⟨b107, 0, none⟩)) :: L) wd438 v448 x449 ∧ (∀ b, blk v448 = some b → w.heap.size ≤ b) ∧ (blk v448 ≠ some b107) ∧ (blk v448 ≠ some b12) ∧ (blk v448 ≠ some b20) ∧ Ext w wd438) hl501 ⟨0, ([] : List (List (List Int))), (.slice none 0 0), rfl, rfl, rfl, rfl, rfl, rfl, h469, h470, h466, h467, h468, hB126, h131, h132, h472, (fun b h => blk_nil b h), (fun h => by cases h), (fun h => by cases h), (fun h => by cases h), e134⟩ ?_
            rintro _ ρ wd438 ⟨x445, x449, v448, rfl, hs441, hs442, hs443, hs444, hs446, h440, h453, h456, h457, h460, hB455, hB459, hB462, h451, hf452, hn463, hn464, hn465, e439⟩ x503 h hx504 K505 hK505
            refine WC_seqK fun K508 hK508 => ?_
            refine WC_seqK fun K509 hK509 => ?_
            refine WC_region ?_
            refine T0_q (v := (.int .i64 x445)) rfl (yl_move hs446) ?_
            refine T0_q (v := (.pointer (some ⟨b12, 1, none⟩))) rfl (yl_fa 1 Try.underlying25 rfl rfl ⟨0, sz22⟩ hs442 rfl) ?_
            refine T0_q (v := v1) rfl (yl_load sc22 rfl (At.drop (Box.at hB459) 1)) ?_
            refine T0_q (v := (.int .i64 (p_Listappend.Maps.length : Int))) rfl (yl_lenR rfl Try.underlying22 h456 rfl) ?_
            refine T0_q (v := (.bool (decide (x445 < (p_Listappend.Maps.length : Int))))) rfl (yl_lss rfl rfl) ?_
            refine T0_nil ?_
            refine hK509 _ _ ?_
            refine WC_cond (b := (decide (x445 < (p_Listappend.Maps.length : Int)))) rfl (fun hb510 => ?_) (fun hb510 => ?_)
            · clear hK506 hK509
              replace h := cond_t hb510 h
              refine WC_skip ?_
              refine hK508 _ _ ?_
              refine WC_seqK fun K511 hK511 => ?_
              refine WC_block ?_
              refine WC_planX mixed (.p 0 (.p 2 (.p 4 (.q 1 (.q 3 (.p 5 (.q 6 (.e 7 (.e 8 (.b 9 (.p 10 (.b 11 .done)))))))))))) (by kernel_rfl) ?_
              intro wd512 he513
              have e514 := e439.trans he513
              refine TX_p (v := (.pointer (some ⟨b107, 1, none⟩))) rfl rfl (fun w' => (yl_fa 1 Try.underlying25 rfl rfl ⟨0, sz22⟩ hs444 rfl)) ?_
              refine TX_p (v := (.pointer (some ⟨b12, 1, none⟩))) rfl rfl (fun w' => (yl_fa 1 Try.underlying25 rfl rfl ⟨0, sz22⟩ hs442 rfl)) ?_
              refine TX_p (v := (.int .i64 x445)) rfl rfl (fun w' => (yl_move hs446)) ?_
              refine TX_q (v := v448) rfl rfl (fun w' hS => (yl_load sc22 rfl (At.drop (Box.at (hB455.ext (he513.trans hS))) 1))) ?_
              refine TX_q (v := v1) rfl rfl (fun w' hS => (yl_load sc22 rfl (At.drop (Box.at (hB459.ext (he513.trans hS))) 1))) ?_
              have hq := bind_elim h
              clear h
              obtain ⟨el515, hel516, h⟩ := hq
              have hq := SlRd.at h456 hel516
              obtain ⟨cs519, hat520, hrd521⟩ := hq
              obtain ⟨v517, rfl, h518⟩ := hrd521
              refine TX_p (v := (.pointer (some (elemAddr v1 (x445 : Int).toNat 1)))) rfl rfl (fun w' => (yl_indexAddr Try.underlying22 sz47 h456 hel516 rfl rfl)) ?_
              refine TX_q (v := v517) rfl rfl (fun w' hS => (yl_load sc47 rfl (hat520.ext' (he513.trans hS)))) ?_
              have hq := bind_elim h
              clear h
              obtain ⟨r524, hr525, h⟩ := hq
              refine TX_e rfl rfl (eff_call Try.func21 nm21 rfl (ev1 rfl) (guidewaytop_crossed_ok (v448 :: (.pointer (some ⟨b107, 0, none⟩)) :: L) _ (ltl_own (ltl_box (hL.chg e514) (hB455.ext he513)) (h451.ext he513)) v517 el515 (h518.ext he513) r524 hr525) ?_)
              rintro _ wd526 ⟨he527, v528, rfl, h529⟩
              have e530 := he513.trans he527
              have e531 := e514.trans he527
              refine ⟨he527, ?_⟩
              refine TX_e rfl rfl (eff_buildTC (xs := ([r524] : List (List (List Int)))) (cells := [v528]) Try.underlying22 ei47 rfl (pc_cons rfl (cells_one h529.one1) pc_nil) rfl (Elems.cons (cs := [v528]) ⟨_, rfl, h529⟩ Elems.nil) rfl (ltl_own (ltl_box (hL.chg e531) (hB455.ext e530)) (h451.ext e530)) ?_)
              intro b536 wd533 he534 h535
              have e537 := e530.trans he534
              have e538 := e531.trans he534
              refine ⟨he534, ?_⟩
              have hq := bind_elim h
              clear h
              obtain ⟨zs540, hz541, h⟩ := hq
              refine TX_b rfl rfl (eff_app Try.underlying22 ei47 rfl rfl rfl rfl (h451.ext e537) h535 hz541 ?_)
              intro v542 wd543 hc544 hbl545 h546
              have hn548 : blk v542 ≠ some b107 := ne_swap hbl545 hn463 (hB455.ext e537)
              have hn549 : blk v542 ≠ some b12 := ne_swap hbl545 hn464 (hB459.ext e537)
              have hn550 : blk v542 ≠ some b20 := ne_swap hbl545 hn465 (hB462.ext e537)
              have hf551 := fresh_swap hbl545 hf452 e538.size
              have h552 := (h440.ext e537).step (Stepp.swap hc544 hbl545)
              have h553 := (h453.ext e537).step (Stepp.swap hc544 hbl545)
              have h554 := (hB455.ext e537).chg hc544 (avoid1 hn463)
              have h555 := (h456.ext e537).step (Stepp.swap hc544 hbl545)
              have h556 := (h457.ext e537).step (Stepp.swap hc544 hbl545)
              have h557 := (hB459.ext e537).chg hc544 (avoid1 hn464)
              have h558 := (h460.ext e537).step (Stepp.swap hc544 hbl545)
              have h559 := (hB462.ext e537).chg hc544 (avoid1 hn465)
              have h560 := (h518.ext e537).step (Stepp.swap hc544 hbl545)
              have h561 := (h529.ext he534).step (Stepp.swap hc544 hbl545)
              have h562 := h535.step (Stepp.swap hc544 hbl545)
              have e563 := chg_own e538 hc544 hf452
              refine TX_p (v := (.pointer (some ⟨b107, 1, none⟩))) rfl rfl (fun w' => (yl_fa 1 Try.underlying25 rfl rfl ⟨0, sz22⟩ hs444 rfl)) ?_
              refine TX_b rfl rfl (eff_storeC (vs := [v542]) (cs' := [(.int .i64 p_Listappend.Den), v542, v100]) sz22 (cells_one h546.one1) rfl rfl rfl h554 rfl (oc_cons h546.one1 oc_nil) rfl ?_)
              intro wd565 hc566 hB567
              have h568 := h552.step (Stepp.chg_mem hc566 (memS mem0))
              have h569 := h553.step (Stepp.chg_mem hc566 (memS mem0))
              have h570 := h555.step (Stepp.chg_mem hc566 (memS mem0))
              have h571 := h556.step (Stepp.chg_mem hc566 (memS mem0))
              have h572 := h557.chg hc566 (avoidb hn112)
              have h573 := h558.step (Stepp.chg_mem hc566 (memS mem0))
              have h574 := h559.chg hc566 (avoidb hn113)
              have h575 := h560.step (Stepp.chg_mem hc566 (memS mem0))
              have h576 := h561.step (Stepp.chg_mem hc566 (memS mem0))
              have h577 := h562.step (Stepp.chg_mem hc566 (memS mem0))
              have h578 := h546.step (Stepp.chg_mem hc566 (memS mem0)) hc566 (av_box hn548)
              have e579 := chg_box e563 hc566 hbf114
              refine TX_done ?_
              refine hK511 _ _ ?_
              refine WC_region ?_
              refine T0_q (v := (.int .i64 x445)) rfl (yl_move hs446) ?_
              refine T0_q (v := (.int .i64 (w64 (x445 + 1)))) rfl (yl_add rfl rfl) ?_
              refine T0_q (v := (.int .i64 (w64 (x445 + 1)))) rfl (yl_assign rfl) ?_
              refine T0_nil ?_
              replace h := some_out h
              subst h
              refine hK505 _ _ _ rfl ?_
              exact ⟨w64 (x445 + 1), zs540, v542, rfl, hs441, hs442, hs443, hs444, rfl, h568, h569, h570, h571, h573, hB567, h572, h574, h578, hf551, hn548, hn549, hn550, e579⟩
            · clear hK505 hK508 hK509
              replace h := cond_f hb510 h
              refine WC_exit ?_
              replace h := some_out h
              subst h
              have ho := hx504 _ rfl
              subst ho
              refine hK506 _ _ ?_
              exact ⟨x449, v448, rfl, hs441, hs442, hs443, hs444, h440, h453, h456, h457, h460, hB455, hB459, hB462, h451, hf452, hn463, hn464, hn465, e439⟩
          · clear hK136 hK89
            rintro ρ wd474 ⟨x483, v482, rfl, hs477, hs478, hs479, hs480, h476, h487, h490, h491, h494, hB489, hB493, hB496, h485, hf486, hn497, hn498, hn499, e475⟩
            replace h := hn502
            refine hK135 _ _ ?_
            refine WC_seqK fun K580 hK580 => ?_
            refine WC_region ?_
            refine T0_q (v := (.agg (List.toArray [(.int .i64 p_Listappend.Den), v1, v3]))) rfl (yl_loadA (cs := [(.int .i64 p_Listappend.Den), v1, v3]) ag25 hs478 (Box.at hB493)) ?_
            have hq := bind_elim h
            clear h
            obtain ⟨r581, hr582, h⟩ := hq
            refine T0_e rfl (eff_call Try.func10 nm10 rfl (ev1 rfl) (ref02_CopyPlant_ok (v482 :: (.pointer (some ⟨b107, 0, none⟩)) :: L) _ (ltl_own (ltl_box (hL.chg e475) hB489) h485) [(.int .i64 p_Listappend.Den), v1, v3] p_Listappend ⟨v1, v3, h490, h491, rfl⟩ r581 hr582) ?_)
            rintro _ wd583 ⟨he584, cs589, rfl, hrd590⟩
            have e591 := e475.trans he584
            obtain ⟨v585, v587, h586, h588, rfl⟩ := hrd590
            refine T0_q (v := v_p_ListappendStringpproofstartpproofstartqmaebfxgyh) rfl (yl_move hs477) ?_
            have hq := bind_elim h
            clear h
            obtain ⟨r594, hr595, h⟩ := hq
            refine T0_e rfl (eff_call Try.func23 nm23 rfl (ev1 rfl) (base_CopyInts_ok (v482 :: (.pointer (some ⟨b107, 0, none⟩)) :: L) _ (ltl_own (ltl_box (hL.chg e591) (hB489.ext he584)) (h485.ext he584)) v_p_ListappendStringpproofstartpproofstartqmaebfxgyh p_ListappendStringpproofstartpproofstartqmaebfxgyh (h476.ext he584) r594 hr595) ?_)
            rintro _ wd596 ⟨he597, v598, rfl, h599⟩
            have e600 := he584.trans he597
            have e601 := e591.trans he597
            have hq := bind_elim h
            clear h
            obtain ⟨r603, hr604, h⟩ := hq
            refine T0_e rfl (eff_call Try.func22 nm22 rfl (ev2 rfl rfl) (levitate_LeastBox_ok (v482 :: (.pointer (some ⟨b107, 0, none⟩)) :: L) _ (ltl_own (ltl_box (hL.chg e601) (hB489.ext e600)) (h485.ext e600)) [(.int .i64 r581.Den), v585, v587] r581 ⟨v585, v587, (h586.ext he597), (h588.ext he597), rfl⟩ v598 r594 h599 r603 hr604) ?_)
            rintro _ wd605 ⟨he606, v607, rfl, h608⟩
            have e609 := e600.trans he606
            have e610 := he597.trans he606
            have e611 := e601.trans he606
            refine T0_q (v := (.tuple #[v607, (.int .i64 r603.2)])) rfl (yl_move rfl) ?_
            refine T0_q (v := v607) rfl (yl_extract rfl rfl) ?_
            refine T0_q (v := (.int .i64 r603.2)) rfl (yl_extract rfl rfl) ?_
            refine T0_q (v := v607) rfl (yl_assign rfl) ?_
            refine T0_q (v := (.int .i64 r603.2)) rfl (yl_assign rfl) ?_
            refine T0_nil ?_
            refine hK580 _ _ ?_
            refine WC_seqK fun K613 hK613 => ?_
            refine WC_region ?_
            refine T0_q (v := (.agg (List.toArray [(.int .i64 p_Listappend.Den), v482, v100]))) rfl (yl_loadA (cs := [(.int .i64 p_Listappend.Den), v482, v100]) ag25 hs480 (Box.at (hB489.ext e609))) ?_
            have h614 := ((h485.ext e609).sub (sub_cons (memS mem0) (sub_skip (sub_skip (sub_refl _))))).rd (fun b hb => (Avoids.cons (fun x hx e => by have := hL x hx b e; have := hf486 b hb; omega) (fun e => hn497 (hb.trans e.symm))))
            have h615 := (h476.ext e609).sub (sub_cons (memS mem0) (sub_skip (sub_skip (sub_refl _))))
            have h616 := (h487.ext e609).sub (sub_cons (memS mem0) (sub_skip (sub_skip (sub_refl _))))
            have h617 := (h490.ext e609).sub (sub_cons (memS mem0) (sub_skip (sub_skip (sub_refl _))))
            have h618 := (h491.ext e609).sub (sub_cons (memS mem0) (sub_skip (sub_skip (sub_refl _))))
            have h619 := (h494.ext e609).sub (sub_cons (memS mem0) (sub_skip (sub_skip (sub_refl _))))
            have h620 := (h586.ext e610).sub (sub_cons (memS mem0) (sub_skip (sub_skip (sub_refl _))))
            have h621 := (h588.ext e610).sub (sub_cons (memS mem0) (sub_skip (sub_skip (sub_refl _))))
            have h622 := (h599.ext he606).sub (sub_cons (memS mem0) (sub_skip (sub_skip (sub_refl _))))
            have h623 := h608.sub (sub_cons (memS mem0) (sub_skip (sub_skip (sub_refl _))))
            have hq := bind_elim h
            clear h
            obtain ⟨r625, hr626, h⟩ := hq
            refine T0_e rfl (eff_call Try.func10 nm10 rfl (ev1 rfl) (ref02_CopyPlant_ok ((.pointer (some ⟨b107, 0, none⟩)) :: L) _ (ltl_box (hL.chg e611) (hB489.ext e609)) [(.int .i64 p_Listappend.Den), v482, v100] (LevitatePlant.mk p_Listappend.Den x483 r96) ⟨v482, v100, h614, h616, rfl⟩ r625 hr626) ?_)
            rintro _ wd627 ⟨he628, cs633, rfl, hrd634⟩
            have e635 := e609.trans he628
            have e636 := e611.trans he628
            obtain ⟨v629, v631, h630, h632, rfl⟩ := hrd634
            refine T0_q (v := v_p_ListappendStringpproofstartpproofstartqmaebfxgyh) rfl (yl_move hs477) ?_
            have hq := bind_elim h
            clear h
            obtain ⟨r639, hr640, h⟩ := hq
            refine T0_e rfl (eff_call Try.func20 nm20 rfl (ev1 rfl) (guidewaytop_backward_ok ((.pointer (some ⟨b107, 0, none⟩)) :: L) _ (ltl_box (hL.chg e636) (hB489.ext e635)) v_p_ListappendStringpproofstartpproofstartqmaebfxgyh p_ListappendStringpproofstartpproofstartqmaebfxgyh (h615.ext he628) r639 hr640) ?_)
            rintro _ wd641 ⟨he642, v643, rfl, h644⟩
            have e645 := e635.trans he642
            have e646 := he628.trans he642
            have e647 := e636.trans he642
            have hq := bind_elim h
            clear h
            obtain ⟨r649, hr650, h⟩ := hq
            refine T0_e rfl (eff_call Try.func22 nm22 rfl (ev2 rfl rfl) (levitate_LeastBox_ok ((.pointer (some ⟨b107, 0, none⟩)) :: L) _ (ltl_box (hL.chg e647) (hB489.ext e645)) [(.int .i64 r625.Den), v629, v631] r625 ⟨v629, v631, (h630.ext he642), (h632.ext he642), rfl⟩ v643 r639 h644 r649 hr650) ?_)
            rintro _ wd651 ⟨he652, v653, rfl, h654⟩
            have e655 := e645.trans he652
            have e656 := e646.trans he652
            have e657 := he642.trans he652
            have e658 := e647.trans he652
            refine T0_q (v := (.tuple #[v653, (.int .i64 r649.2)])) rfl (yl_move rfl) ?_
            refine T0_q (v := v653) rfl (yl_extract rfl rfl) ?_
            refine T0_q (v := (.int .i64 r649.2)) rfl (yl_extract rfl rfl) ?_
            refine T0_q (v := v653) rfl (yl_assign rfl) ?_
            refine T0_q (v := (.int .i64 r649.2)) rfl (yl_assign rfl) ?_
            refine T0_nil ?_
            refine hK613 _ _ ?_
            refine WC_seqK fun K660 hK660 => ?_
            refine WC_seqK fun K661 hK661 => ?_
            refine WC_region ?_
            refine T0_q (v := (.int .i64 r603.2)) rfl (yl_move rfl) ?_
            refine T0_q (v := (.int .i64 r649.2)) rfl (yl_move rfl) ?_
            refine T0_q (v := (.bool (!decide (r603.2 = r649.2)))) rfl (yl_neq rfl rfl) ?_
            refine T0_q (v := (.bool (!decide (r603.2 = r649.2)))) rfl (yl_move rfl) ?_
            refine T0_g (v := v607) (!(!decide (r603.2 = r649.2))) (wanted_f rfl rfl rfl rfl) (fun hg => (yl_move rfl)) ?_
            refine T0_g (v := (.int .i64 (r603.1.length : Int))) (!(!decide (r603.2 = r649.2))) (wanted_f rfl rfl rfl rfl) (fun hg => (yl_lenR rfl Try.underlying23 h623 (gd_true hg))) ?_
            refine T0_g (v := v653) (!(!decide (r603.2 = r649.2))) (wanted_f rfl rfl rfl rfl) (fun hg => (yl_move rfl)) ?_
            refine T0_g (v := (.int .i64 (r649.1.length : Int))) (!(!decide (r603.2 = r649.2))) (wanted_f rfl rfl rfl rfl) (fun hg => (yl_lenR rfl Try.underlying23 h654 (gd_true hg))) ?_
            refine T0_g (v := (.bool (!decide ((r603.1.length : Int) = (r649.1.length : Int))))) (!(!decide (r603.2 = r649.2))) (wanted_f rfl rfl rfl rfl) (fun hg => (yl_neq (gd_true hg) (gd_true hg))) ?_
            refine T0_q (v := (.bool ((!decide (r603.2 = r649.2)) || (!decide ((r603.1.length : Int) = (r649.1.length : Int)))))) rfl (yl_or rfl rfl (fun hb => (gd_true (not_t hb)))) ?_
            refine T0_q (v := (.bool ((!decide (r603.2 = r649.2)) || (!decide ((r603.1.length : Int) = (r649.1.length : Int)))))) rfl (yl_move rfl) ?_
            refine T0_g (v := v607) (!((!decide (r603.2 = r649.2)) || (!decide ((r603.1.length : Int) = (r649.1.length : Int))))) (wanted_f rfl rfl rfl rfl) (fun hg => (yl_move rfl)) ?_
            have hq := bind_elim h
            clear h
            obtain ⟨r662, hr663, h⟩ := hq
            refine T0_gx (fun v w' => SlRd ((.pointer (some ⟨b107, 0, none⟩)) :: L) w' v r662) (!((!decide (r603.2 = r649.2)) || (!decide ((r603.1.length : Int) = (r649.1.length : Int))))) (wanted_f rfl rfl rfl rfl) (fun hg => eff_call Try.func20 nm20 rfl (ev1 (gd_true hg)) (guidewaytop_backward_ok ((.pointer (some ⟨b107, 0, none⟩)) :: L) _ (ltl_box (hL.chg e658) (hB489.ext e655)) v607 r603.1 (h623.ext e656) r662 (cond_t hg hr663)) (by rintro _ wd664 ⟨he665, v666, rfl, h667⟩; exact ⟨he665, h667⟩)) ?_
            intro v668 wd664 he665 h669
            have e670 := e655.trans he665
            have e671 := e656.trans he665
            have e672 := e657.trans he665
            have e673 := he652.trans he665
            have e674 := e658.trans he665
            refine T0_g (v := v653) (!((!decide (r603.2 = r649.2)) || (!decide ((r603.1.length : Int) = (r649.1.length : Int))))) (wanted_f rfl rfl rfl rfl) (fun hg => (yl_move rfl)) ?_
            have hq := bind_elim h
            clear h
            obtain ⟨r677, hr678, h⟩ := hq
            refine T0_ges (!((!decide (r603.2 = r649.2)) || (!decide ((r603.1.length : Int) = (r649.1.length : Int))))) (.bool r677) (wanted_f rfl rfl rfl rfl) (fun hg => eff_call Try.func24 nm24 rfl (ev2 (gd_true hg) (gd_true hg)) (base_Ints_ok [] _ (LtL.nil _) v668 r662 ((h669 hg).sub (fun _ h => by cases h)) v653 r649.1 ((h654.ext he665).sub (fun _ h => by cases h)) r677 (cond_t hg hr678)) (by rintro _ wd679 ⟨he680, rfl⟩; exact ⟨rfl, he680⟩)) ?_
            intro wd679 he680
            have e681 := e670.trans he680
            have e682 := e671.trans he680
            have e683 := e672.trans he680
            have e684 := e673.trans he680
            have e685 := he665.trans he680
            have e686 := e674.trans he680
            refine T0_g (v := (.bool (!r677))) (!((!decide (r603.2 = r649.2)) || (!decide ((r603.1.length : Int) = (r649.1.length : Int))))) (wanted_f rfl rfl rfl rfl) (fun hg => (yl_not (gd_true hg))) ?_
            refine T0_q (v := (.bool (((!decide (r603.2 = r649.2)) || (!decide ((r603.1.length : Int) = (r649.1.length : Int)))) || (!r677)))) rfl (yl_or rfl rfl (fun hb => (gd_true (not_t hb)))) ?_
            refine T0_nil ?_
            refine hK661 _ _ ?_
            refine WC_cond (b := (((!decide (r603.2 = r649.2)) || (!decide ((r603.1.length : Int) = (r649.1.length : Int)))) || (!r677))) rfl (fun hb687 => ?_) (fun hb687 => ?_)
            · clear hK135 hK580 hK613 hK660 hK661
              replace h := cond_t hb687 h
              refine WC_seqK fun K688 hK688 => ?_
              refine WC_region ?_
              refine T0_q (v := (.bool false)) rfl (yl_assign rfl) ?_
              refine T0_nil ?_
              refine hK688 _ _ ?_
              refine WC_ret ?_
              replace h := some_out h
              subst h
              exact ⟨[(.bool false)], ⟨rfl, trivial⟩, e686, rfl⟩
            · clear hK135 hK580 hK613 hK661
              replace h := cond_f hb687 h
              refine WC_skip ?_
              refine hK660 _ _ ?_
              refine WC_seqK fun K689 hK689 => ?_
              refine WC_planX mixed (.p 2 (.p 5 (.p 7 (.q 0 (.q 3 (.q 6 (.q 8 (.e 1 (.e 4 (.p 9 (.e 10 (.p 11 (.p 12 (.p 13 (.p 14 (.p 15 .done)))))))))))))))) (by kernel_rfl) ?_
              intro wd690 he691
              have e692 := e681.trans he691
              have e693 := e682.trans he691
              have e694 := e683.trans he691
              have e695 := e684.trans he691
              have e696 := e685.trans he691
              have e697 := he680.trans he691
              have e698 := e686.trans he691
              refine TX_p (v := (.pointer (some ⟨b20, 0, none⟩))) rfl rfl (fun w' => (yl_fa 0 Try.underlying50 rfl rfl ⟨0, sz47⟩ hs479 rfl)) ?_
              refine TX_p (v := (.pointer (some ⟨b20, 1, none⟩))) rfl rfl (fun w' => (yl_fa 1 Try.underlying50 rfl rfl ⟨1, sz48⟩ hs479 rfl)) ?_
              refine TX_p (v := (.pointer (some ⟨b20, 3, none⟩))) rfl rfl (fun w' => (yl_fa 3 Try.underlying50 rfl rfl ⟨0, sz3⟩ hs479 rfl)) ?_
              refine TX_q (v := (.agg (List.toArray [(.int .i64 p_Listappend.Den), v1, v3]))) rfl rfl (fun w' hS => (yl_loadA (cs := [(.int .i64 p_Listappend.Den), v1, v3]) ag25 hs478 (Box.at (hB493.ext (e692.trans hS))))) ?_
              refine TX_q (v := v7) rfl rfl (fun w' hS => (yl_load sc47 rfl (Box.at (hB496.ext (e692.trans hS))))) ?_
              refine TX_q (v := (.agg (List.toArray [(.int .i64 p_String.Rate.e0), (.int .i64 p_String.Rate.e1)]))) rfl rfl (fun w' hS => (yl_loadA (cs := [(.int .i64 p_String.Rate.e0), (.int .i64 p_String.Rate.e1)]) ag48 rfl (At.take (At.drop (Box.at (hB496.ext (e692.trans hS))) 1) 2))) ?_
              refine TX_q (v := (.int .i64 p_String.Level)) rfl rfl (fun w' hS => (yl_load sc3 rfl (At.drop (Box.at (hB496.ext (e692.trans hS))) 3))) ?_
              have hq := bind_elim h
              clear h
              obtain ⟨r699, hr700, h⟩ := hq
              refine TX_e rfl rfl (eff_call Try.func10 nm10 rfl (ev1 rfl) (ref02_CopyPlant_ok ((.pointer (some ⟨b107, 0, none⟩)) :: L) _ (ltl_box (hL.chg e698) (hB489.ext e692)) [(.int .i64 p_Listappend.Den), v1, v3] p_Listappend ⟨v1, v3, (h617.ext e693), (h618.ext e693), rfl⟩ r699 hr700) ?_)
              rintro _ wd701 ⟨he702, cs707, rfl, hrd708⟩
              have e709 := e692.trans he702
              have e710 := e693.trans he702
              have e711 := e694.trans he702
              have e712 := e695.trans he702
              have e713 := e696.trans he702
              have e714 := e697.trans he702
              have e715 := e698.trans he702
              obtain ⟨v703, v705, h704, h706, rfl⟩ := hrd708
              refine ⟨he702, ?_⟩
              have hq := bind_elim h
              clear h
              obtain ⟨r718, hr719, h⟩ := hq
              refine TX_e rfl rfl (eff_call Try.func26 nm26 rfl (ev1 rfl) (base_CopyLists_ok ((.pointer (some ⟨b107, 0, none⟩)) :: L) _ (ltl_box (hL.chg e715) (hB489.ext e709)) v7 p_String.Form (h619.ext e710) r718 hr719) ?_)
              rintro _ wd720 ⟨he721, v722, rfl, h723⟩
              have e724 := e709.trans he721
              have e725 := e710.trans he721
              have e726 := e711.trans he721
              have e727 := e712.trans he721
              have e728 := e713.trans he721
              have e729 := e714.trans he721
              have e730 := e715.trans he721
              refine ⟨he721, ?_⟩
              refine TX_p (v := (.agg (List.toArray [v722, (.int .i64 p_String.Rate.e0), (.int .i64 p_String.Rate.e1), (.int .i64 p_String.Level)]))) rfl rfl (fun w' => (yl_buildC (cells := [v722, (.int .i64 p_String.Rate.e0), (.int .i64 p_String.Rate.e1), (.int .i64 p_String.Level)]) bi50 (pc_cons rfl (cells_one h723.one1) (pc_cons rfl rfl (pc_cons rfl rfl pc_nil))) rfl)) ?_
              have hq := bind_elim h
              clear h
              obtain ⟨r732, hr733, h⟩ := hq
              refine TX_e rfl rfl (eff_call Try.func25 nm25 rfl (ev2 rfl rfl) (levitate_CheckProof_ok ((.pointer (some ⟨b107, 0, none⟩)) :: L) _ (ltl_box (hL.chg e730) (hB489.ext e724)) [(.int .i64 r699.Den), v703, v705] r699 ⟨v703, v705, (h704.ext he721), (h706.ext he721), rfl⟩ [v722, (.int .i64 p_String.Rate.e0), (.int .i64 p_String.Rate.e1), (.int .i64 p_String.Level)] (LevitateProof.mk r718 p_String.Rate p_String.Level) ⟨v722, h723, rfl⟩ r732 hr733) ?_)
              rintro _ wd734 ⟨he735, v736, rfl, h737⟩
              have e738 := e724.trans he735
              have e739 := e725.trans he735
              have e740 := e726.trans he735
              have e741 := e727.trans he735
              have e742 := e728.trans he735
              have e743 := e729.trans he735
              have e744 := he721.trans he735
              have e745 := e730.trans he735
              refine ⟨he735, ?_⟩
              refine TX_p (v := (.tuple #[v736, (.int .i64 r732.2)])) rfl rfl (fun w' => (yl_move rfl)) ?_
              refine TX_p (v := v736) rfl rfl (fun w' => (yl_extract rfl rfl)) ?_
              refine TX_p (v := (.int .i64 r732.2)) rfl rfl (fun w' => (yl_extract rfl rfl)) ?_
              refine TX_p (v := v736) rfl rfl (fun w' => (yl_assign rfl)) ?_
              refine TX_p (v := (.int .i64 r732.2)) rfl rfl (fun w' => (yl_assign rfl)) ?_
              refine TX_done ?_
              refine hK689 _ _ ?_
              refine WC_seqK fun K747 hK747 => ?_
              refine WC_planX mixed (.p 2 (.p 5 (.p 7 (.q 0 (.q 3 (.q 6 (.q 8 (.e 1 (.e 4 (.p 9 (.e 10 (.p 11 (.p 12 (.p 13 (.p 14 (.p 15 .done)))))))))))))))) (by kernel_rfl) ?_
              intro wd748 he749
              have e750 := e738.trans he749
              have e751 := e739.trans he749
              have e752 := e740.trans he749
              have e753 := e741.trans he749
              have e754 := e742.trans he749
              have e755 := e743.trans he749
              have e756 := e744.trans he749
              have e757 := he735.trans he749
              have e758 := e745.trans he749
              refine TX_p (v := (.pointer (some ⟨b20, 0, none⟩))) rfl rfl (fun w' => (yl_fa 0 Try.underlying50 rfl rfl ⟨0, sz47⟩ hs479 rfl)) ?_
              refine TX_p (v := (.pointer (some ⟨b20, 1, none⟩))) rfl rfl (fun w' => (yl_fa 1 Try.underlying50 rfl rfl ⟨1, sz48⟩ hs479 rfl)) ?_
              refine TX_p (v := (.pointer (some ⟨b20, 3, none⟩))) rfl rfl (fun w' => (yl_fa 3 Try.underlying50 rfl rfl ⟨0, sz3⟩ hs479 rfl)) ?_
              refine TX_q (v := (.agg (List.toArray [(.int .i64 p_Listappend.Den), v482, v100]))) rfl rfl (fun w' hS => (yl_loadA (cs := [(.int .i64 p_Listappend.Den), v482, v100]) ag25 hs480 (Box.at (hB489.ext (e750.trans hS))))) ?_
              refine TX_q (v := v7) rfl rfl (fun w' hS => (yl_load sc47 rfl (Box.at (hB496.ext (e750.trans hS))))) ?_
              refine TX_q (v := (.agg (List.toArray [(.int .i64 p_String.Rate.e0), (.int .i64 p_String.Rate.e1)]))) rfl rfl (fun w' hS => (yl_loadA (cs := [(.int .i64 p_String.Rate.e0), (.int .i64 p_String.Rate.e1)]) ag48 rfl (At.take (At.drop (Box.at (hB496.ext (e750.trans hS))) 1) 2))) ?_
              refine TX_q (v := (.int .i64 p_String.Level)) rfl rfl (fun w' hS => (yl_load sc3 rfl (At.drop (Box.at (hB496.ext (e750.trans hS))) 3))) ?_
              have hq := bind_elim h
              clear h
              obtain ⟨r759, hr760, h⟩ := hq
              refine TX_e rfl rfl (eff_call Try.func10 nm10 rfl (ev1 rfl) (ref02_CopyPlant_ok ((.pointer (some ⟨b107, 0, none⟩)) :: L) _ (ltl_box (hL.chg e758) (hB489.ext e750)) [(.int .i64 p_Listappend.Den), v482, v100] (LevitatePlant.mk p_Listappend.Den x483 r96) ⟨v482, v100, (h614.ext e751), (h616.ext e751), rfl⟩ r759 hr760) ?_)
              rintro _ wd761 ⟨he762, cs767, rfl, hrd768⟩
              have e769 := e750.trans he762
              have e770 := e751.trans he762
              have e771 := e752.trans he762
              have e772 := e753.trans he762
              have e773 := e754.trans he762
              have e774 := e755.trans he762
              have e775 := e756.trans he762
              have e776 := e757.trans he762
              have e777 := he749.trans he762
              have e778 := e758.trans he762
              obtain ⟨v763, v765, h764, h766, rfl⟩ := hrd768
              refine ⟨he762, ?_⟩
              have hq := bind_elim h
              clear h
              obtain ⟨r781, hr782, h⟩ := hq
              refine TX_e rfl rfl (eff_call Try.func21 nm21 rfl (ev1 rfl) (guidewaytop_crossed_ok ((.pointer (some ⟨b107, 0, none⟩)) :: L) _ (ltl_box (hL.chg e778) (hB489.ext e769)) v7 p_String.Form (h619.ext e770) r781 hr782) ?_)
              rintro _ wd783 ⟨he784, v785, rfl, h786⟩
              have e787 := e769.trans he784
              have e788 := e770.trans he784
              have e789 := e771.trans he784
              have e790 := e772.trans he784
              have e791 := e773.trans he784
              have e792 := e774.trans he784
              have e793 := e775.trans he784
              have e794 := e776.trans he784
              have e795 := e777.trans he784
              have e796 := e778.trans he784
              refine ⟨he784, ?_⟩
              refine TX_p (v := (.agg (List.toArray [v785, (.int .i64 p_String.Rate.e0), (.int .i64 p_String.Rate.e1), (.int .i64 p_String.Level)]))) rfl rfl (fun w' => (yl_buildC (cells := [v785, (.int .i64 p_String.Rate.e0), (.int .i64 p_String.Rate.e1), (.int .i64 p_String.Level)]) bi50 (pc_cons rfl (cells_one h786.one1) (pc_cons rfl rfl (pc_cons rfl rfl pc_nil))) rfl)) ?_
              have hq := bind_elim h
              clear h
              obtain ⟨r798, hr799, h⟩ := hq
              refine TX_e rfl rfl (eff_call Try.func25 nm25 rfl (ev2 rfl rfl) (levitate_CheckProof_ok ((.pointer (some ⟨b107, 0, none⟩)) :: L) _ (ltl_box (hL.chg e796) (hB489.ext e787)) [(.int .i64 r759.Den), v763, v765] r759 ⟨v763, v765, (h764.ext he784), (h766.ext he784), rfl⟩ [v785, (.int .i64 p_String.Rate.e0), (.int .i64 p_String.Rate.e1), (.int .i64 p_String.Level)] (LevitateProof.mk r781 p_String.Rate p_String.Level) ⟨v785, h786, rfl⟩ r798 hr799) ?_)
              rintro _ wd800 ⟨he801, v802, rfl, h803⟩
              have e804 := e787.trans he801
              have e805 := e788.trans he801
              have e806 := e789.trans he801
              have e807 := e790.trans he801
              have e808 := e791.trans he801
              have e809 := e792.trans he801
              have e810 := e793.trans he801
              have e811 := e794.trans he801
              have e812 := e795.trans he801
              have e813 := he784.trans he801
              have e814 := e796.trans he801
              refine ⟨he801, ?_⟩
              refine TX_p (v := (.tuple #[v802, (.int .i64 r798.2)])) rfl rfl (fun w' => (yl_move rfl)) ?_
              refine TX_p (v := v802) rfl rfl (fun w' => (yl_extract rfl rfl)) ?_
              refine TX_p (v := (.int .i64 r798.2)) rfl rfl (fun w' => (yl_extract rfl rfl)) ?_
              refine TX_p (v := v802) rfl rfl (fun w' => (yl_assign rfl)) ?_
              refine TX_p (v := (.int .i64 r798.2)) rfl rfl (fun w' => (yl_assign rfl)) ?_
              refine TX_done ?_
              refine hK747 _ _ ?_
              refine WC_seqK fun K816 hK816 => ?_
              refine WC_region ?_
              refine T0_q (v := (.int .i64 r732.2)) rfl (yl_move rfl) ?_
              refine T0_q (v := (.int .i64 r798.2)) rfl (yl_move rfl) ?_
              refine T0_q (v := (.bool (decide (r732.2 = r798.2)))) rfl (yl_eql rfl rfl) ?_
              refine T0_q (v := (.bool (decide (r732.2 = r798.2)))) rfl (yl_move rfl) ?_
              refine T0_g (v := v736) (decide (r732.2 = r798.2)) (wanted_t rfl rfl rfl rfl) (fun hg => (yl_move rfl)) ?_
              refine T0_g (v := (.int .i64 (r732.1.length : Int))) (decide (r732.2 = r798.2)) (wanted_t rfl rfl rfl rfl) (fun hg => (yl_lenR rfl Try.underlying23 h737 (gd_true hg))) ?_
              refine T0_g (v := v802) (decide (r732.2 = r798.2)) (wanted_t rfl rfl rfl rfl) (fun hg => (yl_move rfl)) ?_
              refine T0_g (v := (.int .i64 (r798.1.length : Int))) (decide (r732.2 = r798.2)) (wanted_t rfl rfl rfl rfl) (fun hg => (yl_lenR rfl Try.underlying23 h803 (gd_true hg))) ?_
              refine T0_g (v := (.bool (decide ((r732.1.length : Int) = (r798.1.length : Int))))) (decide (r732.2 = r798.2)) (wanted_t rfl rfl rfl rfl) (fun hg => (yl_eql (gd_true hg) (gd_true hg))) ?_
              refine T0_q (v := (.bool ((decide (r732.2 = r798.2)) && (decide ((r732.1.length : Int) = (r798.1.length : Int)))))) rfl (yl_and rfl (fun hb => (gd_true hb)) rfl) ?_
              refine T0_q (v := (.bool ((decide (r732.2 = r798.2)) && (decide ((r732.1.length : Int) = (r798.1.length : Int)))))) rfl (yl_move rfl) ?_
              refine T0_g (v := v736) ((decide (r732.2 = r798.2)) && (decide ((r732.1.length : Int) = (r798.1.length : Int)))) (wanted_t rfl rfl rfl rfl) (fun hg => (yl_move rfl)) ?_
              have hq := bind_elim h
              clear h
              obtain ⟨r817, hr818, h⟩ := hq
              refine T0_gx (fun v w' => SlRd ((.pointer (some ⟨b107, 0, none⟩)) :: L) w' v r817) ((decide (r732.2 = r798.2)) && (decide ((r732.1.length : Int) = (r798.1.length : Int)))) (wanted_t rfl rfl rfl rfl) (fun hg => eff_call Try.func20 nm20 rfl (ev1 (gd_true hg)) (guidewaytop_backward_ok ((.pointer (some ⟨b107, 0, none⟩)) :: L) _ (ltl_box (hL.chg e814) (hB489.ext e804)) v736 r732.1 (h737.ext e812) r817 (cond_t hg hr818)) (by rintro _ wd819 ⟨he820, v821, rfl, h822⟩; exact ⟨he820, h822⟩)) ?_
              intro v823 wd819 he820 h824
              have e825 := e804.trans he820
              have e826 := e805.trans he820
              have e827 := e806.trans he820
              have e828 := e807.trans he820
              have e829 := e808.trans he820
              have e830 := e809.trans he820
              have e831 := e810.trans he820
              have e832 := e811.trans he820
              have e833 := e812.trans he820
              have e834 := e813.trans he820
              have e835 := he801.trans he820
              have e836 := e814.trans he820
              refine T0_g (v := v802) ((decide (r732.2 = r798.2)) && (decide ((r732.1.length : Int) = (r798.1.length : Int)))) (wanted_t rfl rfl rfl rfl) (fun hg => (yl_move rfl)) ?_
              have hq := bind_elim h
              clear h
              obtain ⟨r839, hr840, h⟩ := hq
              refine T0_ges ((decide (r732.2 = r798.2)) && (decide ((r732.1.length : Int) = (r798.1.length : Int)))) (.bool r839) (wanted_t rfl rfl rfl rfl) (fun hg => eff_call Try.func24 nm24 rfl (ev2 (gd_true hg) (gd_true hg)) (base_Ints_ok [] _ (LtL.nil _) v823 r817 ((h824 hg).sub (fun _ h => by cases h)) v802 r798.1 ((h803.ext he820).sub (fun _ h => by cases h)) r839 (cond_t hg hr840)) (by rintro _ wd841 ⟨he842, rfl⟩; exact ⟨rfl, he842⟩)) ?_
              intro wd841 he842
              have e843 := e825.trans he842
              have e844 := e826.trans he842
              have e845 := e827.trans he842
              have e846 := e828.trans he842
              have e847 := e829.trans he842
              have e848 := e830.trans he842
              have e849 := e831.trans he842
              have e850 := e832.trans he842
              have e851 := e833.trans he842
              have e852 := e834.trans he842
              have e853 := e835.trans he842
              have e854 := he820.trans he842
              have e855 := e836.trans he842
              refine T0_q (v := (.bool (((decide (r732.2 = r798.2)) && (decide ((r732.1.length : Int) = (r798.1.length : Int)))) && r839))) rfl (yl_and rfl (fun hb => (gd_true hb)) rfl) ?_
              refine T0_q (v := (.bool (((decide (r732.2 = r798.2)) && (decide ((r732.1.length : Int) = (r798.1.length : Int)))) && r839))) rfl (yl_assign rfl) ?_
              refine T0_nil ?_
              refine hK816 _ _ ?_
              refine WC_ret ?_
              replace h := some_out h
              subst h
              exact ⟨[(.bool (((decide (r732.2 = r798.2)) && (decide ((r732.1.length : Int) = (r798.1.length : Int)))) && r839))], ⟨rfl, trivial⟩, e855, rfl⟩
        · clear hK77
          skip
          refine  (eff_allocZ zi25 ?_)
          intro b856 wd857 hb858 he859 hB860
          have hn861 : b856 ≠ b12 := box_ne (hB16.ext e93) hb858
          have hn862 : b856 ≠ b20 := box_ne (hB24.ext e94) hb858
          have hbf863 := bfresh e95 hb858
          have h864 := (h2.ext e92).step (add_box he859 hb858)
          have h865 := (h4.ext e92).step (add_box he859 hb858)
          have h866 := (h8.ext e92).step (add_box he859 hb858)
          have h867 := (h_p_ListappendStringpproofstartpproofstartqmaebfxgyh.ext e92).step (add_box he859 hb858)
          have e868 := e93.trans he859
          have e869 := e94.trans he859
          have e870 := e95.trans he859
          refine ⟨he859, ?_⟩
          have hq := bind_elim h
          clear h
          obtain ⟨r872, hr873, h⟩ := hq
          refine TX_e rfl rfl (eff_call Try.func20 nm20 rfl (ev1 rfl) (guidewaytop_backward_ok ((.pointer (some ⟨b856, 0, none⟩)) :: L) _ (ltl_box (hL.chg e870) hB860) v3 p_Listappend.Noise h865 r872 hr873) ?_)
          rintro _ wd874 ⟨he875, v876, rfl, h877⟩
          have e878 := e868.trans he875
          have e879 := e869.trans he875
          have e880 := e870.trans he875
          refine ⟨he875, ?_⟩
          refine TX_p (v := (.agg (List.toArray [(.int .i64 p_Listappend.Den), (.slice none 0 0), v876]))) rfl rfl (fun w' => (yl_buildC (cells := [(.int .i64 p_Listappend.Den), (.slice none 0 0), v876]) bi25 (pc_cons rfl rfl (pc_cons rfl (cells_one h877.one1) pc_nil)) rfl)) ?_
          refine TX_b rfl rfl (eff_storeC (vs := [(.int .i64 p_Listappend.Den), (.slice none 0 0), v876]) (cs' := [(.int .i64 p_Listappend.Den), (.slice none 0 0), v876]) sz25 rfl rfl rfl rfl (hB860.ext he875) rfl (oc_cons rfl (oc_cons rfl (oc_cons h877.one1 oc_nil))) rfl ?_)
          intro wd882 hc883 hB884
          have h885 := (h864.ext he875).step (Stepp.chg_mem hc883 mem0)
          have h886 := (h865.ext he875).step (Stepp.chg_mem hc883 mem0)
          have h887 := (h866.ext he875).step (Stepp.chg_mem hc883 mem0)
          have h888 := (h867.ext he875).step (Stepp.chg_mem hc883 mem0)
          have h889 := (hB16.ext e878).chg hc883 (avoidb hn861)
          have h890 := (hB24.ext e879).chg hc883 (avoidb hn862)
          have h891 := h877.step (Stepp.chg_mem hc883 mem0)
          have e892 := chg_box e880 hc883 hbf863
          refine TX_done ?_
          refine hK89 _ _ ?_
          refine WC_seqK fun K893 hK893 => ?_
          refine WC_seqK fun K894 hK894 => ?_
          refine WC_region ?_
          refine T0_q (v := (.int .i64 0)) rfl (yl_assign rfl) ?_
          refine T0_nil ?_
          refine hK894 _ _ ?_
          have h1224 := h885.step (add_nil _)
          have h1225 := h886.step (add_nil _)
          have h1226 := h887.step (add_nil _)
          have h1227 := h888.step (add_nil _)
          have h1228 := h891.step (add_nil _)
          have h1230 : Own 47 ((.slice none 0 0) :: (.pointer (some ⟨b856, 0, none⟩)) :: L) wd882 (.slice none 0 0) ([] : List (List (List Int))) := Own.nil _ _ _
          have hq := bind_elim h
          clear h
          obtain ⟨o1258, hl1259, hn1260⟩ := hq
          refine WC_post (fun (ρ : Env) (wd1232 : World) => ∃ (x1248 : (List (List (List Int)))) (v1247 : Value), x1248 = o1258 ∧ ρ 2 = v_p_ListappendStringpproofstartpproofstartqmaebfxgyh ∧ ρ 3 = (.pointer (some ⟨b12, 0, none⟩)) ∧ ρ 4 = (.pointer (some ⟨b20, 0, none⟩)) ∧ ρ 7 = (.pointer (some ⟨b856, 0, none⟩)) ∧ SlRd (v1247 :: (.pointer (some ⟨b856, 0, none⟩)) :: L) wd1232 v_p_ListappendStringpproofstartpproofstartqmaebfxgyh p_ListappendStringpproofstartpproofstartqmaebfxgyh ∧ SlRd (v1247 :: (.pointer (some ⟨b856, 0, none⟩)) :: L) wd1232 v1 p_Listappend.Maps ∧ SlRd (v1247 :: (.pointer (some ⟨b856, 0, none⟩)) :: L) wd1232 v3 p_Listappend.Noise ∧ SlRd (v1247 :: (.pointer (some ⟨b856, 0, none⟩)) :: L) wd1232 v7 p_String.Form ∧ SlRd (v1247 :: (.pointer (some ⟨b856, 0, none⟩)) :: L) wd1232 v876 r872 ∧ Box wd1232 b12 [(.int .i64 p_Listappend.Den), v1, v3] 25 ∧ Box wd1232 b20 [v7, (.int .i64 p_String.Rate.e0), (.int .i64 p_String.Rate.e1), (.int .i64 p_String.Level)] 50 ∧ Box wd1232 b856 [(.int .i64 p_Listappend.Den), v1247, v876] 25 ∧ Own 47 (v1247 :: (.pointer (some ⟨b856, 0, none⟩)) :: L) wd1232 v1247 x1248 ∧ (∀ b, blk v1247 = some b → w.heap.size ≤ b) ∧ (blk v1247 ≠ some b12) ∧ (blk v1247 ≠ some b20) ∧ (blk v1247 ≠ some b856) ∧ Ext w wd1232) ?_ ?_
          · clear hK89 hK893 hK894
            intro K1264 hK1264
            refine WC_block ?_
            refine WC_loopk (fun sv ρ wd1196 => ∃ (x1203 : Int) (x1214 : (List (List (List Int)))) (v1213 : Value), (x1203, x1214) = sv ∧ ρ 2 = v_p_ListappendStringpproofstartpproofstartqmaebfxgyh ∧ ρ 3 = (.pointer (some ⟨b12, 0, none⟩)) ∧ ρ 4 = (.pointer (some ⟨b20, 0, none⟩)) ∧ ρ 7 = (.pointer (some ⟨b856, 0, none⟩)) ∧ ρ 8 = (.int .i64 x1203) ∧ SlRd (v1213 :: (.pointer (some ⟨b856, 0, none⟩)) :: L) wd1196 v_p_ListappendStringpproofstartpproofstartqmaebfxgyh p_ListappendStringpproofstartpproofstartqmaebfxgyh ∧ SlRd (v1213 :: (.pointer (some ⟨b856, 0, none⟩)) :: L) wd1196 v1 p_Listappend.Maps ∧ SlRd (v1213 :: (.pointer (some ⟨b856, 0, none⟩)) :: L) wd1196 v3 p_Listappend.Noise ∧ SlRd (v1213 :: (.pointer (some ⟨b856, 0, none⟩)) :: L) wd1196 v7 p_String.Form ∧ SlRd (v1213 :: (.pointer (some ⟨b856, 0, none⟩)) :: L) wd1196 v876 r872 ∧ Box wd1196 b12 [(.int .i64 p_Listappend.Den), v1, v3] 25 ∧ Box wd1196 b20 [v7, (.int .i64 p_String.Rate.e0), (.int .i64 p_String.Rate.e1), (.int .i64 p_String.Level)] 50 ∧ Box wd1196 b856 [(.int .i64 p_Listappend.Den), v1213, v876] 25 ∧ Own 47 (v1213 :: (.pointer (some ⟨b856, 0, none⟩)) :: L) wd1196 v1213 x1214 ∧ (∀ b, blk v1213 = some b → w.heap.size ≤ b) ∧ (blk v1213 ≠ some b12) ∧ (blk v1213 ≠ some b20) ∧ (blk v1213 ≠ some b856) ∧ Ext w wd1196) hl1259 ⟨0, ([] : List (List (List Int))), (.slice none 0 0), rfl, rfl, rfl, rfl, rfl, rfl, h1227, h1224, h1225, h1226, h1228, h889, h890, hB884, h1230, (fun b h => blk_nil b h), (fun h => by cases h), (fun h => by cases h), (fun h => by cases h), e892⟩ ?_
            rintro _ ρ wd1196 ⟨x1203, x1214, v1213, rfl, hs1199, hs1200, hs1201, hs1202, hs1204, h1198, h1205, h1206, h1209, h1218, hB1208, hB1211, hB1220, h1216, hf1217, hn1221, hn1222, hn1223, e1197⟩ x1261 h hx1262 K1263 hK1263
            refine WC_seqK fun K1266 hK1266 => ?_
            refine WC_seqK fun K1267 hK1267 => ?_
            refine WC_region ?_
            refine T0_q (v := (.int .i64 x1203)) rfl (yl_move hs1204) ?_
            refine T0_q (v := (.pointer (some ⟨b12, 1, none⟩))) rfl (yl_fa 1 Try.underlying25 rfl rfl ⟨0, sz22⟩ hs1200 rfl) ?_
            refine T0_q (v := v1) rfl (yl_load sc22 rfl (At.drop (Box.at hB1208) 1)) ?_
            refine T0_q (v := (.int .i64 (p_Listappend.Maps.length : Int))) rfl (yl_lenR rfl Try.underlying22 h1205 rfl) ?_
            refine T0_q (v := (.bool (decide (x1203 < (p_Listappend.Maps.length : Int))))) rfl (yl_lss rfl rfl) ?_
            refine T0_nil ?_
            refine hK1267 _ _ ?_
            refine WC_cond (b := (decide (x1203 < (p_Listappend.Maps.length : Int)))) rfl (fun hb1268 => ?_) (fun hb1268 => ?_)
            · clear hK1264 hK1267
              replace h := cond_t hb1268 h
              refine WC_skip ?_
              refine hK1266 _ _ ?_
              refine WC_seqK fun K1269 hK1269 => ?_
              refine WC_block ?_
              refine WC_planX mixed (.p 0 (.p 2 (.p 4 (.q 1 (.q 3 (.p 5 (.q 6 (.e 7 (.e 8 (.b 9 (.p 10 (.b 11 .done)))))))))))) (by kernel_rfl) ?_
              intro wd1270 he1271
              have e1272 := e1197.trans he1271
              refine TX_p (v := (.pointer (some ⟨b856, 1, none⟩))) rfl rfl (fun w' => (yl_fa 1 Try.underlying25 rfl rfl ⟨0, sz22⟩ hs1202 rfl)) ?_
              refine TX_p (v := (.pointer (some ⟨b12, 1, none⟩))) rfl rfl (fun w' => (yl_fa 1 Try.underlying25 rfl rfl ⟨0, sz22⟩ hs1200 rfl)) ?_
              refine TX_p (v := (.int .i64 x1203)) rfl rfl (fun w' => (yl_move hs1204)) ?_
              refine TX_q (v := v1213) rfl rfl (fun w' hS => (yl_load sc22 rfl (At.drop (Box.at (hB1220.ext (he1271.trans hS))) 1))) ?_
              refine TX_q (v := v1) rfl rfl (fun w' hS => (yl_load sc22 rfl (At.drop (Box.at (hB1208.ext (he1271.trans hS))) 1))) ?_
              have hq := bind_elim h
              clear h
              obtain ⟨el1273, hel1274, h⟩ := hq
              have hq := SlRd.at h1205 hel1274
              obtain ⟨cs1277, hat1278, hrd1279⟩ := hq
              obtain ⟨v1275, rfl, h1276⟩ := hrd1279
              refine TX_p (v := (.pointer (some (elemAddr v1 (x1203 : Int).toNat 1)))) rfl rfl (fun w' => (yl_indexAddr Try.underlying22 sz47 h1205 hel1274 rfl rfl)) ?_
              refine TX_q (v := v1275) rfl rfl (fun w' hS => (yl_load sc47 rfl (hat1278.ext' (he1271.trans hS)))) ?_
              have hq := bind_elim h
              clear h
              obtain ⟨r1282, hr1283, h⟩ := hq
              refine TX_e rfl rfl (eff_call Try.func21 nm21 rfl (ev1 rfl) (guidewaytop_crossed_ok (v1213 :: (.pointer (some ⟨b856, 0, none⟩)) :: L) _ (ltl_own (ltl_box (hL.chg e1272) (hB1220.ext he1271)) (h1216.ext he1271)) v1275 el1273 (h1276.ext he1271) r1282 hr1283) ?_)
              rintro _ wd1284 ⟨he1285, v1286, rfl, h1287⟩
              have e1288 := he1271.trans he1285
              have e1289 := e1272.trans he1285
              refine ⟨he1285, ?_⟩
              refine TX_e rfl rfl (eff_buildTC (xs := ([r1282] : List (List (List Int)))) (cells := [v1286]) Try.underlying22 ei47 rfl (pc_cons rfl (cells_one h1287.one1) pc_nil) rfl (Elems.cons (cs := [v1286]) ⟨_, rfl, h1287⟩ Elems.nil) rfl (ltl_own (ltl_box (hL.chg e1289) (hB1220.ext e1288)) (h1216.ext e1288)) ?_)
              intro b1294 wd1291 he1292 h1293
              have e1295 := e1288.trans he1292
              have e1296 := e1289.trans he1292
              refine ⟨he1292, ?_⟩
              have hq := bind_elim h
              clear h
              obtain ⟨zs1298, hz1299, h⟩ := hq
              refine TX_b rfl rfl (eff_app Try.underlying22 ei47 rfl rfl rfl rfl (h1216.ext e1295) h1293 hz1299 ?_)
              intro v1300 wd1301 hc1302 hbl1303 h1304
              have hn1306 : blk v1300 ≠ some b12 := ne_swap hbl1303 hn1221 (hB1208.ext e1295)
              have hn1307 : blk v1300 ≠ some b20 := ne_swap hbl1303 hn1222 (hB1211.ext e1295)
              have hn1308 : blk v1300 ≠ some b856 := ne_swap hbl1303 hn1223 (hB1220.ext e1295)
              have hf1309 := fresh_swap hbl1303 hf1217 e1296.size
              have h1310 := (h1198.ext e1295).step (Stepp.swap hc1302 hbl1303)
              have h1311 := (h1205.ext e1295).step (Stepp.swap hc1302 hbl1303)
              have h1312 := (h1206.ext e1295).step (Stepp.swap hc1302 hbl1303)
              have h1313 := (hB1208.ext e1295).chg hc1302 (avoid1 hn1221)
              have h1314 := (h1209.ext e1295).step (Stepp.swap hc1302 hbl1303)
              have h1315 := (hB1211.ext e1295).chg hc1302 (avoid1 hn1222)
              have h1316 := (h1218.ext e1295).step (Stepp.swap hc1302 hbl1303)
              have h1317 := (hB1220.ext e1295).chg hc1302 (avoid1 hn1223)
              have h1318 := (h1276.ext e1295).step (Stepp.swap hc1302 hbl1303)
              have h1319 := (h1287.ext he1292).step (Stepp.swap hc1302 hbl1303)
              have h1320 := h1293.step (Stepp.swap hc1302 hbl1303)
              have e1321 := chg_own e1296 hc1302 hf1217
              refine TX_p (v := (.pointer (some ⟨b856, 1, none⟩))) rfl rfl (fun w' => (yl_fa 1 Try.underlying25 rfl rfl ⟨0, sz22⟩ hs1202 rfl)) ?_
              refine TX_b rfl rfl (eff_storeC (vs := [v1300]) (cs' := [(.int .i64 p_Listappend.Den), v1300, v876]) sz22 (cells_one h1304.one1) rfl rfl rfl h1317 rfl (oc_cons h1304.one1 oc_nil) rfl ?_)
              intro wd1323 hc1324 hB1325
              have h1326 := h1310.step (Stepp.chg_mem hc1324 (memS mem0))
              have h1327 := h1311.step (Stepp.chg_mem hc1324 (memS mem0))
              have h1328 := h1312.step (Stepp.chg_mem hc1324 (memS mem0))
              have h1329 := h1313.chg hc1324 (avoidb hn861)
              have h1330 := h1314.step (Stepp.chg_mem hc1324 (memS mem0))
              have h1331 := h1315.chg hc1324 (avoidb hn862)
              have h1332 := h1316.step (Stepp.chg_mem hc1324 (memS mem0))
              have h1333 := h1318.step (Stepp.chg_mem hc1324 (memS mem0))
              have h1334 := h1319.step (Stepp.chg_mem hc1324 (memS mem0))
              have h1335 := h1320.step (Stepp.chg_mem hc1324 (memS mem0))
              have h1336 := h1304.step (Stepp.chg_mem hc1324 (memS mem0)) hc1324 (av_box hn1308)
              have e1337 := chg_box e1321 hc1324 hbf863
              refine TX_done ?_
              refine hK1269 _ _ ?_
              refine WC_region ?_
              refine T0_q (v := (.int .i64 x1203)) rfl (yl_move hs1204) ?_
              refine T0_q (v := (.int .i64 (w64 (x1203 + 1)))) rfl (yl_add rfl rfl) ?_
              refine T0_q (v := (.int .i64 (w64 (x1203 + 1)))) rfl (yl_assign rfl) ?_
              refine T0_nil ?_
              replace h := some_out h
              subst h
              refine hK1263 _ _ _ rfl ?_
              exact ⟨w64 (x1203 + 1), zs1298, v1300, rfl, hs1199, hs1200, hs1201, hs1202, rfl, h1326, h1327, h1328, h1330, h1332, h1329, h1331, hB1325, h1336, hf1309, hn1306, hn1307, hn1308, e1337⟩
            · clear hK1263 hK1266 hK1267
              replace h := cond_f hb1268 h
              refine WC_exit ?_
              replace h := some_out h
              subst h
              have ho := hx1262 _ rfl
              subst ho
              refine hK1264 _ _ ?_
              exact ⟨x1214, v1213, rfl, hs1199, hs1200, hs1201, hs1202, h1198, h1205, h1206, h1209, h1218, hB1208, hB1211, hB1220, h1216, hf1217, hn1221, hn1222, hn1223, e1197⟩
          · clear hK89 hK894
            rintro ρ wd1232 ⟨x1248, v1247, rfl, hs1235, hs1236, hs1237, hs1238, h1234, h1239, h1240, h1243, h1252, hB1242, hB1245, hB1254, h1250, hf1251, hn1255, hn1256, hn1257, e1233⟩
            replace h := hn1260
            refine hK893 _ _ ?_
            refine WC_seqK fun K1338 hK1338 => ?_
            refine WC_region ?_
            refine T0_q (v := (.agg (List.toArray [(.int .i64 p_Listappend.Den), v1, v3]))) rfl (yl_loadA (cs := [(.int .i64 p_Listappend.Den), v1, v3]) ag25 hs1236 (Box.at hB1242)) ?_
            have hq := bind_elim h
            clear h
            obtain ⟨r1339, hr1340, h⟩ := hq
            refine T0_e rfl (eff_call Try.func10 nm10 rfl (ev1 rfl) (ref02_CopyPlant_ok (v1247 :: (.pointer (some ⟨b856, 0, none⟩)) :: L) _ (ltl_own (ltl_box (hL.chg e1233) hB1254) h1250) [(.int .i64 p_Listappend.Den), v1, v3] p_Listappend ⟨v1, v3, h1239, h1240, rfl⟩ r1339 hr1340) ?_)
            rintro _ wd1341 ⟨he1342, cs1347, rfl, hrd1348⟩
            have e1349 := e1233.trans he1342
            obtain ⟨v1343, v1345, h1344, h1346, rfl⟩ := hrd1348
            refine T0_q (v := v_p_ListappendStringpproofstartpproofstartqmaebfxgyh) rfl (yl_move hs1235) ?_
            have hq := bind_elim h
            clear h
            obtain ⟨r1352, hr1353, h⟩ := hq
            refine T0_e rfl (eff_call Try.func23 nm23 rfl (ev1 rfl) (base_CopyInts_ok (v1247 :: (.pointer (some ⟨b856, 0, none⟩)) :: L) _ (ltl_own (ltl_box (hL.chg e1349) (hB1254.ext he1342)) (h1250.ext he1342)) v_p_ListappendStringpproofstartpproofstartqmaebfxgyh p_ListappendStringpproofstartpproofstartqmaebfxgyh (h1234.ext he1342) r1352 hr1353) ?_)
            rintro _ wd1354 ⟨he1355, v1356, rfl, h1357⟩
            have e1358 := he1342.trans he1355
            have e1359 := e1349.trans he1355
            have hq := bind_elim h
            clear h
            obtain ⟨r1361, hr1362, h⟩ := hq
            refine T0_e rfl (eff_call Try.func22 nm22 rfl (ev2 rfl rfl) (levitate_LeastBox_ok (v1247 :: (.pointer (some ⟨b856, 0, none⟩)) :: L) _ (ltl_own (ltl_box (hL.chg e1359) (hB1254.ext e1358)) (h1250.ext e1358)) [(.int .i64 r1339.Den), v1343, v1345] r1339 ⟨v1343, v1345, (h1344.ext he1355), (h1346.ext he1355), rfl⟩ v1356 r1352 h1357 r1361 hr1362) ?_)
            rintro _ wd1363 ⟨he1364, v1365, rfl, h1366⟩
            have e1367 := e1358.trans he1364
            have e1368 := he1355.trans he1364
            have e1369 := e1359.trans he1364
            refine T0_q (v := (.tuple #[v1365, (.int .i64 r1361.2)])) rfl (yl_move rfl) ?_
            refine T0_q (v := v1365) rfl (yl_extract rfl rfl) ?_
            refine T0_q (v := (.int .i64 r1361.2)) rfl (yl_extract rfl rfl) ?_
            refine T0_q (v := v1365) rfl (yl_assign rfl) ?_
            refine T0_q (v := (.int .i64 r1361.2)) rfl (yl_assign rfl) ?_
            refine T0_nil ?_
            refine hK1338 _ _ ?_
            refine WC_seqK fun K1371 hK1371 => ?_
            refine WC_region ?_
            refine T0_q (v := (.agg (List.toArray [(.int .i64 p_Listappend.Den), v1247, v876]))) rfl (yl_loadA (cs := [(.int .i64 p_Listappend.Den), v1247, v876]) ag25 hs1238 (Box.at (hB1254.ext e1367))) ?_
            have h1372 := ((h1250.ext e1367).sub (sub_cons (memS mem0) (sub_skip (sub_skip (sub_refl _))))).rd (fun b hb => (Avoids.cons (fun x hx e => by have := hL x hx b e; have := hf1251 b hb; omega) (fun e => hn1257 (hb.trans e.symm))))
            have h1373 := (h1234.ext e1367).sub (sub_cons (memS mem0) (sub_skip (sub_skip (sub_refl _))))
            have h1374 := (h1239.ext e1367).sub (sub_cons (memS mem0) (sub_skip (sub_skip (sub_refl _))))
            have h1375 := (h1240.ext e1367).sub (sub_cons (memS mem0) (sub_skip (sub_skip (sub_refl _))))
            have h1376 := (h1243.ext e1367).sub (sub_cons (memS mem0) (sub_skip (sub_skip (sub_refl _))))
            have h1377 := (h1252.ext e1367).sub (sub_cons (memS mem0) (sub_skip (sub_skip (sub_refl _))))
            have h1378 := (h1344.ext e1368).sub (sub_cons (memS mem0) (sub_skip (sub_skip (sub_refl _))))
            have h1379 := (h1346.ext e1368).sub (sub_cons (memS mem0) (sub_skip (sub_skip (sub_refl _))))
            have h1380 := (h1357.ext he1364).sub (sub_cons (memS mem0) (sub_skip (sub_skip (sub_refl _))))
            have h1381 := h1366.sub (sub_cons (memS mem0) (sub_skip (sub_skip (sub_refl _))))
            have hq := bind_elim h
            clear h
            obtain ⟨r1383, hr1384, h⟩ := hq
            refine T0_e rfl (eff_call Try.func10 nm10 rfl (ev1 rfl) (ref02_CopyPlant_ok ((.pointer (some ⟨b856, 0, none⟩)) :: L) _ (ltl_box (hL.chg e1369) (hB1254.ext e1367)) [(.int .i64 p_Listappend.Den), v1247, v876] (LevitatePlant.mk p_Listappend.Den x1248 r872) ⟨v1247, v876, h1372, h1377, rfl⟩ r1383 hr1384) ?_)
            rintro _ wd1385 ⟨he1386, cs1391, rfl, hrd1392⟩
            have e1393 := e1367.trans he1386
            have e1394 := e1369.trans he1386
            obtain ⟨v1387, v1389, h1388, h1390, rfl⟩ := hrd1392
            refine T0_q (v := v_p_ListappendStringpproofstartpproofstartqmaebfxgyh) rfl (yl_move hs1235) ?_
            have hq := bind_elim h
            clear h
            obtain ⟨r1397, hr1398, h⟩ := hq
            refine T0_e rfl (eff_call Try.func20 nm20 rfl (ev1 rfl) (guidewaytop_backward_ok ((.pointer (some ⟨b856, 0, none⟩)) :: L) _ (ltl_box (hL.chg e1394) (hB1254.ext e1393)) v_p_ListappendStringpproofstartpproofstartqmaebfxgyh p_ListappendStringpproofstartpproofstartqmaebfxgyh (h1373.ext he1386) r1397 hr1398) ?_)
            rintro _ wd1399 ⟨he1400, v1401, rfl, h1402⟩
            have e1403 := e1393.trans he1400
            have e1404 := he1386.trans he1400
            have e1405 := e1394.trans he1400
            have hq := bind_elim h
            clear h
            obtain ⟨r1407, hr1408, h⟩ := hq
            refine T0_e rfl (eff_call Try.func22 nm22 rfl (ev2 rfl rfl) (levitate_LeastBox_ok ((.pointer (some ⟨b856, 0, none⟩)) :: L) _ (ltl_box (hL.chg e1405) (hB1254.ext e1403)) [(.int .i64 r1383.Den), v1387, v1389] r1383 ⟨v1387, v1389, (h1388.ext he1400), (h1390.ext he1400), rfl⟩ v1401 r1397 h1402 r1407 hr1408) ?_)
            rintro _ wd1409 ⟨he1410, v1411, rfl, h1412⟩
            have e1413 := e1403.trans he1410
            have e1414 := e1404.trans he1410
            have e1415 := he1400.trans he1410
            have e1416 := e1405.trans he1410
            refine T0_q (v := (.tuple #[v1411, (.int .i64 r1407.2)])) rfl (yl_move rfl) ?_
            refine T0_q (v := v1411) rfl (yl_extract rfl rfl) ?_
            refine T0_q (v := (.int .i64 r1407.2)) rfl (yl_extract rfl rfl) ?_
            refine T0_q (v := v1411) rfl (yl_assign rfl) ?_
            refine T0_q (v := (.int .i64 r1407.2)) rfl (yl_assign rfl) ?_
            refine T0_nil ?_
            refine hK1371 _ _ ?_
            refine WC_seqK fun K1418 hK1418 => ?_
            refine WC_seqK fun K1419 hK1419 => ?_
            refine WC_region ?_
            refine T0_q (v := (.int .i64 r1361.2)) rfl (yl_move rfl) ?_
            refine T0_q (v := (.int .i64 r1407.2)) rfl (yl_move rfl) ?_
            refine T0_q (v := (.bool (!decide (r1361.2 = r1407.2)))) rfl (yl_neq rfl rfl) ?_
            refine T0_q (v := (.bool (!decide (r1361.2 = r1407.2)))) rfl (yl_move rfl) ?_
            refine T0_g (v := v1365) (!(!decide (r1361.2 = r1407.2))) (wanted_f rfl rfl rfl rfl) (fun hg => (yl_move rfl)) ?_
            refine T0_g (v := (.int .i64 (r1361.1.length : Int))) (!(!decide (r1361.2 = r1407.2))) (wanted_f rfl rfl rfl rfl) (fun hg => (yl_lenR rfl Try.underlying23 h1381 (gd_true hg))) ?_
            refine T0_g (v := v1411) (!(!decide (r1361.2 = r1407.2))) (wanted_f rfl rfl rfl rfl) (fun hg => (yl_move rfl)) ?_
            refine T0_g (v := (.int .i64 (r1407.1.length : Int))) (!(!decide (r1361.2 = r1407.2))) (wanted_f rfl rfl rfl rfl) (fun hg => (yl_lenR rfl Try.underlying23 h1412 (gd_true hg))) ?_
            refine T0_g (v := (.bool (!decide ((r1361.1.length : Int) = (r1407.1.length : Int))))) (!(!decide (r1361.2 = r1407.2))) (wanted_f rfl rfl rfl rfl) (fun hg => (yl_neq (gd_true hg) (gd_true hg))) ?_
            refine T0_q (v := (.bool ((!decide (r1361.2 = r1407.2)) || (!decide ((r1361.1.length : Int) = (r1407.1.length : Int)))))) rfl (yl_or rfl rfl (fun hb => (gd_true (not_t hb)))) ?_
            refine T0_q (v := (.bool ((!decide (r1361.2 = r1407.2)) || (!decide ((r1361.1.length : Int) = (r1407.1.length : Int)))))) rfl (yl_move rfl) ?_
            refine T0_g (v := v1365) (!((!decide (r1361.2 = r1407.2)) || (!decide ((r1361.1.length : Int) = (r1407.1.length : Int))))) (wanted_f rfl rfl rfl rfl) (fun hg => (yl_move rfl)) ?_
            have hq := bind_elim h
            clear h
            obtain ⟨r1420, hr1421, h⟩ := hq
            refine T0_gx (fun v w' => SlRd ((.pointer (some ⟨b856, 0, none⟩)) :: L) w' v r1420) (!((!decide (r1361.2 = r1407.2)) || (!decide ((r1361.1.length : Int) = (r1407.1.length : Int))))) (wanted_f rfl rfl rfl rfl) (fun hg => eff_call Try.func20 nm20 rfl (ev1 (gd_true hg)) (guidewaytop_backward_ok ((.pointer (some ⟨b856, 0, none⟩)) :: L) _ (ltl_box (hL.chg e1416) (hB1254.ext e1413)) v1365 r1361.1 (h1381.ext e1414) r1420 (cond_t hg hr1421)) (by rintro _ wd1422 ⟨he1423, v1424, rfl, h1425⟩; exact ⟨he1423, h1425⟩)) ?_
            intro v1426 wd1422 he1423 h1427
            have e1428 := e1413.trans he1423
            have e1429 := e1414.trans he1423
            have e1430 := e1415.trans he1423
            have e1431 := he1410.trans he1423
            have e1432 := e1416.trans he1423
            refine T0_g (v := v1411) (!((!decide (r1361.2 = r1407.2)) || (!decide ((r1361.1.length : Int) = (r1407.1.length : Int))))) (wanted_f rfl rfl rfl rfl) (fun hg => (yl_move rfl)) ?_
            have hq := bind_elim h
            clear h
            obtain ⟨r1435, hr1436, h⟩ := hq
            refine T0_ges (!((!decide (r1361.2 = r1407.2)) || (!decide ((r1361.1.length : Int) = (r1407.1.length : Int))))) (.bool r1435) (wanted_f rfl rfl rfl rfl) (fun hg => eff_call Try.func24 nm24 rfl (ev2 (gd_true hg) (gd_true hg)) (base_Ints_ok [] _ (LtL.nil _) v1426 r1420 ((h1427 hg).sub (fun _ h => by cases h)) v1411 r1407.1 ((h1412.ext he1423).sub (fun _ h => by cases h)) r1435 (cond_t hg hr1436)) (by rintro _ wd1437 ⟨he1438, rfl⟩; exact ⟨rfl, he1438⟩)) ?_
            intro wd1437 he1438
            have e1439 := e1428.trans he1438
            have e1440 := e1429.trans he1438
            have e1441 := e1430.trans he1438
            have e1442 := e1431.trans he1438
            have e1443 := he1423.trans he1438
            have e1444 := e1432.trans he1438
            refine T0_g (v := (.bool (!r1435))) (!((!decide (r1361.2 = r1407.2)) || (!decide ((r1361.1.length : Int) = (r1407.1.length : Int))))) (wanted_f rfl rfl rfl rfl) (fun hg => (yl_not (gd_true hg))) ?_
            refine T0_q (v := (.bool (((!decide (r1361.2 = r1407.2)) || (!decide ((r1361.1.length : Int) = (r1407.1.length : Int)))) || (!r1435)))) rfl (yl_or rfl rfl (fun hb => (gd_true (not_t hb)))) ?_
            refine T0_nil ?_
            refine hK1419 _ _ ?_
            refine WC_cond (b := (((!decide (r1361.2 = r1407.2)) || (!decide ((r1361.1.length : Int) = (r1407.1.length : Int)))) || (!r1435))) rfl (fun hb1445 => ?_) (fun hb1445 => ?_)
            · clear hK1338 hK1371 hK1418 hK1419 hK893
              replace h := cond_t hb1445 h
              refine WC_seqK fun K1446 hK1446 => ?_
              refine WC_region ?_
              refine T0_q (v := (.bool false)) rfl (yl_assign rfl) ?_
              refine T0_nil ?_
              refine hK1446 _ _ ?_
              refine WC_ret ?_
              replace h := some_out h
              subst h
              exact ⟨[(.bool false)], ⟨rfl, trivial⟩, e1444, rfl⟩
            · clear hK1338 hK1371 hK1419 hK893
              replace h := cond_f hb1445 h
              refine WC_skip ?_
              refine hK1418 _ _ ?_
              refine WC_seqK fun K1447 hK1447 => ?_
              refine WC_planX mixed (.p 2 (.p 5 (.p 7 (.q 0 (.q 3 (.q 6 (.q 8 (.e 1 (.e 4 (.p 9 (.e 10 (.p 11 (.p 12 (.p 13 (.p 14 (.p 15 .done)))))))))))))))) (by kernel_rfl) ?_
              intro wd1448 he1449
              have e1450 := e1439.trans he1449
              have e1451 := e1440.trans he1449
              have e1452 := e1441.trans he1449
              have e1453 := e1442.trans he1449
              have e1454 := e1443.trans he1449
              have e1455 := he1438.trans he1449
              have e1456 := e1444.trans he1449
              refine TX_p (v := (.pointer (some ⟨b20, 0, none⟩))) rfl rfl (fun w' => (yl_fa 0 Try.underlying50 rfl rfl ⟨0, sz47⟩ hs1237 rfl)) ?_
              refine TX_p (v := (.pointer (some ⟨b20, 1, none⟩))) rfl rfl (fun w' => (yl_fa 1 Try.underlying50 rfl rfl ⟨1, sz48⟩ hs1237 rfl)) ?_
              refine TX_p (v := (.pointer (some ⟨b20, 3, none⟩))) rfl rfl (fun w' => (yl_fa 3 Try.underlying50 rfl rfl ⟨0, sz3⟩ hs1237 rfl)) ?_
              refine TX_q (v := (.agg (List.toArray [(.int .i64 p_Listappend.Den), v1, v3]))) rfl rfl (fun w' hS => (yl_loadA (cs := [(.int .i64 p_Listappend.Den), v1, v3]) ag25 hs1236 (Box.at (hB1242.ext (e1450.trans hS))))) ?_
              refine TX_q (v := v7) rfl rfl (fun w' hS => (yl_load sc47 rfl (Box.at (hB1245.ext (e1450.trans hS))))) ?_
              refine TX_q (v := (.agg (List.toArray [(.int .i64 p_String.Rate.e0), (.int .i64 p_String.Rate.e1)]))) rfl rfl (fun w' hS => (yl_loadA (cs := [(.int .i64 p_String.Rate.e0), (.int .i64 p_String.Rate.e1)]) ag48 rfl (At.take (At.drop (Box.at (hB1245.ext (e1450.trans hS))) 1) 2))) ?_
              refine TX_q (v := (.int .i64 p_String.Level)) rfl rfl (fun w' hS => (yl_load sc3 rfl (At.drop (Box.at (hB1245.ext (e1450.trans hS))) 3))) ?_
              have hq := bind_elim h
              clear h
              obtain ⟨r1457, hr1458, h⟩ := hq
              refine TX_e rfl rfl (eff_call Try.func10 nm10 rfl (ev1 rfl) (ref02_CopyPlant_ok ((.pointer (some ⟨b856, 0, none⟩)) :: L) _ (ltl_box (hL.chg e1456) (hB1254.ext e1450)) [(.int .i64 p_Listappend.Den), v1, v3] p_Listappend ⟨v1, v3, (h1374.ext e1451), (h1375.ext e1451), rfl⟩ r1457 hr1458) ?_)
              rintro _ wd1459 ⟨he1460, cs1465, rfl, hrd1466⟩
              have e1467 := e1450.trans he1460
              have e1468 := e1451.trans he1460
              have e1469 := e1452.trans he1460
              have e1470 := e1453.trans he1460
              have e1471 := e1454.trans he1460
              have e1472 := e1455.trans he1460
              have e1473 := e1456.trans he1460
              obtain ⟨v1461, v1463, h1462, h1464, rfl⟩ := hrd1466
              refine ⟨he1460, ?_⟩
              have hq := bind_elim h
              clear h
              obtain ⟨r1476, hr1477, h⟩ := hq
              refine TX_e rfl rfl (eff_call Try.func26 nm26 rfl (ev1 rfl) (base_CopyLists_ok ((.pointer (some ⟨b856, 0, none⟩)) :: L) _ (ltl_box (hL.chg e1473) (hB1254.ext e1467)) v7 p_String.Form (h1376.ext e1468) r1476 hr1477) ?_)
              rintro _ wd1478 ⟨he1479, v1480, rfl, h1481⟩
              have e1482 := e1467.trans he1479
              have e1483 := e1468.trans he1479
              have e1484 := e1469.trans he1479
              have e1485 := e1470.trans he1479
              have e1486 := e1471.trans he1479
              have e1487 := e1472.trans he1479
              have e1488 := e1473.trans he1479
              refine ⟨he1479, ?_⟩
              refine TX_p (v := (.agg (List.toArray [v1480, (.int .i64 p_String.Rate.e0), (.int .i64 p_String.Rate.e1), (.int .i64 p_String.Level)]))) rfl rfl (fun w' => (yl_buildC (cells := [v1480, (.int .i64 p_String.Rate.e0), (.int .i64 p_String.Rate.e1), (.int .i64 p_String.Level)]) bi50 (pc_cons rfl (cells_one h1481.one1) (pc_cons rfl rfl (pc_cons rfl rfl pc_nil))) rfl)) ?_
              have hq := bind_elim h
              clear h
              obtain ⟨r1490, hr1491, h⟩ := hq
              refine TX_e rfl rfl (eff_call Try.func25 nm25 rfl (ev2 rfl rfl) (levitate_CheckProof_ok ((.pointer (some ⟨b856, 0, none⟩)) :: L) _ (ltl_box (hL.chg e1488) (hB1254.ext e1482)) [(.int .i64 r1457.Den), v1461, v1463] r1457 ⟨v1461, v1463, (h1462.ext he1479), (h1464.ext he1479), rfl⟩ [v1480, (.int .i64 p_String.Rate.e0), (.int .i64 p_String.Rate.e1), (.int .i64 p_String.Level)] (LevitateProof.mk r1476 p_String.Rate p_String.Level) ⟨v1480, h1481, rfl⟩ r1490 hr1491) ?_)
              rintro _ wd1492 ⟨he1493, v1494, rfl, h1495⟩
              have e1496 := e1482.trans he1493
              have e1497 := e1483.trans he1493
              have e1498 := e1484.trans he1493
              have e1499 := e1485.trans he1493
              have e1500 := e1486.trans he1493
              have e1501 := e1487.trans he1493
              have e1502 := he1479.trans he1493
              have e1503 := e1488.trans he1493
              refine ⟨he1493, ?_⟩
              refine TX_p (v := (.tuple #[v1494, (.int .i64 r1490.2)])) rfl rfl (fun w' => (yl_move rfl)) ?_
              refine TX_p (v := v1494) rfl rfl (fun w' => (yl_extract rfl rfl)) ?_
              refine TX_p (v := (.int .i64 r1490.2)) rfl rfl (fun w' => (yl_extract rfl rfl)) ?_
              refine TX_p (v := v1494) rfl rfl (fun w' => (yl_assign rfl)) ?_
              refine TX_p (v := (.int .i64 r1490.2)) rfl rfl (fun w' => (yl_assign rfl)) ?_
              refine TX_done ?_
              refine hK1447 _ _ ?_
              refine WC_seqK fun K1505 hK1505 => ?_
              refine WC_planX mixed (.p 2 (.p 5 (.p 7 (.q 0 (.q 3 (.q 6 (.q 8 (.e 1 (.e 4 (.p 9 (.e 10 (.p 11 (.p 12 (.p 13 (.p 14 (.p 15 .done)))))))))))))))) (by kernel_rfl) ?_
              intro wd1506 he1507
              have e1508 := e1496.trans he1507
              have e1509 := e1497.trans he1507
              have e1510 := e1498.trans he1507
              have e1511 := e1499.trans he1507
              have e1512 := e1500.trans he1507
              have e1513 := e1501.trans he1507
              have e1514 := e1502.trans he1507
              have e1515 := he1493.trans he1507
              have e1516 := e1503.trans he1507
              refine TX_p (v := (.pointer (some ⟨b20, 0, none⟩))) rfl rfl (fun w' => (yl_fa 0 Try.underlying50 rfl rfl ⟨0, sz47⟩ hs1237 rfl)) ?_
              refine TX_p (v := (.pointer (some ⟨b20, 1, none⟩))) rfl rfl (fun w' => (yl_fa 1 Try.underlying50 rfl rfl ⟨1, sz48⟩ hs1237 rfl)) ?_
              refine TX_p (v := (.pointer (some ⟨b20, 3, none⟩))) rfl rfl (fun w' => (yl_fa 3 Try.underlying50 rfl rfl ⟨0, sz3⟩ hs1237 rfl)) ?_
              refine TX_q (v := (.agg (List.toArray [(.int .i64 p_Listappend.Den), v1247, v876]))) rfl rfl (fun w' hS => (yl_loadA (cs := [(.int .i64 p_Listappend.Den), v1247, v876]) ag25 hs1238 (Box.at (hB1254.ext (e1508.trans hS))))) ?_
              refine TX_q (v := v7) rfl rfl (fun w' hS => (yl_load sc47 rfl (Box.at (hB1245.ext (e1508.trans hS))))) ?_
              refine TX_q (v := (.agg (List.toArray [(.int .i64 p_String.Rate.e0), (.int .i64 p_String.Rate.e1)]))) rfl rfl (fun w' hS => (yl_loadA (cs := [(.int .i64 p_String.Rate.e0), (.int .i64 p_String.Rate.e1)]) ag48 rfl (At.take (At.drop (Box.at (hB1245.ext (e1508.trans hS))) 1) 2))) ?_
              refine TX_q (v := (.int .i64 p_String.Level)) rfl rfl (fun w' hS => (yl_load sc3 rfl (At.drop (Box.at (hB1245.ext (e1508.trans hS))) 3))) ?_
              have hq := bind_elim h
              clear h
              obtain ⟨r1517, hr1518, h⟩ := hq
              refine TX_e rfl rfl (eff_call Try.func10 nm10 rfl (ev1 rfl) (ref02_CopyPlant_ok ((.pointer (some ⟨b856, 0, none⟩)) :: L) _ (ltl_box (hL.chg e1516) (hB1254.ext e1508)) [(.int .i64 p_Listappend.Den), v1247, v876] (LevitatePlant.mk p_Listappend.Den x1248 r872) ⟨v1247, v876, (h1372.ext e1509), (h1377.ext e1509), rfl⟩ r1517 hr1518) ?_)
              rintro _ wd1519 ⟨he1520, cs1525, rfl, hrd1526⟩
              have e1527 := e1508.trans he1520
              have e1528 := e1509.trans he1520
              have e1529 := e1510.trans he1520
              have e1530 := e1511.trans he1520
              have e1531 := e1512.trans he1520
              have e1532 := e1513.trans he1520
              have e1533 := e1514.trans he1520
              have e1534 := e1515.trans he1520
              have e1535 := he1507.trans he1520
              have e1536 := e1516.trans he1520
              obtain ⟨v1521, v1523, h1522, h1524, rfl⟩ := hrd1526
              refine ⟨he1520, ?_⟩
              have hq := bind_elim h
              clear h
              obtain ⟨r1539, hr1540, h⟩ := hq
              refine TX_e rfl rfl (eff_call Try.func21 nm21 rfl (ev1 rfl) (guidewaytop_crossed_ok ((.pointer (some ⟨b856, 0, none⟩)) :: L) _ (ltl_box (hL.chg e1536) (hB1254.ext e1527)) v7 p_String.Form (h1376.ext e1528) r1539 hr1540) ?_)
              rintro _ wd1541 ⟨he1542, v1543, rfl, h1544⟩
              have e1545 := e1527.trans he1542
              have e1546 := e1528.trans he1542
              have e1547 := e1529.trans he1542
              have e1548 := e1530.trans he1542
              have e1549 := e1531.trans he1542
              have e1550 := e1532.trans he1542
              have e1551 := e1533.trans he1542
              have e1552 := e1534.trans he1542
              have e1553 := e1535.trans he1542
              have e1554 := e1536.trans he1542
              refine ⟨he1542, ?_⟩
              refine TX_p (v := (.agg (List.toArray [v1543, (.int .i64 p_String.Rate.e0), (.int .i64 p_String.Rate.e1), (.int .i64 p_String.Level)]))) rfl rfl (fun w' => (yl_buildC (cells := [v1543, (.int .i64 p_String.Rate.e0), (.int .i64 p_String.Rate.e1), (.int .i64 p_String.Level)]) bi50 (pc_cons rfl (cells_one h1544.one1) (pc_cons rfl rfl (pc_cons rfl rfl pc_nil))) rfl)) ?_
              have hq := bind_elim h
              clear h
              obtain ⟨r1556, hr1557, h⟩ := hq
              refine TX_e rfl rfl (eff_call Try.func25 nm25 rfl (ev2 rfl rfl) (levitate_CheckProof_ok ((.pointer (some ⟨b856, 0, none⟩)) :: L) _ (ltl_box (hL.chg e1554) (hB1254.ext e1545)) [(.int .i64 r1517.Den), v1521, v1523] r1517 ⟨v1521, v1523, (h1522.ext he1542), (h1524.ext he1542), rfl⟩ [v1543, (.int .i64 p_String.Rate.e0), (.int .i64 p_String.Rate.e1), (.int .i64 p_String.Level)] (LevitateProof.mk r1539 p_String.Rate p_String.Level) ⟨v1543, h1544, rfl⟩ r1556 hr1557) ?_)
              rintro _ wd1558 ⟨he1559, v1560, rfl, h1561⟩
              have e1562 := e1545.trans he1559
              have e1563 := e1546.trans he1559
              have e1564 := e1547.trans he1559
              have e1565 := e1548.trans he1559
              have e1566 := e1549.trans he1559
              have e1567 := e1550.trans he1559
              have e1568 := e1551.trans he1559
              have e1569 := e1552.trans he1559
              have e1570 := e1553.trans he1559
              have e1571 := he1542.trans he1559
              have e1572 := e1554.trans he1559
              refine ⟨he1559, ?_⟩
              refine TX_p (v := (.tuple #[v1560, (.int .i64 r1556.2)])) rfl rfl (fun w' => (yl_move rfl)) ?_
              refine TX_p (v := v1560) rfl rfl (fun w' => (yl_extract rfl rfl)) ?_
              refine TX_p (v := (.int .i64 r1556.2)) rfl rfl (fun w' => (yl_extract rfl rfl)) ?_
              refine TX_p (v := v1560) rfl rfl (fun w' => (yl_assign rfl)) ?_
              refine TX_p (v := (.int .i64 r1556.2)) rfl rfl (fun w' => (yl_assign rfl)) ?_
              refine TX_done ?_
              refine hK1505 _ _ ?_
              refine WC_seqK fun K1574 hK1574 => ?_
              refine WC_region ?_
              refine T0_q (v := (.int .i64 r1490.2)) rfl (yl_move rfl) ?_
              refine T0_q (v := (.int .i64 r1556.2)) rfl (yl_move rfl) ?_
              refine T0_q (v := (.bool (decide (r1490.2 = r1556.2)))) rfl (yl_eql rfl rfl) ?_
              refine T0_q (v := (.bool (decide (r1490.2 = r1556.2)))) rfl (yl_move rfl) ?_
              refine T0_g (v := v1494) (decide (r1490.2 = r1556.2)) (wanted_t rfl rfl rfl rfl) (fun hg => (yl_move rfl)) ?_
              refine T0_g (v := (.int .i64 (r1490.1.length : Int))) (decide (r1490.2 = r1556.2)) (wanted_t rfl rfl rfl rfl) (fun hg => (yl_lenR rfl Try.underlying23 h1495 (gd_true hg))) ?_
              refine T0_g (v := v1560) (decide (r1490.2 = r1556.2)) (wanted_t rfl rfl rfl rfl) (fun hg => (yl_move rfl)) ?_
              refine T0_g (v := (.int .i64 (r1556.1.length : Int))) (decide (r1490.2 = r1556.2)) (wanted_t rfl rfl rfl rfl) (fun hg => (yl_lenR rfl Try.underlying23 h1561 (gd_true hg))) ?_
              refine T0_g (v := (.bool (decide ((r1490.1.length : Int) = (r1556.1.length : Int))))) (decide (r1490.2 = r1556.2)) (wanted_t rfl rfl rfl rfl) (fun hg => (yl_eql (gd_true hg) (gd_true hg))) ?_
              refine T0_q (v := (.bool ((decide (r1490.2 = r1556.2)) && (decide ((r1490.1.length : Int) = (r1556.1.length : Int)))))) rfl (yl_and rfl (fun hb => (gd_true hb)) rfl) ?_
              refine T0_q (v := (.bool ((decide (r1490.2 = r1556.2)) && (decide ((r1490.1.length : Int) = (r1556.1.length : Int)))))) rfl (yl_move rfl) ?_
              refine T0_g (v := v1494) ((decide (r1490.2 = r1556.2)) && (decide ((r1490.1.length : Int) = (r1556.1.length : Int)))) (wanted_t rfl rfl rfl rfl) (fun hg => (yl_move rfl)) ?_
              have hq := bind_elim h
              clear h
              obtain ⟨r1575, hr1576, h⟩ := hq
              refine T0_gx (fun v w' => SlRd ((.pointer (some ⟨b856, 0, none⟩)) :: L) w' v r1575) ((decide (r1490.2 = r1556.2)) && (decide ((r1490.1.length : Int) = (r1556.1.length : Int)))) (wanted_t rfl rfl rfl rfl) (fun hg => eff_call Try.func20 nm20 rfl (ev1 (gd_true hg)) (guidewaytop_backward_ok ((.pointer (some ⟨b856, 0, none⟩)) :: L) _ (ltl_box (hL.chg e1572) (hB1254.ext e1562)) v1494 r1490.1 (h1495.ext e1570) r1575 (cond_t hg hr1576)) (by rintro _ wd1577 ⟨he1578, v1579, rfl, h1580⟩; exact ⟨he1578, h1580⟩)) ?_
              intro v1581 wd1577 he1578 h1582
              have e1583 := e1562.trans he1578
              have e1584 := e1563.trans he1578
              have e1585 := e1564.trans he1578
              have e1586 := e1565.trans he1578
              have e1587 := e1566.trans he1578
              have e1588 := e1567.trans he1578
              have e1589 := e1568.trans he1578
              have e1590 := e1569.trans he1578
              have e1591 := e1570.trans he1578
              have e1592 := e1571.trans he1578
              have e1593 := he1559.trans he1578
              have e1594 := e1572.trans he1578
              refine T0_g (v := v1560) ((decide (r1490.2 = r1556.2)) && (decide ((r1490.1.length : Int) = (r1556.1.length : Int)))) (wanted_t rfl rfl rfl rfl) (fun hg => (yl_move rfl)) ?_
              have hq := bind_elim h
              clear h
              obtain ⟨r1597, hr1598, h⟩ := hq
              refine T0_ges ((decide (r1490.2 = r1556.2)) && (decide ((r1490.1.length : Int) = (r1556.1.length : Int)))) (.bool r1597) (wanted_t rfl rfl rfl rfl) (fun hg => eff_call Try.func24 nm24 rfl (ev2 (gd_true hg) (gd_true hg)) (base_Ints_ok [] _ (LtL.nil _) v1581 r1575 ((h1582 hg).sub (fun _ h => by cases h)) v1560 r1556.1 ((h1561.ext he1578).sub (fun _ h => by cases h)) r1597 (cond_t hg hr1598)) (by rintro _ wd1599 ⟨he1600, rfl⟩; exact ⟨rfl, he1600⟩)) ?_
              intro wd1599 he1600
              have e1601 := e1583.trans he1600
              have e1602 := e1584.trans he1600
              have e1603 := e1585.trans he1600
              have e1604 := e1586.trans he1600
              have e1605 := e1587.trans he1600
              have e1606 := e1588.trans he1600
              have e1607 := e1589.trans he1600
              have e1608 := e1590.trans he1600
              have e1609 := e1591.trans he1600
              have e1610 := e1592.trans he1600
              have e1611 := e1593.trans he1600
              have e1612 := he1578.trans he1600
              have e1613 := e1594.trans he1600
              refine T0_q (v := (.bool (((decide (r1490.2 = r1556.2)) && (decide ((r1490.1.length : Int) = (r1556.1.length : Int)))) && r1597))) rfl (yl_and rfl (fun hb => (gd_true hb)) rfl) ?_
              refine T0_q (v := (.bool (((decide (r1490.2 = r1556.2)) && (decide ((r1490.1.length : Int) = (r1556.1.length : Int)))) && r1597))) rfl (yl_assign rfl) ?_
              refine T0_nil ?_
              refine hK1574 _ _ ?_
              refine WC_ret ?_
              replace h := some_out h
              subst h
              exact ⟨[(.bool (((decide (r1490.2 = r1556.2)) && (decide ((r1490.1.length : Int) = (r1556.1.length : Int)))) && r1597))], ⟨rfl, trivial⟩, e1613, rfl⟩

end Go.Gw
