/- What functions come to, printed by a program of this work. No condition. -/
import Derived.Test.YtglaeocolbnpdaaGwFnC
import Derived.Test.YtglaeocolbnpdaaGwFacts2
set_option maxRecDepth 4096
set_option maxHeartbeats 8000000
set_option linter.unusedVariables false
namespace Go.Gw
open Go Go.Proofs
attribute [local irreducible] T0 TS TT TP Eff Stp WC Quiet gd
noncomputable def guidewaytop_levitated_spec : Option Bool :=
  (Option.bind (law02_Plant_spec) fun r3 =>
  (Option.bind (levitate_LeastBox_spec r3 ([0, 0] : List Int)) fun r22 =>
  (Option.bind (law02_Plant_spec) fun r32 =>
  (Option.bind (law02_Form_spec) fun r47 =>
  (Option.bind (levitate_LeastLevel_spec r32 r47 (Arr2_Int.mk 1 2)) fun r58 =>
  (Option.bind (bif (decide (r22.2 = 0)) then base_Ints_spec r22.1 ([6, 4] : List Int) else some default) fun r80 =>
  some ((((decide (r22.2 = 0)) && r80) && (decide (r58.2 = 0))) && (decide (r58.1 = 234)))
  )
  )
  )
  )
  )
  )
theorem guidewaytop_levitated_ok (L : List Value) (w : World) (hL : LtL L w) (r : Bool) (h : guidewaytop_levitated_spec = some r) :
    CallsTo Try.prog 15 [] w (fun v w' => Ext w w' ∧ (.bool r) = v) := by
  have e0 : Ext w w := Chg.refl _ _
  refine callsTo_of_WC (n := 33) (rs := [.tmp 0]) Try.func15 rfl rfl rfl rfl rfl ?_
  refine WC_seqK fun K1 hK1 => ?_
  refine WC_region ?_
  refine T0_q (v := (.bool false)) rfl (yl_assign rfl) ?_
  refine T0_nil ?_
  refine hK1 _ _ ?_
  refine WC_seqK fun K2 hK2 => ?_
  refine WC_region ?_
  have hq := bind_elim h
  clear h
  obtain ⟨r3, hr4, h⟩ := hq
  refine T0_e rfl (eff_call Try.func32 nm32 rfl ev0 (law02_Plant_ok L _ (hL.chg e0)  r3 hr4) ?_)
  rintro _ wd5 ⟨he6, cs11, rfl, hrd12⟩
  have e13 := e0.trans he6
  obtain ⟨v7, v9, h8, h10, rfl⟩ := hrd12
  refine T0_e rfl (eff_buildTC (xs := ([0, 0] : List Int)) (cells := [(.int .i64 0), (.int .i64 0)]) Try.underlying23 ei3 rfl (pc_cons rfl rfl (pc_cons rfl rfl pc_nil)) rfl (Elems.cons (cs := [(.int .i64 0)]) rfl (Elems.cons (cs := [(.int .i64 0)]) rfl Elems.nil)) rfl (hL.chg e13) ?_)
  intro b19 wd16 he17 h18
  have e20 := e13.trans he17
  have hq := bind_elim h
  clear h
  obtain ⟨r22, hr23, h⟩ := hq
  refine T0_e rfl (eff_call Try.func22 nm22 rfl (ev2 rfl rfl) (levitate_LeastBox_ok L _ (hL.chg e20) [(.int .i64 r3.Den), v7, v9] r3 ⟨v7, v9, (h8.ext he17), (h10.ext he17), rfl⟩ (.slice (some ⟨b19, 0, none⟩) 2 2) ([0, 0] : List Int) h18 r22 hr23) ?_)
  rintro _ wd24 ⟨he25, v26, rfl, h27⟩
  have e28 := he17.trans he25
  have e29 := e20.trans he25
  refine T0_q (v := (.tuple #[v26, (.int .i64 r22.2)])) rfl (yl_move rfl) ?_
  refine T0_q (v := v26) rfl (yl_extract rfl rfl) ?_
  refine T0_q (v := (.int .i64 r22.2)) rfl (yl_extract rfl rfl) ?_
  refine T0_q (v := v26) rfl (yl_assign rfl) ?_
  refine T0_q (v := (.int .i64 r22.2)) rfl (yl_assign rfl) ?_
  refine T0_nil ?_
  refine hK2 _ _ ?_
  refine WC_seqK fun K31 hK31 => ?_
  refine WC_region ?_
  have hq := bind_elim h
  clear h
  obtain ⟨r32, hr33, h⟩ := hq
  refine T0_e rfl (eff_call Try.func32 nm32 rfl ev0 (law02_Plant_ok L _ (hL.chg e29)  r32 hr33) ?_)
  rintro _ wd34 ⟨he35, cs40, rfl, hrd41⟩
  have e42 := he25.trans he35
  have e43 := e28.trans he35
  have e44 := e29.trans he35
  obtain ⟨v36, v38, h37, h39, rfl⟩ := hrd41
  have hq := bind_elim h
  clear h
  obtain ⟨r47, hr48, h⟩ := hq
  refine T0_e rfl (eff_call Try.func34 nm34 rfl ev0 (law02_Form_ok L _ (hL.chg e44)  r47 hr48) ?_)
  rintro _ wd49 ⟨he50, v51, rfl, h52⟩
  have e53 := e42.trans he50
  have e54 := he35.trans he50
  have e55 := e43.trans he50
  have e56 := e44.trans he50
  refine T0_q (v := (.agg (List.toArray [(.int .i64 1), (.int .i64 2)]))) rfl (yl_buildA (cells := [(.int .i64 1), (.int .i64 2)]) Try.underlying48 sz3 zi48 (pc_cons rfl rfl (pc_cons rfl rfl pc_nil)) rfl) ?_
  have hq := bind_elim h
  clear h
  obtain ⟨r58, hr59, h⟩ := hq
  refine T0_e rfl (eff_call Try.func33 nm33 rfl (ev3 rfl rfl rfl) (levitate_LeastLevel_ok [] _ (LtL.nil _) [(.int .i64 r32.Den), v36, v38] r32 ⟨v36, v38, ((h37.ext he50).sub (fun _ h => by cases h)), ((h39.ext he50).sub (fun _ h => by cases h)), rfl⟩ v51 r47 (h52.sub (fun _ h => by cases h)) [(.int .i64 1), (.int .i64 2)] (Arr2_Int.mk 1 2) rfl r58 hr59) ?_)
  rintro _ wd60 ⟨he61, rfl⟩
  have e62 := e53.trans he61
  have e63 := e54.trans he61
  have e64 := he50.trans he61
  have e65 := e55.trans he61
  have e66 := e56.trans he61
  refine T0_q (v := (.tuple #[(.int .i64 r58.1), (.int .i64 r58.2)])) rfl (yl_move rfl) ?_
  refine T0_q (v := (.int .i64 r58.1)) rfl (yl_extract rfl rfl) ?_
  refine T0_q (v := (.int .i64 r58.2)) rfl (yl_extract rfl rfl) ?_
  refine T0_q (v := (.int .i64 r58.1)) rfl (yl_assign rfl) ?_
  refine T0_q (v := (.int .i64 r58.2)) rfl (yl_assign rfl) ?_
  refine T0_nil ?_
  refine hK31 _ _ ?_
  refine WC_seqK fun K67 hK67 => ?_
  refine WC_region ?_
  refine T0_q (v := (.int .i64 r22.2)) rfl (yl_move rfl) ?_
  refine T0_q (v := (.bool (decide (r22.2 = 0)))) rfl (yl_eql rfl rfl) ?_
  refine T0_q (v := (.bool (decide (r22.2 = 0)))) rfl (yl_move rfl) ?_
  refine T0_g (v := v26) (decide (r22.2 = 0)) (wanted_t rfl rfl rfl rfl) (fun hg => (yl_move rfl)) ?_
  refine T0_gx (fun v w' => SlRd L w' v ([6, 4] : List Int)) (decide (r22.2 = 0)) (wanted_t rfl rfl rfl rfl) (fun hg => eff_buildTC (xs := ([6, 4] : List Int)) (cells := [(.int .i64 6), (.int .i64 4)]) Try.underlying23 ei3 rfl (pc_cons rfl rfl (pc_cons rfl rfl pc_nil)) rfl (Elems.cons (cs := [(.int .i64 6)]) rfl (Elems.cons (cs := [(.int .i64 4)]) rfl Elems.nil)) rfl (hL.chg e66) (fun _ _ he h1 => ⟨he, h1⟩)) ?_
  intro v68 wd69 he70 h71
  have e72 := e62.trans he70
  have e73 := e63.trans he70
  have e74 := e64.trans he70
  have e75 := he61.trans he70
  have e76 := e65.trans he70
  have e77 := e66.trans he70
  have hq := bind_elim h
  clear h
  obtain ⟨r80, hr81, h⟩ := hq
  refine T0_ges (decide (r22.2 = 0)) (.bool r80) (wanted_t rfl rfl rfl rfl) (fun hg => eff_call Try.func24 nm24 rfl (ev2 (gd_true hg) (gd_true hg)) (base_Ints_ok [] _ (LtL.nil _) v26 r22.1 ((h27.ext e73).sub (fun _ h => by cases h)) v68 ([6, 4] : List Int) ((h71 hg).sub (fun _ h => by cases h)) r80 (cond_t hg hr81)) (by rintro _ wd82 ⟨he83, rfl⟩; exact ⟨rfl, he83⟩)) ?_
  intro wd82 he83
  have e84 := e72.trans he83
  have e85 := e73.trans he83
  have e86 := e74.trans he83
  have e87 := e75.trans he83
  have e88 := e76.trans he83
  have e89 := e77.trans he83
  refine T0_q (v := (.bool ((decide (r22.2 = 0)) && r80))) rfl (yl_and rfl (fun hb => (gd_true hb)) rfl) ?_
  refine T0_q (v := (.bool ((decide (r22.2 = 0)) && r80))) rfl (yl_move rfl) ?_
  refine T0_g (v := (.int .i64 r58.2)) ((decide (r22.2 = 0)) && r80) (wanted_t rfl rfl rfl rfl) (fun hg => (yl_move rfl)) ?_
  refine T0_g (v := (.bool (decide (r58.2 = 0)))) ((decide (r22.2 = 0)) && r80) (wanted_t rfl rfl rfl rfl) (fun hg => (yl_eql (gd_true hg) rfl)) ?_
  refine T0_q (v := (.bool (((decide (r22.2 = 0)) && r80) && (decide (r58.2 = 0))))) rfl (yl_and rfl (fun hb => (gd_true hb)) rfl) ?_
  refine T0_q (v := (.bool (((decide (r22.2 = 0)) && r80) && (decide (r58.2 = 0))))) rfl (yl_move rfl) ?_
  refine T0_g (v := (.int .i64 r58.1)) (((decide (r22.2 = 0)) && r80) && (decide (r58.2 = 0))) (wanted_t rfl rfl rfl rfl) (fun hg => (yl_move rfl)) ?_
  refine T0_g (v := (.bool (decide (r58.1 = 234)))) (((decide (r22.2 = 0)) && r80) && (decide (r58.2 = 0))) (wanted_t rfl rfl rfl rfl) (fun hg => (yl_eql (gd_true hg) rfl)) ?_
  refine T0_q (v := (.bool ((((decide (r22.2 = 0)) && r80) && (decide (r58.2 = 0))) && (decide (r58.1 = 234))))) rfl (yl_and rfl (fun hb => (gd_true hb)) rfl) ?_
  refine T0_q (v := (.bool ((((decide (r22.2 = 0)) && r80) && (decide (r58.2 = 0))) && (decide (r58.1 = 234))))) rfl (yl_assign rfl) ?_
  refine T0_nil ?_
  refine hK67 _ _ ?_
  refine WC_ret ?_
  replace h := some_out h
  subst h
  exact ⟨[(.bool ((((decide (r22.2 = 0)) && r80) && (decide (r58.2 = 0))) && (decide (r58.1 = 234))))], ⟨rfl, trivial⟩, e89, rfl⟩

end Go.Gw
