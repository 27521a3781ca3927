/- What functions come to, printed by a program of this work. No condition. -/
import Derived.Test.YtglaeocolbnpdaaGwFnD
import Derived.Test.YtglaeocolbnpdaaGwFacts2
set_option maxRecDepth 4096
set_option maxHeartbeats 8000000
set_option linter.unusedVariables false
namespace Go.Gw
open Go Go.Proofs
attribute [local irreducible] T0 TS TT TP Eff Stp WC Quiet gd
noncomputable def law02_LevitatePlants_spec (p_p : LevitatePlant) : Option Bool :=
  (Option.bind (law02_awake_spec) fun r18 =>
  (bif (!r18) then (
    some false
  ) else (
    (Option.bind (law02_Few_spec p_p) fun r28 =>
    (bif (!r28) then (
      some true
    ) else (
      (Option.bind (ref02_CopyPlant_spec p_p) fun r38 =>
      (Option.bind (levitate_CheckPlant_spec r38) fun r53 =>
      (Option.bind (ref02_CheckPlant_spec p_p) fun r86 =>
      some ((decide (r53.2 = r86.2)) && (decide ((LevitateMark.mk r53.1.Map r53.1.Row) = (LevitateMark.mk r86.1.Map r86.1.Row))))
      )
      )
      )
    ))
    )
  ))
  )
theorem law02_LevitatePlants_ok (L : List Value) (w : World) (hL : LtL L w) (cs_p_p : List Value) (p_p : LevitatePlant) (h_p_p : Rep.rd L w cs_p_p p_p) (r : Bool) (h : law02_LevitatePlants_spec p_p = some r) :
    CallsTo Try.prog 3 [(.agg cs_p_p.toArray)] w (fun v w' => Ext w w' ∧ (.bool r) = v) := by
  have e0 : Ext w w := Chg.refl _ _
  obtain ⟨v1, v3, h2, h4, rfl⟩ := h_p_p
  refine callsTo_of_WC (n := 31) (rs := [.tmp 2]) Try.func3 rfl rfl rfl rfl rfl ?_
  refine WC_seqK fun K7 hK7 => ?_
  refine WC_region ?_
  refine T0_e rfl (eff_boxC (cs := [(.int .i64 p_p.Den), v1, v3]) rfl rfl ?_)
  intro b8 wd9 hb10 he11 hB12
  have e14 := e0.trans he11
  refine T0_q (v := (.bool false)) rfl (yl_assign rfl) ?_
  refine T0_nil ?_
  refine hK7 _ _ ?_
  refine WC_seqK fun K16 hK16 => ?_
  refine WC_seqK fun K17 hK17 => ?_
  refine WC_region ?_
  have hq := bind_elim h
  clear h
  obtain ⟨r18, hr19, h⟩ := hq
  refine T0_e rfl (eff_call Try.func7 nm7 rfl ev0 (law02_awake_ok [] _ (LtL.nil _)  r18 hr19) ?_)
  rintro _ wd20 ⟨he21, rfl⟩
  have e22 := he11.trans he21
  have e23 := e14.trans he21
  refine T0_q (v := (.bool (!r18))) rfl (yl_not rfl) ?_
  refine T0_nil ?_
  refine hK17 _ _ ?_
  refine WC_cond (b := (!r18)) rfl (fun hb24 => ?_) (fun hb24 => ?_)
  · clear hK16 hK17 hK7
    replace h := cond_t hb24 h
    refine WC_seqK fun K25 hK25 => ?_
    refine WC_region ?_
    refine T0_q (v := (.bool false)) rfl (yl_assign rfl) ?_
    refine T0_nil ?_
    refine hK25 _ _ ?_
    refine WC_ret ?_
    replace h := some_out h
    subst h
    exact ⟨[(.bool false)], ⟨rfl, trivial⟩, e23, rfl⟩
  · clear hK17 hK7
    replace h := cond_f hb24 h
    refine WC_skip ?_
    refine hK16 _ _ ?_
    refine WC_seqK fun K26 hK26 => ?_
    refine WC_seqK fun K27 hK27 => ?_
    refine WC_region ?_
    refine T0_q (v := (.agg (List.toArray [(.int .i64 p_p.Den), v1, v3]))) rfl (yl_loadA (cs := [(.int .i64 p_p.Den), v1, v3]) ag25 rfl (Box.at (hB12.ext he21))) ?_
    have hq := bind_elim h
    clear h
    obtain ⟨r28, hr29, h⟩ := hq
    refine T0_e rfl (eff_call Try.func8 nm8 rfl (ev1 rfl) (law02_Few_ok [] _ (LtL.nil _) [(.int .i64 p_p.Den), v1, v3] p_p ⟨v1, v3, ((h2.ext e22).sub (fun _ h => by cases h)), ((h4.ext e22).sub (fun _ h => by cases h)), rfl⟩ r28 hr29) ?_)
    rintro _ wd30 ⟨he31, rfl⟩
    have e32 := e22.trans he31
    have e33 := he21.trans he31
    have e34 := e23.trans he31
    refine T0_q (v := (.bool (!r28))) rfl (yl_not rfl) ?_
    refine T0_nil ?_
    refine hK27 _ _ ?_
    refine WC_cond (b := (!r28)) rfl (fun hb35 => ?_) (fun hb35 => ?_)
    · clear hK16 hK26 hK27
      replace h := cond_t hb35 h
      refine WC_seqK fun K36 hK36 => ?_
      refine WC_region ?_
      refine T0_q (v := (.bool true)) rfl (yl_assign rfl) ?_
      refine T0_nil ?_
      refine hK36 _ _ ?_
      refine WC_ret ?_
      replace h := some_out h
      subst h
      exact ⟨[(.bool true)], ⟨rfl, trivial⟩, e34, rfl⟩
    · clear hK16 hK27
      replace h := cond_f hb35 h
      refine WC_skip ?_
      refine hK26 _ _ ?_
      refine WC_seqK fun K37 hK37 => ?_
      refine WC_region ?_
      refine T0_q (v := (.agg (List.toArray [(.int .i64 p_p.Den), v1, v3]))) rfl (yl_loadA (cs := [(.int .i64 p_p.Den), v1, v3]) ag25 rfl (Box.at (hB12.ext e33))) ?_
      have hq := bind_elim h
      clear h
      obtain ⟨r38, hr39, h⟩ := hq
      refine T0_e rfl (eff_call Try.func10 nm10 rfl (ev1 rfl) (ref02_CopyPlant_ok L _ (hL.chg e34) [(.int .i64 p_p.Den), v1, v3] p_p ⟨v1, v3, (h2.ext e32), (h4.ext e32), rfl⟩ r38 hr39) ?_)
      rintro _ wd40 ⟨he41, cs46, rfl, hrd47⟩
      have e48 := e32.trans he41
      have e49 := e33.trans he41
      have e50 := e34.trans he41
      obtain ⟨v42, v44, h43, h45, rfl⟩ := hrd47
      have hq := bind_elim h
      clear h
      obtain ⟨r53, hr54, h⟩ := hq
      refine T0_e rfl (eff_call Try.func9 nm9 rfl (ev1 rfl) (levitate_CheckPlant_ok [] _ (LtL.nil _) [(.int .i64 r38.Den), v42, v44] r38 ⟨v42, v44, (h43.sub (fun _ h => by cases h)), (h45.sub (fun _ h => by cases h)), rfl⟩ r53 hr54) ?_)
      rintro _ wd55 ⟨he56, cs57, rfl, hrd58⟩
      have e59 := e48.trans he56
      have e60 := e49.trans he56
      have e61 := e50.trans he56
      have hrd58 : cs57 = [(.int .i64 r53.1.Map), (.int .i64 r53.1.Row)] := hrd58
      subst hrd58
      refine T0_q (v := (.tuple #[(.agg (List.toArray [(.int .i64 r53.1.Map), (.int .i64 r53.1.Row)])), (.int .i64 r53.2)])) rfl (yl_move rfl) ?_
      refine T0_q (v := (.agg (List.toArray [(.int .i64 r53.1.Map), (.int .i64 r53.1.Row)]))) rfl (yl_extract rfl rfl) ?_
      refine T0_q (v := (.int .i64 r53.2)) rfl (yl_extract rfl rfl) ?_
      refine T0_e rfl (eff_allocZ zi29 ?_)
      intro b62 wd63 hb64 he65 hB66
      have hn67 : b62 ≠ b8 := box_ne (hB12.ext e60) hb64
      have hbf68 := bfresh e61 hb64
      have h69 := (h2.ext e59).step (add_box he65 hb64)
      have h70 := (h4.ext e59).step (add_box he65 hb64)
      have e73 := e60.trans he65
      have e74 := e61.trans he65
      refine T0_e rfl (eff_storeC (vs := [(.int .i64 r53.1.Map), (.int .i64 r53.1.Row)]) (cs' := [(.int .i64 r53.1.Map), (.int .i64 r53.1.Row)]) sz29 rfl rfl rfl rfl hB66 rfl (oc_cons rfl (oc_cons rfl oc_nil)) rfl ?_)
      intro wd76 hc77 hB78
      have h79 := h69.step (Stepp.chg_mem hc77 mem0)
      have h80 := h70.step (Stepp.chg_mem hc77 mem0)
      have h81 := (hB12.ext e73).chg hc77 (avoidb hn67)
      have e84 := chg_box e74 hc77 hbf68
      refine T0_q (v := (.int .i64 r53.2)) rfl (yl_assign rfl) ?_
      refine T0_nil ?_
      refine hK37 _ _ ?_
      refine WC_seqK fun K85 hK85 => ?_
      refine WC_region ?_
      refine T0_q (v := (.agg (List.toArray [(.int .i64 p_p.Den), v1, v3]))) rfl (yl_loadA (cs := [(.int .i64 p_p.Den), v1, v3]) ag25 rfl (Box.at h81)) ?_
      have hq := bind_elim h
      clear h
      obtain ⟨r86, hr87, h⟩ := hq
      refine T0_e rfl (eff_call Try.func11 nm11 rfl (ev1 rfl) (ref02_CheckPlant_ok [] _ (LtL.nil _) [(.int .i64 p_p.Den), v1, v3] p_p ⟨v1, v3, (h79.sub (fun _ h => by cases h)), (h80.sub (fun _ h => by cases h)), rfl⟩ r86 hr87) ?_)
      rintro _ wd88 ⟨he89, cs90, rfl, hrd91⟩
      have e92 := e84.trans he89
      have hrd91 : cs90 = [(.int .i64 r86.1.Map), (.int .i64 r86.1.Row)] := hrd91
      subst hrd91
      refine T0_q (v := (.tuple #[(.agg (List.toArray [(.int .i64 r86.1.Map), (.int .i64 r86.1.Row)])), (.int .i64 r86.2)])) rfl (yl_move rfl) ?_
      refine T0_q (v := (.agg (List.toArray [(.int .i64 r86.1.Map), (.int .i64 r86.1.Row)]))) rfl (yl_extract rfl rfl) ?_
      refine T0_q (v := (.int .i64 r86.2)) rfl (yl_extract rfl rfl) ?_
      refine T0_e rfl (eff_allocZ zi29 ?_)
      intro b93 wd94 hb95 he96 hB97
      have hn99 : b93 ≠ b62 := box_ne (hB78.ext he89) hb95
      have hbf100 := bfresh e92 hb95
      have e105 := he89.trans he96
      have e106 := e92.trans he96
      refine T0_e rfl (eff_storeC (vs := [(.int .i64 r86.1.Map), (.int .i64 r86.1.Row)]) (cs' := [(.int .i64 r86.1.Map), (.int .i64 r86.1.Row)]) sz29 rfl rfl rfl rfl hB97 rfl (oc_cons rfl (oc_cons rfl oc_nil)) rfl ?_)
      intro wd108 hc109 hB110
      have h116 := (hB78.ext e105).chg hc109 (avoidb hn99)
      have e117 := chg_box e106 hc109 hbf100
      refine T0_q (v := (.int .i64 r86.2)) rfl (yl_assign rfl) ?_
      refine T0_nil ?_
      refine hK85 _ _ ?_
      refine WC_seqK fun K118 hK118 => ?_
      refine WC_region ?_
      refine T0_q (v := (.int .i64 r53.2)) rfl (yl_move rfl) ?_
      refine T0_q (v := (.int .i64 r86.2)) rfl (yl_move rfl) ?_
      refine T0_q (v := (.bool (decide (r53.2 = r86.2)))) rfl (yl_eql rfl rfl) ?_
      refine T0_q (v := (.bool (decide (r53.2 = r86.2)))) rfl (yl_move rfl) ?_
      refine T0_g (v := (.agg (List.toArray [(.int .i64 r53.1.Map), (.int .i64 r53.1.Row)]))) (decide (r53.2 = r86.2)) (wanted_t rfl rfl rfl rfl) (fun hg => (yl_loadA (cs := [(.int .i64 r53.1.Map), (.int .i64 r53.1.Row)]) ag29 rfl (Box.at h116))) ?_
      refine T0_g (v := (.agg (List.toArray [(.int .i64 r86.1.Map), (.int .i64 r86.1.Row)]))) (decide (r53.2 = r86.2)) (wanted_t rfl rfl rfl rfl) (fun hg => (yl_loadA (cs := [(.int .i64 r86.1.Map), (.int .i64 r86.1.Row)]) ag29 rfl (Box.at hB110))) ?_
      refine T0_g (v := (.bool (decide ((LevitateMark.mk r53.1.Map r53.1.Row) = (LevitateMark.mk r86.1.Map r86.1.Row))))) (decide (r53.2 = r86.2)) (wanted_t rfl rfl rfl rfl) (fun hg => (yl_eqlS eg29 (gd_true hg) (gd_true hg) (eqs29 (LevitateMark.mk r53.1.Map r53.1.Row) (LevitateMark.mk r86.1.Map r86.1.Row) _))) ?_
      refine T0_q (v := (.bool ((decide (r53.2 = r86.2)) && (decide ((LevitateMark.mk r53.1.Map r53.1.Row) = (LevitateMark.mk r86.1.Map r86.1.Row)))))) rfl (yl_and rfl (fun hb => (gd_true hb)) rfl) ?_
      refine T0_q (v := (.bool ((decide (r53.2 = r86.2)) && (decide ((LevitateMark.mk r53.1.Map r53.1.Row) = (LevitateMark.mk r86.1.Map r86.1.Row)))))) rfl (yl_assign rfl) ?_
      refine T0_nil ?_
      refine hK118 _ _ ?_
      refine WC_ret ?_
      replace h := some_out h
      subst h
      exact ⟨[(.bool ((decide (r53.2 = r86.2)) && (decide ((LevitateMark.mk r53.1.Map r53.1.Row) = (LevitateMark.mk r86.1.Map r86.1.Row)))))], ⟨rfl, trivial⟩, e117, rfl⟩

end Go.Gw
