/- What functions come to, printed by a program of this work. No condition. -/
import Derived.Test.YtglaeocolbnpdaaGwFnB
import Derived.Test.YtglaeocolbnpdaaGwPlan2
import Derived.Test.YtglaeocolbnpdaaGwLib12
import Derived.Test.YtglaeocolbnpdaaGwDelE
import Derived.Test.YtglaeocolbnpdaaGwFacts2
set_option maxRecDepth 4096
set_option maxHeartbeats 8000000
set_option linter.unusedVariables false
namespace Go.Gw
open Go Go.Proofs
attribute [local irreducible] T0 TS TT TP TX Eff Stp WC Quiet gd
noncomputable def levitate_plant_lessens_s0 (el28 : (List (List Int))) (p_pmfratepmfraterowscolumndiownlknimagearow : (List (List Int))) (x6035 : Int) (x7520 : Int) : (Int × Int) → Option ((Int × Int) ⊕ (Int)) := fun (x7871, x7882) =>
  (bif (decide (x7882 < (p_pmfratepmfraterowscolumndiownlknimagearow.length : Int))) then (
    (Option.bind (idx p_pmfratepmfraterowscolumndiownlknimagearow x7882) fun el7939 =>
    (Option.bind (levitate_plant_lessens_1_spec x6035 el28) fun r7951 =>
    (Option.bind (idx r7951 x7882) fun el7960 =>
    (Option.bind (levitate_plant_lessens_1_spec x7520 el28) fun r7966 =>
    (Option.bind (levitate_dot_spec el7939 r7966) fun r7975 =>
    some (.inl (w64 (x7871 + (w64 (el7960 * r7975))), w64 (x7882 + 1)))
    )
    )
    )
    )
    )
  ) else (
    some (.inr x7871)
  ))
noncomputable def levitate_plant_lessens_s1 (el28 : (List (List Int))) (el6078 : (List Int)) (p_Listappend : levitate_plant) (p_a3 : Arr2_Int) (p_pmfratepmfraterowscolumndiownlknimagearow : (List (List Int))) (x6035 : Int) : ((List Int) × Int) → Option (((List Int) × Int) ⊕ ((List Int))) := fun (x7509, x7520) =>
  (bif (decide (x7520 < (el6078.length : Int))) then (
    (Option.bind (idx el6078 x7520) fun el7590 =>
    (Option.bind (loop (levitate_plant_lessens_s0 el28 p_pmfratepmfraterowscolumndiownlknimagearow x6035 x7520) (0, 0)) fun (x7908 : Int) =>
    (Option.bind (app x7509 ([w64 ((w64 ((w64 ((w64 (p_a3.e0 * p_Listappend.LevitatePlant.Den)) * p_Listappend.LevitatePlant.Den)) * el7590)) - (w64 (p_a3.e1 * x7908)))] : List Int)) fun zs7996 =>
    some (.inl (zs7996, w64 (x7520 + 1)))
    )
    )
    )
  ) else (
    some (.inr x7509)
  ))
noncomputable def levitate_plant_lessens_s2 (el28 : (List (List Int))) (p_Listappend : levitate_plant) (p_a3 : Arr2_Int) (p_pmfratepmfraterowscolumndiownlknimagearow : (List (List Int))) : ((List (List Int)) × Int) → Option (((List (List Int)) × Int) ⊕ ((List (List Int)))) := fun (x6028, x6035) =>
  (bif (decide (x6035 < (p_pmfratepmfraterowscolumndiownlknimagearow.length : Int))) then (
    (Option.bind (idx p_pmfratepmfraterowscolumndiownlknimagearow x6035) fun el6078 =>
    (Option.bind (loop (levitate_plant_lessens_s1 el28 el6078 p_Listappend p_a3 p_pmfratepmfraterowscolumndiownlknimagearow x6035) (([] : List Int), 0)) fun (x7556 : (List Int)) =>
    (Option.bind (app x6028 ([x7556] : List (List Int))) fun zs8034 =>
    some (.inl (zs8034, w64 (x6035 + 1)))
    )
    )
    )
  ) else (
    some (.inr x6028)
  ))
noncomputable def levitate_plant_lessens_spec (p_Listappend : levitate_plant) (p_String : Int) (p_pmfratepmfraterowscolumndiownlknimagearow : (List (List Int))) (p_a3 : Arr2_Int) : Option Bool :=
  (Option.bind (idx p_Listappend.LevitatePlant.Maps p_String) fun el28 =>
  (Option.bind (loop (levitate_plant_lessens_s2 el28 p_Listappend p_a3 p_pmfratepmfraterowscolumndiownlknimagearow) (([] : List (List Int)), 0)) fun (x6060 : (List (List Int))) =>
  (Option.bind (levitate_never_spec x6060) fun r8058 =>
  some r8058
  )
  )
  )
theorem levitate_plant_lessens_ok (L : List Value) (w : World) (hL : LtL L w) (cs_p_Listappend : List Value) (p_Listappend : levitate_plant) (h_p_Listappend : Rep.rd L w cs_p_Listappend p_Listappend) (p_String : Int) (v_p_pmfratepmfraterowscolumndiownlknimagearow : Value) (p_pmfratepmfraterowscolumndiownlknimagearow : (List (List Int))) (h_p_pmfratepmfraterowscolumndiownlknimagearow : SlRd L w v_p_pmfratepmfraterowscolumndiownlknimagearow p_pmfratepmfraterowscolumndiownlknimagearow) (cs_p_a3 : List Value) (p_a3 : Arr2_Int) (h_p_a3 : Rep.rd L w cs_p_a3 p_a3) (r : Bool) (h : levitate_plant_lessens_spec p_Listappend p_String p_pmfratepmfraterowscolumndiownlknimagearow p_a3 = some r) :
    CallsTo Try.prog 78 [(.agg cs_p_Listappend.toArray), (.int .i64 p_String), v_p_pmfratepmfraterowscolumndiownlknimagearow, (.agg cs_p_a3.toArray)] w (fun v w' => Ext w w' ∧ (.bool r) = v) := by
  have e0 : Ext w w := Chg.refl _ _
  obtain ⟨v1, v3, h2, h4, rfl⟩ := h_p_Listappend
  have h_p_a3 : cs_p_a3 = [(.int .i64 p_a3.e0), (.int .i64 p_a3.e1)] := h_p_a3
  subst h_p_a3
  refine callsTo_of_WC (n := 91) (rs := [.tmp 8]) Try.func78 rfl rfl rfl rfl rfl ?_
  refine WC_seqK fun K8 hK8 => ?_
  refine WC_region ?_
  refine T0_e rfl (eff_boxC (cs := [(.int .i64 p_Listappend.LevitatePlant.Den), v1, v3]) rfl rfl ?_)
  intro b9 wd10 hb11 he12 hB13
  have hbf14 := bfresh e0 hb11
  have e15 := e0.trans he12
  refine T0_e rfl (eff_boxC (cs := [(.int .i64 p_a3.e0), (.int .i64 p_a3.e1)]) rfl rfl ?_)
  intro b17 wd18 hb19 he20 hB21
  have hn22 : b17 ≠ b9 := box_ne hB13 hb19
  have hbf23 := bfresh e15 hb19
  have e24 := he12.trans he20
  have e25 := e15.trans he20
  refine T0_q (v := (.bool false)) rfl (yl_assign rfl) ?_
  refine T0_nil ?_
  refine hK8 _ _ ?_
  refine WC_seqK fun K27 hK27 => ?_
  refine WC_region ?_
  refine T0_q (v := (.pointer (some ⟨b9, 0, none⟩))) rfl (yl_fa 0 Try.underlying89 rfl rfl ⟨2, sz25⟩ rfl rfl) ?_
  refine T0_q (v := (.pointer (some ⟨b9, 1, none⟩))) rfl (yl_fa 1 Try.underlying25 rfl rfl ⟨0, sz22⟩ rfl rfl) ?_
  refine T0_q (v := v1) rfl (yl_load sc22 rfl (At.drop (Box.at (hB13.ext he20)) 1)) ?_
  refine T0_q (v := (.int .i64 p_String)) rfl (yl_move rfl) ?_
  have hq := bind_elim h
  clear h
  obtain ⟨el28, hel29, h⟩ := hq
  have hq := SlRd.at h2 hel29
  obtain ⟨cs32, hat33, hrd34⟩ := hq
  obtain ⟨v30, rfl, h31⟩ := hrd34
  refine T0_q (v := (.pointer (some (elemAddr v1 (p_String : Int).toNat 1)))) rfl (yl_indexAddr Try.underlying22 sz47 h2 hel29 rfl rfl) ?_
  refine T0_q (v := v30) rfl (yl_load sc47 rfl (hat33.ext' e24)) ?_
  refine T0_e rfl (eff_allocZ zi47 ?_)
  intro b37 wd38 hb39 he40 hB41
  have hn42 : b37 ≠ b9 := box_ne (hB13.ext he20) hb39
  have hn43 : b37 ≠ b17 := box_ne hB21 hb39
  have hbf44 := bfresh e25 hb39
  have h45 := (h2.ext e24).step (add_box he40 hb39)
  have h46 := (h4.ext e24).step (add_box he40 hb39)
  have h47 := (h_p_pmfratepmfraterowscolumndiownlknimagearow.ext e24).step (add_box he40 hb39)
  have h48 := (h31.ext e24).step (add_box he40 hb39)
  have e49 := e24.trans he40
  have e50 := he20.trans he40
  have e51 := e25.trans he40
  refine T0_e rfl (eff_storeC (vs := [v30]) (cs' := [v30]) sz47 (cells_one h48.one1) rfl rfl rfl hB41 rfl (oc_cons h48.one1 oc_nil) rfl ?_)
  intro wd53 hc54 hB55
  have h56 := h45.step (Stepp.chg_mem hc54 mem0)
  have h57 := h46.step (Stepp.chg_mem hc54 mem0)
  have h58 := h47.step (Stepp.chg_mem hc54 mem0)
  have h59 := (hB13.ext e50).chg hc54 (avoidb hn42)
  have h60 := (hB21.ext he40).chg hc54 (avoidb hn43)
  have h61 := h48.step (Stepp.chg_mem hc54 mem0)
  have e62 := chg_box e51 hc54 hbf44
  refine T0_nil ?_
  refine hK27 _ _ ?_
  refine WC_seqK fun K63 hK63 => ?_
  refine WC_region ?_
  refine T0_q (v := (.func (.func 105) #[] (List.toArray [(.pointer (some ⟨b37, 0, none⟩))]))) rfl (yl_makeFunc (ev1 rfl)) ?_
  refine T0_q (v := (.func (.func 105) #[] (List.toArray [(.pointer (some ⟨b37, 0, none⟩))]))) rfl (yl_assign rfl) ?_
  refine T0_nil ?_
  refine hK63 _ _ ?_
  refine WC_seqK fun K64 hK64 => ?_
  refine WC_region ?_
  refine T0_q (v := (.slice none 0 0)) rfl (yl_assign rfl) ?_
  refine T0_nil ?_
  refine hK64 _ _ ?_
  refine WC_seqK fun K65 hK65 => ?_
  refine WC_seqK fun K66 hK66 => ?_
  refine WC_region ?_
  refine T0_q (v := v_p_pmfratepmfraterowscolumndiownlknimagearow) rfl (yl_move rfl) ?_
  refine T0_q (v := (.int .i64 (p_pmfratepmfraterowscolumndiownlknimagearow.length : Int))) rfl (yl_lenR rfl Try.underlying47 h58 rfl) ?_
  refine T0_q (v := (.int .i64 0)) rfl (yl_move rfl) ?_
  refine T0_nil ?_
  refine hK66 _ _ ?_
  have h6049 := h56.step (add_nil _)
  have h6050 := h57.step (add_nil _)
  have h6051 := h58.step (add_nil _)
  have h6052 := h61.step (add_nil _)
  have h6054 : Own 23 ((.slice none 0 0) :: (.pointer (some ⟨b37, 0, none⟩)) :: L) wd53 (.slice none 0 0) ([] : List (List Int)) := Own.nil _ _ _
  have hq := bind_elim h
  clear h
  obtain ⟨o6065, hl6066, hn6067⟩ := hq
  refine WC_post (fun (ρ : Env) (wd6056 : World) => ∃ (x6060 : (List (List Int))) (v6059 : Value), x6060 = o6065 ∧ ρ 11 = v6059 ∧ Own 23 (v6059 :: L) wd6056 v6059 x6060 ∧ (∀ b, blk v6059 = some b → w.heap.size ≤ b) ∧ Ext w wd6056) ?_ ?_
  · clear hK27 hK63 hK64 hK65 hK66 hK8
    intro K6071 hK6071
    refine WC_block ?_
    refine WC_loopk (fun sv ρ wd6019 => ∃ (x6028 : (List (List Int))) (x6035 : Int) (v6027 : Value), (x6028, x6035) = sv ∧ ρ 2 = v_p_pmfratepmfraterowscolumndiownlknimagearow ∧ ρ 4 = (.pointer (some ⟨b9, 0, none⟩)) ∧ ρ 7 = (.pointer (some ⟨b17, 0, none⟩)) ∧ ρ 10 = (.func (.func 105) #[] (List.toArray [(.pointer (some ⟨b37, 0, none⟩))])) ∧ ρ 11 = v6027 ∧ ρ 27 = v_p_pmfratepmfraterowscolumndiownlknimagearow ∧ ρ 28 = (.int .i64 (p_pmfratepmfraterowscolumndiownlknimagearow.length : Int)) ∧ ρ 29 = (.int .i64 x6035) ∧ SlRd (v6027 :: (.pointer (some ⟨b37, 0, none⟩)) :: L) wd6019 v_p_pmfratepmfraterowscolumndiownlknimagearow p_pmfratepmfraterowscolumndiownlknimagearow ∧ SlRd (v6027 :: (.pointer (some ⟨b37, 0, none⟩)) :: L) wd6019 v30 el28 ∧ SlRd (v6027 :: (.pointer (some ⟨b37, 0, none⟩)) :: L) wd6019 v1 p_Listappend.LevitatePlant.Maps ∧ SlRd (v6027 :: (.pointer (some ⟨b37, 0, none⟩)) :: L) wd6019 v3 p_Listappend.LevitatePlant.Noise ∧ Box wd6019 b17 [(.int .i64 p_a3.e0), (.int .i64 p_a3.e1)] 48 ∧ Box wd6019 b37 [v30] 47 ∧ Box wd6019 b9 [(.int .i64 p_Listappend.LevitatePlant.Den), v1, v3] 89 ∧ Own 23 (v6027 :: (.pointer (some ⟨b37, 0, none⟩)) :: L) wd6019 v6027 x6028 ∧ (∀ b, blk v6027 = some b → w.heap.size ≤ b) ∧ (blk v6027 ≠ some b17) ∧ (blk v6027 ≠ some b37) ∧ (blk v6027 ≠ some b9) ∧ Ext w wd6019) hl6066 ⟨([] : List (List Int)), 0, (.slice none 0 0), rfl, rfl, rfl, rfl, rfl, rfl, rfl, rfl, rfl, h6051, h6052, h6049, h6050, h60, hB55, h59, h6054, (fun b h => blk_nil b h), (fun h => by cases h), (fun h => by cases h), (fun h => by cases h), e62⟩ ?_
    rintro _ ρ wd6019 ⟨x6028, x6035, v6027, rfl, hs6022, hs6023, hs6024, hs6025, hs6032, hs6033, hs6034, hs6036, h6021, h6039, h6042, h6043, hB6038, hB6041, hB6045, h6030, hf6031, hn6046, hn6047, hn6048, e6020⟩ x6068 h hx6069 K6070 hK6070
    refine WC_seqK fun K6073 hK6073 => ?_
    refine WC_region ?_
    refine T0_q (v := (.bool (decide (x6035 < (p_pmfratepmfraterowscolumndiownlknimagearow.length : Int))))) rfl (yl_lss hs6036 hs6034) ?_
    refine T0_nil ?_
    refine hK6073 _ _ ?_
    refine WC_seqK fun K6074 hK6074 => ?_
    refine WC_cond (b := (decide (x6035 < (p_pmfratepmfraterowscolumndiownlknimagearow.length : Int)))) rfl (fun hb6075 => ?_) (fun hb6075 => ?_)
    · clear hK6071 hK6073
      replace h := cond_t hb6075 h
      refine WC_skip ?_
      refine hK6074 _ _ ?_
      refine WC_seqK fun K6076 hK6076 => ?_
      refine WC_block ?_
      refine WC_seqK fun K6077 hK6077 => ?_
      refine WC_region ?_
      refine T0_q (v := (.int .i64 x6035)) rfl (yl_move hs6036) ?_
      have hq := bind_elim h
      clear h
      obtain ⟨el6078, hel6079, h⟩ := hq
      have hq := SlRd.at h6021 hel6079
      obtain ⟨cs6082, hat6083, hrd6084⟩ := hq
      obtain ⟨v6080, rfl, h6081⟩ := hrd6084
      refine T0_q (v := (.pointer (some (elemAddr v_p_pmfratepmfraterowscolumndiownlknimagearow (x6035 : Int).toNat 1)))) rfl (yl_indexAddr Try.underlying47 sz23 h6021 hel6079 hs6033 hs6036) ?_
      refine T0_q (v := v6080) rfl (yl_load sc23 rfl hat6083) ?_
      refine T0_q (v := (.int .i64 x6035)) rfl (yl_assign rfl) ?_
      refine T0_q (v := v6080) rfl (yl_assign rfl) ?_
      refine T0_nil ?_
      refine hK6077 _ _ ?_
      refine WC_seqK fun K6087 hK6087 => ?_
      refine WC_region ?_
      refine T0_q (v := (.slice none 0 0)) rfl (yl_assign rfl) ?_
      refine T0_nil ?_
      refine hK6087 _ _ ?_
      refine WC_seqK fun K6088 hK6088 => ?_
      refine WC_seqK fun K6089 hK6089 => ?_
      refine WC_region ?_
      refine T0_q (v := v6080) rfl (yl_move rfl) ?_
      refine T0_q (v := (.int .i64 (el6078.length : Int))) rfl (yl_lenR rfl Try.underlying23 h6081 rfl) ?_
      refine T0_q (v := (.int .i64 0)) rfl (yl_move rfl) ?_
      refine T0_nil ?_
      refine hK6089 _ _ ?_
      have h7535 := h6021.step (add_nil _)
      have h7536 := h6030.step (add_nil _) (Chg.refl [] _) (fun _ _ => Avoids.nil _)
      have h7537 := h6039.step (add_nil _)
      have h7538 := h6042.step (add_nil _)
      have h7539 := h6043.step (add_nil _)
      have h7540 := h6081.step (add_nil _)
      have h7542 : Own 3 ((.slice none 0 0) :: v6027 :: (.pointer (some ⟨b37, 0, none⟩)) :: L) wd6019 (.slice none 0 0) ([] : List Int) := Own.nil _ _ _
      have hq := bind_elim h
      clear h
      obtain ⟨o7577, hl7578, hn7579⟩ := hq
      refine WC_post (fun (ρ : Env) (wd7544 : World) => ∃ (x7556 : (List Int)) (v7555 : Value), x7556 = o7577 ∧ ρ 2 = v_p_pmfratepmfraterowscolumndiownlknimagearow ∧ ρ 4 = (.pointer (some ⟨b9, 0, none⟩)) ∧ ρ 7 = (.pointer (some ⟨b17, 0, none⟩)) ∧ ρ 10 = (.func (.func 105) #[] (List.toArray [(.pointer (some ⟨b37, 0, none⟩))])) ∧ ρ 11 = v6027 ∧ ρ 14 = v7555 ∧ ρ 27 = v_p_pmfratepmfraterowscolumndiownlknimagearow ∧ ρ 28 = (.int .i64 (p_pmfratepmfraterowscolumndiownlknimagearow.length : Int)) ∧ ρ 29 = (.int .i64 x6035) ∧ SlRd (v6027 :: v7555 :: (.pointer (some ⟨b37, 0, none⟩)) :: L) wd7544 v_p_pmfratepmfraterowscolumndiownlknimagearow p_pmfratepmfraterowscolumndiownlknimagearow ∧ SlRd (v6027 :: v7555 :: (.pointer (some ⟨b37, 0, none⟩)) :: L) wd7544 v30 el28 ∧ SlRd (v6027 :: v7555 :: (.pointer (some ⟨b37, 0, none⟩)) :: L) wd7544 v1 p_Listappend.LevitatePlant.Maps ∧ SlRd (v6027 :: v7555 :: (.pointer (some ⟨b37, 0, none⟩)) :: L) wd7544 v3 p_Listappend.LevitatePlant.Noise ∧ Box wd7544 b17 [(.int .i64 p_a3.e0), (.int .i64 p_a3.e1)] 48 ∧ Box wd7544 b37 [v30] 47 ∧ Box wd7544 b9 [(.int .i64 p_Listappend.LevitatePlant.Den), v1, v3] 89 ∧ Own 23 (v6027 :: v7555 :: (.pointer (some ⟨b37, 0, none⟩)) :: L) wd7544 v6027 x6028 ∧ Own 3 (v6027 :: v7555 :: (.pointer (some ⟨b37, 0, none⟩)) :: L) wd7544 v7555 x7556 ∧ (∀ b, blk v7555 = some b → w.heap.size ≤ b) ∧ (blk v7555 ≠ some b17) ∧ (blk v7555 ≠ some b37) ∧ (blk v7555 ≠ some b9) ∧ (∀ b, blk v6027 = some b → blk v7555 ≠ some b) ∧ Ext w wd7544) ?_ ?_
      · clear hK6070 hK6074 hK6076 hK6077 hK6087 hK6088 hK6089
        intro K7583 hK7583
        refine WC_block ?_
        refine WC_loopk (fun sv ρ wd7496 => ∃ (x7509 : (List Int)) (x7520 : Int) (v7508 : Value), (x7509, x7520) = sv ∧ ρ 2 = v_p_pmfratepmfraterowscolumndiownlknimagearow ∧ ρ 4 = (.pointer (some ⟨b9, 0, none⟩)) ∧ ρ 7 = (.pointer (some ⟨b17, 0, none⟩)) ∧ ρ 10 = (.func (.func 105) #[] (List.toArray [(.pointer (some ⟨b37, 0, none⟩))])) ∧ ρ 11 = v6027 ∧ ρ 12 = (.int .i64 x6035) ∧ ρ 14 = v7508 ∧ ρ 27 = v_p_pmfratepmfraterowscolumndiownlknimagearow ∧ ρ 28 = (.int .i64 (p_pmfratepmfraterowscolumndiownlknimagearow.length : Int)) ∧ ρ 29 = (.int .i64 x6035) ∧ ρ 34 = v6080 ∧ ρ 35 = (.int .i64 (el6078.length : Int)) ∧ ρ 36 = (.int .i64 x7520) ∧ SlRd (v6027 :: v7508 :: (.pointer (some ⟨b37, 0, none⟩)) :: L) wd7496 v_p_pmfratepmfraterowscolumndiownlknimagearow p_pmfratepmfraterowscolumndiownlknimagearow ∧ SlRd (v6027 :: v7508 :: (.pointer (some ⟨b37, 0, none⟩)) :: L) wd7496 v6080 el6078 ∧ SlRd (v6027 :: v7508 :: (.pointer (some ⟨b37, 0, none⟩)) :: L) wd7496 v30 el28 ∧ SlRd (v6027 :: v7508 :: (.pointer (some ⟨b37, 0, none⟩)) :: L) wd7496 v1 p_Listappend.LevitatePlant.Maps ∧ SlRd (v6027 :: v7508 :: (.pointer (some ⟨b37, 0, none⟩)) :: L) wd7496 v3 p_Listappend.LevitatePlant.Noise ∧ Box wd7496 b17 [(.int .i64 p_a3.e0), (.int .i64 p_a3.e1)] 48 ∧ Box wd7496 b37 [v30] 47 ∧ Box wd7496 b9 [(.int .i64 p_Listappend.LevitatePlant.Den), v1, v3] 89 ∧ Own 23 (v6027 :: v7508 :: (.pointer (some ⟨b37, 0, none⟩)) :: L) wd7496 v6027 x6028 ∧ Own 3 (v6027 :: v7508 :: (.pointer (some ⟨b37, 0, none⟩)) :: L) wd7496 v7508 x7509 ∧ (∀ b, blk v7508 = some b → w.heap.size ≤ b) ∧ (blk v7508 ≠ some b17) ∧ (blk v7508 ≠ some b37) ∧ (blk v7508 ≠ some b9) ∧ (∀ b, blk v6027 = some b → blk v7508 ≠ some b) ∧ Ext w wd7496) hl7578 ⟨([] : List Int), 0, (.slice none 0 0), rfl, hs6022, hs6023, hs6024, hs6025, hs6032, rfl, rfl, hs6033, hs6034, hs6036, rfl, rfl, rfl, (h7535.sub (sub_cons (memS mem0) (sub_cons mem0 (sub_cons (memS (memS mem0)) (sub_skip (sub_skip (sub_skip (sub_refl _)))))))), (h7540.sub (sub_cons (memS mem0) (sub_cons mem0 (sub_cons (memS (memS mem0)) (sub_skip (sub_skip (sub_skip (sub_refl _)))))))), (h7537.sub (sub_cons (memS mem0) (sub_cons mem0 (sub_cons (memS (memS mem0)) (sub_skip (sub_skip (sub_skip (sub_refl _)))))))), (h7538.sub (sub_cons (memS mem0) (sub_cons mem0 (sub_cons (memS (memS mem0)) (sub_skip (sub_skip (sub_skip (sub_refl _)))))))), (h7539.sub (sub_cons (memS mem0) (sub_cons mem0 (sub_cons (memS (memS mem0)) (sub_skip (sub_skip (sub_skip (sub_refl _)))))))), hB6038, hB6041, hB6045, (h7536.sub (sub_cons (memS mem0) (sub_cons mem0 (sub_cons (memS (memS mem0)) (sub_skip (sub_skip (sub_skip (sub_refl _)))))))), (h7542.sub (sub_cons (memS mem0) (sub_cons mem0 (sub_cons (memS (memS mem0)) (sub_skip (sub_skip (sub_skip (sub_refl _)))))))), (fun b h => blk_nil b h), (fun h => by cases h), (fun h => by cases h), (fun h => by cases h), (fun _ _ h => by cases h), e6020⟩ ?_
        rintro _ ρ wd7496 ⟨x7509, x7520, v7508, rfl, hs7499, hs7500, hs7501, hs7502, hs7505, hs7506, hs7513, hs7514, hs7515, hs7516, hs7518, hs7519, hs7521, h7498, h7517, h7524, h7527, h7528, hB7523, hB7526, hB7530, h7504, h7511, hf7512, hn7531, hn7532, hn7533, hn7534, e7497⟩ x7580 h hx7581 K7582 hK7582
        refine WC_seqK fun K7585 hK7585 => ?_
        refine WC_region ?_
        refine T0_q (v := (.bool (decide (x7520 < (el6078.length : Int))))) rfl (yl_lss hs7521 hs7519) ?_
        refine T0_nil ?_
        refine hK7585 _ _ ?_
        refine WC_seqK fun K7586 hK7586 => ?_
        refine WC_cond (b := (decide (x7520 < (el6078.length : Int)))) rfl (fun hb7587 => ?_) (fun hb7587 => ?_)
        · clear hK7583 hK7585
          replace h := cond_t hb7587 h
          refine WC_skip ?_
          refine hK7586 _ _ ?_
          refine WC_seqK fun K7588 hK7588 => ?_
          refine WC_block ?_
          refine WC_seqK fun K7589 hK7589 => ?_
          refine WC_region ?_
          refine T0_q (v := (.int .i64 x7520)) rfl (yl_move hs7521) ?_
          have hq := bind_elim h
          clear h
          obtain ⟨el7590, hel7591, h⟩ := hq
          have hq := SlRd.at h7517 hel7591
          obtain ⟨cs7592, hat7593, hrd7594⟩ := hq
          have hrd7594 : cs7592 = [(.int .i64 el7590)] := hrd7594
          subst hrd7594
          refine T0_q (v := (.pointer (some (elemAddr v6080 (x7520 : Int).toNat 1)))) rfl (yl_indexAddr Try.underlying23 sz3 h7517 hel7591 hs7518 hs7521) ?_
          refine T0_q (v := (.int .i64 el7590)) rfl (yl_load sc3 rfl hat7593) ?_
          refine T0_q (v := (.int .i64 x7520)) rfl (yl_assign rfl) ?_
          refine T0_q (v := (.int .i64 el7590)) rfl (yl_assign rfl) ?_
          refine T0_nil ?_
          refine hK7589 _ _ ?_
          refine WC_seqK fun K7596 hK7596 => ?_
          refine WC_region ?_
          refine T0_q (v := (.int .i64 0)) rfl (yl_assign rfl) ?_
          refine T0_nil ?_
          refine hK7596 _ _ ?_
          refine WC_seqK fun K7597 hK7597 => ?_
          refine WC_seqK fun K7598 hK7598 => ?_
          refine WC_region ?_
          refine T0_q (v := v_p_pmfratepmfraterowscolumndiownlknimagearow) rfl (yl_move hs7499) ?_
          refine T0_q (v := (.int .i64 (p_pmfratepmfraterowscolumndiownlknimagearow.length : Int))) rfl (yl_lenR rfl Try.underlying47 h7498 rfl) ?_
          refine T0_q (v := (.int .i64 0)) rfl (yl_move rfl) ?_
          refine T0_nil ?_
          refine hK7598 _ _ ?_
          have hq := bind_elim h
          clear h
          obtain ⟨o7926, hl7927, hn7928⟩ := hq
          refine WC_post (fun (ρ : Env) (wd7893 : World) => ∃ (x7908 : Int), x7908 = o7926 ∧ ρ 2 = v_p_pmfratepmfraterowscolumndiownlknimagearow ∧ ρ 4 = (.pointer (some ⟨b9, 0, none⟩)) ∧ ρ 7 = (.pointer (some ⟨b17, 0, none⟩)) ∧ ρ 10 = (.func (.func 105) #[] (List.toArray [(.pointer (some ⟨b37, 0, none⟩))])) ∧ ρ 11 = v6027 ∧ ρ 12 = (.int .i64 x6035) ∧ ρ 14 = v7508 ∧ ρ 16 = (.int .i64 el7590) ∧ ρ 17 = (.int .i64 x7908) ∧ ρ 27 = v_p_pmfratepmfraterowscolumndiownlknimagearow ∧ ρ 28 = (.int .i64 (p_pmfratepmfraterowscolumndiownlknimagearow.length : Int)) ∧ ρ 29 = (.int .i64 x6035) ∧ ρ 34 = v6080 ∧ ρ 35 = (.int .i64 (el6078.length : Int)) ∧ ρ 36 = (.int .i64 x7520) ∧ SlRd (v6027 :: v7508 :: (.pointer (some ⟨b37, 0, none⟩)) :: L) wd7893 v_p_pmfratepmfraterowscolumndiownlknimagearow p_pmfratepmfraterowscolumndiownlknimagearow ∧ SlRd (v6027 :: v7508 :: (.pointer (some ⟨b37, 0, none⟩)) :: L) wd7893 v6080 el6078 ∧ SlRd (v6027 :: v7508 :: (.pointer (some ⟨b37, 0, none⟩)) :: L) wd7893 v30 el28 ∧ SlRd (v6027 :: v7508 :: (.pointer (some ⟨b37, 0, none⟩)) :: L) wd7893 v1 p_Listappend.LevitatePlant.Maps ∧ SlRd (v6027 :: v7508 :: (.pointer (some ⟨b37, 0, none⟩)) :: L) wd7893 v3 p_Listappend.LevitatePlant.Noise ∧ Box wd7893 b17 [(.int .i64 p_a3.e0), (.int .i64 p_a3.e1)] 48 ∧ Box wd7893 b37 [v30] 47 ∧ Box wd7893 b9 [(.int .i64 p_Listappend.LevitatePlant.Den), v1, v3] 89 ∧ Own 23 (v6027 :: v7508 :: (.pointer (some ⟨b37, 0, none⟩)) :: L) wd7893 v6027 x6028 ∧ Own 3 (v6027 :: v7508 :: (.pointer (some ⟨b37, 0, none⟩)) :: L) wd7893 v7508 x7509 ∧ Ext w wd7893) ?_ ?_
          · clear hK7582 hK7586 hK7588 hK7589 hK7596 hK7597 hK7598
            intro K7932 hK7932
            refine WC_block ?_
            refine WC_loopk (fun sv ρ wd7855 => ∃ (x7871 : Int) (x7882 : Int), (x7871, x7882) = sv ∧ ρ 2 = v_p_pmfratepmfraterowscolumndiownlknimagearow ∧ ρ 4 = (.pointer (some ⟨b9, 0, none⟩)) ∧ ρ 7 = (.pointer (some ⟨b17, 0, none⟩)) ∧ ρ 10 = (.func (.func 105) #[] (List.toArray [(.pointer (some ⟨b37, 0, none⟩))])) ∧ ρ 11 = v6027 ∧ ρ 12 = (.int .i64 x6035) ∧ ρ 14 = v7508 ∧ ρ 15 = (.int .i64 x7520) ∧ ρ 16 = (.int .i64 el7590) ∧ ρ 17 = (.int .i64 x7871) ∧ ρ 27 = v_p_pmfratepmfraterowscolumndiownlknimagearow ∧ ρ 28 = (.int .i64 (p_pmfratepmfraterowscolumndiownlknimagearow.length : Int)) ∧ ρ 29 = (.int .i64 x6035) ∧ ρ 34 = v6080 ∧ ρ 35 = (.int .i64 (el6078.length : Int)) ∧ ρ 36 = (.int .i64 x7520) ∧ ρ 41 = v_p_pmfratepmfraterowscolumndiownlknimagearow ∧ ρ 42 = (.int .i64 (p_pmfratepmfraterowscolumndiownlknimagearow.length : Int)) ∧ ρ 43 = (.int .i64 x7882) ∧ SlRd (v6027 :: v7508 :: (.pointer (some ⟨b37, 0, none⟩)) :: L) wd7855 v_p_pmfratepmfraterowscolumndiownlknimagearow p_pmfratepmfraterowscolumndiownlknimagearow ∧ SlRd (v6027 :: v7508 :: (.pointer (some ⟨b37, 0, none⟩)) :: L) wd7855 v6080 el6078 ∧ SlRd (v6027 :: v7508 :: (.pointer (some ⟨b37, 0, none⟩)) :: L) wd7855 v30 el28 ∧ SlRd (v6027 :: v7508 :: (.pointer (some ⟨b37, 0, none⟩)) :: L) wd7855 v1 p_Listappend.LevitatePlant.Maps ∧ SlRd (v6027 :: v7508 :: (.pointer (some ⟨b37, 0, none⟩)) :: L) wd7855 v3 p_Listappend.LevitatePlant.Noise ∧ Box wd7855 b17 [(.int .i64 p_a3.e0), (.int .i64 p_a3.e1)] 48 ∧ Box wd7855 b37 [v30] 47 ∧ Box wd7855 b9 [(.int .i64 p_Listappend.LevitatePlant.Den), v1, v3] 89 ∧ Own 23 (v6027 :: v7508 :: (.pointer (some ⟨b37, 0, none⟩)) :: L) wd7855 v6027 x6028 ∧ Own 3 (v6027 :: v7508 :: (.pointer (some ⟨b37, 0, none⟩)) :: L) wd7855 v7508 x7509 ∧ Ext w wd7855) hl7927 ⟨0, 0, rfl, hs7499, hs7500, hs7501, hs7502, hs7505, hs7506, hs7513, rfl, rfl, rfl, hs7514, hs7515, hs7516, hs7518, hs7519, hs7521, rfl, rfl, rfl, h7498, h7517, h7524, h7527, h7528, hB7523, hB7526, hB7530, h7504, h7511, e7497⟩ ?_
            rintro _ ρ wd7855 ⟨x7871, x7882, rfl, hs7858, hs7859, hs7860, hs7861, hs7864, hs7865, hs7868, hs7869, hs7870, hs7872, hs7873, hs7874, hs7875, hs7877, hs7878, hs7879, hs7880, hs7881, hs7883, h7857, h7876, h7886, h7889, h7890, hB7885, hB7888, hB7892, h7863, h7867, e7856⟩ x7929 h hx7930 K7931 hK7931
            refine WC_seqK fun K7934 hK7934 => ?_
            refine WC_region ?_
            refine T0_q (v := (.bool (decide (x7882 < (p_pmfratepmfraterowscolumndiownlknimagearow.length : Int))))) rfl (yl_lss hs7883 hs7881) ?_
            refine T0_nil ?_
            refine hK7934 _ _ ?_
            refine WC_seqK fun K7935 hK7935 => ?_
            refine WC_cond (b := (decide (x7882 < (p_pmfratepmfraterowscolumndiownlknimagearow.length : Int)))) rfl (fun hb7936 => ?_) (fun hb7936 => ?_)
            · clear hK7932 hK7934
              replace h := cond_t hb7936 h
              refine WC_skip ?_
              refine hK7935 _ _ ?_
              refine WC_seqK fun K7937 hK7937 => ?_
              refine WC_block ?_
              refine WC_seqK fun K7938 hK7938 => ?_
              refine WC_region ?_
              refine T0_q (v := (.int .i64 x7882)) rfl (yl_move hs7883) ?_
              have hq := bind_elim h
              clear h
              obtain ⟨el7939, hel7940, h⟩ := hq
              have hq := SlRd.at h7857 hel7940
              obtain ⟨cs7943, hat7944, hrd7945⟩ := hq
              obtain ⟨v7941, rfl, h7942⟩ := hrd7945
              refine T0_q (v := (.pointer (some (elemAddr v_p_pmfratepmfraterowscolumndiownlknimagearow (x7882 : Int).toNat 1)))) rfl (yl_indexAddr Try.underlying47 sz23 h7857 hel7940 hs7880 hs7883) ?_
              refine T0_q (v := v7941) rfl (yl_load sc23 rfl hat7944) ?_
              refine T0_q (v := (.int .i64 x7882)) rfl (yl_assign rfl) ?_
              refine T0_q (v := v7941) rfl (yl_assign rfl) ?_
              refine T0_nil ?_
              refine hK7938 _ _ ?_
              refine WC_planX mixed (.p 0 (.p 1 (.p 2 (.p 4 (.p 7 (.p 8 (.p 9 (.e 3 (.p 5 (.q 6 (.e 10 (.e 11 (.p 12 (.p 13 (.p 14 .done))))))))))))))) (by kernel_rfl) ?_
              intro wd7948 he7949
              have e7950 := e7856.trans he7949
              refine TX_p (v := (.int .i64 x7871)) rfl rfl (fun w' => (yl_move hs7872)) ?_
              refine TX_p (v := (.func (.func 105) #[] (List.toArray [(.pointer (some ⟨b37, 0, none⟩))]))) rfl rfl (fun w' => (yl_move hs7861)) ?_
              refine TX_p (v := (.int .i64 x6035)) rfl rfl (fun w' => (yl_move hs7865)) ?_
              refine TX_p (v := (.int .i64 x7882)) rfl rfl (fun w' => (yl_move rfl)) ?_
              refine TX_p (v := v7941) rfl rfl (fun w' => (yl_move rfl)) ?_
              refine TX_p (v := (.func (.func 105) #[] (List.toArray [(.pointer (some ⟨b37, 0, none⟩))]))) rfl rfl (fun w' => (yl_move hs7861)) ?_
              refine TX_p (v := (.int .i64 x7520)) rfl rfl (fun w' => (yl_move hs7869)) ?_
              have hq := bind_elim h
              clear h
              obtain ⟨r7951, hr7952, h⟩ := hq
              refine TX_e rfl rfl (eff_callC rfl Try.func105 nm105 rfl (ev1 rfl) rfl (levitate_plant_lessens_1_ok (v6027 :: v7508 :: (.pointer (some ⟨b37, 0, none⟩)) :: L) _ (ltl_own (ltl_own (ltl_box (hL.chg e7950) (hB7888.ext he7949)) (h7867.ext he7949)) (h7863.ext he7949)) x6035 b37 v30 el28 (h7886.ext he7949) (hB7888.ext he7949) r7951 hr7952) ?_)
              rintro _ wd7953 ⟨he7954, v7955, rfl, h7956⟩
              have e7957 := he7949.trans he7954
              have e7958 := e7950.trans he7954
              refine ⟨he7954, ?_⟩
              have hq := bind_elim h
              clear h
              obtain ⟨el7960, hel7961, h⟩ := hq
              have hq := SlRd.at h7956 hel7961
              obtain ⟨cs7962, hat7963, hrd7964⟩ := hq
              have hrd7964 : cs7962 = [(.int .i64 el7960)] := hrd7964
              subst hrd7964
              refine TX_p (v := (.pointer (some (elemAddr v7955 (x7882 : Int).toNat 1)))) rfl rfl (fun w' => (yl_indexAddr Try.underlying23 sz3 h7956 hel7961 rfl rfl)) ?_
              refine TX_q (v := (.int .i64 el7960)) rfl rfl (fun w' hS => (yl_load sc3 rfl (hat7963.ext' hS))) ?_
              have hq := bind_elim h
              clear h
              obtain ⟨r7966, hr7967, h⟩ := hq
              refine TX_e rfl rfl (eff_callC rfl Try.func105 nm105 rfl (ev1 rfl) rfl (levitate_plant_lessens_1_ok (v6027 :: v7508 :: (.pointer (some ⟨b37, 0, none⟩)) :: L) _ (ltl_own (ltl_own (ltl_box (hL.chg e7958) (hB7888.ext e7957)) (h7867.ext e7957)) (h7863.ext e7957)) x7520 b37 v30 el28 (h7886.ext e7957) (hB7888.ext e7957) r7966 hr7967) ?_)
              rintro _ wd7968 ⟨he7969, v7970, rfl, h7971⟩
              have e7972 := e7957.trans he7969
              have e7973 := e7958.trans he7969
              refine ⟨he7969, ?_⟩
              have hq := bind_elim h
              clear h
              obtain ⟨r7975, hr7976, h⟩ := hq
              refine TX_e rfl rfl (eff_call Try.func106 nm106 rfl (ev2 rfl rfl) (levitate_dot_ok [] _ (LtL.nil _) v7941 el7939 ((h7942.ext e7972).sub (fun _ h => by cases h)) v7970 r7966 (h7971.sub (fun _ h => by cases h)) r7975 hr7976) ?_)
              rintro _ wd7977 ⟨he7978, rfl⟩
              have e7979 := e7972.trans he7978
              have e7980 := he7969.trans he7978
              have e7981 := e7973.trans he7978
              refine ⟨he7978, ?_⟩
              refine TX_p (v := (.int .i64 (w64 (el7960 * r7975)))) rfl rfl (fun w' => (yl_mul rfl rfl)) ?_
              refine TX_p (v := (.int .i64 (w64 (x7871 + (w64 (el7960 * r7975)))))) rfl rfl (fun w' => (yl_add rfl rfl)) ?_
              refine TX_p (v := (.int .i64 (w64 (x7871 + (w64 (el7960 * r7975)))))) rfl rfl (fun w' => (yl_assign rfl)) ?_
              refine TX_done ?_
              refine hK7937 _ _ ?_
              refine WC_region ?_
              refine T0_q (v := (.int .i64 (w64 (x7882 + 1)))) rfl (yl_add hs7883 rfl) ?_
              refine T0_q (v := (.int .i64 (w64 (x7882 + 1)))) rfl (yl_move rfl) ?_
              refine T0_nil ?_
              replace h := some_out h
              subst h
              refine hK7931 _ _ _ rfl ?_
              exact ⟨w64 (x7871 + (w64 (el7960 * r7975))), w64 (x7882 + 1), rfl, hs7858, hs7859, hs7860, hs7861, hs7864, hs7865, hs7868, hs7869, hs7870, rfl, hs7873, hs7874, hs7875, hs7877, hs7878, hs7879, hs7880, hs7881, rfl, (h7857.ext e7979), (h7876.ext e7979), (h7886.ext e7979), (h7889.ext e7979), (h7890.ext e7979), (hB7885.ext e7979), (hB7888.ext e7979), (hB7892.ext e7979), (h7863.ext e7979), (h7867.ext e7979), e7981⟩
            · clear hK7931 hK7934 hK7935
              replace h := cond_f hb7936 h
              refine WC_exit ?_
              replace h := some_out h
              subst h
              have ho := hx7930 _ rfl
              subst ho
              refine hK7932 _ _ ?_
              exact ⟨x7871, rfl, hs7858, hs7859, hs7860, hs7861, hs7864, hs7865, hs7868, hs7870, hs7872, hs7873, hs7874, hs7875, hs7877, hs7878, hs7879, h7857, h7876, h7886, h7889, h7890, hB7885, hB7888, hB7892, h7863, h7867, e7856⟩
          · clear hK7586 hK7589 hK7596 hK7598
            rintro ρ wd7893 ⟨x7908, rfl, hs7896, hs7897, hs7898, hs7899, hs7902, hs7903, hs7906, hs7907, hs7909, hs7910, hs7911, hs7912, hs7914, hs7915, hs7916, h7895, h7913, h7919, h7922, h7923, hB7918, hB7921, hB7925, h7901, h7905, e7894⟩
            replace h := hn7928
            refine hK7597 _ _ ?_
            refine WC_region ?_
            refine T0_q (v := v7508) rfl (yl_move hs7906) ?_
            refine T0_q (v := (.pointer (some ⟨b17, 0, none⟩))) rfl (yl_ixC (i := 0) Try.underlying48 sz3 (by decide) (by decide) hs7898 rfl rfl) ?_
            refine T0_q (v := (.int .i64 p_a3.e0)) rfl (yl_load sc3 rfl (Box.at hB7918)) ?_
            refine T0_q (v := (.pointer (some ⟨b9, 0, none⟩))) rfl (yl_fa 0 Try.underlying89 rfl rfl ⟨2, sz25⟩ hs7897 rfl) ?_
            refine T0_q (v := (.pointer (some ⟨b9, 0, none⟩))) rfl (yl_fa 0 Try.underlying25 rfl rfl ⟨0, sz3⟩ rfl rfl) ?_
            refine T0_q (v := (.int .i64 p_Listappend.LevitatePlant.Den)) rfl (yl_load sc3 rfl (Box.at hB7925)) ?_
            refine T0_q (v := (.int .i64 (w64 (p_a3.e0 * p_Listappend.LevitatePlant.Den)))) rfl (yl_mul rfl rfl) ?_
            refine T0_q (v := (.pointer (some ⟨b9, 0, none⟩))) rfl (yl_fa 0 Try.underlying89 rfl rfl ⟨2, sz25⟩ hs7897 rfl) ?_
            refine T0_q (v := (.pointer (some ⟨b9, 0, none⟩))) rfl (yl_fa 0 Try.underlying25 rfl rfl ⟨0, sz3⟩ rfl rfl) ?_
            refine T0_q (v := (.int .i64 p_Listappend.LevitatePlant.Den)) rfl (yl_load sc3 rfl (Box.at hB7925)) ?_
            refine T0_q (v := (.int .i64 (w64 ((w64 (p_a3.e0 * p_Listappend.LevitatePlant.Den)) * p_Listappend.LevitatePlant.Den)))) rfl (yl_mul rfl rfl) ?_
            refine T0_q (v := (.int .i64 el7590)) rfl (yl_move hs7907) ?_
            refine T0_q (v := (.int .i64 (w64 ((w64 ((w64 (p_a3.e0 * p_Listappend.LevitatePlant.Den)) * p_Listappend.LevitatePlant.Den)) * el7590)))) rfl (yl_mul rfl rfl) ?_
            refine T0_q (v := (.pointer (some ⟨b17, 1, none⟩))) rfl (yl_ixC (i := 1) Try.underlying48 sz3 (by decide) (by decide) hs7898 rfl rfl) ?_
            refine T0_q (v := (.int .i64 p_a3.e1)) rfl (yl_load sc3 rfl (At.drop (Box.at hB7918) 1)) ?_
            refine T0_q (v := (.int .i64 x7908)) rfl (yl_move hs7909) ?_
            refine T0_q (v := (.int .i64 (w64 (p_a3.e1 * x7908)))) rfl (yl_mul rfl rfl) ?_
            refine T0_q (v := (.int .i64 (w64 ((w64 ((w64 ((w64 (p_a3.e0 * p_Listappend.LevitatePlant.Den)) * p_Listappend.LevitatePlant.Den)) * el7590)) - (w64 (p_a3.e1 * x7908)))))) rfl (yl_sub rfl rfl) ?_
            refine T0_e rfl (eff_buildTC (xs := ([w64 ((w64 ((w64 ((w64 (p_a3.e0 * p_Listappend.LevitatePlant.Den)) * p_Listappend.LevitatePlant.Den)) * el7590)) - (w64 (p_a3.e1 * x7908)))] : List Int)) (cells := [(.int .i64 (w64 ((w64 ((w64 ((w64 (p_a3.e0 * p_Listappend.LevitatePlant.Den)) * p_Listappend.LevitatePlant.Den)) * el7590)) - (w64 (p_a3.e1 * x7908)))))]) Try.underlying23 ei3 rfl (pc_cons rfl rfl pc_nil) rfl (Elems.cons (cs := [(.int .i64 (w64 ((w64 ((w64 ((w64 (p_a3.e0 * p_Listappend.LevitatePlant.Den)) * p_Listappend.LevitatePlant.Den)) * el7590)) - (w64 (p_a3.e1 * x7908)))))]) rfl Elems.nil) rfl (ltl_own (ltl_own (ltl_box (hL.chg e7894) hB7921) h7905) h7901) ?_)
            intro b7985 wd7982 he7983 h7984
            have e7986 := e7894.trans he7983
            have h7988 := (h7895.ext he7983).sub (sub_cons (memS mem0) (sub_cons mem0 (sub_cons (memS (memS mem0)) (sub_skip (sub_skip (sub_skip (sub_refl _)))))))
            have h7989 := (h7901.ext he7983).sub (sub_cons (memS mem0) (sub_cons mem0 (sub_cons (memS (memS mem0)) (sub_skip (sub_skip (sub_skip (sub_refl _)))))))
            have h7990 := (h7905.ext he7983).sub (sub_cons (memS mem0) (sub_cons mem0 (sub_cons (memS (memS mem0)) (sub_skip (sub_skip (sub_skip (sub_refl _)))))))
            have h7991 := (h7913.ext he7983).sub (sub_cons (memS mem0) (sub_cons mem0 (sub_cons (memS (memS mem0)) (sub_skip (sub_skip (sub_skip (sub_refl _)))))))
            have h7992 := (h7919.ext he7983).sub (sub_cons (memS mem0) (sub_cons mem0 (sub_cons (memS (memS mem0)) (sub_skip (sub_skip (sub_skip (sub_refl _)))))))
            have h7993 := (h7922.ext he7983).sub (sub_cons (memS mem0) (sub_cons mem0 (sub_cons (memS (memS mem0)) (sub_skip (sub_skip (sub_skip (sub_refl _)))))))
            have h7994 := (h7923.ext he7983).sub (sub_cons (memS mem0) (sub_cons mem0 (sub_cons (memS (memS mem0)) (sub_skip (sub_skip (sub_skip (sub_refl _)))))))
            have h7995 := h7984.sub (sub_cons (memS mem0) (sub_cons mem0 (sub_cons (memS (memS mem0)) (sub_skip (sub_skip (sub_skip (sub_refl _)))))))
            have hq := bind_elim h
            clear h
            obtain ⟨zs7996, hz7997, h⟩ := hq
            refine T0_e rfl (eff_app Try.underlying23 ei3 rfl rfl rfl rfl h7990 h7995 hz7997 ?_)
            intro v7998 wd7999 hc8000 hbl8001 h8002
            have hn8004 : blk v7998 ≠ some b17 := ne_swap hbl8001 hn7531 (hB7918.ext he7983)
            have hn8005 : blk v7998 ≠ some b37 := ne_swap hbl8001 hn7532 (hB7921.ext he7983)
            have hn8006 : blk v7998 ≠ some b9 := ne_swap hbl8001 hn7533 (hB7925.ext he7983)
            have hn8007 := dj_swap hbl8001 hn7534 h7989
            have hf8008 := fresh_swap hbl8001 hf7512 e7986.size
            have h8009 := h7988.step (Stepp.swap hc8000 hbl8001)
            have h8010 := h7989.step (Stepp.swap hc8000 hbl8001) hc8000 (av_own hn7534)
            have h8011 := h7991.step (Stepp.swap hc8000 hbl8001)
            have h8012 := (hB7918.ext he7983).chg hc8000 (avoid1 hn7531)
            have h8013 := h7992.step (Stepp.swap hc8000 hbl8001)
            have h8014 := (hB7921.ext he7983).chg hc8000 (avoid1 hn7532)
            have h8015 := h7993.step (Stepp.swap hc8000 hbl8001)
            have h8016 := h7994.step (Stepp.swap hc8000 hbl8001)
            have h8017 := (hB7925.ext he7983).chg hc8000 (avoid1 hn7533)
            have h8018 := h7995.step (Stepp.swap hc8000 hbl8001)
            have e8019 := chg_own e7986 hc8000 hf7512
            refine T0_q (v := v7998) rfl (yl_assign rfl) ?_
            refine T0_nil ?_
            refine hK7588 _ _ ?_
            refine WC_region ?_
            refine T0_q (v := (.int .i64 (w64 (x7520 + 1)))) rfl (yl_add hs7916 rfl) ?_
            refine T0_q (v := (.int .i64 (w64 (x7520 + 1)))) rfl (yl_move rfl) ?_
            refine T0_nil ?_
            replace h := some_out h
            subst h
            refine hK7582 _ _ _ rfl ?_
            exact ⟨zs7996, w64 (x7520 + 1), v7998, rfl, hs7896, hs7897, hs7898, hs7899, hs7902, hs7903, rfl, hs7910, hs7911, hs7912, hs7914, hs7915, rfl, (h8009.sub (sub_cons (memS mem0) (sub_cons mem0 (sub_cons (memS (memS mem0)) (sub_skip (sub_skip (sub_skip (sub_refl _)))))))), (h8011.sub (sub_cons (memS mem0) (sub_cons mem0 (sub_cons (memS (memS mem0)) (sub_skip (sub_skip (sub_skip (sub_refl _)))))))), (h8013.sub (sub_cons (memS mem0) (sub_cons mem0 (sub_cons (memS (memS mem0)) (sub_skip (sub_skip (sub_skip (sub_refl _)))))))), (h8015.sub (sub_cons (memS mem0) (sub_cons mem0 (sub_cons (memS (memS mem0)) (sub_skip (sub_skip (sub_skip (sub_refl _)))))))), (h8016.sub (sub_cons (memS mem0) (sub_cons mem0 (sub_cons (memS (memS mem0)) (sub_skip (sub_skip (sub_skip (sub_refl _)))))))), h8012, h8014, h8017, (h8010.sub (sub_cons (memS mem0) (sub_cons mem0 (sub_cons (memS (memS mem0)) (sub_skip (sub_skip (sub_skip (sub_refl _)))))))), (h8002.sub (sub_cons (memS mem0) (sub_cons mem0 (sub_cons (memS (memS mem0)) (sub_skip (sub_skip (sub_skip (sub_refl _)))))))), hf8008, hn8004, hn8005, hn8006, hn8007, e8019⟩
        · clear hK7582 hK7585 hK7586
          replace h := cond_f hb7587 h
          refine WC_exit ?_
          replace h := some_out h
          subst h
          have ho := hx7581 _ rfl
          subst ho
          refine hK7583 _ _ ?_
          exact ⟨x7509, v7508, rfl, hs7499, hs7500, hs7501, hs7502, hs7505, hs7513, hs7514, hs7515, hs7516, h7498, h7524, h7527, h7528, hB7523, hB7526, hB7530, h7504, h7511, hf7512, hn7531, hn7532, hn7533, hn7534, e7497⟩
      · clear hK6074 hK6077 hK6087 hK6089
        rintro ρ wd7544 ⟨x7556, v7555, rfl, hs7547, hs7548, hs7549, hs7550, hs7553, hs7560, hs7561, hs7562, hs7563, h7546, h7566, h7569, h7570, hB7565, hB7568, hB7572, h7552, h7558, hf7559, hn7573, hn7574, hn7575, hn7576, e7545⟩
        replace h := hn7579
        refine hK6088 _ _ ?_
        refine WC_region ?_
        refine T0_q (v := v6027) rfl (yl_move hs7553) ?_
        refine T0_q (v := v7555) rfl (yl_move hs7560) ?_
        have h8021 := (h7558.sub (sub_cons mem0 (sub_cons (memS (memS mem0)) (sub_skip (sub_skip (sub_skip (sub_refl _))))))).rd (fun b hb => (Avoids.cons (Avoids.cons (fun x hx e => by have := hL x hx b e; have := hf7559 b hb; omega) (fun e => hn7574 (hb.trans e.symm))) ((dj_symm hn7576) b hb)))
        have h8022 := h7546.sub (sub_cons mem0 (sub_cons (memS (memS mem0)) (sub_skip (sub_skip (sub_skip (sub_refl _))))))
        have h8023 := h7552.sub (sub_cons mem0 (sub_cons (memS (memS mem0)) (sub_skip (sub_skip (sub_skip (sub_refl _))))))
        have h8024 := h7566.sub (sub_cons mem0 (sub_cons (memS (memS mem0)) (sub_skip (sub_skip (sub_skip (sub_refl _))))))
        have h8025 := h7569.sub (sub_cons mem0 (sub_cons (memS (memS mem0)) (sub_skip (sub_skip (sub_skip (sub_refl _))))))
        have h8026 := h7570.sub (sub_cons mem0 (sub_cons (memS (memS mem0)) (sub_skip (sub_skip (sub_skip (sub_refl _))))))
        refine T0_e rfl (eff_buildTC (xs := ([x7556] : List (List Int))) (cells := [v7555]) Try.underlying47 ei23 rfl (pc_cons rfl (cells_one h8021.one1) pc_nil) rfl (Elems.cons (cs := [v7555]) ⟨_, rfl, h8021⟩ Elems.nil) rfl (ltl_own (ltl_box (hL.chg e7545) hB7568) h8023) ?_)
        intro b8031 wd8028 he8029 h8030
        have e8032 := e7545.trans he8029
        have hq := bind_elim h
        clear h
        obtain ⟨zs8034, hz8035, h⟩ := hq
        refine T0_e rfl (eff_app Try.underlying47 ei23 rfl rfl rfl rfl (h8023.ext he8029) h8030 hz8035 ?_)
        intro v8036 wd8037 hc8038 hbl8039 h8040
        have hn8042 : blk v8036 ≠ some b17 := ne_swap hbl8039 hn6046 (hB7565.ext he8029)
        have hn8043 : blk v8036 ≠ some b37 := ne_swap hbl8039 hn6047 (hB7568.ext he8029)
        have hn8044 : blk v8036 ≠ some b9 := ne_swap hbl8039 hn6048 (hB7572.ext he8029)
        have hf8045 := fresh_swap hbl8039 hf6031 e8032.size
        have h8046 := (h8022.ext he8029).step (Stepp.swap hc8038 hbl8039)
        have h8047 := (hB7565.ext he8029).chg hc8038 (avoid1 hn6046)
        have h8048 := (h8024.ext he8029).step (Stepp.swap hc8038 hbl8039)
        have h8049 := (hB7568.ext he8029).chg hc8038 (avoid1 hn6047)
        have h8050 := (h8025.ext he8029).step (Stepp.swap hc8038 hbl8039)
        have h8051 := (h8026.ext he8029).step (Stepp.swap hc8038 hbl8039)
        have h8052 := (hB7572.ext he8029).chg hc8038 (avoid1 hn6048)
        have h8053 := (h8021.ext he8029).step (Stepp.swap hc8038 hbl8039)
        have h8054 := h8030.step (Stepp.swap hc8038 hbl8039)
        have e8055 := chg_own e8032 hc8038 hf6031
        refine T0_q (v := v8036) rfl (yl_assign rfl) ?_
        refine T0_nil ?_
        refine hK6076 _ _ ?_
        refine WC_region ?_
        refine T0_q (v := (.int .i64 (w64 (x6035 + 1)))) rfl (yl_add hs7563 rfl) ?_
        refine T0_q (v := (.int .i64 (w64 (x6035 + 1)))) rfl (yl_move rfl) ?_
        refine T0_nil ?_
        replace h := some_out h
        subst h
        refine hK6070 _ _ _ rfl ?_
        exact ⟨zs8034, w64 (x6035 + 1), v8036, rfl, hs7547, hs7548, hs7549, hs7550, rfl, hs7561, hs7562, rfl, h8046, h8048, h8050, h8051, h8047, h8049, h8052, h8040, hf8045, hn8042, hn8043, hn8044, e8055⟩
    · clear hK6070 hK6073 hK6074
      replace h := cond_f hb6075 h
      refine WC_exit ?_
      replace h := some_out h
      subst h
      have ho := hx6069 _ rfl
      subst ho
      refine hK6071 _ _ ?_
      exact ⟨x6028, v6027, rfl, hs6032, (h6030.sub (sub_cons mem0 (sub_skip (sub_skip (sub_refl _))))), hf6031, e6020⟩
  · clear hK27 hK63 hK64 hK66 hK8
    rintro ρ wd6056 ⟨x6060, v6059, rfl, hs6064, h6062, hf6063, e6057⟩
    replace h := hn6067
    refine hK65 _ _ ?_
    refine WC_seqK fun K8057 hK8057 => ?_
    refine WC_region ?_
    refine T0_q (v := v6059) rfl (yl_move hs6064) ?_
    have hq := bind_elim h
    clear h
    obtain ⟨r8058, hr8059, h⟩ := hq
    refine T0_e rfl (eff_call Try.func107 nm107 rfl (ev1 rfl) (levitate_never_ok [] _ (LtL.nil _) v6059 x6060 (h6062.rdL (fun _ h => by cases h) (LtL.nil w) hf6063) r8058 hr8059) ?_)
    rintro _ wd8060 ⟨he8061, rfl⟩
    have e8062 := e6057.trans he8061
    refine T0_q (v := (.bool r8058)) rfl (yl_assign rfl) ?_
    refine T0_nil ?_
    refine hK8057 _ _ ?_
    refine WC_ret ?_
    replace h := some_out h
    subst h
    exact ⟨[(.bool r8058)], ⟨rfl, trivial⟩, e8062, rfl⟩

noncomputable def slices_ContainsFunc_int_102_spec (p_s : (List Int)) : Option Bool :=
  (Option.bind (slices_IndexFunc_int_102_spec p_s) fun r4 =>
  some (decide (0 ≤ r4))
  )
theorem slices_ContainsFunc_int_102_ok (L : List Value) (w : World) (hL : LtL L w) (v_p_s : Value) (p_s : (List Int)) (h_p_s : SlRd L w v_p_s p_s) (r : Bool) (h : slices_ContainsFunc_int_102_spec p_s = some r) :
    CallsTo Try.prog 36 [v_p_s, (.func (.func 102) #[] #[])] w (fun v w' => Ext w w' ∧ (.bool r) = v) := by
  have e0 : Ext w w := Chg.refl _ _
  refine callsTo_of_WC (n := 9) (rs := [.tmp 4]) Try.func36 rfl rfl rfl rfl rfl ?_
  refine WC_seqK fun K2 hK2 => ?_
  refine WC_region ?_
  refine T0_q (v := (.bool false)) rfl (yl_assign rfl) ?_
  refine T0_nil ?_
  refine hK2 _ _ ?_
  refine WC_seqK fun K3 hK3 => ?_
  refine WC_region ?_
  refine T0_q (v := v_p_s) rfl (yl_move rfl) ?_
  refine T0_q (v := (.func (.func 102) #[] #[])) rfl (yl_move rfl) ?_
  have hq := bind_elim h
  clear h
  obtain ⟨r4, hr5, h⟩ := hq
  refine T0_e rfl (eff_call Try.func68 nm68 rfl (ev2 rfl rfl) (slices_IndexFunc_int_102_ok [] _ (LtL.nil _) v_p_s p_s (h_p_s.sub (fun _ h => by cases h)) r4 hr5) ?_)
  rintro _ wd6 ⟨he7, rfl⟩
  have e8 := e0.trans he7
  refine T0_q (v := (.bool (decide (0 ≤ r4)))) rfl (yl_geq rfl rfl) ?_
  refine T0_q (v := (.bool (decide (0 ≤ r4)))) rfl (yl_assign rfl) ?_
  refine T0_nil ?_
  refine hK3 _ _ ?_
  refine WC_ret ?_
  replace h := some_out h
  subst h
  exact ⟨[(.bool (decide (0 ≤ r4)))], ⟨rfl, trivial⟩, e8, rfl⟩

noncomputable def slices_ContainsFunc_int_37_spec (p_s : (List Int)) : Option Bool :=
  (Option.bind (slices_IndexFunc_int_37_spec p_s) fun r4 =>
  some (decide (0 ≤ r4))
  )
theorem slices_ContainsFunc_int_37_ok (L : List Value) (w : World) (hL : LtL L w) (v_p_s : Value) (p_s : (List Int)) (h_p_s : SlRd L w v_p_s p_s) (r : Bool) (h : slices_ContainsFunc_int_37_spec p_s = some r) :
    CallsTo Try.prog 36 [v_p_s, (.func (.func 37) #[] #[])] w (fun v w' => Ext w w' ∧ (.bool r) = v) := by
  have e0 : Ext w w := Chg.refl _ _
  refine callsTo_of_WC (n := 9) (rs := [.tmp 4]) Try.func36 rfl rfl rfl rfl rfl ?_
  refine WC_seqK fun K2 hK2 => ?_
  refine WC_region ?_
  refine T0_q (v := (.bool false)) rfl (yl_assign rfl) ?_
  refine T0_nil ?_
  refine hK2 _ _ ?_
  refine WC_seqK fun K3 hK3 => ?_
  refine WC_region ?_
  refine T0_q (v := v_p_s) rfl (yl_move rfl) ?_
  refine T0_q (v := (.func (.func 37) #[] #[])) rfl (yl_move rfl) ?_
  have hq := bind_elim h
  clear h
  obtain ⟨r4, hr5, h⟩ := hq
  refine T0_e rfl (eff_call Try.func68 nm68 rfl (ev2 rfl rfl) (slices_IndexFunc_int_37_ok [] _ (LtL.nil _) v_p_s p_s (h_p_s.sub (fun _ h => by cases h)) r4 hr5) ?_)
  rintro _ wd6 ⟨he7, rfl⟩
  have e8 := e0.trans he7
  refine T0_q (v := (.bool (decide (0 ≤ r4)))) rfl (yl_geq rfl rfl) ?_
  refine T0_q (v := (.bool (decide (0 ≤ r4)))) rfl (yl_assign rfl) ?_
  refine T0_nil ?_
  refine hK3 _ _ ?_
  refine WC_ret ?_
  replace h := some_out h
  subst h
  exact ⟨[(.bool (decide (0 ≤ r4)))], ⟨rfl, trivial⟩, e8, rfl⟩

noncomputable def levitate_formErr_1_spec (p_row : (List Int)) (c5 : (List (List Int))) : Option Bool :=
  some (!decide ((p_row.length : Int) = (c5.length : Int)))
theorem levitate_formErr_1_ok (L : List Value) (w : World) (hL : LtL L w) (v_p_row : Value) (p_row : (List Int)) (h_p_row : SlRd L w v_p_row p_row) (b2 : Nat) (v6 : Value) (c5 : (List (List Int))) (h7 : SlRd L w v6 c5) (hB3 : Box w b2 [v6] 47) (r : Bool) (h : levitate_formErr_1_spec p_row c5 = some r) :
    CallsTo Try.prog 121 [v_p_row, (.pointer (some ⟨b2, 0, none⟩))] w (fun v w' => Ext w w' ∧ (.bool r) = v) := by
  have e0 : Ext w w := Chg.refl _ _
  refine callsTo_of_WC (n := 9) (rs := [.tmp 3]) Try.func121 rfl rfl rfl rfl rfl ?_
  refine WC_seqK fun K9 hK9 => ?_
  refine WC_region ?_
  refine T0_q (v := (.bool false)) rfl (yl_assign rfl) ?_
  refine T0_nil ?_
  refine hK9 _ _ ?_
  refine WC_seqK fun K10 hK10 => ?_
  refine WC_region ?_
  refine T0_q (v := v_p_row) rfl (yl_move rfl) ?_
  refine T0_q (v := (.int .i64 (p_row.length : Int))) rfl (yl_lenR rfl Try.underlying23 h_p_row rfl) ?_
  refine T0_q (v := v6) rfl (yl_load sc47 rfl (Box.at hB3)) ?_
  refine T0_q (v := (.int .i64 (c5.length : Int))) rfl (yl_lenR rfl Try.underlying47 h7 rfl) ?_
  refine T0_q (v := (.bool (!decide ((p_row.length : Int) = (c5.length : Int))))) rfl (yl_neq rfl rfl) ?_
  refine T0_q (v := (.bool (!decide ((p_row.length : Int) = (c5.length : Int))))) rfl (yl_assign rfl) ?_
  refine T0_nil ?_
  refine hK10 _ _ ?_
  refine WC_ret ?_
  replace h := some_out h
  subst h
  exact ⟨[(.bool (!decide ((p_row.length : Int) = (c5.length : Int))))], ⟨rfl, trivial⟩, e0, rfl⟩

noncomputable def levitate_plant_broken_s0 (p_box : (List Int)) (p_p : levitate_plant) (x715 : Int) : (Int) → Option ((Int) ⊕ (((Int) ⊕ ((LevitateMark × Bool) ⊕ (Unit))) ⊕ (Unit))) := fun x890 =>
  (bif (decide (x890 < (p_box.length : Int))) then (
    (Option.bind (idx p_box x890) fun el925 =>
    (Option.bind (levitate_plant_need_spec p_p x715 x890 p_box) fun r932 =>
    (bif (decide (el925 < r932)) then (
      some (.inr (.inl (.inr (.inl ((LevitateMark.mk x715 x890), true)))))
    ) else (
      some (.inl (w64 (x890 + 1)))
    ))
    )
    )
  ) else (
    some (.inr (.inr ()))
  ))
noncomputable def levitate_plant_broken_s1 (p_box : (List Int)) (p_p : levitate_plant) : (Int) → Option ((Int) ⊕ ((LevitateMark × Bool) ⊕ (Unit))) := fun x715 =>
  (bif (decide (x715 < (p_p.LevitatePlant.Maps.length : Int))) then (
    (Option.bind (loop (levitate_plant_broken_s0 p_box p_p x715) 0) fun o912 => jn0 o912 fun (_ : Unit) =>
    some (.inl (w64 (x715 + 1)))
    )
  ) else (
    some (.inr (.inr ()))
  ))
noncomputable def levitate_plant_broken_spec (p_p : levitate_plant) (p_box : (List Int)) : Option (LevitateMark × Bool) :=
  (Option.bind (loop (levitate_plant_broken_s1 p_box p_p) 0) fun o728 => jn0 o728 fun (_ : Unit) =>
  some ((LevitateMark.mk 0 0), false)
  )
theorem levitate_plant_broken_ok (L : List Value) (w : World) (hL : LtL L w) (cs_p_p : List Value) (p_p : levitate_plant) (h_p_p : Rep.rd L w cs_p_p p_p) (v_p_box : Value) (p_box : (List Int)) (h_p_box : SlRd L w v_p_box p_box) (r : LevitateMark × Bool) (h : levitate_plant_broken_spec p_p p_box = some r) :
    CallsTo Try.prog 50 [(.agg cs_p_p.toArray), v_p_box] w (fun v w' => Ext w w' ∧ ∃ (cs0 : List Value), (.tuple #[(.agg cs0.toArray), (.bool r.2)]) = v ∧ Rep.rd L w' cs0 r.1) := by
  have e0 : Ext w w := Chg.refl _ _
  obtain ⟨v1, v3, h2, h4, rfl⟩ := h_p_p
  refine callsTo_of_WC (n := 36) (rs := [.cell 4 29, .tmp 5]) Try.func50 rfl rfl rfl rfl rfl ?_
  refine WC_seqK fun K8 hK8 => ?_
  refine WC_region ?_
  refine T0_e rfl (eff_boxC (cs := [(.int .i64 p_p.LevitatePlant.Den), v1, v3]) rfl rfl ?_)
  intro b9 wd10 hb11 he12 hB13
  have hbf14 := bfresh e0 hb11
  have e15 := e0.trans he12
  refine T0_e rfl (eff_allocZ zi29 ?_)
  intro b17 wd18 hb19 he20 hB21
  have hn22 : b17 ≠ b9 := box_ne hB13 hb19
  have hbf23 := bfresh e15 hb19
  have h24 := (h2.ext he12).step (add_box he20 hb19)
  have h25 := (h4.ext he12).step (add_box he20 hb19)
  have h26 := (h_p_box.ext he12).step (add_box he20 hb19)
  have e27 := e15.trans he20
  refine T0_q (v := (.bool false)) rfl (yl_assign rfl) ?_
  refine T0_nil ?_
  refine hK8 _ _ ?_
  refine WC_seqK fun K29 hK29 => ?_
  refine WC_seqK fun K30 hK30 => ?_
  refine WC_region ?_
  refine T0_q (v := (.pointer (some ⟨b9, 0, none⟩))) rfl (yl_fa 0 Try.underlying89 rfl rfl ⟨2, sz25⟩ rfl rfl) ?_
  refine T0_q (v := (.pointer (some ⟨b9, 1, none⟩))) rfl (yl_fa 1 Try.underlying25 rfl rfl ⟨0, sz22⟩ rfl rfl) ?_
  refine T0_q (v := v1) rfl (yl_load sc22 rfl (At.drop (Box.at (hB13.ext he20)) 1)) ?_
  refine T0_q (v := (.int .i64 (p_p.LevitatePlant.Maps.length : Int))) rfl (yl_lenR rfl Try.underlying22 h24 rfl) ?_
  refine T0_q (v := (.int .i64 0)) rfl (yl_move rfl) ?_
  refine T0_nil ?_
  refine hK30 _ _ ?_
  have hq := bind_elim h
  clear h
  obtain ⟨o728, hl729, hn730⟩ := hq
  refine WC_post (fun (ρ : Env) (wd723 : World) => .inr () = o728 ∧ ρ 4 = (.pointer (some ⟨b17, 0, none⟩)) ∧ Box wd723 b17 [(.int .i64 0), (.int .i64 0)] 29 ∧ Ext w wd723) ?_ ?_
  · clear hK29 hK30 hK8
    intro K734 hK734
    refine WC_block ?_
    refine WC_loopk (fun sv ρ wd708 => ∃ (x715 : Int), x715 = sv ∧ ρ 1 = v_p_box ∧ ρ 2 = (.pointer (some ⟨b9, 0, none⟩)) ∧ ρ 4 = (.pointer (some ⟨b17, 0, none⟩)) ∧ ρ 12 = (.int .i64 (p_p.LevitatePlant.Maps.length : Int)) ∧ ρ 13 = (.int .i64 x715) ∧ SlRd ((.pointer (some ⟨b17, 0, none⟩)) :: L) wd708 v_p_box p_box ∧ SlRd ((.pointer (some ⟨b17, 0, none⟩)) :: L) wd708 v1 p_p.LevitatePlant.Maps ∧ SlRd ((.pointer (some ⟨b17, 0, none⟩)) :: L) wd708 v3 p_p.LevitatePlant.Noise ∧ Box wd708 b17 [(.int .i64 0), (.int .i64 0)] 29 ∧ Box wd708 b9 [(.int .i64 p_p.LevitatePlant.Den), v1, v3] 89 ∧ Ext w wd708) hl729 ⟨0, rfl, rfl, rfl, rfl, rfl, rfl, h26, h24, h25, hB21, (hB13.ext he20), e27⟩ ?_
    rintro _ ρ wd708 ⟨x715, rfl, hs711, hs712, hs713, hs714, hs716, h710, h719, h720, hB718, hB722, e709⟩ x731 h hx732 K733 hK733
    refine WC_seqK fun K736 hK736 => ?_
    refine WC_region ?_
    refine T0_q (v := (.bool (decide (x715 < (p_p.LevitatePlant.Maps.length : Int))))) rfl (yl_lss hs716 hs714) ?_
    refine T0_nil ?_
    refine hK736 _ _ ?_
    refine WC_seqK fun K737 hK737 => ?_
    refine WC_cond (b := (decide (x715 < (p_p.LevitatePlant.Maps.length : Int)))) rfl (fun hb738 => ?_) (fun hb738 => ?_)
    · clear hK734 hK736
      replace h := cond_t hb738 h
      refine WC_skip ?_
      refine hK737 _ _ ?_
      refine WC_seqK fun K739 hK739 => ?_
      refine WC_block ?_
      refine WC_seqK fun K740 hK740 => ?_
      refine WC_region ?_
      refine T0_q (v := (.int .i64 x715)) rfl (yl_move hs716) ?_
      refine T0_q (v := (.int .i64 x715)) rfl (yl_assign rfl) ?_
      refine T0_nil ?_
      refine hK740 _ _ ?_
      refine WC_seqK fun K741 hK741 => ?_
      refine WC_region ?_
      refine T0_q (v := v_p_box) rfl (yl_move hs711) ?_
      refine T0_q (v := (.int .i64 (p_box.length : Int))) rfl (yl_lenR rfl Try.underlying23 h710 rfl) ?_
      refine T0_q (v := (.int .i64 0)) rfl (yl_move rfl) ?_
      refine T0_nil ?_
      refine hK741 _ _ ?_
      have hq := bind_elim h
      clear h
      obtain ⟨o912, hl913, hn914⟩ := hq
      refine WC_post (fun (ρ : Env) (wd898 : World) => .inr () = o912 ∧ ρ 1 = v_p_box ∧ ρ 2 = (.pointer (some ⟨b9, 0, none⟩)) ∧ ρ 4 = (.pointer (some ⟨b17, 0, none⟩)) ∧ ρ 12 = (.int .i64 (p_p.LevitatePlant.Maps.length : Int)) ∧ ρ 13 = (.int .i64 x715) ∧ SlRd ((.pointer (some ⟨b17, 0, none⟩)) :: L) wd898 v_p_box p_box ∧ SlRd ((.pointer (some ⟨b17, 0, none⟩)) :: L) wd898 v1 p_p.LevitatePlant.Maps ∧ SlRd ((.pointer (some ⟨b17, 0, none⟩)) :: L) wd898 v3 p_p.LevitatePlant.Noise ∧ Box wd898 b17 [(.int .i64 0), (.int .i64 0)] 29 ∧ Box wd898 b9 [(.int .i64 p_p.LevitatePlant.Den), v1, v3] 89 ∧ Ext w wd898) ?_ ?_
      · clear hK733 hK737 hK739 hK740 hK741
        intro K918 hK918
        refine WC_block ?_
        refine WC_loopk (fun sv ρ wd879 => ∃ (x890 : Int), x890 = sv ∧ ρ 1 = v_p_box ∧ ρ 2 = (.pointer (some ⟨b9, 0, none⟩)) ∧ ρ 4 = (.pointer (some ⟨b17, 0, none⟩)) ∧ ρ 6 = (.int .i64 x715) ∧ ρ 12 = (.int .i64 (p_p.LevitatePlant.Maps.length : Int)) ∧ ρ 13 = (.int .i64 x715) ∧ ρ 16 = v_p_box ∧ ρ 17 = (.int .i64 (p_box.length : Int)) ∧ ρ 18 = (.int .i64 x890) ∧ SlRd ((.pointer (some ⟨b17, 0, none⟩)) :: L) wd879 v_p_box p_box ∧ SlRd ((.pointer (some ⟨b17, 0, none⟩)) :: L) wd879 v1 p_p.LevitatePlant.Maps ∧ SlRd ((.pointer (some ⟨b17, 0, none⟩)) :: L) wd879 v3 p_p.LevitatePlant.Noise ∧ Box wd879 b17 [(.int .i64 0), (.int .i64 0)] 29 ∧ Box wd879 b9 [(.int .i64 p_p.LevitatePlant.Den), v1, v3] 89 ∧ Ext w wd879) hl913 ⟨0, rfl, hs711, hs712, hs713, rfl, hs714, hs716, rfl, rfl, rfl, h710, h719, h720, hB718, hB722, e709⟩ ?_
        rintro _ ρ wd879 ⟨x890, rfl, hs882, hs883, hs884, hs885, hs886, hs887, hs888, hs889, hs891, h881, h894, h895, hB893, hB897, e880⟩ x915 h hx916 K917 hK917
        refine WC_seqK fun K920 hK920 => ?_
        refine WC_region ?_
        refine T0_q (v := (.bool (decide (x890 < (p_box.length : Int))))) rfl (yl_lss hs891 hs889) ?_
        refine T0_nil ?_
        refine hK920 _ _ ?_
        refine WC_seqK fun K921 hK921 => ?_
        refine WC_cond (b := (decide (x890 < (p_box.length : Int)))) rfl (fun hb922 => ?_) (fun hb922 => ?_)
        · clear hK918 hK920
          replace h := cond_t hb922 h
          refine WC_skip ?_
          refine hK921 _ _ ?_
          refine WC_seqK fun K923 hK923 => ?_
          refine WC_block ?_
          refine WC_seqK fun K924 hK924 => ?_
          refine WC_region ?_
          refine T0_q (v := (.int .i64 x890)) rfl (yl_move hs891) ?_
          have hq := bind_elim h
          clear h
          obtain ⟨el925, hel926, h⟩ := hq
          have hq := SlRd.at h881 hel926
          obtain ⟨cs927, hat928, hrd929⟩ := hq
          have hrd929 : cs927 = [(.int .i64 el925)] := hrd929
          subst hrd929
          refine T0_q (v := (.pointer (some (elemAddr v_p_box (x890 : Int).toNat 1)))) rfl (yl_indexAddr Try.underlying23 sz3 h881 hel926 hs888 hs891) ?_
          refine T0_q (v := (.int .i64 el925)) rfl (yl_load sc3 rfl hat928) ?_
          refine T0_q (v := (.int .i64 x890)) rfl (yl_assign rfl) ?_
          refine T0_q (v := (.int .i64 el925)) rfl (yl_assign rfl) ?_
          refine T0_nil ?_
          refine hK924 _ _ ?_
          refine WC_seqK fun K931 hK931 => ?_
          refine WC_region ?_
          refine T0_q (v := (.agg (List.toArray [(.int .i64 p_p.LevitatePlant.Den), v1, v3]))) rfl (yl_loadA (cs := [(.int .i64 p_p.LevitatePlant.Den), v1, v3]) ag89 hs883 (Box.at hB897)) ?_
          refine T0_q (v := (.int .i64 x715)) rfl (yl_move hs885) ?_
          refine T0_q (v := (.int .i64 x890)) rfl (yl_move rfl) ?_
          refine T0_q (v := v_p_box) rfl (yl_move hs882) ?_
          have hq := bind_elim h
          clear h
          obtain ⟨r932, hr933, h⟩ := hq
          refine T0_e rfl (eff_call Try.func51 nm51 rfl (ev4 rfl rfl rfl rfl) (levitate_plant_need_ok [] _ (LtL.nil _) [(.int .i64 p_p.LevitatePlant.Den), v1, v3] p_p ⟨v1, v3, (h894.sub (fun _ h => by cases h)), (h895.sub (fun _ h => by cases h)), rfl⟩ x715 x890 v_p_box p_box (h881.sub (fun _ h => by cases h)) r932 hr933) ?_)
          rintro _ wd934 ⟨he935, rfl⟩
          have e936 := e880.trans he935
          refine T0_q (v := (.int .i64 el925)) rfl (yl_move rfl) ?_
          refine T0_q (v := (.bool (decide (el925 < r932)))) rfl (yl_gtr rfl rfl) ?_
          refine T0_nil ?_
          refine hK931 _ _ ?_
          refine WC_cond (b := (decide (el925 < r932))) rfl (fun hb937 => ?_) (fun hb937 => ?_)
          · clear hK917 hK921 hK923 hK924 hK931
            replace h := cond_t hb937 h
            refine WC_seqK fun K938 hK938 => ?_
            refine WC_region ?_
            refine T0_q (v := (.int .i64 x715)) rfl (yl_move hs885) ?_
            refine T0_q (v := (.int .i64 x890)) rfl (yl_move rfl) ?_
            refine T0_q (v := (.agg (List.toArray [(.int .i64 x715), (.int .i64 x890)]))) rfl (yl_buildC (cells := [(.int .i64 x715), (.int .i64 x890)]) bi29 (pc_cons rfl rfl (pc_cons rfl rfl pc_nil)) rfl) ?_
            refine T0_e rfl (eff_storeC (vs := [(.int .i64 x715), (.int .i64 x890)]) (cs' := [(.int .i64 x715), (.int .i64 x890)]) sz29 rfl rfl hs884 rfl (hB893.ext he935) rfl (oc_cons rfl (oc_cons rfl oc_nil)) rfl ?_)
            intro wd939 hc940 hB941
            have h942 := (h881.ext he935).step (Stepp.chg_mem hc940 mem0)
            have h943 := (h894.ext he935).step (Stepp.chg_mem hc940 mem0)
            have h944 := (h895.ext he935).step (Stepp.chg_mem hc940 mem0)
            have h945 := (hB897.ext he935).chg hc940 (avoidb hn22)
            have e946 := chg_box e936 hc940 hbf23
            refine T0_q (v := (.bool true)) rfl (yl_assign rfl) ?_
            refine T0_nil ?_
            refine hK938 _ _ ?_
            refine WC_ret ?_
            replace h := some_out h
            subst h
            have ho := hx916 _ rfl
            subst ho
            replace h := jn0_inl hn914
            replace h := some_out h
            subst h
            have ho := hx732 _ rfl
            subst ho
            replace h := jn0_inl hn730
            replace h := some_out h
            subst h
            exact ⟨[(.agg (List.toArray [(.int .i64 x715), (.int .i64 x890)])), (.bool true)], ⟨⟨_, hs884, run_loadVarA (cs := [(.int .i64 x715), (.int .i64 x890)]) ag29 (Box.at hB941)⟩, rfl, trivial⟩, e946, [(.int .i64 x715), (.int .i64 x890)], rfl, rfl⟩
          · clear hK921 hK924 hK931
            replace h := cond_f hb937 h
            refine WC_skip ?_
            refine hK923 _ _ ?_
            refine WC_region ?_
            refine T0_q (v := (.int .i64 (w64 (x890 + 1)))) rfl (yl_add hs891 rfl) ?_
            refine T0_q (v := (.int .i64 (w64 (x890 + 1)))) rfl (yl_move rfl) ?_
            refine T0_nil ?_
            replace h := some_out h
            subst h
            refine hK917 _ _ _ rfl ?_
            exact ⟨w64 (x890 + 1), rfl, hs882, hs883, hs884, hs885, hs886, hs887, hs888, hs889, rfl, (h881.ext he935), (h894.ext he935), (h895.ext he935), (hB893.ext he935), (hB897.ext he935), e936⟩
        · clear hK917 hK920 hK921
          replace h := cond_f hb922 h
          refine WC_exit ?_
          replace h := some_out h
          subst h
          have ho := hx916 _ rfl
          subst ho
          refine hK918 _ _ ?_
          exact ⟨rfl, hs882, hs883, hs884, hs886, hs887, h881, h894, h895, hB893, hB897, e880⟩
      · clear hK737 hK740 hK741
        rintro ρ wd898 ⟨rfl, hs901, hs902, hs903, hs904, hs905, h900, h908, h909, hB907, hB911, e899⟩
        replace h := jn0_inr hn914
        refine hK739 _ _ ?_
        refine WC_region ?_
        refine T0_q (v := (.int .i64 (w64 (x715 + 1)))) rfl (yl_add hs905 rfl) ?_
        refine T0_q (v := (.int .i64 (w64 (x715 + 1)))) rfl (yl_move rfl) ?_
        refine T0_nil ?_
        replace h := some_out h
        subst h
        refine hK733 _ _ _ rfl ?_
        exact ⟨w64 (x715 + 1), rfl, hs901, hs902, hs903, hs904, rfl, h900, h908, h909, hB907, hB911, e899⟩
    · clear hK733 hK736 hK737
      replace h := cond_f hb738 h
      refine WC_exit ?_
      replace h := some_out h
      subst h
      have ho := hx732 _ rfl
      subst ho
      refine hK734 _ _ ?_
      exact ⟨rfl, hs713, hB718, e709⟩
  · clear hK30 hK8
    rintro ρ wd723 ⟨rfl, hs725, hB727, e724⟩
    replace h := jn0_inr hn730
    refine hK29 _ _ ?_
    refine WC_seqK fun K947 hK947 => ?_
    refine WC_region ?_
    refine T0_q (v := (.agg (List.toArray [(.int .i64 0), (.int .i64 0)]))) rfl (yl_buildC (cells := [(.int .i64 0), (.int .i64 0)]) bi29 pc_nil rfl) ?_
    refine T0_e rfl (eff_storeC (vs := [(.int .i64 0), (.int .i64 0)]) (cs' := [(.int .i64 0), (.int .i64 0)]) sz29 rfl rfl hs725 rfl hB727 rfl (oc_cons rfl (oc_cons rfl oc_nil)) rfl ?_)
    intro wd948 hc949 hB950
    have e951 := chg_box e724 hc949 hbf23
    refine T0_q (v := (.bool false)) rfl (yl_assign rfl) ?_
    refine T0_nil ?_
    refine hK947 _ _ ?_
    refine WC_ret ?_
    replace h := some_out h
    subst h
    exact ⟨[(.agg (List.toArray [(.int .i64 0), (.int .i64 0)])), (.bool false)], ⟨⟨_, hs725, run_loadVarA (cs := [(.int .i64 0), (.int .i64 0)]) ag29 (Box.at hB950)⟩, rfl, trivial⟩, e951, [(.int .i64 0), (.int .i64 0)], rfl, rfl⟩

noncomputable def slices_IndexFunc_int_121_s0 (c5 : (List (List Int))) (p_s : (List (List Int))) : (Int) → Option ((Int) ⊕ (Int ⊕ (Unit))) := fun x116 =>
  (bif (decide (x116 < (p_s.length : Int))) then (
    (Option.bind (idx p_s x116) fun el137 =>
    (Option.bind (levitate_formErr_1_spec el137 c5) fun r146 =>
    (bif r146 then (
      some (.inr (.inl x116))
    ) else (
      some (.inl (w64 (x116 + 1)))
    ))
    )
    )
  ) else (
    some (.inr (.inr ()))
  ))
noncomputable def slices_IndexFunc_int_121_spec (p_s : (List (List Int))) (c5 : (List (List Int))) : Option Int :=
  (Option.bind (loop (slices_IndexFunc_int_121_s0 c5 p_s) 0) fun o123 => jn0 o123 fun (_ : Unit) =>
  some (-1)
  )
theorem slices_IndexFunc_int_121_ok (L : List Value) (w : World) (hL : LtL L w) (v_p_s : Value) (p_s : (List (List Int))) (h_p_s : SlRd L w v_p_s p_s) (b2 : Nat) (v6 : Value) (c5 : (List (List Int))) (h7 : SlRd L w v6 c5) (hB3 : Box w b2 [v6] 47) (r : Int) (h : slices_IndexFunc_int_121_spec p_s c5 = some r) :
    CallsTo Try.prog 126 [v_p_s, (.func (.func 121) #[] (List.toArray [(.pointer (some ⟨b2, 0, none⟩))]))] w (fun v w' => Ext w w' ∧ (.int .i64 r) = v) := by
  have e0 : Ext w w := Chg.refl _ _
  refine callsTo_of_WC (n := 19) (rs := [.tmp 4]) Try.func126 rfl rfl rfl rfl rfl ?_
  refine WC_seqK fun K9 hK9 => ?_
  refine WC_region ?_
  refine T0_q (v := (.int .i64 0)) rfl (yl_assign rfl) ?_
  refine T0_nil ?_
  refine hK9 _ _ ?_
  refine WC_seqK fun K10 hK10 => ?_
  refine WC_seqK fun K11 hK11 => ?_
  refine WC_region ?_
  refine T0_q (v := v_p_s) rfl (yl_move rfl) ?_
  refine T0_q (v := (.int .i64 (p_s.length : Int))) rfl (yl_lenR rfl Try.underlying47 h_p_s rfl) ?_
  refine T0_q (v := (.int .i64 0)) rfl (yl_move rfl) ?_
  refine T0_nil ?_
  refine hK11 _ _ ?_
  have hq := bind_elim h
  clear h
  obtain ⟨o123, hl124, hn125⟩ := hq
  refine WC_post (fun (ρ : Env) (wd121 : World) => .inr () = o123 ∧ Ext w wd121) ?_ ?_
  · clear hK10 hK11 hK9
    intro K129 hK129
    refine WC_block ?_
    refine WC_loopk (fun sv ρ wd110 => ∃ (x116 : Int), x116 = sv ∧ ρ 0 = v_p_s ∧ ρ 1 = (.func (.func 121) #[] (List.toArray [(.pointer (some ⟨b2, 0, none⟩))])) ∧ ρ 7 = (.int .i64 (p_s.length : Int)) ∧ ρ 8 = (.int .i64 x116) ∧ SlRd L wd110 v_p_s p_s ∧ SlRd L wd110 v6 c5 ∧ Box wd110 b2 [v6] 47 ∧ Ext w wd110) hl124 ⟨0, rfl, rfl, rfl, rfl, rfl, h_p_s, h7, hB3, e0⟩ ?_
    rintro _ ρ wd110 ⟨x116, rfl, hs113, hs114, hs115, hs117, h112, h118, hB120, e111⟩ x126 h hx127 K128 hK128
    refine WC_seqK fun K131 hK131 => ?_
    refine WC_region ?_
    refine T0_q (v := (.bool (decide (x116 < (p_s.length : Int))))) rfl (yl_lss hs117 hs115) ?_
    refine T0_nil ?_
    refine hK131 _ _ ?_
    refine WC_seqK fun K132 hK132 => ?_
    refine WC_cond (b := (decide (x116 < (p_s.length : Int)))) rfl (fun hb133 => ?_) (fun hb133 => ?_)
    · clear hK129 hK131
      replace h := cond_t hb133 h
      refine WC_skip ?_
      refine hK132 _ _ ?_
      refine WC_seqK fun K134 hK134 => ?_
      refine WC_block ?_
      refine WC_seqK fun K135 hK135 => ?_
      refine WC_region ?_
      refine T0_q (v := (.int .i64 x116)) rfl (yl_move hs117) ?_
      refine T0_q (v := (.int .i64 x116)) rfl (yl_assign rfl) ?_
      refine T0_nil ?_
      refine hK135 _ _ ?_
      refine WC_seqK fun K136 hK136 => ?_
      refine WC_region ?_
      refine T0_q (v := (.func (.func 121) #[] (List.toArray [(.pointer (some ⟨b2, 0, none⟩))]))) rfl (yl_move hs114) ?_
      refine T0_q (v := v_p_s) rfl (yl_move hs113) ?_
      refine T0_q (v := (.int .i64 x116)) rfl (yl_move rfl) ?_
      have hq := bind_elim h
      clear h
      obtain ⟨el137, hel138, h⟩ := hq
      have hq := SlRd.at h112 hel138
      obtain ⟨cs141, hat142, hrd143⟩ := hq
      obtain ⟨v139, rfl, h140⟩ := hrd143
      refine T0_q (v := (.pointer (some (elemAddr v_p_s (x116 : Int).toNat 1)))) rfl (yl_indexAddr Try.underlying47 sz23 h112 hel138 rfl rfl) ?_
      refine T0_q (v := v139) rfl (yl_load sc23 rfl hat142) ?_
      have hq := bind_elim h
      clear h
      obtain ⟨r146, hr147, h⟩ := hq
      refine T0_e rfl (eff_callC rfl Try.func121 nm121 rfl (ev1 rfl) rfl (levitate_formErr_1_ok [] _ (LtL.nil _) v139 el137 (h140.sub (fun _ h => by cases h)) b2 v6 c5 (h118.sub (fun _ h => by cases h)) hB120 r146 hr147) ?_)
      rintro _ wd148 ⟨he149, rfl⟩
      have e150 := e111.trans he149
      refine T0_nil ?_
      refine hK136 _ _ ?_
      refine WC_cond (b := r146) rfl (fun hb151 => ?_) (fun hb151 => ?_)
      · clear hK128 hK132 hK134 hK135 hK136
        replace h := cond_t hb151 h
        refine WC_seqK fun K152 hK152 => ?_
        refine WC_region ?_
        refine T0_q (v := (.int .i64 x116)) rfl (yl_move rfl) ?_
        refine T0_q (v := (.int .i64 x116)) rfl (yl_assign rfl) ?_
        refine T0_nil ?_
        refine hK152 _ _ ?_
        refine WC_ret ?_
        replace h := some_out h
        subst h
        have ho := hx127 _ rfl
        subst ho
        replace h := jn0_inl hn125
        replace h := some_out h
        subst h
        exact ⟨[(.int .i64 x116)], ⟨rfl, trivial⟩, e150, rfl⟩
      · clear hK132 hK135 hK136
        replace h := cond_f hb151 h
        refine WC_skip ?_
        refine hK134 _ _ ?_
        refine WC_region ?_
        refine T0_q (v := (.int .i64 (w64 (x116 + 1)))) rfl (yl_add hs117 rfl) ?_
        refine T0_q (v := (.int .i64 (w64 (x116 + 1)))) rfl (yl_move rfl) ?_
        refine T0_nil ?_
        replace h := some_out h
        subst h
        refine hK128 _ _ _ rfl ?_
        exact ⟨w64 (x116 + 1), rfl, hs113, hs114, hs115, rfl, (h112.ext he149), (h118.ext he149), (hB120.ext he149), e150⟩
    · clear hK128 hK131 hK132
      replace h := cond_f hb133 h
      refine WC_exit ?_
      replace h := some_out h
      subst h
      have ho := hx127 _ rfl
      subst ho
      refine hK129 _ _ ?_
      exact ⟨rfl, e111⟩
  · clear hK11 hK9
    rintro ρ wd121 ⟨rfl, e122⟩
    replace h := jn0_inr hn125
    refine hK10 _ _ ?_
    refine WC_seqK fun K153 hK153 => ?_
    refine WC_region ?_
    refine T0_q (v := (.int .i64 (-1))) rfl (yl_assign rfl) ?_
    refine T0_nil ?_
    refine hK153 _ _ ?_
    refine WC_ret ?_
    replace h := some_out h
    subst h
    exact ⟨[(.int .i64 (-1))], ⟨rfl, trivial⟩, e122, rfl⟩

noncomputable def levitate_allSmall_1_1_spec (p_n : Int) (c4 : Int) : Option Bool :=
  (Option.bind (levitate_small_spec p_n c4) fun r7 =>
  some (!r7)
  )
theorem levitate_allSmall_1_1_ok (L : List Value) (w : World) (hL : LtL L w) (p_n : Int) (b1 : Nat) (c4 : Int) (hB2 : Box w b1 [(.int .i64 c4)] 3) (r : Bool) (h : levitate_allSmall_1_1_spec p_n c4 = some r) :
    CallsTo Try.prog 70 [(.int .i64 p_n), (.pointer (some ⟨b1, 0, none⟩))] w (fun v w' => Ext w w' ∧ (.bool r) = v) := by
  have e0 : Ext w w := Chg.refl _ _
  refine callsTo_of_WC (n := 8) (rs := [.tmp 3]) Try.func70 rfl rfl rfl rfl rfl ?_
  refine WC_seqK fun K5 hK5 => ?_
  refine WC_region ?_
  refine T0_q (v := (.bool false)) rfl (yl_assign rfl) ?_
  refine T0_nil ?_
  refine hK5 _ _ ?_
  refine WC_seqK fun K6 hK6 => ?_
  refine WC_region ?_
  refine T0_q (v := (.int .i64 p_n)) rfl (yl_move rfl) ?_
  refine T0_q (v := (.int .i64 c4)) rfl (yl_load sc3 rfl (Box.at hB2)) ?_
  have hq := bind_elim h
  clear h
  obtain ⟨r7, hr8, h⟩ := hq
  refine T0_e rfl (eff_call Try.func71 nm71 rfl (ev2 rfl rfl) (levitate_small_ok [] _ (LtL.nil _) p_n c4 r7 hr8) ?_)
  rintro _ wd9 ⟨he10, rfl⟩
  have e11 := e0.trans he10
  refine T0_q (v := (.bool (!r7))) rfl (yl_not rfl) ?_
  refine T0_q (v := (.bool (!r7))) rfl (yl_assign rfl) ?_
  refine T0_nil ?_
  refine hK6 _ _ ?_
  refine WC_ret ?_
  replace h := some_out h
  subst h
  exact ⟨[(.bool (!r7))], ⟨rfl, trivial⟩, e11, rfl⟩

noncomputable def slices_ContainsFunc_int_121_spec (p_s : (List (List Int))) (c5 : (List (List Int))) : Option Bool :=
  (Option.bind (slices_IndexFunc_int_121_spec p_s c5) fun r11 =>
  some (decide (0 ≤ r11))
  )
theorem slices_ContainsFunc_int_121_ok (L : List Value) (w : World) (hL : LtL L w) (v_p_s : Value) (p_s : (List (List Int))) (h_p_s : SlRd L w v_p_s p_s) (b2 : Nat) (v6 : Value) (c5 : (List (List Int))) (h7 : SlRd L w v6 c5) (hB3 : Box w b2 [v6] 47) (r : Bool) (h : slices_ContainsFunc_int_121_spec p_s c5 = some r) :
    CallsTo Try.prog 120 [v_p_s, (.func (.func 121) #[] (List.toArray [(.pointer (some ⟨b2, 0, none⟩))]))] w (fun v w' => Ext w w' ∧ (.bool r) = v) := by
  have e0 : Ext w w := Chg.refl _ _
  refine callsTo_of_WC (n := 9) (rs := [.tmp 4]) Try.func120 rfl rfl rfl rfl rfl ?_
  refine WC_seqK fun K9 hK9 => ?_
  refine WC_region ?_
  refine T0_q (v := (.bool false)) rfl (yl_assign rfl) ?_
  refine T0_nil ?_
  refine hK9 _ _ ?_
  refine WC_seqK fun K10 hK10 => ?_
  refine WC_region ?_
  refine T0_q (v := v_p_s) rfl (yl_move rfl) ?_
  refine T0_q (v := (.func (.func 121) #[] (List.toArray [(.pointer (some ⟨b2, 0, none⟩))]))) rfl (yl_move rfl) ?_
  have hq := bind_elim h
  clear h
  obtain ⟨r11, hr12, h⟩ := hq
  refine T0_e rfl (eff_call Try.func126 nm126 rfl (ev2 rfl rfl) (slices_IndexFunc_int_121_ok [] _ (LtL.nil _) v_p_s p_s (h_p_s.sub (fun _ h => by cases h)) b2 v6 c5 (h7.sub (fun _ h => by cases h)) hB3 r11 hr12) ?_)
  rintro _ wd13 ⟨he14, rfl⟩
  have e15 := e0.trans he14
  refine T0_q (v := (.bool (decide (0 ≤ r11)))) rfl (yl_geq rfl rfl) ?_
  refine T0_q (v := (.bool (decide (0 ≤ r11)))) rfl (yl_assign rfl) ?_
  refine T0_nil ?_
  refine hK10 _ _ ?_
  refine WC_ret ?_
  replace h := some_out h
  subst h
  exact ⟨[(.bool (decide (0 ≤ r11)))], ⟨rfl, trivial⟩, e15, rfl⟩

noncomputable def slices_IndexFunc_int_70_s0 (c5 : Int) (p_s : (List Int)) : (Int) → Option ((Int) ⊕ (Int ⊕ (Unit))) := fun x101 =>
  (bif (decide (x101 < (p_s.length : Int))) then (
    (Option.bind (idx p_s x101) fun el121 =>
    (Option.bind (levitate_allSmall_1_1_spec el121 c5) fun r127 =>
    (bif r127 then (
      some (.inr (.inl x101))
    ) else (
      some (.inl (w64 (x101 + 1)))
    ))
    )
    )
  ) else (
    some (.inr (.inr ()))
  ))
noncomputable def slices_IndexFunc_int_70_spec (p_s : (List Int)) (c5 : Int) : Option Int :=
  (Option.bind (loop (slices_IndexFunc_int_70_s0 c5 p_s) 0) fun o107 => jn0 o107 fun (_ : Unit) =>
  some (-1)
  )
theorem slices_IndexFunc_int_70_ok (L : List Value) (w : World) (hL : LtL L w) (v_p_s : Value) (p_s : (List Int)) (h_p_s : SlRd L w v_p_s p_s) (b2 : Nat) (c5 : Int) (hB3 : Box w b2 [(.int .i64 c5)] 3) (r : Int) (h : slices_IndexFunc_int_70_spec p_s c5 = some r) :
    CallsTo Try.prog 68 [v_p_s, (.func (.func 70) #[] (List.toArray [(.pointer (some ⟨b2, 0, none⟩))]))] w (fun v w' => Ext w w' ∧ (.int .i64 r) = v) := by
  have e0 : Ext w w := Chg.refl _ _
  refine callsTo_of_WC (n := 19) (rs := [.tmp 4]) Try.func68 rfl rfl rfl rfl rfl ?_
  refine WC_seqK fun K6 hK6 => ?_
  refine WC_region ?_
  refine T0_q (v := (.int .i64 0)) rfl (yl_assign rfl) ?_
  refine T0_nil ?_
  refine hK6 _ _ ?_
  refine WC_seqK fun K7 hK7 => ?_
  refine WC_seqK fun K8 hK8 => ?_
  refine WC_region ?_
  refine T0_q (v := v_p_s) rfl (yl_move rfl) ?_
  refine T0_q (v := (.int .i64 (p_s.length : Int))) rfl (yl_lenR rfl Try.underlying23 h_p_s rfl) ?_
  refine T0_q (v := (.int .i64 0)) rfl (yl_move rfl) ?_
  refine T0_nil ?_
  refine hK8 _ _ ?_
  have hq := bind_elim h
  clear h
  obtain ⟨o107, hl108, hn109⟩ := hq
  refine WC_post (fun (ρ : Env) (wd105 : World) => .inr () = o107 ∧ Ext w wd105) ?_ ?_
  · clear hK6 hK7 hK8
    intro K113 hK113
    refine WC_block ?_
    refine WC_loopk (fun sv ρ wd95 => ∃ (x101 : Int), x101 = sv ∧ ρ 0 = v_p_s ∧ ρ 1 = (.func (.func 70) #[] (List.toArray [(.pointer (some ⟨b2, 0, none⟩))])) ∧ ρ 7 = (.int .i64 (p_s.length : Int)) ∧ ρ 8 = (.int .i64 x101) ∧ SlRd L wd95 v_p_s p_s ∧ Box wd95 b2 [(.int .i64 c5)] 3 ∧ Ext w wd95) hl108 ⟨0, rfl, rfl, rfl, rfl, rfl, h_p_s, hB3, e0⟩ ?_
    rintro _ ρ wd95 ⟨x101, rfl, hs98, hs99, hs100, hs102, h97, hB104, e96⟩ x110 h hx111 K112 hK112
    refine WC_seqK fun K115 hK115 => ?_
    refine WC_region ?_
    refine T0_q (v := (.bool (decide (x101 < (p_s.length : Int))))) rfl (yl_lss hs102 hs100) ?_
    refine T0_nil ?_
    refine hK115 _ _ ?_
    refine WC_seqK fun K116 hK116 => ?_
    refine WC_cond (b := (decide (x101 < (p_s.length : Int)))) rfl (fun hb117 => ?_) (fun hb117 => ?_)
    · clear hK113 hK115
      replace h := cond_t hb117 h
      refine WC_skip ?_
      refine hK116 _ _ ?_
      refine WC_seqK fun K118 hK118 => ?_
      refine WC_block ?_
      refine WC_seqK fun K119 hK119 => ?_
      refine WC_region ?_
      refine T0_q (v := (.int .i64 x101)) rfl (yl_move hs102) ?_
      refine T0_q (v := (.int .i64 x101)) rfl (yl_assign rfl) ?_
      refine T0_nil ?_
      refine hK119 _ _ ?_
      refine WC_seqK fun K120 hK120 => ?_
      refine WC_region ?_
      refine T0_q (v := (.func (.func 70) #[] (List.toArray [(.pointer (some ⟨b2, 0, none⟩))]))) rfl (yl_move hs99) ?_
      refine T0_q (v := v_p_s) rfl (yl_move hs98) ?_
      refine T0_q (v := (.int .i64 x101)) rfl (yl_move rfl) ?_
      have hq := bind_elim h
      clear h
      obtain ⟨el121, hel122, h⟩ := hq
      have hq := SlRd.at h97 hel122
      obtain ⟨cs123, hat124, hrd125⟩ := hq
      have hrd125 : cs123 = [(.int .i64 el121)] := hrd125
      subst hrd125
      refine T0_q (v := (.pointer (some (elemAddr v_p_s (x101 : Int).toNat 1)))) rfl (yl_indexAddr Try.underlying23 sz3 h97 hel122 rfl rfl) ?_
      refine T0_q (v := (.int .i64 el121)) rfl (yl_load sc3 rfl hat124) ?_
      have hq := bind_elim h
      clear h
      obtain ⟨r127, hr128, h⟩ := hq
      refine T0_e rfl (eff_callC rfl Try.func70 nm70 rfl (ev1 rfl) rfl (levitate_allSmall_1_1_ok [] _ (LtL.nil _) el121 b2 c5 hB104 r127 hr128) ?_)
      rintro _ wd129 ⟨he130, rfl⟩
      have e131 := e96.trans he130
      refine T0_nil ?_
      refine hK120 _ _ ?_
      refine WC_cond (b := r127) rfl (fun hb132 => ?_) (fun hb132 => ?_)
      · clear hK112 hK116 hK118 hK119 hK120
        replace h := cond_t hb132 h
        refine WC_seqK fun K133 hK133 => ?_
        refine WC_region ?_
        refine T0_q (v := (.int .i64 x101)) rfl (yl_move rfl) ?_
        refine T0_q (v := (.int .i64 x101)) rfl (yl_assign rfl) ?_
        refine T0_nil ?_
        refine hK133 _ _ ?_
        refine WC_ret ?_
        replace h := some_out h
        subst h
        have ho := hx111 _ rfl
        subst ho
        replace h := jn0_inl hn109
        replace h := some_out h
        subst h
        exact ⟨[(.int .i64 x101)], ⟨rfl, trivial⟩, e131, rfl⟩
      · clear hK116 hK119 hK120
        replace h := cond_f hb132 h
        refine WC_skip ?_
        refine hK118 _ _ ?_
        refine WC_region ?_
        refine T0_q (v := (.int .i64 (w64 (x101 + 1)))) rfl (yl_add hs102 rfl) ?_
        refine T0_q (v := (.int .i64 (w64 (x101 + 1)))) rfl (yl_move rfl) ?_
        refine T0_nil ?_
        replace h := some_out h
        subst h
        refine hK112 _ _ _ rfl ?_
        exact ⟨w64 (x101 + 1), rfl, hs98, hs99, hs100, rfl, (h97.ext he130), (hB104.ext he130), e131⟩
    · clear hK112 hK115 hK116
      replace h := cond_f hb117 h
      refine WC_exit ?_
      replace h := some_out h
      subst h
      have ho := hx111 _ rfl
      subst ho
      refine hK113 _ _ ?_
      exact ⟨rfl, e96⟩
  · clear hK6 hK8
    rintro ρ wd105 ⟨rfl, e106⟩
    replace h := jn0_inr hn109
    refine hK7 _ _ ?_
    refine WC_seqK fun K134 hK134 => ?_
    refine WC_region ?_
    refine T0_q (v := (.int .i64 (-1))) rfl (yl_assign rfl) ?_
    refine T0_nil ?_
    refine hK134 _ _ ?_
    refine WC_ret ?_
    replace h := some_out h
    subst h
    exact ⟨[(.int .i64 (-1))], ⟨rfl, trivial⟩, e106, rfl⟩

noncomputable def levitate_bound_1_spec (p_n : Int) (c5 : Arr3_U64) (c10 : Arr3_U64) : Option Bool :=
  (Option.bind (levitate_wideOf_spec p_n) fun r18 =>
  (Option.bind (levitate_wideOf_spec p_n) fun r26 =>
  (Option.bind (levitate_wide_times_spec r18 r26) fun r34 =>
  (Option.bind (levitate_wide_times_spec r34 c10) fun r42 =>
  (Option.bind (levitate_wide_less_spec c5 r42) fun r50 =>
  (Option.bind (levitate_wide_below_spec r50) fun r58 =>
  some r58
  )
  )
  )
  )
  )
  )
theorem levitate_bound_1_ok (L : List Value) (w : World) (hL : LtL L w) (p_n : Int) (b1 : Nat) (b2 : Nat) (cs6 : List Value) (c5 : Arr3_U64) (h7 : Rep.rd L w cs6 c5) (hB3 : Box w b1 cs6 120) (cs11 : List Value) (c10 : Arr3_U64) (h12 : Rep.rd L w cs11 c10) (hB8 : Box w b2 cs11 120) (r : Bool) (h : levitate_bound_1_spec p_n c5 c10 = some r) :
    CallsTo Try.prog 88 [(.int .i64 p_n), (.pointer (some ⟨b1, 0, none⟩)), (.pointer (some ⟨b2, 0, none⟩))] w (fun v w' => Ext w w' ∧ (.bool r) = v) := by
  have e0 : Ext w w := Chg.refl _ _
  have h7 : cs6 = [(.int .u64 c5.e0), (.int .u64 c5.e1), (.int .u64 c5.e2)] := h7
  subst h7
  have h12 : cs11 = [(.int .u64 c10.e0), (.int .u64 c10.e1), (.int .u64 c10.e2)] := h12
  subst h12
  refine callsTo_of_WC (n := 15) (rs := [.tmp 4]) Try.func88 rfl rfl rfl rfl rfl ?_
  refine WC_seqK fun K13 hK13 => ?_
  refine WC_region ?_
  refine T0_q (v := (.bool false)) rfl (yl_assign rfl) ?_
  refine T0_nil ?_
  refine hK13 _ _ ?_
  refine WC_seqK fun K14 hK14 => ?_
  refine WC_planX mixed (.p 1 (.p 3 (.q 0 (.q 6 (.e 2 (.e 4 (.e 5 (.e 7 (.e 8 (.e 9 (.p 10 .done))))))))))) (by kernel_rfl) ?_
  intro wd15 he16
  have e17 := e0.trans he16
  refine TX_p (v := (.int .i64 p_n)) rfl rfl (fun w' => (yl_move rfl)) ?_
  refine TX_p (v := (.int .i64 p_n)) rfl rfl (fun w' => (yl_move rfl)) ?_
  refine TX_q (v := (.agg (List.toArray [(.int .u64 c5.e0), (.int .u64 c5.e1), (.int .u64 c5.e2)]))) rfl rfl (fun w' hS => (yl_loadA (cs := [(.int .u64 c5.e0), (.int .u64 c5.e1), (.int .u64 c5.e2)]) ag120 rfl (Box.at (hB3.ext (he16.trans hS))))) ?_
  refine TX_q (v := (.agg (List.toArray [(.int .u64 c10.e0), (.int .u64 c10.e1), (.int .u64 c10.e2)]))) rfl rfl (fun w' hS => (yl_loadA (cs := [(.int .u64 c10.e0), (.int .u64 c10.e1), (.int .u64 c10.e2)]) ag120 rfl (Box.at (hB8.ext (he16.trans hS))))) ?_
  have hq := bind_elim h
  clear h
  obtain ⟨r18, hr19, h⟩ := hq
  refine TX_e rfl rfl (eff_call Try.func79 nm79 rfl (ev1 rfl) (levitate_wideOf_ok [] _ (LtL.nil _) p_n r18 hr19) ?_)
  rintro _ wd20 ⟨he21, cs22, rfl, hrd23⟩
  have e24 := he16.trans he21
  have e25 := e17.trans he21
  have hrd23 : cs22 = [(.int .u64 r18.e0), (.int .u64 r18.e1), (.int .u64 r18.e2)] := hrd23
  subst hrd23
  refine ⟨he21, ?_⟩
  have hq := bind_elim h
  clear h
  obtain ⟨r26, hr27, h⟩ := hq
  refine TX_e rfl rfl (eff_call Try.func79 nm79 rfl (ev1 rfl) (levitate_wideOf_ok [] _ (LtL.nil _) p_n r26 hr27) ?_)
  rintro _ wd28 ⟨he29, cs30, rfl, hrd31⟩
  have e32 := e24.trans he29
  have e33 := e25.trans he29
  have hrd31 : cs30 = [(.int .u64 r26.e0), (.int .u64 r26.e1), (.int .u64 r26.e2)] := hrd31
  subst hrd31
  refine ⟨he29, ?_⟩
  have hq := bind_elim h
  clear h
  obtain ⟨r34, hr35, h⟩ := hq
  refine TX_e rfl rfl (eff_call Try.func80 nm80 rfl (ev2 rfl rfl) (levitate_wide_times_ok [] _ (LtL.nil _) [(.int .u64 r18.e0), (.int .u64 r18.e1), (.int .u64 r18.e2)] r18 rfl [(.int .u64 r26.e0), (.int .u64 r26.e1), (.int .u64 r26.e2)] r26 rfl r34 hr35) ?_)
  rintro _ wd36 ⟨he37, cs38, rfl, hrd39⟩
  have e40 := e32.trans he37
  have e41 := e33.trans he37
  have hrd39 : cs38 = [(.int .u64 r34.e0), (.int .u64 r34.e1), (.int .u64 r34.e2)] := hrd39
  subst hrd39
  refine ⟨he37, ?_⟩
  have hq := bind_elim h
  clear h
  obtain ⟨r42, hr43, h⟩ := hq
  refine TX_e rfl rfl (eff_call Try.func80 nm80 rfl (ev2 rfl rfl) (levitate_wide_times_ok [] _ (LtL.nil _) [(.int .u64 r34.e0), (.int .u64 r34.e1), (.int .u64 r34.e2)] r34 rfl [(.int .u64 c10.e0), (.int .u64 c10.e1), (.int .u64 c10.e2)] c10 rfl r42 hr43) ?_)
  rintro _ wd44 ⟨he45, cs46, rfl, hrd47⟩
  have e48 := e40.trans he45
  have e49 := e41.trans he45
  have hrd47 : cs46 = [(.int .u64 r42.e0), (.int .u64 r42.e1), (.int .u64 r42.e2)] := hrd47
  subst hrd47
  refine ⟨he45, ?_⟩
  have hq := bind_elim h
  clear h
  obtain ⟨r50, hr51, h⟩ := hq
  refine TX_e rfl rfl (eff_call Try.func81 nm81 rfl (ev2 rfl rfl) (levitate_wide_less_ok [] _ (LtL.nil _) [(.int .u64 c5.e0), (.int .u64 c5.e1), (.int .u64 c5.e2)] c5 rfl [(.int .u64 r42.e0), (.int .u64 r42.e1), (.int .u64 r42.e2)] r42 rfl r50 hr51) ?_)
  rintro _ wd52 ⟨he53, cs54, rfl, hrd55⟩
  have e56 := e48.trans he53
  have e57 := e49.trans he53
  have hrd55 : cs54 = [(.int .u64 r50.e0), (.int .u64 r50.e1), (.int .u64 r50.e2)] := hrd55
  subst hrd55
  refine ⟨he53, ?_⟩
  have hq := bind_elim h
  clear h
  obtain ⟨r58, hr59, h⟩ := hq
  refine TX_e rfl rfl (eff_call Try.func82 nm82 rfl (ev1 rfl) (levitate_wide_below_ok [] _ (LtL.nil _) [(.int .u64 r50.e0), (.int .u64 r50.e1), (.int .u64 r50.e2)] r50 rfl r58 hr59) ?_)
  rintro _ wd60 ⟨he61, rfl⟩
  have e62 := e56.trans he61
  have e63 := e57.trans he61
  refine ⟨he61, ?_⟩
  refine TX_p (v := (.bool r58)) rfl rfl (fun w' => (yl_assign rfl)) ?_
  refine TX_done ?_
  refine hK14 _ _ ?_
  refine WC_ret ?_
  replace h := some_out h
  subst h
  exact ⟨[(.bool r58)], ⟨rfl, trivial⟩, e63, rfl⟩

noncomputable def levitate_formErr_s0 (el1158 : (List Int)) (p_f : (List (List Int))) (x1139 : Int) : (Int) → Option ((Int) ⊕ (((Int) ⊕ (Int ⊕ (Unit))) ⊕ (Unit))) := fun x1415 =>
  (bif (decide (x1415 < (el1158.length : Int))) then (
    (Option.bind (idx el1158 x1415) fun el1441 =>
    (Option.bind (idx p_f x1415) fun el1451 =>
    (Option.bind (idx el1451 x1139) fun el1460 =>
    (Option.bind (levitate_small_spec el1441 10000) fun r1466 =>
    (Option.bind (levitate_unless_spec r1466 2) fun r1472 =>
    (Option.bind (levitate_unless_spec (decide (el1460 = el1441)) 3) fun r1478 =>
    (Option.bind (levitate_first_spec ([r1472, r1478] : List Int)) fun r1491 =>
    (bif (!decide (r1491 = 0)) then (
      some (.inr (.inl (.inr (.inl r1491))))
    ) else (
      some (.inl (w64 (x1415 + 1)))
    ))
    )
    )
    )
    )
    )
    )
    )
  ) else (
    some (.inr (.inr ()))
  ))
noncomputable def levitate_formErr_s1 (p_f : (List (List Int))) : (Int) → Option ((Int) ⊕ (Int ⊕ (Unit))) := fun x1139 =>
  (bif (decide (x1139 < (p_f.length : Int))) then (
    (Option.bind (idx p_f x1139) fun el1158 =>
    (Option.bind (loop (levitate_formErr_s0 el1158 p_f x1139) 0) fun o1428 => jn0 o1428 fun (_ : Unit) =>
    some (.inl (w64 (x1139 + 1)))
    )
    )
  ) else (
    some (.inr (.inr ()))
  ))
noncomputable def levitate_formErr_spec (p_f : (List (List Int))) : Option Int :=
  (Option.bind (levitate_unless_spec (decide (0 < (p_f.length : Int))) 10) fun r17 =>
  (Option.bind (levitate_unless_spec (decide ((p_f.length : Int) ≤ 3)) 8) fun r24 =>
  (Option.bind (levitate_first_spec ([r17, r24] : List Int)) fun r39 =>
  (bif (!decide (r39 = 0)) then (
    some r39
  ) else (
    (Option.bind (slices_ContainsFunc_int_121_spec p_f p_f) fun r51 =>
    (bif r51 then (
      some 10
    ) else (
      (Option.bind (loop (levitate_formErr_s1 p_f) 0) fun o1145 => jn0 o1145 fun (_ : Unit) =>
      some 0
      )
    ))
    )
  ))
  )
  )
  )
theorem levitate_formErr_ok (L : List Value) (w : World) (hL : LtL L w) (v_p_f : Value) (p_f : (List (List Int))) (h_p_f : SlRd L w v_p_f p_f) (r : Int) (h : levitate_formErr_spec p_f = some r) :
    CallsTo Try.prog 104 [v_p_f] w (fun v w' => Ext w w' ∧ (.int .i64 r) = v) := by
  have e0 : Ext w w := Chg.refl _ _
  refine callsTo_of_WC (n := 59) (rs := [.tmp 2]) Try.func104 rfl rfl rfl rfl rfl ?_
  refine WC_seqK fun K2 hK2 => ?_
  refine WC_region ?_
  refine T0_e rfl (eff_boxC (cs := [v_p_f]) rfl (cells_one h_p_f.one1) ?_)
  intro b3 wd4 hb5 he6 hB7
  have hbf8 := bfresh e0 hb5
  have e9 := e0.trans he6
  refine T0_q (v := (.int .i64 0)) rfl (yl_assign rfl) ?_
  refine T0_nil ?_
  refine hK2 _ _ ?_
  refine WC_seqK fun K11 hK11 => ?_
  refine WC_seqK fun K12 hK12 => ?_
  refine WC_planX mixed (.q 0 (.p 1 (.p 2 (.q 4 (.p 5 (.p 6 (.e 3 (.e 7 (.e 8 (.e 9 (.p 10 .done))))))))))) (by kernel_rfl) ?_
  intro wd13 he14
  have e15 := he6.trans he14
  have e16 := e9.trans he14
  refine TX_q (v := v_p_f) rfl rfl (fun w' hS => (yl_load sc47 rfl (Box.at (hB7.ext (he14.trans hS))))) ?_
  refine TX_p (v := (.int .i64 (p_f.length : Int))) rfl rfl (fun w' => (yl_lenR rfl Try.underlying47 h_p_f rfl)) ?_
  refine TX_p (v := (.bool (decide (0 < (p_f.length : Int))))) rfl rfl (fun w' => (yl_gtr rfl rfl)) ?_
  refine TX_q (v := v_p_f) rfl rfl (fun w' hS => (yl_load sc47 rfl (Box.at (hB7.ext (he14.trans hS))))) ?_
  refine TX_p (v := (.int .i64 (p_f.length : Int))) rfl rfl (fun w' => (yl_lenR rfl Try.underlying47 h_p_f rfl)) ?_
  refine TX_p (v := (.bool (decide ((p_f.length : Int) ≤ 3)))) rfl rfl (fun w' => (yl_leq rfl rfl)) ?_
  have hq := bind_elim h
  clear h
  obtain ⟨r17, hr18, h⟩ := hq
  refine TX_e rfl rfl (eff_call Try.func40 nm40 rfl (ev2 rfl rfl) (levitate_unless_ok [] _ (LtL.nil _) (decide (0 < (p_f.length : Int))) 10 r17 hr18) ?_)
  rintro _ wd19 ⟨he20, rfl⟩
  have e21 := e15.trans he20
  have e22 := he14.trans he20
  have e23 := e16.trans he20
  refine ⟨he20, ?_⟩
  have hq := bind_elim h
  clear h
  obtain ⟨r24, hr25, h⟩ := hq
  refine TX_e rfl rfl (eff_call Try.func40 nm40 rfl (ev2 rfl rfl) (levitate_unless_ok [] _ (LtL.nil _) (decide ((p_f.length : Int) ≤ 3)) 8 r24 hr25) ?_)
  rintro _ wd26 ⟨he27, rfl⟩
  have e28 := e21.trans he27
  have e29 := e22.trans he27
  have e30 := e23.trans he27
  refine ⟨he27, ?_⟩
  refine TX_e rfl rfl (eff_buildTC (xs := ([r17, r24] : List Int)) (cells := [(.int .i64 r17), (.int .i64 r24)]) Try.underlying108 ei30 rfl (pc_cons rfl rfl (pc_cons rfl rfl pc_nil)) rfl (Elems.cons (cs := [(.int .i64 r17)]) rfl (Elems.cons (cs := [(.int .i64 r24)]) rfl Elems.nil)) rfl (hL.chg e30) ?_)
  intro b34 wd31 he32 h33
  have e35 := e28.trans he32
  have e36 := e29.trans he32
  have e37 := e30.trans he32
  refine ⟨he32, ?_⟩
  have hq := bind_elim h
  clear h
  obtain ⟨r39, hr40, h⟩ := hq
  refine TX_e rfl rfl (eff_call Try.func39 nm39 rfl (ev1 rfl) (levitate_first_ok [] _ (LtL.nil _) (.slice (some ⟨b34, 0, none⟩) 2 2) ([r17, r24] : List Int) (h33.sub (fun _ h => by cases h)) r39 hr40) ?_)
  rintro _ wd41 ⟨he42, rfl⟩
  have e43 := e35.trans he42
  have e44 := e36.trans he42
  have e45 := e37.trans he42
  refine ⟨he42, ?_⟩
  refine TX_p (v := (.int .i64 r39)) rfl rfl (fun w' => (yl_assign rfl)) ?_
  refine TX_done ?_
  refine hK12 _ _ ?_
  refine WC_seqK fun K46 hK46 => ?_
  refine WC_region ?_
  refine T0_q (v := (.int .i64 r39)) rfl (yl_move rfl) ?_
  refine T0_q (v := (.bool (!decide (r39 = 0)))) rfl (yl_neq rfl rfl) ?_
  refine T0_nil ?_
  refine hK46 _ _ ?_
  refine WC_cond (b := (!decide (r39 = 0))) rfl (fun hb47 => ?_) (fun hb47 => ?_)
  · clear hK11 hK12 hK2 hK46
    replace h := cond_t hb47 h
    refine WC_seqK fun K48 hK48 => ?_
    refine WC_region ?_
    refine T0_q (v := (.int .i64 r39)) rfl (yl_move rfl) ?_
    refine T0_q (v := (.int .i64 r39)) rfl (yl_assign rfl) ?_
    refine T0_nil ?_
    refine hK48 _ _ ?_
    refine WC_ret ?_
    replace h := some_out h
    subst h
    exact ⟨[(.int .i64 r39)], ⟨rfl, trivial⟩, e45, rfl⟩
  · clear hK12 hK2 hK46
    replace h := cond_f hb47 h
    refine WC_skip ?_
    refine hK11 _ _ ?_
    refine WC_seqK fun K49 hK49 => ?_
    refine WC_seqK fun K50 hK50 => ?_
    refine WC_region ?_
    refine T0_q (v := v_p_f) rfl (yl_load sc47 rfl (Box.at (hB7.ext e44))) ?_
    refine T0_q (v := (.func (.func 121) #[] (List.toArray [(.pointer (some ⟨b3, 0, none⟩))]))) rfl (yl_makeFunc (ev1 rfl)) ?_
    have hq := bind_elim h
    clear h
    obtain ⟨r51, hr52, h⟩ := hq
    refine T0_e rfl (eff_call Try.func120 nm120 rfl (ev2 rfl rfl) (slices_ContainsFunc_int_121_ok [] _ (LtL.nil _) v_p_f p_f ((h_p_f.ext e43).sub (fun _ h => by cases h)) b3 v_p_f p_f ((h_p_f.ext e43).sub (fun _ h => by cases h)) (hB7.ext e44) r51 hr52) ?_)
    rintro _ wd53 ⟨he54, rfl⟩
    have e55 := e43.trans he54
    have e56 := he42.trans he54
    have e57 := e44.trans he54
    have e58 := e45.trans he54
    refine T0_nil ?_
    refine hK50 _ _ ?_
    refine WC_cond (b := r51) rfl (fun hb59 => ?_) (fun hb59 => ?_)
    · clear hK11 hK49 hK50
      replace h := cond_t hb59 h
      refine WC_seqK fun K60 hK60 => ?_
      refine WC_region ?_
      refine T0_q (v := (.int .i64 10)) rfl (yl_assign rfl) ?_
      refine T0_nil ?_
      refine hK60 _ _ ?_
      refine WC_ret ?_
      replace h := some_out h
      subst h
      exact ⟨[(.int .i64 10)], ⟨rfl, trivial⟩, e58, rfl⟩
    · clear hK11 hK50
      replace h := cond_f hb59 h
      refine WC_skip ?_
      refine hK49 _ _ ?_
      refine WC_seqK fun K61 hK61 => ?_
      refine WC_seqK fun K62 hK62 => ?_
      refine WC_region ?_
      refine T0_q (v := v_p_f) rfl (yl_load sc47 rfl (Box.at (hB7.ext e57))) ?_
      refine T0_q (v := (.int .i64 (p_f.length : Int))) rfl (yl_lenR rfl Try.underlying47 h_p_f rfl) ?_
      refine T0_q (v := (.int .i64 0)) rfl (yl_move rfl) ?_
      refine T0_nil ?_
      refine hK62 _ _ ?_
      have hq := bind_elim h
      clear h
      obtain ⟨o1145, hl1146, hn1147⟩ := hq
      refine WC_post (fun (ρ : Env) (wd1143 : World) => .inr () = o1145 ∧ Ext w wd1143) ?_ ?_
      · clear hK49 hK61 hK62
        intro K1151 hK1151
        refine WC_block ?_
        refine WC_loopk (fun sv ρ wd1133 => ∃ (x1139 : Int), x1139 = sv ∧ ρ 1 = (.pointer (some ⟨b3, 0, none⟩)) ∧ ρ 25 = v_p_f ∧ ρ 26 = (.int .i64 (p_f.length : Int)) ∧ ρ 27 = (.int .i64 x1139) ∧ SlRd L wd1133 v_p_f p_f ∧ Box wd1133 b3 [v_p_f] 47 ∧ Ext w wd1133) hl1146 ⟨0, rfl, rfl, rfl, rfl, rfl, (h_p_f.ext e55), (hB7.ext e57), e58⟩ ?_
        rintro _ ρ wd1133 ⟨x1139, rfl, hs1135, hs1137, hs1138, hs1140, h1136, hB1142, e1134⟩ x1148 h hx1149 K1150 hK1150
        refine WC_seqK fun K1153 hK1153 => ?_
        refine WC_region ?_
        refine T0_q (v := (.bool (decide (x1139 < (p_f.length : Int))))) rfl (yl_lss hs1140 hs1138) ?_
        refine T0_nil ?_
        refine hK1153 _ _ ?_
        refine WC_seqK fun K1154 hK1154 => ?_
        refine WC_cond (b := (decide (x1139 < (p_f.length : Int)))) rfl (fun hb1155 => ?_) (fun hb1155 => ?_)
        · clear hK1151 hK1153
          replace h := cond_t hb1155 h
          refine WC_skip ?_
          refine hK1154 _ _ ?_
          refine WC_seqK fun K1156 hK1156 => ?_
          refine WC_block ?_
          refine WC_seqK fun K1157 hK1157 => ?_
          refine WC_region ?_
          refine T0_q (v := (.int .i64 x1139)) rfl (yl_move hs1140) ?_
          have hq := bind_elim h
          clear h
          obtain ⟨el1158, hel1159, h⟩ := hq
          have hq := SlRd.at h1136 hel1159
          obtain ⟨cs1162, hat1163, hrd1164⟩ := hq
          obtain ⟨v1160, rfl, h1161⟩ := hrd1164
          refine T0_q (v := (.pointer (some (elemAddr v_p_f (x1139 : Int).toNat 1)))) rfl (yl_indexAddr Try.underlying47 sz23 h1136 hel1159 hs1137 hs1140) ?_
          refine T0_q (v := v1160) rfl (yl_load sc23 rfl hat1163) ?_
          refine T0_q (v := (.int .i64 x1139)) rfl (yl_assign rfl) ?_
          refine T0_q (v := v1160) rfl (yl_assign rfl) ?_
          refine T0_nil ?_
          refine hK1157 _ _ ?_
          refine WC_seqK fun K1167 hK1167 => ?_
          refine WC_region ?_
          refine T0_q (v := v1160) rfl (yl_move rfl) ?_
          refine T0_q (v := (.int .i64 (el1158.length : Int))) rfl (yl_lenR rfl Try.underlying23 h1161 rfl) ?_
          refine T0_q (v := (.int .i64 0)) rfl (yl_move rfl) ?_
          refine T0_nil ?_
          refine hK1167 _ _ ?_
          have hq := bind_elim h
          clear h
          obtain ⟨o1428, hl1429, hn1430⟩ := hq
          refine WC_post (fun (ρ : Env) (wd1419 : World) => .inr () = o1428 ∧ ρ 1 = (.pointer (some ⟨b3, 0, none⟩)) ∧ ρ 25 = v_p_f ∧ ρ 26 = (.int .i64 (p_f.length : Int)) ∧ ρ 27 = (.int .i64 x1139) ∧ SlRd L wd1419 v_p_f p_f ∧ Box wd1419 b3 [v_p_f] 47 ∧ Ext w wd1419) ?_ ?_
          · clear hK1150 hK1154 hK1156 hK1157 hK1167
            intro K1434 hK1434
            refine WC_block ?_
            refine WC_loopk (fun sv ρ wd1404 => ∃ (x1415 : Int), x1415 = sv ∧ ρ 1 = (.pointer (some ⟨b3, 0, none⟩)) ∧ ρ 4 = (.int .i64 x1139) ∧ ρ 25 = v_p_f ∧ ρ 26 = (.int .i64 (p_f.length : Int)) ∧ ρ 27 = (.int .i64 x1139) ∧ ρ 32 = v1160 ∧ ρ 33 = (.int .i64 (el1158.length : Int)) ∧ ρ 34 = (.int .i64 x1415) ∧ SlRd L wd1404 v_p_f p_f ∧ SlRd L wd1404 v1160 el1158 ∧ Box wd1404 b3 [v_p_f] 47 ∧ Ext w wd1404) hl1429 ⟨0, rfl, hs1135, rfl, hs1137, hs1138, hs1140, rfl, rfl, rfl, h1136, h1161, hB1142, e1134⟩ ?_
            rintro _ ρ wd1404 ⟨x1415, rfl, hs1406, hs1407, hs1409, hs1410, hs1411, hs1413, hs1414, hs1416, h1408, h1412, hB1418, e1405⟩ x1431 h hx1432 K1433 hK1433
            refine WC_seqK fun K1436 hK1436 => ?_
            refine WC_region ?_
            refine T0_q (v := (.bool (decide (x1415 < (el1158.length : Int))))) rfl (yl_lss hs1416 hs1414) ?_
            refine T0_nil ?_
            refine hK1436 _ _ ?_
            refine WC_seqK fun K1437 hK1437 => ?_
            refine WC_cond (b := (decide (x1415 < (el1158.length : Int)))) rfl (fun hb1438 => ?_) (fun hb1438 => ?_)
            · clear hK1434 hK1436
              replace h := cond_t hb1438 h
              refine WC_skip ?_
              refine hK1437 _ _ ?_
              refine WC_seqK fun K1439 hK1439 => ?_
              refine WC_block ?_
              refine WC_seqK fun K1440 hK1440 => ?_
              refine WC_region ?_
              refine T0_q (v := (.int .i64 x1415)) rfl (yl_move hs1416) ?_
              have hq := bind_elim h
              clear h
              obtain ⟨el1441, hel1442, h⟩ := hq
              have hq := SlRd.at h1412 hel1442
              obtain ⟨cs1443, hat1444, hrd1445⟩ := hq
              have hrd1445 : cs1443 = [(.int .i64 el1441)] := hrd1445
              subst hrd1445
              refine T0_q (v := (.pointer (some (elemAddr v1160 (x1415 : Int).toNat 1)))) rfl (yl_indexAddr Try.underlying23 sz3 h1412 hel1442 hs1413 hs1416) ?_
              refine T0_q (v := (.int .i64 el1441)) rfl (yl_load sc3 rfl hat1444) ?_
              refine T0_q (v := (.int .i64 x1415)) rfl (yl_assign rfl) ?_
              refine T0_q (v := (.int .i64 el1441)) rfl (yl_assign rfl) ?_
              refine T0_nil ?_
              refine hK1440 _ _ ?_
              refine WC_seqK fun K1447 hK1447 => ?_
              refine WC_planX mixed (.p 0 (.p 4 (.p 7 (.p 10 (.q 3 (.p 5 (.q 6 (.p 8 (.q 9 (.p 11 (.e 1 (.e 2 (.e 12 (.e 13 (.e 14 (.p 15 .done)))))))))))))))) (by kernel_rfl) ?_
              intro wd1448 he1449
              have e1450 := e1405.trans he1449
              refine TX_p (v := (.int .i64 el1441)) rfl rfl (fun w' => (yl_move rfl)) ?_
              refine TX_p (v := (.int .i64 x1415)) rfl rfl (fun w' => (yl_move rfl)) ?_
              refine TX_p (v := (.int .i64 x1139)) rfl rfl (fun w' => (yl_move hs1407)) ?_
              refine TX_p (v := (.int .i64 el1441)) rfl rfl (fun w' => (yl_move rfl)) ?_
              refine TX_q (v := v_p_f) rfl rfl (fun w' hS => (yl_load sc47 hs1406 (Box.at (hB1418.ext (he1449.trans hS))))) ?_
              have hq := bind_elim h
              clear h
              obtain ⟨el1451, hel1452, h⟩ := hq
              have hq := SlRd.at h1408 hel1452
              obtain ⟨cs1455, hat1456, hrd1457⟩ := hq
              obtain ⟨v1453, rfl, h1454⟩ := hrd1457
              refine TX_p (v := (.pointer (some (elemAddr v_p_f (x1415 : Int).toNat 1)))) rfl rfl (fun w' => (yl_indexAddr Try.underlying47 sz23 h1408 hel1452 rfl rfl)) ?_
              refine TX_q (v := v1453) rfl rfl (fun w' hS => (yl_load sc23 rfl (hat1456.ext' (he1449.trans hS)))) ?_
              have hq := bind_elim h
              clear h
              obtain ⟨el1460, hel1461, h⟩ := hq
              have hq := SlRd.at h1454 hel1461
              obtain ⟨cs1462, hat1463, hrd1464⟩ := hq
              have hrd1464 : cs1462 = [(.int .i64 el1460)] := hrd1464
              subst hrd1464
              refine TX_p (v := (.pointer (some (elemAddr v1453 (x1139 : Int).toNat 1)))) rfl rfl (fun w' => (yl_indexAddr Try.underlying23 sz3 h1454 hel1461 rfl rfl)) ?_
              refine TX_q (v := (.int .i64 el1460)) rfl rfl (fun w' hS => (yl_load sc3 rfl (hat1463.ext' (he1449.trans hS)))) ?_
              refine TX_p (v := (.bool (decide (el1460 = el1441)))) rfl rfl (fun w' => (yl_eql rfl rfl)) ?_
              have hq := bind_elim h
              clear h
              obtain ⟨r1466, hr1467, h⟩ := hq
              refine TX_e rfl rfl (eff_call Try.func71 nm71 rfl (ev2 rfl rfl) (levitate_small_ok [] _ (LtL.nil _) el1441 10000 r1466 hr1467) ?_)
              rintro _ wd1468 ⟨he1469, rfl⟩
              have e1470 := he1449.trans he1469
              have e1471 := e1450.trans he1469
              refine ⟨he1469, ?_⟩
              have hq := bind_elim h
              clear h
              obtain ⟨r1472, hr1473, h⟩ := hq
              refine TX_e rfl rfl (eff_call Try.func40 nm40 rfl (ev2 rfl rfl) (levitate_unless_ok [] _ (LtL.nil _) r1466 2 r1472 hr1473) ?_)
              rintro _ wd1474 ⟨he1475, rfl⟩
              have e1476 := e1470.trans he1475
              have e1477 := e1471.trans he1475
              refine ⟨he1475, ?_⟩
              have hq := bind_elim h
              clear h
              obtain ⟨r1478, hr1479, h⟩ := hq
              refine TX_e rfl rfl (eff_call Try.func40 nm40 rfl (ev2 rfl rfl) (levitate_unless_ok [] _ (LtL.nil _) (decide (el1460 = el1441)) 3 r1478 hr1479) ?_)
              rintro _ wd1480 ⟨he1481, rfl⟩
              have e1482 := e1476.trans he1481
              have e1483 := e1477.trans he1481
              refine ⟨he1481, ?_⟩
              refine TX_e rfl rfl (eff_buildTC (xs := ([r1472, r1478] : List Int)) (cells := [(.int .i64 r1472), (.int .i64 r1478)]) Try.underlying108 ei30 rfl (pc_cons rfl rfl (pc_cons rfl rfl pc_nil)) rfl (Elems.cons (cs := [(.int .i64 r1472)]) rfl (Elems.cons (cs := [(.int .i64 r1478)]) rfl Elems.nil)) rfl (hL.chg e1483) ?_)
              intro b1487 wd1484 he1485 h1486
              have e1488 := e1482.trans he1485
              have e1489 := e1483.trans he1485
              refine ⟨he1485, ?_⟩
              have hq := bind_elim h
              clear h
              obtain ⟨r1491, hr1492, h⟩ := hq
              refine TX_e rfl rfl (eff_call Try.func39 nm39 rfl (ev1 rfl) (levitate_first_ok [] _ (LtL.nil _) (.slice (some ⟨b1487, 0, none⟩) 2 2) ([r1472, r1478] : List Int) (h1486.sub (fun _ h => by cases h)) r1491 hr1492) ?_)
              rintro _ wd1493 ⟨he1494, rfl⟩
              have e1495 := e1488.trans he1494
              have e1496 := e1489.trans he1494
              refine ⟨he1494, ?_⟩
              refine TX_p (v := (.int .i64 r1491)) rfl rfl (fun w' => (yl_assign rfl)) ?_
              refine TX_done ?_
              refine hK1447 _ _ ?_
              refine WC_seqK fun K1497 hK1497 => ?_
              refine WC_region ?_
              refine T0_q (v := (.int .i64 r1491)) rfl (yl_move rfl) ?_
              refine T0_q (v := (.bool (!decide (r1491 = 0)))) rfl (yl_neq rfl rfl) ?_
              refine T0_nil ?_
              refine hK1497 _ _ ?_
              refine WC_cond (b := (!decide (r1491 = 0))) rfl (fun hb1498 => ?_) (fun hb1498 => ?_)
              · clear hK1433 hK1437 hK1439 hK1440 hK1447 hK1497
                replace h := cond_t hb1498 h
                refine WC_seqK fun K1499 hK1499 => ?_
                refine WC_region ?_
                refine T0_q (v := (.int .i64 r1491)) rfl (yl_move rfl) ?_
                refine T0_q (v := (.int .i64 r1491)) rfl (yl_assign rfl) ?_
                refine T0_nil ?_
                refine hK1499 _ _ ?_
                refine WC_ret ?_
                replace h := some_out h
                subst h
                have ho := hx1432 _ rfl
                subst ho
                replace h := jn0_inl hn1430
                replace h := some_out h
                subst h
                have ho := hx1149 _ rfl
                subst ho
                replace h := jn0_inl hn1147
                replace h := some_out h
                subst h
                exact ⟨[(.int .i64 r1491)], ⟨rfl, trivial⟩, e1496, rfl⟩
              · clear hK1437 hK1440 hK1447 hK1497
                replace h := cond_f hb1498 h
                refine WC_skip ?_
                refine hK1439 _ _ ?_
                refine WC_region ?_
                refine T0_q (v := (.int .i64 (w64 (x1415 + 1)))) rfl (yl_add hs1416 rfl) ?_
                refine T0_q (v := (.int .i64 (w64 (x1415 + 1)))) rfl (yl_move rfl) ?_
                refine T0_nil ?_
                replace h := some_out h
                subst h
                refine hK1433 _ _ _ rfl ?_
                exact ⟨w64 (x1415 + 1), rfl, hs1406, hs1407, hs1409, hs1410, hs1411, hs1413, hs1414, rfl, (h1408.ext e1495), (h1412.ext e1495), (hB1418.ext e1495), e1496⟩
            · clear hK1433 hK1436 hK1437
              replace h := cond_f hb1438 h
              refine WC_exit ?_
              replace h := some_out h
              subst h
              have ho := hx1432 _ rfl
              subst ho
              refine hK1434 _ _ ?_
              exact ⟨rfl, hs1406, hs1409, hs1410, hs1411, h1408, hB1418, e1405⟩
          · clear hK1154 hK1157 hK1167
            rintro ρ wd1419 ⟨rfl, hs1421, hs1423, hs1424, hs1425, h1422, hB1427, e1420⟩
            replace h := jn0_inr hn1430
            refine hK1156 _ _ ?_
            refine WC_region ?_
            refine T0_q (v := (.int .i64 (w64 (x1139 + 1)))) rfl (yl_add hs1425 rfl) ?_
            refine T0_q (v := (.int .i64 (w64 (x1139 + 1)))) rfl (yl_move rfl) ?_
            refine T0_nil ?_
            replace h := some_out h
            subst h
            refine hK1150 _ _ _ rfl ?_
            exact ⟨w64 (x1139 + 1), rfl, hs1421, hs1423, hs1424, rfl, h1422, hB1427, e1420⟩
        · clear hK1150 hK1153 hK1154
          replace h := cond_f hb1155 h
          refine WC_exit ?_
          replace h := some_out h
          subst h
          have ho := hx1149 _ rfl
          subst ho
          refine hK1151 _ _ ?_
          exact ⟨rfl, e1134⟩
      · clear hK49 hK62
        rintro ρ wd1143 ⟨rfl, e1144⟩
        replace h := jn0_inr hn1147
        refine hK61 _ _ ?_
        refine WC_seqK fun K1500 hK1500 => ?_
        refine WC_region ?_
        refine T0_q (v := (.int .i64 0)) rfl (yl_assign rfl) ?_
        refine T0_nil ?_
        refine hK1500 _ _ ?_
        refine WC_ret ?_
        replace h := some_out h
        subst h
        exact ⟨[(.int .i64 0)], ⟨rfl, trivial⟩, e1144, rfl⟩

noncomputable def slices_ContainsFunc_int_70_spec (p_s : (List Int)) (c5 : Int) : Option Bool :=
  (Option.bind (slices_IndexFunc_int_70_spec p_s c5) fun r8 =>
  some (decide (0 ≤ r8))
  )
theorem slices_ContainsFunc_int_70_ok (L : List Value) (w : World) (hL : LtL L w) (v_p_s : Value) (p_s : (List Int)) (h_p_s : SlRd L w v_p_s p_s) (b2 : Nat) (c5 : Int) (hB3 : Box w b2 [(.int .i64 c5)] 3) (r : Bool) (h : slices_ContainsFunc_int_70_spec p_s c5 = some r) :
    CallsTo Try.prog 36 [v_p_s, (.func (.func 70) #[] (List.toArray [(.pointer (some ⟨b2, 0, none⟩))]))] w (fun v w' => Ext w w' ∧ (.bool r) = v) := by
  have e0 : Ext w w := Chg.refl _ _
  refine callsTo_of_WC (n := 9) (rs := [.tmp 4]) Try.func36 rfl rfl rfl rfl rfl ?_
  refine WC_seqK fun K6 hK6 => ?_
  refine WC_region ?_
  refine T0_q (v := (.bool false)) rfl (yl_assign rfl) ?_
  refine T0_nil ?_
  refine hK6 _ _ ?_
  refine WC_seqK fun K7 hK7 => ?_
  refine WC_region ?_
  refine T0_q (v := v_p_s) rfl (yl_move rfl) ?_
  refine T0_q (v := (.func (.func 70) #[] (List.toArray [(.pointer (some ⟨b2, 0, none⟩))]))) rfl (yl_move rfl) ?_
  have hq := bind_elim h
  clear h
  obtain ⟨r8, hr9, h⟩ := hq
  refine T0_e rfl (eff_call Try.func68 nm68 rfl (ev2 rfl rfl) (slices_IndexFunc_int_70_ok [] _ (LtL.nil _) v_p_s p_s (h_p_s.sub (fun _ h => by cases h)) b2 c5 hB3 r8 hr9) ?_)
  rintro _ wd10 ⟨he11, rfl⟩
  have e12 := e0.trans he11
  refine T0_q (v := (.bool (decide (0 ≤ r8)))) rfl (yl_geq rfl rfl) ?_
  refine T0_q (v := (.bool (decide (0 ≤ r8)))) rfl (yl_assign rfl) ?_
  refine T0_nil ?_
  refine hK7 _ _ ?_
  refine WC_ret ?_
  replace h := some_out h
  subst h
  exact ⟨[(.bool (decide (0 ≤ r8)))], ⟨rfl, trivial⟩, e12, rfl⟩

noncomputable def levitate_least_88_s0 (c10 : Arr3_U64) (c5 : Arr3_U64) : (Int × Int) → Option ((Int × Int) ⊕ (Int)) := fun (x87, x89) =>
  (bif (decide (1 < w64 (x89 - x87))) then (
    (Option.bind (levitate_bound_1_spec (w64 (x87 + (w64 (Int.tdiv (w64 (x89 - x87)) 2)))) c5 c10) fun r113 =>
    (bif r113 then (
      some (.inl (x87, w64 (x87 + (w64 (Int.tdiv (w64 (x89 - x87)) 2)))))
    ) else (
      some (.inl (w64 (x87 + (w64 (Int.tdiv (w64 (x89 - x87)) 2))), x89))
    ))
    )
  ) else (
    some (.inr x89)
  ))
noncomputable def levitate_least_88_spec (p_most : Int) (c5 : Arr3_U64) (c10 : Arr3_U64) : Option (Int × Bool) :=
  (Option.bind (loop (levitate_least_88_s0 c10 c5) (-1, w64 (p_most + 1))) fun (x98 : Int) =>
  some (x98, (decide (x98 ≤ p_most)))
  )
theorem levitate_least_88_ok (L : List Value) (w : World) (hL : LtL L w) (p_most : Int) (b1 : Nat) (b2 : Nat) (cs6 : List Value) (c5 : Arr3_U64) (h7 : Rep.rd L w cs6 c5) (hB3 : Box w b1 cs6 120) (cs11 : List Value) (c10 : Arr3_U64) (h12 : Rep.rd L w cs11 c10) (hB8 : Box w b2 cs11 120) (r : Int × Bool) (h : levitate_least_88_spec p_most c5 c10 = some r) :
    CallsTo Try.prog 60 [(.int .i64 p_most), (.func (.func 88) #[] (List.toArray [(.pointer (some ⟨b1, 0, none⟩)), (.pointer (some ⟨b2, 0, none⟩))]))] w (fun v w' => Ext w w' ∧ (.tuple #[(.int .i64 r.1), (.bool r.2)]) = v) := by
  have e0 : Ext w w := Chg.refl _ _
  have h7 : cs6 = [(.int .u64 c5.e0), (.int .u64 c5.e1), (.int .u64 c5.e2)] := h7
  subst h7
  have h12 : cs11 = [(.int .u64 c10.e0), (.int .u64 c10.e1), (.int .u64 c10.e2)] := h12
  subst h12
  refine callsTo_of_WC (n := 30) (rs := [.tmp 4, .tmp 5]) Try.func60 rfl rfl rfl rfl rfl ?_
  refine WC_seqK fun K13 hK13 => ?_
  refine WC_region ?_
  refine T0_q (v := (.int .i64 0)) rfl (yl_assign rfl) ?_
  refine T0_q (v := (.bool false)) rfl (yl_assign rfl) ?_
  refine T0_nil ?_
  refine hK13 _ _ ?_
  refine WC_seqK fun K14 hK14 => ?_
  refine WC_region ?_
  refine T0_q (v := (.int .i64 p_most)) rfl (yl_move rfl) ?_
  refine T0_q (v := (.int .i64 (w64 (p_most + 1)))) rfl (yl_add rfl rfl) ?_
  refine T0_q (v := (.int .i64 (-1))) rfl (yl_assign rfl) ?_
  refine T0_q (v := (.int .i64 (w64 (p_most + 1)))) rfl (yl_assign rfl) ?_
  refine T0_nil ?_
  refine hK14 _ _ ?_
  refine WC_seqK fun K15 hK15 => ?_
  have hq := bind_elim h
  clear h
  obtain ⟨o100, hl101, hn102⟩ := hq
  refine WC_post (fun (ρ : Env) (wd95 : World) => ∃ (x98 : Int), x98 = o100 ∧ ρ 0 = (.int .i64 p_most) ∧ ρ 7 = (.int .i64 x98) ∧ Ext w wd95) ?_ ?_
  · clear hK13 hK14 hK15
    intro K106 hK106
    refine WC_block ?_
    refine WC_loopk (fun sv ρ wd83 => ∃ (x87 : Int) (x89 : Int), (x87, x89) = sv ∧ ρ 0 = (.int .i64 p_most) ∧ ρ 1 = (.func (.func 88) #[] (List.toArray [(.pointer (some ⟨b1, 0, none⟩)), (.pointer (some ⟨b2, 0, none⟩))])) ∧ ρ 6 = (.int .i64 x87) ∧ ρ 7 = (.int .i64 x89) ∧ Box wd83 b1 [(.int .u64 c5.e0), (.int .u64 c5.e1), (.int .u64 c5.e2)] 120 ∧ Box wd83 b2 [(.int .u64 c10.e0), (.int .u64 c10.e1), (.int .u64 c10.e2)] 120 ∧ Ext w wd83) hl101 ⟨-1, w64 (p_most + 1), rfl, rfl, rfl, rfl, rfl, hB3, hB8, e0⟩ ?_
    rintro _ ρ wd83 ⟨x87, x89, rfl, hs85, hs86, hs88, hs90, hB92, hB94, e84⟩ x103 h hx104 K105 hK105
    refine WC_seqK fun K108 hK108 => ?_
    refine WC_seqK fun K109 hK109 => ?_
    refine WC_region ?_
    refine T0_q (v := (.int .i64 x89)) rfl (yl_move hs90) ?_
    refine T0_q (v := (.int .i64 x87)) rfl (yl_move hs88) ?_
    refine T0_q (v := (.int .i64 (w64 (x89 - x87)))) rfl (yl_sub rfl rfl) ?_
    refine T0_q (v := (.bool (decide (1 < w64 (x89 - x87))))) rfl (yl_gtr rfl rfl) ?_
    refine T0_nil ?_
    refine hK109 _ _ ?_
    refine WC_cond (b := (decide (1 < w64 (x89 - x87)))) rfl (fun hb110 => ?_) (fun hb110 => ?_)
    · clear hK106 hK109
      replace h := cond_t hb110 h
      refine WC_skip ?_
      refine hK108 _ _ ?_
      refine WC_block ?_
      refine WC_seqK fun K111 hK111 => ?_
      refine WC_region ?_
      refine T0_q (v := (.int .i64 x87)) rfl (yl_move hs88) ?_
      refine T0_q (v := (.int .i64 x89)) rfl (yl_move hs90) ?_
      refine T0_q (v := (.int .i64 x87)) rfl (yl_move hs88) ?_
      refine T0_q (v := (.int .i64 (w64 (x89 - x87)))) rfl (yl_sub rfl rfl) ?_
      refine T0_q (v := (.int .i64 (w64 (Int.tdiv (w64 (x89 - x87)) 2)))) rfl (yl_quo (by decide) rfl rfl) ?_
      refine T0_q (v := (.int .i64 (w64 (x87 + (w64 (Int.tdiv (w64 (x89 - x87)) 2)))))) rfl (yl_add rfl rfl) ?_
      refine T0_q (v := (.int .i64 (w64 (x87 + (w64 (Int.tdiv (w64 (x89 - x87)) 2)))))) rfl (yl_assign rfl) ?_
      refine T0_nil ?_
      refine hK111 _ _ ?_
      refine WC_seqK fun K112 hK112 => ?_
      refine WC_region ?_
      refine T0_q (v := (.func (.func 88) #[] (List.toArray [(.pointer (some ⟨b1, 0, none⟩)), (.pointer (some ⟨b2, 0, none⟩))]))) rfl (yl_move hs86) ?_
      refine T0_q (v := (.int .i64 (w64 (x87 + (w64 (Int.tdiv (w64 (x89 - x87)) 2)))))) rfl (yl_move rfl) ?_
      have hq := bind_elim h
      clear h
      obtain ⟨r113, hr114, h⟩ := hq
      refine T0_e rfl (eff_callC rfl Try.func88 nm88 rfl (ev1 rfl) rfl (levitate_bound_1_ok [] _ (LtL.nil _) (w64 (x87 + (w64 (Int.tdiv (w64 (x89 - x87)) 2)))) b1 b2 [(.int .u64 c5.e0), (.int .u64 c5.e1), (.int .u64 c5.e2)] c5 rfl hB92 [(.int .u64 c10.e0), (.int .u64 c10.e1), (.int .u64 c10.e2)] c10 rfl hB94 r113 hr114) ?_)
      rintro _ wd115 ⟨he116, rfl⟩
      have e117 := e84.trans he116
      refine T0_nil ?_
      refine hK112 _ _ ?_
      refine WC_cond (b := r113) rfl (fun hb118 => ?_) (fun hb118 => ?_)
      · clear hK108 hK111 hK112
        replace h := cond_t hb118 h
        refine WC_region ?_
        refine T0_q (v := (.int .i64 (w64 (x87 + (w64 (Int.tdiv (w64 (x89 - x87)) 2)))))) rfl (yl_move rfl) ?_
        refine T0_q (v := (.int .i64 (w64 (x87 + (w64 (Int.tdiv (w64 (x89 - x87)) 2)))))) rfl (yl_assign rfl) ?_
        refine T0_nil ?_
        replace h := some_out h
        subst h
        refine hK105 _ _ _ rfl ?_
        exact ⟨x87, w64 (x87 + (w64 (Int.tdiv (w64 (x89 - x87)) 2))), rfl, hs85, hs86, hs88, rfl, (hB92.ext he116), (hB94.ext he116), e117⟩
      · clear hK108 hK111 hK112
        replace h := cond_f hb118 h
        refine WC_region ?_
        refine T0_q (v := (.int .i64 (w64 (x87 + (w64 (Int.tdiv (w64 (x89 - x87)) 2)))))) rfl (yl_move rfl) ?_
        refine T0_q (v := (.int .i64 (w64 (x87 + (w64 (Int.tdiv (w64 (x89 - x87)) 2)))))) rfl (yl_assign rfl) ?_
        refine T0_nil ?_
        replace h := some_out h
        subst h
        refine hK105 _ _ _ rfl ?_
        exact ⟨w64 (x87 + (w64 (Int.tdiv (w64 (x89 - x87)) 2))), x89, rfl, hs85, hs86, rfl, hs90, (hB92.ext he116), (hB94.ext he116), e117⟩
    · clear hK105 hK108 hK109
      replace h := cond_f hb110 h
      refine WC_exit ?_
      replace h := some_out h
      subst h
      have ho := hx104 _ rfl
      subst ho
      refine hK106 _ _ ?_
      exact ⟨x89, rfl, hs85, hs90, e84⟩
  · clear hK13 hK14
    rintro ρ wd95 ⟨x98, rfl, hs97, hs99, e96⟩
    replace h := hn102
    refine hK15 _ _ ?_
    refine WC_seqK fun K119 hK119 => ?_
    refine WC_region ?_
    refine T0_q (v := (.int .i64 x98)) rfl (yl_move hs99) ?_
    refine T0_q (v := (.int .i64 x98)) rfl (yl_move hs99) ?_
    refine T0_q (v := (.int .i64 p_most)) rfl (yl_move hs97) ?_
    refine T0_q (v := (.bool (decide (x98 ≤ p_most)))) rfl (yl_leq rfl rfl) ?_
    refine T0_q (v := (.int .i64 x98)) rfl (yl_assign rfl) ?_
    refine T0_q (v := (.bool (decide (x98 ≤ p_most)))) rfl (yl_assign rfl) ?_
    refine T0_nil ?_
    refine hK119 _ _ ?_
    refine WC_ret ?_
    replace h := some_out h
    subst h
    exact ⟨[(.int .i64 x98), (.bool (decide (x98 ≤ p_most)))], ⟨rfl, rfl, trivial⟩, e96, rfl⟩

noncomputable def levitate_bound_spec (p_f : (List (List Int))) (p_number : Int) (p_level : Int) : Option Int :=
  (Option.bind (levitate_widened_spec p_f) fun r4 =>
  (Option.bind (levitate_numbers_spec (p_f.length : Int)) fun r13 =>
  (Option.bind (levitate_minor_spec r4 r13) fun r27 =>
  (Option.bind (levitate_wideOf_spec p_level) fun r54 =>
  (Option.bind (delE r13 p_number (w64 (p_number + 1))) fun zs64 =>
  (Option.bind (levitate_minor_spec r4 zs64) fun r80 =>
  (Option.bind (levitate_wide_times_spec r54 r80) fun r87 =>
  (Option.bind (levitate_least_88_spec 274877906944 r87 r27) fun r118 =>
  some (w64 (r118.1 - 1))
  )
  )
  )
  )
  )
  )
  )
  )
theorem levitate_bound_ok (L : List Value) (w : World) (hL : LtL L w) (v_p_f : Value) (p_f : (List (List Int))) (h_p_f : SlRd L w v_p_f p_f) (p_number : Int) (p_level : Int) (r : Int) (h : levitate_bound_spec p_f p_number p_level = some r) :
    CallsTo Try.prog 55 [v_p_f, (.int .i64 p_number), (.int .i64 p_level)] w (fun v w' => Ext w w' ∧ (.int .i64 r) = v) := by
  have e0 : Ext w w := Chg.refl _ _
  refine callsTo_of_WC (n := 38) (rs := [.tmp 6]) Try.func55 rfl rfl rfl rfl rfl ?_
  refine WC_seqK fun K2 hK2 => ?_
  refine WC_region ?_
  refine T0_q (v := (.int .i64 0)) rfl (yl_assign rfl) ?_
  refine T0_nil ?_
  refine hK2 _ _ ?_
  refine WC_seqK fun K3 hK3 => ?_
  refine WC_region ?_
  refine T0_q (v := v_p_f) rfl (yl_move rfl) ?_
  have hq := bind_elim h
  clear h
  obtain ⟨r4, hr5, h⟩ := hq
  refine T0_e rfl (eff_call Try.func84 nm84 rfl (ev1 rfl) (levitate_widened_ok L _ (hL.chg e0) v_p_f p_f h_p_f r4 hr5) ?_)
  rintro _ wd6 ⟨he7, v8, rfl, h9⟩
  have e10 := e0.trans he7
  refine T0_q (v := v8) rfl (yl_assign rfl) ?_
  refine T0_nil ?_
  refine hK3 _ _ ?_
  refine WC_seqK fun K12 hK12 => ?_
  refine WC_region ?_
  refine T0_q (v := v_p_f) rfl (yl_move rfl) ?_
  refine T0_q (v := (.int .i64 (p_f.length : Int))) rfl (yl_lenR rfl Try.underlying47 h_p_f rfl) ?_
  have hq := bind_elim h
  clear h
  obtain ⟨r13, hr14, h⟩ := hq
  refine T0_e rfl (eff_call Try.func85 nm85 rfl (ev1 rfl) (levitate_numbers_own L _ (hL.chg e10) (p_f.length : Int) r13 hr14) ?_)
  rintro _ wd15 ⟨he16, v17, rfl, hf19, h18⟩
  have h20 := (h_p_f.ext he7).step (Stepp.add v17 he16 hf19)
  have h21 := h9.step (Stepp.add v17 he16 hf19)
  have hf23 : ∀ b, blk v17 = some b → w.heap.size ≤ b := fun b hb => Nat.le_trans e10.size (hf19 b hb)
  have e24 := e10.trans he16
  refine T0_q (v := v17) rfl (yl_assign rfl) ?_
  refine T0_nil ?_
  refine hK12 _ _ ?_
  refine WC_seqK fun K26 hK26 => ?_
  refine WC_region ?_
  refine T0_q (v := v8) rfl (yl_move rfl) ?_
  refine T0_q (v := v17) rfl (yl_move rfl) ?_
  have hq := bind_elim h
  clear h
  obtain ⟨r27, hr28, h⟩ := hq
  refine T0_e rfl (eff_call Try.func86 nm86 rfl (ev2 rfl rfl) (levitate_minor_ok [] _ (LtL.nil _) v8 r4 (h21.sub (fun _ h => by cases h)) v17 r13 (h18.rdL (fun _ h => by cases h) (LtL.nil w) hf23) r27 hr28) ?_)
  rintro _ wd29 ⟨he30, cs31, rfl, hrd32⟩
  have e33 := e24.trans he30
  have hrd32 : cs31 = [(.int .u64 r27.e0), (.int .u64 r27.e1), (.int .u64 r27.e2)] := hrd32
  subst hrd32
  refine T0_e rfl (eff_allocZ zi120 ?_)
  intro b34 wd35 hb36 he37 hB38
  have hn39 : blk v17 ≠ some b34 := ne_new_box (h18.ext he30) hb36
  have hbf40 := bfresh e33 hb36
  have h41 := (h20.ext he30).step (add_box he37 hb36)
  have h42 := (h21.ext he30).step (add_box he37 hb36)
  have h43 := (h18.ext he30).step (add_box he37 hb36) he37 (fun _ _ => Avoids.nil _)
  have e44 := e33.trans he37
  refine T0_e rfl (eff_storeC (vs := [(.int .u64 r27.e0), (.int .u64 r27.e1), (.int .u64 r27.e2)]) (cs' := [(.int .u64 r27.e0), (.int .u64 r27.e1), (.int .u64 r27.e2)]) sz120 rfl rfl rfl rfl hB38 rfl (oc_cons rfl (oc_cons rfl (oc_cons rfl oc_nil))) rfl ?_)
  intro wd46 hc47 hB48
  have h49 := h41.step (Stepp.chg_mem hc47 mem0)
  have h50 := h42.step (Stepp.chg_mem hc47 mem0)
  have h51 := h43.step (Stepp.chg_mem hc47 mem0) hc47 (av_box hn39)
  have e52 := chg_box e44 hc47 hbf40
  refine T0_nil ?_
  refine hK26 _ _ ?_
  refine WC_seqK fun K53 hK53 => ?_
  refine WC_region ?_
  refine T0_q (v := (.int .i64 p_level)) rfl (yl_move rfl) ?_
  have hq := bind_elim h
  clear h
  obtain ⟨r54, hr55, h⟩ := hq
  refine T0_e rfl (eff_call Try.func79 nm79 rfl (ev1 rfl) (levitate_wideOf_ok [] _ (LtL.nil _) p_level r54 hr55) ?_)
  rintro _ wd56 ⟨he57, cs58, rfl, hrd59⟩
  have e60 := e52.trans he57
  have hrd59 : cs58 = [(.int .u64 r54.e0), (.int .u64 r54.e1), (.int .u64 r54.e2)] := hrd59
  subst hrd59
  refine T0_q (v := v8) rfl (yl_move rfl) ?_
  refine T0_q (v := v17) rfl (yl_move rfl) ?_
  refine T0_q (v := (.int .i64 p_number)) rfl (yl_move rfl) ?_
  refine T0_q (v := (.int .i64 p_number)) rfl (yl_move rfl) ?_
  refine T0_q (v := (.int .i64 (w64 (p_number + 1)))) rfl (yl_add rfl rfl) ?_
  have h61 := (h49.ext he57).sub (sub_cons (memS mem0) (sub_cons mem0 (sub_skip (sub_skip (sub_refl _)))))
  have h62 := (h50.ext he57).sub (sub_cons (memS mem0) (sub_cons mem0 (sub_skip (sub_skip (sub_refl _)))))
  have h63 := (h51.ext he57).sub (sub_cons (memS mem0) (sub_cons mem0 (sub_skip (sub_skip (sub_refl _)))))
  have hq := bind_elim h
  clear h
  obtain ⟨zs64, hz65, h⟩ := hq
  refine T0_e rfl (eff_call Try.func87 nm87 rfl (ev3 rfl rfl rfl) (delE_ok h63 hz65) ?_)
  rintro v66 wd67 ⟨hc68, hb69, h71⟩
  have hbl70 : ∀ k, blk v66 = some k → blk v17 = some k ∨ wd56.heap.size ≤ k := fun k hk => .inl (hb69 k hk)
  replace h71 := h71 (v66 :: (.pointer (some ⟨b34, 0, none⟩)) :: L)
  have hn73 : blk v66 ≠ some b34 := ne_swap hbl70 hn39 (hB48.ext he57)
  have hf74 := fresh_swap hbl70 hf23 e60.size
  have h75 := h61.step (Stepp.swap hc68 hbl70)
  have h76 := h62.step (Stepp.swap hc68 hbl70)
  have h77 := (hB48.ext he57).chg hc68 (avoid1 hn39)
  have e78 := chg_own e60 hc68 hf23
  have hq := bind_elim h
  clear h
  obtain ⟨r80, hr81, h⟩ := hq
  refine T0_e rfl (eff_call Try.func86 nm86 rfl (ev2 rfl rfl) (levitate_minor_ok [] _ (LtL.nil _) v8 r4 (h76.sub (fun _ h => by cases h)) v66 zs64 (h71.rdL (fun _ h => by cases h) (LtL.nil w) hf74) r80 hr81) ?_)
  rintro _ wd82 ⟨he83, cs84, rfl, hrd85⟩
  have e86 := e78.trans he83
  have hrd85 : cs84 = [(.int .u64 r80.e0), (.int .u64 r80.e1), (.int .u64 r80.e2)] := hrd85
  subst hrd85
  have hq := bind_elim h
  clear h
  obtain ⟨r87, hr88, h⟩ := hq
  refine T0_e rfl (eff_call Try.func80 nm80 rfl (ev2 rfl rfl) (levitate_wide_times_ok [] _ (LtL.nil _) [(.int .u64 r54.e0), (.int .u64 r54.e1), (.int .u64 r54.e2)] r54 rfl [(.int .u64 r80.e0), (.int .u64 r80.e1), (.int .u64 r80.e2)] r80 rfl r87 hr88) ?_)
  rintro _ wd89 ⟨he90, cs91, rfl, hrd92⟩
  have e93 := he83.trans he90
  have e94 := e86.trans he90
  have hrd92 : cs91 = [(.int .u64 r87.e0), (.int .u64 r87.e1), (.int .u64 r87.e2)] := hrd92
  subst hrd92
  refine T0_e rfl (eff_allocZ zi120 ?_)
  intro b95 wd96 hb97 he98 hB99
  have hn100 : b95 ≠ b34 := box_ne (h77.ext e93) hb97
  have hn101 : blk v66 ≠ some b95 := ne_new_box (h71.ext e93) hb97
  have hbf102 := bfresh e94 hb97
  have h103 := (h75.ext e93).step (add_box he98 hb97)
  have h104 := (h76.ext e93).step (add_box he98 hb97)
  have h105 := (h71.ext e93).step (add_box he98 hb97) he98 (fun _ _ => Avoids.nil _)
  have e106 := e93.trans he98
  have e107 := e94.trans he98
  refine T0_e rfl (eff_storeC (vs := [(.int .u64 r87.e0), (.int .u64 r87.e1), (.int .u64 r87.e2)]) (cs' := [(.int .u64 r87.e0), (.int .u64 r87.e1), (.int .u64 r87.e2)]) sz120 rfl rfl rfl rfl hB99 rfl (oc_cons rfl (oc_cons rfl (oc_cons rfl oc_nil))) rfl ?_)
  intro wd109 hc110 hB111
  have h112 := h103.step (Stepp.chg_mem hc110 mem0)
  have h113 := h104.step (Stepp.chg_mem hc110 mem0)
  have h114 := (h77.ext e106).chg hc110 (avoidb hn100)
  have h115 := h105.step (Stepp.chg_mem hc110 mem0) hc110 (av_box hn101)
  have e116 := chg_box e107 hc110 hbf102
  refine T0_nil ?_
  refine hK53 _ _ ?_
  refine WC_seqK fun K117 hK117 => ?_
  refine WC_region ?_
  refine T0_q (v := (.func (.func 88) #[] (List.toArray [(.pointer (some ⟨b95, 0, none⟩)), (.pointer (some ⟨b34, 0, none⟩))]))) rfl (yl_makeFunc (ev2 rfl rfl)) ?_
  have hq := bind_elim h
  clear h
  obtain ⟨r118, hr119, h⟩ := hq
  refine T0_e rfl (eff_call Try.func60 nm60 rfl (ev2 rfl rfl) (levitate_least_88_ok [] _ (LtL.nil _) 274877906944 b95 b34 [(.int .u64 r87.e0), (.int .u64 r87.e1), (.int .u64 r87.e2)] r87 rfl hB111 [(.int .u64 r27.e0), (.int .u64 r27.e1), (.int .u64 r27.e2)] r27 rfl h114 r118 hr119) ?_)
  rintro _ wd120 ⟨he121, rfl⟩
  have e122 := e116.trans he121
  refine T0_q (v := (.tuple #[(.int .i64 r118.1), (.bool r118.2)])) rfl (yl_move rfl) ?_
  refine T0_q (v := (.int .i64 r118.1)) rfl (yl_extract rfl rfl) ?_
  refine T0_q (v := (.bool r118.2)) rfl (yl_extract rfl rfl) ?_
  refine T0_q (v := (.int .i64 r118.1)) rfl (yl_assign rfl) ?_
  refine T0_q (v := (.bool r118.2)) rfl (yl_assign rfl) ?_
  refine T0_nil ?_
  refine hK117 _ _ ?_
  refine WC_seqK fun K123 hK123 => ?_
  refine WC_region ?_
  refine T0_q (v := (.int .i64 r118.1)) rfl (yl_move rfl) ?_
  refine T0_q (v := (.int .i64 (w64 (r118.1 - 1)))) rfl (yl_sub rfl rfl) ?_
  refine T0_q (v := (.int .i64 (w64 (r118.1 - 1)))) rfl (yl_assign rfl) ?_
  refine T0_nil ?_
  refine hK123 _ _ ?_
  refine WC_ret ?_
  replace h := some_out h
  subst h
  exact ⟨[(.int .i64 (w64 (r118.1 - 1)))], ⟨rfl, trivial⟩, e122, rfl⟩

noncomputable def levitate_allSmall_1_spec (p_l : (List Int)) (c5 : Int) : Option Bool :=
  (Option.bind (slices_ContainsFunc_int_70_spec p_l c5) fun r8 =>
  some (!r8)
  )
theorem levitate_allSmall_1_ok (L : List Value) (w : World) (hL : LtL L w) (v_p_l : Value) (p_l : (List Int)) (h_p_l : SlRd L w v_p_l p_l) (b2 : Nat) (c5 : Int) (hB3 : Box w b2 [(.int .i64 c5)] 3) (r : Bool) (h : levitate_allSmall_1_spec p_l c5 = some r) :
    CallsTo Try.prog 69 [v_p_l, (.pointer (some ⟨b2, 0, none⟩))] w (fun v w' => Ext w w' ∧ (.bool r) = v) := by
  have e0 : Ext w w := Chg.refl _ _
  refine callsTo_of_WC (n := 8) (rs := [.tmp 3]) Try.func69 rfl rfl rfl rfl rfl ?_
  refine WC_seqK fun K6 hK6 => ?_
  refine WC_region ?_
  refine T0_q (v := (.bool false)) rfl (yl_assign rfl) ?_
  refine T0_nil ?_
  refine hK6 _ _ ?_
  refine WC_seqK fun K7 hK7 => ?_
  refine WC_region ?_
  refine T0_q (v := v_p_l) rfl (yl_move rfl) ?_
  refine T0_q (v := (.func (.func 70) #[] (List.toArray [(.pointer (some ⟨b2, 0, none⟩))]))) rfl (yl_makeFunc (ev1 rfl)) ?_
  have hq := bind_elim h
  clear h
  obtain ⟨r8, hr9, h⟩ := hq
  refine T0_e rfl (eff_call Try.func36 nm36 rfl (ev2 rfl rfl) (slices_ContainsFunc_int_70_ok [] _ (LtL.nil _) v_p_l p_l (h_p_l.sub (fun _ h => by cases h)) b2 c5 hB3 r8 hr9) ?_)
  rintro _ wd10 ⟨he11, rfl⟩
  have e12 := e0.trans he11
  refine T0_q (v := (.bool (!r8))) rfl (yl_not rfl) ?_
  refine T0_q (v := (.bool (!r8))) rfl (yl_assign rfl) ?_
  refine T0_nil ?_
  refine hK7 _ _ ?_
  refine WC_ret ?_
  replace h := some_out h
  subst h
  exact ⟨[(.bool (!r8))], ⟨rfl, trivial⟩, e12, rfl⟩

noncomputable def levitate_CheckPlant_s0 (el1344 : (List (List Int))) (p_Listappend : LevitatePlant) (r117 : Int) (x1317 : Int) : (Int) → Option ((Int) ⊕ (((Int) ⊕ ((LevitateMark × Int) ⊕ (Unit))) ⊕ (Unit))) := fun x1622 =>
  (bif (decide (x1622 < (el1344.length : Int))) then (
    (Option.bind (idx el1344 x1622) fun el1660 =>
    (Option.bind (levitate_unless_spec (decide ((el1660.length : Int) = (p_Listappend.Noise.length : Int))) 10) fun r1670 =>
    (Option.bind (levitate_allSmall_1_spec el1660 r117) fun r1675 =>
    (Option.bind (levitate_unless_spec r1675 2) fun r1681 =>
    (Option.bind (levitate_first_spec ([r1670, r1681] : List Int)) fun r1694 =>
    (bif (!decide (r1694 = 0)) then (
      some (.inr (.inl (.inr (.inl ((LevitateMark.mk x1317 x1622), r1694)))))
    ) else (
      some (.inl (w64 (x1622 + 1)))
    ))
    )
    )
    )
    )
    )
  ) else (
    some (.inr (.inr ()))
  ))
noncomputable def levitate_CheckPlant_s1 (p_Listappend : LevitatePlant) (r117 : Int) : (Int) → Option ((Int) ⊕ ((LevitateMark × Int) ⊕ (Unit))) := fun x1317 =>
  (bif (decide (x1317 < (p_Listappend.Maps.length : Int))) then (
    (Option.bind (idx p_Listappend.Maps x1317) fun el1344 =>
    (bif (!decide ((el1344.length : Int) = (p_Listappend.Noise.length : Int))) then (
      some (.inr (.inl ((LevitateMark.mk x1317 0), 10)))
    ) else (
      (Option.bind (loop (levitate_CheckPlant_s0 el1344 p_Listappend r117 x1317) 0) fun o1647 => jn0 o1647 fun (_ : Unit) =>
      some (.inl (w64 (x1317 + 1)))
      )
    ))
    )
  ) else (
    some (.inr (.inr ()))
  ))
noncomputable def levitate_CheckPlant_spec (p_Listappend : LevitatePlant) : Option (LevitateMark × Int) :=
  (Option.bind (slices_ContainsFunc_int_37_spec p_Listappend.Noise) fun r28 =>
  (Option.bind (levitate_within_spec p_Listappend.Den 1 1000) fun r40 =>
  (Option.bind (levitate_unless_spec r40 2) fun r47 =>
  (Option.bind (levitate_unless_spec (decide (0 < (p_Listappend.Noise.length : Int))) 10) fun r54 =>
  (Option.bind (levitate_unless_spec (decide ((p_Listappend.Noise.length : Int) ≤ 3)) 8) fun r61 =>
  (Option.bind (levitate_unless_spec (!r28) 2) fun r68 =>
  (Option.bind (levitate_unless_spec (decide (0 < (p_Listappend.Maps.length : Int))) 10) fun r75 =>
  (Option.bind (levitate_unless_spec (decide ((p_Listappend.Maps.length : Int) ≤ 4)) 8) fun r82 =>
  (Option.bind (levitate_first_spec ([r47, r54, r61, r68, r75, r82] : List Int)) fun r97 =>
  (bif (!decide (r97 = 0)) then (
    some ((LevitateMark.mk 0 0), r97)
  ) else (
    (Option.bind (levitate_allSmall_spec 1000) fun r117 =>
    (Option.bind (loop (levitate_CheckPlant_s1 p_Listappend r117) 0) fun o1331 => jn0 o1331 fun (_ : Unit) =>
    some ((LevitateMark.mk 0 0), 0)
    )
    )
  ))
  )
  )
  )
  )
  )
  )
  )
  )
  )
theorem levitate_CheckPlant_ok (L : List Value) (w : World) (hL : LtL L w) (cs_p_Listappend : List Value) (p_Listappend : LevitatePlant) (h_p_Listappend : Rep.rd L w cs_p_Listappend p_Listappend) (r : LevitateMark × Int) (h : levitate_CheckPlant_spec p_Listappend = some r) :
    CallsTo Try.prog 9 [(.agg cs_p_Listappend.toArray)] w (fun v w' => Ext w w' ∧ ∃ (cs0 : List Value), (.tuple #[(.agg cs0.toArray), (.int .i64 r.2)]) = v ∧ Rep.rd L w' cs0 r.1) := by
  have e0 : Ext w w := Chg.refl _ _
  obtain ⟨v1, v3, h2, h4, rfl⟩ := h_p_Listappend
  refine callsTo_of_WC (n := 94) (rs := [.cell 2 29, .tmp 3]) Try.func9 rfl rfl rfl rfl rfl ?_
  refine WC_seqK fun K7 hK7 => ?_
  refine WC_region ?_
  refine T0_e rfl (eff_boxC (cs := [(.int .i64 p_Listappend.Den), v1, v3]) rfl rfl ?_)
  intro b8 wd9 hb10 he11 hB12
  have hbf13 := bfresh e0 hb10
  have e14 := e0.trans he11
  refine T0_e rfl (eff_allocZ zi29 ?_)
  intro b16 wd17 hb18 he19 hB20
  have hn21 : b16 ≠ b8 := box_ne hB12 hb18
  have hbf22 := bfresh e14 hb18
  have h23 := (h2.ext he11).step (add_box he19 hb18)
  have h24 := (h4.ext he11).step (add_box he19 hb18)
  have e25 := e14.trans he19
  refine T0_q (v := (.int .i64 0)) rfl (yl_assign rfl) ?_
  refine T0_nil ?_
  refine hK7 _ _ ?_
  refine WC_seqK fun K27 hK27 => ?_
  refine WC_region ?_
  refine T0_q (v := (.pointer (some ⟨b8, 2, none⟩))) rfl (yl_fa 2 Try.underlying25 rfl rfl ⟨0, sz23⟩ rfl rfl) ?_
  refine T0_q (v := v3) rfl (yl_load sc23 rfl (At.drop (Box.at (hB12.ext he19)) 2)) ?_
  have hq := bind_elim h
  clear h
  obtain ⟨r28, hr29, h⟩ := hq
  refine T0_e rfl (eff_call Try.func36 nm36 rfl (ev2 rfl rfl) (slices_ContainsFunc_int_37_ok [] _ (LtL.nil _) v3 p_Listappend.Noise (h24.sub (fun _ h => by cases h)) r28 hr29) ?_)
  rintro _ wd30 ⟨he31, rfl⟩
  have e32 := he19.trans he31
  have e33 := e25.trans he31
  refine T0_q (v := (.bool r28)) rfl (yl_assign rfl) ?_
  refine T0_nil ?_
  refine hK27 _ _ ?_
  refine WC_seqK fun K34 hK34 => ?_
  refine WC_planX mixed (.p 0 (.p 4 (.p 9 (.p 14 (.p 15 (.p 17 (.p 22 (.q 1 (.q 5 (.p 6 (.p 7 (.q 10 (.p 11 (.p 12 (.q 18 (.p 19 (.p 20 (.q 23 (.p 24 (.p 25 (.e 2 (.e 3 (.e 8 (.e 13 (.e 16 (.e 21 (.e 26 (.e 27 (.e 28 (.p 29 .done)))))))))))))))))))))))))))))) (by kernel_rfl) ?_
  intro wd35 he36
  have e37 := he31.trans he36
  have e38 := e32.trans he36
  have e39 := e33.trans he36
  refine TX_p (v := (.pointer (some ⟨b8, 0, none⟩))) rfl rfl (fun w' => (yl_fa 0 Try.underlying25 rfl rfl ⟨0, sz3⟩ rfl rfl)) ?_
  refine TX_p (v := (.pointer (some ⟨b8, 2, none⟩))) rfl rfl (fun w' => (yl_fa 2 Try.underlying25 rfl rfl ⟨0, sz23⟩ rfl rfl)) ?_
  refine TX_p (v := (.pointer (some ⟨b8, 2, none⟩))) rfl rfl (fun w' => (yl_fa 2 Try.underlying25 rfl rfl ⟨0, sz23⟩ rfl rfl)) ?_
  refine TX_p (v := (.bool r28)) rfl rfl (fun w' => (yl_move rfl)) ?_
  refine TX_p (v := (.bool (!r28))) rfl rfl (fun w' => (yl_not rfl)) ?_
  refine TX_p (v := (.pointer (some ⟨b8, 1, none⟩))) rfl rfl (fun w' => (yl_fa 1 Try.underlying25 rfl rfl ⟨0, sz22⟩ rfl rfl)) ?_
  refine TX_p (v := (.pointer (some ⟨b8, 1, none⟩))) rfl rfl (fun w' => (yl_fa 1 Try.underlying25 rfl rfl ⟨0, sz22⟩ rfl rfl)) ?_
  refine TX_q (v := (.int .i64 p_Listappend.Den)) rfl rfl (fun w' hS => (yl_load sc3 rfl (Box.at (hB12.ext (e38.trans hS))))) ?_
  refine TX_q (v := v3) rfl rfl (fun w' hS => (yl_load sc23 rfl (At.drop (Box.at (hB12.ext (e38.trans hS))) 2))) ?_
  refine TX_p (v := (.int .i64 (p_Listappend.Noise.length : Int))) rfl rfl (fun w' => (yl_lenR rfl Try.underlying23 h24 rfl)) ?_
  refine TX_p (v := (.bool (decide (0 < (p_Listappend.Noise.length : Int))))) rfl rfl (fun w' => (yl_gtr rfl rfl)) ?_
  refine TX_q (v := v3) rfl rfl (fun w' hS => (yl_load sc23 rfl (At.drop (Box.at (hB12.ext (e38.trans hS))) 2))) ?_
  refine TX_p (v := (.int .i64 (p_Listappend.Noise.length : Int))) rfl rfl (fun w' => (yl_lenR rfl Try.underlying23 h24 rfl)) ?_
  refine TX_p (v := (.bool (decide ((p_Listappend.Noise.length : Int) ≤ 3)))) rfl rfl (fun w' => (yl_leq rfl rfl)) ?_
  refine TX_q (v := v1) rfl rfl (fun w' hS => (yl_load sc22 rfl (At.drop (Box.at (hB12.ext (e38.trans hS))) 1))) ?_
  refine TX_p (v := (.int .i64 (p_Listappend.Maps.length : Int))) rfl rfl (fun w' => (yl_lenR rfl Try.underlying22 h23 rfl)) ?_
  refine TX_p (v := (.bool (decide (0 < (p_Listappend.Maps.length : Int))))) rfl rfl (fun w' => (yl_gtr rfl rfl)) ?_
  refine TX_q (v := v1) rfl rfl (fun w' hS => (yl_load sc22 rfl (At.drop (Box.at (hB12.ext (e38.trans hS))) 1))) ?_
  refine TX_p (v := (.int .i64 (p_Listappend.Maps.length : Int))) rfl rfl (fun w' => (yl_lenR rfl Try.underlying22 h23 rfl)) ?_
  refine TX_p (v := (.bool (decide ((p_Listappend.Maps.length : Int) ≤ 4)))) rfl rfl (fun w' => (yl_leq rfl rfl)) ?_
  have hq := bind_elim h
  clear h
  obtain ⟨r40, hr41, h⟩ := hq
  refine TX_e rfl rfl (eff_call Try.func38 nm38 rfl (ev3 rfl rfl rfl) (levitate_within_ok [] _ (LtL.nil _) p_Listappend.Den 1 1000 r40 hr41) ?_)
  rintro _ wd42 ⟨he43, rfl⟩
  have e44 := e37.trans he43
  have e45 := e38.trans he43
  have e46 := e39.trans he43
  refine ⟨he43, ?_⟩
  have hq := bind_elim h
  clear h
  obtain ⟨r47, hr48, h⟩ := hq
  refine TX_e rfl rfl (eff_call Try.func40 nm40 rfl (ev2 rfl rfl) (levitate_unless_ok [] _ (LtL.nil _) r40 2 r47 hr48) ?_)
  rintro _ wd49 ⟨he50, rfl⟩
  have e51 := e44.trans he50
  have e52 := e45.trans he50
  have e53 := e46.trans he50
  refine ⟨he50, ?_⟩
  have hq := bind_elim h
  clear h
  obtain ⟨r54, hr55, h⟩ := hq
  refine TX_e rfl rfl (eff_call Try.func40 nm40 rfl (ev2 rfl rfl) (levitate_unless_ok [] _ (LtL.nil _) (decide (0 < (p_Listappend.Noise.length : Int))) 10 r54 hr55) ?_)
  rintro _ wd56 ⟨he57, rfl⟩
  have e58 := e51.trans he57
  have e59 := e52.trans he57
  have e60 := e53.trans he57
  refine ⟨he57, ?_⟩
  have hq := bind_elim h
  clear h
  obtain ⟨r61, hr62, h⟩ := hq
  refine TX_e rfl rfl (eff_call Try.func40 nm40 rfl (ev2 rfl rfl) (levitate_unless_ok [] _ (LtL.nil _) (decide ((p_Listappend.Noise.length : Int) ≤ 3)) 8 r61 hr62) ?_)
  rintro _ wd63 ⟨he64, rfl⟩
  have e65 := e58.trans he64
  have e66 := e59.trans he64
  have e67 := e60.trans he64
  refine ⟨he64, ?_⟩
  have hq := bind_elim h
  clear h
  obtain ⟨r68, hr69, h⟩ := hq
  refine TX_e rfl rfl (eff_call Try.func40 nm40 rfl (ev2 rfl rfl) (levitate_unless_ok [] _ (LtL.nil _) (!r28) 2 r68 hr69) ?_)
  rintro _ wd70 ⟨he71, rfl⟩
  have e72 := e65.trans he71
  have e73 := e66.trans he71
  have e74 := e67.trans he71
  refine ⟨he71, ?_⟩
  have hq := bind_elim h
  clear h
  obtain ⟨r75, hr76, h⟩ := hq
  refine TX_e rfl rfl (eff_call Try.func40 nm40 rfl (ev2 rfl rfl) (levitate_unless_ok [] _ (LtL.nil _) (decide (0 < (p_Listappend.Maps.length : Int))) 10 r75 hr76) ?_)
  rintro _ wd77 ⟨he78, rfl⟩
  have e79 := e72.trans he78
  have e80 := e73.trans he78
  have e81 := e74.trans he78
  refine ⟨he78, ?_⟩
  have hq := bind_elim h
  clear h
  obtain ⟨r82, hr83, h⟩ := hq
  refine TX_e rfl rfl (eff_call Try.func40 nm40 rfl (ev2 rfl rfl) (levitate_unless_ok [] _ (LtL.nil _) (decide ((p_Listappend.Maps.length : Int) ≤ 4)) 8 r82 hr83) ?_)
  rintro _ wd84 ⟨he85, rfl⟩
  have e86 := e79.trans he85
  have e87 := e80.trans he85
  have e88 := e81.trans he85
  refine ⟨he85, ?_⟩
  refine TX_e rfl rfl (eff_buildTC (xs := ([r47, r54, r61, r68, r75, r82] : List Int)) (cells := [(.int .i64 r47), (.int .i64 r54), (.int .i64 r61), (.int .i64 r68), (.int .i64 r75), (.int .i64 r82)]) Try.underlying108 ei30 rfl (pc_cons rfl rfl (pc_cons rfl rfl (pc_cons rfl rfl (pc_cons rfl rfl (pc_cons rfl rfl (pc_cons rfl rfl pc_nil)))))) rfl (Elems.cons (cs := [(.int .i64 r47)]) rfl (Elems.cons (cs := [(.int .i64 r54)]) rfl (Elems.cons (cs := [(.int .i64 r61)]) rfl (Elems.cons (cs := [(.int .i64 r68)]) rfl (Elems.cons (cs := [(.int .i64 r75)]) rfl (Elems.cons (cs := [(.int .i64 r82)]) rfl Elems.nil)))))) rfl (ltl_box (hL.chg e88) (hB20.ext e86)) ?_)
  intro b92 wd89 he90 h91
  have e93 := e86.trans he90
  have e94 := e87.trans he90
  have e95 := e88.trans he90
  refine ⟨he90, ?_⟩
  have hq := bind_elim h
  clear h
  obtain ⟨r97, hr98, h⟩ := hq
  refine TX_e rfl rfl (eff_call Try.func39 nm39 rfl (ev1 rfl) (levitate_first_ok [] _ (LtL.nil _) (.slice (some ⟨b92, 0, none⟩) 6 6) ([r47, r54, r61, r68, r75, r82] : List Int) (h91.sub (fun _ h => by cases h)) r97 hr98) ?_)
  rintro _ wd99 ⟨he100, rfl⟩
  have e101 := e93.trans he100
  have e102 := e94.trans he100
  have e103 := e95.trans he100
  refine ⟨he100, ?_⟩
  refine TX_p (v := (.int .i64 r97)) rfl rfl (fun w' => (yl_assign rfl)) ?_
  refine TX_done ?_
  refine hK34 _ _ ?_
  refine WC_seqK fun K104 hK104 => ?_
  refine WC_seqK fun K105 hK105 => ?_
  refine WC_region ?_
  refine T0_q (v := (.int .i64 r97)) rfl (yl_move rfl) ?_
  refine T0_q (v := (.bool (!decide (r97 = 0)))) rfl (yl_neq rfl rfl) ?_
  refine T0_nil ?_
  refine hK105 _ _ ?_
  refine WC_cond (b := (!decide (r97 = 0))) rfl (fun hb106 => ?_) (fun hb106 => ?_)
  · clear hK104 hK105 hK27 hK34 hK7
    replace h := cond_t hb106 h
    refine WC_seqK fun K107 hK107 => ?_
    refine WC_region ?_
    refine T0_q (v := (.agg (List.toArray [(.int .i64 0), (.int .i64 0)]))) rfl (yl_buildC (cells := [(.int .i64 0), (.int .i64 0)]) bi29 pc_nil rfl) ?_
    refine T0_q (v := (.int .i64 r97)) rfl (yl_move rfl) ?_
    refine T0_e rfl (eff_storeC (vs := [(.int .i64 0), (.int .i64 0)]) (cs' := [(.int .i64 0), (.int .i64 0)]) sz29 rfl rfl rfl rfl (hB20.ext e101) rfl (oc_cons rfl (oc_cons rfl oc_nil)) rfl ?_)
    intro wd108 hc109 hB110
    have h111 := (h23.ext e101).step (Stepp.chg_mem hc109 mem0)
    have h112 := (h24.ext e101).step (Stepp.chg_mem hc109 mem0)
    have h113 := (hB12.ext e102).chg hc109 (avoidb hn21)
    have h114 := (h91.ext he100).step (Stepp.chg_mem hc109 mem0)
    have e115 := chg_box e103 hc109 hbf22
    refine T0_q (v := (.int .i64 r97)) rfl (yl_assign rfl) ?_
    refine T0_nil ?_
    refine hK107 _ _ ?_
    refine WC_ret ?_
    replace h := some_out h
    subst h
    exact ⟨[(.agg (List.toArray [(.int .i64 0), (.int .i64 0)])), (.int .i64 r97)], ⟨⟨_, rfl, run_loadVarA (cs := [(.int .i64 0), (.int .i64 0)]) ag29 (Box.at hB110)⟩, rfl, trivial⟩, e115, [(.int .i64 0), (.int .i64 0)], rfl, rfl⟩
  · clear hK105 hK27 hK34 hK7
    replace h := cond_f hb106 h
    refine WC_skip ?_
    refine hK104 _ _ ?_
    refine WC_seqK fun K116 hK116 => ?_
    refine WC_region ?_
    have hq := bind_elim h
    clear h
    obtain ⟨r117, hr118, h⟩ := hq
    refine T0_e rfl (eff_call Try.func41 nm41 rfl (ev1 rfl) (levitate_allSmall_ok [] _ (LtL.nil _) 1000 r117 hr118) ?_)
    rintro _ wd119 ⟨he120, b121, rfl, h122, h123⟩
    have hn124 : b121 ≠ b8 := fun e => by have := (hB12.ext e102).lt; omega
    have hn125 : b121 ≠ b16 := fun e => by have := (hB20.ext e101).lt; omega
    have hbf126 : w.heap.size ≤ b121 := Nat.le_trans e103.size h123
    have e127 := e101.trans he120
    have e128 := he100.trans he120
    have e129 := e102.trans he120
    have e130 := e103.trans he120
    refine T0_q (v := (.func (.func 69) #[] (List.toArray [(.pointer (some ⟨b121, 0, none⟩))]))) rfl (yl_assign rfl) ?_
    refine T0_nil ?_
    refine hK116 _ _ ?_
    refine WC_seqK fun K132 hK132 => ?_
    refine WC_seqK fun K133 hK133 => ?_
    refine WC_region ?_
    refine T0_q (v := (.pointer (some ⟨b8, 1, none⟩))) rfl (yl_fa 1 Try.underlying25 rfl rfl ⟨0, sz22⟩ rfl rfl) ?_
    refine T0_q (v := v1) rfl (yl_load sc22 rfl (At.drop (Box.at (hB12.ext e129)) 1)) ?_
    refine T0_q (v := (.int .i64 (p_Listappend.Maps.length : Int))) rfl (yl_lenR rfl Try.underlying22 h23 rfl) ?_
    refine T0_q (v := (.int .i64 0)) rfl (yl_move rfl) ?_
    refine T0_nil ?_
    refine hK133 _ _ ?_
    have hq := bind_elim h
    clear h
    obtain ⟨o1331, hl1332, hn1333⟩ := hq
    refine WC_post (fun (ρ : Env) (wd1326 : World) => .inr () = o1331 ∧ ρ 2 = (.pointer (some ⟨b16, 0, none⟩)) ∧ Box wd1326 b16 [(.int .i64 0), (.int .i64 0)] 29 ∧ Ext w wd1326) ?_ ?_
    · clear hK104 hK116 hK132 hK133
      intro K1337 hK1337
      refine WC_block ?_
      refine WC_loopk (fun sv ρ wd1309 => ∃ (x1317 : Int), x1317 = sv ∧ ρ 1 = (.pointer (some ⟨b8, 0, none⟩)) ∧ ρ 2 = (.pointer (some ⟨b16, 0, none⟩)) ∧ ρ 6 = (.func (.func 69) #[] (List.toArray [(.pointer (some ⟨b121, 0, none⟩))])) ∧ ρ 50 = v1 ∧ ρ 51 = (.int .i64 (p_Listappend.Maps.length : Int)) ∧ ρ 52 = (.int .i64 x1317) ∧ SlRd ((.pointer (some ⟨b16, 0, none⟩)) :: L) wd1309 v1 p_Listappend.Maps ∧ SlRd ((.pointer (some ⟨b16, 0, none⟩)) :: L) wd1309 v3 p_Listappend.Noise ∧ Box wd1309 b121 [(.int .i64 r117)] 3 ∧ Box wd1309 b16 [(.int .i64 0), (.int .i64 0)] 29 ∧ Box wd1309 b8 [(.int .i64 p_Listappend.Den), v1, v3] 25 ∧ Ext w wd1309) hl1332 ⟨0, rfl, rfl, rfl, rfl, rfl, rfl, rfl, (h23.ext e127), (h24.ext e127), h122, (hB20.ext e127), (hB12.ext e129), e130⟩ ?_
      rintro _ ρ wd1309 ⟨x1317, rfl, hs1311, hs1312, hs1313, hs1315, hs1316, hs1318, h1314, h1323, hB1320, hB1322, hB1325, e1310⟩ x1334 h hx1335 K1336 hK1336
      refine WC_seqK fun K1339 hK1339 => ?_
      refine WC_region ?_
      refine T0_q (v := (.bool (decide (x1317 < (p_Listappend.Maps.length : Int))))) rfl (yl_lss hs1318 hs1316) ?_
      refine T0_nil ?_
      refine hK1339 _ _ ?_
      refine WC_seqK fun K1340 hK1340 => ?_
      refine WC_cond (b := (decide (x1317 < (p_Listappend.Maps.length : Int)))) rfl (fun hb1341 => ?_) (fun hb1341 => ?_)
      · clear hK1337 hK1339
        replace h := cond_t hb1341 h
        refine WC_skip ?_
        refine hK1340 _ _ ?_
        refine WC_seqK fun K1342 hK1342 => ?_
        refine WC_block ?_
        refine WC_seqK fun K1343 hK1343 => ?_
        refine WC_region ?_
        refine T0_q (v := (.int .i64 x1317)) rfl (yl_move hs1318) ?_
        have hq := bind_elim h
        clear h
        obtain ⟨el1344, hel1345, h⟩ := hq
        have hq := SlRd.at h1314 hel1345
        obtain ⟨cs1348, hat1349, hrd1350⟩ := hq
        obtain ⟨v1346, rfl, h1347⟩ := hrd1350
        refine T0_q (v := (.pointer (some (elemAddr v1 (x1317 : Int).toNat 1)))) rfl (yl_indexAddr Try.underlying22 sz47 h1314 hel1345 hs1315 hs1318) ?_
        refine T0_q (v := v1346) rfl (yl_load sc47 rfl hat1349) ?_
        refine T0_q (v := (.int .i64 x1317)) rfl (yl_assign rfl) ?_
        refine T0_q (v := v1346) rfl (yl_assign rfl) ?_
        refine T0_nil ?_
        refine hK1343 _ _ ?_
        refine WC_seqK fun K1353 hK1353 => ?_
        refine WC_seqK fun K1354 hK1354 => ?_
        refine WC_region ?_
        refine T0_q (v := v1346) rfl (yl_move rfl) ?_
        refine T0_q (v := (.int .i64 (el1344.length : Int))) rfl (yl_lenR rfl Try.underlying47 h1347 rfl) ?_
        refine T0_q (v := (.pointer (some ⟨b8, 2, none⟩))) rfl (yl_fa 2 Try.underlying25 rfl rfl ⟨0, sz23⟩ hs1311 rfl) ?_
        refine T0_q (v := v3) rfl (yl_load sc23 rfl (At.drop (Box.at hB1325) 2)) ?_
        refine T0_q (v := (.int .i64 (p_Listappend.Noise.length : Int))) rfl (yl_lenR rfl Try.underlying23 h1323 rfl) ?_
        refine T0_q (v := (.bool (!decide ((el1344.length : Int) = (p_Listappend.Noise.length : Int))))) rfl (yl_neq rfl rfl) ?_
        refine T0_nil ?_
        refine hK1354 _ _ ?_
        refine WC_cond (b := (!decide ((el1344.length : Int) = (p_Listappend.Noise.length : Int)))) rfl (fun hb1355 => ?_) (fun hb1355 => ?_)
        · clear hK1336 hK1340 hK1342 hK1343 hK1353 hK1354
          replace h := cond_t hb1355 h
          refine WC_seqK fun K1356 hK1356 => ?_
          refine WC_region ?_
          refine T0_q (v := (.int .i64 x1317)) rfl (yl_move rfl) ?_
          refine T0_q (v := (.agg (List.toArray [(.int .i64 x1317), (.int .i64 0)]))) rfl (yl_buildC (cells := [(.int .i64 x1317), (.int .i64 0)]) bi29 (pc_cons rfl rfl pc_nil) rfl) ?_
          refine T0_e rfl (eff_storeC (vs := [(.int .i64 x1317), (.int .i64 0)]) (cs' := [(.int .i64 x1317), (.int .i64 0)]) sz29 rfl rfl hs1312 rfl hB1322 rfl (oc_cons rfl (oc_cons rfl oc_nil)) rfl ?_)
          intro wd1357 hc1358 hB1359
          have h1360 := h1314.step (Stepp.chg_mem hc1358 mem0)
          have h1361 := hB1320.chg hc1358 (avoidb hn125.symm)
          have h1362 := h1323.step (Stepp.chg_mem hc1358 mem0)
          have h1363 := hB1325.chg hc1358 (avoidb hn21)
          have h1364 := h1347.step (Stepp.chg_mem hc1358 mem0)
          have e1365 := chg_box e1310 hc1358 hbf22
          refine T0_q (v := (.int .i64 10)) rfl (yl_assign rfl) ?_
          refine T0_nil ?_
          refine hK1356 _ _ ?_
          refine WC_ret ?_
          replace h := some_out h
          subst h
          have ho := hx1335 _ rfl
          subst ho
          replace h := jn0_inl hn1333
          replace h := some_out h
          subst h
          exact ⟨[(.agg (List.toArray [(.int .i64 x1317), (.int .i64 0)])), (.int .i64 10)], ⟨⟨_, hs1312, run_loadVarA (cs := [(.int .i64 x1317), (.int .i64 0)]) ag29 (Box.at hB1359)⟩, rfl, trivial⟩, e1365, [(.int .i64 x1317), (.int .i64 0)], rfl, rfl⟩
        · clear hK1340 hK1343 hK1354
          replace h := cond_f hb1355 h
          refine WC_skip ?_
          refine hK1353 _ _ ?_
          refine WC_seqK fun K1366 hK1366 => ?_
          refine WC_region ?_
          refine T0_q (v := v1346) rfl (yl_move rfl) ?_
          refine T0_q (v := (.int .i64 (el1344.length : Int))) rfl (yl_lenR rfl Try.underlying47 h1347 rfl) ?_
          refine T0_q (v := (.int .i64 0)) rfl (yl_move rfl) ?_
          refine T0_nil ?_
          refine hK1366 _ _ ?_
          have hq := bind_elim h
          clear h
          obtain ⟨o1647, hl1648, hn1649⟩ := hq
          refine WC_post (fun (ρ : Env) (wd1631 : World) => .inr () = o1647 ∧ ρ 1 = (.pointer (some ⟨b8, 0, none⟩)) ∧ ρ 2 = (.pointer (some ⟨b16, 0, none⟩)) ∧ ρ 6 = (.func (.func 69) #[] (List.toArray [(.pointer (some ⟨b121, 0, none⟩))])) ∧ ρ 50 = v1 ∧ ρ 51 = (.int .i64 (p_Listappend.Maps.length : Int)) ∧ ρ 52 = (.int .i64 x1317) ∧ SlRd ((.pointer (some ⟨b16, 0, none⟩)) :: L) wd1631 v1 p_Listappend.Maps ∧ SlRd ((.pointer (some ⟨b16, 0, none⟩)) :: L) wd1631 v3 p_Listappend.Noise ∧ Box wd1631 b121 [(.int .i64 r117)] 3 ∧ Box wd1631 b16 [(.int .i64 0), (.int .i64 0)] 29 ∧ Box wd1631 b8 [(.int .i64 p_Listappend.Den), v1, v3] 25 ∧ Ext w wd1631) ?_ ?_
          · clear hK1336 hK1342 hK1353 hK1366
            intro K1653 hK1653
            refine WC_block ?_
            refine WC_loopk (fun sv ρ wd1609 => ∃ (x1622 : Int), x1622 = sv ∧ ρ 1 = (.pointer (some ⟨b8, 0, none⟩)) ∧ ρ 2 = (.pointer (some ⟨b16, 0, none⟩)) ∧ ρ 6 = (.func (.func 69) #[] (List.toArray [(.pointer (some ⟨b121, 0, none⟩))])) ∧ ρ 7 = (.int .i64 x1317) ∧ ρ 50 = v1 ∧ ρ 51 = (.int .i64 (p_Listappend.Maps.length : Int)) ∧ ρ 52 = (.int .i64 x1317) ∧ ρ 65 = v1346 ∧ ρ 66 = (.int .i64 (el1344.length : Int)) ∧ ρ 67 = (.int .i64 x1622) ∧ SlRd ((.pointer (some ⟨b16, 0, none⟩)) :: L) wd1609 v1 p_Listappend.Maps ∧ SlRd ((.pointer (some ⟨b16, 0, none⟩)) :: L) wd1609 v1346 el1344 ∧ SlRd ((.pointer (some ⟨b16, 0, none⟩)) :: L) wd1609 v3 p_Listappend.Noise ∧ Box wd1609 b121 [(.int .i64 r117)] 3 ∧ Box wd1609 b16 [(.int .i64 0), (.int .i64 0)] 29 ∧ Box wd1609 b8 [(.int .i64 p_Listappend.Den), v1, v3] 25 ∧ Ext w wd1609) hl1648 ⟨0, rfl, hs1311, hs1312, hs1313, rfl, hs1315, hs1316, hs1318, rfl, rfl, rfl, h1314, h1347, h1323, hB1320, hB1322, hB1325, e1310⟩ ?_
            rintro _ ρ wd1609 ⟨x1622, rfl, hs1611, hs1612, hs1613, hs1614, hs1616, hs1617, hs1618, hs1620, hs1621, hs1623, h1615, h1619, h1628, hB1625, hB1627, hB1630, e1610⟩ x1650 h hx1651 K1652 hK1652
            refine WC_seqK fun K1655 hK1655 => ?_
            refine WC_region ?_
            refine T0_q (v := (.bool (decide (x1622 < (el1344.length : Int))))) rfl (yl_lss hs1623 hs1621) ?_
            refine T0_nil ?_
            refine hK1655 _ _ ?_
            refine WC_seqK fun K1656 hK1656 => ?_
            refine WC_cond (b := (decide (x1622 < (el1344.length : Int)))) rfl (fun hb1657 => ?_) (fun hb1657 => ?_)
            · clear hK1653 hK1655
              replace h := cond_t hb1657 h
              refine WC_skip ?_
              refine hK1656 _ _ ?_
              refine WC_seqK fun K1658 hK1658 => ?_
              refine WC_block ?_
              refine WC_seqK fun K1659 hK1659 => ?_
              refine WC_region ?_
              refine T0_q (v := (.int .i64 x1622)) rfl (yl_move hs1623) ?_
              have hq := bind_elim h
              clear h
              obtain ⟨el1660, hel1661, h⟩ := hq
              have hq := SlRd.at h1619 hel1661
              obtain ⟨cs1664, hat1665, hrd1666⟩ := hq
              obtain ⟨v1662, rfl, h1663⟩ := hrd1666
              refine T0_q (v := (.pointer (some (elemAddr v1346 (x1622 : Int).toNat 1)))) rfl (yl_indexAddr Try.underlying47 sz23 h1619 hel1661 hs1620 hs1623) ?_
              refine T0_q (v := v1662) rfl (yl_load sc23 rfl hat1665) ?_
              refine T0_q (v := (.int .i64 x1622)) rfl (yl_assign rfl) ?_
              refine T0_q (v := v1662) rfl (yl_assign rfl) ?_
              refine T0_nil ?_
              refine hK1659 _ _ ?_
              refine WC_seqK fun K1669 hK1669 => ?_
              refine WC_region ?_
              refine T0_q (v := v1662) rfl (yl_move rfl) ?_
              refine T0_q (v := (.int .i64 (el1660.length : Int))) rfl (yl_lenR rfl Try.underlying23 h1663 rfl) ?_
              refine T0_q (v := (.pointer (some ⟨b8, 2, none⟩))) rfl (yl_fa 2 Try.underlying25 rfl rfl ⟨0, sz23⟩ hs1611 rfl) ?_
              refine T0_q (v := v3) rfl (yl_load sc23 rfl (At.drop (Box.at hB1630) 2)) ?_
              refine T0_q (v := (.int .i64 (p_Listappend.Noise.length : Int))) rfl (yl_lenR rfl Try.underlying23 h1628 rfl) ?_
              refine T0_q (v := (.bool (decide ((el1660.length : Int) = (p_Listappend.Noise.length : Int))))) rfl (yl_eql rfl rfl) ?_
              have hq := bind_elim h
              clear h
              obtain ⟨r1670, hr1671, h⟩ := hq
              refine T0_e rfl (eff_call Try.func40 nm40 rfl (ev2 rfl rfl) (levitate_unless_ok [] _ (LtL.nil _) (decide ((el1660.length : Int) = (p_Listappend.Noise.length : Int))) 10 r1670 hr1671) ?_)
              rintro _ wd1672 ⟨he1673, rfl⟩
              have e1674 := e1610.trans he1673
              refine T0_q (v := (.func (.func 69) #[] (List.toArray [(.pointer (some ⟨b121, 0, none⟩))]))) rfl (yl_move hs1613) ?_
              refine T0_q (v := v1662) rfl (yl_move rfl) ?_
              have hq := bind_elim h
              clear h
              obtain ⟨r1675, hr1676, h⟩ := hq
              refine T0_e rfl (eff_callC rfl Try.func69 nm69 rfl (ev1 rfl) rfl (levitate_allSmall_1_ok [] _ (LtL.nil _) v1662 el1660 ((h1663.ext he1673).sub (fun _ h => by cases h)) b121 r117 (hB1625.ext he1673) r1675 hr1676) ?_)
              rintro _ wd1677 ⟨he1678, rfl⟩
              have e1679 := he1673.trans he1678
              have e1680 := e1674.trans he1678
              have hq := bind_elim h
              clear h
              obtain ⟨r1681, hr1682, h⟩ := hq
              refine T0_e rfl (eff_call Try.func40 nm40 rfl (ev2 rfl rfl) (levitate_unless_ok [] _ (LtL.nil _) r1675 2 r1681 hr1682) ?_)
              rintro _ wd1683 ⟨he1684, rfl⟩
              have e1685 := e1679.trans he1684
              have e1686 := e1680.trans he1684
              refine T0_e rfl (eff_buildTC (xs := ([r1670, r1681] : List Int)) (cells := [(.int .i64 r1670), (.int .i64 r1681)]) Try.underlying108 ei30 rfl (pc_cons rfl rfl (pc_cons rfl rfl pc_nil)) rfl (Elems.cons (cs := [(.int .i64 r1670)]) rfl (Elems.cons (cs := [(.int .i64 r1681)]) rfl Elems.nil)) rfl (ltl_box (hL.chg e1686) (hB1627.ext e1685)) ?_)
              intro b1690 wd1687 he1688 h1689
              have e1691 := e1685.trans he1688
              have e1692 := e1686.trans he1688
              have hq := bind_elim h
              clear h
              obtain ⟨r1694, hr1695, h⟩ := hq
              refine T0_e rfl (eff_call Try.func39 nm39 rfl (ev1 rfl) (levitate_first_ok [] _ (LtL.nil _) (.slice (some ⟨b1690, 0, none⟩) 2 2) ([r1670, r1681] : List Int) (h1689.sub (fun _ h => by cases h)) r1694 hr1695) ?_)
              rintro _ wd1696 ⟨he1697, rfl⟩
              have e1698 := e1691.trans he1697
              have e1699 := e1692.trans he1697
              refine T0_q (v := (.int .i64 r1694)) rfl (yl_assign rfl) ?_
              refine T0_nil ?_
              refine hK1669 _ _ ?_
              refine WC_seqK fun K1700 hK1700 => ?_
              refine WC_region ?_
              refine T0_q (v := (.int .i64 r1694)) rfl (yl_move rfl) ?_
              refine T0_q (v := (.bool (!decide (r1694 = 0)))) rfl (yl_neq rfl rfl) ?_
              refine T0_nil ?_
              refine hK1700 _ _ ?_
              refine WC_cond (b := (!decide (r1694 = 0))) rfl (fun hb1701 => ?_) (fun hb1701 => ?_)
              · clear hK1652 hK1656 hK1658 hK1659 hK1669 hK1700
                replace h := cond_t hb1701 h
                refine WC_seqK fun K1702 hK1702 => ?_
                refine WC_region ?_
                refine T0_q (v := (.int .i64 x1317)) rfl (yl_move hs1614) ?_
                refine T0_q (v := (.int .i64 x1622)) rfl (yl_move rfl) ?_
                refine T0_q (v := (.agg (List.toArray [(.int .i64 x1317), (.int .i64 x1622)]))) rfl (yl_buildC (cells := [(.int .i64 x1317), (.int .i64 x1622)]) bi29 (pc_cons rfl rfl (pc_cons rfl rfl pc_nil)) rfl) ?_
                refine T0_q (v := (.int .i64 r1694)) rfl (yl_move rfl) ?_
                refine T0_e rfl (eff_storeC (vs := [(.int .i64 x1317), (.int .i64 x1622)]) (cs' := [(.int .i64 x1317), (.int .i64 x1622)]) sz29 rfl rfl hs1612 rfl (hB1627.ext e1698) rfl (oc_cons rfl (oc_cons rfl oc_nil)) rfl ?_)
                intro wd1703 hc1704 hB1705
                have h1706 := (h1615.ext e1698).step (Stepp.chg_mem hc1704 mem0)
                have h1707 := (h1619.ext e1698).step (Stepp.chg_mem hc1704 mem0)
                have h1708 := (hB1625.ext e1698).chg hc1704 (avoidb hn125.symm)
                have h1709 := (h1628.ext e1698).step (Stepp.chg_mem hc1704 mem0)
                have h1710 := (hB1630.ext e1698).chg hc1704 (avoidb hn21)
                have h1711 := (h1663.ext e1698).step (Stepp.chg_mem hc1704 mem0)
                have h1712 := (h1689.ext he1697).step (Stepp.chg_mem hc1704 mem0)
                have e1713 := chg_box e1699 hc1704 hbf22
                refine T0_q (v := (.int .i64 r1694)) rfl (yl_assign rfl) ?_
                refine T0_nil ?_
                refine hK1702 _ _ ?_
                refine WC_ret ?_
                replace h := some_out h
                subst h
                have ho := hx1651 _ rfl
                subst ho
                replace h := jn0_inl hn1649
                replace h := some_out h
                subst h
                have ho := hx1335 _ rfl
                subst ho
                replace h := jn0_inl hn1333
                replace h := some_out h
                subst h
                exact ⟨[(.agg (List.toArray [(.int .i64 x1317), (.int .i64 x1622)])), (.int .i64 r1694)], ⟨⟨_, hs1612, run_loadVarA (cs := [(.int .i64 x1317), (.int .i64 x1622)]) ag29 (Box.at hB1705)⟩, rfl, trivial⟩, e1713, [(.int .i64 x1317), (.int .i64 x1622)], rfl, rfl⟩
              · clear hK1656 hK1659 hK1669 hK1700
                replace h := cond_f hb1701 h
                refine WC_skip ?_
                refine hK1658 _ _ ?_
                refine WC_region ?_
                refine T0_q (v := (.int .i64 (w64 (x1622 + 1)))) rfl (yl_add hs1623 rfl) ?_
                refine T0_q (v := (.int .i64 (w64 (x1622 + 1)))) rfl (yl_move rfl) ?_
                refine T0_nil ?_
                replace h := some_out h
                subst h
                refine hK1652 _ _ _ rfl ?_
                exact ⟨w64 (x1622 + 1), rfl, hs1611, hs1612, hs1613, hs1614, hs1616, hs1617, hs1618, hs1620, hs1621, rfl, (h1615.ext e1698), (h1619.ext e1698), (h1628.ext e1698), (hB1625.ext e1698), (hB1627.ext e1698), (hB1630.ext e1698), e1699⟩
            · clear hK1652 hK1655 hK1656
              replace h := cond_f hb1657 h
              refine WC_exit ?_
              replace h := some_out h
              subst h
              have ho := hx1651 _ rfl
              subst ho
              refine hK1653 _ _ ?_
              exact ⟨rfl, hs1611, hs1612, hs1613, hs1616, hs1617, hs1618, h1615, h1628, hB1625, hB1627, hB1630, e1610⟩
          · clear hK1353 hK1366
            rintro ρ wd1631 ⟨rfl, hs1633, hs1634, hs1635, hs1637, hs1638, hs1639, h1636, h1644, hB1641, hB1643, hB1646, e1632⟩
            replace h := jn0_inr hn1649
            refine hK1342 _ _ ?_
            refine WC_region ?_
            refine T0_q (v := (.int .i64 (w64 (x1317 + 1)))) rfl (yl_add hs1639 rfl) ?_
            refine T0_q (v := (.int .i64 (w64 (x1317 + 1)))) rfl (yl_move rfl) ?_
            refine T0_nil ?_
            replace h := some_out h
            subst h
            refine hK1336 _ _ _ rfl ?_
            exact ⟨w64 (x1317 + 1), rfl, hs1633, hs1634, hs1635, hs1637, hs1638, rfl, h1636, h1644, hB1641, hB1643, hB1646, e1632⟩
      · clear hK1336 hK1339 hK1340
        replace h := cond_f hb1341 h
        refine WC_exit ?_
        replace h := some_out h
        subst h
        have ho := hx1335 _ rfl
        subst ho
        refine hK1337 _ _ ?_
        exact ⟨rfl, hs1312, hB1322, e1310⟩
    · clear hK104 hK116 hK133
      rintro ρ wd1326 ⟨rfl, hs1328, hB1330, e1327⟩
      replace h := jn0_inr hn1333
      refine hK132 _ _ ?_
      refine WC_seqK fun K1714 hK1714 => ?_
      refine WC_region ?_
      refine T0_q (v := (.agg (List.toArray [(.int .i64 0), (.int .i64 0)]))) rfl (yl_buildC (cells := [(.int .i64 0), (.int .i64 0)]) bi29 pc_nil rfl) ?_
      refine T0_e rfl (eff_storeC (vs := [(.int .i64 0), (.int .i64 0)]) (cs' := [(.int .i64 0), (.int .i64 0)]) sz29 rfl rfl hs1328 rfl hB1330 rfl (oc_cons rfl (oc_cons rfl oc_nil)) rfl ?_)
      intro wd1715 hc1716 hB1717
      have e1718 := chg_box e1327 hc1716 hbf22
      refine T0_q (v := (.int .i64 0)) rfl (yl_assign rfl) ?_
      refine T0_nil ?_
      refine hK1714 _ _ ?_
      refine WC_ret ?_
      replace h := some_out h
      subst h
      exact ⟨[(.agg (List.toArray [(.int .i64 0), (.int .i64 0)])), (.int .i64 0)], ⟨⟨_, hs1328, run_loadVarA (cs := [(.int .i64 0), (.int .i64 0)]) ag29 (Box.at hB1717)⟩, rfl, trivial⟩, e1718, [(.int .i64 0), (.int .i64 0)], rfl, rfl⟩

noncomputable def levitate_open_spec (p_p : LevitatePlant) : Option (levitate_plant × Int) :=
  (Option.bind (levitate_CheckPlant_spec p_p) fun r28 =>
  some ((levitate_plant.mk p_p), r28.2)
  )
theorem levitate_open_ok (L : List Value) (w : World) (hL : LtL L w) (cs_p_p : List Value) (p_p : LevitatePlant) (h_p_p : Rep.rd L w cs_p_p p_p) (r : levitate_plant × Int) (h : levitate_open_spec p_p = some r) :
    CallsTo Try.prog 74 [(.agg cs_p_p.toArray)] w (fun v w' => Ext w w' ∧ ∃ (cs0 : List Value), (.tuple #[(.agg cs0.toArray), (.int .i64 r.2)]) = v ∧ Rep.rd L w' cs0 r.1) := by
  have e0 : Ext w w := Chg.refl _ _
  obtain ⟨v1, v3, h2, h4, rfl⟩ := h_p_p
  refine callsTo_of_WC (n := 14) (rs := [.cell 2 89, .tmp 3]) Try.func74 rfl rfl rfl rfl rfl ?_
  refine WC_seqK fun K7 hK7 => ?_
  refine WC_region ?_
  refine T0_e rfl (eff_boxC (cs := [(.int .i64 p_p.Den), v1, v3]) rfl rfl ?_)
  intro b8 wd9 hb10 he11 hB12
  have hbf13 := bfresh e0 hb10
  have e14 := e0.trans he11
  refine T0_e rfl (eff_allocZ zi89 ?_)
  intro b16 wd17 hb18 he19 hB20
  have hn21 : b16 ≠ b8 := box_ne hB12 hb18
  have hbf22 := bfresh e14 hb18
  have h23 := (h2.ext he11).step (add_box he19 hb18)
  have h24 := (h4.ext he11).step (add_box he19 hb18)
  have e25 := e14.trans he19
  refine T0_q (v := (.int .i64 0)) rfl (yl_assign rfl) ?_
  refine T0_nil ?_
  refine hK7 _ _ ?_
  refine WC_seqK fun K27 hK27 => ?_
  refine WC_region ?_
  refine T0_q (v := (.agg (List.toArray [(.int .i64 p_p.Den), v1, v3]))) rfl (yl_loadA (cs := [(.int .i64 p_p.Den), v1, v3]) ag25 rfl (Box.at (hB12.ext he19))) ?_
  have hq := bind_elim h
  clear h
  obtain ⟨r28, hr29, h⟩ := hq
  refine T0_e rfl (eff_call Try.func9 nm9 rfl (ev1 rfl) (levitate_CheckPlant_ok [] _ (LtL.nil _) [(.int .i64 p_p.Den), v1, v3] p_p ⟨v1, v3, (h23.sub (fun _ h => by cases h)), (h24.sub (fun _ h => by cases h)), rfl⟩ r28 hr29) ?_)
  rintro _ wd30 ⟨he31, cs32, rfl, hrd33⟩
  have e34 := he19.trans he31
  have e35 := e25.trans he31
  have hrd33 : cs32 = [(.int .i64 r28.1.Map), (.int .i64 r28.1.Row)] := hrd33
  subst hrd33
  refine T0_q (v := (.tuple #[(.agg (List.toArray [(.int .i64 r28.1.Map), (.int .i64 r28.1.Row)])), (.int .i64 r28.2)])) rfl (yl_move rfl) ?_
  refine T0_q (v := (.agg (List.toArray [(.int .i64 r28.1.Map), (.int .i64 r28.1.Row)]))) rfl (yl_extract rfl rfl) ?_
  refine T0_q (v := (.int .i64 r28.2)) rfl (yl_extract rfl rfl) ?_
  refine T0_e rfl (eff_allocZ zi29 ?_)
  intro b36 wd37 hb38 he39 hB40
  have hn41 : b36 ≠ b8 := box_ne (hB12.ext e34) hb38
  have hn42 : b36 ≠ b16 := box_ne (hB20.ext he31) hb38
  have hbf43 := bfresh e35 hb38
  have h44 := (h23.ext he31).step (add_box he39 hb38)
  have h45 := (h24.ext he31).step (add_box he39 hb38)
  have e46 := he31.trans he39
  have e47 := e34.trans he39
  have e48 := e35.trans he39
  refine T0_e rfl (eff_storeC (vs := [(.int .i64 r28.1.Map), (.int .i64 r28.1.Row)]) (cs' := [(.int .i64 r28.1.Map), (.int .i64 r28.1.Row)]) sz29 rfl rfl rfl rfl hB40 rfl (oc_cons rfl (oc_cons rfl oc_nil)) rfl ?_)
  intro wd50 hc51 hB52
  have h53 := h44.step (Stepp.chg_mem hc51 mem0)
  have h54 := h45.step (Stepp.chg_mem hc51 mem0)
  have h55 := (hB12.ext e47).chg hc51 (avoidb hn41)
  have h56 := (hB20.ext e46).chg hc51 (avoidb hn42)
  have e57 := chg_box e48 hc51 hbf43
  refine T0_q (v := (.int .i64 r28.2)) rfl (yl_assign rfl) ?_
  refine T0_nil ?_
  refine hK27 _ _ ?_
  refine WC_seqK fun K58 hK58 => ?_
  refine WC_region ?_
  refine T0_q (v := (.agg (List.toArray [(.int .i64 p_p.Den), v1, v3]))) rfl (yl_loadA (cs := [(.int .i64 p_p.Den), v1, v3]) ag25 rfl (Box.at h55)) ?_
  refine T0_q (v := (.agg (List.toArray [(.int .i64 p_p.Den), v1, v3]))) rfl (yl_buildC (cells := [(.int .i64 p_p.Den), v1, v3]) bi89 (pc_cons rfl rfl pc_nil) rfl) ?_
  refine T0_q (v := (.int .i64 r28.2)) rfl (yl_move rfl) ?_
  refine T0_e rfl (eff_storeC (vs := [(.int .i64 p_p.Den), v1, v3]) (cs' := [(.int .i64 p_p.Den), v1, v3]) sz89 rfl rfl rfl rfl h56 rfl (oc_cons rfl (oc_cons h53.one1 (oc_cons h54.one1 oc_nil))) rfl ?_)
  intro wd59 hc60 hB61
  have h62 := h53.step (Stepp.chg_mem hc60 (memS mem0))
  have h63 := h54.step (Stepp.chg_mem hc60 (memS mem0))
  have h64 := h55.chg hc60 (avoidb hn21)
  have h65 := hB52.chg hc60 (avoidb hn42.symm)
  have e66 := chg_box e57 hc60 hbf22
  refine T0_q (v := (.int .i64 r28.2)) rfl (yl_assign rfl) ?_
  refine T0_nil ?_
  refine hK58 _ _ ?_
  refine WC_ret ?_
  replace h := some_out h
  subst h
  exact ⟨[(.agg (List.toArray [(.int .i64 p_p.Den), v1, v3])), (.int .i64 r28.2)], ⟨⟨_, rfl, run_loadVarA (cs := [(.int .i64 p_p.Den), v1, v3]) ag89 (Box.at hB61)⟩, rfl, trivial⟩, e66, [(.int .i64 p_p.Den), v1, v3], rfl, ⟨v1, v3, (h62.sub (sub_skip (sub_skip (sub_refl _)))), (h63.sub (sub_skip (sub_skip (sub_refl _)))), rfl⟩⟩

noncomputable def levitate_openForm_spec (p_p : LevitatePlant) (p_form : (List (List Int))) : Option (levitate_plant × Int) :=
  (Option.bind (levitate_open_spec p_p) fun r30 =>
  (Option.bind (levitate_formErr_spec p_form) fun r76 =>
  (Option.bind (levitate_unless_spec (decide ((p_form.length : Int) = (p_p.Noise.length : Int))) 13) fun r82 =>
  (Option.bind (levitate_first_spec ([r30.2, r76, r82] : List Int)) fun r95 =>
  some ((levitate_plant.mk (LevitatePlant.mk r30.1.LevitatePlant.Den r30.1.LevitatePlant.Maps r30.1.LevitatePlant.Noise)), r95)
  )
  )
  )
  )
theorem levitate_openForm_ok (L : List Value) (w : World) (hL : LtL L w) (cs_p_p : List Value) (p_p : LevitatePlant) (h_p_p : Rep.rd L w cs_p_p p_p) (v_p_form : Value) (p_form : (List (List Int))) (h_p_form : SlRd L w v_p_form p_form) (r : levitate_plant × Int) (h : levitate_openForm_spec p_p p_form = some r) :
    CallsTo Try.prog 76 [(.agg cs_p_p.toArray), v_p_form] w (fun v w' => Ext w w' ∧ ∃ (cs0 : List Value), (.tuple #[(.agg cs0.toArray), (.int .i64 r.2)]) = v ∧ Rep.rd L w' cs0 r.1) := by
  have e0 : Ext w w := Chg.refl _ _
  obtain ⟨v1, v3, h2, h4, rfl⟩ := h_p_p
  refine callsTo_of_WC (n := 26) (rs := [.cell 4 89, .tmp 5]) Try.func76 rfl rfl rfl rfl rfl ?_
  refine WC_seqK fun K8 hK8 => ?_
  refine WC_region ?_
  refine T0_e rfl (eff_boxC (cs := [(.int .i64 p_p.Den), v1, v3]) rfl rfl ?_)
  intro b9 wd10 hb11 he12 hB13
  have hbf14 := bfresh e0 hb11
  have e15 := e0.trans he12
  refine T0_e rfl (eff_allocZ zi89 ?_)
  intro b17 wd18 hb19 he20 hB21
  have hn22 : b17 ≠ b9 := box_ne hB13 hb19
  have hbf23 := bfresh e15 hb19
  have h24 := (h2.ext he12).step (add_box he20 hb19)
  have h25 := (h4.ext he12).step (add_box he20 hb19)
  have h26 := (h_p_form.ext he12).step (add_box he20 hb19)
  have e27 := e15.trans he20
  refine T0_q (v := (.int .i64 0)) rfl (yl_assign rfl) ?_
  refine T0_nil ?_
  refine hK8 _ _ ?_
  refine WC_seqK fun K29 hK29 => ?_
  refine WC_region ?_
  refine T0_q (v := (.agg (List.toArray [(.int .i64 p_p.Den), v1, v3]))) rfl (yl_loadA (cs := [(.int .i64 p_p.Den), v1, v3]) ag25 rfl (Box.at (hB13.ext he20))) ?_
  have hq := bind_elim h
  clear h
  obtain ⟨r30, hr31, h⟩ := hq
  refine T0_e rfl (eff_call Try.func74 nm74 rfl (ev1 rfl) (levitate_open_ok ((.pointer (some ⟨b17, 0, none⟩)) :: L) _ (ltl_box (hL.chg e27) hB21) [(.int .i64 p_p.Den), v1, v3] p_p ⟨v1, v3, h24, h25, rfl⟩ r30 hr31) ?_)
  rintro _ wd32 ⟨he33, cs38, rfl, hrd39⟩
  have e40 := he20.trans he33
  have e41 := e27.trans he33
  obtain ⟨v34, v36, h35, h37, rfl⟩ := hrd39
  refine T0_q (v := (.tuple #[(.agg (List.toArray [(.int .i64 r30.1.LevitatePlant.Den), v34, v36])), (.int .i64 r30.2)])) rfl (yl_move rfl) ?_
  refine T0_q (v := (.agg (List.toArray [(.int .i64 r30.1.LevitatePlant.Den), v34, v36]))) rfl (yl_extract rfl rfl) ?_
  refine T0_q (v := (.int .i64 r30.2)) rfl (yl_extract rfl rfl) ?_
  refine T0_e rfl (eff_allocZ zi89 ?_)
  intro b44 wd45 hb46 he47 hB48
  have hn49 : b44 ≠ b9 := box_ne (hB13.ext e40) hb46
  have hn50 : b44 ≠ b17 := box_ne (hB21.ext he33) hb46
  have hbf51 := bfresh e41 hb46
  have h52 := (h24.ext he33).step (add_box he47 hb46)
  have h53 := (h25.ext he33).step (add_box he47 hb46)
  have h54 := (h26.ext he33).step (add_box he47 hb46)
  have h55 := h35.step (add_box he47 hb46)
  have h56 := h37.step (add_box he47 hb46)
  have e57 := e40.trans he47
  have e58 := he33.trans he47
  have e59 := e41.trans he47
  refine T0_e rfl (eff_storeC (vs := [(.int .i64 r30.1.LevitatePlant.Den), v34, v36]) (cs' := [(.int .i64 r30.1.LevitatePlant.Den), v34, v36]) sz89 rfl rfl rfl rfl hB48 rfl (oc_cons rfl (oc_cons h55.one1 (oc_cons h56.one1 oc_nil))) rfl ?_)
  intro wd61 hc62 hB63
  have h64 := h52.step (Stepp.chg_mem hc62 mem0)
  have h65 := h53.step (Stepp.chg_mem hc62 mem0)
  have h66 := h54.step (Stepp.chg_mem hc62 mem0)
  have h67 := (hB13.ext e57).chg hc62 (avoidb hn49)
  have h68 := (hB21.ext e58).chg hc62 (avoidb hn50)
  have h69 := h55.step (Stepp.chg_mem hc62 mem0)
  have h70 := h56.step (Stepp.chg_mem hc62 mem0)
  have e71 := chg_box e59 hc62 hbf51
  refine T0_q (v := (.int .i64 r30.2)) rfl (yl_assign rfl) ?_
  refine T0_nil ?_
  refine hK29 _ _ ?_
  refine WC_seqK fun K72 hK72 => ?_
  refine WC_planX mixed (.p 1 (.p 2 (.p 4 (.p 5 (.p 6 (.q 0 (.q 7 (.p 8 (.p 9 (.e 3 (.e 10 (.e 11 (.e 12 (.b 13 (.p 14 .done))))))))))))))) (by kernel_rfl) ?_
  intro wd73 he74
  have e75 := e71.trans he74
  refine TX_p (v := (.int .i64 r30.2)) rfl rfl (fun w' => (yl_move rfl)) ?_
  refine TX_p (v := v_p_form) rfl rfl (fun w' => (yl_move rfl)) ?_
  refine TX_p (v := v_p_form) rfl rfl (fun w' => (yl_move rfl)) ?_
  refine TX_p (v := (.int .i64 (p_form.length : Int))) rfl rfl (fun w' => (yl_lenR rfl Try.underlying47 h66 rfl)) ?_
  refine TX_p (v := (.pointer (some ⟨b9, 2, none⟩))) rfl rfl (fun w' => (yl_fa 2 Try.underlying25 rfl rfl ⟨0, sz23⟩ rfl rfl)) ?_
  refine TX_q (v := (.agg (List.toArray [(.int .i64 r30.1.LevitatePlant.Den), v34, v36]))) rfl rfl (fun w' hS => (yl_loadA (cs := [(.int .i64 r30.1.LevitatePlant.Den), v34, v36]) ag89 rfl (Box.at (hB63.ext (he74.trans hS))))) ?_
  refine TX_q (v := v3) rfl rfl (fun w' hS => (yl_load sc23 rfl (At.drop (Box.at (h67.ext (he74.trans hS))) 2))) ?_
  refine TX_p (v := (.int .i64 (p_p.Noise.length : Int))) rfl rfl (fun w' => (yl_lenR rfl Try.underlying23 h65 rfl)) ?_
  refine TX_p (v := (.bool (decide ((p_form.length : Int) = (p_p.Noise.length : Int))))) rfl rfl (fun w' => (yl_eql rfl rfl)) ?_
  have hq := bind_elim h
  clear h
  obtain ⟨r76, hr77, h⟩ := hq
  refine TX_e rfl rfl (eff_call Try.func104 nm104 rfl (ev1 rfl) (levitate_formErr_ok [] _ (LtL.nil _) v_p_form p_form ((h66.ext he74).sub (fun _ h => by cases h)) r76 hr77) ?_)
  rintro _ wd78 ⟨he79, rfl⟩
  have e80 := he74.trans he79
  have e81 := e75.trans he79
  refine ⟨he79, ?_⟩
  have hq := bind_elim h
  clear h
  obtain ⟨r82, hr83, h⟩ := hq
  refine TX_e rfl rfl (eff_call Try.func40 nm40 rfl (ev2 rfl rfl) (levitate_unless_ok [] _ (LtL.nil _) (decide ((p_form.length : Int) = (p_p.Noise.length : Int))) 13 r82 hr83) ?_)
  rintro _ wd84 ⟨he85, rfl⟩
  have e86 := e80.trans he85
  have e87 := e81.trans he85
  refine ⟨he85, ?_⟩
  refine TX_e rfl rfl (eff_buildTC (xs := ([r30.2, r76, r82] : List Int)) (cells := [(.int .i64 r30.2), (.int .i64 r76), (.int .i64 r82)]) Try.underlying108 ei30 rfl (pc_cons rfl rfl (pc_cons rfl rfl (pc_cons rfl rfl pc_nil))) rfl (Elems.cons (cs := [(.int .i64 r30.2)]) rfl (Elems.cons (cs := [(.int .i64 r76)]) rfl (Elems.cons (cs := [(.int .i64 r82)]) rfl Elems.nil))) rfl (ltl_box (ltl_box (hL.chg e87) (h68.ext e86)) (hB63.ext e86)) ?_)
  intro b91 wd88 he89 h90
  have e92 := e86.trans he89
  have e93 := e87.trans he89
  refine ⟨he89, ?_⟩
  have hq := bind_elim h
  clear h
  obtain ⟨r95, hr96, h⟩ := hq
  refine TX_e rfl rfl (eff_call Try.func39 nm39 rfl (ev1 rfl) (levitate_first_ok [] _ (LtL.nil _) (.slice (some ⟨b91, 0, none⟩) 3 3) ([r30.2, r76, r82] : List Int) (h90.sub (fun _ h => by cases h)) r95 hr96) ?_)
  rintro _ wd97 ⟨he98, rfl⟩
  have e99 := e92.trans he98
  have e100 := e93.trans he98
  refine ⟨he98, ?_⟩
  refine TX_b rfl rfl (eff_storeC (vs := [(.int .i64 r30.1.LevitatePlant.Den), v34, v36]) (cs' := [(.int .i64 r30.1.LevitatePlant.Den), v34, v36]) sz89 rfl rfl rfl rfl (h68.ext e99) rfl (oc_cons rfl (oc_cons h69.one1 (oc_cons h70.one1 oc_nil))) rfl ?_)
  intro wd101 hc102 hB103
  have h104 := (h64.ext e99).step (Stepp.chg_mem hc102 (memS mem0))
  have h105 := (h65.ext e99).step (Stepp.chg_mem hc102 (memS mem0))
  have h106 := (h66.ext e99).step (Stepp.chg_mem hc102 (memS mem0))
  have h107 := (h67.ext e99).chg hc102 (avoidb hn22)
  have h108 := (h69.ext e99).step (Stepp.chg_mem hc102 (memS mem0))
  have h109 := (h70.ext e99).step (Stepp.chg_mem hc102 (memS mem0))
  have h110 := (hB63.ext e99).chg hc102 (avoidb hn50.symm)
  have h111 := (h90.ext he98).step (Stepp.chg_mem hc102 (memS mem0))
  have e112 := chg_box e100 hc102 hbf23
  refine TX_p (v := (.int .i64 r95)) rfl rfl (fun w' => (yl_assign rfl)) ?_
  refine TX_done ?_
  refine hK72 _ _ ?_
  refine WC_ret ?_
  replace h := some_out h
  subst h
  exact ⟨[(.agg (List.toArray [(.int .i64 r30.1.LevitatePlant.Den), v34, v36])), (.int .i64 r95)], ⟨⟨_, rfl, run_loadVarA (cs := [(.int .i64 r30.1.LevitatePlant.Den), v34, v36]) ag89 (Box.at hB103)⟩, rfl, trivial⟩, e112, [(.int .i64 r30.1.LevitatePlant.Den), v34, v36], rfl, ⟨v34, v36, (h108.sub (sub_skip (sub_skip (sub_refl _)))), (h109.sub (sub_skip (sub_skip (sub_refl _)))), rfl⟩⟩

noncomputable def levitate_plant_stateErr_spec (p_p : levitate_plant) (p_x : (List Int)) : Option Int :=
  (Option.bind (levitate_unless_spec (decide ((p_x.length : Int) = (p_p.LevitatePlant.Noise.length : Int))) 10) fun r18 =>
  (Option.bind (levitate_allSmall_spec 100000) fun r24 =>
  (Option.bind (levitate_allSmall_1_spec p_x r24) fun r37 =>
  (Option.bind (levitate_unless_spec r37 2) fun r44 =>
  (Option.bind (levitate_first_spec ([r18, r44] : List Int)) fun r61 =>
  some r61
  )
  )
  )
  )
  )
theorem levitate_plant_stateErr_ok (L : List Value) (w : World) (hL : LtL L w) (cs_p_p : List Value) (p_p : levitate_plant) (h_p_p : Rep.rd L w cs_p_p p_p) (v_p_x : Value) (p_x : (List Int)) (h_p_x : SlRd L w v_p_x p_x) (r : Int) (h : levitate_plant_stateErr_spec p_p p_x = some r) :
    CallsTo Try.prog 103 [(.agg cs_p_p.toArray), v_p_x] w (fun v w' => Ext w w' ∧ (.int .i64 r) = v) := by
  have e0 : Ext w w := Chg.refl _ _
  obtain ⟨v1, v3, h2, h4, rfl⟩ := h_p_p
  refine callsTo_of_WC (n := 19) (rs := [.tmp 4]) Try.func103 rfl rfl rfl rfl rfl ?_
  refine WC_seqK fun K8 hK8 => ?_
  refine WC_region ?_
  refine T0_e rfl (eff_boxC (cs := [(.int .i64 p_p.LevitatePlant.Den), v1, v3]) rfl rfl ?_)
  intro b9 wd10 hb11 he12 hB13
  have hbf14 := bfresh e0 hb11
  have e15 := e0.trans he12
  refine T0_q (v := (.int .i64 0)) rfl (yl_assign rfl) ?_
  refine T0_nil ?_
  refine hK8 _ _ ?_
  refine WC_seqK fun K17 hK17 => ?_
  refine WC_region ?_
  refine T0_q (v := v_p_x) rfl (yl_move rfl) ?_
  refine T0_q (v := (.int .i64 (p_x.length : Int))) rfl (yl_lenR rfl Try.underlying23 h_p_x rfl) ?_
  refine T0_q (v := (.pointer (some ⟨b9, 0, none⟩))) rfl (yl_fa 0 Try.underlying89 rfl rfl ⟨2, sz25⟩ rfl rfl) ?_
  refine T0_q (v := (.pointer (some ⟨b9, 2, none⟩))) rfl (yl_fa 2 Try.underlying25 rfl rfl ⟨0, sz23⟩ rfl rfl) ?_
  refine T0_q (v := v3) rfl (yl_load sc23 rfl (At.drop (Box.at hB13) 2)) ?_
  refine T0_q (v := (.int .i64 (p_p.LevitatePlant.Noise.length : Int))) rfl (yl_lenR rfl Try.underlying23 h4 rfl) ?_
  refine T0_q (v := (.bool (decide ((p_x.length : Int) = (p_p.LevitatePlant.Noise.length : Int))))) rfl (yl_eql rfl rfl) ?_
  have hq := bind_elim h
  clear h
  obtain ⟨r18, hr19, h⟩ := hq
  refine T0_e rfl (eff_call Try.func40 nm40 rfl (ev2 rfl rfl) (levitate_unless_ok [] _ (LtL.nil _) (decide ((p_x.length : Int) = (p_p.LevitatePlant.Noise.length : Int))) 10 r18 hr19) ?_)
  rintro _ wd20 ⟨he21, rfl⟩
  have e22 := he12.trans he21
  have e23 := e15.trans he21
  have hq := bind_elim h
  clear h
  obtain ⟨r24, hr25, h⟩ := hq
  refine T0_e rfl (eff_call Try.func41 nm41 rfl (ev1 rfl) (levitate_allSmall_ok [] _ (LtL.nil _) 100000 r24 hr25) ?_)
  rintro _ wd26 ⟨he27, b28, rfl, h29, h30⟩
  have hn31 : b28 ≠ b9 := fun e => by have := (hB13.ext he21).lt; omega
  have hbf32 : w.heap.size ≤ b28 := Nat.le_trans e23.size h30
  have e33 := e22.trans he27
  have e34 := he21.trans he27
  have e35 := e23.trans he27
  refine T0_q (v := v_p_x) rfl (yl_move rfl) ?_
  have hq := bind_elim h
  clear h
  obtain ⟨r37, hr38, h⟩ := hq
  refine T0_e rfl (eff_callC rfl Try.func69 nm69 rfl (ev1 rfl) rfl (levitate_allSmall_1_ok [] _ (LtL.nil _) v_p_x p_x ((h_p_x.ext e33).sub (fun _ h => by cases h)) b28 r24 h29 r37 hr38) ?_)
  rintro _ wd39 ⟨he40, rfl⟩
  have e41 := e33.trans he40
  have e42 := e34.trans he40
  have e43 := e35.trans he40
  have hq := bind_elim h
  clear h
  obtain ⟨r44, hr45, h⟩ := hq
  refine T0_e rfl (eff_call Try.func40 nm40 rfl (ev2 rfl rfl) (levitate_unless_ok [] _ (LtL.nil _) r37 2 r44 hr45) ?_)
  rintro _ wd46 ⟨he47, rfl⟩
  have e48 := e41.trans he47
  have e49 := e42.trans he47
  have e50 := he40.trans he47
  have e51 := e43.trans he47
  refine T0_e rfl (eff_buildTC (xs := ([r18, r44] : List Int)) (cells := [(.int .i64 r18), (.int .i64 r44)]) Try.underlying108 ei30 rfl (pc_cons rfl rfl (pc_cons rfl rfl pc_nil)) rfl (Elems.cons (cs := [(.int .i64 r18)]) rfl (Elems.cons (cs := [(.int .i64 r44)]) rfl Elems.nil)) rfl (hL.chg e51) ?_)
  intro b55 wd52 he53 h54
  have e56 := e48.trans he53
  have e57 := e49.trans he53
  have e58 := e50.trans he53
  have e59 := e51.trans he53
  have hq := bind_elim h
  clear h
  obtain ⟨r61, hr62, h⟩ := hq
  refine T0_e rfl (eff_call Try.func39 nm39 rfl (ev1 rfl) (levitate_first_ok [] _ (LtL.nil _) (.slice (some ⟨b55, 0, none⟩) 2 2) ([r18, r44] : List Int) (h54.sub (fun _ h => by cases h)) r61 hr62) ?_)
  rintro _ wd63 ⟨he64, rfl⟩
  have e65 := e56.trans he64
  have e66 := e57.trans he64
  have e67 := e58.trans he64
  have e68 := e59.trans he64
  refine T0_q (v := (.int .i64 r61)) rfl (yl_assign rfl) ?_
  refine T0_nil ?_
  refine hK17 _ _ ?_
  refine WC_ret ?_
  replace h := some_out h
  subst h
  exact ⟨[(.int .i64 r61)], ⟨rfl, trivial⟩, e68, rfl⟩

noncomputable def levitate_proves_s0 (p_form : (List (List Int))) (p_p : LevitatePlant) (p_rate : Arr2_Int) (r42 : (levitate_plant × Int)) : (Int) → Option ((Int) ⊕ ((levitate_plant × Int × Int) ⊕ (Unit))) := fun x322 =>
  (bif (decide (x322 < (p_p.Maps.length : Int))) then (
    (Option.bind (levitate_plant_lessens_spec (levitate_plant.mk (LevitatePlant.mk r42.1.LevitatePlant.Den r42.1.LevitatePlant.Maps r42.1.LevitatePlant.Noise)) x322 p_form p_rate) fun r356 =>
    (bif (!r356) then (
      some (.inr (.inl ((levitate_plant.mk (LevitatePlant.mk r42.1.LevitatePlant.Den r42.1.LevitatePlant.Maps r42.1.LevitatePlant.Noise)), x322, 24)))
    ) else (
      some (.inl (w64 (x322 + 1)))
    ))
    )
  ) else (
    some (.inr (.inr ()))
  ))
noncomputable def levitate_proves_spec (p_p : LevitatePlant) (p_form : (List (List Int))) (p_rate : Arr2_Int) : Option (levitate_plant × Int × Int) :=
  (Option.bind (levitate_openForm_spec p_p p_form) fun r42 =>
  (Option.bind (levitate_within_spec p_rate.e1 1 1000) fun r89 =>
  (Option.bind (bif r89 then levitate_within_spec p_rate.e0 0 p_rate.e1 else some default) fun r94 =>
  (Option.bind (levitate_unless_spec (r89 && r94) 2) fun r100 =>
  (Option.bind (levitate_first_spec ([r42.2, r100] : List Int)) fun r113 =>
  (Option.bind (α := (Int)) (
    (bif (decide (r113 = 0)) then (
      (Option.bind (levitate_positive_spec p_form) fun r163 =>
      (Option.bind (levitate_unless_spec r163 20) fun r170 =>
      some r170
      )
      )
    ) else (
      some r113
    ))
  ) fun (x144 : Int) =>
  (bif (!decide (x144 = 0)) then (
    some ((levitate_plant.mk (LevitatePlant.mk r42.1.LevitatePlant.Den r42.1.LevitatePlant.Maps r42.1.LevitatePlant.Noise)), 0, x144)
  ) else (
    (Option.bind (loop (levitate_proves_s0 p_form p_p p_rate r42) 0) fun o342 => jn0 o342 fun (_ : Unit) =>
    some ((levitate_plant.mk (LevitatePlant.mk r42.1.LevitatePlant.Den r42.1.LevitatePlant.Maps r42.1.LevitatePlant.Noise)), 0, 0)
    )
  ))
  )
  )
  )
  )
  )
  )
theorem levitate_proves_ok (L : List Value) (w : World) (hL : LtL L w) (cs_p_p : List Value) (p_p : LevitatePlant) (h_p_p : Rep.rd L w cs_p_p p_p) (v_p_form : Value) (p_form : (List (List Int))) (h_p_form : SlRd L w v_p_form p_form) (cs_p_rate : List Value) (p_rate : Arr2_Int) (h_p_rate : Rep.rd L w cs_p_rate p_rate) (r : levitate_plant × Int × Int) (h : levitate_proves_spec p_p p_form p_rate = some r) :
    CallsTo Try.prog 52 [(.agg cs_p_p.toArray), v_p_form, (.agg cs_p_rate.toArray)] w (fun v w' => Ext w w' ∧ ∃ (cs0 : List Value), (.tuple #[(.agg cs0.toArray), (.int .i64 r.2.1), (.int .i64 r.2.2)]) = v ∧ Rep.rd L w' cs0 r.1) := by
  have e0 : Ext w w := Chg.refl _ _
  obtain ⟨v1, v3, h2, h4, rfl⟩ := h_p_p
  have h_p_rate : cs_p_rate = [(.int .i64 p_rate.e0), (.int .i64 p_rate.e1)] := h_p_rate
  subst h_p_rate
  refine callsTo_of_WC (n := 57) (rs := [.cell 6 89, .tmp 7, .tmp 8]) Try.func52 rfl rfl rfl rfl rfl ?_
  refine WC_seqK fun K8 hK8 => ?_
  refine WC_region ?_
  refine T0_e rfl (eff_boxC (cs := [(.int .i64 p_p.Den), v1, v3]) rfl rfl ?_)
  intro b9 wd10 hb11 he12 hB13
  have hbf14 := bfresh e0 hb11
  have e15 := e0.trans he12
  refine T0_e rfl (eff_boxC (cs := [(.int .i64 p_rate.e0), (.int .i64 p_rate.e1)]) rfl rfl ?_)
  intro b17 wd18 hb19 he20 hB21
  have hn22 : b17 ≠ b9 := box_ne hB13 hb19
  have hbf23 := bfresh e15 hb19
  have e24 := he12.trans he20
  have e25 := e15.trans he20
  refine T0_e rfl (eff_allocZ zi89 ?_)
  intro b27 wd28 hb29 he30 hB31
  have hn32 : b27 ≠ b9 := box_ne (hB13.ext he20) hb29
  have hn33 : b27 ≠ b17 := box_ne hB21 hb29
  have hbf34 := bfresh e25 hb29
  have h35 := (h2.ext e24).step (add_box he30 hb29)
  have h36 := (h4.ext e24).step (add_box he30 hb29)
  have h37 := (h_p_form.ext e24).step (add_box he30 hb29)
  have e38 := he20.trans he30
  have e39 := e25.trans he30
  refine T0_q (v := (.int .i64 0)) rfl (yl_assign rfl) ?_
  refine T0_q (v := (.int .i64 0)) rfl (yl_assign rfl) ?_
  refine T0_nil ?_
  refine hK8 _ _ ?_
  refine WC_seqK fun K41 hK41 => ?_
  refine WC_region ?_
  refine T0_q (v := (.agg (List.toArray [(.int .i64 p_p.Den), v1, v3]))) rfl (yl_loadA (cs := [(.int .i64 p_p.Den), v1, v3]) ag25 rfl (Box.at (hB13.ext e38))) ?_
  refine T0_q (v := v_p_form) rfl (yl_move rfl) ?_
  have hq := bind_elim h
  clear h
  obtain ⟨r42, hr43, h⟩ := hq
  refine T0_e rfl (eff_call Try.func76 nm76 rfl (ev2 rfl rfl) (levitate_openForm_ok ((.pointer (some ⟨b27, 0, none⟩)) :: L) _ (ltl_box (hL.chg e39) hB31) [(.int .i64 p_p.Den), v1, v3] p_p ⟨v1, v3, h35, h36, rfl⟩ v_p_form p_form h37 r42 hr43) ?_)
  rintro _ wd44 ⟨he45, cs50, rfl, hrd51⟩
  have e52 := e38.trans he45
  have e53 := he30.trans he45
  have e54 := e39.trans he45
  obtain ⟨v46, v48, h47, h49, rfl⟩ := hrd51
  refine T0_q (v := (.tuple #[(.agg (List.toArray [(.int .i64 r42.1.LevitatePlant.Den), v46, v48])), (.int .i64 r42.2)])) rfl (yl_move rfl) ?_
  refine T0_q (v := (.agg (List.toArray [(.int .i64 r42.1.LevitatePlant.Den), v46, v48]))) rfl (yl_extract rfl rfl) ?_
  refine T0_q (v := (.int .i64 r42.2)) rfl (yl_extract rfl rfl) ?_
  refine T0_e rfl (eff_allocZ zi89 ?_)
  intro b57 wd58 hb59 he60 hB61
  have hn62 : b57 ≠ b9 := box_ne (hB13.ext e52) hb59
  have hn63 : b57 ≠ b17 := box_ne (hB21.ext e53) hb59
  have hn64 : b57 ≠ b27 := box_ne (hB31.ext he45) hb59
  have hbf65 := bfresh e54 hb59
  have h66 := (h35.ext he45).step (add_box he60 hb59)
  have h67 := (h36.ext he45).step (add_box he60 hb59)
  have h68 := (h37.ext he45).step (add_box he60 hb59)
  have h69 := h47.step (add_box he60 hb59)
  have h70 := h49.step (add_box he60 hb59)
  have e71 := e52.trans he60
  have e72 := e53.trans he60
  have e73 := he45.trans he60
  have e74 := e54.trans he60
  refine T0_e rfl (eff_storeC (vs := [(.int .i64 r42.1.LevitatePlant.Den), v46, v48]) (cs' := [(.int .i64 r42.1.LevitatePlant.Den), v46, v48]) sz89 rfl rfl rfl rfl hB61 rfl (oc_cons rfl (oc_cons h69.one1 (oc_cons h70.one1 oc_nil))) rfl ?_)
  intro wd76 hc77 hB78
  have h79 := h66.step (Stepp.chg_mem hc77 mem0)
  have h80 := h67.step (Stepp.chg_mem hc77 mem0)
  have h81 := h68.step (Stepp.chg_mem hc77 mem0)
  have h82 := (hB13.ext e71).chg hc77 (avoidb hn62)
  have h83 := (hB21.ext e72).chg hc77 (avoidb hn63)
  have h84 := (hB31.ext e73).chg hc77 (avoidb hn64)
  have h85 := h69.step (Stepp.chg_mem hc77 mem0)
  have h86 := h70.step (Stepp.chg_mem hc77 mem0)
  have e87 := chg_box e74 hc77 hbf65
  refine T0_q (v := (.int .i64 r42.2)) rfl (yl_assign rfl) ?_
  refine T0_nil ?_
  refine hK41 _ _ ?_
  refine WC_seqK fun K88 hK88 => ?_
  refine WC_region ?_
  refine T0_q (v := (.int .i64 r42.2)) rfl (yl_move rfl) ?_
  refine T0_q (v := (.pointer (some ⟨b17, 1, none⟩))) rfl (yl_ixC (i := 1) Try.underlying48 sz3 (by decide) (by decide) rfl rfl rfl) ?_
  refine T0_q (v := (.int .i64 p_rate.e1)) rfl (yl_load sc3 rfl (At.drop (Box.at h83) 1)) ?_
  have hq := bind_elim h
  clear h
  obtain ⟨r89, hr90, h⟩ := hq
  refine T0_e rfl (eff_call Try.func38 nm38 rfl (ev3 rfl rfl rfl) (levitate_within_ok [] _ (LtL.nil _) p_rate.e1 1 1000 r89 hr90) ?_)
  rintro _ wd91 ⟨he92, rfl⟩
  have e93 := e87.trans he92
  refine T0_q (v := (.bool r89)) rfl (yl_move rfl) ?_
  refine T0_g (v := (.pointer (some ⟨b17, 0, none⟩))) r89 (wanted_t rfl rfl rfl rfl) (fun hg => (yl_ixC (i := 0) Try.underlying48 sz3 (by decide) (by decide) rfl rfl rfl)) ?_
  refine T0_g (v := (.int .i64 p_rate.e0)) r89 (wanted_t rfl rfl rfl rfl) (fun hg => (yl_load sc3 (gd_true hg) (Box.at (h83.ext he92)))) ?_
  refine T0_g (v := (.pointer (some ⟨b17, 1, none⟩))) r89 (wanted_t rfl rfl rfl rfl) (fun hg => (yl_ixC (i := 1) Try.underlying48 sz3 (by decide) (by decide) rfl rfl rfl)) ?_
  refine T0_g (v := (.int .i64 p_rate.e1)) r89 (wanted_t rfl rfl rfl rfl) (fun hg => (yl_load sc3 (gd_true hg) (At.drop (Box.at (h83.ext he92)) 1))) ?_
  have hq := bind_elim h
  clear h
  obtain ⟨r94, hr95, h⟩ := hq
  refine T0_ges r89 (.bool r94) (wanted_t rfl rfl rfl rfl) (fun hg => eff_call Try.func38 nm38 rfl (ev3 (gd_true hg) rfl (gd_true hg)) (levitate_within_ok [] _ (LtL.nil _) p_rate.e0 0 p_rate.e1 r94 (cond_t hg hr95)) (by rintro _ wd96 ⟨he97, rfl⟩; exact ⟨rfl, he97⟩)) ?_
  intro wd96 he97
  have e98 := he92.trans he97
  have e99 := e93.trans he97
  refine T0_q (v := (.bool (r89 && r94))) rfl (yl_and rfl (fun hb => (gd_true hb)) rfl) ?_
  have hq := bind_elim h
  clear h
  obtain ⟨r100, hr101, h⟩ := hq
  refine T0_e rfl (eff_call Try.func40 nm40 rfl (ev2 rfl rfl) (levitate_unless_ok [] _ (LtL.nil _) (r89 && r94) 2 r100 hr101) ?_)
  rintro _ wd102 ⟨he103, rfl⟩
  have e104 := e98.trans he103
  have e105 := e99.trans he103
  refine T0_e rfl (eff_buildTC (xs := ([r42.2, r100] : List Int)) (cells := [(.int .i64 r42.2), (.int .i64 r100)]) Try.underlying108 ei30 rfl (pc_cons rfl rfl (pc_cons rfl rfl pc_nil)) rfl (Elems.cons (cs := [(.int .i64 r42.2)]) rfl (Elems.cons (cs := [(.int .i64 r100)]) rfl Elems.nil)) rfl (ltl_box (ltl_box (hL.chg e105) (h84.ext e104)) (hB78.ext e104)) ?_)
  intro b109 wd106 he107 h108
  have e110 := e104.trans he107
  have e111 := e105.trans he107
  have hq := bind_elim h
  clear h
  obtain ⟨r113, hr114, h⟩ := hq
  refine T0_e rfl (eff_call Try.func39 nm39 rfl (ev1 rfl) (levitate_first_ok [] _ (LtL.nil _) (.slice (some ⟨b109, 0, none⟩) 2 2) ([r42.2, r100] : List Int) (h108.sub (fun _ h => by cases h)) r113 hr114) ?_)
  rintro _ wd115 ⟨he116, rfl⟩
  have e117 := e110.trans he116
  have e118 := e111.trans he116
  refine T0_q (v := (.int .i64 r113)) rfl (yl_assign rfl) ?_
  refine T0_nil ?_
  refine hK88 _ _ ?_
  refine WC_seqK fun K119 hK119 => ?_
  refine WC_seqK fun K120 hK120 => ?_
  refine WC_region ?_
  refine T0_q (v := (.int .i64 r113)) rfl (yl_move rfl) ?_
  refine T0_q (v := (.bool (decide (r113 = 0)))) rfl (yl_eql rfl rfl) ?_
  refine T0_nil ?_
  refine hK120 _ _ ?_
  have hq := bind_elim h
  clear h
  obtain ⟨o158, ho159, hn160⟩ := hq
  refine WC_post (fun (ρ : Env) (wd136 : World) => ∃ (x144 : Int), x144 = o158 ∧ ρ 1 = v_p_form ∧ ρ 3 = (.pointer (some ⟨b9, 0, none⟩)) ∧ ρ 5 = (.pointer (some ⟨b17, 0, none⟩)) ∧ ρ 6 = (.pointer (some ⟨b27, 0, none⟩)) ∧ ρ 9 = (.pointer (some ⟨b57, 0, none⟩)) ∧ ρ 10 = (.int .i64 x144) ∧ SlRd ((.pointer (some ⟨b57, 0, none⟩)) :: (.pointer (some ⟨b27, 0, none⟩)) :: L) wd136 v_p_form p_form ∧ SlRd ((.pointer (some ⟨b57, 0, none⟩)) :: (.pointer (some ⟨b27, 0, none⟩)) :: L) wd136 v46 r42.1.LevitatePlant.Maps ∧ SlRd ((.pointer (some ⟨b57, 0, none⟩)) :: (.pointer (some ⟨b27, 0, none⟩)) :: L) wd136 v48 r42.1.LevitatePlant.Noise ∧ SlRd ((.pointer (some ⟨b57, 0, none⟩)) :: (.pointer (some ⟨b27, 0, none⟩)) :: L) wd136 v1 p_p.Maps ∧ SlRd ((.pointer (some ⟨b57, 0, none⟩)) :: (.pointer (some ⟨b27, 0, none⟩)) :: L) wd136 v3 p_p.Noise ∧ Box wd136 b17 [(.int .i64 p_rate.e0), (.int .i64 p_rate.e1)] 48 ∧ Box wd136 b27 [(.int .i64 0), (.slice none 0 0), (.slice none 0 0)] 89 ∧ Box wd136 b57 [(.int .i64 r42.1.LevitatePlant.Den), v46, v48] 89 ∧ Box wd136 b9 [(.int .i64 p_p.Den), v1, v3] 25 ∧ Ext w wd136) ?_ ?_
  · clear hK119 hK120 hK41 hK8 hK88
    intro K161 hK161
    replace h := ho159
    clear ho159
    refine WC_cond (b := (decide (r113 = 0))) rfl (fun hb162 => ?_) (fun hb162 => ?_)
    · replace h := cond_t hb162 h
      refine WC_region ?_
      refine T0_q (v := v_p_form) rfl (yl_move rfl) ?_
      have hq := bind_elim h
      clear h
      obtain ⟨r163, hr164, h⟩ := hq
      refine T0_e rfl (eff_call Try.func77 nm77 rfl (ev1 rfl) (levitate_positive_ok [] _ (LtL.nil _) v_p_form p_form ((h81.ext e117).sub (fun _ h => by cases h)) r163 hr164) ?_)
      rintro _ wd165 ⟨he166, rfl⟩
      have e167 := he116.trans he166
      have e168 := e117.trans he166
      have e169 := e118.trans he166
      have hq := bind_elim h
      clear h
      obtain ⟨r170, hr171, h⟩ := hq
      refine T0_e rfl (eff_call Try.func40 nm40 rfl (ev2 rfl rfl) (levitate_unless_ok [] _ (LtL.nil _) r163 20 r170 hr171) ?_)
      rintro _ wd172 ⟨he173, rfl⟩
      have e174 := e167.trans he173
      have e175 := e168.trans he173
      have e176 := e169.trans he173
      refine T0_q (v := (.int .i64 r170)) rfl (yl_assign rfl) ?_
      refine T0_nil ?_
      replace h := some_out h
      subst h
      refine hK161 _ _ ?_
      exact ⟨r170, rfl, rfl, rfl, rfl, rfl, rfl, rfl, (h81.ext e175), (h85.ext e175), (h86.ext e175), (h79.ext e175), (h80.ext e175), (h83.ext e175), (h84.ext e175), (hB78.ext e175), (h82.ext e175), e176⟩
    · replace h := cond_f hb162 h
      refine WC_skip ?_
      replace h := some_out h
      subst h
      refine hK161 _ _ ?_
      exact ⟨r113, rfl, rfl, rfl, rfl, rfl, rfl, rfl, (h81.ext e117), (h85.ext e117), (h86.ext e117), (h79.ext e117), (h80.ext e117), (h83.ext e117), (h84.ext e117), (hB78.ext e117), (h82.ext e117), e118⟩
  · clear hK120 hK41 hK8 hK88
    rintro ρ wd136 ⟨x144, rfl, hs139, hs140, hs141, hs142, hs143, hs145, h138, h150, h151, h154, h155, hB147, hB149, hB153, hB157, e137⟩
    replace h := hn160
    refine hK119 _ _ ?_
    refine WC_seqK fun K177 hK177 => ?_
    refine WC_seqK fun K178 hK178 => ?_
    refine WC_region ?_
    refine T0_q (v := (.int .i64 x144)) rfl (yl_move hs145) ?_
    refine T0_q (v := (.bool (!decide (x144 = 0)))) rfl (yl_neq rfl rfl) ?_
    refine T0_nil ?_
    refine hK178 _ _ ?_
    refine WC_cond (b := (!decide (x144 = 0))) rfl (fun hb179 => ?_) (fun hb179 => ?_)
    · clear hK119 hK177 hK178
      replace h := cond_t hb179 h
      refine WC_seqK fun K180 hK180 => ?_
      refine WC_region ?_
      refine T0_q (v := (.agg (List.toArray [(.int .i64 r42.1.LevitatePlant.Den), v46, v48]))) rfl (yl_loadA (cs := [(.int .i64 r42.1.LevitatePlant.Den), v46, v48]) ag89 hs143 (Box.at hB153)) ?_
      refine T0_q (v := (.int .i64 x144)) rfl (yl_move hs145) ?_
      refine T0_e rfl (eff_storeC (vs := [(.int .i64 r42.1.LevitatePlant.Den), v46, v48]) (cs' := [(.int .i64 r42.1.LevitatePlant.Den), v46, v48]) sz89 rfl rfl hs142 rfl hB149 rfl (oc_cons rfl (oc_cons h150.one1 (oc_cons h151.one1 oc_nil))) rfl ?_)
      intro wd181 hc182 hB183
      have h184 := h138.step (Stepp.chg_mem hc182 (memS mem0))
      have h185 := hB147.chg hc182 (avoidb hn33)
      have h186 := h150.step (Stepp.chg_mem hc182 (memS mem0))
      have h187 := h151.step (Stepp.chg_mem hc182 (memS mem0))
      have h188 := hB153.chg hc182 (avoidb hn64.symm)
      have h189 := h154.step (Stepp.chg_mem hc182 (memS mem0))
      have h190 := h155.step (Stepp.chg_mem hc182 (memS mem0))
      have h191 := hB157.chg hc182 (avoidb hn32)
      have e192 := chg_box e137 hc182 hbf34
      refine T0_q (v := (.int .i64 0)) rfl (yl_assign rfl) ?_
      refine T0_q (v := (.int .i64 x144)) rfl (yl_assign rfl) ?_
      refine T0_nil ?_
      refine hK180 _ _ ?_
      refine WC_ret ?_
      replace h := some_out h
      subst h
      exact ⟨[(.agg (List.toArray [(.int .i64 r42.1.LevitatePlant.Den), v46, v48])), (.int .i64 0), (.int .i64 x144)], ⟨⟨_, hs142, run_loadVarA (cs := [(.int .i64 r42.1.LevitatePlant.Den), v46, v48]) ag89 (Box.at hB183)⟩, rfl, rfl, trivial⟩, e192, [(.int .i64 r42.1.LevitatePlant.Den), v46, v48], rfl, ⟨v46, v48, (h186.sub (sub_skip (sub_skip (sub_refl _)))), (h187.sub (sub_skip (sub_skip (sub_refl _)))), rfl⟩⟩
    · clear hK119 hK178
      replace h := cond_f hb179 h
      refine WC_skip ?_
      refine hK177 _ _ ?_
      refine WC_seqK fun K193 hK193 => ?_
      refine WC_seqK fun K194 hK194 => ?_
      refine WC_region ?_
      refine T0_q (v := (.pointer (some ⟨b9, 1, none⟩))) rfl (yl_fa 1 Try.underlying25 rfl rfl ⟨0, sz22⟩ hs140 rfl) ?_
      refine T0_q (v := v1) rfl (yl_load sc22 rfl (At.drop (Box.at hB157) 1)) ?_
      refine T0_q (v := (.int .i64 (p_p.Maps.length : Int))) rfl (yl_lenR rfl Try.underlying22 h154 rfl) ?_
      refine T0_q (v := (.int .i64 0)) rfl (yl_move rfl) ?_
      refine T0_nil ?_
      refine hK194 _ _ ?_
      have hq := bind_elim h
      clear h
      obtain ⟨o342, hl343, hn344⟩ := hq
      refine WC_post (fun (ρ : Env) (wd332 : World) => .inr () = o342 ∧ ρ 6 = (.pointer (some ⟨b27, 0, none⟩)) ∧ ρ 9 = (.pointer (some ⟨b57, 0, none⟩)) ∧ SlRd ((.pointer (some ⟨b57, 0, none⟩)) :: (.pointer (some ⟨b27, 0, none⟩)) :: L) wd332 v46 r42.1.LevitatePlant.Maps ∧ SlRd ((.pointer (some ⟨b57, 0, none⟩)) :: (.pointer (some ⟨b27, 0, none⟩)) :: L) wd332 v48 r42.1.LevitatePlant.Noise ∧ Box wd332 b27 [(.int .i64 0), (.slice none 0 0), (.slice none 0 0)] 89 ∧ Box wd332 b57 [(.int .i64 r42.1.LevitatePlant.Den), v46, v48] 89 ∧ Ext w wd332) ?_ ?_
      · clear hK177 hK193 hK194
        intro K348 hK348
        refine WC_block ?_
        refine WC_loopk (fun sv ρ wd314 => ∃ (x322 : Int), x322 = sv ∧ ρ 1 = v_p_form ∧ ρ 5 = (.pointer (some ⟨b17, 0, none⟩)) ∧ ρ 6 = (.pointer (some ⟨b27, 0, none⟩)) ∧ ρ 9 = (.pointer (some ⟨b57, 0, none⟩)) ∧ ρ 43 = (.int .i64 (p_p.Maps.length : Int)) ∧ ρ 44 = (.int .i64 x322) ∧ SlRd ((.pointer (some ⟨b57, 0, none⟩)) :: (.pointer (some ⟨b27, 0, none⟩)) :: L) wd314 v_p_form p_form ∧ SlRd ((.pointer (some ⟨b57, 0, none⟩)) :: (.pointer (some ⟨b27, 0, none⟩)) :: L) wd314 v46 r42.1.LevitatePlant.Maps ∧ SlRd ((.pointer (some ⟨b57, 0, none⟩)) :: (.pointer (some ⟨b27, 0, none⟩)) :: L) wd314 v48 r42.1.LevitatePlant.Noise ∧ Box wd314 b17 [(.int .i64 p_rate.e0), (.int .i64 p_rate.e1)] 48 ∧ Box wd314 b27 [(.int .i64 0), (.slice none 0 0), (.slice none 0 0)] 89 ∧ Box wd314 b57 [(.int .i64 r42.1.LevitatePlant.Den), v46, v48] 89 ∧ Ext w wd314) hl343 ⟨0, rfl, hs139, hs141, hs142, hs143, rfl, rfl, h138, h150, h151, hB147, hB149, hB153, e137⟩ ?_
        rintro _ ρ wd314 ⟨x322, rfl, hs317, hs318, hs319, hs320, hs321, hs323, h316, h328, h329, hB325, hB327, hB331, e315⟩ x345 h hx346 K347 hK347
        refine WC_seqK fun K350 hK350 => ?_
        refine WC_region ?_
        refine T0_q (v := (.bool (decide (x322 < (p_p.Maps.length : Int))))) rfl (yl_lss hs323 hs321) ?_
        refine T0_nil ?_
        refine hK350 _ _ ?_
        refine WC_seqK fun K351 hK351 => ?_
        refine WC_cond (b := (decide (x322 < (p_p.Maps.length : Int)))) rfl (fun hb352 => ?_) (fun hb352 => ?_)
        · clear hK348 hK350
          replace h := cond_t hb352 h
          refine WC_skip ?_
          refine hK351 _ _ ?_
          refine WC_seqK fun K353 hK353 => ?_
          refine WC_block ?_
          refine WC_seqK fun K354 hK354 => ?_
          refine WC_region ?_
          refine T0_q (v := (.int .i64 x322)) rfl (yl_move hs323) ?_
          refine T0_q (v := (.int .i64 x322)) rfl (yl_assign rfl) ?_
          refine T0_nil ?_
          refine hK354 _ _ ?_
          refine WC_seqK fun K355 hK355 => ?_
          refine WC_region ?_
          refine T0_q (v := (.agg (List.toArray [(.int .i64 r42.1.LevitatePlant.Den), v46, v48]))) rfl (yl_loadA (cs := [(.int .i64 r42.1.LevitatePlant.Den), v46, v48]) ag89 hs320 (Box.at hB331)) ?_
          refine T0_q (v := (.int .i64 x322)) rfl (yl_move rfl) ?_
          refine T0_q (v := v_p_form) rfl (yl_move hs317) ?_
          refine T0_q (v := (.agg (List.toArray [(.int .i64 p_rate.e0), (.int .i64 p_rate.e1)]))) rfl (yl_loadA (cs := [(.int .i64 p_rate.e0), (.int .i64 p_rate.e1)]) ag48 hs318 (Box.at hB325)) ?_
          have hq := bind_elim h
          clear h
          obtain ⟨r356, hr357, h⟩ := hq
          refine T0_e rfl (eff_call Try.func78 nm78 rfl (ev4 rfl rfl rfl rfl) (levitate_plant_lessens_ok [] _ (LtL.nil _) [(.int .i64 r42.1.LevitatePlant.Den), v46, v48] (levitate_plant.mk (LevitatePlant.mk r42.1.LevitatePlant.Den r42.1.LevitatePlant.Maps r42.1.LevitatePlant.Noise)) ⟨v46, v48, (h328.sub (fun _ h => by cases h)), (h329.sub (fun _ h => by cases h)), rfl⟩ x322 v_p_form p_form (h316.sub (fun _ h => by cases h)) [(.int .i64 p_rate.e0), (.int .i64 p_rate.e1)] p_rate rfl r356 hr357) ?_)
          rintro _ wd358 ⟨he359, rfl⟩
          have e360 := e315.trans he359
          refine T0_q (v := (.bool (!r356))) rfl (yl_not rfl) ?_
          refine T0_nil ?_
          refine hK355 _ _ ?_
          refine WC_cond (b := (!r356)) rfl (fun hb361 => ?_) (fun hb361 => ?_)
          · clear hK347 hK351 hK353 hK354 hK355
            replace h := cond_t hb361 h
            refine WC_seqK fun K362 hK362 => ?_
            refine WC_region ?_
            refine T0_q (v := (.agg (List.toArray [(.int .i64 r42.1.LevitatePlant.Den), v46, v48]))) rfl (yl_loadA (cs := [(.int .i64 r42.1.LevitatePlant.Den), v46, v48]) ag89 hs320 (Box.at (hB331.ext he359))) ?_
            refine T0_q (v := (.int .i64 x322)) rfl (yl_move rfl) ?_
            refine T0_e rfl (eff_storeC (vs := [(.int .i64 r42.1.LevitatePlant.Den), v46, v48]) (cs' := [(.int .i64 r42.1.LevitatePlant.Den), v46, v48]) sz89 rfl rfl hs319 rfl (hB327.ext he359) rfl (oc_cons rfl (oc_cons h328.one1 (oc_cons h329.one1 oc_nil))) rfl ?_)
            intro wd363 hc364 hB365
            have h366 := (h316.ext he359).step (Stepp.chg_mem hc364 (memS mem0))
            have h367 := (hB325.ext he359).chg hc364 (avoidb hn33)
            have h368 := (h328.ext he359).step (Stepp.chg_mem hc364 (memS mem0))
            have h369 := (h329.ext he359).step (Stepp.chg_mem hc364 (memS mem0))
            have h370 := (hB331.ext he359).chg hc364 (avoidb hn64.symm)
            have e371 := chg_box e360 hc364 hbf34
            refine T0_q (v := (.int .i64 x322)) rfl (yl_assign rfl) ?_
            refine T0_q (v := (.int .i64 24)) rfl (yl_assign rfl) ?_
            refine T0_nil ?_
            refine hK362 _ _ ?_
            refine WC_ret ?_
            replace h := some_out h
            subst h
            have ho := hx346 _ rfl
            subst ho
            replace h := jn0_inl hn344
            replace h := some_out h
            subst h
            exact ⟨[(.agg (List.toArray [(.int .i64 r42.1.LevitatePlant.Den), v46, v48])), (.int .i64 x322), (.int .i64 24)], ⟨⟨_, hs319, run_loadVarA (cs := [(.int .i64 r42.1.LevitatePlant.Den), v46, v48]) ag89 (Box.at hB365)⟩, rfl, rfl, trivial⟩, e371, [(.int .i64 r42.1.LevitatePlant.Den), v46, v48], rfl, ⟨v46, v48, (h368.sub (sub_skip (sub_skip (sub_refl _)))), (h369.sub (sub_skip (sub_skip (sub_refl _)))), rfl⟩⟩
          · clear hK351 hK354 hK355
            replace h := cond_f hb361 h
            refine WC_skip ?_
            refine hK353 _ _ ?_
            refine WC_region ?_
            refine T0_q (v := (.int .i64 (w64 (x322 + 1)))) rfl (yl_add hs323 rfl) ?_
            refine T0_q (v := (.int .i64 (w64 (x322 + 1)))) rfl (yl_move rfl) ?_
            refine T0_nil ?_
            replace h := some_out h
            subst h
            refine hK347 _ _ _ rfl ?_
            exact ⟨w64 (x322 + 1), rfl, hs317, hs318, hs319, hs320, hs321, rfl, (h316.ext he359), (h328.ext he359), (h329.ext he359), (hB325.ext he359), (hB327.ext he359), (hB331.ext he359), e360⟩
        · clear hK347 hK350 hK351
          replace h := cond_f hb352 h
          refine WC_exit ?_
          replace h := some_out h
          subst h
          have ho := hx346 _ rfl
          subst ho
          refine hK348 _ _ ?_
          exact ⟨rfl, hs319, hs320, h328, h329, hB327, hB331, e315⟩
      · clear hK177 hK194
        rintro ρ wd332 ⟨rfl, hs334, hs335, h338, h339, hB337, hB341, e333⟩
        replace h := jn0_inr hn344
        refine hK193 _ _ ?_
        refine WC_seqK fun K372 hK372 => ?_
        refine WC_region ?_
        refine T0_q (v := (.agg (List.toArray [(.int .i64 r42.1.LevitatePlant.Den), v46, v48]))) rfl (yl_loadA (cs := [(.int .i64 r42.1.LevitatePlant.Den), v46, v48]) ag89 hs335 (Box.at hB341)) ?_
        refine T0_e rfl (eff_storeC (vs := [(.int .i64 r42.1.LevitatePlant.Den), v46, v48]) (cs' := [(.int .i64 r42.1.LevitatePlant.Den), v46, v48]) sz89 rfl rfl hs334 rfl hB337 rfl (oc_cons rfl (oc_cons h338.one1 (oc_cons h339.one1 oc_nil))) rfl ?_)
        intro wd373 hc374 hB375
        have h376 := h338.step (Stepp.chg_mem hc374 (memS mem0))
        have h377 := h339.step (Stepp.chg_mem hc374 (memS mem0))
        have h378 := hB341.chg hc374 (avoidb hn64.symm)
        have e379 := chg_box e333 hc374 hbf34
        refine T0_q (v := (.int .i64 0)) rfl (yl_assign rfl) ?_
        refine T0_q (v := (.int .i64 0)) rfl (yl_assign rfl) ?_
        refine T0_nil ?_
        refine hK372 _ _ ?_
        refine WC_ret ?_
        replace h := some_out h
        subst h
        exact ⟨[(.agg (List.toArray [(.int .i64 r42.1.LevitatePlant.Den), v46, v48])), (.int .i64 0), (.int .i64 0)], ⟨⟨_, hs334, run_loadVarA (cs := [(.int .i64 r42.1.LevitatePlant.Den), v46, v48]) ag89 (Box.at hB375)⟩, rfl, rfl, trivial⟩, e379, [(.int .i64 r42.1.LevitatePlant.Den), v46, v48], rfl, ⟨v46, v48, (h376.sub (sub_skip (sub_skip (sub_refl _)))), (h377.sub (sub_skip (sub_skip (sub_refl _)))), rfl⟩⟩

noncomputable def levitate_plant_boxErr_spec (p_p : levitate_plant) (p_box : (List Int)) : Option Int :=
  (Option.bind (slices_ContainsFunc_int_102_spec p_box) fun r18 =>
  (Option.bind (levitate_plant_stateErr_spec p_p p_box) fun r25 =>
  (Option.bind (levitate_unless_spec (!r18) 2) fun r32 =>
  (Option.bind (levitate_first_spec ([r25, r32] : List Int)) fun r47 =>
  some r47
  )
  )
  )
  )
theorem levitate_plant_boxErr_ok (L : List Value) (w : World) (hL : LtL L w) (cs_p_p : List Value) (p_p : levitate_plant) (h_p_p : Rep.rd L w cs_p_p p_p) (v_p_box : Value) (p_box : (List Int)) (h_p_box : SlRd L w v_p_box p_box) (r : Int) (h : levitate_plant_boxErr_spec p_p p_box = some r) :
    CallsTo Try.prog 75 [(.agg cs_p_p.toArray), v_p_box] w (fun v w' => Ext w w' ∧ (.int .i64 r) = v) := by
  have e0 : Ext w w := Chg.refl _ _
  obtain ⟨v1, v3, h2, h4, rfl⟩ := h_p_p
  refine callsTo_of_WC (n := 16) (rs := [.tmp 4]) Try.func75 rfl rfl rfl rfl rfl ?_
  refine WC_seqK fun K8 hK8 => ?_
  refine WC_region ?_
  refine T0_e rfl (eff_boxC (cs := [(.int .i64 p_p.LevitatePlant.Den), v1, v3]) rfl rfl ?_)
  intro b9 wd10 hb11 he12 hB13
  have hbf14 := bfresh e0 hb11
  have e15 := e0.trans he12
  refine T0_q (v := (.int .i64 0)) rfl (yl_assign rfl) ?_
  refine T0_nil ?_
  refine hK8 _ _ ?_
  refine WC_seqK fun K17 hK17 => ?_
  refine WC_region ?_
  refine T0_q (v := v_p_box) rfl (yl_move rfl) ?_
  have hq := bind_elim h
  clear h
  obtain ⟨r18, hr19, h⟩ := hq
  refine T0_e rfl (eff_call Try.func36 nm36 rfl (ev2 rfl rfl) (slices_ContainsFunc_int_102_ok [] _ (LtL.nil _) v_p_box p_box ((h_p_box.ext he12).sub (fun _ h => by cases h)) r18 hr19) ?_)
  rintro _ wd20 ⟨he21, rfl⟩
  have e22 := he12.trans he21
  have e23 := e15.trans he21
  refine T0_q (v := (.bool r18)) rfl (yl_assign rfl) ?_
  refine T0_nil ?_
  refine hK17 _ _ ?_
  refine WC_seqK fun K24 hK24 => ?_
  refine WC_region ?_
  refine T0_q (v := (.agg (List.toArray [(.int .i64 p_p.LevitatePlant.Den), v1, v3]))) rfl (yl_loadA (cs := [(.int .i64 p_p.LevitatePlant.Den), v1, v3]) ag89 rfl (Box.at (hB13.ext he21))) ?_
  refine T0_q (v := v_p_box) rfl (yl_move rfl) ?_
  have hq := bind_elim h
  clear h
  obtain ⟨r25, hr26, h⟩ := hq
  refine T0_e rfl (eff_call Try.func103 nm103 rfl (ev2 rfl rfl) (levitate_plant_stateErr_ok [] _ (LtL.nil _) [(.int .i64 p_p.LevitatePlant.Den), v1, v3] p_p ⟨v1, v3, ((h2.ext e22).sub (fun _ h => by cases h)), ((h4.ext e22).sub (fun _ h => by cases h)), rfl⟩ v_p_box p_box ((h_p_box.ext e22).sub (fun _ h => by cases h)) r25 hr26) ?_)
  rintro _ wd27 ⟨he28, rfl⟩
  have e29 := e22.trans he28
  have e30 := he21.trans he28
  have e31 := e23.trans he28
  refine T0_q (v := (.bool r18)) rfl (yl_move rfl) ?_
  refine T0_q (v := (.bool (!r18))) rfl (yl_not rfl) ?_
  have hq := bind_elim h
  clear h
  obtain ⟨r32, hr33, h⟩ := hq
  refine T0_e rfl (eff_call Try.func40 nm40 rfl (ev2 rfl rfl) (levitate_unless_ok [] _ (LtL.nil _) (!r18) 2 r32 hr33) ?_)
  rintro _ wd34 ⟨he35, rfl⟩
  have e36 := e29.trans he35
  have e37 := e30.trans he35
  have e38 := e31.trans he35
  refine T0_e rfl (eff_buildTC (xs := ([r25, r32] : List Int)) (cells := [(.int .i64 r25), (.int .i64 r32)]) Try.underlying108 ei30 rfl (pc_cons rfl rfl (pc_cons rfl rfl pc_nil)) rfl (Elems.cons (cs := [(.int .i64 r25)]) rfl (Elems.cons (cs := [(.int .i64 r32)]) rfl Elems.nil)) rfl (hL.chg e38) ?_)
  intro b42 wd39 he40 h41
  have e43 := e36.trans he40
  have e44 := e37.trans he40
  have e45 := e38.trans he40
  have hq := bind_elim h
  clear h
  obtain ⟨r47, hr48, h⟩ := hq
  refine T0_e rfl (eff_call Try.func39 nm39 rfl (ev1 rfl) (levitate_first_ok [] _ (LtL.nil _) (.slice (some ⟨b42, 0, none⟩) 2 2) ([r25, r32] : List Int) (h41.sub (fun _ h => by cases h)) r47 hr48) ?_)
  rintro _ wd49 ⟨he50, rfl⟩
  have e51 := e43.trans he50
  have e52 := e44.trans he50
  have e53 := e45.trans he50
  refine T0_q (v := (.int .i64 r47)) rfl (yl_assign rfl) ?_
  refine T0_nil ?_
  refine hK24 _ _ ?_
  refine WC_ret ?_
  replace h := some_out h
  subst h
  exact ⟨[(.int .i64 r47)], ⟨rfl, trivial⟩, e53, rfl⟩

noncomputable def levitate_CheckProof_s0 (p_proof : LevitateProof) : ((List Int) × Int) → Option (((List Int) × Int) ⊕ ((List Int))) := fun (x277, x283) =>
  (bif (decide (x283 < (p_proof.Form.length : Int))) then (
    (Option.bind (levitate_bound_spec p_proof.Form x283 p_proof.Level) fun r320 =>
    (Option.bind (app x277 ([r320] : List Int)) fun zs332 =>
    some (.inl (zs332, w64 (x283 + 1)))
    )
    )
  ) else (
    some (.inr x277)
  ))
noncomputable def levitate_CheckProof_spec (p_p : LevitatePlant) (p_proof : LevitateProof) : Option ((List Int) × Int) :=
  (Option.bind (levitate_proves_spec p_p p_proof.Form p_proof.Rate) fun r30 =>
  (Option.bind (levitate_within_spec p_proof.Level 0 100000000000000) fun r75 =>
  (Option.bind (levitate_unless_spec r75 2) fun r80 =>
  (Option.bind (levitate_first_spec ([r30.2.2, r80] : List Int)) fun r93 =>
  (bif (!decide (r93 = 0)) then (
    some (([] : (List Int)), r93)
  ) else (
    (Option.bind (levitate_plant_worst_spec (levitate_plant.mk (LevitatePlant.mk r30.1.LevitatePlant.Den r30.1.LevitatePlant.Maps r30.1.LevitatePlant.Noise)) p_proof.Form) fun r109 =>
    (Option.bind (levitate_kept_spec p_proof.Level r109 p_proof.Rate) fun r116 =>
    (bif (!r116) then (
      some (([] : (List Int)), 20)
    ) else (
      (Option.bind (loop (levitate_CheckProof_s0 p_proof) (([] : List Int), 0)) fun (x302 : (List Int)) =>
      some (x302, 0)
      )
    ))
    )
    )
  ))
  )
  )
  )
  )
theorem levitate_CheckProof_ok (L : List Value) (w : World) (hL : LtL L w) (cs_p_p : List Value) (p_p : LevitatePlant) (h_p_p : Rep.rd L w cs_p_p p_p) (cs_p_proof : List Value) (p_proof : LevitateProof) (h_p_proof : Rep.rd L w cs_p_proof p_proof) (r : (List Int) × Int) (h : levitate_CheckProof_spec p_p p_proof = some r) :
    CallsTo Try.prog 25 [(.agg cs_p_p.toArray), (.agg cs_p_proof.toArray)] w (fun v w' => Ext w w' ∧ ∃ (v0 : Value), (.tuple #[v0, (.int .i64 r.2)]) = v ∧ SlRd L w' v0 r.1) := by
  have e0 : Ext w w := Chg.refl _ _
  obtain ⟨v1, v3, h2, h4, rfl⟩ := h_p_p
  obtain ⟨v7, h8, rfl⟩ := h_p_proof
  refine callsTo_of_WC (n := 58) (rs := [.tmp 4, .tmp 5]) Try.func25 rfl rfl rfl rfl rfl ?_
  refine WC_seqK fun K10 hK10 => ?_
  refine WC_region ?_
  refine T0_e rfl (eff_boxC (cs := [(.int .i64 p_p.Den), v1, v3]) rfl rfl ?_)
  intro b11 wd12 hb13 he14 hB15
  have hbf16 := bfresh e0 hb13
  have e17 := e0.trans he14
  refine T0_e rfl (eff_boxC (cs := [v7, (.int .i64 p_proof.Rate.e0), (.int .i64 p_proof.Rate.e1), (.int .i64 p_proof.Level)]) rfl rfl ?_)
  intro b19 wd20 hb21 he22 hB23
  have hn24 : b19 ≠ b11 := box_ne hB15 hb21
  have hbf25 := bfresh e17 hb21
  have e26 := he14.trans he22
  have e27 := e17.trans he22
  refine T0_q (v := (.slice none 0 0)) rfl (yl_assign rfl) ?_
  refine T0_q (v := (.int .i64 0)) rfl (yl_assign rfl) ?_
  refine T0_nil ?_
  refine hK10 _ _ ?_
  refine WC_seqK fun K29 hK29 => ?_
  refine WC_region ?_
  refine T0_q (v := (.agg (List.toArray [(.int .i64 p_p.Den), v1, v3]))) rfl (yl_loadA (cs := [(.int .i64 p_p.Den), v1, v3]) ag25 rfl (Box.at (hB15.ext he22))) ?_
  refine T0_q (v := (.pointer (some ⟨b19, 0, none⟩))) rfl (yl_fa 0 Try.underlying50 rfl rfl ⟨0, sz47⟩ rfl rfl) ?_
  refine T0_q (v := v7) rfl (yl_load sc47 rfl (Box.at hB23)) ?_
  refine T0_q (v := (.pointer (some ⟨b19, 1, none⟩))) rfl (yl_fa 1 Try.underlying50 rfl rfl ⟨1, sz48⟩ rfl rfl) ?_
  refine T0_q (v := (.agg (List.toArray [(.int .i64 p_proof.Rate.e0), (.int .i64 p_proof.Rate.e1)]))) rfl (yl_loadA (cs := [(.int .i64 p_proof.Rate.e0), (.int .i64 p_proof.Rate.e1)]) ag48 rfl (At.take (At.drop (Box.at hB23) 1) 2)) ?_
  have hq := bind_elim h
  clear h
  obtain ⟨r30, hr31, h⟩ := hq
  refine T0_e rfl (eff_call Try.func52 nm52 rfl (ev3 rfl rfl rfl) (levitate_proves_ok L _ (hL.chg e27) [(.int .i64 p_p.Den), v1, v3] p_p ⟨v1, v3, (h2.ext e26), (h4.ext e26), rfl⟩ v7 p_proof.Form (h8.ext e26) [(.int .i64 p_proof.Rate.e0), (.int .i64 p_proof.Rate.e1)] p_proof.Rate rfl r30 hr31) ?_)
  rintro _ wd32 ⟨he33, cs38, rfl, hrd39⟩
  have e40 := e26.trans he33
  have e41 := he22.trans he33
  have e42 := e27.trans he33
  obtain ⟨v34, v36, h35, h37, rfl⟩ := hrd39
  refine T0_q (v := (.tuple #[(.agg (List.toArray [(.int .i64 r30.1.LevitatePlant.Den), v34, v36])), (.int .i64 r30.2.1), (.int .i64 r30.2.2)])) rfl (yl_move rfl) ?_
  refine T0_q (v := (.agg (List.toArray [(.int .i64 r30.1.LevitatePlant.Den), v34, v36]))) rfl (yl_extract rfl rfl) ?_
  refine T0_q (v := (.int .i64 r30.2.1)) rfl (yl_extract rfl rfl) ?_
  refine T0_q (v := (.int .i64 r30.2.2)) rfl (yl_extract rfl rfl) ?_
  refine T0_e rfl (eff_allocZ zi89 ?_)
  intro b45 wd46 hb47 he48 hB49
  have hn50 : b45 ≠ b11 := box_ne (hB15.ext e41) hb47
  have hn51 : b45 ≠ b19 := box_ne (hB23.ext he33) hb47
  have hbf52 := bfresh e42 hb47
  have h53 := (h2.ext e40).step (add_box he48 hb47)
  have h54 := (h4.ext e40).step (add_box he48 hb47)
  have h55 := (h8.ext e40).step (add_box he48 hb47)
  have h56 := h35.step (add_box he48 hb47)
  have h57 := h37.step (add_box he48 hb47)
  have e58 := e41.trans he48
  have e59 := he33.trans he48
  have e60 := e42.trans he48
  refine T0_e rfl (eff_storeC (vs := [(.int .i64 r30.1.LevitatePlant.Den), v34, v36]) (cs' := [(.int .i64 r30.1.LevitatePlant.Den), v34, v36]) sz89 rfl rfl rfl rfl hB49 rfl (oc_cons rfl (oc_cons h56.one1 (oc_cons h57.one1 oc_nil))) rfl ?_)
  intro wd62 hc63 hB64
  have h65 := h53.step (Stepp.chg_mem hc63 mem0)
  have h66 := h54.step (Stepp.chg_mem hc63 mem0)
  have h67 := h55.step (Stepp.chg_mem hc63 mem0)
  have h68 := (hB15.ext e58).chg hc63 (avoidb hn50)
  have h69 := (hB23.ext e59).chg hc63 (avoidb hn51)
  have h70 := h56.step (Stepp.chg_mem hc63 mem0)
  have h71 := h57.step (Stepp.chg_mem hc63 mem0)
  have e72 := chg_box e60 hc63 hbf52
  refine T0_q (v := (.int .i64 r30.2.1)) rfl (yl_assign rfl) ?_
  refine T0_q (v := (.int .i64 r30.2.2)) rfl (yl_assign rfl) ?_
  refine T0_nil ?_
  refine hK29 _ _ ?_
  refine WC_seqK fun K73 hK73 => ?_
  refine WC_seqK fun K74 hK74 => ?_
  refine WC_region ?_
  refine T0_q (v := (.int .i64 r30.2.2)) rfl (yl_move rfl) ?_
  refine T0_q (v := (.pointer (some ⟨b19, 3, none⟩))) rfl (yl_fa 3 Try.underlying50 rfl rfl ⟨0, sz3⟩ rfl rfl) ?_
  refine T0_q (v := (.int .i64 p_proof.Level)) rfl (yl_load sc3 rfl (At.drop (Box.at h69) 3)) ?_
  have hq := bind_elim h
  clear h
  obtain ⟨r75, hr76, h⟩ := hq
  refine T0_e rfl (eff_call Try.func38 nm38 rfl (ev3 rfl rfl rfl) (levitate_within_ok [] _ (LtL.nil _) p_proof.Level 0 100000000000000 r75 hr76) ?_)
  rintro _ wd77 ⟨he78, rfl⟩
  have e79 := e72.trans he78
  have hq := bind_elim h
  clear h
  obtain ⟨r80, hr81, h⟩ := hq
  refine T0_e rfl (eff_call Try.func40 nm40 rfl (ev2 rfl rfl) (levitate_unless_ok [] _ (LtL.nil _) r75 2 r80 hr81) ?_)
  rintro _ wd82 ⟨he83, rfl⟩
  have e84 := he78.trans he83
  have e85 := e79.trans he83
  refine T0_e rfl (eff_buildTC (xs := ([r30.2.2, r80] : List Int)) (cells := [(.int .i64 r30.2.2), (.int .i64 r80)]) Try.underlying108 ei30 rfl (pc_cons rfl rfl (pc_cons rfl rfl pc_nil)) rfl (Elems.cons (cs := [(.int .i64 r30.2.2)]) rfl (Elems.cons (cs := [(.int .i64 r80)]) rfl Elems.nil)) rfl (ltl_box (hL.chg e85) (hB64.ext e84)) ?_)
  intro b89 wd86 he87 h88
  have e90 := e84.trans he87
  have e91 := e85.trans he87
  have hq := bind_elim h
  clear h
  obtain ⟨r93, hr94, h⟩ := hq
  refine T0_e rfl (eff_call Try.func39 nm39 rfl (ev1 rfl) (levitate_first_ok [] _ (LtL.nil _) (.slice (some ⟨b89, 0, none⟩) 2 2) ([r30.2.2, r80] : List Int) (h88.sub (fun _ h => by cases h)) r93 hr94) ?_)
  rintro _ wd95 ⟨he96, rfl⟩
  have e97 := e90.trans he96
  have e98 := e91.trans he96
  refine T0_q (v := (.int .i64 r93)) rfl (yl_assign rfl) ?_
  refine T0_nil ?_
  refine hK74 _ _ ?_
  refine WC_seqK fun K99 hK99 => ?_
  refine WC_region ?_
  refine T0_q (v := (.int .i64 r93)) rfl (yl_move rfl) ?_
  refine T0_q (v := (.bool (!decide (r93 = 0)))) rfl (yl_neq rfl rfl) ?_
  refine T0_nil ?_
  refine hK99 _ _ ?_
  refine WC_cond (b := (!decide (r93 = 0))) rfl (fun hb100 => ?_) (fun hb100 => ?_)
  · clear hK10 hK29 hK73 hK74 hK99
    replace h := cond_t hb100 h
    refine WC_seqK fun K101 hK101 => ?_
    refine WC_region ?_
    refine T0_q (v := (.int .i64 r93)) rfl (yl_move rfl) ?_
    refine T0_q (v := (.slice none 0 0)) rfl (yl_assign rfl) ?_
    refine T0_q (v := (.int .i64 r93)) rfl (yl_assign rfl) ?_
    refine T0_nil ?_
    refine hK101 _ _ ?_
    refine WC_ret ?_
    replace h := some_out h
    subst h
    exact ⟨[(.slice none 0 0), (.int .i64 r93)], ⟨rfl, rfl, trivial⟩, e98, (.slice none 0 0), rfl, (SlRd.nil _ _)⟩
  · clear hK10 hK29 hK74 hK99
    replace h := cond_f hb100 h
    refine WC_skip ?_
    refine hK73 _ _ ?_
    refine WC_seqK fun K102 hK102 => ?_
    refine WC_seqK fun K103 hK103 => ?_
    refine WC_planX mixed (.p 0 (.p 3 (.p 6 (.q 1 (.q 2 (.q 4 (.q 7 (.e 5 (.e 8 (.p 9 .done)))))))))) (by kernel_rfl) ?_
    intro wd104 he105
    have e106 := e97.trans he105
    have e107 := he96.trans he105
    have e108 := e98.trans he105
    refine TX_p (v := (.pointer (some ⟨b19, 3, none⟩))) rfl rfl (fun w' => (yl_fa 3 Try.underlying50 rfl rfl ⟨0, sz3⟩ rfl rfl)) ?_
    refine TX_p (v := (.pointer (some ⟨b19, 0, none⟩))) rfl rfl (fun w' => (yl_fa 0 Try.underlying50 rfl rfl ⟨0, sz47⟩ rfl rfl)) ?_
    refine TX_p (v := (.pointer (some ⟨b19, 1, none⟩))) rfl rfl (fun w' => (yl_fa 1 Try.underlying50 rfl rfl ⟨1, sz48⟩ rfl rfl)) ?_
    refine TX_q (v := (.int .i64 p_proof.Level)) rfl rfl (fun w' hS => (yl_load sc3 rfl (At.drop (Box.at (h69.ext (e106.trans hS))) 3))) ?_
    refine TX_q (v := (.agg (List.toArray [(.int .i64 r30.1.LevitatePlant.Den), v34, v36]))) rfl rfl (fun w' hS => (yl_loadA (cs := [(.int .i64 r30.1.LevitatePlant.Den), v34, v36]) ag89 rfl (Box.at (hB64.ext (e106.trans hS))))) ?_
    refine TX_q (v := v7) rfl rfl (fun w' hS => (yl_load sc47 rfl (Box.at (h69.ext (e106.trans hS))))) ?_
    refine TX_q (v := (.agg (List.toArray [(.int .i64 p_proof.Rate.e0), (.int .i64 p_proof.Rate.e1)]))) rfl rfl (fun w' hS => (yl_loadA (cs := [(.int .i64 p_proof.Rate.e0), (.int .i64 p_proof.Rate.e1)]) ag48 rfl (At.take (At.drop (Box.at (h69.ext (e106.trans hS))) 1) 2))) ?_
    have hq := bind_elim h
    clear h
    obtain ⟨r109, hr110, h⟩ := hq
    refine TX_e rfl rfl (eff_call Try.func54 nm54 rfl (ev2 rfl rfl) (levitate_plant_worst_ok [] _ (LtL.nil _) [(.int .i64 r30.1.LevitatePlant.Den), v34, v36] (levitate_plant.mk (LevitatePlant.mk r30.1.LevitatePlant.Den r30.1.LevitatePlant.Maps r30.1.LevitatePlant.Noise)) ⟨v34, v36, ((h70.ext e106).sub (fun _ h => by cases h)), ((h71.ext e106).sub (fun _ h => by cases h)), rfl⟩ v7 p_proof.Form ((h67.ext e106).sub (fun _ h => by cases h)) r109 hr110) ?_)
    rintro _ wd111 ⟨he112, rfl⟩
    have e113 := e106.trans he112
    have e114 := e107.trans he112
    have e115 := e108.trans he112
    refine ⟨he112, ?_⟩
    have hq := bind_elim h
    clear h
    obtain ⟨r116, hr117, h⟩ := hq
    refine TX_e rfl rfl (eff_call Try.func53 nm53 rfl (ev3 rfl rfl rfl) (levitate_kept_ok [] _ (LtL.nil _) p_proof.Level r109 [(.int .i64 p_proof.Rate.e0), (.int .i64 p_proof.Rate.e1)] p_proof.Rate rfl r116 hr117) ?_)
    rintro _ wd118 ⟨he119, rfl⟩
    have e120 := e113.trans he119
    have e121 := e114.trans he119
    have e122 := e115.trans he119
    refine ⟨he119, ?_⟩
    refine TX_p (v := (.bool (!r116))) rfl rfl (fun w' => (yl_not rfl)) ?_
    refine TX_done ?_
    refine hK103 _ _ ?_
    refine WC_cond (b := (!r116)) rfl (fun hb123 => ?_) (fun hb123 => ?_)
    · clear hK102 hK103 hK73
      replace h := cond_t hb123 h
      refine WC_seqK fun K124 hK124 => ?_
      refine WC_region ?_
      refine T0_q (v := (.slice none 0 0)) rfl (yl_assign rfl) ?_
      refine T0_q (v := (.int .i64 20)) rfl (yl_assign rfl) ?_
      refine T0_nil ?_
      refine hK124 _ _ ?_
      refine WC_ret ?_
      replace h := some_out h
      subst h
      exact ⟨[(.slice none 0 0), (.int .i64 20)], ⟨rfl, rfl, trivial⟩, e122, (.slice none 0 0), rfl, (SlRd.nil _ _)⟩
    · clear hK103 hK73
      replace h := cond_f hb123 h
      refine WC_skip ?_
      refine hK102 _ _ ?_
      refine WC_seqK fun K125 hK125 => ?_
      refine WC_region ?_
      refine T0_q (v := (.slice none 0 0)) rfl (yl_assign rfl) ?_
      refine T0_nil ?_
      refine hK125 _ _ ?_
      refine WC_seqK fun K126 hK126 => ?_
      refine WC_seqK fun K127 hK127 => ?_
      refine WC_region ?_
      refine T0_q (v := (.pointer (some ⟨b19, 0, none⟩))) rfl (yl_fa 0 Try.underlying50 rfl rfl ⟨0, sz47⟩ rfl rfl) ?_
      refine T0_q (v := v7) rfl (yl_load sc47 rfl (Box.at (h69.ext e120))) ?_
      refine T0_q (v := (.int .i64 (p_proof.Form.length : Int))) rfl (yl_lenR rfl Try.underlying47 h67 rfl) ?_
      refine T0_q (v := (.int .i64 0)) rfl (yl_move rfl) ?_
      refine T0_nil ?_
      refine hK127 _ _ ?_
      have h289 := (h65.ext e120).step (add_nil _)
      have h290 := (h66.ext e120).step (add_nil _)
      have h291 := (h67.ext e120).step (add_nil _)
      have h292 := (h70.ext e120).step (add_nil _)
      have h293 := (h71.ext e120).step (add_nil _)
      have h294 := (h88.ext e121).step (add_nil _)
      have h296 : Own 3 ((.slice none 0 0) :: (.pointer (some ⟨b45, 0, none⟩)) :: L) wd118 (.slice none 0 0) ([] : List Int) := Own.nil _ _ _
      have hq := bind_elim h
      clear h
      obtain ⟨o307, hl308, hn309⟩ := hq
      refine WC_post (fun (ρ : Env) (wd298 : World) => ∃ (x302 : (List Int)) (v301 : Value), x302 = o307 ∧ ρ 9 = v301 ∧ Own 3 (v301 :: L) wd298 v301 x302 ∧ (∀ b, blk v301 = some b → w.heap.size ≤ b) ∧ Ext w wd298) ?_ ?_
      · clear hK102 hK125 hK126 hK127
        intro K313 hK313
        refine WC_block ?_
        refine WC_loopk (fun sv ρ wd272 => ∃ (x277 : (List Int)) (x283 : Int) (v276 : Value), (x277, x283) = sv ∧ ρ 3 = (.pointer (some ⟨b19, 0, none⟩)) ∧ ρ 9 = v276 ∧ ρ 43 = (.int .i64 (p_proof.Form.length : Int)) ∧ ρ 44 = (.int .i64 x283) ∧ SlRd (v276 :: L) wd272 v7 p_proof.Form ∧ Box wd272 b19 [v7, (.int .i64 p_proof.Rate.e0), (.int .i64 p_proof.Rate.e1), (.int .i64 p_proof.Level)] 50 ∧ Own 3 (v276 :: L) wd272 v276 x277 ∧ (∀ b, blk v276 = some b → w.heap.size ≤ b) ∧ (blk v276 ≠ some b19) ∧ Ext w wd272) hl308 ⟨([] : List Int), 0, (.slice none 0 0), rfl, rfl, rfl, rfl, rfl, (h291.sub (sub_cons mem0 (sub_skip (sub_skip (sub_refl _))))), (h69.ext e120), (h296.sub (sub_cons mem0 (sub_skip (sub_skip (sub_refl _))))), (fun b h => blk_nil b h), (fun h => by cases h), e122⟩ ?_
        rintro _ ρ wd272 ⟨x277, x283, v276, rfl, hs274, hs281, hs282, hs284, h285, hB287, h279, hf280, hn288, e273⟩ x310 h hx311 K312 hK312
        refine WC_seqK fun K315 hK315 => ?_
        refine WC_region ?_
        refine T0_q (v := (.bool (decide (x283 < (p_proof.Form.length : Int))))) rfl (yl_lss hs284 hs282) ?_
        refine T0_nil ?_
        refine hK315 _ _ ?_
        refine WC_seqK fun K316 hK316 => ?_
        refine WC_cond (b := (decide (x283 < (p_proof.Form.length : Int)))) rfl (fun hb317 => ?_) (fun hb317 => ?_)
        · clear hK313 hK315
          replace h := cond_t hb317 h
          refine WC_skip ?_
          refine hK316 _ _ ?_
          refine WC_seqK fun K318 hK318 => ?_
          refine WC_block ?_
          refine WC_seqK fun K319 hK319 => ?_
          refine WC_region ?_
          refine T0_q (v := (.int .i64 x283)) rfl (yl_move hs284) ?_
          refine T0_q (v := (.int .i64 x283)) rfl (yl_assign rfl) ?_
          refine T0_nil ?_
          refine hK319 _ _ ?_
          refine WC_region ?_
          refine T0_q (v := v276) rfl (yl_move hs281) ?_
          refine T0_q (v := (.pointer (some ⟨b19, 0, none⟩))) rfl (yl_fa 0 Try.underlying50 rfl rfl ⟨0, sz47⟩ hs274 rfl) ?_
          refine T0_q (v := v7) rfl (yl_load sc47 rfl (Box.at hB287)) ?_
          refine T0_q (v := (.int .i64 x283)) rfl (yl_move rfl) ?_
          refine T0_q (v := (.pointer (some ⟨b19, 3, none⟩))) rfl (yl_fa 3 Try.underlying50 rfl rfl ⟨0, sz3⟩ hs274 rfl) ?_
          refine T0_q (v := (.int .i64 p_proof.Level)) rfl (yl_load sc3 rfl (At.drop (Box.at hB287) 3)) ?_
          have hq := bind_elim h
          clear h
          obtain ⟨r320, hr321, h⟩ := hq
          refine T0_e rfl (eff_call Try.func55 nm55 rfl (ev3 rfl rfl rfl) (levitate_bound_ok [] _ (LtL.nil _) v7 p_proof.Form (h285.sub (fun _ h => by cases h)) x283 p_proof.Level r320 hr321) ?_)
          rintro _ wd322 ⟨he323, rfl⟩
          have e324 := e273.trans he323
          refine T0_e rfl (eff_buildTC (xs := ([r320] : List Int)) (cells := [(.int .i64 r320)]) Try.underlying23 ei3 rfl (pc_cons rfl rfl pc_nil) rfl (Elems.cons (cs := [(.int .i64 r320)]) rfl Elems.nil) rfl (ltl_own (hL.chg e324) (h279.ext he323)) ?_)
          intro b328 wd325 he326 h327
          have e329 := he323.trans he326
          have e330 := e324.trans he326
          have hq := bind_elim h
          clear h
          obtain ⟨zs332, hz333, h⟩ := hq
          refine T0_e rfl (eff_app Try.underlying23 ei3 rfl rfl rfl rfl (h279.ext e329) h327 hz333 ?_)
          intro v334 wd335 hc336 hbl337 h338
          have hn340 : blk v334 ≠ some b19 := ne_swap hbl337 hn288 (hB287.ext e329)
          have hf341 := fresh_swap hbl337 hf280 e330.size
          have h342 := (h285.ext e329).step (Stepp.swap hc336 hbl337)
          have h343 := (hB287.ext e329).chg hc336 (avoid1 hn288)
          have h344 := h327.step (Stepp.swap hc336 hbl337)
          have e345 := chg_own e330 hc336 hf280
          refine T0_q (v := v334) rfl (yl_assign rfl) ?_
          refine T0_nil ?_
          refine hK318 _ _ ?_
          refine WC_region ?_
          refine T0_q (v := (.int .i64 (w64 (x283 + 1)))) rfl (yl_add hs284 rfl) ?_
          refine T0_q (v := (.int .i64 (w64 (x283 + 1)))) rfl (yl_move rfl) ?_
          refine T0_nil ?_
          replace h := some_out h
          subst h
          refine hK312 _ _ _ rfl ?_
          exact ⟨zs332, w64 (x283 + 1), v334, rfl, hs274, rfl, hs282, rfl, h342, h343, h338, hf341, hn340, e345⟩
        · clear hK312 hK315 hK316
          replace h := cond_f hb317 h
          refine WC_exit ?_
          replace h := some_out h
          subst h
          have ho := hx311 _ rfl
          subst ho
          refine hK313 _ _ ?_
          exact ⟨x277, v276, rfl, hs281, h279, hf280, e273⟩
      · clear hK102 hK125 hK127
        rintro ρ wd298 ⟨x302, v301, rfl, hs306, h304, hf305, e299⟩
        replace h := hn309
        refine hK126 _ _ ?_
        refine WC_seqK fun K347 hK347 => ?_
        refine WC_region ?_
        refine T0_q (v := v301) rfl (yl_move hs306) ?_
        refine T0_q (v := v301) rfl (yl_assign rfl) ?_
        refine T0_q (v := (.int .i64 0)) rfl (yl_assign rfl) ?_
        refine T0_nil ?_
        refine hK347 _ _ ?_
        refine WC_ret ?_
        replace h := some_out h
        subst h
        exact ⟨[v301, (.int .i64 0)], ⟨rfl, rfl, trivial⟩, e299, v301, rfl, (h304.rdL (sub_skip (sub_refl _)) hL hf305)⟩

noncomputable def levitate_openBox_spec (p_p : LevitatePlant) (p_box : (List Int)) : Option (levitate_plant × Int) :=
  (Option.bind (levitate_open_spec p_p) fun r30 =>
  (bif (!decide (r30.2 = 0)) then (
    some ((levitate_plant.mk (LevitatePlant.mk r30.1.LevitatePlant.Den r30.1.LevitatePlant.Maps r30.1.LevitatePlant.Noise)), r30.2)
  ) else (
    (Option.bind (levitate_plant_boxErr_spec (levitate_plant.mk (LevitatePlant.mk r30.1.LevitatePlant.Den r30.1.LevitatePlant.Maps r30.1.LevitatePlant.Noise)) p_box) fun r91 =>
    some ((levitate_plant.mk (LevitatePlant.mk r30.1.LevitatePlant.Den r30.1.LevitatePlant.Maps r30.1.LevitatePlant.Noise)), r91)
    )
  ))
  )
theorem levitate_openBox_ok (L : List Value) (w : World) (hL : LtL L w) (cs_p_p : List Value) (p_p : LevitatePlant) (h_p_p : Rep.rd L w cs_p_p p_p) (v_p_box : Value) (p_box : (List Int)) (h_p_box : SlRd L w v_p_box p_box) (r : levitate_plant × Int) (h : levitate_openBox_spec p_p p_box = some r) :
    CallsTo Try.prog 48 [(.agg cs_p_p.toArray), v_p_box] w (fun v w' => Ext w w' ∧ ∃ (cs0 : List Value), (.tuple #[(.agg cs0.toArray), (.int .i64 r.2)]) = v ∧ Rep.rd L w' cs0 r.1) := by
  have e0 : Ext w w := Chg.refl _ _
  obtain ⟨v1, v3, h2, h4, rfl⟩ := h_p_p
  refine callsTo_of_WC (n := 21) (rs := [.cell 4 89, .tmp 5]) Try.func48 rfl rfl rfl rfl rfl ?_
  refine WC_seqK fun K8 hK8 => ?_
  refine WC_region ?_
  refine T0_e rfl (eff_boxC (cs := [(.int .i64 p_p.Den), v1, v3]) rfl rfl ?_)
  intro b9 wd10 hb11 he12 hB13
  have hbf14 := bfresh e0 hb11
  have e15 := e0.trans he12
  refine T0_e rfl (eff_allocZ zi89 ?_)
  intro b17 wd18 hb19 he20 hB21
  have hn22 : b17 ≠ b9 := box_ne hB13 hb19
  have hbf23 := bfresh e15 hb19
  have h24 := (h2.ext he12).step (add_box he20 hb19)
  have h25 := (h4.ext he12).step (add_box he20 hb19)
  have h26 := (h_p_box.ext he12).step (add_box he20 hb19)
  have e27 := e15.trans he20
  refine T0_q (v := (.int .i64 0)) rfl (yl_assign rfl) ?_
  refine T0_nil ?_
  refine hK8 _ _ ?_
  refine WC_seqK fun K29 hK29 => ?_
  refine WC_region ?_
  refine T0_q (v := (.agg (List.toArray [(.int .i64 p_p.Den), v1, v3]))) rfl (yl_loadA (cs := [(.int .i64 p_p.Den), v1, v3]) ag25 rfl (Box.at (hB13.ext he20))) ?_
  have hq := bind_elim h
  clear h
  obtain ⟨r30, hr31, h⟩ := hq
  refine T0_e rfl (eff_call Try.func74 nm74 rfl (ev1 rfl) (levitate_open_ok ((.pointer (some ⟨b17, 0, none⟩)) :: L) _ (ltl_box (hL.chg e27) hB21) [(.int .i64 p_p.Den), v1, v3] p_p ⟨v1, v3, h24, h25, rfl⟩ r30 hr31) ?_)
  rintro _ wd32 ⟨he33, cs38, rfl, hrd39⟩
  have e40 := he20.trans he33
  have e41 := e27.trans he33
  obtain ⟨v34, v36, h35, h37, rfl⟩ := hrd39
  refine T0_q (v := (.tuple #[(.agg (List.toArray [(.int .i64 r30.1.LevitatePlant.Den), v34, v36])), (.int .i64 r30.2)])) rfl (yl_move rfl) ?_
  refine T0_q (v := (.agg (List.toArray [(.int .i64 r30.1.LevitatePlant.Den), v34, v36]))) rfl (yl_extract rfl rfl) ?_
  refine T0_q (v := (.int .i64 r30.2)) rfl (yl_extract rfl rfl) ?_
  refine T0_e rfl (eff_allocZ zi89 ?_)
  intro b44 wd45 hb46 he47 hB48
  have hn49 : b44 ≠ b9 := box_ne (hB13.ext e40) hb46
  have hn50 : b44 ≠ b17 := box_ne (hB21.ext he33) hb46
  have hbf51 := bfresh e41 hb46
  have h52 := (h24.ext he33).step (add_box he47 hb46)
  have h53 := (h25.ext he33).step (add_box he47 hb46)
  have h54 := (h26.ext he33).step (add_box he47 hb46)
  have h55 := h35.step (add_box he47 hb46)
  have h56 := h37.step (add_box he47 hb46)
  have e57 := e40.trans he47
  have e58 := he33.trans he47
  have e59 := e41.trans he47
  refine T0_e rfl (eff_storeC (vs := [(.int .i64 r30.1.LevitatePlant.Den), v34, v36]) (cs' := [(.int .i64 r30.1.LevitatePlant.Den), v34, v36]) sz89 rfl rfl rfl rfl hB48 rfl (oc_cons rfl (oc_cons h55.one1 (oc_cons h56.one1 oc_nil))) rfl ?_)
  intro wd61 hc62 hB63
  have h64 := h52.step (Stepp.chg_mem hc62 mem0)
  have h65 := h53.step (Stepp.chg_mem hc62 mem0)
  have h66 := h54.step (Stepp.chg_mem hc62 mem0)
  have h67 := (hB13.ext e57).chg hc62 (avoidb hn49)
  have h68 := (hB21.ext e58).chg hc62 (avoidb hn50)
  have h69 := h55.step (Stepp.chg_mem hc62 mem0)
  have h70 := h56.step (Stepp.chg_mem hc62 mem0)
  have e71 := chg_box e59 hc62 hbf51
  refine T0_q (v := (.int .i64 r30.2)) rfl (yl_assign rfl) ?_
  refine T0_nil ?_
  refine hK29 _ _ ?_
  refine WC_seqK fun K72 hK72 => ?_
  refine WC_seqK fun K73 hK73 => ?_
  refine WC_region ?_
  refine T0_q (v := (.int .i64 r30.2)) rfl (yl_move rfl) ?_
  refine T0_q (v := (.bool (!decide (r30.2 = 0)))) rfl (yl_neq rfl rfl) ?_
  refine T0_nil ?_
  refine hK73 _ _ ?_
  refine WC_cond (b := (!decide (r30.2 = 0))) rfl (fun hb74 => ?_) (fun hb74 => ?_)
  · clear hK29 hK72 hK73 hK8
    replace h := cond_t hb74 h
    refine WC_seqK fun K75 hK75 => ?_
    refine WC_region ?_
    refine T0_q (v := (.agg (List.toArray [(.int .i64 r30.1.LevitatePlant.Den), v34, v36]))) rfl (yl_loadA (cs := [(.int .i64 r30.1.LevitatePlant.Den), v34, v36]) ag89 rfl (Box.at hB63)) ?_
    refine T0_q (v := (.int .i64 r30.2)) rfl (yl_move rfl) ?_
    refine T0_e rfl (eff_storeC (vs := [(.int .i64 r30.1.LevitatePlant.Den), v34, v36]) (cs' := [(.int .i64 r30.1.LevitatePlant.Den), v34, v36]) sz89 rfl rfl rfl rfl h68 rfl (oc_cons rfl (oc_cons h69.one1 (oc_cons h70.one1 oc_nil))) rfl ?_)
    intro wd76 hc77 hB78
    have h79 := h64.step (Stepp.chg_mem hc77 (memS mem0))
    have h80 := h65.step (Stepp.chg_mem hc77 (memS mem0))
    have h81 := h66.step (Stepp.chg_mem hc77 (memS mem0))
    have h82 := h67.chg hc77 (avoidb hn22)
    have h83 := h69.step (Stepp.chg_mem hc77 (memS mem0))
    have h84 := h70.step (Stepp.chg_mem hc77 (memS mem0))
    have h85 := hB63.chg hc77 (avoidb hn50.symm)
    have e86 := chg_box e71 hc77 hbf23
    refine T0_q (v := (.int .i64 r30.2)) rfl (yl_assign rfl) ?_
    refine T0_nil ?_
    refine hK75 _ _ ?_
    refine WC_ret ?_
    replace h := some_out h
    subst h
    exact ⟨[(.agg (List.toArray [(.int .i64 r30.1.LevitatePlant.Den), v34, v36])), (.int .i64 r30.2)], ⟨⟨_, rfl, run_loadVarA (cs := [(.int .i64 r30.1.LevitatePlant.Den), v34, v36]) ag89 (Box.at hB78)⟩, rfl, trivial⟩, e86, [(.int .i64 r30.1.LevitatePlant.Den), v34, v36], rfl, ⟨v34, v36, (h83.sub (sub_skip (sub_skip (sub_refl _)))), (h84.sub (sub_skip (sub_skip (sub_refl _)))), rfl⟩⟩
  · clear hK29 hK73 hK8
    replace h := cond_f hb74 h
    refine WC_skip ?_
    refine hK72 _ _ ?_
    refine WC_seqK fun K87 hK87 => ?_
    refine WC_planX mixed (.p 2 (.q 0 (.q 1 (.e 3 (.b 4 (.p 5 .done)))))) (by kernel_rfl) ?_
    intro wd88 he89
    have e90 := e71.trans he89
    refine TX_p (v := v_p_box) rfl rfl (fun w' => (yl_move rfl)) ?_
    refine TX_q (v := (.agg (List.toArray [(.int .i64 r30.1.LevitatePlant.Den), v34, v36]))) rfl rfl (fun w' hS => (yl_loadA (cs := [(.int .i64 r30.1.LevitatePlant.Den), v34, v36]) ag89 rfl (Box.at (hB63.ext (he89.trans hS))))) ?_
    refine TX_q (v := (.agg (List.toArray [(.int .i64 r30.1.LevitatePlant.Den), v34, v36]))) rfl rfl (fun w' hS => (yl_loadA (cs := [(.int .i64 r30.1.LevitatePlant.Den), v34, v36]) ag89 rfl (Box.at (hB63.ext (he89.trans hS))))) ?_
    have hq := bind_elim h
    clear h
    obtain ⟨r91, hr92, h⟩ := hq
    refine TX_e rfl rfl (eff_call Try.func75 nm75 rfl (ev2 rfl rfl) (levitate_plant_boxErr_ok [] _ (LtL.nil _) [(.int .i64 r30.1.LevitatePlant.Den), v34, v36] (levitate_plant.mk (LevitatePlant.mk r30.1.LevitatePlant.Den r30.1.LevitatePlant.Maps r30.1.LevitatePlant.Noise)) ⟨v34, v36, ((h69.ext he89).sub (fun _ h => by cases h)), ((h70.ext he89).sub (fun _ h => by cases h)), rfl⟩ v_p_box p_box ((h66.ext he89).sub (fun _ h => by cases h)) r91 hr92) ?_)
    rintro _ wd93 ⟨he94, rfl⟩
    have e95 := he89.trans he94
    have e96 := e90.trans he94
    refine ⟨he94, ?_⟩
    refine TX_b rfl rfl (eff_storeC (vs := [(.int .i64 r30.1.LevitatePlant.Den), v34, v36]) (cs' := [(.int .i64 r30.1.LevitatePlant.Den), v34, v36]) sz89 rfl rfl rfl rfl (h68.ext e95) rfl (oc_cons rfl (oc_cons h69.one1 (oc_cons h70.one1 oc_nil))) rfl ?_)
    intro wd97 hc98 hB99
    have h100 := (h64.ext e95).step (Stepp.chg_mem hc98 (memS mem0))
    have h101 := (h65.ext e95).step (Stepp.chg_mem hc98 (memS mem0))
    have h102 := (h66.ext e95).step (Stepp.chg_mem hc98 (memS mem0))
    have h103 := (h67.ext e95).chg hc98 (avoidb hn22)
    have h104 := (h69.ext e95).step (Stepp.chg_mem hc98 (memS mem0))
    have h105 := (h70.ext e95).step (Stepp.chg_mem hc98 (memS mem0))
    have h106 := (hB63.ext e95).chg hc98 (avoidb hn50.symm)
    have e107 := chg_box e96 hc98 hbf23
    refine TX_p (v := (.int .i64 r91)) rfl rfl (fun w' => (yl_assign rfl)) ?_
    refine TX_done ?_
    refine hK87 _ _ ?_
    refine WC_ret ?_
    replace h := some_out h
    subst h
    exact ⟨[(.agg (List.toArray [(.int .i64 r30.1.LevitatePlant.Den), v34, v36])), (.int .i64 r91)], ⟨⟨_, rfl, run_loadVarA (cs := [(.int .i64 r30.1.LevitatePlant.Den), v34, v36]) ag89 (Box.at hB99)⟩, rfl, trivial⟩, e107, [(.int .i64 r30.1.LevitatePlant.Den), v34, v36], rfl, ⟨v34, v36, (h104.sub (sub_skip (sub_skip (sub_refl _)))), (h105.sub (sub_skip (sub_skip (sub_refl _)))), rfl⟩⟩

noncomputable def levitate_LeastBox_s0 (r18 : (levitate_plant × Int)) : ((List Int) × Bool × Int × Int) → Option (((List Int) × Bool × Int × Int) ⊕ (((List Int) × Int) ⊕ ((List Int)))) := fun (x425, x432, x438, x439) =>
  (bif x432 then (
    (Option.bind (levitate_plant_need_spec (levitate_plant.mk (LevitatePlant.mk r18.1.LevitatePlant.Den r18.1.LevitatePlant.Maps r18.1.LevitatePlant.Noise)) x438 x439 x425) fun r471 =>
    (Option.bind (idx x425 x439) fun el477 =>
    (Option.bind (idx (x425.set (x439 : Int).toNat r471) x439) fun el492 =>
    (bif (decide (100000 < el492)) then (
      some (.inr (.inl (([] : (List Int)), 24)))
    ) else (
      (Option.bind (levitate_plant_broken_spec (levitate_plant.mk (LevitatePlant.mk r18.1.LevitatePlant.Den r18.1.LevitatePlant.Maps r18.1.LevitatePlant.Noise)) (x425.set (x439 : Int).toNat r471)) fun r525 =>
      some (.inl ((x425.set (x439 : Int).toNat r471), r525.2, r525.1.Map, r525.1.Row))
      )
    ))
    )
    )
    )
  ) else (
    some (.inr (.inr x425))
  ))
noncomputable def levitate_LeastBox_spec (p_p : LevitatePlant) (p_start : (List Int)) : Option ((List Int) × Int) :=
  (Option.bind (levitate_openBox_spec p_p p_start) fun r18 =>
  (bif (!decide (r18.2 = 0)) then (
    some (([] : (List Int)), r18.2)
  ) else (
    (Option.bind (slices_Clone_int_spec p_start) fun r62 =>
    (Option.bind (levitate_plant_broken_spec (levitate_plant.mk (LevitatePlant.mk r18.1.LevitatePlant.Den r18.1.LevitatePlant.Maps r18.1.LevitatePlant.Noise)) r62) fun r82 =>
    (Option.bind (loop (levitate_LeastBox_s0 r18) (r62, r82.2, r82.1.Map, r82.1.Row)) fun o455 => jn0 o455 fun (x450 : (List Int)) =>
    some (x450, 0)
    )
    )
    )
  ))
  )
theorem levitate_LeastBox_ok (L : List Value) (w : World) (hL : LtL L w) (cs_p_p : List Value) (p_p : LevitatePlant) (h_p_p : Rep.rd L w cs_p_p p_p) (v_p_start : Value) (p_start : (List Int)) (h_p_start : SlRd L w v_p_start p_start) (r : (List Int) × Int) (h : levitate_LeastBox_spec p_p p_start = some r) :
    CallsTo Try.prog 22 [(.agg cs_p_p.toArray), v_p_start] w (fun v w' => Ext w w' ∧ ∃ (v0 : Value), (.tuple #[v0, (.int .i64 r.2)]) = v ∧ SlRd L w' v0 r.1) := by
  have e0 : Ext w w := Chg.refl _ _
  obtain ⟨v1, v3, h2, h4, rfl⟩ := h_p_p
  refine callsTo_of_WC (n := 54) (rs := [.tmp 4, .tmp 5]) Try.func22 rfl rfl rfl rfl rfl ?_
  refine WC_seqK fun K8 hK8 => ?_
  refine WC_region ?_
  refine T0_e rfl (eff_boxC (cs := [(.int .i64 p_p.Den), v1, v3]) rfl rfl ?_)
  intro b9 wd10 hb11 he12 hB13
  have hbf14 := bfresh e0 hb11
  have e15 := e0.trans he12
  refine T0_q (v := (.slice none 0 0)) rfl (yl_assign rfl) ?_
  refine T0_q (v := (.int .i64 0)) rfl (yl_assign rfl) ?_
  refine T0_nil ?_
  refine hK8 _ _ ?_
  refine WC_seqK fun K17 hK17 => ?_
  refine WC_region ?_
  refine T0_q (v := (.agg (List.toArray [(.int .i64 p_p.Den), v1, v3]))) rfl (yl_loadA (cs := [(.int .i64 p_p.Den), v1, v3]) ag25 rfl (Box.at hB13)) ?_
  refine T0_q (v := v_p_start) rfl (yl_move rfl) ?_
  have hq := bind_elim h
  clear h
  obtain ⟨r18, hr19, h⟩ := hq
  refine T0_e rfl (eff_call Try.func48 nm48 rfl (ev2 rfl rfl) (levitate_openBox_ok L _ (hL.chg e15) [(.int .i64 p_p.Den), v1, v3] p_p ⟨v1, v3, (h2.ext he12), (h4.ext he12), rfl⟩ v_p_start p_start (h_p_start.ext he12) r18 hr19) ?_)
  rintro _ wd20 ⟨he21, cs26, rfl, hrd27⟩
  have e28 := he12.trans he21
  have e29 := e15.trans he21
  obtain ⟨v22, v24, h23, h25, rfl⟩ := hrd27
  refine T0_q (v := (.tuple #[(.agg (List.toArray [(.int .i64 r18.1.LevitatePlant.Den), v22, v24])), (.int .i64 r18.2)])) rfl (yl_move rfl) ?_
  refine T0_q (v := (.agg (List.toArray [(.int .i64 r18.1.LevitatePlant.Den), v22, v24]))) rfl (yl_extract rfl rfl) ?_
  refine T0_q (v := (.int .i64 r18.2)) rfl (yl_extract rfl rfl) ?_
  refine T0_e rfl (eff_allocZ zi89 ?_)
  intro b32 wd33 hb34 he35 hB36
  have hn37 : b32 ≠ b9 := box_ne (hB13.ext he21) hb34
  have hbf38 := bfresh e29 hb34
  have h39 := (h2.ext e28).step (add_box he35 hb34)
  have h40 := (h4.ext e28).step (add_box he35 hb34)
  have h41 := (h_p_start.ext e28).step (add_box he35 hb34)
  have h42 := h23.step (add_box he35 hb34)
  have h43 := h25.step (add_box he35 hb34)
  have e44 := he21.trans he35
  have e45 := e29.trans he35
  refine T0_e rfl (eff_storeC (vs := [(.int .i64 r18.1.LevitatePlant.Den), v22, v24]) (cs' := [(.int .i64 r18.1.LevitatePlant.Den), v22, v24]) sz89 rfl rfl rfl rfl hB36 rfl (oc_cons rfl (oc_cons h42.one1 (oc_cons h43.one1 oc_nil))) rfl ?_)
  intro wd47 hc48 hB49
  have h50 := h39.step (Stepp.chg_mem hc48 mem0)
  have h51 := h40.step (Stepp.chg_mem hc48 mem0)
  have h52 := h41.step (Stepp.chg_mem hc48 mem0)
  have h53 := (hB13.ext e44).chg hc48 (avoidb hn37)
  have h54 := h42.step (Stepp.chg_mem hc48 mem0)
  have h55 := h43.step (Stepp.chg_mem hc48 mem0)
  have e56 := chg_box e45 hc48 hbf38
  refine T0_q (v := (.int .i64 r18.2)) rfl (yl_assign rfl) ?_
  refine T0_nil ?_
  refine hK17 _ _ ?_
  refine WC_seqK fun K57 hK57 => ?_
  refine WC_seqK fun K58 hK58 => ?_
  refine WC_region ?_
  refine T0_q (v := (.int .i64 r18.2)) rfl (yl_move rfl) ?_
  refine T0_q (v := (.bool (!decide (r18.2 = 0)))) rfl (yl_neq rfl rfl) ?_
  refine T0_nil ?_
  refine hK58 _ _ ?_
  refine WC_cond (b := (!decide (r18.2 = 0))) rfl (fun hb59 => ?_) (fun hb59 => ?_)
  · clear hK17 hK57 hK58 hK8
    replace h := cond_t hb59 h
    refine WC_seqK fun K60 hK60 => ?_
    refine WC_region ?_
    refine T0_q (v := (.int .i64 r18.2)) rfl (yl_move rfl) ?_
    refine T0_q (v := (.slice none 0 0)) rfl (yl_assign rfl) ?_
    refine T0_q (v := (.int .i64 r18.2)) rfl (yl_assign rfl) ?_
    refine T0_nil ?_
    refine hK60 _ _ ?_
    refine WC_ret ?_
    replace h := some_out h
    subst h
    exact ⟨[(.slice none 0 0), (.int .i64 r18.2)], ⟨rfl, rfl, trivial⟩, e56, (.slice none 0 0), rfl, (SlRd.nil _ _)⟩
  · clear hK17 hK58 hK8
    replace h := cond_f hb59 h
    refine WC_skip ?_
    refine hK57 _ _ ?_
    refine WC_seqK fun K61 hK61 => ?_
    refine WC_region ?_
    refine T0_q (v := v_p_start) rfl (yl_move rfl) ?_
    have hq := bind_elim h
    clear h
    obtain ⟨r62, hr63, h⟩ := hq
    refine T0_e rfl (eff_call Try.func49 nm49 rfl (ev1 rfl) (slices_Clone_int_own ((.pointer (some ⟨b32, 0, none⟩)) :: L) _ (ltl_box (hL.chg e56) hB49) v_p_start p_start h52 r62 hr63) ?_)
    rintro _ wd64 ⟨he65, v66, rfl, hf68, h67⟩
    have h69 := h50.step (Stepp.add v66 he65 hf68)
    have h70 := h51.step (Stepp.add v66 he65 hf68)
    have h71 := h52.step (Stepp.add v66 he65 hf68)
    have h72 := h54.step (Stepp.add v66 he65 hf68)
    have h73 := h55.step (Stepp.add v66 he65 hf68)
    have hn75 : blk v66 ≠ some b9 := fun e => by have := hf68 _ e; have := h53.lt; omega
    have hn76 : blk v66 ≠ some b32 := fun e => by have := hf68 _ e; have := hB49.lt; omega
    have hf77 : ∀ b, blk v66 = some b → w.heap.size ≤ b := fun b hb => Nat.le_trans e56.size (hf68 b hb)
    have e78 := e56.trans he65
    refine T0_q (v := v66) rfl (yl_assign rfl) ?_
    refine T0_nil ?_
    refine hK61 _ _ ?_
    refine WC_seqK fun K80 hK80 => ?_
    refine WC_seqK fun K81 hK81 => ?_
    refine WC_region ?_
    refine T0_q (v := (.agg (List.toArray [(.int .i64 r18.1.LevitatePlant.Den), v22, v24]))) rfl (yl_loadA (cs := [(.int .i64 r18.1.LevitatePlant.Den), v22, v24]) ag89 rfl (Box.at (hB49.ext he65))) ?_
    refine T0_q (v := v66) rfl (yl_move rfl) ?_
    have hq := bind_elim h
    clear h
    obtain ⟨r82, hr83, h⟩ := hq
    refine T0_e rfl (eff_call Try.func50 nm50 rfl (ev2 rfl rfl) (levitate_plant_broken_ok [] _ (LtL.nil _) [(.int .i64 r18.1.LevitatePlant.Den), v22, v24] (levitate_plant.mk (LevitatePlant.mk r18.1.LevitatePlant.Den r18.1.LevitatePlant.Maps r18.1.LevitatePlant.Noise)) ⟨v22, v24, (h72.sub (fun _ h => by cases h)), (h73.sub (fun _ h => by cases h)), rfl⟩ v66 r62 (h67.rdL (fun _ h => by cases h) (LtL.nil w) hf77) r82 hr83) ?_)
    rintro _ wd84 ⟨he85, cs86, rfl, hrd87⟩
    have e88 := he65.trans he85
    have e89 := e78.trans he85
    have hrd87 : cs86 = [(.int .i64 r82.1.Map), (.int .i64 r82.1.Row)] := hrd87
    subst hrd87
    refine T0_q (v := (.tuple #[(.agg (List.toArray [(.int .i64 r82.1.Map), (.int .i64 r82.1.Row)])), (.bool r82.2)])) rfl (yl_move rfl) ?_
    refine T0_q (v := (.agg (List.toArray [(.int .i64 r82.1.Map), (.int .i64 r82.1.Row)]))) rfl (yl_extract rfl rfl) ?_
    refine T0_q (v := (.bool r82.2)) rfl (yl_extract rfl rfl) ?_
    refine T0_e rfl (eff_allocZ zi29 ?_)
    intro b90 wd91 hb92 he93 hB94
    have hn95 : b90 ≠ b9 := box_ne (h53.ext e88) hb92
    have hn96 : b90 ≠ b32 := box_ne (hB49.ext e88) hb92
    have hn97 : blk v66 ≠ some b90 := ne_new_box (h67.ext he85) hb92
    have hbf98 := bfresh e89 hb92
    have h99 := (h69.ext he85).step (add_box he93 hb92)
    have h100 := (h70.ext he85).step (add_box he93 hb92)
    have h101 := (h71.ext he85).step (add_box he93 hb92)
    have h102 := (h72.ext he85).step (add_box he93 hb92)
    have h103 := (h73.ext he85).step (add_box he93 hb92)
    have h104 := (h67.ext he85).step (add_box he93 hb92) he93 (fun _ _ => Avoids.nil _)
    have e105 := e88.trans he93
    have e106 := e89.trans he93
    refine T0_e rfl (eff_storeC (vs := [(.int .i64 r82.1.Map), (.int .i64 r82.1.Row)]) (cs' := [(.int .i64 r82.1.Map), (.int .i64 r82.1.Row)]) sz29 rfl rfl rfl rfl hB94 rfl (oc_cons rfl (oc_cons rfl oc_nil)) rfl ?_)
    intro wd108 hc109 hB110
    have h111 := h99.step (Stepp.chg_mem hc109 mem0)
    have h112 := h100.step (Stepp.chg_mem hc109 mem0)
    have h113 := h101.step (Stepp.chg_mem hc109 mem0)
    have h114 := (h53.ext e105).chg hc109 (avoidb hn95)
    have h115 := h102.step (Stepp.chg_mem hc109 mem0)
    have h116 := h103.step (Stepp.chg_mem hc109 mem0)
    have h117 := (hB49.ext e105).chg hc109 (avoidb hn96)
    have h118 := h104.step (Stepp.chg_mem hc109 mem0) hc109 (av_box hn97)
    have e119 := chg_box e106 hc109 hbf98
    refine T0_q (v := (.bool r82.2)) rfl (yl_assign rfl) ?_
    refine T0_nil ?_
    refine hK81 _ _ ?_
    have hq := bind_elim h
    clear h
    obtain ⟨o455, hl456, hn457⟩ := hq
    refine WC_post (fun (ρ : Env) (wd446 : World) => ∃ (x450 : (List Int)) (v449 : Value), .inr x450 = o455 ∧ ρ 8 = v449 ∧ Own 3 (v449 :: L) wd446 v449 x450 ∧ (∀ b, blk v449 = some b → w.heap.size ≤ b) ∧ Ext w wd446) ?_ ?_
    · clear hK57 hK61 hK80 hK81
      intro K461 hK461
      refine WC_block ?_
      refine WC_loopk (fun sv ρ wd420 => ∃ (x425 : (List Int)) (x432 : Bool) (x438 : Int) (x439 : Int) (v424 : Value) (b430 : Nat), (x425, x432, x438, x439) = sv ∧ ρ 6 = (.pointer (some ⟨b32, 0, none⟩)) ∧ ρ 8 = v424 ∧ ρ 9 = (.pointer (some ⟨b430, 0, none⟩)) ∧ ρ 10 = (.bool x432) ∧ SlRd (v424 :: (.pointer (some ⟨b32, 0, none⟩)) :: (.pointer (some ⟨b430, 0, none⟩)) :: L) wd420 v22 r18.1.LevitatePlant.Maps ∧ SlRd (v424 :: (.pointer (some ⟨b32, 0, none⟩)) :: (.pointer (some ⟨b430, 0, none⟩)) :: L) wd420 v24 r18.1.LevitatePlant.Noise ∧ Box wd420 b32 [(.int .i64 r18.1.LevitatePlant.Den), v22, v24] 89 ∧ Box wd420 b430 [(.int .i64 x438), (.int .i64 x439)] 29 ∧ Own 3 (v424 :: (.pointer (some ⟨b32, 0, none⟩)) :: (.pointer (some ⟨b430, 0, none⟩)) :: L) wd420 v424 x425 ∧ (∀ b, blk v424 = some b → w.heap.size ≤ b) ∧ (blk v424 ≠ some b32) ∧ (blk v424 ≠ some b430) ∧ (w.heap.size ≤ b430) ∧ (b32 ≠ b430) ∧ Ext w wd420) hl456 ⟨r62, r82.2, r82.1.Map, r82.1.Row, v66, b90, rfl, rfl, rfl, rfl, rfl, (h115.sub (sub_cons (memS mem0) (sub_cons (memS (memS mem0)) (sub_cons mem0 (sub_skip (sub_skip (sub_skip (sub_refl _)))))))), (h116.sub (sub_cons (memS mem0) (sub_cons (memS (memS mem0)) (sub_cons mem0 (sub_skip (sub_skip (sub_skip (sub_refl _)))))))), h117, hB110, (h118.sub (sub_cons (memS mem0) (sub_cons (memS (memS mem0)) (sub_cons mem0 (sub_skip (sub_skip (sub_skip (sub_refl _)))))))), hf77, hn76, hn97, hbf98, hn96.symm, e119⟩ ?_
      rintro _ ρ wd420 ⟨x425, x432, x438, x439, v424, b430, rfl, hs422, hs429, hs431, hs433, h434, h435, hB437, hB441, h427, hf428, hn442, hn443, hf444, hn445, e421⟩ x458 h hx459 K460 hK460
      refine WC_seqK fun K463 hK463 => ?_
      refine WC_seqK fun K464 hK464 => ?_
      refine WC_region ?_
      refine T0_q (v := (.bool x432)) rfl (yl_move hs433) ?_
      refine T0_nil ?_
      refine hK464 _ _ ?_
      refine WC_cond (b := x432) rfl (fun hb465 => ?_) (fun hb465 => ?_)
      · clear hK461 hK464
        replace h := cond_t hb465 h
        refine WC_skip ?_
        refine hK463 _ _ ?_
        refine WC_seqK fun K466 hK466 => ?_
        refine WC_block ?_
        refine WC_seqK fun K467 hK467 => ?_
        refine WC_planX mixed (.p 0 (.p 1 (.p 4 (.p 6 (.p 8 (.q 2 (.q 3 (.q 5 (.q 7 (.e 9 (.p 10 (.b 11 .done)))))))))))) (by kernel_rfl) ?_
        intro wd468 he469
        have e470 := e421.trans he469
        refine TX_p (v := v424) rfl rfl (fun w' => (yl_move hs429)) ?_
        refine TX_p (v := (.pointer (some ⟨b430, 1, none⟩))) rfl rfl (fun w' => (yl_fa 1 Try.underlying29 rfl rfl ⟨0, sz3⟩ hs431 rfl)) ?_
        refine TX_p (v := (.pointer (some ⟨b430, 0, none⟩))) rfl rfl (fun w' => (yl_fa 0 Try.underlying29 rfl rfl ⟨0, sz3⟩ hs431 rfl)) ?_
        refine TX_p (v := (.pointer (some ⟨b430, 1, none⟩))) rfl rfl (fun w' => (yl_fa 1 Try.underlying29 rfl rfl ⟨0, sz3⟩ hs431 rfl)) ?_
        refine TX_p (v := v424) rfl rfl (fun w' => (yl_move hs429)) ?_
        refine TX_q (v := (.int .i64 x439)) rfl rfl (fun w' hS => (yl_load sc3 rfl (At.drop (Box.at (hB441.ext (he469.trans hS))) 1))) ?_
        refine TX_q (v := (.agg (List.toArray [(.int .i64 r18.1.LevitatePlant.Den), v22, v24]))) rfl rfl (fun w' hS => (yl_loadA (cs := [(.int .i64 r18.1.LevitatePlant.Den), v22, v24]) ag89 hs422 (Box.at (hB437.ext (he469.trans hS))))) ?_
        refine TX_q (v := (.int .i64 x438)) rfl rfl (fun w' hS => (yl_load sc3 rfl (Box.at (hB441.ext (he469.trans hS))))) ?_
        refine TX_q (v := (.int .i64 x439)) rfl rfl (fun w' hS => (yl_load sc3 rfl (At.drop (Box.at (hB441.ext (he469.trans hS))) 1))) ?_
        have hq := bind_elim h
        clear h
        obtain ⟨r471, hr472, h⟩ := hq
        refine TX_e rfl rfl (eff_call Try.func51 nm51 rfl (ev4 rfl rfl rfl rfl) (levitate_plant_need_ok [] _ (LtL.nil _) [(.int .i64 r18.1.LevitatePlant.Den), v22, v24] (levitate_plant.mk (LevitatePlant.mk r18.1.LevitatePlant.Den r18.1.LevitatePlant.Maps r18.1.LevitatePlant.Noise)) ⟨v22, v24, ((h434.ext he469).sub (fun _ h => by cases h)), ((h435.ext he469).sub (fun _ h => by cases h)), rfl⟩ x438 x439 v424 x425 ((h427.ext he469).rdL (fun _ h => by cases h) (LtL.nil w) hf428) r471 hr472) ?_)
        rintro _ wd473 ⟨he474, rfl⟩
        have e475 := he469.trans he474
        have e476 := e470.trans he474
        refine ⟨he474, ?_⟩
        have hq := bind_elim h
        clear h
        obtain ⟨el477, hel478, h⟩ := hq
        have hq := Own.at h427 hel478
        obtain ⟨cs479, hat480, hrd481⟩ := hq
        have hrd481 : cs479 = [(.int .i64 el477)] := hrd481
        subst hrd481
        refine TX_p (v := (.pointer (some (elemAddr v424 (x439 : Int).toNat 1)))) rfl rfl (fun w' => (yl_indexAddrO Try.underlying23 sz3 h427 hel478 rfl rfl)) ?_
        refine TX_b rfl rfl (eff_storeOC (vs := [(.int .i64 r471)]) (off := 0) (y' := r471) sz3 rfl rfl (h427.ext e475) mem0 hel478 rfl rfl rfl (oc_cons rfl oc_nil) (fun w' cs hcs => by have hcs : cs = [(.int .i64 el477)] := hcs; subst hcs; rfl) ?_)
        intro wd483 hc484 hB485
        have h486 := (h434.ext e475).step (Stepp.chg_mem hc484 mem0)
        have h487 := (h435.ext e475).step (Stepp.chg_mem hc484 mem0)
        have h488 := (hB437.ext e475).chg hc484 (avoid1 hn442)
        have h489 := (hB441.ext e475).chg hc484 (avoid1 hn443)
        have e490 := chg_own e476 hc484 hf428
        refine TX_done ?_
        refine hK467 _ _ ?_
        refine WC_seqK fun K491 hK491 => ?_
        refine WC_region ?_
        refine T0_q (v := v424) rfl (yl_move hs429) ?_
        refine T0_q (v := (.pointer (some ⟨b430, 1, none⟩))) rfl (yl_fa 1 Try.underlying29 rfl rfl ⟨0, sz3⟩ hs431 rfl) ?_
        refine T0_q (v := (.int .i64 x439)) rfl (yl_load sc3 rfl (At.drop (Box.at h489) 1)) ?_
        have hq := bind_elim h
        clear h
        obtain ⟨el492, hel493, h⟩ := hq
        have hq := Own.at hB485 hel493
        obtain ⟨cs494, hat495, hrd496⟩ := hq
        have hrd496 : cs494 = [(.int .i64 el492)] := hrd496
        subst hrd496
        refine T0_q (v := (.pointer (some (elemAddr v424 (x439 : Int).toNat 1)))) rfl (yl_indexAddrO Try.underlying23 sz3 hB485 hel493 rfl rfl) ?_
        refine T0_q (v := (.int .i64 el492)) rfl (yl_load sc3 rfl hat495) ?_
        refine T0_q (v := (.bool (decide (100000 < el492)))) rfl (yl_gtr rfl rfl) ?_
        refine T0_nil ?_
        refine hK491 _ _ ?_
        refine WC_cond (b := (decide (100000 < el492))) rfl (fun hb498 => ?_) (fun hb498 => ?_)
        · clear hK460 hK463 hK466 hK467 hK491
          replace h := cond_t hb498 h
          refine WC_seqK fun K499 hK499 => ?_
          refine WC_region ?_
          refine T0_q (v := (.slice none 0 0)) rfl (yl_assign rfl) ?_
          refine T0_q (v := (.int .i64 24)) rfl (yl_assign rfl) ?_
          refine T0_nil ?_
          refine hK499 _ _ ?_
          refine WC_ret ?_
          replace h := some_out h
          subst h
          have ho := hx459 _ rfl
          subst ho
          replace h := jn0_inl hn457
          replace h := some_out h
          subst h
          exact ⟨[(.slice none 0 0), (.int .i64 24)], ⟨rfl, rfl, trivial⟩, e490, (.slice none 0 0), rfl, (SlRd.nil _ _)⟩
        · clear hK463 hK467 hK491
          replace h := cond_f hb498 h
          refine WC_skip ?_
          refine hK466 _ _ ?_
          refine WC_seqK fun K500 hK500 => ?_
          refine WC_seqK fun K501 hK501 => ?_
          refine WC_region ?_
          refine T0_q (v := (.agg (List.toArray [(.int .i64 x438), (.int .i64 x439)]))) rfl (yl_loadA (cs := [(.int .i64 x438), (.int .i64 x439)]) ag29 hs431 (Box.at h489)) ?_
          refine T0_nil ?_
          refine hK501 _ _ ?_
          refine WC_region ?_
          refine T0_e rfl (eff_allocZ zi29 ?_)
          intro b502 wd503 hb504 he505 hB506
          have hn507 : b502 ≠ b32 := box_ne h488 hb504
          have hn508 : b502 ≠ b430 := box_ne h489 hb504
          have hn509 : blk v424 ≠ some b502 := ne_new_box hB485 hb504
          have hbf510 := bfresh e490 hb504
          have h511 := hB485.step (add_box he505 hb504) he505 (fun _ _ => Avoids.nil _)
          have h512 := h486.step (add_box he505 hb504)
          have h513 := h487.step (add_box he505 hb504)
          have e514 := e490.trans he505
          refine T0_e rfl (eff_storeC (vs := [(.int .i64 x438), (.int .i64 x439)]) (cs' := [(.int .i64 x438), (.int .i64 x439)]) sz29 rfl rfl rfl rfl hB506 rfl (oc_cons rfl (oc_cons rfl oc_nil)) rfl ?_)
          intro wd516 hc517 hB518
          have h519 := h511.step (Stepp.chg_mem hc517 mem0) hc517 (av_box hn509)
          have h520 := h512.step (Stepp.chg_mem hc517 mem0)
          have h521 := h513.step (Stepp.chg_mem hc517 mem0)
          have h522 := (h488.ext he505).chg hc517 (avoidb hn507)
          have h523 := (h489.ext he505).chg hc517 (avoidb hn508)
          have e524 := chg_box e514 hc517 hbf510
          refine T0_nil ?_
          refine hK500 _ _ ?_
          refine WC_region ?_
          refine T0_q (v := (.agg (List.toArray [(.int .i64 r18.1.LevitatePlant.Den), v22, v24]))) rfl (yl_loadA (cs := [(.int .i64 r18.1.LevitatePlant.Den), v22, v24]) ag89 hs422 (Box.at h522)) ?_
          refine T0_q (v := v424) rfl (yl_move hs429) ?_
          have hq := bind_elim h
          clear h
          obtain ⟨r525, hr526, h⟩ := hq
          refine T0_e rfl (eff_call Try.func50 nm50 rfl (ev2 rfl rfl) (levitate_plant_broken_ok [] _ (LtL.nil _) [(.int .i64 r18.1.LevitatePlant.Den), v22, v24] (levitate_plant.mk (LevitatePlant.mk r18.1.LevitatePlant.Den r18.1.LevitatePlant.Maps r18.1.LevitatePlant.Noise)) ⟨v22, v24, (h520.sub (fun _ h => by cases h)), (h521.sub (fun _ h => by cases h)), rfl⟩ v424 (x425.set (x439 : Int).toNat r471) (h519.rdL (fun _ h => by cases h) (LtL.nil w) hf428) r525 hr526) ?_)
          rintro _ wd527 ⟨he528, cs529, rfl, hrd530⟩
          have e531 := e524.trans he528
          have hrd530 : cs529 = [(.int .i64 r525.1.Map), (.int .i64 r525.1.Row)] := hrd530
          subst hrd530
          refine T0_q (v := (.tuple #[(.agg (List.toArray [(.int .i64 r525.1.Map), (.int .i64 r525.1.Row)])), (.bool r525.2)])) rfl (yl_move rfl) ?_
          refine T0_q (v := (.agg (List.toArray [(.int .i64 r525.1.Map), (.int .i64 r525.1.Row)]))) rfl (yl_extract rfl rfl) ?_
          refine T0_q (v := (.bool r525.2)) rfl (yl_extract rfl rfl) ?_
          refine T0_e rfl (eff_storeC (vs := [(.int .i64 r525.1.Map), (.int .i64 r525.1.Row)]) (cs' := [(.int .i64 r525.1.Map), (.int .i64 r525.1.Row)]) sz29 rfl rfl rfl rfl (hB518.ext he528) rfl (oc_cons rfl (oc_cons rfl oc_nil)) rfl ?_)
          intro wd532 hc533 hB534
          have h535 := (h519.ext he528).step (Stepp.chg_mem hc533 mem0) hc533 (av_box hn509)
          have h536 := (h520.ext he528).step (Stepp.chg_mem hc533 mem0)
          have h537 := (h521.ext he528).step (Stepp.chg_mem hc533 mem0)
          have h538 := (h522.ext he528).chg hc533 (avoidb hn507)
          have h539 := (h523.ext he528).chg hc533 (avoidb hn508)
          have e540 := chg_box e531 hc533 hbf510
          refine T0_q (v := (.bool r525.2)) rfl (yl_assign rfl) ?_
          refine T0_nil ?_
          replace h := some_out h
          subst h
          refine hK460 _ _ _ rfl ?_
          exact ⟨(x425.set (x439 : Int).toNat r471), r525.2, r525.1.Map, r525.1.Row, v424, b502, rfl, hs422, hs429, rfl, rfl, (h536.sub (sub_cons (memS mem0) (sub_cons (memS (memS mem0)) (sub_cons mem0 (sub_skip (sub_skip (sub_skip (sub_skip (sub_refl _))))))))), (h537.sub (sub_cons (memS mem0) (sub_cons (memS (memS mem0)) (sub_cons mem0 (sub_skip (sub_skip (sub_skip (sub_skip (sub_refl _))))))))), h538, hB534, (h535.sub (sub_cons (memS mem0) (sub_cons (memS (memS mem0)) (sub_cons mem0 (sub_skip (sub_skip (sub_skip (sub_skip (sub_refl _))))))))), hf428, hn442, hn509, hbf510, hn507.symm, e540⟩
      · clear hK460 hK463 hK464
        replace h := cond_f hb465 h
        refine WC_exit ?_
        replace h := some_out h
        subst h
        have ho := hx459 _ rfl
        subst ho
        refine hK461 _ _ ?_
        exact ⟨x425, v424, rfl, hs429, (h427.sub (sub_cons mem0 (sub_skip (sub_skip (sub_skip (sub_refl _)))))), hf428, e421⟩
    · clear hK57 hK61 hK81
      rintro ρ wd446 ⟨x450, v449, rfl, hs454, h452, hf453, e447⟩
      replace h := jn0_inr hn457
      refine hK80 _ _ ?_
      refine WC_seqK fun K541 hK541 => ?_
      refine WC_region ?_
      refine T0_q (v := v449) rfl (yl_move hs454) ?_
      refine T0_q (v := v449) rfl (yl_assign rfl) ?_
      refine T0_q (v := (.int .i64 0)) rfl (yl_assign rfl) ?_
      refine T0_nil ?_
      refine hK541 _ _ ?_
      refine WC_ret ?_
      replace h := some_out h
      subst h
      exact ⟨[v449, (.int .i64 0)], ⟨rfl, rfl, trivial⟩, e447, v449, rfl, (h452.rdL (sub_skip (sub_refl _)) hL hf453)⟩

noncomputable def levitate_LeastLevel_1_spec (p_n : Int) (c5 : Int) (c8 : Arr2_Int) : Option Bool :=
  (Option.bind (levitate_kept_spec p_n c5 c8) fun r13 =>
  some r13
  )
theorem levitate_LeastLevel_1_ok (L : List Value) (w : World) (hL : LtL L w) (p_n : Int) (b1 : Nat) (b2 : Nat) (c5 : Int) (hB3 : Box w b1 [(.int .i64 c5)] 3) (cs9 : List Value) (c8 : Arr2_Int) (h10 : Rep.rd L w cs9 c8) (hB6 : Box w b2 cs9 48) (r : Bool) (h : levitate_LeastLevel_1_spec p_n c5 c8 = some r) :
    CallsTo Try.prog 61 [(.int .i64 p_n), (.pointer (some ⟨b1, 0, none⟩)), (.pointer (some ⟨b2, 0, none⟩))] w (fun v w' => Ext w w' ∧ (.bool r) = v) := by
  have e0 : Ext w w := Chg.refl _ _
  have h10 : cs9 = [(.int .i64 c8.e0), (.int .i64 c8.e1)] := h10
  subst h10
  refine callsTo_of_WC (n := 9) (rs := [.tmp 4]) Try.func61 rfl rfl rfl rfl rfl ?_
  refine WC_seqK fun K11 hK11 => ?_
  refine WC_region ?_
  refine T0_q (v := (.bool false)) rfl (yl_assign rfl) ?_
  refine T0_nil ?_
  refine hK11 _ _ ?_
  refine WC_seqK fun K12 hK12 => ?_
  refine WC_region ?_
  refine T0_q (v := (.int .i64 p_n)) rfl (yl_move rfl) ?_
  refine T0_q (v := (.int .i64 c5)) rfl (yl_load sc3 rfl (Box.at hB3)) ?_
  refine T0_q (v := (.agg (List.toArray [(.int .i64 c8.e0), (.int .i64 c8.e1)]))) rfl (yl_loadA (cs := [(.int .i64 c8.e0), (.int .i64 c8.e1)]) ag48 rfl (Box.at hB6)) ?_
  have hq := bind_elim h
  clear h
  obtain ⟨r13, hr14, h⟩ := hq
  refine T0_e rfl (eff_call Try.func53 nm53 rfl (ev3 rfl rfl rfl) (levitate_kept_ok [] _ (LtL.nil _) p_n c5 [(.int .i64 c8.e0), (.int .i64 c8.e1)] c8 rfl r13 hr14) ?_)
  rintro _ wd15 ⟨he16, rfl⟩
  have e17 := e0.trans he16
  refine T0_q (v := (.bool r13)) rfl (yl_assign rfl) ?_
  refine T0_nil ?_
  refine hK12 _ _ ?_
  refine WC_ret ?_
  replace h := some_out h
  subst h
  exact ⟨[(.bool r13)], ⟨rfl, trivial⟩, e17, rfl⟩

noncomputable def levitate_least_61_s0 (c5 : Int) (c8 : Arr2_Int) : (Int × Int) → Option ((Int × Int) ⊕ (Int)) := fun (x85, x87) =>
  (bif (decide (1 < w64 (x87 - x85))) then (
    (Option.bind (levitate_LeastLevel_1_spec (w64 (x85 + (w64 (Int.tdiv (w64 (x87 - x85)) 2)))) c5 c8) fun r111 =>
    (bif r111 then (
      some (.inl (x85, w64 (x85 + (w64 (Int.tdiv (w64 (x87 - x85)) 2)))))
    ) else (
      some (.inl (w64 (x85 + (w64 (Int.tdiv (w64 (x87 - x85)) 2))), x87))
    ))
    )
  ) else (
    some (.inr x87)
  ))
noncomputable def levitate_least_61_spec (p_most : Int) (c5 : Int) (c8 : Arr2_Int) : Option (Int × Bool) :=
  (Option.bind (loop (levitate_least_61_s0 c5 c8) (-1, w64 (p_most + 1))) fun (x96 : Int) =>
  some (x96, (decide (x96 ≤ p_most)))
  )
theorem levitate_least_61_ok (L : List Value) (w : World) (hL : LtL L w) (p_most : Int) (b1 : Nat) (b2 : Nat) (c5 : Int) (hB3 : Box w b1 [(.int .i64 c5)] 3) (cs9 : List Value) (c8 : Arr2_Int) (h10 : Rep.rd L w cs9 c8) (hB6 : Box w b2 cs9 48) (r : Int × Bool) (h : levitate_least_61_spec p_most c5 c8 = some r) :
    CallsTo Try.prog 60 [(.int .i64 p_most), (.func (.func 61) #[] (List.toArray [(.pointer (some ⟨b1, 0, none⟩)), (.pointer (some ⟨b2, 0, none⟩))]))] w (fun v w' => Ext w w' ∧ (.tuple #[(.int .i64 r.1), (.bool r.2)]) = v) := by
  have e0 : Ext w w := Chg.refl _ _
  have h10 : cs9 = [(.int .i64 c8.e0), (.int .i64 c8.e1)] := h10
  subst h10
  refine callsTo_of_WC (n := 30) (rs := [.tmp 4, .tmp 5]) Try.func60 rfl rfl rfl rfl rfl ?_
  refine WC_seqK fun K11 hK11 => ?_
  refine WC_region ?_
  refine T0_q (v := (.int .i64 0)) rfl (yl_assign rfl) ?_
  refine T0_q (v := (.bool false)) rfl (yl_assign rfl) ?_
  refine T0_nil ?_
  refine hK11 _ _ ?_
  refine WC_seqK fun K12 hK12 => ?_
  refine WC_region ?_
  refine T0_q (v := (.int .i64 p_most)) rfl (yl_move rfl) ?_
  refine T0_q (v := (.int .i64 (w64 (p_most + 1)))) rfl (yl_add rfl rfl) ?_
  refine T0_q (v := (.int .i64 (-1))) rfl (yl_assign rfl) ?_
  refine T0_q (v := (.int .i64 (w64 (p_most + 1)))) rfl (yl_assign rfl) ?_
  refine T0_nil ?_
  refine hK12 _ _ ?_
  refine WC_seqK fun K13 hK13 => ?_
  have hq := bind_elim h
  clear h
  obtain ⟨o98, hl99, hn100⟩ := hq
  refine WC_post (fun (ρ : Env) (wd93 : World) => ∃ (x96 : Int), x96 = o98 ∧ ρ 0 = (.int .i64 p_most) ∧ ρ 7 = (.int .i64 x96) ∧ Ext w wd93) ?_ ?_
  · clear hK11 hK12 hK13
    intro K104 hK104
    refine WC_block ?_
    refine WC_loopk (fun sv ρ wd81 => ∃ (x85 : Int) (x87 : Int), (x85, x87) = sv ∧ ρ 0 = (.int .i64 p_most) ∧ ρ 1 = (.func (.func 61) #[] (List.toArray [(.pointer (some ⟨b1, 0, none⟩)), (.pointer (some ⟨b2, 0, none⟩))])) ∧ ρ 6 = (.int .i64 x85) ∧ ρ 7 = (.int .i64 x87) ∧ Box wd81 b1 [(.int .i64 c5)] 3 ∧ Box wd81 b2 [(.int .i64 c8.e0), (.int .i64 c8.e1)] 48 ∧ Ext w wd81) hl99 ⟨-1, w64 (p_most + 1), rfl, rfl, rfl, rfl, rfl, hB3, hB6, e0⟩ ?_
    rintro _ ρ wd81 ⟨x85, x87, rfl, hs83, hs84, hs86, hs88, hB90, hB92, e82⟩ x101 h hx102 K103 hK103
    refine WC_seqK fun K106 hK106 => ?_
    refine WC_seqK fun K107 hK107 => ?_
    refine WC_region ?_
    refine T0_q (v := (.int .i64 x87)) rfl (yl_move hs88) ?_
    refine T0_q (v := (.int .i64 x85)) rfl (yl_move hs86) ?_
    refine T0_q (v := (.int .i64 (w64 (x87 - x85)))) rfl (yl_sub rfl rfl) ?_
    refine T0_q (v := (.bool (decide (1 < w64 (x87 - x85))))) rfl (yl_gtr rfl rfl) ?_
    refine T0_nil ?_
    refine hK107 _ _ ?_
    refine WC_cond (b := (decide (1 < w64 (x87 - x85)))) rfl (fun hb108 => ?_) (fun hb108 => ?_)
    · clear hK104 hK107
      replace h := cond_t hb108 h
      refine WC_skip ?_
      refine hK106 _ _ ?_
      refine WC_block ?_
      refine WC_seqK fun K109 hK109 => ?_
      refine WC_region ?_
      refine T0_q (v := (.int .i64 x85)) rfl (yl_move hs86) ?_
      refine T0_q (v := (.int .i64 x87)) rfl (yl_move hs88) ?_
      refine T0_q (v := (.int .i64 x85)) rfl (yl_move hs86) ?_
      refine T0_q (v := (.int .i64 (w64 (x87 - x85)))) rfl (yl_sub rfl rfl) ?_
      refine T0_q (v := (.int .i64 (w64 (Int.tdiv (w64 (x87 - x85)) 2)))) rfl (yl_quo (by decide) rfl rfl) ?_
      refine T0_q (v := (.int .i64 (w64 (x85 + (w64 (Int.tdiv (w64 (x87 - x85)) 2)))))) rfl (yl_add rfl rfl) ?_
      refine T0_q (v := (.int .i64 (w64 (x85 + (w64 (Int.tdiv (w64 (x87 - x85)) 2)))))) rfl (yl_assign rfl) ?_
      refine T0_nil ?_
      refine hK109 _ _ ?_
      refine WC_seqK fun K110 hK110 => ?_
      refine WC_region ?_
      refine T0_q (v := (.func (.func 61) #[] (List.toArray [(.pointer (some ⟨b1, 0, none⟩)), (.pointer (some ⟨b2, 0, none⟩))]))) rfl (yl_move hs84) ?_
      refine T0_q (v := (.int .i64 (w64 (x85 + (w64 (Int.tdiv (w64 (x87 - x85)) 2)))))) rfl (yl_move rfl) ?_
      have hq := bind_elim h
      clear h
      obtain ⟨r111, hr112, h⟩ := hq
      refine T0_e rfl (eff_callC rfl Try.func61 nm61 rfl (ev1 rfl) rfl (levitate_LeastLevel_1_ok [] _ (LtL.nil _) (w64 (x85 + (w64 (Int.tdiv (w64 (x87 - x85)) 2)))) b1 b2 c5 hB90 [(.int .i64 c8.e0), (.int .i64 c8.e1)] c8 rfl hB92 r111 hr112) ?_)
      rintro _ wd113 ⟨he114, rfl⟩
      have e115 := e82.trans he114
      refine T0_nil ?_
      refine hK110 _ _ ?_
      refine WC_cond (b := r111) rfl (fun hb116 => ?_) (fun hb116 => ?_)
      · clear hK106 hK109 hK110
        replace h := cond_t hb116 h
        refine WC_region ?_
        refine T0_q (v := (.int .i64 (w64 (x85 + (w64 (Int.tdiv (w64 (x87 - x85)) 2)))))) rfl (yl_move rfl) ?_
        refine T0_q (v := (.int .i64 (w64 (x85 + (w64 (Int.tdiv (w64 (x87 - x85)) 2)))))) rfl (yl_assign rfl) ?_
        refine T0_nil ?_
        replace h := some_out h
        subst h
        refine hK103 _ _ _ rfl ?_
        exact ⟨x85, w64 (x85 + (w64 (Int.tdiv (w64 (x87 - x85)) 2))), rfl, hs83, hs84, hs86, rfl, (hB90.ext he114), (hB92.ext he114), e115⟩
      · clear hK106 hK109 hK110
        replace h := cond_f hb116 h
        refine WC_region ?_
        refine T0_q (v := (.int .i64 (w64 (x85 + (w64 (Int.tdiv (w64 (x87 - x85)) 2)))))) rfl (yl_move rfl) ?_
        refine T0_q (v := (.int .i64 (w64 (x85 + (w64 (Int.tdiv (w64 (x87 - x85)) 2)))))) rfl (yl_assign rfl) ?_
        refine T0_nil ?_
        replace h := some_out h
        subst h
        refine hK103 _ _ _ rfl ?_
        exact ⟨w64 (x85 + (w64 (Int.tdiv (w64 (x87 - x85)) 2))), x87, rfl, hs83, hs84, rfl, hs88, (hB90.ext he114), (hB92.ext he114), e115⟩
    · clear hK103 hK106 hK107
      replace h := cond_f hb108 h
      refine WC_exit ?_
      replace h := some_out h
      subst h
      have ho := hx102 _ rfl
      subst ho
      refine hK104 _ _ ?_
      exact ⟨x87, rfl, hs83, hs88, e82⟩
  · clear hK11 hK12
    rintro ρ wd93 ⟨x96, rfl, hs95, hs97, e94⟩
    replace h := hn100
    refine hK13 _ _ ?_
    refine WC_seqK fun K117 hK117 => ?_
    refine WC_region ?_
    refine T0_q (v := (.int .i64 x96)) rfl (yl_move hs97) ?_
    refine T0_q (v := (.int .i64 x96)) rfl (yl_move hs97) ?_
    refine T0_q (v := (.int .i64 p_most)) rfl (yl_move hs95) ?_
    refine T0_q (v := (.bool (decide (x96 ≤ p_most)))) rfl (yl_leq rfl rfl) ?_
    refine T0_q (v := (.int .i64 x96)) rfl (yl_assign rfl) ?_
    refine T0_q (v := (.bool (decide (x96 ≤ p_most)))) rfl (yl_assign rfl) ?_
    refine T0_nil ?_
    refine hK117 _ _ ?_
    refine WC_ret ?_
    replace h := some_out h
    subst h
    exact ⟨[(.int .i64 x96), (.bool (decide (x96 ≤ p_most)))], ⟨rfl, rfl, trivial⟩, e94, rfl⟩

noncomputable def levitate_LeastLevel_spec (p_p : LevitatePlant) (p_form : (List (List Int))) (p_rate : Arr2_Int) : Option (Int × Int) :=
  (Option.bind (levitate_proves_spec p_p p_form p_rate) fun r28 =>
  (bif (!decide (r28.2.2 = 0)) then (
    some (0, r28.2.2)
  ) else (
    (Option.bind (levitate_plant_worst_spec (levitate_plant.mk (LevitatePlant.mk r28.1.LevitatePlant.Den r28.1.LevitatePlant.Maps r28.1.LevitatePlant.Noise)) p_form) fun r76 =>
    (Option.bind (levitate_least_61_spec 100000000000000 r76 p_rate) fun r111 =>
    (bif (!r111.2) then (
      some (0, 12)
    ) else (
      some (r111.1, 0)
    ))
    )
    )
  ))
  )
theorem levitate_LeastLevel_ok (L : List Value) (w : World) (hL : LtL L w) (cs_p_p : List Value) (p_p : LevitatePlant) (h_p_p : Rep.rd L w cs_p_p p_p) (v_p_form : Value) (p_form : (List (List Int))) (h_p_form : SlRd L w v_p_form p_form) (cs_p_rate : List Value) (p_rate : Arr2_Int) (h_p_rate : Rep.rd L w cs_p_rate p_rate) (r : Int × Int) (h : levitate_LeastLevel_spec p_p p_form p_rate = some r) :
    CallsTo Try.prog 33 [(.agg cs_p_p.toArray), v_p_form, (.agg cs_p_rate.toArray)] w (fun v w' => Ext w w' ∧ (.tuple #[(.int .i64 r.1), (.int .i64 r.2)]) = v) := by
  have e0 : Ext w w := Chg.refl _ _
  obtain ⟨v1, v3, h2, h4, rfl⟩ := h_p_p
  have h_p_rate : cs_p_rate = [(.int .i64 p_rate.e0), (.int .i64 p_rate.e1)] := h_p_rate
  subst h_p_rate
  refine callsTo_of_WC (n := 36) (rs := [.tmp 6, .tmp 7]) Try.func33 rfl rfl rfl rfl rfl ?_
  refine WC_seqK fun K8 hK8 => ?_
  refine WC_region ?_
  refine T0_e rfl (eff_boxC (cs := [(.int .i64 p_p.Den), v1, v3]) rfl rfl ?_)
  intro b9 wd10 hb11 he12 hB13
  have hbf14 := bfresh e0 hb11
  have e15 := e0.trans he12
  refine T0_e rfl (eff_boxC (cs := [(.int .i64 p_rate.e0), (.int .i64 p_rate.e1)]) rfl rfl ?_)
  intro b17 wd18 hb19 he20 hB21
  have hn22 : b17 ≠ b9 := box_ne hB13 hb19
  have hbf23 := bfresh e15 hb19
  have e24 := he12.trans he20
  have e25 := e15.trans he20
  refine T0_q (v := (.int .i64 0)) rfl (yl_assign rfl) ?_
  refine T0_q (v := (.int .i64 0)) rfl (yl_assign rfl) ?_
  refine T0_nil ?_
  refine hK8 _ _ ?_
  refine WC_seqK fun K27 hK27 => ?_
  refine WC_region ?_
  refine T0_q (v := (.agg (List.toArray [(.int .i64 p_p.Den), v1, v3]))) rfl (yl_loadA (cs := [(.int .i64 p_p.Den), v1, v3]) ag25 rfl (Box.at (hB13.ext he20))) ?_
  refine T0_q (v := v_p_form) rfl (yl_move rfl) ?_
  refine T0_q (v := (.agg (List.toArray [(.int .i64 p_rate.e0), (.int .i64 p_rate.e1)]))) rfl (yl_loadA (cs := [(.int .i64 p_rate.e0), (.int .i64 p_rate.e1)]) ag48 rfl (Box.at hB21)) ?_
  have hq := bind_elim h
  clear h
  obtain ⟨r28, hr29, h⟩ := hq
  refine T0_e rfl (eff_call Try.func52 nm52 rfl (ev3 rfl rfl rfl) (levitate_proves_ok L _ (hL.chg e25) [(.int .i64 p_p.Den), v1, v3] p_p ⟨v1, v3, (h2.ext e24), (h4.ext e24), rfl⟩ v_p_form p_form (h_p_form.ext e24) [(.int .i64 p_rate.e0), (.int .i64 p_rate.e1)] p_rate rfl r28 hr29) ?_)
  rintro _ wd30 ⟨he31, cs36, rfl, hrd37⟩
  have e38 := e24.trans he31
  have e39 := he20.trans he31
  have e40 := e25.trans he31
  obtain ⟨v32, v34, h33, h35, rfl⟩ := hrd37
  refine T0_q (v := (.tuple #[(.agg (List.toArray [(.int .i64 r28.1.LevitatePlant.Den), v32, v34])), (.int .i64 r28.2.1), (.int .i64 r28.2.2)])) rfl (yl_move rfl) ?_
  refine T0_q (v := (.agg (List.toArray [(.int .i64 r28.1.LevitatePlant.Den), v32, v34]))) rfl (yl_extract rfl rfl) ?_
  refine T0_q (v := (.int .i64 r28.2.1)) rfl (yl_extract rfl rfl) ?_
  refine T0_q (v := (.int .i64 r28.2.2)) rfl (yl_extract rfl rfl) ?_
  refine T0_e rfl (eff_allocZ zi89 ?_)
  intro b43 wd44 hb45 he46 hB47
  have hn48 : b43 ≠ b9 := box_ne (hB13.ext e39) hb45
  have hn49 : b43 ≠ b17 := box_ne (hB21.ext he31) hb45
  have hbf50 := bfresh e40 hb45
  have h51 := (h2.ext e38).step (add_box he46 hb45)
  have h52 := (h4.ext e38).step (add_box he46 hb45)
  have h53 := (h_p_form.ext e38).step (add_box he46 hb45)
  have h54 := h33.step (add_box he46 hb45)
  have h55 := h35.step (add_box he46 hb45)
  have e56 := e39.trans he46
  have e57 := he31.trans he46
  have e58 := e40.trans he46
  refine T0_e rfl (eff_storeC (vs := [(.int .i64 r28.1.LevitatePlant.Den), v32, v34]) (cs' := [(.int .i64 r28.1.LevitatePlant.Den), v32, v34]) sz89 rfl rfl rfl rfl hB47 rfl (oc_cons rfl (oc_cons h54.one1 (oc_cons h55.one1 oc_nil))) rfl ?_)
  intro wd60 hc61 hB62
  have h63 := h51.step (Stepp.chg_mem hc61 mem0)
  have h64 := h52.step (Stepp.chg_mem hc61 mem0)
  have h65 := h53.step (Stepp.chg_mem hc61 mem0)
  have h66 := (hB13.ext e56).chg hc61 (avoidb hn48)
  have h67 := (hB21.ext e57).chg hc61 (avoidb hn49)
  have h68 := h54.step (Stepp.chg_mem hc61 mem0)
  have h69 := h55.step (Stepp.chg_mem hc61 mem0)
  have e70 := chg_box e58 hc61 hbf50
  refine T0_q (v := (.int .i64 r28.2.1)) rfl (yl_assign rfl) ?_
  refine T0_q (v := (.int .i64 r28.2.2)) rfl (yl_assign rfl) ?_
  refine T0_nil ?_
  refine hK27 _ _ ?_
  refine WC_seqK fun K71 hK71 => ?_
  refine WC_seqK fun K72 hK72 => ?_
  refine WC_region ?_
  refine T0_q (v := (.int .i64 r28.2.2)) rfl (yl_move rfl) ?_
  refine T0_q (v := (.bool (!decide (r28.2.2 = 0)))) rfl (yl_neq rfl rfl) ?_
  refine T0_nil ?_
  refine hK72 _ _ ?_
  refine WC_cond (b := (!decide (r28.2.2 = 0))) rfl (fun hb73 => ?_) (fun hb73 => ?_)
  · clear hK27 hK71 hK72 hK8
    replace h := cond_t hb73 h
    refine WC_seqK fun K74 hK74 => ?_
    refine WC_region ?_
    refine T0_q (v := (.int .i64 r28.2.2)) rfl (yl_move rfl) ?_
    refine T0_q (v := (.int .i64 0)) rfl (yl_assign rfl) ?_
    refine T0_q (v := (.int .i64 r28.2.2)) rfl (yl_assign rfl) ?_
    refine T0_nil ?_
    refine hK74 _ _ ?_
    refine WC_ret ?_
    replace h := some_out h
    subst h
    exact ⟨[(.int .i64 0), (.int .i64 r28.2.2)], ⟨rfl, rfl, trivial⟩, e70, rfl⟩
  · clear hK27 hK72 hK8
    replace h := cond_f hb73 h
    refine WC_skip ?_
    refine hK71 _ _ ?_
    refine WC_seqK fun K75 hK75 => ?_
    refine WC_region ?_
    refine T0_q (v := (.agg (List.toArray [(.int .i64 r28.1.LevitatePlant.Den), v32, v34]))) rfl (yl_loadA (cs := [(.int .i64 r28.1.LevitatePlant.Den), v32, v34]) ag89 rfl (Box.at hB62)) ?_
    refine T0_q (v := v_p_form) rfl (yl_move rfl) ?_
    have hq := bind_elim h
    clear h
    obtain ⟨r76, hr77, h⟩ := hq
    refine T0_e rfl (eff_call Try.func54 nm54 rfl (ev2 rfl rfl) (levitate_plant_worst_ok [] _ (LtL.nil _) [(.int .i64 r28.1.LevitatePlant.Den), v32, v34] (levitate_plant.mk (LevitatePlant.mk r28.1.LevitatePlant.Den r28.1.LevitatePlant.Maps r28.1.LevitatePlant.Noise)) ⟨v32, v34, (h68.sub (fun _ h => by cases h)), (h69.sub (fun _ h => by cases h)), rfl⟩ v_p_form p_form (h65.sub (fun _ h => by cases h)) r76 hr77) ?_)
    rintro _ wd78 ⟨he79, rfl⟩
    have e80 := e70.trans he79
    refine T0_e rfl (eff_allocZ zi3 ?_)
    intro b81 wd82 hb83 he84 hB85
    have hn86 : b81 ≠ b9 := box_ne (h66.ext he79) hb83
    have hn87 : b81 ≠ b17 := box_ne (h67.ext he79) hb83
    have hn88 : b81 ≠ b43 := box_ne (hB62.ext he79) hb83
    have hbf89 := bfresh e80 hb83
    have h90 := (h63.ext he79).step (add_box he84 hb83)
    have h91 := (h64.ext he79).step (add_box he84 hb83)
    have h92 := (h65.ext he79).step (add_box he84 hb83)
    have h93 := (h68.ext he79).step (add_box he84 hb83)
    have h94 := (h69.ext he79).step (add_box he84 hb83)
    have e95 := he79.trans he84
    have e96 := e80.trans he84
    refine T0_e rfl (eff_storeC (vs := [(.int .i64 r76)]) (cs' := [(.int .i64 r76)]) sz3 rfl rfl rfl rfl hB85 rfl (oc_cons rfl oc_nil) rfl ?_)
    intro wd98 hc99 hB100
    have h101 := h90.step (Stepp.chg_mem hc99 mem0)
    have h102 := h91.step (Stepp.chg_mem hc99 mem0)
    have h103 := h92.step (Stepp.chg_mem hc99 mem0)
    have h104 := (h66.ext e95).chg hc99 (avoidb hn86)
    have h105 := (h67.ext e95).chg hc99 (avoidb hn87)
    have h106 := h93.step (Stepp.chg_mem hc99 mem0)
    have h107 := h94.step (Stepp.chg_mem hc99 mem0)
    have h108 := (hB62.ext e95).chg hc99 (avoidb hn88)
    have e109 := chg_box e96 hc99 hbf89
    refine T0_nil ?_
    refine hK75 _ _ ?_
    refine WC_seqK fun K110 hK110 => ?_
    refine WC_region ?_
    refine T0_q (v := (.func (.func 61) #[] (List.toArray [(.pointer (some ⟨b81, 0, none⟩)), (.pointer (some ⟨b17, 0, none⟩))]))) rfl (yl_makeFunc (ev2 rfl rfl)) ?_
    have hq := bind_elim h
    clear h
    obtain ⟨r111, hr112, h⟩ := hq
    refine T0_e rfl (eff_call Try.func60 nm60 rfl (ev2 rfl rfl) (levitate_least_61_ok [] _ (LtL.nil _) 100000000000000 b81 b17 r76 hB100 [(.int .i64 p_rate.e0), (.int .i64 p_rate.e1)] p_rate rfl h105 r111 hr112) ?_)
    rintro _ wd113 ⟨he114, rfl⟩
    have e115 := e109.trans he114
    refine T0_q (v := (.tuple #[(.int .i64 r111.1), (.bool r111.2)])) rfl (yl_move rfl) ?_
    refine T0_q (v := (.int .i64 r111.1)) rfl (yl_extract rfl rfl) ?_
    refine T0_q (v := (.bool r111.2)) rfl (yl_extract rfl rfl) ?_
    refine T0_q (v := (.int .i64 r111.1)) rfl (yl_assign rfl) ?_
    refine T0_q (v := (.bool r111.2)) rfl (yl_assign rfl) ?_
    refine T0_nil ?_
    refine hK110 _ _ ?_
    refine WC_seqK fun K116 hK116 => ?_
    refine WC_seqK fun K117 hK117 => ?_
    refine WC_region ?_
    refine T0_q (v := (.bool r111.2)) rfl (yl_move rfl) ?_
    refine T0_q (v := (.bool (!r111.2))) rfl (yl_not rfl) ?_
    refine T0_nil ?_
    refine hK117 _ _ ?_
    refine WC_cond (b := (!r111.2)) rfl (fun hb118 => ?_) (fun hb118 => ?_)
    · clear hK110 hK116 hK117 hK71 hK75
      replace h := cond_t hb118 h
      refine WC_seqK fun K119 hK119 => ?_
      refine WC_region ?_
      refine T0_q (v := (.int .i64 0)) rfl (yl_assign rfl) ?_
      refine T0_q (v := (.int .i64 12)) rfl (yl_assign rfl) ?_
      refine T0_nil ?_
      refine hK119 _ _ ?_
      refine WC_ret ?_
      replace h := some_out h
      subst h
      exact ⟨[(.int .i64 0), (.int .i64 12)], ⟨rfl, rfl, trivial⟩, e115, rfl⟩
    · clear hK110 hK117 hK71 hK75
      replace h := cond_f hb118 h
      refine WC_skip ?_
      refine hK116 _ _ ?_
      refine WC_seqK fun K120 hK120 => ?_
      refine WC_region ?_
      refine T0_q (v := (.int .i64 r111.1)) rfl (yl_move rfl) ?_
      refine T0_q (v := (.int .i64 r111.1)) rfl (yl_assign rfl) ?_
      refine T0_q (v := (.int .i64 0)) rfl (yl_assign rfl) ?_
      refine T0_nil ?_
      refine hK120 _ _ ?_
      refine WC_ret ?_
      replace h := some_out h
      subst h
      exact ⟨[(.int .i64 r111.1), (.int .i64 0)], ⟨rfl, rfl, trivial⟩, e115, rfl⟩

end Go.Gw
