/- What functions come to, printed by a program of this work. No condition. -/
import Derived.Test.YtglaeocolbnpdaaGwFnC
import Derived.Test.YtglaeocolbnpdaaGwPlan2
import Derived.Test.YtglaeocolbnpdaaGwLib12
import Derived.Test.YtglaeocolbnpdaaGwFacts2
set_option maxRecDepth 4096
set_option maxHeartbeats 8000000
set_option linter.unusedVariables false
namespace Go.Gw
open Go Go.Proofs
attribute [local irreducible] T0 TS TT TP TX Eff Stp WC Quiet gd
noncomputable def levitate_LeastBox_s0 (r18 : (levitate_plant × Int)) : ((List Int) × Bool × Int × Int) → Option (((List Int) × Bool × Int × Int) ⊕ (((List Int) × Int) ⊕ ((List Int)))) := fun (x425, x432, x438, x439) =>
  (bif x432 then (
    (Option.bind (levitate_plant_need_spec (levitate_plant.mk (LevitatePlant.mk r18.1.LevitatePlant.Den r18.1.LevitatePlant.Maps r18.1.LevitatePlant.Noise)) x438 x439 x425) fun r471 =>
    (Option.bind (idx x425 x439) fun el477 =>
    (Option.bind (idx (x425.set (x439 : Int).toNat r471) x439) fun el492 =>
    (bif (decide (100000 < el492)) then (
      some (.inr (.inl (([] : (List Int)), 24)))
    ) else (
      (Option.bind (levitate_plant_broken_spec (levitate_plant.mk (LevitatePlant.mk r18.1.LevitatePlant.Den r18.1.LevitatePlant.Maps r18.1.LevitatePlant.Noise)) (x425.set (x439 : Int).toNat r471)) fun r525 =>
      some (.inl ((x425.set (x439 : Int).toNat r471), r525.2, r525.1.Map, r525.1.Row))
      )
    ))
    )
    )
    )
  ) else (
    some (.inr (.inr x425))
  ))
noncomputable def levitate_LeastBox_spec (p_p : LevitatePlant) (p_start : (List Int)) : Option ((List Int) × Int) :=
  (Option.bind (levitate_openBox_spec p_p p_start) fun r18 =>
  (bif (!decide (r18.2 = 0)) then (
    some (([] : (List Int)), r18.2)
  ) else (
    (Option.bind (slices_Clone_int_spec p_start) fun r62 =>
    (Option.bind (levitate_plant_broken_spec (levitate_plant.mk (LevitatePlant.mk r18.1.LevitatePlant.Den r18.1.LevitatePlant.Maps r18.1.LevitatePlant.Noise)) r62) fun r82 =>
    (Option.bind (loop (levitate_LeastBox_s0 r18) (r62, r82.2, r82.1.Map, r82.1.Row)) fun o455 => jn0 o455 fun (x450 : (List Int)) =>
    some (x450, 0)
    )
    )
    )
  ))
  )
theorem levitate_LeastBox_ok (L : List Value) (w : World) (hL : LtL L w) (cs_p_p : List Value) (p_p : LevitatePlant) (h_p_p : Rep.rd L w cs_p_p p_p) (v_p_start : Value) (p_start : (List Int)) (h_p_start : SlRd L w v_p_start p_start) (r : (List Int) × Int) (h : levitate_LeastBox_spec p_p p_start = some r) :
    CallsTo Try.prog 22 [(.agg cs_p_p.toArray), v_p_start] w (fun v w' => Ext w w' ∧ ∃ (v0 : Value), (.tuple #[v0, (.int .i64 r.2)]) = v ∧ SlRd L w' v0 r.1) := by
  have e0 : Ext w w := Chg.refl _ _
  obtain ⟨v1, v3, h2, h4, rfl⟩ := h_p_p
  refine callsTo_of_WC (n := 54) (rs := [.tmp 4, .tmp 5]) Try.func22 rfl rfl rfl rfl rfl ?_
  refine WC_seqK fun K8 hK8 => ?_
  refine WC_region ?_
  refine T0_e rfl (eff_boxC (cs := [(.int .i64 p_p.Den), v1, v3]) rfl rfl ?_)
  intro b9 wd10 hb11 he12 hB13
  have e15 := e0.trans he12
  refine T0_q (v := (.slice none 0 0)) rfl (yl_assign rfl) ?_
  refine T0_q (v := (.int .i64 0)) rfl (yl_assign rfl) ?_
  refine T0_nil ?_
  refine hK8 _ _ ?_
  refine WC_seqK fun K17 hK17 => ?_
  refine WC_region ?_
  refine T0_q (v := (.agg (List.toArray [(.int .i64 p_p.Den), v1, v3]))) rfl (yl_loadA (cs := [(.int .i64 p_p.Den), v1, v3]) ag25 rfl (Box.at hB13)) ?_
  refine T0_q (v := v_p_start) rfl (yl_move rfl) ?_
  have hq := bind_elim h
  clear h
  obtain ⟨r18, hr19, h⟩ := hq
  refine T0_e rfl (eff_call Try.func48 nm48 rfl (ev2 rfl rfl) (levitate_openBox_ok L _ (hL.chg e15) [(.int .i64 p_p.Den), v1, v3] p_p ⟨v1, v3, (h2.ext he12), (h4.ext he12), rfl⟩ v_p_start p_start (h_p_start.ext he12) r18 hr19) ?_)
  rintro _ wd20 ⟨he21, cs26, rfl, hrd27⟩
  have e28 := he12.trans he21
  have e29 := e15.trans he21
  obtain ⟨v22, v24, h23, h25, rfl⟩ := hrd27
  refine T0_q (v := (.tuple #[(.agg (List.toArray [(.int .i64 r18.1.LevitatePlant.Den), v22, v24])), (.int .i64 r18.2)])) rfl (yl_move rfl) ?_
  refine T0_q (v := (.agg (List.toArray [(.int .i64 r18.1.LevitatePlant.Den), v22, v24]))) rfl (yl_extract rfl rfl) ?_
  refine T0_q (v := (.int .i64 r18.2)) rfl (yl_extract rfl rfl) ?_
  refine T0_e rfl (eff_allocZ zi89 ?_)
  intro b32 wd33 hb34 he35 hB36
  have hbf38 := bfresh e29 hb34
  have h41 := (h_p_start.ext e28).step (add_box he35 hb34)
  have h42 := h23.step (add_box he35 hb34)
  have h43 := h25.step (add_box he35 hb34)
  have e45 := e29.trans he35
  refine T0_e rfl (eff_storeC (vs := [(.int .i64 r18.1.LevitatePlant.Den), v22, v24]) (cs' := [(.int .i64 r18.1.LevitatePlant.Den), v22, v24]) sz89 rfl rfl rfl rfl hB36 rfl (oc_cons rfl (oc_cons h42.one1 (oc_cons h43.one1 oc_nil))) rfl ?_)
  intro wd47 hc48 hB49
  have h52 := h41.step (Stepp.chg_mem hc48 mem0)
  have h54 := h42.step (Stepp.chg_mem hc48 mem0)
  have h55 := h43.step (Stepp.chg_mem hc48 mem0)
  have e56 := chg_box e45 hc48 hbf38
  refine T0_q (v := (.int .i64 r18.2)) rfl (yl_assign rfl) ?_
  refine T0_nil ?_
  refine hK17 _ _ ?_
  refine WC_seqK fun K57 hK57 => ?_
  refine WC_seqK fun K58 hK58 => ?_
  refine WC_region ?_
  refine T0_q (v := (.int .i64 r18.2)) rfl (yl_move rfl) ?_
  refine T0_q (v := (.bool (!decide (r18.2 = 0)))) rfl (yl_neq rfl rfl) ?_
  refine T0_nil ?_
  refine hK58 _ _ ?_
  refine WC_cond (b := (!decide (r18.2 = 0))) rfl (fun hb59 => ?_) (fun hb59 => ?_)
  · clear hK17 hK57 hK58 hK8
    replace h := cond_t hb59 h
    refine WC_seqK fun K60 hK60 => ?_
    refine WC_region ?_
    refine T0_q (v := (.int .i64 r18.2)) rfl (yl_move rfl) ?_
    refine T0_q (v := (.slice none 0 0)) rfl (yl_assign rfl) ?_
    refine T0_q (v := (.int .i64 r18.2)) rfl (yl_assign rfl) ?_
    refine T0_nil ?_
    refine hK60 _ _ ?_
    refine WC_ret ?_
    replace h := some_out h
    subst h
    exact ⟨[(.slice none 0 0), (.int .i64 r18.2)], ⟨rfl, rfl, trivial⟩, e56, (.slice none 0 0), rfl, (SlRd.nil _ _)⟩
  · clear hK17 hK58 hK8
    replace h := cond_f hb59 h
    refine WC_skip ?_
    refine hK57 _ _ ?_
    refine WC_seqK fun K61 hK61 => ?_
    refine WC_region ?_
    refine T0_q (v := v_p_start) rfl (yl_move rfl) ?_
    have hq := bind_elim h
    clear h
    obtain ⟨r62, hr63, h⟩ := hq
    refine T0_e rfl (eff_call Try.func49 nm49 rfl (ev1 rfl) (slices_Clone_int_own ((.pointer (some ⟨b32, 0, none⟩)) :: L) _ (ltl_box (hL.chg e56) hB49) v_p_start p_start h52 r62 hr63) ?_)
    rintro _ wd64 ⟨he65, v66, rfl, hf68, h67⟩
    have h72 := h54.step (Stepp.add v66 he65 hf68)
    have h73 := h55.step (Stepp.add v66 he65 hf68)
    have hn76 : blk v66 ≠ some b32 := fun e => by have := hf68 _ e; have := hB49.lt; omega
    have hf77 : ∀ b, blk v66 = some b → w.heap.size ≤ b := fun b hb => Nat.le_trans e56.size (hf68 b hb)
    have e78 := e56.trans he65
    refine T0_q (v := v66) rfl (yl_assign rfl) ?_
    refine T0_nil ?_
    refine hK61 _ _ ?_
    refine WC_seqK fun K80 hK80 => ?_
    refine WC_seqK fun K81 hK81 => ?_
    refine WC_region ?_
    refine T0_q (v := (.agg (List.toArray [(.int .i64 r18.1.LevitatePlant.Den), v22, v24]))) rfl (yl_loadA (cs := [(.int .i64 r18.1.LevitatePlant.Den), v22, v24]) ag89 rfl (Box.at (hB49.ext he65))) ?_
    refine T0_q (v := v66) rfl (yl_move rfl) ?_
    have hq := bind_elim h
    clear h
    obtain ⟨r82, hr83, h⟩ := hq
    refine T0_e rfl (eff_call Try.func50 nm50 rfl (ev2 rfl rfl) (levitate_plant_broken_ok [] _ (LtL.nil _) [(.int .i64 r18.1.LevitatePlant.Den), v22, v24] (levitate_plant.mk (LevitatePlant.mk r18.1.LevitatePlant.Den r18.1.LevitatePlant.Maps r18.1.LevitatePlant.Noise)) ⟨v22, v24, (h72.sub (fun _ h => by cases h)), (h73.sub (fun _ h => by cases h)), rfl⟩ v66 r62 (h67.rdL (fun _ h => by cases h) (LtL.nil w) hf77) r82 hr83) ?_)
    rintro _ wd84 ⟨he85, cs86, rfl, hrd87⟩
    have e88 := he65.trans he85
    have e89 := e78.trans he85
    have hrd87 : cs86 = [(.int .i64 r82.1.Map), (.int .i64 r82.1.Row)] := hrd87
    subst hrd87
    refine T0_q (v := (.tuple #[(.agg (List.toArray [(.int .i64 r82.1.Map), (.int .i64 r82.1.Row)])), (.bool r82.2)])) rfl (yl_move rfl) ?_
    refine T0_q (v := (.agg (List.toArray [(.int .i64 r82.1.Map), (.int .i64 r82.1.Row)]))) rfl (yl_extract rfl rfl) ?_
    refine T0_q (v := (.bool r82.2)) rfl (yl_extract rfl rfl) ?_
    refine T0_e rfl (eff_allocZ zi29 ?_)
    intro b90 wd91 hb92 he93 hB94
    have hn96 : b90 ≠ b32 := box_ne (hB49.ext e88) hb92
    have hn97 : blk v66 ≠ some b90 := ne_new_box (h67.ext he85) hb92
    have hbf98 := bfresh e89 hb92
    have h102 := (h72.ext he85).step (add_box he93 hb92)
    have h103 := (h73.ext he85).step (add_box he93 hb92)
    have h104 := (h67.ext he85).step (add_box he93 hb92) he93 (fun _ _ => Avoids.nil _)
    have e105 := e88.trans he93
    have e106 := e89.trans he93
    refine T0_e rfl (eff_storeC (vs := [(.int .i64 r82.1.Map), (.int .i64 r82.1.Row)]) (cs' := [(.int .i64 r82.1.Map), (.int .i64 r82.1.Row)]) sz29 rfl rfl rfl rfl hB94 rfl (oc_cons rfl (oc_cons rfl oc_nil)) rfl ?_)
    intro wd108 hc109 hB110
    have h115 := h102.step (Stepp.chg_mem hc109 mem0)
    have h116 := h103.step (Stepp.chg_mem hc109 mem0)
    have h117 := (hB49.ext e105).chg hc109 (avoidb hn96)
    have h118 := h104.step (Stepp.chg_mem hc109 mem0) hc109 (av_box hn97)
    have e119 := chg_box e106 hc109 hbf98
    refine T0_q (v := (.bool r82.2)) rfl (yl_assign rfl) ?_
    refine T0_nil ?_
    refine hK81 _ _ ?_
    have hq := bind_elim h
    clear h
    obtain ⟨o455, hl456, hn457⟩ := hq
    refine WC_post (fun (ρ : Env) (wd446 : World) => ∃ (x450 : (List Int)) (v449 : Value), .inr x450 = o455 ∧ ρ 8 = v449 ∧ Own 3 (v449 :: L) wd446 v449 x450 ∧ (∀ b, blk v449 = some b → w.heap.size ≤ b) ∧ Ext w wd446) ?_ ?_
    · clear hK57 hK61 hK80 hK81
      intro K461 hK461
      refine WC_block ?_
      refine WC_loopk (fun sv ρ wd420 => ∃ (x425 : (List Int)) (x432 : Bool) (x438 : Int) (x439 : Int) (v424 : Value) (b430 : Nat), (x425, x432, x438, x439) = sv ∧ ρ 6 = (.pointer (some ⟨b32, 0, none⟩)) ∧ ρ 8 = v424 ∧ ρ 9 = (.pointer (some ⟨b430, 0, none⟩)) ∧ ρ 10 = (.bool x432) ∧ SlRd (v424 :: (.pointer (some ⟨b32, 0, none⟩)) :: (.pointer (some ⟨b430, 0, none⟩)) :: L) wd420 v22 r18.1.LevitatePlant.Maps ∧ SlRd (v424 :: (.pointer (some ⟨b32, 0, none⟩)) :: (.pointer (some ⟨b430, 0, none⟩)) :: L) wd420 v24 r18.1.LevitatePlant.Noise ∧ Box wd420 b32 [(.int .i64 r18.1.LevitatePlant.Den), v22, v24] 89 ∧ Box wd420 b430 [(.int .i64 x438), (.int .i64 x439)] 29 ∧ Own 3 (v424 :: (.pointer (some ⟨b32, 0, none⟩)) :: (.pointer (some ⟨b430, 0, none⟩)) :: L) wd420 v424 x425 ∧ (∀ b, blk v424 = some b → w.heap.size ≤ b) ∧ (blk v424 ≠ some b32) ∧ (blk v424 ≠ some b430) ∧ (w.heap.size ≤ b430) ∧ (b32 ≠ b430) ∧ Ext w wd420) hl456 ⟨r62, r82.2, r82.1.Map, r82.1.Row, v66, b90, rfl, rfl, rfl, rfl, rfl, (h115.sub (sub_cons (memS mem0) (sub_cons (memS (memS mem0)) (sub_cons mem0 (sub_skip (sub_skip (sub_skip (sub_refl _)))))))), (h116.sub (sub_cons (memS mem0) (sub_cons (memS (memS mem0)) (sub_cons mem0 (sub_skip (sub_skip (sub_skip (sub_refl _)))))))), h117, hB110, (h118.sub (sub_cons (memS mem0) (sub_cons (memS (memS mem0)) (sub_cons mem0 (sub_skip (sub_skip (sub_skip (sub_refl _)))))))), hf77, hn76, hn97, hbf98, hn96.symm, e119⟩ ?_
      rintro _ ρ wd420 ⟨x425, x432, x438, x439, v424, b430, rfl, hs422, hs429, hs431, hs433, h434, h435, hB437, hB441, h427, hf428, hn442, hn443, hf444, hn445, e421⟩ x458 h hx459 K460 hK460
      refine WC_seqK fun K463 hK463 => ?_
      refine WC_seqK fun K464 hK464 => ?_
      refine WC_region ?_
      refine T0_q (v := (.bool x432)) rfl (yl_move hs433) ?_
      refine T0_nil ?_
      refine hK464 _ _ ?_
      refine WC_cond (b := x432) rfl (fun hb465 => ?_) (fun hb465 => ?_)
      · clear hK461 hK464
        replace h := cond_t hb465 h
        refine WC_skip ?_
        refine hK463 _ _ ?_
        refine WC_seqK fun K466 hK466 => ?_
        refine WC_block ?_
        refine WC_seqK fun K467 hK467 => ?_
        refine WC_planX mixed (.p 0 (.p 1 (.p 4 (.p 6 (.p 8 (.q 2 (.q 3 (.q 5 (.q 7 (.e 9 (.p 10 (.b 11 .done)))))))))))) (by kernel_rfl) ?_
        intro wd468 he469
        have e470 := e421.trans he469
        refine TX_p (v := v424) rfl rfl (fun w' => (yl_move hs429)) ?_
        refine TX_p (v := (.pointer (some ⟨b430, 1, none⟩))) rfl rfl (fun w' => (yl_fa 1 Try.underlying29 rfl rfl ⟨0, sz3⟩ hs431 rfl)) ?_
        refine TX_p (v := (.pointer (some ⟨b430, 0, none⟩))) rfl rfl (fun w' => (yl_fa 0 Try.underlying29 rfl rfl ⟨0, sz3⟩ hs431 rfl)) ?_
        refine TX_p (v := (.pointer (some ⟨b430, 1, none⟩))) rfl rfl (fun w' => (yl_fa 1 Try.underlying29 rfl rfl ⟨0, sz3⟩ hs431 rfl)) ?_
        refine TX_p (v := v424) rfl rfl (fun w' => (yl_move hs429)) ?_
        refine TX_q (v := (.int .i64 x439)) rfl rfl (fun w' hS => (yl_load sc3 rfl (At.drop (Box.at (hB441.ext (he469.trans hS))) 1))) ?_
        refine TX_q (v := (.agg (List.toArray [(.int .i64 r18.1.LevitatePlant.Den), v22, v24]))) rfl rfl (fun w' hS => (yl_loadA (cs := [(.int .i64 r18.1.LevitatePlant.Den), v22, v24]) ag89 hs422 (Box.at (hB437.ext (he469.trans hS))))) ?_
        refine TX_q (v := (.int .i64 x438)) rfl rfl (fun w' hS => (yl_load sc3 rfl (Box.at (hB441.ext (he469.trans hS))))) ?_
        refine TX_q (v := (.int .i64 x439)) rfl rfl (fun w' hS => (yl_load sc3 rfl (At.drop (Box.at (hB441.ext (he469.trans hS))) 1))) ?_
        have hq := bind_elim h
        clear h
        obtain ⟨r471, hr472, h⟩ := hq
        refine TX_e rfl rfl (eff_call Try.func51 nm51 rfl (ev4 rfl rfl rfl rfl) (levitate_plant_need_ok [] _ (LtL.nil _) [(.int .i64 r18.1.LevitatePlant.Den), v22, v24] (levitate_plant.mk (LevitatePlant.mk r18.1.LevitatePlant.Den r18.1.LevitatePlant.Maps r18.1.LevitatePlant.Noise)) ⟨v22, v24, ((h434.ext he469).sub (fun _ h => by cases h)), ((h435.ext he469).sub (fun _ h => by cases h)), rfl⟩ x438 x439 v424 x425 ((h427.ext he469).rdL (fun _ h => by cases h) (LtL.nil w) hf428) r471 hr472) ?_)
        rintro _ wd473 ⟨he474, rfl⟩
        have e475 := he469.trans he474
        have e476 := e470.trans he474
        refine ⟨he474, ?_⟩
        have hq := bind_elim h
        clear h
        obtain ⟨el477, hel478, h⟩ := hq
        have hq := Own.at h427 hel478
        obtain ⟨cs479, hat480, hrd481⟩ := hq
        have hrd481 : cs479 = [(.int .i64 el477)] := hrd481
        subst hrd481
        refine TX_p (v := (.pointer (some (elemAddr v424 (x439 : Int).toNat 1)))) rfl rfl (fun w' => (yl_indexAddrO Try.underlying23 sz3 h427 hel478 rfl rfl)) ?_
        refine TX_b rfl rfl (eff_storeOC (vs := [(.int .i64 r471)]) (off := 0) (y' := r471) sz3 rfl rfl (h427.ext e475) mem0 hel478 rfl rfl rfl (oc_cons rfl oc_nil) (fun w' cs hcs => by have hcs : cs = [(.int .i64 el477)] := hcs; subst hcs; rfl) ?_)
        intro wd483 hc484 hB485
        have h486 := (h434.ext e475).step (Stepp.chg_mem hc484 mem0)
        have h487 := (h435.ext e475).step (Stepp.chg_mem hc484 mem0)
        have h488 := (hB437.ext e475).chg hc484 (avoid1 hn442)
        have h489 := (hB441.ext e475).chg hc484 (avoid1 hn443)
        have e490 := chg_own e476 hc484 hf428
        refine TX_done ?_
        refine hK467 _ _ ?_
        refine WC_seqK fun K491 hK491 => ?_
        refine WC_region ?_
        refine T0_q (v := v424) rfl (yl_move hs429) ?_
        refine T0_q (v := (.pointer (some ⟨b430, 1, none⟩))) rfl (yl_fa 1 Try.underlying29 rfl rfl ⟨0, sz3⟩ hs431 rfl) ?_
        refine T0_q (v := (.int .i64 x439)) rfl (yl_load sc3 rfl (At.drop (Box.at h489) 1)) ?_
        have hq := bind_elim h
        clear h
        obtain ⟨el492, hel493, h⟩ := hq
        have hq := Own.at hB485 hel493
        obtain ⟨cs494, hat495, hrd496⟩ := hq
        have hrd496 : cs494 = [(.int .i64 el492)] := hrd496
        subst hrd496
        refine T0_q (v := (.pointer (some (elemAddr v424 (x439 : Int).toNat 1)))) rfl (yl_indexAddrO Try.underlying23 sz3 hB485 hel493 rfl rfl) ?_
        refine T0_q (v := (.int .i64 el492)) rfl (yl_load sc3 rfl hat495) ?_
        refine T0_q (v := (.bool (decide (100000 < el492)))) rfl (yl_gtr rfl rfl) ?_
        refine T0_nil ?_
        refine hK491 _ _ ?_
        refine WC_cond (b := (decide (100000 < el492))) rfl (fun hb498 => ?_) (fun hb498 => ?_)
        · clear hK460 hK463 hK466 hK467 hK491
          replace h := cond_t hb498 h
          refine WC_seqK fun K499 hK499 => ?_
          refine WC_region ?_
          refine T0_q (v := (.slice none 0 0)) rfl (yl_assign rfl) ?_
          refine T0_q (v := (.int .i64 24)) rfl (yl_assign rfl) ?_
          refine T0_nil ?_
          refine hK499 _ _ ?_
          refine WC_ret ?_
          replace h := some_out h
          subst h
          have ho := hx459 _ rfl
          subst ho
          replace h := jn0_inl hn457
          replace h := some_out h
          subst h
          exact ⟨[(.slice none 0 0), (.int .i64 24)], ⟨rfl, rfl, trivial⟩, e490, (.slice none 0 0), rfl, (SlRd.nil _ _)⟩
        · clear hK463 hK467 hK491
          replace h := cond_f hb498 h
          refine WC_skip ?_
          refine hK466 _ _ ?_
          refine WC_seqK fun K500 hK500 => ?_
          refine WC_seqK fun K501 hK501 => ?_
          refine WC_region ?_
          refine T0_q (v := (.agg (List.toArray [(.int .i64 x438), (.int .i64 x439)]))) rfl (yl_loadA (cs := [(.int .i64 x438), (.int .i64 x439)]) ag29 hs431 (Box.at h489)) ?_
          refine T0_nil ?_
          refine hK501 _ _ ?_
          refine WC_region ?_
          refine T0_e rfl (eff_allocZ zi29 ?_)
          intro b502 wd503 hb504 he505 hB506
          have hn507 : b502 ≠ b32 := box_ne h488 hb504
          have hn509 : blk v424 ≠ some b502 := ne_new_box hB485 hb504
          have hbf510 := bfresh e490 hb504
          have h511 := hB485.step (add_box he505 hb504) he505 (fun _ _ => Avoids.nil _)
          have h512 := h486.step (add_box he505 hb504)
          have h513 := h487.step (add_box he505 hb504)
          have e514 := e490.trans he505
          refine T0_e rfl (eff_storeC (vs := [(.int .i64 x438), (.int .i64 x439)]) (cs' := [(.int .i64 x438), (.int .i64 x439)]) sz29 rfl rfl rfl rfl hB506 rfl (oc_cons rfl (oc_cons rfl oc_nil)) rfl ?_)
          intro wd516 hc517 hB518
          have h519 := h511.step (Stepp.chg_mem hc517 mem0) hc517 (av_box hn509)
          have h520 := h512.step (Stepp.chg_mem hc517 mem0)
          have h521 := h513.step (Stepp.chg_mem hc517 mem0)
          have h522 := (h488.ext he505).chg hc517 (avoidb hn507)
          have e524 := chg_box e514 hc517 hbf510
          refine T0_nil ?_
          refine hK500 _ _ ?_
          refine WC_region ?_
          refine T0_q (v := (.agg (List.toArray [(.int .i64 r18.1.LevitatePlant.Den), v22, v24]))) rfl (yl_loadA (cs := [(.int .i64 r18.1.LevitatePlant.Den), v22, v24]) ag89 hs422 (Box.at h522)) ?_
          refine T0_q (v := v424) rfl (yl_move hs429) ?_
          have hq := bind_elim h
          clear h
          obtain ⟨r525, hr526, h⟩ := hq
          refine T0_e rfl (eff_call Try.func50 nm50 rfl (ev2 rfl rfl) (levitate_plant_broken_ok [] _ (LtL.nil _) [(.int .i64 r18.1.LevitatePlant.Den), v22, v24] (levitate_plant.mk (LevitatePlant.mk r18.1.LevitatePlant.Den r18.1.LevitatePlant.Maps r18.1.LevitatePlant.Noise)) ⟨v22, v24, (h520.sub (fun _ h => by cases h)), (h521.sub (fun _ h => by cases h)), rfl⟩ v424 (x425.set (x439 : Int).toNat r471) (h519.rdL (fun _ h => by cases h) (LtL.nil w) hf428) r525 hr526) ?_)
          rintro _ wd527 ⟨he528, cs529, rfl, hrd530⟩
          have e531 := e524.trans he528
          have hrd530 : cs529 = [(.int .i64 r525.1.Map), (.int .i64 r525.1.Row)] := hrd530
          subst hrd530
          refine T0_q (v := (.tuple #[(.agg (List.toArray [(.int .i64 r525.1.Map), (.int .i64 r525.1.Row)])), (.bool r525.2)])) rfl (yl_move rfl) ?_
          refine T0_q (v := (.agg (List.toArray [(.int .i64 r525.1.Map), (.int .i64 r525.1.Row)]))) rfl (yl_extract rfl rfl) ?_
          refine T0_q (v := (.bool r525.2)) rfl (yl_extract rfl rfl) ?_
          refine T0_e rfl (eff_storeC (vs := [(.int .i64 r525.1.Map), (.int .i64 r525.1.Row)]) (cs' := [(.int .i64 r525.1.Map), (.int .i64 r525.1.Row)]) sz29 rfl rfl rfl rfl (hB518.ext he528) rfl (oc_cons rfl (oc_cons rfl oc_nil)) rfl ?_)
          intro wd532 hc533 hB534
          have h535 := (h519.ext he528).step (Stepp.chg_mem hc533 mem0) hc533 (av_box hn509)
          have h536 := (h520.ext he528).step (Stepp.chg_mem hc533 mem0)
          have h537 := (h521.ext he528).step (Stepp.chg_mem hc533 mem0)
          have h538 := (h522.ext he528).chg hc533 (avoidb hn507)
          have e540 := chg_box e531 hc533 hbf510
          refine T0_q (v := (.bool r525.2)) rfl (yl_assign rfl) ?_
          refine T0_nil ?_
          replace h := some_out h
          subst h
          refine hK460 _ _ _ rfl ?_
          exact ⟨(x425.set (x439 : Int).toNat r471), r525.2, r525.1.Map, r525.1.Row, v424, b502, rfl, hs422, hs429, rfl, rfl, (h536.sub (sub_cons (memS mem0) (sub_cons (memS (memS mem0)) (sub_cons mem0 (sub_skip (sub_skip (sub_skip (sub_skip (sub_refl _))))))))), (h537.sub (sub_cons (memS mem0) (sub_cons (memS (memS mem0)) (sub_cons mem0 (sub_skip (sub_skip (sub_skip (sub_skip (sub_refl _))))))))), h538, hB534, (h535.sub (sub_cons (memS mem0) (sub_cons (memS (memS mem0)) (sub_cons mem0 (sub_skip (sub_skip (sub_skip (sub_skip (sub_refl _))))))))), hf428, hn442, hn509, hbf510, hn507.symm, e540⟩
      · clear hK460 hK463 hK464
        replace h := cond_f hb465 h
        refine WC_exit ?_
        replace h := some_out h
        subst h
        have ho := hx459 _ rfl
        subst ho
        refine hK461 _ _ ?_
        exact ⟨x425, v424, rfl, hs429, (h427.sub (sub_cons mem0 (sub_skip (sub_skip (sub_skip (sub_refl _)))))), hf428, e421⟩
    · clear hK57 hK61 hK81
      rintro ρ wd446 ⟨x450, v449, rfl, hs454, h452, hf453, e447⟩
      replace h := jn0_inr hn457
      refine hK80 _ _ ?_
      refine WC_seqK fun K541 hK541 => ?_
      refine WC_region ?_
      refine T0_q (v := v449) rfl (yl_move hs454) ?_
      refine T0_q (v := v449) rfl (yl_assign rfl) ?_
      refine T0_q (v := (.int .i64 0)) rfl (yl_assign rfl) ?_
      refine T0_nil ?_
      refine hK541 _ _ ?_
      refine WC_ret ?_
      replace h := some_out h
      subst h
      exact ⟨[v449, (.int .i64 0)], ⟨rfl, rfl, trivial⟩, e447, v449, rfl, (h452.rdL (sub_skip (sub_refl _)) hL hf453)⟩

noncomputable def levitate_StepOf_spec (p_p : LevitatePlant) (p_x : (List Int)) (p_s : LevitateSample) : Option ((List Int) × Int) :=
  (Option.bind (levitate_RunOf_spec p_p p_x ([p_s] : List LevitateSample)) fun r39 =>
  (bif (!decide (r39.2 = 0)) then (
    some (([] : (List Int)), r39.2)
  ) else (
    (Option.bind (idx r39.1 0) fun el55 =>
    some (el55, 0)
    )
  ))
  )
theorem levitate_StepOf_ok (L : List Value) (w : World) (hL : LtL L w) (cs_p_p : List Value) (p_p : LevitatePlant) (h_p_p : Rep.rd L w cs_p_p p_p) (v_p_x : Value) (p_x : (List Int)) (h_p_x : SlRd L w v_p_x p_x) (cs_p_s : List Value) (p_s : LevitateSample) (h_p_s : Rep.rd L w cs_p_s p_s) (r : (List Int) × Int) (h : levitate_StepOf_spec p_p p_x p_s = some r) :
    CallsTo Try.prog 31 [(.agg cs_p_p.toArray), v_p_x, (.agg cs_p_s.toArray)] w (fun v w' => Ext w w' ∧ ∃ (v0 : Value), (.tuple #[v0, (.int .i64 r.2)]) = v ∧ SlRd L w' v0 r.1) := by
  have e0 : Ext w w := Chg.refl _ _
  obtain ⟨v1, v3, h2, h4, rfl⟩ := h_p_p
  obtain ⟨v8, h9, rfl⟩ := h_p_s
  refine callsTo_of_WC (n := 24) (rs := [.tmp 6, .tmp 7]) Try.func31 rfl rfl rfl rfl rfl ?_
  refine WC_seqK fun K11 hK11 => ?_
  refine WC_region ?_
  refine T0_e rfl (eff_boxC (cs := [(.int .i64 p_p.Den), v1, v3]) rfl rfl ?_)
  intro b12 wd13 hb14 he15 hB16
  have e18 := e0.trans he15
  refine T0_e rfl (eff_boxC (cs := [(.int .i64 p_s.Map), v8]) rfl rfl ?_)
  intro b20 wd21 hb22 he23 hB24
  have e27 := he15.trans he23
  have e28 := e18.trans he23
  refine T0_q (v := (.slice none 0 0)) rfl (yl_assign rfl) ?_
  refine T0_q (v := (.int .i64 0)) rfl (yl_assign rfl) ?_
  refine T0_nil ?_
  refine hK11 _ _ ?_
  refine WC_seqK fun K30 hK30 => ?_
  refine WC_region ?_
  refine T0_q (v := (.agg (List.toArray [(.int .i64 p_p.Den), v1, v3]))) rfl (yl_loadA (cs := [(.int .i64 p_p.Den), v1, v3]) ag25 rfl (Box.at (hB16.ext he23))) ?_
  refine T0_q (v := v_p_x) rfl (yl_move rfl) ?_
  refine T0_q (v := (.agg (List.toArray [(.int .i64 p_s.Map), v8]))) rfl (yl_loadA (cs := [(.int .i64 p_s.Map), v8]) ag70 rfl (Box.at hB24)) ?_
  refine T0_e rfl (eff_buildTC (xs := ([p_s] : List LevitateSample)) (cells := [(.int .i64 p_s.Map), v8]) Try.underlying61 ei70 rfl (pc_cons rfl rfl pc_nil) rfl (Elems.cons (cs := [(.int .i64 p_s.Map), v8]) ⟨v8, (h9.ext e27), rfl⟩ Elems.nil) rfl (hL.chg e28) ?_)
  intro b34 wd31 he32 h33
  have e35 := e27.trans he32
  have e37 := e28.trans he32
  have hq := bind_elim h
  clear h
  obtain ⟨r39, hr40, h⟩ := hq
  refine T0_e rfl (eff_call Try.func57 nm57 rfl (ev3 rfl rfl rfl) (levitate_RunOf_ok L _ (hL.chg e37) [(.int .i64 p_p.Den), v1, v3] p_p ⟨v1, v3, (h2.ext e35), (h4.ext e35), rfl⟩ v_p_x p_x (h_p_x.ext e35) (.slice (some ⟨b34, 0, none⟩) 1 1) ([p_s] : List LevitateSample) h33 r39 hr40) ?_)
  rintro _ wd41 ⟨he42, v43, rfl, h44⟩
  have e48 := e37.trans he42
  refine T0_q (v := (.tuple #[v43, (.int .i64 r39.2)])) rfl (yl_move rfl) ?_
  refine T0_q (v := v43) rfl (yl_extract rfl rfl) ?_
  refine T0_q (v := (.int .i64 r39.2)) rfl (yl_extract rfl rfl) ?_
  refine T0_q (v := v43) rfl (yl_assign rfl) ?_
  refine T0_q (v := (.int .i64 r39.2)) rfl (yl_assign rfl) ?_
  refine T0_nil ?_
  refine hK30 _ _ ?_
  refine WC_seqK fun K50 hK50 => ?_
  refine WC_seqK fun K51 hK51 => ?_
  refine WC_region ?_
  refine T0_q (v := (.int .i64 r39.2)) rfl (yl_move rfl) ?_
  refine T0_q (v := (.bool (!decide (r39.2 = 0)))) rfl (yl_neq rfl rfl) ?_
  refine T0_nil ?_
  refine hK51 _ _ ?_
  refine WC_cond (b := (!decide (r39.2 = 0))) rfl (fun hb52 => ?_) (fun hb52 => ?_)
  · clear hK11 hK30 hK50 hK51
    replace h := cond_t hb52 h
    refine WC_seqK fun K53 hK53 => ?_
    refine WC_region ?_
    refine T0_q (v := (.int .i64 r39.2)) rfl (yl_move rfl) ?_
    refine T0_q (v := (.slice none 0 0)) rfl (yl_assign rfl) ?_
    refine T0_q (v := (.int .i64 r39.2)) rfl (yl_assign rfl) ?_
    refine T0_nil ?_
    refine hK53 _ _ ?_
    refine WC_ret ?_
    replace h := some_out h
    subst h
    exact ⟨[(.slice none 0 0), (.int .i64 r39.2)], ⟨rfl, rfl, trivial⟩, e48, (.slice none 0 0), rfl, (SlRd.nil _ _)⟩
  · clear hK11 hK30 hK51
    replace h := cond_f hb52 h
    refine WC_skip ?_
    refine hK50 _ _ ?_
    refine WC_seqK fun K54 hK54 => ?_
    refine WC_region ?_
    refine T0_q (v := v43) rfl (yl_move rfl) ?_
    have hq := bind_elim h
    clear h
    obtain ⟨el55, hel56, h⟩ := hq
    have hq := SlRd.at h44 hel56
    obtain ⟨cs59, hat60, hrd61⟩ := hq
    obtain ⟨v57, rfl, h58⟩ := hrd61
    refine T0_q (v := (.pointer (some (elemAddr v43 (0 : Int).toNat 1)))) rfl (yl_indexAddr Try.underlying47 sz23 h44 hel56 rfl rfl) ?_
    refine T0_q (v := v57) rfl (yl_load sc23 rfl hat60) ?_
    refine T0_q (v := v57) rfl (yl_assign rfl) ?_
    refine T0_q (v := (.int .i64 0)) rfl (yl_assign rfl) ?_
    refine T0_nil ?_
    refine hK54 _ _ ?_
    refine WC_ret ?_
    replace h := some_out h
    subst h
    exact ⟨[v57, (.int .i64 0)], ⟨rfl, rfl, trivial⟩, e48, v57, rfl, h58⟩

noncomputable def levitate_LeastLevel_1_spec (p_n : Int) (c5 : Int) (c8 : Arr2_Int) : Option Bool :=
  (Option.bind (levitate_kept_spec p_n c5 c8) fun r13 =>
  some r13
  )
theorem levitate_LeastLevel_1_ok (L : List Value) (w : World) (hL : LtL L w) (p_n : Int) (b1 : Nat) (b2 : Nat) (c5 : Int) (hB3 : Box w b1 [(.int .i64 c5)] 3) (cs9 : List Value) (c8 : Arr2_Int) (h10 : Rep.rd L w cs9 c8) (hB6 : Box w b2 cs9 48) (r : Bool) (h : levitate_LeastLevel_1_spec p_n c5 c8 = some r) :
    CallsTo Try.prog 61 [(.int .i64 p_n), (.pointer (some ⟨b1, 0, none⟩)), (.pointer (some ⟨b2, 0, none⟩))] w (fun v w' => Ext w w' ∧ (.bool r) = v) := by
  have e0 : Ext w w := Chg.refl _ _
  have h10 : cs9 = [(.int .i64 c8.e0), (.int .i64 c8.e1)] := h10
  subst h10
  refine callsTo_of_WC (n := 9) (rs := [.tmp 4]) Try.func61 rfl rfl rfl rfl rfl ?_
  refine WC_seqK fun K11 hK11 => ?_
  refine WC_region ?_
  refine T0_q (v := (.bool false)) rfl (yl_assign rfl) ?_
  refine T0_nil ?_
  refine hK11 _ _ ?_
  refine WC_seqK fun K12 hK12 => ?_
  refine WC_region ?_
  refine T0_q (v := (.int .i64 p_n)) rfl (yl_move rfl) ?_
  refine T0_q (v := (.int .i64 c5)) rfl (yl_load sc3 rfl (Box.at hB3)) ?_
  refine T0_q (v := (.agg (List.toArray [(.int .i64 c8.e0), (.int .i64 c8.e1)]))) rfl (yl_loadA (cs := [(.int .i64 c8.e0), (.int .i64 c8.e1)]) ag48 rfl (Box.at hB6)) ?_
  have hq := bind_elim h
  clear h
  obtain ⟨r13, hr14, h⟩ := hq
  refine T0_e rfl (eff_call Try.func53 nm53 rfl (ev3 rfl rfl rfl) (levitate_kept_ok [] _ (LtL.nil _) p_n c5 [(.int .i64 c8.e0), (.int .i64 c8.e1)] c8 rfl r13 hr14) ?_)
  rintro _ wd15 ⟨he16, rfl⟩
  have e17 := e0.trans he16
  refine T0_q (v := (.bool r13)) rfl (yl_assign rfl) ?_
  refine T0_nil ?_
  refine hK12 _ _ ?_
  refine WC_ret ?_
  replace h := some_out h
  subst h
  exact ⟨[(.bool r13)], ⟨rfl, trivial⟩, e17, rfl⟩

noncomputable def levitate_least_61_s0 (c5 : Int) (c8 : Arr2_Int) : (Int × Int) → Option ((Int × Int) ⊕ (Int)) := fun (x85, x87) =>
  (bif (decide (1 < w64 (x87 - x85))) then (
    (Option.bind (levitate_LeastLevel_1_spec (w64 (x85 + (w64 (Int.tdiv (w64 (x87 - x85)) 2)))) c5 c8) fun r111 =>
    (bif r111 then (
      some (.inl (x85, w64 (x85 + (w64 (Int.tdiv (w64 (x87 - x85)) 2)))))
    ) else (
      some (.inl (w64 (x85 + (w64 (Int.tdiv (w64 (x87 - x85)) 2))), x87))
    ))
    )
  ) else (
    some (.inr x87)
  ))
noncomputable def levitate_least_61_spec (p_most : Int) (c5 : Int) (c8 : Arr2_Int) : Option (Int × Bool) :=
  (Option.bind (loop (levitate_least_61_s0 c5 c8) (-1, w64 (p_most + 1))) fun (x96 : Int) =>
  some (x96, (decide (x96 ≤ p_most)))
  )
theorem levitate_least_61_ok (L : List Value) (w : World) (hL : LtL L w) (p_most : Int) (b1 : Nat) (b2 : Nat) (c5 : Int) (hB3 : Box w b1 [(.int .i64 c5)] 3) (cs9 : List Value) (c8 : Arr2_Int) (h10 : Rep.rd L w cs9 c8) (hB6 : Box w b2 cs9 48) (r : Int × Bool) (h : levitate_least_61_spec p_most c5 c8 = some r) :
    CallsTo Try.prog 60 [(.int .i64 p_most), (.func (.func 61) #[] (List.toArray [(.pointer (some ⟨b1, 0, none⟩)), (.pointer (some ⟨b2, 0, none⟩))]))] w (fun v w' => Ext w w' ∧ (.tuple #[(.int .i64 r.1), (.bool r.2)]) = v) := by
  have e0 : Ext w w := Chg.refl _ _
  have h10 : cs9 = [(.int .i64 c8.e0), (.int .i64 c8.e1)] := h10
  subst h10
  refine callsTo_of_WC (n := 30) (rs := [.tmp 4, .tmp 5]) Try.func60 rfl rfl rfl rfl rfl ?_
  refine WC_seqK fun K11 hK11 => ?_
  refine WC_region ?_
  refine T0_q (v := (.int .i64 0)) rfl (yl_assign rfl) ?_
  refine T0_q (v := (.bool false)) rfl (yl_assign rfl) ?_
  refine T0_nil ?_
  refine hK11 _ _ ?_
  refine WC_seqK fun K12 hK12 => ?_
  refine WC_region ?_
  refine T0_q (v := (.int .i64 p_most)) rfl (yl_move rfl) ?_
  refine T0_q (v := (.int .i64 (w64 (p_most + 1)))) rfl (yl_add rfl rfl) ?_
  refine T0_q (v := (.int .i64 (-1))) rfl (yl_assign rfl) ?_
  refine T0_q (v := (.int .i64 (w64 (p_most + 1)))) rfl (yl_assign rfl) ?_
  refine T0_nil ?_
  refine hK12 _ _ ?_
  refine WC_seqK fun K13 hK13 => ?_
  have hq := bind_elim h
  clear h
  obtain ⟨o98, hl99, hn100⟩ := hq
  refine WC_post (fun (ρ : Env) (wd93 : World) => ∃ (x96 : Int), x96 = o98 ∧ ρ 0 = (.int .i64 p_most) ∧ ρ 7 = (.int .i64 x96) ∧ Ext w wd93) ?_ ?_
  · clear hK11 hK12 hK13
    intro K104 hK104
    refine WC_block ?_
    refine WC_loopk (fun sv ρ wd81 => ∃ (x85 : Int) (x87 : Int), (x85, x87) = sv ∧ ρ 0 = (.int .i64 p_most) ∧ ρ 1 = (.func (.func 61) #[] (List.toArray [(.pointer (some ⟨b1, 0, none⟩)), (.pointer (some ⟨b2, 0, none⟩))])) ∧ ρ 6 = (.int .i64 x85) ∧ ρ 7 = (.int .i64 x87) ∧ Box wd81 b1 [(.int .i64 c5)] 3 ∧ Box wd81 b2 [(.int .i64 c8.e0), (.int .i64 c8.e1)] 48 ∧ Ext w wd81) hl99 ⟨-1, w64 (p_most + 1), rfl, rfl, rfl, rfl, rfl, hB3, hB6, e0⟩ ?_
    rintro _ ρ wd81 ⟨x85, x87, rfl, hs83, hs84, hs86, hs88, hB90, hB92, e82⟩ x101 h hx102 K103 hK103
    refine WC_seqK fun K106 hK106 => ?_
    refine WC_seqK fun K107 hK107 => ?_
    refine WC_region ?_
    refine T0_q (v := (.int .i64 x87)) rfl (yl_move hs88) ?_
    refine T0_q (v := (.int .i64 x85)) rfl (yl_move hs86) ?_
    refine T0_q (v := (.int .i64 (w64 (x87 - x85)))) rfl (yl_sub rfl rfl) ?_
    refine T0_q (v := (.bool (decide (1 < w64 (x87 - x85))))) rfl (yl_gtr rfl rfl) ?_
    refine T0_nil ?_
    refine hK107 _ _ ?_
    refine WC_cond (b := (decide (1 < w64 (x87 - x85)))) rfl (fun hb108 => ?_) (fun hb108 => ?_)
    · clear hK104 hK107
      replace h := cond_t hb108 h
      refine WC_skip ?_
      refine hK106 _ _ ?_
      refine WC_block ?_
      refine WC_seqK fun K109 hK109 => ?_
      refine WC_region ?_
      refine T0_q (v := (.int .i64 x85)) rfl (yl_move hs86) ?_
      refine T0_q (v := (.int .i64 x87)) rfl (yl_move hs88) ?_
      refine T0_q (v := (.int .i64 x85)) rfl (yl_move hs86) ?_
      refine T0_q (v := (.int .i64 (w64 (x87 - x85)))) rfl (yl_sub rfl rfl) ?_
      refine T0_q (v := (.int .i64 (w64 (Int.tdiv (w64 (x87 - x85)) 2)))) rfl (yl_quo (by decide) rfl rfl) ?_
      refine T0_q (v := (.int .i64 (w64 (x85 + (w64 (Int.tdiv (w64 (x87 - x85)) 2)))))) rfl (yl_add rfl rfl) ?_
      refine T0_q (v := (.int .i64 (w64 (x85 + (w64 (Int.tdiv (w64 (x87 - x85)) 2)))))) rfl (yl_assign rfl) ?_
      refine T0_nil ?_
      refine hK109 _ _ ?_
      refine WC_seqK fun K110 hK110 => ?_
      refine WC_region ?_
      refine T0_q (v := (.func (.func 61) #[] (List.toArray [(.pointer (some ⟨b1, 0, none⟩)), (.pointer (some ⟨b2, 0, none⟩))]))) rfl (yl_move hs84) ?_
      refine T0_q (v := (.int .i64 (w64 (x85 + (w64 (Int.tdiv (w64 (x87 - x85)) 2)))))) rfl (yl_move rfl) ?_
      have hq := bind_elim h
      clear h
      obtain ⟨r111, hr112, h⟩ := hq
      refine T0_e rfl (eff_callC rfl Try.func61 nm61 rfl (ev1 rfl) rfl (levitate_LeastLevel_1_ok [] _ (LtL.nil _) (w64 (x85 + (w64 (Int.tdiv (w64 (x87 - x85)) 2)))) b1 b2 c5 hB90 [(.int .i64 c8.e0), (.int .i64 c8.e1)] c8 rfl hB92 r111 hr112) ?_)
      rintro _ wd113 ⟨he114, rfl⟩
      have e115 := e82.trans he114
      refine T0_nil ?_
      refine hK110 _ _ ?_
      refine WC_cond (b := r111) rfl (fun hb116 => ?_) (fun hb116 => ?_)
      · clear hK106 hK109 hK110
        replace h := cond_t hb116 h
        refine WC_region ?_
        refine T0_q (v := (.int .i64 (w64 (x85 + (w64 (Int.tdiv (w64 (x87 - x85)) 2)))))) rfl (yl_move rfl) ?_
        refine T0_q (v := (.int .i64 (w64 (x85 + (w64 (Int.tdiv (w64 (x87 - x85)) 2)))))) rfl (yl_assign rfl) ?_
        refine T0_nil ?_
        replace h := some_out h
        subst h
        refine hK103 _ _ _ rfl ?_
        exact ⟨x85, w64 (x85 + (w64 (Int.tdiv (w64 (x87 - x85)) 2))), rfl, hs83, hs84, hs86, rfl, (hB90.ext he114), (hB92.ext he114), e115⟩
      · clear hK106 hK109 hK110
        replace h := cond_f hb116 h
        refine WC_region ?_
        refine T0_q (v := (.int .i64 (w64 (x85 + (w64 (Int.tdiv (w64 (x87 - x85)) 2)))))) rfl (yl_move rfl) ?_
        refine T0_q (v := (.int .i64 (w64 (x85 + (w64 (Int.tdiv (w64 (x87 - x85)) 2)))))) rfl (yl_assign rfl) ?_
        refine T0_nil ?_
        replace h := some_out h
        subst h
        refine hK103 _ _ _ rfl ?_
        exact ⟨w64 (x85 + (w64 (Int.tdiv (w64 (x87 - x85)) 2))), x87, rfl, hs83, hs84, rfl, hs88, (hB90.ext he114), (hB92.ext he114), e115⟩
    · clear hK103 hK106 hK107
      replace h := cond_f hb108 h
      refine WC_exit ?_
      replace h := some_out h
      subst h
      have ho := hx102 _ rfl
      subst ho
      refine hK104 _ _ ?_
      exact ⟨x87, rfl, hs83, hs88, e82⟩
  · clear hK11 hK12
    rintro ρ wd93 ⟨x96, rfl, hs95, hs97, e94⟩
    replace h := hn100
    refine hK13 _ _ ?_
    refine WC_seqK fun K117 hK117 => ?_
    refine WC_region ?_
    refine T0_q (v := (.int .i64 x96)) rfl (yl_move hs97) ?_
    refine T0_q (v := (.int .i64 x96)) rfl (yl_move hs97) ?_
    refine T0_q (v := (.int .i64 p_most)) rfl (yl_move hs95) ?_
    refine T0_q (v := (.bool (decide (x96 ≤ p_most)))) rfl (yl_leq rfl rfl) ?_
    refine T0_q (v := (.int .i64 x96)) rfl (yl_assign rfl) ?_
    refine T0_q (v := (.bool (decide (x96 ≤ p_most)))) rfl (yl_assign rfl) ?_
    refine T0_nil ?_
    refine hK117 _ _ ?_
    refine WC_ret ?_
    replace h := some_out h
    subst h
    exact ⟨[(.int .i64 x96), (.bool (decide (x96 ≤ p_most)))], ⟨rfl, rfl, trivial⟩, e94, rfl⟩

noncomputable def levitate_LeastLevel_spec (p_p : LevitatePlant) (p_form : (List (List Int))) (p_rate : Arr2_Int) : Option (Int × Int) :=
  (Option.bind (levitate_proves_spec p_p p_form p_rate) fun r28 =>
  (bif (!decide (r28.2.2 = 0)) then (
    some (0, r28.2.2)
  ) else (
    (Option.bind (levitate_plant_worst_spec (levitate_plant.mk (LevitatePlant.mk r28.1.LevitatePlant.Den r28.1.LevitatePlant.Maps r28.1.LevitatePlant.Noise)) p_form) fun r76 =>
    (Option.bind (levitate_least_61_spec 100000000000000 r76 p_rate) fun r111 =>
    (bif (!r111.2) then (
      some (0, 12)
    ) else (
      some (r111.1, 0)
    ))
    )
    )
  ))
  )
theorem levitate_LeastLevel_ok (L : List Value) (w : World) (hL : LtL L w) (cs_p_p : List Value) (p_p : LevitatePlant) (h_p_p : Rep.rd L w cs_p_p p_p) (v_p_form : Value) (p_form : (List (List Int))) (h_p_form : SlRd L w v_p_form p_form) (cs_p_rate : List Value) (p_rate : Arr2_Int) (h_p_rate : Rep.rd L w cs_p_rate p_rate) (r : Int × Int) (h : levitate_LeastLevel_spec p_p p_form p_rate = some r) :
    CallsTo Try.prog 33 [(.agg cs_p_p.toArray), v_p_form, (.agg cs_p_rate.toArray)] w (fun v w' => Ext w w' ∧ (.tuple #[(.int .i64 r.1), (.int .i64 r.2)]) = v) := by
  have e0 : Ext w w := Chg.refl _ _
  obtain ⟨v1, v3, h2, h4, rfl⟩ := h_p_p
  have h_p_rate : cs_p_rate = [(.int .i64 p_rate.e0), (.int .i64 p_rate.e1)] := h_p_rate
  subst h_p_rate
  refine callsTo_of_WC (n := 36) (rs := [.tmp 6, .tmp 7]) Try.func33 rfl rfl rfl rfl rfl ?_
  refine WC_seqK fun K8 hK8 => ?_
  refine WC_region ?_
  refine T0_e rfl (eff_boxC (cs := [(.int .i64 p_p.Den), v1, v3]) rfl rfl ?_)
  intro b9 wd10 hb11 he12 hB13
  have e15 := e0.trans he12
  refine T0_e rfl (eff_boxC (cs := [(.int .i64 p_rate.e0), (.int .i64 p_rate.e1)]) rfl rfl ?_)
  intro b17 wd18 hb19 he20 hB21
  have e24 := he12.trans he20
  have e25 := e15.trans he20
  refine T0_q (v := (.int .i64 0)) rfl (yl_assign rfl) ?_
  refine T0_q (v := (.int .i64 0)) rfl (yl_assign rfl) ?_
  refine T0_nil ?_
  refine hK8 _ _ ?_
  refine WC_seqK fun K27 hK27 => ?_
  refine WC_region ?_
  refine T0_q (v := (.agg (List.toArray [(.int .i64 p_p.Den), v1, v3]))) rfl (yl_loadA (cs := [(.int .i64 p_p.Den), v1, v3]) ag25 rfl (Box.at (hB13.ext he20))) ?_
  refine T0_q (v := v_p_form) rfl (yl_move rfl) ?_
  refine T0_q (v := (.agg (List.toArray [(.int .i64 p_rate.e0), (.int .i64 p_rate.e1)]))) rfl (yl_loadA (cs := [(.int .i64 p_rate.e0), (.int .i64 p_rate.e1)]) ag48 rfl (Box.at hB21)) ?_
  have hq := bind_elim h
  clear h
  obtain ⟨r28, hr29, h⟩ := hq
  refine T0_e rfl (eff_call Try.func52 nm52 rfl (ev3 rfl rfl rfl) (levitate_proves_ok L _ (hL.chg e25) [(.int .i64 p_p.Den), v1, v3] p_p ⟨v1, v3, (h2.ext e24), (h4.ext e24), rfl⟩ v_p_form p_form (h_p_form.ext e24) [(.int .i64 p_rate.e0), (.int .i64 p_rate.e1)] p_rate rfl r28 hr29) ?_)
  rintro _ wd30 ⟨he31, cs36, rfl, hrd37⟩
  have e38 := e24.trans he31
  have e40 := e25.trans he31
  obtain ⟨v32, v34, h33, h35, rfl⟩ := hrd37
  refine T0_q (v := (.tuple #[(.agg (List.toArray [(.int .i64 r28.1.LevitatePlant.Den), v32, v34])), (.int .i64 r28.2.1), (.int .i64 r28.2.2)])) rfl (yl_move rfl) ?_
  refine T0_q (v := (.agg (List.toArray [(.int .i64 r28.1.LevitatePlant.Den), v32, v34]))) rfl (yl_extract rfl rfl) ?_
  refine T0_q (v := (.int .i64 r28.2.1)) rfl (yl_extract rfl rfl) ?_
  refine T0_q (v := (.int .i64 r28.2.2)) rfl (yl_extract rfl rfl) ?_
  refine T0_e rfl (eff_allocZ zi89 ?_)
  intro b43 wd44 hb45 he46 hB47
  have hn49 : b43 ≠ b17 := box_ne (hB21.ext he31) hb45
  have hbf50 := bfresh e40 hb45
  have h53 := (h_p_form.ext e38).step (add_box he46 hb45)
  have h54 := h33.step (add_box he46 hb45)
  have h55 := h35.step (add_box he46 hb45)
  have e57 := he31.trans he46
  have e58 := e40.trans he46
  refine T0_e rfl (eff_storeC (vs := [(.int .i64 r28.1.LevitatePlant.Den), v32, v34]) (cs' := [(.int .i64 r28.1.LevitatePlant.Den), v32, v34]) sz89 rfl rfl rfl rfl hB47 rfl (oc_cons rfl (oc_cons h54.one1 (oc_cons h55.one1 oc_nil))) rfl ?_)
  intro wd60 hc61 hB62
  have h65 := h53.step (Stepp.chg_mem hc61 mem0)
  have h67 := (hB21.ext e57).chg hc61 (avoidb hn49)
  have h68 := h54.step (Stepp.chg_mem hc61 mem0)
  have h69 := h55.step (Stepp.chg_mem hc61 mem0)
  have e70 := chg_box e58 hc61 hbf50
  refine T0_q (v := (.int .i64 r28.2.1)) rfl (yl_assign rfl) ?_
  refine T0_q (v := (.int .i64 r28.2.2)) rfl (yl_assign rfl) ?_
  refine T0_nil ?_
  refine hK27 _ _ ?_
  refine WC_seqK fun K71 hK71 => ?_
  refine WC_seqK fun K72 hK72 => ?_
  refine WC_region ?_
  refine T0_q (v := (.int .i64 r28.2.2)) rfl (yl_move rfl) ?_
  refine T0_q (v := (.bool (!decide (r28.2.2 = 0)))) rfl (yl_neq rfl rfl) ?_
  refine T0_nil ?_
  refine hK72 _ _ ?_
  refine WC_cond (b := (!decide (r28.2.2 = 0))) rfl (fun hb73 => ?_) (fun hb73 => ?_)
  · clear hK27 hK71 hK72 hK8
    replace h := cond_t hb73 h
    refine WC_seqK fun K74 hK74 => ?_
    refine WC_region ?_
    refine T0_q (v := (.int .i64 r28.2.2)) rfl (yl_move rfl) ?_
    refine T0_q (v := (.int .i64 0)) rfl (yl_assign rfl) ?_
    refine T0_q (v := (.int .i64 r28.2.2)) rfl (yl_assign rfl) ?_
    refine T0_nil ?_
    refine hK74 _ _ ?_
    refine WC_ret ?_
    replace h := some_out h
    subst h
    exact ⟨[(.int .i64 0), (.int .i64 r28.2.2)], ⟨rfl, rfl, trivial⟩, e70, rfl⟩
  · clear hK27 hK72 hK8
    replace h := cond_f hb73 h
    refine WC_skip ?_
    refine hK71 _ _ ?_
    refine WC_seqK fun K75 hK75 => ?_
    refine WC_region ?_
    refine T0_q (v := (.agg (List.toArray [(.int .i64 r28.1.LevitatePlant.Den), v32, v34]))) rfl (yl_loadA (cs := [(.int .i64 r28.1.LevitatePlant.Den), v32, v34]) ag89 rfl (Box.at hB62)) ?_
    refine T0_q (v := v_p_form) rfl (yl_move rfl) ?_
    have hq := bind_elim h
    clear h
    obtain ⟨r76, hr77, h⟩ := hq
    refine T0_e rfl (eff_call Try.func54 nm54 rfl (ev2 rfl rfl) (levitate_plant_worst_ok [] _ (LtL.nil _) [(.int .i64 r28.1.LevitatePlant.Den), v32, v34] (levitate_plant.mk (LevitatePlant.mk r28.1.LevitatePlant.Den r28.1.LevitatePlant.Maps r28.1.LevitatePlant.Noise)) ⟨v32, v34, (h68.sub (fun _ h => by cases h)), (h69.sub (fun _ h => by cases h)), rfl⟩ v_p_form p_form (h65.sub (fun _ h => by cases h)) r76 hr77) ?_)
    rintro _ wd78 ⟨he79, rfl⟩
    have e80 := e70.trans he79
    refine T0_e rfl (eff_allocZ zi3 ?_)
    intro b81 wd82 hb83 he84 hB85
    have hn87 : b81 ≠ b17 := box_ne (h67.ext he79) hb83
    have hbf89 := bfresh e80 hb83
    have e95 := he79.trans he84
    have e96 := e80.trans he84
    refine T0_e rfl (eff_storeC (vs := [(.int .i64 r76)]) (cs' := [(.int .i64 r76)]) sz3 rfl rfl rfl rfl hB85 rfl (oc_cons rfl oc_nil) rfl ?_)
    intro wd98 hc99 hB100
    have h105 := (h67.ext e95).chg hc99 (avoidb hn87)
    have e109 := chg_box e96 hc99 hbf89
    refine T0_nil ?_
    refine hK75 _ _ ?_
    refine WC_seqK fun K110 hK110 => ?_
    refine WC_region ?_
    refine T0_q (v := (.func (.func 61) #[] (List.toArray [(.pointer (some ⟨b81, 0, none⟩)), (.pointer (some ⟨b17, 0, none⟩))]))) rfl (yl_makeFunc (ev2 rfl rfl)) ?_
    have hq := bind_elim h
    clear h
    obtain ⟨r111, hr112, h⟩ := hq
    refine T0_e rfl (eff_call Try.func60 nm60 rfl (ev2 rfl rfl) (levitate_least_61_ok [] _ (LtL.nil _) 100000000000000 b81 b17 r76 hB100 [(.int .i64 p_rate.e0), (.int .i64 p_rate.e1)] p_rate rfl h105 r111 hr112) ?_)
    rintro _ wd113 ⟨he114, rfl⟩
    have e115 := e109.trans he114
    refine T0_q (v := (.tuple #[(.int .i64 r111.1), (.bool r111.2)])) rfl (yl_move rfl) ?_
    refine T0_q (v := (.int .i64 r111.1)) rfl (yl_extract rfl rfl) ?_
    refine T0_q (v := (.bool r111.2)) rfl (yl_extract rfl rfl) ?_
    refine T0_q (v := (.int .i64 r111.1)) rfl (yl_assign rfl) ?_
    refine T0_q (v := (.bool r111.2)) rfl (yl_assign rfl) ?_
    refine T0_nil ?_
    refine hK110 _ _ ?_
    refine WC_seqK fun K116 hK116 => ?_
    refine WC_seqK fun K117 hK117 => ?_
    refine WC_region ?_
    refine T0_q (v := (.bool r111.2)) rfl (yl_move rfl) ?_
    refine T0_q (v := (.bool (!r111.2))) rfl (yl_not rfl) ?_
    refine T0_nil ?_
    refine hK117 _ _ ?_
    refine WC_cond (b := (!r111.2)) rfl (fun hb118 => ?_) (fun hb118 => ?_)
    · clear hK110 hK116 hK117 hK71 hK75
      replace h := cond_t hb118 h
      refine WC_seqK fun K119 hK119 => ?_
      refine WC_region ?_
      refine T0_q (v := (.int .i64 0)) rfl (yl_assign rfl) ?_
      refine T0_q (v := (.int .i64 12)) rfl (yl_assign rfl) ?_
      refine T0_nil ?_
      refine hK119 _ _ ?_
      refine WC_ret ?_
      replace h := some_out h
      subst h
      exact ⟨[(.int .i64 0), (.int .i64 12)], ⟨rfl, rfl, trivial⟩, e115, rfl⟩
    · clear hK110 hK117 hK71 hK75
      replace h := cond_f hb118 h
      refine WC_skip ?_
      refine hK116 _ _ ?_
      refine WC_seqK fun K120 hK120 => ?_
      refine WC_region ?_
      refine T0_q (v := (.int .i64 r111.1)) rfl (yl_move rfl) ?_
      refine T0_q (v := (.int .i64 r111.1)) rfl (yl_assign rfl) ?_
      refine T0_q (v := (.int .i64 0)) rfl (yl_assign rfl) ?_
      refine T0_nil ?_
      refine hK120 _ _ ?_
      refine WC_ret ?_
      replace h := some_out h
      subst h
      exact ⟨[(.int .i64 r111.1), (.int .i64 0)], ⟨rfl, rfl, trivial⟩, e115, rfl⟩

noncomputable def law02_awake_spec : Option Bool :=
  (Option.bind (law02_Plant_spec) fun r3 =>
  (Option.bind (levitate_StepOf_spec r3 ([20, -10] : List Int) (LevitateSample.mk 0 ([1, -1] : List Int))) fun r29 =>
  (Option.bind (law02_Plant_spec) fun r40 =>
  (Option.bind (levitate_LeastBox_spec r40 ([0, 0] : List Int)) fun r66 =>
  (Option.bind (law02_Plant_spec) fun r80 =>
  (Option.bind (law02_Form_spec) fun r99 =>
  (Option.bind (levitate_LeastLevel_spec r80 r99 (Arr2_Int.mk 1 2)) fun r114 =>
  (Option.bind (levitate_ForceOf_spec 1000 (Range.mk 10 20) (Range.mk 5 10)) fun r128 =>
  (Option.bind (levitate_MiddleOf_spec (LevitateSensors.mk (Arr3_Nat.mk 1120403456 1120796672 1132068864) 5)) fun r181 =>
  (Option.bind (bif (decide (r29.2 = 0)) then base_Ints_spec r29.1 ([11, -1] : List Int) else some default) fun r195 =>
  (Option.bind (bif (((decide (r29.2 = 0)) && r195) && (decide (r66.2 = 0))) then base_Ints_spec r66.1 ([6, 4] : List Int) else some default) fun r210 =>
  some ((((((((((decide (r29.2 = 0)) && r195) && (decide (r66.2 = 0))) && r210) && (decide (r114.2 = 0))) && (decide (r114.1 = 234))) && (decide (r128.2 = 0))) && (decide ((Range.mk r128.1.Lo r128.1.Hi) = (Range.mk 1000 16000)))) && (decide (r181.2 = 0))) && (decide (r181.1 = 103)))
  )
  )
  )
  )
  )
  )
  )
  )
  )
  )
  )
theorem law02_awake_ok (L : List Value) (w : World) (hL : LtL L w) (r : Bool) (h : law02_awake_spec = some r) :
    CallsTo Try.prog 7 [] w (fun v w' => Ext w w' ∧ (.bool r) = v) := by
  have e0 : Ext w w := Chg.refl _ _
  refine callsTo_of_WC (n := 85) (rs := [.tmp 0]) Try.func7 rfl rfl rfl rfl rfl ?_
  refine WC_seqK fun K1 hK1 => ?_
  refine WC_region ?_
  refine T0_q (v := (.bool false)) rfl (yl_assign rfl) ?_
  refine T0_nil ?_
  refine hK1 _ _ ?_
  refine WC_seqK fun K2 hK2 => ?_
  refine WC_region ?_
  have hq := bind_elim h
  clear h
  obtain ⟨r3, hr4, h⟩ := hq
  refine T0_e rfl (eff_call Try.func32 nm32 rfl ev0 (law02_Plant_ok L _ (hL.chg e0)  r3 hr4) ?_)
  rintro _ wd5 ⟨he6, cs11, rfl, hrd12⟩
  have e13 := e0.trans he6
  obtain ⟨v7, v9, h8, h10, rfl⟩ := hrd12
  refine T0_e rfl (eff_buildTC (xs := ([20, -10] : List Int)) (cells := [(.int .i64 20), (.int .i64 (-10))]) Try.underlying23 ei3 rfl (pc_cons rfl rfl (pc_cons rfl rfl pc_nil)) rfl (Elems.cons (cs := [(.int .i64 20)]) rfl (Elems.cons (cs := [(.int .i64 (-10))]) rfl Elems.nil)) rfl (hL.chg e13) ?_)
  intro b19 wd16 he17 h18
  have e20 := e13.trans he17
  refine T0_e rfl (eff_buildTC (xs := ([1, -1] : List Int)) (cells := [(.int .i64 1), (.int .i64 (-1))]) Try.underlying23 ei3 rfl (pc_cons rfl rfl (pc_cons rfl rfl pc_nil)) rfl (Elems.cons (cs := [(.int .i64 1)]) rfl (Elems.cons (cs := [(.int .i64 (-1))]) rfl Elems.nil)) rfl (hL.chg e20) ?_)
  intro b25 wd22 he23 h24
  have e26 := he17.trans he23
  have e27 := e20.trans he23
  refine T0_q (v := (.agg (List.toArray [(.int .i64 0), (.slice (some ⟨b25, 0, none⟩) 2 2)]))) rfl (yl_buildC (cells := [(.int .i64 0), (.slice (some ⟨b25, 0, none⟩) 2 2)]) bi70 (pc_cons rfl (cells_one h24.one1) pc_nil) rfl) ?_
  have hq := bind_elim h
  clear h
  obtain ⟨r29, hr30, h⟩ := hq
  refine T0_e rfl (eff_call Try.func31 nm31 rfl (ev3 rfl rfl rfl) (levitate_StepOf_ok L _ (hL.chg e27) [(.int .i64 r3.Den), v7, v9] r3 ⟨v7, v9, (h8.ext e26), (h10.ext e26), rfl⟩ (.slice (some ⟨b19, 0, none⟩) 2 2) ([20, -10] : List Int) (h18.ext he23) [(.int .i64 0), (.slice (some ⟨b25, 0, none⟩) 2 2)] (LevitateSample.mk 0 ([1, -1] : List Int)) ⟨(.slice (some ⟨b25, 0, none⟩) 2 2), h24, rfl⟩ r29 hr30) ?_)
  rintro _ wd31 ⟨he32, v33, rfl, h34⟩
  have e37 := e27.trans he32
  refine T0_q (v := (.tuple #[v33, (.int .i64 r29.2)])) rfl (yl_move rfl) ?_
  refine T0_q (v := v33) rfl (yl_extract rfl rfl) ?_
  refine T0_q (v := (.int .i64 r29.2)) rfl (yl_extract rfl rfl) ?_
  refine T0_q (v := v33) rfl (yl_assign rfl) ?_
  refine T0_q (v := (.int .i64 r29.2)) rfl (yl_assign rfl) ?_
  refine T0_nil ?_
  refine hK2 _ _ ?_
  refine WC_seqK fun K39 hK39 => ?_
  refine WC_region ?_
  have hq := bind_elim h
  clear h
  obtain ⟨r40, hr41, h⟩ := hq
  refine T0_e rfl (eff_call Try.func32 nm32 rfl ev0 (law02_Plant_ok L _ (hL.chg e37)  r40 hr41) ?_)
  rintro _ wd42 ⟨he43, cs48, rfl, hrd49⟩
  have e53 := e37.trans he43
  obtain ⟨v44, v46, h45, h47, rfl⟩ := hrd49
  refine T0_e rfl (eff_buildTC (xs := ([0, 0] : List Int)) (cells := [(.int .i64 0), (.int .i64 0)]) Try.underlying23 ei3 rfl (pc_cons rfl rfl (pc_cons rfl rfl pc_nil)) rfl (Elems.cons (cs := [(.int .i64 0)]) rfl (Elems.cons (cs := [(.int .i64 0)]) rfl Elems.nil)) rfl (hL.chg e53) ?_)
  intro b59 wd56 he57 h58
  have e62 := he43.trans he57
  have e64 := e53.trans he57
  have hq := bind_elim h
  clear h
  obtain ⟨r66, hr67, h⟩ := hq
  refine T0_e rfl (eff_call Try.func22 nm22 rfl (ev2 rfl rfl) (levitate_LeastBox_ok L _ (hL.chg e64) [(.int .i64 r40.Den), v44, v46] r40 ⟨v44, v46, (h45.ext he57), (h47.ext he57), rfl⟩ (.slice (some ⟨b59, 0, none⟩) 2 2) ([0, 0] : List Int) h58 r66 hr67) ?_)
  rintro _ wd68 ⟨he69, v70, rfl, h71⟩
  have e74 := e62.trans he69
  have e77 := e64.trans he69
  refine T0_q (v := (.tuple #[v70, (.int .i64 r66.2)])) rfl (yl_move rfl) ?_
  refine T0_q (v := v70) rfl (yl_extract rfl rfl) ?_
  refine T0_q (v := (.int .i64 r66.2)) rfl (yl_extract rfl rfl) ?_
  refine T0_q (v := v70) rfl (yl_assign rfl) ?_
  refine T0_q (v := (.int .i64 r66.2)) rfl (yl_assign rfl) ?_
  refine T0_nil ?_
  refine hK39 _ _ ?_
  refine WC_seqK fun K79 hK79 => ?_
  refine WC_region ?_
  have hq := bind_elim h
  clear h
  obtain ⟨r80, hr81, h⟩ := hq
  refine T0_e rfl (eff_call Try.func32 nm32 rfl ev0 (law02_Plant_ok L _ (hL.chg e77)  r80 hr81) ?_)
  rintro _ wd82 ⟨he83, cs88, rfl, hrd89⟩
  have e92 := e74.trans he83
  have e96 := e77.trans he83
  obtain ⟨v84, v86, h85, h87, rfl⟩ := hrd89
  have hq := bind_elim h
  clear h
  obtain ⟨r99, hr100, h⟩ := hq
  refine T0_e rfl (eff_call Try.func34 nm34 rfl ev0 (law02_Form_ok L _ (hL.chg e96)  r99 hr100) ?_)
  rintro _ wd101 ⟨he102, v103, rfl, h104⟩
  have e107 := e92.trans he102
  have e111 := he83.trans he102
  have e112 := e96.trans he102
  refine T0_q (v := (.agg (List.toArray [(.int .i64 1), (.int .i64 2)]))) rfl (yl_buildA (cells := [(.int .i64 1), (.int .i64 2)]) Try.underlying48 sz3 zi48 (pc_cons rfl rfl (pc_cons rfl rfl pc_nil)) rfl) ?_
  have hq := bind_elim h
  clear h
  obtain ⟨r114, hr115, h⟩ := hq
  refine T0_e rfl (eff_call Try.func33 nm33 rfl (ev3 rfl rfl rfl) (levitate_LeastLevel_ok [] _ (LtL.nil _) [(.int .i64 r80.Den), v84, v86] r80 ⟨v84, v86, ((h85.ext he102).sub (fun _ h => by cases h)), ((h87.ext he102).sub (fun _ h => by cases h)), rfl⟩ v103 r99 (h104.sub (fun _ h => by cases h)) [(.int .i64 1), (.int .i64 2)] (Arr2_Int.mk 1 2) rfl r114 hr115) ?_)
  rintro _ wd116 ⟨he117, rfl⟩
  have e120 := e107.trans he117
  have e124 := e111.trans he117
  have e126 := e112.trans he117
  refine T0_q (v := (.tuple #[(.int .i64 r114.1), (.int .i64 r114.2)])) rfl (yl_move rfl) ?_
  refine T0_q (v := (.int .i64 r114.1)) rfl (yl_extract rfl rfl) ?_
  refine T0_q (v := (.int .i64 r114.2)) rfl (yl_extract rfl rfl) ?_
  refine T0_q (v := (.int .i64 r114.1)) rfl (yl_assign rfl) ?_
  refine T0_q (v := (.int .i64 r114.2)) rfl (yl_assign rfl) ?_
  refine T0_nil ?_
  refine hK79 _ _ ?_
  refine WC_seqK fun K127 hK127 => ?_
  refine WC_region ?_
  refine T0_q (v := (.agg (List.toArray [(.int .i64 10), (.int .i64 20)]))) rfl (yl_buildC (cells := [(.int .i64 10), (.int .i64 20)]) bi74 (pc_cons rfl rfl (pc_cons rfl rfl pc_nil)) rfl) ?_
  refine T0_q (v := (.agg (List.toArray [(.int .i64 5), (.int .i64 10)]))) rfl (yl_buildC (cells := [(.int .i64 5), (.int .i64 10)]) bi74 (pc_cons rfl rfl (pc_cons rfl rfl pc_nil)) rfl) ?_
  have hq := bind_elim h
  clear h
  obtain ⟨r128, hr129, h⟩ := hq
  refine T0_e rfl (eff_call Try.func35 nm35 rfl (ev3 rfl rfl rfl) (levitate_ForceOf_ok [] _ (LtL.nil _) 1000 [(.int .i64 10), (.int .i64 20)] (Range.mk 10 20) rfl [(.int .i64 5), (.int .i64 10)] (Range.mk 5 10) rfl r128 hr129) ?_)
  rintro _ wd130 ⟨he131, cs132, rfl, hrd133⟩
  have e137 := e120.trans he131
  have e141 := e124.trans he131
  have e143 := e126.trans he131
  have hrd133 : cs132 = [(.int .i64 r128.1.Lo), (.int .i64 r128.1.Hi)] := hrd133
  subst hrd133
  refine T0_q (v := (.tuple #[(.agg (List.toArray [(.int .i64 r128.1.Lo), (.int .i64 r128.1.Hi)])), (.int .i64 r128.2)])) rfl (yl_move rfl) ?_
  refine T0_q (v := (.agg (List.toArray [(.int .i64 r128.1.Lo), (.int .i64 r128.1.Hi)]))) rfl (yl_extract rfl rfl) ?_
  refine T0_q (v := (.int .i64 r128.2)) rfl (yl_extract rfl rfl) ?_
  refine T0_e rfl (eff_allocZ zi74 ?_)
  intro b144 wd145 hb146 he147 hB148
  have hbf149 := bfresh e143 hb146
  have h154 := (h34.ext e137).step (add_box he147 hb146)
  have h158 := (h71.ext e141).step (add_box he147 hb146)
  have e162 := e143.trans he147
  refine T0_e rfl (eff_storeC (vs := [(.int .i64 r128.1.Lo), (.int .i64 r128.1.Hi)]) (cs' := [(.int .i64 r128.1.Lo), (.int .i64 r128.1.Hi)]) sz74 rfl rfl rfl rfl hB148 rfl (oc_cons rfl (oc_cons rfl oc_nil)) rfl ?_)
  intro wd164 hc165 hB166
  have h171 := h154.step (Stepp.chg_mem hc165 mem0)
  have h175 := h158.step (Stepp.chg_mem hc165 mem0)
  have e179 := chg_box e162 hc165 hbf149
  refine T0_q (v := (.int .i64 r128.2)) rfl (yl_assign rfl) ?_
  refine T0_nil ?_
  refine hK127 _ _ ?_
  refine WC_seqK fun K180 hK180 => ?_
  refine WC_region ?_
  refine T0_q (v := (.agg (List.toArray [(.float .f32 1120403456), (.float .f32 1120796672), (.float .f32 1132068864)]))) rfl (yl_buildA (cells := [(.float .f32 1120403456), (.float .f32 1120796672), (.float .f32 1132068864)]) Try.underlying38 sz37 zi38 (pc_cons rfl rfl (pc_cons rfl rfl (pc_cons rfl rfl pc_nil))) rfl) ?_
  refine T0_q (v := (.agg (List.toArray [(.float .f32 1120403456), (.float .f32 1120796672), (.float .f32 1132068864), (.int .i64 5)]))) rfl (yl_buildC (cells := [(.float .f32 1120403456), (.float .f32 1120796672), (.float .f32 1132068864), (.int .i64 5)]) bi40 (pc_cons rfl rfl (pc_cons rfl rfl pc_nil)) rfl) ?_
  have hq := bind_elim h
  clear h
  obtain ⟨r181, hr182, h⟩ := hq
  refine T0_e rfl (eff_call Try.func13 nm13 rfl (ev1 rfl) (levitate_MiddleOf_ok [] _ (LtL.nil _) [(.float .f32 1120403456), (.float .f32 1120796672), (.float .f32 1132068864), (.int .i64 5)] (LevitateSensors.mk (Arr3_Nat.mk 1120403456 1120796672 1132068864) 5) rfl r181 hr182) ?_)
  rintro _ wd183 ⟨he184, rfl⟩
  have e185 := e179.trans he184
  refine T0_q (v := (.tuple #[(.int .i64 r181.1), (.int .i64 r181.2)])) rfl (yl_move rfl) ?_
  refine T0_q (v := (.int .i64 r181.1)) rfl (yl_extract rfl rfl) ?_
  refine T0_q (v := (.int .i64 r181.2)) rfl (yl_extract rfl rfl) ?_
  refine T0_q (v := (.int .i64 r181.1)) rfl (yl_assign rfl) ?_
  refine T0_q (v := (.int .i64 r181.2)) rfl (yl_assign rfl) ?_
  refine T0_nil ?_
  refine hK180 _ _ ?_
  refine WC_seqK fun K186 hK186 => ?_
  refine WC_region ?_
  refine T0_q (v := (.int .i64 r29.2)) rfl (yl_move rfl) ?_
  refine T0_q (v := (.bool (decide (r29.2 = 0)))) rfl (yl_eql rfl rfl) ?_
  refine T0_q (v := (.bool (decide (r29.2 = 0)))) rfl (yl_move rfl) ?_
  refine T0_g (v := v33) (decide (r29.2 = 0)) (wanted_t rfl rfl rfl rfl) (fun hg => (yl_move rfl)) ?_
  refine T0_gx (fun v w' => SlRd ((.pointer (some ⟨b144, 0, none⟩)) :: L) w' v ([11, -1] : List Int)) (decide (r29.2 = 0)) (wanted_t rfl rfl rfl rfl) (fun hg => eff_buildTC (xs := ([11, -1] : List Int)) (cells := [(.int .i64 11), (.int .i64 (-1))]) Try.underlying23 ei3 rfl (pc_cons rfl rfl (pc_cons rfl rfl pc_nil)) rfl (Elems.cons (cs := [(.int .i64 11)]) rfl (Elems.cons (cs := [(.int .i64 (-1))]) rfl Elems.nil)) rfl (ltl_box (hL.chg e185) (hB166.ext he184)) (fun _ _ he h1 => ⟨he, h1⟩)) ?_
  intro v187 wd188 he189 h190
  have e191 := he184.trans he189
  have e192 := e185.trans he189
  have hq := bind_elim h
  clear h
  obtain ⟨r195, hr196, h⟩ := hq
  refine T0_ges (decide (r29.2 = 0)) (.bool r195) (wanted_t rfl rfl rfl rfl) (fun hg => eff_call Try.func24 nm24 rfl (ev2 (gd_true hg) (gd_true hg)) (base_Ints_ok [] _ (LtL.nil _) v33 r29.1 ((h171.ext e191).sub (fun _ h => by cases h)) v187 ([11, -1] : List Int) ((h190 hg).sub (fun _ h => by cases h)) r195 (cond_t hg hr196)) (by rintro _ wd197 ⟨he198, rfl⟩; exact ⟨rfl, he198⟩)) ?_
  intro wd197 he198
  have e199 := e191.trans he198
  have e200 := e192.trans he198
  refine T0_q (v := (.bool ((decide (r29.2 = 0)) && r195))) rfl (yl_and rfl (fun hb => (gd_true hb)) rfl) ?_
  refine T0_q (v := (.bool ((decide (r29.2 = 0)) && r195))) rfl (yl_move rfl) ?_
  refine T0_g (v := (.int .i64 r66.2)) ((decide (r29.2 = 0)) && r195) (wanted_t rfl rfl rfl rfl) (fun hg => (yl_move rfl)) ?_
  refine T0_g (v := (.bool (decide (r66.2 = 0)))) ((decide (r29.2 = 0)) && r195) (wanted_t rfl rfl rfl rfl) (fun hg => (yl_eql (gd_true hg) rfl)) ?_
  refine T0_q (v := (.bool (((decide (r29.2 = 0)) && r195) && (decide (r66.2 = 0))))) rfl (yl_and rfl (fun hb => (gd_true hb)) rfl) ?_
  refine T0_q (v := (.bool (((decide (r29.2 = 0)) && r195) && (decide (r66.2 = 0))))) rfl (yl_move rfl) ?_
  refine T0_g (v := v70) (((decide (r29.2 = 0)) && r195) && (decide (r66.2 = 0))) (wanted_t rfl rfl rfl rfl) (fun hg => (yl_move rfl)) ?_
  refine T0_gx (fun v w' => SlRd ((.pointer (some ⟨b144, 0, none⟩)) :: L) w' v ([6, 4] : List Int)) (((decide (r29.2 = 0)) && r195) && (decide (r66.2 = 0))) (wanted_t rfl rfl rfl rfl) (fun hg => eff_buildTC (xs := ([6, 4] : List Int)) (cells := [(.int .i64 6), (.int .i64 4)]) Try.underlying23 ei3 rfl (pc_cons rfl rfl (pc_cons rfl rfl pc_nil)) rfl (Elems.cons (cs := [(.int .i64 6)]) rfl (Elems.cons (cs := [(.int .i64 4)]) rfl Elems.nil)) rfl (ltl_box (hL.chg e200) (hB166.ext e199)) (fun _ _ he h1 => ⟨he, h1⟩)) ?_
  intro v201 wd202 he203 h204
  have e205 := e199.trans he203
  have e207 := e200.trans he203
  have hq := bind_elim h
  clear h
  obtain ⟨r210, hr211, h⟩ := hq
  refine T0_ges (((decide (r29.2 = 0)) && r195) && (decide (r66.2 = 0))) (.bool r210) (wanted_t rfl rfl rfl rfl) (fun hg => eff_call Try.func24 nm24 rfl (ev2 (gd_true hg) (gd_true hg)) (base_Ints_ok [] _ (LtL.nil _) v70 r66.1 ((h175.ext e205).sub (fun _ h => by cases h)) v201 ([6, 4] : List Int) ((h204 hg).sub (fun _ h => by cases h)) r210 (cond_t hg hr211)) (by rintro _ wd212 ⟨he213, rfl⟩; exact ⟨rfl, he213⟩)) ?_
  intro wd212 he213
  have e214 := e205.trans he213
  have e216 := e207.trans he213
  refine T0_q (v := (.bool ((((decide (r29.2 = 0)) && r195) && (decide (r66.2 = 0))) && r210))) rfl (yl_and rfl (fun hb => (gd_true hb)) rfl) ?_
  refine T0_q (v := (.bool ((((decide (r29.2 = 0)) && r195) && (decide (r66.2 = 0))) && r210))) rfl (yl_move rfl) ?_
  refine T0_g (v := (.int .i64 r114.2)) ((((decide (r29.2 = 0)) && r195) && (decide (r66.2 = 0))) && r210) (wanted_t rfl rfl rfl rfl) (fun hg => (yl_move rfl)) ?_
  refine T0_g (v := (.bool (decide (r114.2 = 0)))) ((((decide (r29.2 = 0)) && r195) && (decide (r66.2 = 0))) && r210) (wanted_t rfl rfl rfl rfl) (fun hg => (yl_eql (gd_true hg) rfl)) ?_
  refine T0_q (v := (.bool (((((decide (r29.2 = 0)) && r195) && (decide (r66.2 = 0))) && r210) && (decide (r114.2 = 0))))) rfl (yl_and rfl (fun hb => (gd_true hb)) rfl) ?_
  refine T0_q (v := (.bool (((((decide (r29.2 = 0)) && r195) && (decide (r66.2 = 0))) && r210) && (decide (r114.2 = 0))))) rfl (yl_move rfl) ?_
  refine T0_g (v := (.int .i64 r114.1)) (((((decide (r29.2 = 0)) && r195) && (decide (r66.2 = 0))) && r210) && (decide (r114.2 = 0))) (wanted_t rfl rfl rfl rfl) (fun hg => (yl_move rfl)) ?_
  refine T0_g (v := (.bool (decide (r114.1 = 234)))) (((((decide (r29.2 = 0)) && r195) && (decide (r66.2 = 0))) && r210) && (decide (r114.2 = 0))) (wanted_t rfl rfl rfl rfl) (fun hg => (yl_eql (gd_true hg) rfl)) ?_
  refine T0_q (v := (.bool ((((((decide (r29.2 = 0)) && r195) && (decide (r66.2 = 0))) && r210) && (decide (r114.2 = 0))) && (decide (r114.1 = 234))))) rfl (yl_and rfl (fun hb => (gd_true hb)) rfl) ?_
  refine T0_q (v := (.bool ((((((decide (r29.2 = 0)) && r195) && (decide (r66.2 = 0))) && r210) && (decide (r114.2 = 0))) && (decide (r114.1 = 234))))) rfl (yl_move rfl) ?_
  refine T0_g (v := (.int .i64 r128.2)) ((((((decide (r29.2 = 0)) && r195) && (decide (r66.2 = 0))) && r210) && (decide (r114.2 = 0))) && (decide (r114.1 = 234))) (wanted_t rfl rfl rfl rfl) (fun hg => (yl_move rfl)) ?_
  refine T0_g (v := (.bool (decide (r128.2 = 0)))) ((((((decide (r29.2 = 0)) && r195) && (decide (r66.2 = 0))) && r210) && (decide (r114.2 = 0))) && (decide (r114.1 = 234))) (wanted_t rfl rfl rfl rfl) (fun hg => (yl_eql (gd_true hg) rfl)) ?_
  refine T0_q (v := (.bool (((((((decide (r29.2 = 0)) && r195) && (decide (r66.2 = 0))) && r210) && (decide (r114.2 = 0))) && (decide (r114.1 = 234))) && (decide (r128.2 = 0))))) rfl (yl_and rfl (fun hb => (gd_true hb)) rfl) ?_
  refine T0_q (v := (.bool (((((((decide (r29.2 = 0)) && r195) && (decide (r66.2 = 0))) && r210) && (decide (r114.2 = 0))) && (decide (r114.1 = 234))) && (decide (r128.2 = 0))))) rfl (yl_move rfl) ?_
  refine T0_g (v := (.agg (List.toArray [(.int .i64 r128.1.Lo), (.int .i64 r128.1.Hi)]))) (((((((decide (r29.2 = 0)) && r195) && (decide (r66.2 = 0))) && r210) && (decide (r114.2 = 0))) && (decide (r114.1 = 234))) && (decide (r128.2 = 0))) (wanted_t rfl rfl rfl rfl) (fun hg => (yl_loadA (cs := [(.int .i64 r128.1.Lo), (.int .i64 r128.1.Hi)]) ag74 rfl (Box.at (hB166.ext e214)))) ?_
  refine T0_g (v := (.agg (List.toArray [(.int .i64 1000), (.int .i64 16000)]))) (((((((decide (r29.2 = 0)) && r195) && (decide (r66.2 = 0))) && r210) && (decide (r114.2 = 0))) && (decide (r114.1 = 234))) && (decide (r128.2 = 0))) (wanted_t rfl rfl rfl rfl) (fun hg => (yl_buildC (cells := [(.int .i64 1000), (.int .i64 16000)]) bi74 (pc_cons rfl rfl (pc_cons rfl rfl pc_nil)) rfl)) ?_
  refine T0_g (v := (.bool (decide ((Range.mk r128.1.Lo r128.1.Hi) = (Range.mk 1000 16000))))) (((((((decide (r29.2 = 0)) && r195) && (decide (r66.2 = 0))) && r210) && (decide (r114.2 = 0))) && (decide (r114.1 = 234))) && (decide (r128.2 = 0))) (wanted_t rfl rfl rfl rfl) (fun hg => (yl_eqlS eg74 (gd_true hg) (gd_true hg) (eqs74 (Range.mk r128.1.Lo r128.1.Hi) (Range.mk 1000 16000) _))) ?_
  refine T0_q (v := (.bool ((((((((decide (r29.2 = 0)) && r195) && (decide (r66.2 = 0))) && r210) && (decide (r114.2 = 0))) && (decide (r114.1 = 234))) && (decide (r128.2 = 0))) && (decide ((Range.mk r128.1.Lo r128.1.Hi) = (Range.mk 1000 16000)))))) rfl (yl_and rfl (fun hb => (gd_true hb)) rfl) ?_
  refine T0_q (v := (.bool ((((((((decide (r29.2 = 0)) && r195) && (decide (r66.2 = 0))) && r210) && (decide (r114.2 = 0))) && (decide (r114.1 = 234))) && (decide (r128.2 = 0))) && (decide ((Range.mk r128.1.Lo r128.1.Hi) = (Range.mk 1000 16000)))))) rfl (yl_move rfl) ?_
  refine T0_g (v := (.int .i64 r181.2)) ((((((((decide (r29.2 = 0)) && r195) && (decide (r66.2 = 0))) && r210) && (decide (r114.2 = 0))) && (decide (r114.1 = 234))) && (decide (r128.2 = 0))) && (decide ((Range.mk r128.1.Lo r128.1.Hi) = (Range.mk 1000 16000)))) (wanted_t rfl rfl rfl rfl) (fun hg => (yl_move rfl)) ?_
  refine T0_g (v := (.bool (decide (r181.2 = 0)))) ((((((((decide (r29.2 = 0)) && r195) && (decide (r66.2 = 0))) && r210) && (decide (r114.2 = 0))) && (decide (r114.1 = 234))) && (decide (r128.2 = 0))) && (decide ((Range.mk r128.1.Lo r128.1.Hi) = (Range.mk 1000 16000)))) (wanted_t rfl rfl rfl rfl) (fun hg => (yl_eql (gd_true hg) rfl)) ?_
  refine T0_q (v := (.bool (((((((((decide (r29.2 = 0)) && r195) && (decide (r66.2 = 0))) && r210) && (decide (r114.2 = 0))) && (decide (r114.1 = 234))) && (decide (r128.2 = 0))) && (decide ((Range.mk r128.1.Lo r128.1.Hi) = (Range.mk 1000 16000)))) && (decide (r181.2 = 0))))) rfl (yl_and rfl (fun hb => (gd_true hb)) rfl) ?_
  refine T0_q (v := (.bool (((((((((decide (r29.2 = 0)) && r195) && (decide (r66.2 = 0))) && r210) && (decide (r114.2 = 0))) && (decide (r114.1 = 234))) && (decide (r128.2 = 0))) && (decide ((Range.mk r128.1.Lo r128.1.Hi) = (Range.mk 1000 16000)))) && (decide (r181.2 = 0))))) rfl (yl_move rfl) ?_
  refine T0_g (v := (.int .i64 r181.1)) (((((((((decide (r29.2 = 0)) && r195) && (decide (r66.2 = 0))) && r210) && (decide (r114.2 = 0))) && (decide (r114.1 = 234))) && (decide (r128.2 = 0))) && (decide ((Range.mk r128.1.Lo r128.1.Hi) = (Range.mk 1000 16000)))) && (decide (r181.2 = 0))) (wanted_t rfl rfl rfl rfl) (fun hg => (yl_move rfl)) ?_
  refine T0_g (v := (.bool (decide (r181.1 = 103)))) (((((((((decide (r29.2 = 0)) && r195) && (decide (r66.2 = 0))) && r210) && (decide (r114.2 = 0))) && (decide (r114.1 = 234))) && (decide (r128.2 = 0))) && (decide ((Range.mk r128.1.Lo r128.1.Hi) = (Range.mk 1000 16000)))) && (decide (r181.2 = 0))) (wanted_t rfl rfl rfl rfl) (fun hg => (yl_eql (gd_true hg) rfl)) ?_
  refine T0_q (v := (.bool ((((((((((decide (r29.2 = 0)) && r195) && (decide (r66.2 = 0))) && r210) && (decide (r114.2 = 0))) && (decide (r114.1 = 234))) && (decide (r128.2 = 0))) && (decide ((Range.mk r128.1.Lo r128.1.Hi) = (Range.mk 1000 16000)))) && (decide (r181.2 = 0))) && (decide (r181.1 = 103))))) rfl (yl_and rfl (fun hb => (gd_true hb)) rfl) ?_
  refine T0_q (v := (.bool ((((((((((decide (r29.2 = 0)) && r195) && (decide (r66.2 = 0))) && r210) && (decide (r114.2 = 0))) && (decide (r114.1 = 234))) && (decide (r128.2 = 0))) && (decide ((Range.mk r128.1.Lo r128.1.Hi) = (Range.mk 1000 16000)))) && (decide (r181.2 = 0))) && (decide (r181.1 = 103))))) rfl (yl_assign rfl) ?_
  refine T0_nil ?_
  refine hK186 _ _ ?_
  refine WC_ret ?_
  replace h := some_out h
  subst h
  exact ⟨[(.bool ((((((((((decide (r29.2 = 0)) && r195) && (decide (r66.2 = 0))) && r210) && (decide (r114.2 = 0))) && (decide (r114.1 = 234))) && (decide (r128.2 = 0))) && (decide ((Range.mk r128.1.Lo r128.1.Hi) = (Range.mk 1000 16000)))) && (decide (r181.2 = 0))) && (decide (r181.1 = 103))))], ⟨rfl, trivial⟩, e216, rfl⟩

end Go.Gw
