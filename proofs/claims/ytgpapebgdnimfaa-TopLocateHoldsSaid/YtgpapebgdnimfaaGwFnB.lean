/- What functions come to, printed by a program of this work. No condition. -/
import Derived.Test.YtgpapebgdnimfaaGwFnA
set_option maxRecDepth 4096
set_option maxHeartbeats 1000000
set_option linter.unusedVariables false
namespace Go.Gw
open Go Go.Proofs
attribute [local irreducible] T0 TS TT TP Eff Stp WC Quiet gd
noncomputable def locate_Follow_s0 (p_String : (List LocateFix)) : (Int × Int) → Option ((Int × Int) ⊕ ((Range × Int × Int) ⊕ (Unit))) := fun (x363, x367) =>
  (bif (decide (x367 < (p_String.length : Int))) then (
    (Option.bind (idx p_String x367) fun el396 =>
    (Option.bind (locate_timeErr_spec el396.At) fun r425 =>
    (Option.bind (locate_placesErr_spec el396.Place) fun r431 =>
    (Option.bind (locate_unless_spec (decide (x363 ≤ el396.At)) 9) fun r438 =>
    (Option.bind (locate_first_spec ([r425, r431, r438] : List Int)) fun r453 =>
    (bif (!decide (r453 = 0)) then (
      some (.inr (.inl ((Range.mk 0 0), 0, r453)))
    ) else (
      some (.inl (el396.At, w64 (x367 + 1)))
    ))
    )
    )
    )
    )
    )
  ) else (
    some (.inr (.inr ()))
  ))
noncomputable def locate_Follow_s1 (p_Listappend : Range) (p_String : (List LocateFix)) : (Int × Int × Int) → Option ((Int × Int × Int) ⊕ ((Range × Int × Int) ⊕ (Int × Int))) := fun (x757, x763, x764) =>
  (bif (decide (x757 < (p_String.length : Int))) then (
    (Option.bind (idx p_String x757) fun el793 =>
    (Option.bind (idx p_String (w64 (x757 - 1))) fun el799 =>
    (Option.bind (locate_moved_spec (Range.mk x763 x764) p_Listappend (w64 (el793.At - el799.At))) fun r805 =>
    (Option.bind (idx p_String x757) fun el824 =>
    (Option.bind (idx p_String x757) fun el830 =>
    (bif (decide ((if el830.Place.Hi < r805.Hi then el830.Place.Hi else r805.Hi) < (if r805.Lo < el824.Place.Lo then el824.Place.Lo else r805.Lo))) then (
      some (.inr (.inl ((Range.mk 0 0), x757, 13)))
    ) else (
      some (.inl (w64 (x757 + 1), (if r805.Lo < el824.Place.Lo then el824.Place.Lo else r805.Lo), (if el830.Place.Hi < r805.Hi then el830.Place.Hi else r805.Hi)))
    ))
    )
    )
    )
    )
    )
  ) else (
    some (.inr (.inr (x763, x764)))
  ))
noncomputable def locate_Follow_spec (p_Listappend : Range) (p_String : (List LocateFix)) : Option (Range × Int × Int) :=
  (Option.bind (locate_speedErr_spec p_Listappend) fun r23 =>
  (Option.bind (locate_unless_spec (decide (0 < (p_String.length : Int))) 10) fun r29 =>
  (Option.bind (locate_unless_spec (decide ((p_String.length : Int) ≤ 40)) 8) fun r36 =>
  (Option.bind (locate_first_spec ([r23, r29, r36] : List Int)) fun r51 =>
  (bif (!decide (r51 = 0)) then (
    some ((Range.mk 0 0), 0, r51)
  ) else (
    (Option.bind (loop (locate_Follow_s0 p_String) (0, 0)) fun o383 => jn0 o383 fun (_ : Unit) =>
    (Option.bind (idx p_String 0) fun el472 =>
    (Option.bind (loop (locate_Follow_s1 p_Listappend p_String) (1, el472.Place.Lo, el472.Place.Hi)) fun o777 => jn0 o777 fun ((x773, x774) : Int × Int) =>
    some ((Range.mk x773 x774), 0, 0)
    )
    )
    )
  ))
  )
  )
  )
  )
theorem locate_Follow_ok (L : List Value) (w : World) (hL : LtL L w) (cs_p_Listappend : List Value) (p_Listappend : Range) (h_p_Listappend : Rep.rd L w cs_p_Listappend p_Listappend) (v_p_String : Value) (p_String : (List LocateFix)) (h_p_String : SlRd L w v_p_String p_String) (r : Range × Int × Int) (h : locate_Follow_spec p_Listappend p_String = some r) :
    CallsTo Try.prog 18 [(.agg cs_p_Listappend.toArray), v_p_String] w (fun v w' => Ext w w' ∧ ∃ (cs0 : List Value), (.tuple #[(.agg cs0.toArray), (.int .i64 r.2.1), (.int .i64 r.2.2)]) = v ∧ Rep.rd L w' cs0 r.1) := by
  have e0 : Ext w w := Chg.refl _ _
  have h_p_Listappend : cs_p_Listappend = [(.int .i64 p_Listappend.Lo), (.int .i64 p_Listappend.Hi)] := h_p_Listappend
  subst h_p_Listappend
  refine callsTo_of_WC (n := 108) (rs := [.cell 4 35, .tmp 5, .tmp 6]) Try.func18 rfl rfl rfl rfl rfl ?_
  refine WC_seqK fun K2 hK2 => ?_
  refine WC_region ?_
  refine T0_e rfl (eff_boxC (cs := [(.int .i64 p_Listappend.Lo), (.int .i64 p_Listappend.Hi)]) rfl rfl ?_)
  intro b3 wd4 hb5 he6 hB7
  have hbf8 := bfresh e0 hb5
  have e9 := e0.trans he6
  refine T0_e rfl (eff_allocZ zi35 ?_)
  intro b11 wd12 hb13 he14 hB15
  have hn16 : b11 ≠ b3 := box_ne hB7 hb13
  have hbf17 := bfresh e9 hb13
  have h18 := (h_p_String.ext he6).step (add_box he14 hb13)
  have e19 := e9.trans he14
  refine T0_q (v := (.int .i64 0)) rfl (yl_assign rfl) ?_
  refine T0_q (v := (.int .i64 0)) rfl (yl_assign rfl) ?_
  refine T0_nil ?_
  refine hK2 _ _ ?_
  refine WC_seqK fun K21 hK21 => ?_
  refine WC_seqK fun K22 hK22 => ?_
  refine WC_region ?_
  refine T0_q (v := (.agg (List.toArray [(.int .i64 p_Listappend.Lo), (.int .i64 p_Listappend.Hi)]))) rfl (yl_loadA (cs := [(.int .i64 p_Listappend.Lo), (.int .i64 p_Listappend.Hi)]) ag35 rfl (Box.at (hB7.ext he14))) ?_
  obtain ⟨r23, hr24, h⟩ := bind_elim h
  refine T0_e rfl (eff_call Try.func36 nm36 rfl (ev1 rfl) (locate_speedErr_ok [] _ (LtL.nil _) [(.int .i64 p_Listappend.Lo), (.int .i64 p_Listappend.Hi)] p_Listappend rfl r23 hr24) ?_)
  rintro _ wd25 ⟨he26, rfl⟩
  have e27 := he14.trans he26
  have e28 := e19.trans he26
  refine T0_q (v := v_p_String) rfl (yl_move rfl) ?_
  refine T0_q (v := (.int .i64 (p_String.length : Int))) rfl (yl_lenR rfl Try.underlying32 h18 rfl) ?_
  refine T0_q (v := (.bool (decide (0 < (p_String.length : Int))))) rfl (yl_gtr rfl rfl) ?_
  obtain ⟨r29, hr30, h⟩ := bind_elim h
  refine T0_e rfl (eff_call Try.func37 nm37 rfl (ev2 rfl rfl) (locate_unless_ok [] _ (LtL.nil _) (decide (0 < (p_String.length : Int))) 10 r29 hr30) ?_)
  rintro _ wd31 ⟨he32, rfl⟩
  have e33 := he26.trans he32
  have e34 := e27.trans he32
  have e35 := e28.trans he32
  refine T0_q (v := v_p_String) rfl (yl_move rfl) ?_
  refine T0_q (v := (.int .i64 (p_String.length : Int))) rfl (yl_lenR rfl Try.underlying32 h18 rfl) ?_
  refine T0_q (v := (.bool (decide ((p_String.length : Int) ≤ 40)))) rfl (yl_leq rfl rfl) ?_
  obtain ⟨r36, hr37, h⟩ := bind_elim h
  refine T0_e rfl (eff_call Try.func37 nm37 rfl (ev2 rfl rfl) (locate_unless_ok [] _ (LtL.nil _) (decide ((p_String.length : Int) ≤ 40)) 8 r36 hr37) ?_)
  rintro _ wd38 ⟨he39, rfl⟩
  have e40 := e33.trans he39
  have e41 := e34.trans he39
  have e42 := e35.trans he39
  refine T0_e rfl (eff_buildTC (xs := ([r23, r29, r36] : List Int)) (cells := [(.int .i64 r23), (.int .i64 r29), (.int .i64 r36)]) Try.underlying91 ei37 rfl (pc_cons rfl rfl (pc_cons rfl rfl (pc_cons rfl rfl pc_nil))) rfl (Elems.cons (cs := [(.int .i64 r23)]) rfl (Elems.cons (cs := [(.int .i64 r29)]) rfl (Elems.cons (cs := [(.int .i64 r36)]) rfl Elems.nil))) rfl (ltl_box (hL.chg e42) (hB15.ext e40)) ?_)
  intro b46 wd43 he44 h45
  have e47 := e40.trans he44
  have e48 := e41.trans he44
  have e49 := e42.trans he44
  obtain ⟨r51, hr52, h⟩ := bind_elim h
  refine T0_e rfl (eff_call Try.func35 nm35 rfl (ev1 rfl) (locate_first_ok [] _ (LtL.nil _) (.slice (some ⟨b46, 0, none⟩) 3 3) ([r23, r29, r36] : List Int) (h45.sub (fun _ h => by cases h)) r51 hr52) ?_)
  rintro _ wd53 ⟨he54, rfl⟩
  have e55 := e47.trans he54
  have e56 := e48.trans he54
  have e57 := e49.trans he54
  refine T0_q (v := (.int .i64 r51)) rfl (yl_assign rfl) ?_
  refine T0_nil ?_
  refine hK22 _ _ ?_
  refine WC_seqK fun K58 hK58 => ?_
  refine WC_region ?_
  refine T0_q (v := (.int .i64 r51)) rfl (yl_move rfl) ?_
  refine T0_q (v := (.bool (!decide (r51 = 0)))) rfl (yl_neq rfl rfl) ?_
  refine T0_nil ?_
  refine hK58 _ _ ?_
  refine WC_cond (b := (!decide (r51 = 0))) rfl (fun hb59 => ?_) (fun hb59 => ?_)
  · replace h := cond_t hb59 h
    refine WC_seqK fun K60 hK60 => ?_
    refine WC_region ?_
    refine T0_q (v := (.agg (List.toArray [(.int .i64 0), (.int .i64 0)]))) rfl (yl_buildC (cells := [(.int .i64 0), (.int .i64 0)]) bi35 pc_nil rfl) ?_
    refine T0_q (v := (.int .i64 r51)) rfl (yl_move rfl) ?_
    refine T0_e rfl (eff_storeC (vs := [(.int .i64 0), (.int .i64 0)]) (cs' := [(.int .i64 0), (.int .i64 0)]) sz35 rfl rfl rfl rfl (hB15.ext e55) rfl (oc_cons rfl (oc_cons rfl oc_nil)) rfl ?_)
    intro wd61 hc62 hB63
    have h64 := (h18.ext e55).step (Stepp.chg_mem hc62 mem0)
    have h65 := (hB7.ext e56).chg hc62 (avoidb hn16)
    have h66 := (h45.ext he54).step (Stepp.chg_mem hc62 mem0)
    have e67 := chg_box e57 hc62 hbf17
    refine T0_q (v := (.int .i64 0)) rfl (yl_assign rfl) ?_
    refine T0_q (v := (.int .i64 r51)) rfl (yl_assign rfl) ?_
    refine T0_nil ?_
    refine hK60 _ _ ?_
    refine WC_ret ?_
    replace h := some_out h
    subst h
    exact ⟨[(.agg (List.toArray [(.int .i64 0), (.int .i64 0)])), (.int .i64 0), (.int .i64 r51)], ⟨⟨_, rfl, run_loadVarA (cs := [(.int .i64 0), (.int .i64 0)]) ag35 (Box.at hB63)⟩, rfl, rfl, trivial⟩, e67, [(.int .i64 0), (.int .i64 0)], rfl, rfl⟩
  · replace h := cond_f hb59 h
    refine WC_skip ?_
    refine hK21 _ _ ?_
    refine WC_seqK fun K68 hK68 => ?_
    refine WC_region ?_
    refine T0_q (v := (.int .i64 0)) rfl (yl_assign rfl) ?_
    refine T0_nil ?_
    refine hK68 _ _ ?_
    refine WC_seqK fun K69 hK69 => ?_
    refine WC_seqK fun K70 hK70 => ?_
    refine WC_region ?_
    refine T0_q (v := v_p_String) rfl (yl_move rfl) ?_
    refine T0_q (v := (.int .i64 (p_String.length : Int))) rfl (yl_lenR rfl Try.underlying32 h18 rfl) ?_
    refine T0_q (v := (.int .i64 0)) rfl (yl_move rfl) ?_
    refine T0_nil ?_
    refine hK70 _ _ ?_
    obtain ⟨o383, hl384, hn385⟩ := bind_elim h
    refine WC_post (fun (ρ : Env) (wd373 : World) => .inr () = o383 ∧ ρ 1 = v_p_String ∧ ρ 2 = (.pointer (some ⟨b3, 0, none⟩)) ∧ ρ 4 = (.pointer (some ⟨b11, 0, none⟩)) ∧ SlRd ((.pointer (some ⟨b11, 0, none⟩)) :: L) wd373 v_p_String p_String ∧ Box wd373 b11 [(.int .i64 0), (.int .i64 0)] 35 ∧ Box wd373 b3 [(.int .i64 p_Listappend.Lo), (.int .i64 p_Listappend.Hi)] 35 ∧ Ext w wd373) ?_ ?_
    · intro K389 hK389
      refine WC_block ?_
      refine WC_loopk (fun sv ρ wd357 => ∃ (x363 : Int) (x367 : Int), (x363, x367) = sv ∧ ρ 1 = v_p_String ∧ ρ 2 = (.pointer (some ⟨b3, 0, none⟩)) ∧ ρ 4 = (.pointer (some ⟨b11, 0, none⟩)) ∧ ρ 8 = (.int .i64 x363) ∧ ρ 30 = v_p_String ∧ ρ 31 = (.int .i64 (p_String.length : Int)) ∧ ρ 32 = (.int .i64 x367) ∧ SlRd ((.pointer (some ⟨b11, 0, none⟩)) :: L) wd357 v_p_String p_String ∧ Box wd357 b11 [(.int .i64 0), (.int .i64 0)] 35 ∧ Box wd357 b3 [(.int .i64 p_Listappend.Lo), (.int .i64 p_Listappend.Hi)] 35 ∧ Ext w wd357) hl384 ⟨0, 0, rfl, rfl, rfl, rfl, rfl, rfl, rfl, rfl, (h18.ext e55), (hB15.ext e55), (hB7.ext e56), e57⟩ ?_
      rintro _ ρ wd357 ⟨x363, x367, rfl, hs360, hs361, hs362, hs364, hs365, hs366, hs368, h359, hB370, hB372, e358⟩ x386 h hx387 K388 hK388
      refine WC_seqK fun K391 hK391 => ?_
      refine WC_region ?_
      refine T0_q (v := (.bool (decide (x367 < (p_String.length : Int))))) rfl (yl_lss hs368 hs366) ?_
      refine T0_nil ?_
      refine hK391 _ _ ?_
      refine WC_seqK fun K392 hK392 => ?_
      refine WC_cond (b := (decide (x367 < (p_String.length : Int)))) rfl (fun hb393 => ?_) (fun hb393 => ?_)
      · replace h := cond_t hb393 h
        refine WC_skip ?_
        refine hK392 _ _ ?_
        refine WC_seqK fun K394 hK394 => ?_
        refine WC_block ?_
        refine WC_seqK fun K395 hK395 => ?_
        refine WC_region ?_
        obtain ⟨el396, hel397, h⟩ := bind_elim h
        obtain ⟨cs398, hat399, hrd400⟩ := SlRd.at h359 hel397
        have hrd400 : cs398 = [(.int .i64 el396.At), (.int .i64 el396.Place.Lo), (.int .i64 el396.Place.Hi)] := hrd400
        subst hrd400
        refine T0_q (v := (.pointer (some (elemAddr v_p_String (x367 : Int).toNat 3)))) rfl (yl_indexAddr Try.underlying32 sz51 h359 hel397 hs365 hs368) ?_
        refine T0_q (v := (.agg (List.toArray [(.int .i64 el396.At), (.int .i64 el396.Place.Lo), (.int .i64 el396.Place.Hi)]))) rfl (yl_loadA (cs := [(.int .i64 el396.At), (.int .i64 el396.Place.Lo), (.int .i64 el396.Place.Hi)]) ag51 rfl hat399) ?_
        refine T0_e rfl (eff_allocZ zi51 ?_)
        intro b402 wd403 hb404 he405 hB406
        have hn407 : b402 ≠ b11 := box_ne hB370 hb404
        have hn408 : b402 ≠ b3 := box_ne hB372 hb404
        have hbf409 := bfresh e358 hb404
        have h410 := h359.step (add_box he405 hb404)
        have e411 := e358.trans he405
        refine T0_e rfl (eff_storeC (vs := [(.int .i64 el396.At), (.int .i64 el396.Place.Lo), (.int .i64 el396.Place.Hi)]) (cs' := [(.int .i64 el396.At), (.int .i64 el396.Place.Lo), (.int .i64 el396.Place.Hi)]) sz51 rfl rfl rfl rfl hB406 rfl (oc_cons rfl (oc_cons rfl (oc_cons rfl oc_nil))) rfl ?_)
        intro wd413 hc414 hB415
        have h416 := h410.step (Stepp.chg_mem hc414 mem0)
        have h417 := (hB370.ext he405).chg hc414 (avoidb hn407)
        have h418 := (hB372.ext he405).chg hc414 (avoidb hn408)
        have e419 := chg_box e411 hc414 hbf409
        refine T0_nil ?_
        refine hK395 _ _ ?_
        refine WC_seqK fun K420 hK420 => ?_
        refine WC_seqK fun K421 hK421 => ?_
        refine WC_plan mixed (.p 0 (.p 3 (.p 6 (.p 8 (.q 1 (.q 4 (.q 7 (.p 9 (.e 2 (.e 5 (.e 10 (.e 11 (.e 12 (.p 13 .done)))))))))))))) (by kernel_rfl) ?_
        intro wd422 he423
        have e424 := e419.trans he423
        refine TP_p (v := (.pointer (some ⟨b402, 0, none⟩))) rfl rfl (fun w' => (yl_fa 0 Try.underlying51 rfl rfl ⟨0, sz3⟩ rfl rfl)) ?_
        refine TP_p (v := (.pointer (some ⟨b402, 1, none⟩))) rfl rfl (fun w' => (yl_fa 1 Try.underlying51 rfl rfl ⟨1, sz35⟩ rfl rfl)) ?_
        refine TP_p (v := (.pointer (some ⟨b402, 0, none⟩))) rfl rfl (fun w' => (yl_fa 0 Try.underlying51 rfl rfl ⟨0, sz3⟩ rfl rfl)) ?_
        refine TP_p (v := (.int .i64 x363)) rfl rfl (fun w' => (yl_move hs364)) ?_
        refine TP_q (v := (.int .i64 el396.At)) rfl rfl (fun w' hS => (yl_load sc3 rfl (Box.at (hB415.ext ((he423).trans hS))))) ?_
        refine TP_q (v := (.agg (List.toArray [(.int .i64 el396.Place.Lo), (.int .i64 el396.Place.Hi)]))) rfl rfl (fun w' hS => (yl_loadA (cs := [(.int .i64 el396.Place.Lo), (.int .i64 el396.Place.Hi)]) ag35 rfl (At.take (At.drop (Box.at (hB415.ext ((he423).trans hS))) 1) 2))) ?_
        refine TP_q (v := (.int .i64 el396.At)) rfl rfl (fun w' hS => (yl_load sc3 rfl (Box.at (hB415.ext ((he423).trans hS))))) ?_
        refine TP_p (v := (.bool (decide (x363 ≤ el396.At)))) rfl rfl (fun w' => (yl_geq rfl rfl)) ?_
        obtain ⟨r425, hr426, h⟩ := bind_elim h
        refine TP_e rfl rfl (eff_call Try.func38 nm38 rfl (ev1 rfl) (locate_timeErr_ok [] _ (LtL.nil _) el396.At r425 hr426) ?_)
        rintro _ wd427 ⟨he428, rfl⟩
        have e429 := he423.trans he428
        have e430 := e424.trans he428
        refine ⟨he428, ?_⟩
        obtain ⟨r431, hr432, h⟩ := bind_elim h
        refine TP_e rfl rfl (eff_call Try.func39 nm39 rfl (ev1 rfl) (locate_placesErr_ok [] _ (LtL.nil _) [(.int .i64 el396.Place.Lo), (.int .i64 el396.Place.Hi)] el396.Place rfl r431 hr432) ?_)
        rintro _ wd433 ⟨he434, rfl⟩
        have e435 := e429.trans he434
        have e436 := he428.trans he434
        have e437 := e430.trans he434
        refine ⟨e436, ?_⟩
        obtain ⟨r438, hr439, h⟩ := bind_elim h
        refine TP_e rfl rfl (eff_call Try.func37 nm37 rfl (ev2 rfl rfl) (locate_unless_ok [] _ (LtL.nil _) (decide (x363 ≤ el396.At)) 9 r438 hr439) ?_)
        rintro _ wd440 ⟨he441, rfl⟩
        have e442 := e435.trans he441
        have e443 := e436.trans he441
        have e444 := e437.trans he441
        refine ⟨e443, ?_⟩
        refine TP_e rfl rfl (eff_buildTC (xs := ([r425, r431, r438] : List Int)) (cells := [(.int .i64 r425), (.int .i64 r431), (.int .i64 r438)]) Try.underlying91 ei37 rfl (pc_cons rfl rfl (pc_cons rfl rfl (pc_cons rfl rfl pc_nil))) rfl (Elems.cons (cs := [(.int .i64 r425)]) rfl (Elems.cons (cs := [(.int .i64 r431)]) rfl (Elems.cons (cs := [(.int .i64 r438)]) rfl Elems.nil))) rfl (ltl_box (ltl_box (hL.chg e444) (h417.ext e442)) (hB415.ext e442)) ?_)
        intro b448 wd445 he446 h447
        have e449 := e442.trans he446
        have e450 := e443.trans he446
        have e451 := e444.trans he446
        refine ⟨e450, ?_⟩
        obtain ⟨r453, hr454, h⟩ := bind_elim h
        refine TP_e rfl rfl (eff_call Try.func35 nm35 rfl (ev1 rfl) (locate_first_ok [] _ (LtL.nil _) (.slice (some ⟨b448, 0, none⟩) 3 3) ([r425, r431, r438] : List Int) (h447.sub (fun _ h => by cases h)) r453 hr454) ?_)
        rintro _ wd455 ⟨he456, rfl⟩
        have e457 := e449.trans he456
        have e458 := e450.trans he456
        have e459 := e451.trans he456
        refine ⟨e458, ?_⟩
        refine TP_p (v := (.int .i64 r453)) rfl rfl (fun w' => (yl_assign rfl)) ?_
        refine TP_done ?_
        refine hK421 _ _ ?_
        refine WC_seqK fun K460 hK460 => ?_
        refine WC_region ?_
        refine T0_q (v := (.int .i64 r453)) rfl (yl_move rfl) ?_
        refine T0_q (v := (.bool (!decide (r453 = 0)))) rfl (yl_neq rfl rfl) ?_
        refine T0_nil ?_
        refine hK460 _ _ ?_
        refine WC_cond (b := (!decide (r453 = 0))) rfl (fun hb461 => ?_) (fun hb461 => ?_)
        · replace h := cond_t hb461 h
          refine WC_seqK fun K462 hK462 => ?_
          refine WC_region ?_
          refine T0_q (v := (.agg (List.toArray [(.int .i64 0), (.int .i64 0)]))) rfl (yl_buildC (cells := [(.int .i64 0), (.int .i64 0)]) bi35 pc_nil rfl) ?_
          refine T0_q (v := (.int .i64 r453)) rfl (yl_move rfl) ?_
          refine T0_e rfl (eff_storeC (vs := [(.int .i64 0), (.int .i64 0)]) (cs' := [(.int .i64 0), (.int .i64 0)]) sz35 rfl rfl hs362 rfl (h417.ext e457) rfl (oc_cons rfl (oc_cons rfl oc_nil)) rfl ?_)
          intro wd463 hc464 hB465
          have h466 := (h416.ext e457).step (Stepp.chg_mem hc464 (memS mem0))
          have h467 := (h418.ext e457).chg hc464 (avoidb hn16)
          have h468 := (hB415.ext e457).chg hc464 (avoidb hn407.symm)
          have h469 := (h447.ext he456).step (Stepp.chg_mem hc464 (memS mem0))
          have e470 := chg_box e459 hc464 hbf17
          refine T0_q (v := (.int .i64 0)) rfl (yl_assign rfl) ?_
          refine T0_q (v := (.int .i64 r453)) rfl (yl_assign rfl) ?_
          refine T0_nil ?_
          refine hK462 _ _ ?_
          refine WC_ret ?_
          replace h := some_out h
          subst h
          have ho := hx387 _ rfl
          subst ho
          replace h := jn0_inl hn385
          replace h := some_out h
          subst h
          exact ⟨[(.agg (List.toArray [(.int .i64 0), (.int .i64 0)])), (.int .i64 0), (.int .i64 r453)], ⟨⟨_, hs362, run_loadVarA (cs := [(.int .i64 0), (.int .i64 0)]) ag35 (Box.at hB465)⟩, rfl, rfl, trivial⟩, e470, [(.int .i64 0), (.int .i64 0)], rfl, rfl⟩
        · replace h := cond_f hb461 h
          refine WC_skip ?_
          refine hK420 _ _ ?_
          refine WC_region ?_
          refine T0_q (v := (.pointer (some ⟨b402, 0, none⟩))) rfl (yl_fa 0 Try.underlying51 rfl rfl ⟨0, sz3⟩ rfl rfl) ?_
          refine T0_q (v := (.int .i64 el396.At)) rfl (yl_load sc3 rfl (Box.at (hB415.ext e457))) ?_
          refine T0_q (v := (.int .i64 el396.At)) rfl (yl_assign rfl) ?_
          refine T0_nil ?_
          refine hK394 _ _ ?_
          refine WC_region ?_
          refine T0_q (v := (.int .i64 (w64 (x367 + 1)))) rfl (yl_add hs368 rfl) ?_
          refine T0_q (v := (.int .i64 (w64 (x367 + 1)))) rfl (yl_move rfl) ?_
          refine T0_nil ?_
          replace h := some_out h
          subst h
          refine hK388 _ _ _ rfl ?_
          exact ⟨el396.At, w64 (x367 + 1), rfl, hs360, hs361, hs362, rfl, hs365, hs366, rfl, ((h416.ext e457).sub (sub_cons (memS mem0) (sub_skip (sub_skip (sub_refl _))))), (h417.ext e457), (h418.ext e457), e459⟩
      · replace h := cond_f hb393 h
        refine WC_exit ?_
        replace h := some_out h
        subst h
        have ho := hx387 _ rfl
        subst ho
        refine hK389 _ _ ?_
        exact ⟨rfl, hs360, hs361, hs362, h359, hB370, hB372, e358⟩
    · rintro ρ wd373 ⟨rfl, hs376, hs377, hs378, h375, hB380, hB382, e374⟩
      replace h := jn0_inr hn385
      refine hK69 _ _ ?_
      refine WC_seqK fun K471 hK471 => ?_
      refine WC_region ?_
      refine T0_q (v := v_p_String) rfl (yl_move hs376) ?_
      obtain ⟨el472, hel473, h⟩ := bind_elim h
      obtain ⟨cs474, hat475, hrd476⟩ := SlRd.at h375 hel473
      have hrd476 : cs474 = [(.int .i64 el472.At), (.int .i64 el472.Place.Lo), (.int .i64 el472.Place.Hi)] := hrd476
      subst hrd476
      refine T0_q (v := (.pointer (some (elemAddr v_p_String (0 : Int).toNat 3)))) rfl (yl_indexAddr Try.underlying32 sz51 h375 hel473 rfl rfl) ?_
      refine T0_q (v := (.pointer (some (Addr.add (elemAddr v_p_String (0 : Int).toNat 3) 1)))) rfl (yl_fa 1 Try.underlying51 rfl rfl ⟨1, sz35⟩ rfl rfl) ?_
      refine T0_q (v := (.agg (List.toArray [(.int .i64 el472.Place.Lo), (.int .i64 el472.Place.Hi)]))) rfl (yl_loadA (cs := [(.int .i64 el472.Place.Lo), (.int .i64 el472.Place.Hi)]) ag35 rfl (At.take (At.drop hat475 1) 2)) ?_
      refine T0_e rfl (eff_allocZ zi35 ?_)
      intro b478 wd479 hb480 he481 hB482
      have hn483 : b478 ≠ b11 := box_ne hB380 hb480
      have hn484 : b478 ≠ b3 := box_ne hB382 hb480
      have hbf485 := bfresh e374 hb480
      have h486 := h375.step (add_box he481 hb480)
      have e487 := e374.trans he481
      refine T0_e rfl (eff_storeC (vs := [(.int .i64 el472.Place.Lo), (.int .i64 el472.Place.Hi)]) (cs' := [(.int .i64 el472.Place.Lo), (.int .i64 el472.Place.Hi)]) sz35 rfl rfl rfl rfl hB482 rfl (oc_cons rfl (oc_cons rfl oc_nil)) rfl ?_)
      intro wd489 hc490 hB491
      have h492 := h486.step (Stepp.chg_mem hc490 mem0)
      have h493 := (hB380.ext he481).chg hc490 (avoidb hn483)
      have h494 := (hB382.ext he481).chg hc490 (avoidb hn484)
      have e495 := chg_box e487 hc490 hbf485
      refine T0_nil ?_
      refine hK471 _ _ ?_
      refine WC_seqK fun K496 hK496 => ?_
      refine WC_seqK fun K497 hK497 => ?_
      refine WC_region ?_
      refine T0_q (v := (.int .i64 1)) rfl (yl_assign rfl) ?_
      refine T0_nil ?_
      refine hK497 _ _ ?_
      obtain ⟨o777, hl778, hn779⟩ := bind_elim h
      refine WC_post (fun (ρ : Env) (wd767 : World) => ∃ (x773 : Int) (x774 : Int), .inr (x773, x774) = o777 ∧ ρ 4 = (.pointer (some ⟨b11, 0, none⟩)) ∧ ρ 12 = (.pointer (some ⟨b478, 0, none⟩)) ∧ Box wd767 b11 [(.int .i64 0), (.int .i64 0)] 35 ∧ Box wd767 b478 [(.int .i64 x773), (.int .i64 x774)] 35 ∧ Ext w wd767) ?_ ?_
      · intro K783 hK783
        refine WC_block ?_
        refine WC_loopk (fun sv ρ wd750 => ∃ (x757 : Int) (x763 : Int) (x764 : Int), (x757, x763, x764) = sv ∧ ρ 1 = v_p_String ∧ ρ 2 = (.pointer (some ⟨b3, 0, none⟩)) ∧ ρ 4 = (.pointer (some ⟨b11, 0, none⟩)) ∧ ρ 12 = (.pointer (some ⟨b478, 0, none⟩)) ∧ ρ 13 = (.int .i64 x757) ∧ SlRd ((.pointer (some ⟨b478, 0, none⟩)) :: (.pointer (some ⟨b11, 0, none⟩)) :: L) wd750 v_p_String p_String ∧ Box wd750 b11 [(.int .i64 0), (.int .i64 0)] 35 ∧ Box wd750 b3 [(.int .i64 p_Listappend.Lo), (.int .i64 p_Listappend.Hi)] 35 ∧ Box wd750 b478 [(.int .i64 x763), (.int .i64 x764)] 35 ∧ Ext w wd750) hl778 ⟨1, el472.Place.Lo, el472.Place.Hi, rfl, hs376, hs377, hs378, rfl, rfl, h492, h493, h494, hB491, e495⟩ ?_
        rintro _ ρ wd750 ⟨x757, x763, x764, rfl, hs753, hs754, hs755, hs756, hs758, h752, hB760, hB762, hB766, e751⟩ x780 h hx781 K782 hK782
        refine WC_seqK fun K785 hK785 => ?_
        refine WC_seqK fun K786 hK786 => ?_
        refine WC_region ?_
        refine T0_q (v := (.int .i64 x757)) rfl (yl_move hs758) ?_
        refine T0_q (v := v_p_String) rfl (yl_move hs753) ?_
        refine T0_q (v := (.int .i64 (p_String.length : Int))) rfl (yl_lenR rfl Try.underlying32 h752 rfl) ?_
        refine T0_q (v := (.bool (decide (x757 < (p_String.length : Int))))) rfl (yl_lss rfl rfl) ?_
        refine T0_nil ?_
        refine hK786 _ _ ?_
        refine WC_cond (b := (decide (x757 < (p_String.length : Int)))) rfl (fun hb787 => ?_) (fun hb787 => ?_)
        · replace h := cond_t hb787 h
          refine WC_skip ?_
          refine hK785 _ _ ?_
          refine WC_seqK fun K788 hK788 => ?_
          refine WC_block ?_
          refine WC_seqK fun K789 hK789 => ?_
          refine WC_plan mixed (.p 2 (.p 3 (.p 4 (.p 5 (.p 7 (.p 8 (.p 9 (.p 10 (.p 11 (.q 0 (.q 1 (.q 6 (.q 12 (.p 13 (.e 14 (.b 15 .done)))))))))))))))) (by kernel_rfl) ?_
          intro wd790 he791
          have e792 := e751.trans he791
          refine TP_p (v := v_p_String) rfl rfl (fun w' => (yl_move hs753)) ?_
          refine TP_p (v := (.int .i64 x757)) rfl rfl (fun w' => (yl_move hs758)) ?_
          obtain ⟨el793, hel794, h⟩ := bind_elim h
          obtain ⟨cs795, hat796, hrd797⟩ := SlRd.at h752 hel794
          have hrd797 : cs795 = [(.int .i64 el793.At), (.int .i64 el793.Place.Lo), (.int .i64 el793.Place.Hi)] := hrd797
          subst hrd797
          refine TP_p (v := (.pointer (some (elemAddr v_p_String (x757 : Int).toNat 3)))) rfl rfl (fun w' => (yl_indexAddr Try.underlying32 sz51 h752 hel794 rfl rfl)) ?_
          refine TP_p (v := (.pointer (some (elemAddr v_p_String (x757 : Int).toNat 3)))) rfl rfl (fun w' => (yl_fa 0 Try.underlying51 rfl rfl ⟨0, sz3⟩ rfl rfl)) ?_
          refine TP_p (v := v_p_String) rfl rfl (fun w' => (yl_move hs753)) ?_
          refine TP_p (v := (.int .i64 x757)) rfl rfl (fun w' => (yl_move hs758)) ?_
          refine TP_p (v := (.int .i64 (w64 (x757 - 1)))) rfl rfl (fun w' => (yl_sub rfl rfl)) ?_
          obtain ⟨el799, hel800, h⟩ := bind_elim h
          obtain ⟨cs801, hat802, hrd803⟩ := SlRd.at h752 hel800
          have hrd803 : cs801 = [(.int .i64 el799.At), (.int .i64 el799.Place.Lo), (.int .i64 el799.Place.Hi)] := hrd803
          subst hrd803
          refine TP_p (v := (.pointer (some (elemAddr v_p_String (w64 (x757 - 1) : Int).toNat 3)))) rfl rfl (fun w' => (yl_indexAddr Try.underlying32 sz51 h752 hel800 rfl rfl)) ?_
          refine TP_p (v := (.pointer (some (elemAddr v_p_String (w64 (x757 - 1) : Int).toNat 3)))) rfl rfl (fun w' => (yl_fa 0 Try.underlying51 rfl rfl ⟨0, sz3⟩ rfl rfl)) ?_
          refine TP_q (v := (.agg (List.toArray [(.int .i64 x763), (.int .i64 x764)]))) rfl rfl (fun w' hS => (yl_loadA (cs := [(.int .i64 x763), (.int .i64 x764)]) ag35 hs756 (Box.at (hB766.ext ((he791).trans hS))))) ?_
          refine TP_q (v := (.agg (List.toArray [(.int .i64 p_Listappend.Lo), (.int .i64 p_Listappend.Hi)]))) rfl rfl (fun w' hS => (yl_loadA (cs := [(.int .i64 p_Listappend.Lo), (.int .i64 p_Listappend.Hi)]) ag35 hs754 (Box.at (hB762.ext ((he791).trans hS))))) ?_
          refine TP_q (v := (.int .i64 el793.At)) rfl rfl (fun w' hS => (yl_load sc3 rfl (hat796.ext' ((he791).trans hS)))) ?_
          refine TP_q (v := (.int .i64 el799.At)) rfl rfl (fun w' hS => (yl_load sc3 rfl (hat802.ext' ((he791).trans hS)))) ?_
          refine TP_p (v := (.int .i64 (w64 (el793.At - el799.At)))) rfl rfl (fun w' => (yl_sub rfl rfl)) ?_
          obtain ⟨r805, hr806, h⟩ := bind_elim h
          refine TP_e rfl rfl (eff_call Try.func40 nm40 rfl (ev3 rfl rfl rfl) (locate_moved_ok [] _ (LtL.nil _) [(.int .i64 x763), (.int .i64 x764)] (Range.mk x763 x764) rfl [(.int .i64 p_Listappend.Lo), (.int .i64 p_Listappend.Hi)] p_Listappend rfl (w64 (el793.At - el799.At)) r805 hr806) ?_)
          rintro _ wd807 ⟨he808, cs809, rfl, hrd810⟩
          have e811 := he791.trans he808
          have e812 := e792.trans he808
          have hrd810 : cs809 = [(.int .i64 r805.Lo), (.int .i64 r805.Hi)] := hrd810
          subst hrd810
          refine ⟨he808, ?_⟩
          refine TP_b rfl rfl (eff_storeC (vs := [(.int .i64 r805.Lo), (.int .i64 r805.Hi)]) (cs' := [(.int .i64 r805.Lo), (.int .i64 r805.Hi)]) sz35 rfl rfl hs756 rfl (hB766.ext e811) rfl (oc_cons rfl (oc_cons rfl oc_nil)) rfl ?_)
          intro wd813 hc814 hB815
          have h816 := (h752.ext e811).step (Stepp.chg_mem hc814 mem0)
          have h817 := (hB760.ext e811).chg hc814 (avoidb hn483)
          have h818 := (hB762.ext e811).chg hc814 (avoidb hn484)
          have e819 := chg_box e812 hc814 hbf485
          refine TP_done ?_
          refine hK789 _ _ ?_
          refine WC_seqK fun K820 hK820 => ?_
          refine WC_plan mixed (.p 0 (.p 2 (.p 3 (.p 4 (.p 5 (.p 6 (.p 9 (.p 11 (.p 12 (.p 13 (.p 14 (.p 15 (.q 1 (.q 7 (.p 8 (.q 10 (.q 16 (.p 17 (.p 18 (.b 19 .done)))))))))))))))))))) (by kernel_rfl) ?_
          intro wd821 he822
          have e823 := e819.trans he822
          refine TP_p (v := (.pointer (some ⟨b478, 0, none⟩))) rfl rfl (fun w' => (yl_fa 0 Try.underlying35 rfl rfl ⟨0, sz3⟩ hs756 rfl)) ?_
          refine TP_p (v := v_p_String) rfl rfl (fun w' => (yl_move hs753)) ?_
          refine TP_p (v := (.int .i64 x757)) rfl rfl (fun w' => (yl_move hs758)) ?_
          obtain ⟨el824, hel825, h⟩ := bind_elim h
          obtain ⟨cs826, hat827, hrd828⟩ := SlRd.at h816 hel825
          have hrd828 : cs826 = [(.int .i64 el824.At), (.int .i64 el824.Place.Lo), (.int .i64 el824.Place.Hi)] := hrd828
          subst hrd828
          refine TP_p (v := (.pointer (some (elemAddr v_p_String (x757 : Int).toNat 3)))) rfl rfl (fun w' => (yl_indexAddr Try.underlying32 sz51 h816 hel825 rfl rfl)) ?_
          refine TP_p (v := (.pointer (some (Addr.add (elemAddr v_p_String (x757 : Int).toNat 3) 1)))) rfl rfl (fun w' => (yl_fa 1 Try.underlying51 rfl rfl ⟨1, sz35⟩ rfl rfl)) ?_
          refine TP_p (v := (.pointer (some (Addr.add (elemAddr v_p_String (x757 : Int).toNat 3) 1)))) rfl rfl (fun w' => (yl_fa 0 Try.underlying35 rfl rfl ⟨0, sz3⟩ rfl rfl)) ?_
          refine TP_p (v := (.pointer (some ⟨b478, 1, none⟩))) rfl rfl (fun w' => (yl_fa 1 Try.underlying35 rfl rfl ⟨0, sz3⟩ hs756 rfl)) ?_
          refine TP_p (v := v_p_String) rfl rfl (fun w' => (yl_move hs753)) ?_
          refine TP_p (v := (.int .i64 x757)) rfl rfl (fun w' => (yl_move hs758)) ?_
          obtain ⟨el830, hel831, h⟩ := bind_elim h
          obtain ⟨cs832, hat833, hrd834⟩ := SlRd.at h816 hel831
          have hrd834 : cs832 = [(.int .i64 el830.At), (.int .i64 el830.Place.Lo), (.int .i64 el830.Place.Hi)] := hrd834
          subst hrd834
          refine TP_p (v := (.pointer (some (elemAddr v_p_String (x757 : Int).toNat 3)))) rfl rfl (fun w' => (yl_indexAddr Try.underlying32 sz51 h816 hel831 rfl rfl)) ?_
          refine TP_p (v := (.pointer (some (Addr.add (elemAddr v_p_String (x757 : Int).toNat 3) 1)))) rfl rfl (fun w' => (yl_fa 1 Try.underlying51 rfl rfl ⟨1, sz35⟩ rfl rfl)) ?_
          refine TP_p (v := (.pointer (some (Addr.add (elemAddr v_p_String (x757 : Int).toNat 3) 2)))) rfl rfl (fun w' => (yl_fa 1 Try.underlying35 rfl rfl ⟨0, sz3⟩ rfl rfl)) ?_
          refine TP_q (v := (.int .i64 r805.Lo)) rfl rfl (fun w' hS => (yl_load sc3 rfl (Box.at (hB815.ext ((he822).trans hS))))) ?_
          refine TP_q (v := (.int .i64 el824.Place.Lo)) rfl rfl (fun w' hS => (yl_load sc3 rfl (At.drop (hat827.ext' ((he822).trans hS)) 1))) ?_
          refine TP_p (v := (.int .i64 (if r805.Lo < el824.Place.Lo then el824.Place.Lo else r805.Lo))) rfl rfl (fun w' => (yl_max rfl rfl)) ?_
          refine TP_q (v := (.int .i64 r805.Hi)) rfl rfl (fun w' hS => (yl_load sc3 rfl (At.drop (Box.at (hB815.ext ((he822).trans hS))) 1))) ?_
          refine TP_q (v := (.int .i64 el830.Place.Hi)) rfl rfl (fun w' hS => (yl_load sc3 rfl (At.drop (hat833.ext' ((he822).trans hS)) 2))) ?_
          refine TP_p (v := (.int .i64 (if el830.Place.Hi < r805.Hi then el830.Place.Hi else r805.Hi))) rfl rfl (fun w' => (yl_min rfl rfl)) ?_
          refine TP_p (v := (.agg (List.toArray [(.int .i64 (if r805.Lo < el824.Place.Lo then el824.Place.Lo else r805.Lo)), (.int .i64 (if el830.Place.Hi < r805.Hi then el830.Place.Hi else r805.Hi))]))) rfl rfl (fun w' => (yl_buildC (cells := [(.int .i64 (if r805.Lo < el824.Place.Lo then el824.Place.Lo else r805.Lo)), (.int .i64 (if el830.Place.Hi < r805.Hi then el830.Place.Hi else r805.Hi))]) bi35 (pc_cons rfl rfl (pc_cons rfl rfl pc_nil)) rfl)) ?_
          refine TP_b rfl rfl (eff_storeC (vs := [(.int .i64 (if r805.Lo < el824.Place.Lo then el824.Place.Lo else r805.Lo)), (.int .i64 (if el830.Place.Hi < r805.Hi then el830.Place.Hi else r805.Hi))]) (cs' := [(.int .i64 (if r805.Lo < el824.Place.Lo then el824.Place.Lo else r805.Lo)), (.int .i64 (if el830.Place.Hi < r805.Hi then el830.Place.Hi else r805.Hi))]) sz35 rfl rfl hs756 rfl (hB815.ext he822) rfl (oc_cons rfl (oc_cons rfl oc_nil)) rfl ?_)
          intro wd836 hc837 hB838
          have h839 := (h816.ext he822).step (Stepp.chg_mem hc837 mem0)
          have h840 := (h817.ext he822).chg hc837 (avoidb hn483)
          have h841 := (h818.ext he822).chg hc837 (avoidb hn484)
          have e842 := chg_box e823 hc837 hbf485
          refine TP_done ?_
          refine hK820 _ _ ?_
          refine WC_seqK fun K843 hK843 => ?_
          refine WC_region ?_
          refine T0_q (v := (.pointer (some ⟨b478, 0, none⟩))) rfl (yl_fa 0 Try.underlying35 rfl rfl ⟨0, sz3⟩ hs756 rfl) ?_
          refine T0_q (v := (.int .i64 (if r805.Lo < el824.Place.Lo then el824.Place.Lo else r805.Lo))) rfl (yl_load sc3 rfl (Box.at hB838)) ?_
          refine T0_q (v := (.pointer (some ⟨b478, 1, none⟩))) rfl (yl_fa 1 Try.underlying35 rfl rfl ⟨0, sz3⟩ hs756 rfl) ?_
          refine T0_q (v := (.int .i64 (if el830.Place.Hi < r805.Hi then el830.Place.Hi else r805.Hi))) rfl (yl_load sc3 rfl (At.drop (Box.at hB838) 1)) ?_
          refine T0_q (v := (.bool (decide ((if el830.Place.Hi < r805.Hi then el830.Place.Hi else r805.Hi) < (if r805.Lo < el824.Place.Lo then el824.Place.Lo else r805.Lo))))) rfl (yl_gtr rfl rfl) ?_
          refine T0_nil ?_
          refine hK843 _ _ ?_
          refine WC_cond (b := (decide ((if el830.Place.Hi < r805.Hi then el830.Place.Hi else r805.Hi) < (if r805.Lo < el824.Place.Lo then el824.Place.Lo else r805.Lo)))) rfl (fun hb844 => ?_) (fun hb844 => ?_)
          · replace h := cond_t hb844 h
            refine WC_seqK fun K845 hK845 => ?_
            refine WC_region ?_
            refine T0_q (v := (.agg (List.toArray [(.int .i64 0), (.int .i64 0)]))) rfl (yl_buildC (cells := [(.int .i64 0), (.int .i64 0)]) bi35 pc_nil rfl) ?_
            refine T0_q (v := (.int .i64 x757)) rfl (yl_move hs758) ?_
            refine T0_e rfl (eff_storeC (vs := [(.int .i64 0), (.int .i64 0)]) (cs' := [(.int .i64 0), (.int .i64 0)]) sz35 rfl rfl hs755 rfl h840 rfl (oc_cons rfl (oc_cons rfl oc_nil)) rfl ?_)
            intro wd846 hc847 hB848
            have h849 := h839.step (Stepp.chg_mem hc847 (memS mem0))
            have h850 := h841.chg hc847 (avoidb hn16)
            have h851 := hB838.chg hc847 (avoidb hn483.symm)
            have e852 := chg_box e842 hc847 hbf17
            refine T0_q (v := (.int .i64 x757)) rfl (yl_assign rfl) ?_
            refine T0_q (v := (.int .i64 13)) rfl (yl_assign rfl) ?_
            refine T0_nil ?_
            refine hK845 _ _ ?_
            refine WC_ret ?_
            replace h := some_out h
            subst h
            have ho := hx781 _ rfl
            subst ho
            replace h := jn0_inl hn779
            replace h := some_out h
            subst h
            exact ⟨[(.agg (List.toArray [(.int .i64 0), (.int .i64 0)])), (.int .i64 x757), (.int .i64 13)], ⟨⟨_, hs755, run_loadVarA (cs := [(.int .i64 0), (.int .i64 0)]) ag35 (Box.at hB848)⟩, rfl, rfl, trivial⟩, e852, [(.int .i64 0), (.int .i64 0)], rfl, rfl⟩
          · replace h := cond_f hb844 h
            refine WC_skip ?_
            refine hK788 _ _ ?_
            refine WC_region ?_
            refine T0_q (v := (.int .i64 x757)) rfl (yl_move hs758) ?_
            refine T0_q (v := (.int .i64 (w64 (x757 + 1)))) rfl (yl_add rfl rfl) ?_
            refine T0_q (v := (.int .i64 (w64 (x757 + 1)))) rfl (yl_assign rfl) ?_
            refine T0_nil ?_
            replace h := some_out h
            subst h
            refine hK782 _ _ _ rfl ?_
            exact ⟨w64 (x757 + 1), (if r805.Lo < el824.Place.Lo then el824.Place.Lo else r805.Lo), (if el830.Place.Hi < r805.Hi then el830.Place.Hi else r805.Hi), rfl, hs753, hs754, hs755, hs756, rfl, h839, h840, h841, hB838, e842⟩
        · replace h := cond_f hb787 h
          refine WC_exit ?_
          replace h := some_out h
          subst h
          have ho := hx781 _ rfl
          subst ho
          refine hK783 _ _ ?_
          exact ⟨x763, x764, rfl, hs755, hs756, hB760, hB766, e751⟩
      · rintro ρ wd767 ⟨x773, x774, rfl, hs769, hs770, hB772, hB776, e768⟩
        replace h := jn0_inr hn779
        refine hK496 _ _ ?_
        refine WC_seqK fun K853 hK853 => ?_
        refine WC_region ?_
        refine T0_q (v := (.agg (List.toArray [(.int .i64 x773), (.int .i64 x774)]))) rfl (yl_loadA (cs := [(.int .i64 x773), (.int .i64 x774)]) ag35 hs770 (Box.at hB776)) ?_
        refine T0_e rfl (eff_storeC (vs := [(.int .i64 x773), (.int .i64 x774)]) (cs' := [(.int .i64 x773), (.int .i64 x774)]) sz35 rfl rfl hs769 rfl hB772 rfl (oc_cons rfl (oc_cons rfl oc_nil)) rfl ?_)
        intro wd854 hc855 hB856
        have h857 := hB776.chg hc855 (avoidb hn483.symm)
        have e858 := chg_box e768 hc855 hbf17
        refine T0_q (v := (.int .i64 0)) rfl (yl_assign rfl) ?_
        refine T0_q (v := (.int .i64 0)) rfl (yl_assign rfl) ?_
        refine T0_nil ?_
        refine hK853 _ _ ?_
        refine WC_ret ?_
        replace h := some_out h
        subst h
        exact ⟨[(.agg (List.toArray [(.int .i64 x773), (.int .i64 x774)])), (.int .i64 0), (.int .i64 0)], ⟨⟨_, hs769, run_loadVarA (cs := [(.int .i64 x773), (.int .i64 x774)]) ag35 (Box.at hB856)⟩, rfl, rfl, trivial⟩, e858, [(.int .i64 x773), (.int .i64 x774)], rfl, rfl⟩

noncomputable def locate_Fused_s0 (p_Listappend : (List Range)) : ((List locate_edge) × Int) → Option (((List locate_edge) × Int) ⊕ (((List Range) × Int) ⊕ ((List locate_edge)))) := fun (x271, x278) =>
  (bif (decide (x278 < (p_Listappend.length : Int))) then (
    (Option.bind (idx p_Listappend x278) fun el310 =>
    (Option.bind (locate_placesErr_spec el310) fun r335 =>
    (bif (!decide (r335 = 0)) then (
      some (.inr (.inl (([] : (List Range)), r335)))
    ) else (
      (Option.bind (app x271 ([(locate_edge.mk el310.Lo 1), (locate_edge.mk (w64 (el310.Hi + 1)) (-1))] : List locate_edge)) fun zs353 =>
      some (.inl (zs353, w64 (x278 + 1)))
      )
    ))
    )
    )
  ) else (
    some (.inr (.inr x271))
  ))
noncomputable def locate_Fused_s1 (p_Listappend : (List Range)) (p_String : Int) (zs378 : (List locate_edge)) : ((List Range) × Int × Bool × Int) → Option (((List Range) × Int × Bool × Int) ⊕ ((List Range))) := fun (x691, x697, x699, x703) =>
  (bif (decide (x703 < (zs378.length : Int))) then (
    (Option.bind (idx zs378 x703) fun el733 =>
    (Option.bind ((bif (decide (w64 (x703 + 1) < (zs378.length : Int))) then idx zs378 (w64 (x703 + 1)) else some default)) fun el763 =>
    (bif ((decide (w64 (x703 + 1) < (zs378.length : Int))) && (decide (el763.at_ = el733.at_))) then (
      some (.inl (x691, w64 (x697 + el733.by_), x699, w64 (x703 + 1)))
    ) else (
      (bif ((decide (w64 ((p_Listappend.length : Int) - p_String) ≤ w64 (x697 + el733.by_))) && (!x699)) then (
        (Option.bind (app x691 ([(Range.mk el733.at_ 0)] : List Range)) fun zs782 =>
        some (.inl (zs782, w64 (x697 + el733.by_), true, w64 (x703 + 1)))
        )
      ) else (
        (bif ((!(decide (w64 ((p_Listappend.length : Int) - p_String) ≤ w64 (x697 + el733.by_)))) && x699) then (
          (Option.bind (idx x691 (w64 ((x691.length : Int) - 1))) fun el800 =>
          some (.inl ((x691.set (w64 ((x691.length : Int) - 1) : Int).toNat (Range.mk el800.Lo (w64 (el733.at_ - 1)))), w64 (x697 + el733.by_), false, w64 (x703 + 1)))
          )
        ) else (
          some (.inl (x691, w64 (x697 + el733.by_), x699, w64 (x703 + 1)))
        ))
      ))
    ))
    )
    )
  ) else (
    some (.inr x691)
  ))
noncomputable def locate_Fused_spec (p_Listappend : (List Range)) (p_String : Int) : Option ((List Range) × Int) :=
  (Option.bind (locate_unless_spec (decide (0 < (p_Listappend.length : Int))) 10) fun r5 =>
  (Option.bind (locate_unless_spec (decide ((p_Listappend.length : Int) ≤ 12)) 8) fun r10 =>
  (Option.bind (locate_first_spec ([r5, r10] : List Int)) fun r23 =>
  (bif (!decide (r23 = 0)) then (
    some (([] : (List Range)), r23)
  ) else (
    (Option.bind (loop (locate_Fused_s0 p_Listappend) (([] : List locate_edge), 0)) fun o297 => jn0 o297 fun (x292 : (List locate_edge)) =>
    (Option.bind (locate_within_spec p_String 0 (w64 ((p_Listappend.length : Int) - 1))) fun r370 =>
    (bif (!r370) then (
      some (([] : (List Range)), 2)
    ) else (
      (Option.bind (sortE x292) fun zs378 =>
      (Option.bind (loop (locate_Fused_s1 p_Listappend p_String zs378) (([] : List Range), 0, false, 0)) fun (x715 : (List Range)) =>
      some (x715, 0)
      )
      )
    ))
    )
    )
  ))
  )
  )
  )
theorem locate_Fused_ok (L : List Value) (w : World) (hL : LtL L w) (v_p_Listappend : Value) (p_Listappend : (List Range)) (h_p_Listappend : SlRd L w v_p_Listappend p_Listappend) (p_String : Int) (r : (List Range) × Int) (h : locate_Fused_spec p_Listappend p_String = some r) :
    CallsTo Try.prog 20 [v_p_Listappend, (.int .i64 p_String)] w (fun v w' => Ext w w' ∧ ∃ (v0 : Value), (.tuple #[v0, (.int .i64 r.2)]) = v ∧ SlRd L w' v0 r.1) := by
  have e0 : Ext w w := Chg.refl _ _
  refine callsTo_of_WC (n := 124) (rs := [.tmp 4, .tmp 5]) Try.func20 rfl rfl rfl rfl rfl ?_
  refine WC_seqK fun K2 hK2 => ?_
  refine WC_region ?_
  refine T0_q (v := (.slice none 0 0)) rfl (yl_assign rfl) ?_
  refine T0_q (v := (.int .i64 0)) rfl (yl_assign rfl) ?_
  refine T0_nil ?_
  refine hK2 _ _ ?_
  refine WC_seqK fun K3 hK3 => ?_
  refine WC_seqK fun K4 hK4 => ?_
  refine WC_region ?_
  refine T0_q (v := v_p_Listappend) rfl (yl_move rfl) ?_
  refine T0_q (v := (.int .i64 (p_Listappend.length : Int))) rfl (yl_lenR rfl Try.underlying33 h_p_Listappend rfl) ?_
  refine T0_q (v := (.bool (decide (0 < (p_Listappend.length : Int))))) rfl (yl_gtr rfl rfl) ?_
  obtain ⟨r5, hr6, h⟩ := bind_elim h
  refine T0_e rfl (eff_call Try.func37 nm37 rfl (ev2 rfl rfl) (locate_unless_ok [] _ (LtL.nil _) (decide (0 < (p_Listappend.length : Int))) 10 r5 hr6) ?_)
  rintro _ wd7 ⟨he8, rfl⟩
  have e9 := e0.trans he8
  refine T0_q (v := v_p_Listappend) rfl (yl_move rfl) ?_
  refine T0_q (v := (.int .i64 (p_Listappend.length : Int))) rfl (yl_lenR rfl Try.underlying33 h_p_Listappend rfl) ?_
  refine T0_q (v := (.bool (decide ((p_Listappend.length : Int) ≤ 12)))) rfl (yl_leq rfl rfl) ?_
  obtain ⟨r10, hr11, h⟩ := bind_elim h
  refine T0_e rfl (eff_call Try.func37 nm37 rfl (ev2 rfl rfl) (locate_unless_ok [] _ (LtL.nil _) (decide ((p_Listappend.length : Int) ≤ 12)) 8 r10 hr11) ?_)
  rintro _ wd12 ⟨he13, rfl⟩
  have e14 := he8.trans he13
  have e15 := e9.trans he13
  refine T0_e rfl (eff_buildTC (xs := ([r5, r10] : List Int)) (cells := [(.int .i64 r5), (.int .i64 r10)]) Try.underlying91 ei37 rfl (pc_cons rfl rfl (pc_cons rfl rfl pc_nil)) rfl (Elems.cons (cs := [(.int .i64 r5)]) rfl (Elems.cons (cs := [(.int .i64 r10)]) rfl Elems.nil)) rfl (hL.chg e15) ?_)
  intro b19 wd16 he17 h18
  have e20 := e14.trans he17
  have e21 := e15.trans he17
  obtain ⟨r23, hr24, h⟩ := bind_elim h
  refine T0_e rfl (eff_call Try.func35 nm35 rfl (ev1 rfl) (locate_first_ok [] _ (LtL.nil _) (.slice (some ⟨b19, 0, none⟩) 2 2) ([r5, r10] : List Int) (h18.sub (fun _ h => by cases h)) r23 hr24) ?_)
  rintro _ wd25 ⟨he26, rfl⟩
  have e27 := e20.trans he26
  have e28 := e21.trans he26
  refine T0_q (v := (.int .i64 r23)) rfl (yl_assign rfl) ?_
  refine T0_nil ?_
  refine hK4 _ _ ?_
  refine WC_seqK fun K29 hK29 => ?_
  refine WC_region ?_
  refine T0_q (v := (.int .i64 r23)) rfl (yl_move rfl) ?_
  refine T0_q (v := (.bool (!decide (r23 = 0)))) rfl (yl_neq rfl rfl) ?_
  refine T0_nil ?_
  refine hK29 _ _ ?_
  refine WC_cond (b := (!decide (r23 = 0))) rfl (fun hb30 => ?_) (fun hb30 => ?_)
  · replace h := cond_t hb30 h
    refine WC_seqK fun K31 hK31 => ?_
    refine WC_region ?_
    refine T0_q (v := (.int .i64 r23)) rfl (yl_move rfl) ?_
    refine T0_q (v := (.slice none 0 0)) rfl (yl_assign rfl) ?_
    refine T0_q (v := (.int .i64 r23)) rfl (yl_assign rfl) ?_
    refine T0_nil ?_
    refine hK31 _ _ ?_
    refine WC_ret ?_
    replace h := some_out h
    subst h
    exact ⟨[(.slice none 0 0), (.int .i64 r23)], ⟨rfl, rfl, trivial⟩, e28, (.slice none 0 0), rfl, (SlRd.nil _ _)⟩
  · replace h := cond_f hb30 h
    refine WC_skip ?_
    refine hK3 _ _ ?_
    refine WC_seqK fun K32 hK32 => ?_
    refine WC_region ?_
    refine T0_q (v := (.slice none 0 0)) rfl (yl_assign rfl) ?_
    refine T0_nil ?_
    refine hK32 _ _ ?_
    refine WC_seqK fun K33 hK33 => ?_
    refine WC_seqK fun K34 hK34 => ?_
    refine WC_region ?_
    refine T0_q (v := v_p_Listappend) rfl (yl_move rfl) ?_
    refine T0_q (v := (.int .i64 (p_Listappend.length : Int))) rfl (yl_lenR rfl Try.underlying33 h_p_Listappend rfl) ?_
    refine T0_q (v := (.int .i64 0)) rfl (yl_move rfl) ?_
    refine T0_nil ?_
    refine hK34 _ _ ?_
    have h280 := (h_p_Listappend.ext e27).step (add_nil _)
    have h281 := (h18.ext he26).step (add_nil _)
    have h283 : Own 86 ((.slice none 0 0) :: L) wd25 (.slice none 0 0) ([] : List locate_edge) := Own.nil _ _ _
    obtain ⟨o297, hl298, hn299⟩ := bind_elim h
    refine WC_post (fun (ρ : Env) (wd285 : World) => ∃ (x292 : (List locate_edge)) (v291 : Value), .inr x292 = o297 ∧ ρ 0 = v_p_Listappend ∧ ρ 1 = (.int .i64 p_String) ∧ ρ 7 = v291 ∧ SlRd (v291 :: L) wd285 v_p_Listappend p_Listappend ∧ Own 86 (v291 :: L) wd285 v291 x292 ∧ (∀ b, blk v291 = some b → w.heap.size ≤ b) ∧ Ext w wd285) ?_ ?_
    · intro K303 hK303
      refine WC_block ?_
      refine WC_loopk (fun sv ρ wd264 => ∃ (x271 : (List locate_edge)) (x278 : Int) (v270 : Value), (x271, x278) = sv ∧ ρ 0 = v_p_Listappend ∧ ρ 1 = (.int .i64 p_String) ∧ ρ 7 = v270 ∧ ρ 31 = v_p_Listappend ∧ ρ 32 = (.int .i64 (p_Listappend.length : Int)) ∧ ρ 33 = (.int .i64 x278) ∧ SlRd (v270 :: L) wd264 v_p_Listappend p_Listappend ∧ Own 86 (v270 :: L) wd264 v270 x271 ∧ (∀ b, blk v270 = some b → w.heap.size ≤ b) ∧ Ext w wd264) hl298 ⟨([] : List locate_edge), 0, (.slice none 0 0), rfl, rfl, rfl, rfl, rfl, rfl, rfl, h280, h283, (fun b h => blk_nil b h), e28⟩ ?_
      rintro _ ρ wd264 ⟨x271, x278, v270, rfl, hs267, hs268, hs275, hs276, hs277, hs279, h266, h273, hf274, e265⟩ x300 h hx301 K302 hK302
      refine WC_seqK fun K305 hK305 => ?_
      refine WC_region ?_
      refine T0_q (v := (.bool (decide (x278 < (p_Listappend.length : Int))))) rfl (yl_lss hs279 hs277) ?_
      refine T0_nil ?_
      refine hK305 _ _ ?_
      refine WC_seqK fun K306 hK306 => ?_
      refine WC_cond (b := (decide (x278 < (p_Listappend.length : Int)))) rfl (fun hb307 => ?_) (fun hb307 => ?_)
      · replace h := cond_t hb307 h
        refine WC_skip ?_
        refine hK306 _ _ ?_
        refine WC_seqK fun K308 hK308 => ?_
        refine WC_block ?_
        refine WC_seqK fun K309 hK309 => ?_
        refine WC_region ?_
        obtain ⟨el310, hel311, h⟩ := bind_elim h
        obtain ⟨cs312, hat313, hrd314⟩ := SlRd.at h266 hel311
        have hrd314 : cs312 = [(.int .i64 el310.Lo), (.int .i64 el310.Hi)] := hrd314
        subst hrd314
        refine T0_q (v := (.pointer (some (elemAddr v_p_Listappend (x278 : Int).toNat 2)))) rfl (yl_indexAddr Try.underlying33 sz35 h266 hel311 hs276 hs279) ?_
        refine T0_q (v := (.agg (List.toArray [(.int .i64 el310.Lo), (.int .i64 el310.Hi)]))) rfl (yl_loadA (cs := [(.int .i64 el310.Lo), (.int .i64 el310.Hi)]) ag35 rfl hat313) ?_
        refine T0_e rfl (eff_allocZ zi35 ?_)
        intro b316 wd317 hb318 he319 hB320
        have hn321 : blk v270 ≠ some b316 := ne_new_box h273 hb318
        have hbf322 := bfresh e265 hb318
        have h323 := h266.step (add_box he319 hb318)
        have h324 := h273.step (add_box he319 hb318) he319 (fun _ _ => Avoids.nil _)
        have e325 := e265.trans he319
        refine T0_e rfl (eff_storeC (vs := [(.int .i64 el310.Lo), (.int .i64 el310.Hi)]) (cs' := [(.int .i64 el310.Lo), (.int .i64 el310.Hi)]) sz35 rfl rfl rfl rfl hB320 rfl (oc_cons rfl (oc_cons rfl oc_nil)) rfl ?_)
        intro wd327 hc328 hB329
        have h330 := h323.step (Stepp.chg_mem hc328 mem0)
        have h331 := h324.step (Stepp.chg_mem hc328 mem0) hc328 (av_box hn321)
        have e332 := chg_box e325 hc328 hbf322
        refine T0_nil ?_
        refine hK309 _ _ ?_
        refine WC_seqK fun K333 hK333 => ?_
        refine WC_seqK fun K334 hK334 => ?_
        refine WC_region ?_
        refine T0_q (v := (.agg (List.toArray [(.int .i64 el310.Lo), (.int .i64 el310.Hi)]))) rfl (yl_loadA (cs := [(.int .i64 el310.Lo), (.int .i64 el310.Hi)]) ag35 rfl (Box.at hB329)) ?_
        obtain ⟨r335, hr336, h⟩ := bind_elim h
        refine T0_e rfl (eff_call Try.func39 nm39 rfl (ev1 rfl) (locate_placesErr_ok [] _ (LtL.nil _) [(.int .i64 el310.Lo), (.int .i64 el310.Hi)] el310 rfl r335 hr336) ?_)
        rintro _ wd337 ⟨he338, rfl⟩
        have e339 := e332.trans he338
        refine T0_q (v := (.int .i64 r335)) rfl (yl_assign rfl) ?_
        refine T0_nil ?_
        refine hK334 _ _ ?_
        refine WC_seqK fun K340 hK340 => ?_
        refine WC_region ?_
        refine T0_q (v := (.int .i64 r335)) rfl (yl_move rfl) ?_
        refine T0_q (v := (.bool (!decide (r335 = 0)))) rfl (yl_neq rfl rfl) ?_
        refine T0_nil ?_
        refine hK340 _ _ ?_
        refine WC_cond (b := (!decide (r335 = 0))) rfl (fun hb341 => ?_) (fun hb341 => ?_)
        · replace h := cond_t hb341 h
          refine WC_seqK fun K342 hK342 => ?_
          refine WC_region ?_
          refine T0_q (v := (.int .i64 r335)) rfl (yl_move rfl) ?_
          refine T0_q (v := (.slice none 0 0)) rfl (yl_assign rfl) ?_
          refine T0_q (v := (.int .i64 r335)) rfl (yl_assign rfl) ?_
          refine T0_nil ?_
          refine hK342 _ _ ?_
          refine WC_ret ?_
          replace h := some_out h
          subst h
          have ho := hx301 _ rfl
          subst ho
          replace h := jn0_inl hn299
          replace h := some_out h
          subst h
          exact ⟨[(.slice none 0 0), (.int .i64 r335)], ⟨rfl, rfl, trivial⟩, e339, (.slice none 0 0), rfl, (SlRd.nil _ _)⟩
        · replace h := cond_f hb341 h
          refine WC_skip ?_
          refine hK333 _ _ ?_
          refine WC_region ?_
          refine T0_q (v := v270) rfl (yl_move hs275) ?_
          refine T0_q (v := (.pointer (some ⟨b316, 0, none⟩))) rfl (yl_fa 0 Try.underlying35 rfl rfl ⟨0, sz3⟩ rfl rfl) ?_
          refine T0_q (v := (.int .i64 el310.Lo)) rfl (yl_load sc3 rfl (Box.at (hB329.ext he338))) ?_
          refine T0_q (v := (.agg (List.toArray [(.int .i64 el310.Lo), (.int .i64 1)]))) rfl (yl_buildC (cells := [(.int .i64 el310.Lo), (.int .i64 1)]) bi86 (pc_cons rfl rfl (pc_cons rfl rfl pc_nil)) rfl) ?_
          refine T0_q (v := (.pointer (some ⟨b316, 1, none⟩))) rfl (yl_fa 1 Try.underlying35 rfl rfl ⟨0, sz3⟩ rfl rfl) ?_
          refine T0_q (v := (.int .i64 el310.Hi)) rfl (yl_load sc3 rfl (At.drop (Box.at (hB329.ext he338)) 1)) ?_
          refine T0_q (v := (.int .i64 (w64 (el310.Hi + 1)))) rfl (yl_add rfl rfl) ?_
          refine T0_q (v := (.agg (List.toArray [(.int .i64 (w64 (el310.Hi + 1))), (.int .i64 (-1))]))) rfl (yl_buildC (cells := [(.int .i64 (w64 (el310.Hi + 1))), (.int .i64 (-1))]) bi86 (pc_cons rfl rfl (pc_cons rfl rfl pc_nil)) rfl) ?_
          refine T0_e rfl (eff_buildTC (xs := ([(locate_edge.mk el310.Lo 1), (locate_edge.mk (w64 (el310.Hi + 1)) (-1))] : List locate_edge)) (cells := [(.int .i64 el310.Lo), (.int .i64 1), (.int .i64 (w64 (el310.Hi + 1))), (.int .i64 (-1))]) Try.underlying84 ei86 rfl (pc_cons rfl rfl (pc_cons rfl rfl pc_nil)) rfl (Elems.cons (cs := [(.int .i64 el310.Lo), (.int .i64 1)]) rfl (Elems.cons (cs := [(.int .i64 (w64 (el310.Hi + 1))), (.int .i64 (-1))]) rfl Elems.nil)) rfl (ltl_box (ltl_own (hL.chg e339) (h331.ext he338)) (hB329.ext he338)) ?_)
          intro b346 wd343 he344 h345
          have e347 := he338.trans he344
          have e348 := e339.trans he344
          have h350 := (h330.ext e347).sub (sub_cons (memS mem0) (sub_cons mem0 (sub_skip (sub_skip (sub_refl _)))))
          have h351 := (h331.ext e347).sub (sub_cons (memS mem0) (sub_cons mem0 (sub_skip (sub_skip (sub_refl _)))))
          have h352 := h345.sub (sub_cons (memS mem0) (sub_cons mem0 (sub_skip (sub_skip (sub_refl _)))))
          obtain ⟨zs353, hz354, h⟩ := bind_elim h
          refine T0_e rfl (eff_app Try.underlying84 ei86 rfl rfl rfl rfl h351 h352 hz354 ?_)
          intro v355 wd356 hc357 hbl358 h359
          have hn361 : blk v355 ≠ some b316 := ne_swap hbl358 hn321 (hB329.ext e347)
          have hf362 := fresh_swap hbl358 hf274 e348.size
          have h363 := h350.step (Stepp.swap hc357 hbl358)
          have h364 := (hB329.ext e347).chg hc357 (avoid1 hn321)
          have h365 := h352.step (Stepp.swap hc357 hbl358)
          have e366 := chg_own e348 hc357 hf274
          refine T0_q (v := v355) rfl (yl_assign rfl) ?_
          refine T0_nil ?_
          refine hK308 _ _ ?_
          refine WC_region ?_
          refine T0_q (v := (.int .i64 (w64 (x278 + 1)))) rfl (yl_add hs279 rfl) ?_
          refine T0_q (v := (.int .i64 (w64 (x278 + 1)))) rfl (yl_move rfl) ?_
          refine T0_nil ?_
          replace h := some_out h
          subst h
          refine hK302 _ _ _ rfl ?_
          exact ⟨zs353, w64 (x278 + 1), v355, rfl, hs267, hs268, rfl, hs276, hs277, rfl, (h363.sub (sub_cons mem0 (sub_skip (sub_skip (sub_refl _))))), (h359.sub (sub_cons mem0 (sub_skip (sub_skip (sub_refl _))))), hf362, e366⟩
      · replace h := cond_f hb307 h
        refine WC_exit ?_
        replace h := some_out h
        subst h
        have ho := hx301 _ rfl
        subst ho
        refine hK303 _ _ ?_
        exact ⟨x271, v270, rfl, hs267, hs268, hs275, h266, h273, hf274, e265⟩
    · rintro ρ wd285 ⟨x292, v291, rfl, hs288, hs289, hs296, h287, h294, hf295, e286⟩
      replace h := jn0_inr hn299
      refine hK33 _ _ ?_
      refine WC_seqK fun K368 hK368 => ?_
      refine WC_seqK fun K369 hK369 => ?_
      refine WC_region ?_
      refine T0_q (v := (.int .i64 p_String)) rfl (yl_move hs289) ?_
      refine T0_q (v := v_p_Listappend) rfl (yl_move hs288) ?_
      refine T0_q (v := (.int .i64 (p_Listappend.length : Int))) rfl (yl_lenR rfl Try.underlying33 h287 rfl) ?_
      refine T0_q (v := (.int .i64 (w64 ((p_Listappend.length : Int) - 1)))) rfl (yl_sub rfl rfl) ?_
      obtain ⟨r370, hr371, h⟩ := bind_elim h
      refine T0_e rfl (eff_call Try.func27 nm27 rfl (ev3 rfl rfl rfl) (locate_within_ok [] _ (LtL.nil _) p_String 0 (w64 ((p_Listappend.length : Int) - 1)) r370 hr371) ?_)
      rintro _ wd372 ⟨he373, rfl⟩
      have e374 := e286.trans he373
      refine T0_q (v := (.bool (!r370))) rfl (yl_not rfl) ?_
      refine T0_nil ?_
      refine hK369 _ _ ?_
      refine WC_cond (b := (!r370)) rfl (fun hb375 => ?_) (fun hb375 => ?_)
      · replace h := cond_t hb375 h
        refine WC_seqK fun K376 hK376 => ?_
        refine WC_region ?_
        refine T0_q (v := (.slice none 0 0)) rfl (yl_assign rfl) ?_
        refine T0_q (v := (.int .i64 2)) rfl (yl_assign rfl) ?_
        refine T0_nil ?_
        refine hK376 _ _ ?_
        refine WC_ret ?_
        replace h := some_out h
        subst h
        exact ⟨[(.slice none 0 0), (.int .i64 2)], ⟨rfl, rfl, trivial⟩, e374, (.slice none 0 0), rfl, (SlRd.nil _ _)⟩
      · replace h := cond_f hb375 h
        refine WC_skip ?_
        refine hK368 _ _ ?_
        refine WC_seqK fun K377 hK377 => ?_
        refine WC_region ?_
        refine T0_q (v := v291) rfl (yl_move hs296) ?_
        obtain ⟨zs378, hz379, h⟩ := bind_elim h
        refine T0_e rfl (eff_call Try.func41 nm41 rfl (ev2 rfl rfl) (sortE_ok (h294.ext he373) hz379) ?_)
        rintro _ wd380 ⟨hc381, rfl, h382⟩
        have h383 := (h287.ext he373).step (Stepp.chg_mem hc381 mem0)
        have e384 := chg_own e374 hc381 hf295
        refine T0_nil ?_
        refine hK377 _ _ ?_
        refine WC_seqK fun K385 hK385 => ?_
        refine WC_region ?_
        refine T0_q (v := (.slice none 0 0)) rfl (yl_assign rfl) ?_
        refine T0_nil ?_
        refine hK385 _ _ ?_
        refine WC_seqK fun K386 hK386 => ?_
        refine WC_region ?_
        refine T0_q (v := v_p_Listappend) rfl (yl_move hs288) ?_
        refine T0_q (v := (.int .i64 (p_Listappend.length : Int))) rfl (yl_lenR rfl Try.underlying33 h383 rfl) ?_
        refine T0_q (v := (.int .i64 p_String)) rfl (yl_move hs289) ?_
        refine T0_q (v := (.int .i64 (w64 ((p_Listappend.length : Int) - p_String)))) rfl (yl_sub rfl rfl) ?_
        refine T0_q (v := (.int .i64 (w64 ((p_Listappend.length : Int) - p_String)))) rfl (yl_assign rfl) ?_
        refine T0_q (v := (.int .i64 0)) rfl (yl_assign rfl) ?_
        refine T0_q (v := (.bool false)) rfl (yl_assign rfl) ?_
        refine T0_nil ?_
        refine hK386 _ _ ?_
        refine WC_seqK fun K387 hK387 => ?_
        refine WC_seqK fun K388 hK388 => ?_
        refine WC_region ?_
        refine T0_q (v := v291) rfl (yl_move hs296) ?_
        refine T0_q (v := (.int .i64 (zs378.length : Int))) rfl (yl_lenO rfl Try.underlying84 h382 rfl) ?_
        refine T0_q (v := (.int .i64 0)) rfl (yl_move rfl) ?_
        refine T0_nil ?_
        refine hK388 _ _ ?_
        have h706 := h383.step (add_nil _)
        have h707 := h382.step (add_nil _) (Chg.refl [] _) (fun _ _ => Avoids.nil _)
        have h709 : Own 35 ((.slice none 0 0) :: v291 :: L) wd380 (.slice none 0 0) ([] : List Range) := Own.nil _ _ _
        obtain ⟨o720, hl721, hn722⟩ := bind_elim h
        refine WC_post (fun (ρ : Env) (wd711 : World) => ∃ (x715 : (List Range)) (v714 : Value), x715 = o720 ∧ ρ 11 = v714 ∧ Own 35 (v714 :: L) wd711 v714 x715 ∧ (∀ b, blk v714 = some b → w.heap.size ≤ b) ∧ Ext w wd711) ?_ ?_
        · intro K726 hK726
          refine WC_block ?_
          refine WC_loopk (fun sv ρ wd684 => ∃ (x691 : (List Range)) (x697 : Int) (x699 : Bool) (x703 : Int) (v690 : Value), (x691, x697, x699, x703) = sv ∧ ρ 7 = v291 ∧ ρ 11 = v690 ∧ ρ 12 = (.int .i64 (w64 ((p_Listappend.length : Int) - p_String))) ∧ ρ 13 = (.int .i64 x697) ∧ ρ 14 = (.bool x699) ∧ ρ 65 = v291 ∧ ρ 66 = (.int .i64 (zs378.length : Int)) ∧ ρ 67 = (.int .i64 x703) ∧ Own 86 (v291 :: v690 :: L) wd684 v291 zs378 ∧ Own 35 (v291 :: v690 :: L) wd684 v690 x691 ∧ (∀ b, blk v690 = some b → w.heap.size ≤ b) ∧ (∀ b, blk v291 = some b → blk v690 ≠ some b) ∧ Ext w wd684) hl721 ⟨([] : List Range), 0, false, 0, (.slice none 0 0), rfl, hs296, rfl, rfl, rfl, rfl, rfl, rfl, rfl, (h707.sub (sub_cons (memS mem0) (sub_cons mem0 (sub_skip (sub_skip (sub_refl _)))))), (h709.sub (sub_cons (memS mem0) (sub_cons mem0 (sub_skip (sub_skip (sub_refl _)))))), (fun b h => blk_nil b h), (fun _ _ h => by cases h), e384⟩ ?_
          rintro _ ρ wd684 ⟨x691, x697, x699, x703, v690, rfl, hs688, hs695, hs696, hs698, hs700, hs701, hs702, hs704, h687, h693, hf694, hn705, e685⟩ x723 h hx724 K725 hK725
          refine WC_seqK fun K728 hK728 => ?_
          refine WC_region ?_
          refine T0_q (v := (.bool (decide (x703 < (zs378.length : Int))))) rfl (yl_lss hs704 hs702) ?_
          refine T0_nil ?_
          refine hK728 _ _ ?_
          refine WC_seqK fun K729 hK729 => ?_
          refine WC_cond (b := (decide (x703 < (zs378.length : Int)))) rfl (fun hb730 => ?_) (fun hb730 => ?_)
          · replace h := cond_t hb730 h
            refine WC_skip ?_
            refine hK729 _ _ ?_
            refine WC_seqK fun K731 hK731 => ?_
            refine WC_block ?_
            refine WC_seqK fun K732 hK732 => ?_
            refine WC_region ?_
            refine T0_q (v := (.int .i64 x703)) rfl (yl_move hs704) ?_
            obtain ⟨el733, hel734, h⟩ := bind_elim h
            obtain ⟨cs735, hat736, hrd737⟩ := Own.at h687 hel734
            have hrd737 : cs735 = [(.int .i64 el733.at_), (.int .i64 el733.by_)] := hrd737
            subst hrd737
            refine T0_q (v := (.pointer (some (elemAddr v291 (x703 : Int).toNat 2)))) rfl (yl_indexAddrO Try.underlying84 sz86 h687 hel734 hs701 hs704) ?_
            refine T0_q (v := (.agg (List.toArray [(.int .i64 el733.at_), (.int .i64 el733.by_)]))) rfl (yl_loadA (cs := [(.int .i64 el733.at_), (.int .i64 el733.by_)]) ag86 rfl hat736) ?_
            refine T0_e rfl (eff_allocZ zi86 ?_)
            intro b739 wd740 hb741 he742 hB743
            have hn744 : blk v291 ≠ some b739 := ne_new_box h687 hb741
            have hn745 : blk v690 ≠ some b739 := ne_new_box h693 hb741
            have hbf746 := bfresh e685 hb741
            have h747 := h687.step (add_box he742 hb741) he742 (fun _ _ => Avoids.nil _)
            have h748 := h693.step (add_box he742 hb741) he742 (fun _ _ => Avoids.nil _)
            have e749 := e685.trans he742
            refine T0_q (v := (.int .i64 x703)) rfl (yl_assign rfl) ?_
            refine T0_e rfl (eff_storeC (vs := [(.int .i64 el733.at_), (.int .i64 el733.by_)]) (cs' := [(.int .i64 el733.at_), (.int .i64 el733.by_)]) sz86 rfl rfl rfl rfl hB743 rfl (oc_cons rfl (oc_cons rfl oc_nil)) rfl ?_)
            intro wd751 hc752 hB753
            have h754 := h747.step (Stepp.chg_mem hc752 mem0) hc752 (av_box hn744)
            have h755 := h748.step (Stepp.chg_mem hc752 mem0) hc752 (av_box hn745)
            have e756 := chg_box e749 hc752 hbf746
            refine T0_nil ?_
            refine hK732 _ _ ?_
            refine WC_seqK fun K757 hK757 => ?_
            refine WC_region ?_
            refine T0_q (v := (.int .i64 x697)) rfl (yl_move hs698) ?_
            refine T0_q (v := (.pointer (some ⟨b739, 1, none⟩))) rfl (yl_fa 1 Try.underlying86 rfl rfl ⟨0, sz3⟩ rfl rfl) ?_
            refine T0_q (v := (.int .i64 el733.by_)) rfl (yl_load sc3 rfl (At.drop (Box.at hB753) 1)) ?_
            refine T0_q (v := (.int .i64 (w64 (x697 + el733.by_)))) rfl (yl_add rfl rfl) ?_
            refine T0_q (v := (.int .i64 (w64 (x697 + el733.by_)))) rfl (yl_assign rfl) ?_
            refine T0_nil ?_
            refine hK757 _ _ ?_
            refine WC_seqK fun K758 hK758 => ?_
            refine WC_seqK fun K759 hK759 => ?_
            refine WC_plan mixed (.p 0 (.p 1 (.p 2 (.p 3 (.p 4 (.p 5 (.p 6 (.p 7 (.p 8 (.p 9 (.p 10 (.p 12 (.q 11 (.q 13 (.p 14 (.p 15 .done)))))))))))))))) (by kernel_rfl) ?_
            intro wd760 he761
            have e762 := e756.trans he761
            refine TP_p (v := (.int .i64 x703)) rfl rfl (fun w' => (yl_move rfl)) ?_
            refine TP_p (v := (.int .i64 (w64 (x703 + 1)))) rfl rfl (fun w' => (yl_add rfl rfl)) ?_
            refine TP_p (v := v291) rfl rfl (fun w' => (yl_move hs688)) ?_
            refine TP_p (v := (.int .i64 (zs378.length : Int))) rfl rfl (fun w' => (yl_lenO rfl Try.underlying84 h754 rfl)) ?_
            refine TP_p (v := (.bool (decide (w64 (x703 + 1) < (zs378.length : Int))))) rfl rfl (fun w' => (yl_lss rfl rfl)) ?_
            refine TP_p (v := (.bool (decide (w64 (x703 + 1) < (zs378.length : Int))))) rfl rfl (fun w' => (yl_move rfl)) ?_
            refine TP_gp (v := v291) (decide (w64 (x703 + 1) < (zs378.length : Int))) rfl (wanted_t rfl rfl rfl rfl) (fun w' hg => (yl_move hs688)) ?_
            refine TP_gp (v := (.int .i64 x703)) (decide (w64 (x703 + 1) < (zs378.length : Int))) rfl (wanted_t rfl rfl rfl rfl) (fun w' hg => (yl_move rfl)) ?_
            refine TP_gp (v := (.int .i64 (w64 (x703 + 1)))) (decide (w64 (x703 + 1) < (zs378.length : Int))) rfl (wanted_t rfl rfl rfl rfl) (fun w' hg => (yl_add (gd_true hg) rfl)) ?_
            obtain ⟨el763, hel764, h⟩ := bind_elim h
            have hat766 : (decide (w64 (x703 + 1) < (zs378.length : Int))) = true → At wd751 (elemAddr v291 (w64 (x703 + 1) : Int).toNat 2) [(.int .i64 el763.at_), (.int .i64 el763.by_)] := fun hg => by obtain ⟨cs, hat, hrd⟩ := Own.at h754 (cond_t hg hel764); have hrd : cs = [(.int .i64 el763.at_), (.int .i64 el763.by_)] := hrd; subst hrd; exact hat
            refine TP_gp (v := (.pointer (some (elemAddr v291 (w64 (x703 + 1) : Int).toNat 2)))) (decide (w64 (x703 + 1) < (zs378.length : Int))) rfl (wanted_t rfl rfl rfl rfl) (fun w' hg => (yl_indexAddrO Try.underlying84 sz86 h754 (cond_t hg hel764) (gd_true hg) (gd_true hg))) ?_
            refine TP_gp (v := (.pointer (some (elemAddr v291 (w64 (x703 + 1) : Int).toNat 2)))) (decide (w64 (x703 + 1) < (zs378.length : Int))) rfl (wanted_t rfl rfl rfl rfl) (fun w' hg => (yl_fa 0 Try.underlying86 rfl rfl ⟨0, sz3⟩ (gd_true hg) rfl)) ?_
            refine TP_gp (v := (.pointer (some ⟨b739, 0, none⟩))) (decide (w64 (x703 + 1) < (zs378.length : Int))) rfl (wanted_t rfl rfl rfl rfl) (fun w' hg => (yl_fa 0 Try.underlying86 rfl rfl ⟨0, sz3⟩ rfl rfl)) ?_
            refine TP_gq (v := (.int .i64 el763.at_)) (decide (w64 (x703 + 1) < (zs378.length : Int))) rfl (wanted_t rfl rfl rfl rfl) (fun w' hS hg => (yl_load sc3 (gd_true hg) ((hat766 hg).ext' ((he761).trans hS)))) ?_
            refine TP_gq (v := (.int .i64 el733.at_)) (decide (w64 (x703 + 1) < (zs378.length : Int))) rfl (wanted_t rfl rfl rfl rfl) (fun w' hS hg => (yl_load sc3 (gd_true hg) (Box.at (hB753.ext ((he761).trans hS))))) ?_
            refine TP_gp (v := (.bool (decide (el763.at_ = el733.at_)))) (decide (w64 (x703 + 1) < (zs378.length : Int))) rfl (wanted_t rfl rfl rfl rfl) (fun w' hg => (yl_eql (gd_true hg) (gd_true hg))) ?_
            refine TP_p (v := (.bool ((decide (w64 (x703 + 1) < (zs378.length : Int))) && (decide (el763.at_ = el733.at_))))) rfl rfl (fun w' => (yl_and rfl (fun hb => (gd_true hb)) rfl)) ?_
            refine TP_done ?_
            refine hK759 _ _ ?_
            refine WC_cond (b := ((decide (w64 (x703 + 1) < (zs378.length : Int))) && (decide (el763.at_ = el733.at_)))) rfl (fun hb768 => ?_) (fun hb768 => ?_)
            · replace h := cond_t hb768 h
              refine WC_exit ?_
              refine hK731 _ _ ?_
              refine WC_region ?_
              refine T0_q (v := (.int .i64 (w64 (x703 + 1)))) rfl (yl_add hs704 rfl) ?_
              refine T0_q (v := (.int .i64 (w64 (x703 + 1)))) rfl (yl_move rfl) ?_
              refine T0_nil ?_
              replace h := some_out h
              subst h
              refine hK725 _ _ _ rfl ?_
              exact ⟨x691, w64 (x697 + el733.by_), x699, w64 (x703 + 1), v690, rfl, hs688, hs695, hs696, rfl, hs700, hs701, hs702, rfl, ((h754.ext he761).sub (sub_cons (memS mem0) (sub_cons (memS (memS mem0)) (sub_skip (sub_skip (sub_skip (sub_refl _))))))), ((h755.ext he761).sub (sub_cons (memS mem0) (sub_cons (memS (memS mem0)) (sub_skip (sub_skip (sub_skip (sub_refl _))))))), hf694, hn705, e762⟩
            · replace h := cond_f hb768 h
              refine WC_skip ?_
              refine hK758 _ _ ?_
              refine WC_seqK fun K769 hK769 => ?_
              refine WC_region ?_
              refine T0_q (v := (.int .i64 (w64 (x697 + el733.by_)))) rfl (yl_move rfl) ?_
              refine T0_q (v := (.int .i64 (w64 ((p_Listappend.length : Int) - p_String)))) rfl (yl_move hs696) ?_
              refine T0_q (v := (.bool (decide (w64 ((p_Listappend.length : Int) - p_String) ≤ w64 (x697 + el733.by_))))) rfl (yl_geq rfl rfl) ?_
              refine T0_q (v := (.bool (decide (w64 ((p_Listappend.length : Int) - p_String) ≤ w64 (x697 + el733.by_))))) rfl (yl_assign rfl) ?_
              refine T0_nil ?_
              refine hK769 _ _ ?_
              refine WC_block ?_
              refine WC_seqK fun K770 hK770 => ?_
              refine WC_region ?_
              refine T0_q (v := (.bool (decide (w64 ((p_Listappend.length : Int) - p_String) ≤ w64 (x697 + el733.by_))))) rfl (yl_move rfl) ?_
              refine T0_q (v := (.bool (decide (w64 ((p_Listappend.length : Int) - p_String) ≤ w64 (x697 + el733.by_))))) rfl (yl_move rfl) ?_
              refine T0_g (v := (.bool x699)) (decide (w64 ((p_Listappend.length : Int) - p_String) ≤ w64 (x697 + el733.by_))) (wanted_t rfl rfl rfl rfl) (fun hg => (yl_move hs700)) ?_
              refine T0_g (v := (.bool (!x699))) (decide (w64 ((p_Listappend.length : Int) - p_String) ≤ w64 (x697 + el733.by_))) (wanted_t rfl rfl rfl rfl) (fun hg => (yl_not (gd_true hg))) ?_
              refine T0_q (v := (.bool ((decide (w64 ((p_Listappend.length : Int) - p_String) ≤ w64 (x697 + el733.by_))) && (!x699)))) rfl (yl_and rfl (fun hb => (gd_true hb)) rfl) ?_
              refine T0_q (v := (.bool ((decide (w64 ((p_Listappend.length : Int) - p_String) ≤ w64 (x697 + el733.by_))) && (!x699)))) rfl (yl_assign rfl) ?_
              refine T0_nil ?_
              refine hK770 _ _ ?_
              refine WC_cond (b := ((decide (w64 ((p_Listappend.length : Int) - p_String) ≤ w64 (x697 + el733.by_))) && (!x699))) rfl (fun hb771 => ?_) (fun hb771 => ?_)
              · replace h := cond_t hb771 h
                refine WC_region ?_
                refine T0_q (v := v690) rfl (yl_move hs695) ?_
                refine T0_q (v := (.pointer (some ⟨b739, 0, none⟩))) rfl (yl_fa 0 Try.underlying86 rfl rfl ⟨0, sz3⟩ rfl rfl) ?_
                refine T0_q (v := (.int .i64 el733.at_)) rfl (yl_load sc3 rfl (Box.at (hB753.ext he761))) ?_
                refine T0_q (v := (.agg (List.toArray [(.int .i64 el733.at_), (.int .i64 0)]))) rfl (yl_buildC (cells := [(.int .i64 el733.at_), (.int .i64 0)]) bi35 (pc_cons rfl rfl pc_nil) rfl) ?_
                refine T0_e rfl (eff_buildTC (xs := ([(Range.mk el733.at_ 0)] : List Range)) (cells := [(.int .i64 el733.at_), (.int .i64 0)]) Try.underlying33 ei35 rfl (pc_cons rfl rfl pc_nil) rfl (Elems.cons (cs := [(.int .i64 el733.at_), (.int .i64 0)]) rfl Elems.nil) rfl (ltl_box (ltl_own (ltl_own (hL.chg e762) (h755.ext he761)) (h754.ext he761)) (hB753.ext he761)) ?_)
                intro b775 wd772 he773 h774
                have e776 := he761.trans he773
                have e777 := e762.trans he773
                have h779 := (h754.ext e776).sub (sub_cons (memS (memS mem0)) (sub_cons mem0 (sub_cons (memS mem0) (sub_skip (sub_skip (sub_skip (sub_refl _)))))))
                have h780 := (h755.ext e776).sub (sub_cons (memS (memS mem0)) (sub_cons mem0 (sub_cons (memS mem0) (sub_skip (sub_skip (sub_skip (sub_refl _)))))))
                have h781 := h774.sub (sub_cons (memS (memS mem0)) (sub_cons mem0 (sub_cons (memS mem0) (sub_skip (sub_skip (sub_skip (sub_refl _)))))))
                obtain ⟨zs782, hz783, h⟩ := bind_elim h
                refine T0_e rfl (eff_app Try.underlying33 ei35 rfl rfl rfl rfl h780 h781 hz783 ?_)
                intro v784 wd785 hc786 hbl787 h788
                have hn790 : blk v784 ≠ some b739 := ne_swap hbl787 hn745 (hB753.ext e776)
                have hn791 := dj_swap hbl787 hn705 h779
                have hf792 := fresh_swap hbl787 hf694 e777.size
                have h793 := h779.step (Stepp.swap hc786 hbl787) hc786 (av_own hn705)
                have h794 := (hB753.ext e776).chg hc786 (avoid1 hn745)
                have h795 := h781.step (Stepp.swap hc786 hbl787)
                have e796 := chg_own e777 hc786 hf694
                refine T0_q (v := v784) rfl (yl_assign rfl) ?_
                refine T0_q (v := (.bool true)) rfl (yl_assign rfl) ?_
                refine T0_nil ?_
                refine hK731 _ _ ?_
                refine WC_region ?_
                refine T0_q (v := (.int .i64 (w64 (x703 + 1)))) rfl (yl_add hs704 rfl) ?_
                refine T0_q (v := (.int .i64 (w64 (x703 + 1)))) rfl (yl_move rfl) ?_
                refine T0_nil ?_
                replace h := some_out h
                subst h
                refine hK725 _ _ _ rfl ?_
                exact ⟨zs782, w64 (x697 + el733.by_), true, w64 (x703 + 1), v784, rfl, hs688, rfl, hs696, rfl, rfl, hs701, hs702, rfl, (h793.sub (sub_cons (memS (memS mem0)) (sub_cons mem0 (sub_skip (sub_skip (sub_skip (sub_refl _))))))), (h788.sub (sub_cons (memS (memS mem0)) (sub_cons mem0 (sub_skip (sub_skip (sub_skip (sub_refl _))))))), hf792, hn791, e796⟩
              · replace h := cond_f hb771 h
                refine WC_seqK fun K798 hK798 => ?_
                refine WC_region ?_
                refine T0_q (v := (.bool (decide (w64 ((p_Listappend.length : Int) - p_String) ≤ w64 (x697 + el733.by_))))) rfl (yl_move rfl) ?_
                refine T0_q (v := (.bool (!(decide (w64 ((p_Listappend.length : Int) - p_String) ≤ w64 (x697 + el733.by_)))))) rfl (yl_not rfl) ?_
                refine T0_q (v := (.bool (!(decide (w64 ((p_Listappend.length : Int) - p_String) ≤ w64 (x697 + el733.by_)))))) rfl (yl_move rfl) ?_
                refine T0_g (v := (.bool x699)) (!(decide (w64 ((p_Listappend.length : Int) - p_String) ≤ w64 (x697 + el733.by_)))) (wanted_t rfl rfl rfl rfl) (fun hg => (yl_move hs700)) ?_
                refine T0_q (v := (.bool ((!(decide (w64 ((p_Listappend.length : Int) - p_String) ≤ w64 (x697 + el733.by_)))) && x699))) rfl (yl_and rfl (fun hb => (gd_true hb)) rfl) ?_
                refine T0_q (v := (.bool ((!(decide (w64 ((p_Listappend.length : Int) - p_String) ≤ w64 (x697 + el733.by_)))) && x699))) rfl (yl_assign rfl) ?_
                refine T0_nil ?_
                refine hK798 _ _ ?_
                refine WC_cond (b := ((!(decide (w64 ((p_Listappend.length : Int) - p_String) ≤ w64 (x697 + el733.by_)))) && x699)) rfl (fun hb799 => ?_) (fun hb799 => ?_)
                · replace h := cond_t hb799 h
                  refine WC_region ?_
                  refine T0_q (v := v690) rfl (yl_move hs695) ?_
                  refine T0_q (v := v690) rfl (yl_move hs695) ?_
                  refine T0_q (v := (.int .i64 (x691.length : Int))) rfl (yl_lenO rfl Try.underlying33 h755 rfl) ?_
                  refine T0_q (v := (.int .i64 (w64 ((x691.length : Int) - 1)))) rfl (yl_sub rfl rfl) ?_
                  refine T0_q (v := (.pointer (some ⟨b739, 0, none⟩))) rfl (yl_fa 0 Try.underlying86 rfl rfl ⟨0, sz3⟩ rfl rfl) ?_
                  refine T0_q (v := (.int .i64 el733.at_)) rfl (yl_load sc3 rfl (Box.at (hB753.ext he761))) ?_
                  refine T0_q (v := (.int .i64 (w64 (el733.at_ - 1)))) rfl (yl_sub rfl rfl) ?_
                  obtain ⟨el800, hel801, h⟩ := bind_elim h
                  obtain ⟨cs802, hat803, hrd804⟩ := Own.at h755 hel801
                  have hrd804 : cs802 = [(.int .i64 el800.Lo), (.int .i64 el800.Hi)] := hrd804
                  subst hrd804
                  refine T0_q (v := (.pointer (some (elemAddr v690 (w64 ((x691.length : Int) - 1) : Int).toNat 2)))) rfl (yl_indexAddrO Try.underlying33 sz35 h755 hel801 rfl rfl) ?_
                  refine T0_q (v := (.pointer (some (Addr.add (elemAddr v690 (w64 ((x691.length : Int) - 1) : Int).toNat 2) 1)))) rfl (yl_fa 1 Try.underlying35 rfl rfl ⟨0, sz3⟩ rfl rfl) ?_
                  refine T0_e rfl (eff_storeOC (vs := [(.int .i64 (w64 (el733.at_ - 1)))]) (off := 1) (y' := (Range.mk el800.Lo (w64 (el733.at_ - 1)))) sz3 rfl rfl (h755.ext he761) (memS (memS mem0)) hel801 rfl rfl rfl (oc_cons rfl oc_nil) (fun w' cs hcs => by have hcs : cs = [(.int .i64 el800.Lo), (.int .i64 el800.Hi)] := hcs; subst hcs; rfl) ?_)
                  intro wd806 hc807 hB808
                  have h809 := (h754.ext he761).step (Stepp.chg_mem hc807 (memS (memS mem0))) hc807 (av_own hn705)
                  have h810 := (hB753.ext he761).chg hc807 (avoid1 hn745)
                  have e811 := chg_own e762 hc807 hf694
                  refine T0_q (v := (.bool false)) rfl (yl_assign rfl) ?_
                  refine T0_nil ?_
                  refine hK731 _ _ ?_
                  refine WC_region ?_
                  refine T0_q (v := (.int .i64 (w64 (x703 + 1)))) rfl (yl_add hs704 rfl) ?_
                  refine T0_q (v := (.int .i64 (w64 (x703 + 1)))) rfl (yl_move rfl) ?_
                  refine T0_nil ?_
                  replace h := some_out h
                  subst h
                  refine hK725 _ _ _ rfl ?_
                  exact ⟨(x691.set (w64 ((x691.length : Int) - 1) : Int).toNat (Range.mk el800.Lo (w64 (el733.at_ - 1)))), w64 (x697 + el733.by_), false, w64 (x703 + 1), v690, rfl, hs688, hs695, hs696, rfl, rfl, hs701, hs702, rfl, (h809.sub (sub_cons (memS mem0) (sub_cons (memS (memS mem0)) (sub_skip (sub_skip (sub_skip (sub_refl _))))))), (hB808.sub (sub_cons (memS mem0) (sub_cons (memS (memS mem0)) (sub_skip (sub_skip (sub_skip (sub_refl _))))))), hf694, hn705, e811⟩
                · replace h := cond_f hb799 h
                  refine WC_skip ?_
                  refine hK731 _ _ ?_
                  refine WC_region ?_
                  refine T0_q (v := (.int .i64 (w64 (x703 + 1)))) rfl (yl_add hs704 rfl) ?_
                  refine T0_q (v := (.int .i64 (w64 (x703 + 1)))) rfl (yl_move rfl) ?_
                  refine T0_nil ?_
                  replace h := some_out h
                  subst h
                  refine hK725 _ _ _ rfl ?_
                  exact ⟨x691, w64 (x697 + el733.by_), x699, w64 (x703 + 1), v690, rfl, hs688, hs695, hs696, rfl, hs700, hs701, hs702, rfl, ((h754.ext he761).sub (sub_cons (memS mem0) (sub_cons (memS (memS mem0)) (sub_skip (sub_skip (sub_skip (sub_refl _))))))), ((h755.ext he761).sub (sub_cons (memS mem0) (sub_cons (memS (memS mem0)) (sub_skip (sub_skip (sub_skip (sub_refl _))))))), hf694, hn705, e762⟩
          · replace h := cond_f hb730 h
            refine WC_exit ?_
            replace h := some_out h
            subst h
            have ho := hx724 _ rfl
            subst ho
            refine hK726 _ _ ?_
            exact ⟨x691, v690, rfl, hs695, (h693.sub (sub_cons (memS mem0) (sub_skip (sub_skip (sub_refl _))))), hf694, e685⟩
        · rintro ρ wd711 ⟨x715, v714, rfl, hs719, h717, hf718, e712⟩
          replace h := hn722
          refine hK387 _ _ ?_
          refine WC_seqK fun K812 hK812 => ?_
          refine WC_region ?_
          refine T0_q (v := v714) rfl (yl_move hs719) ?_
          refine T0_q (v := v714) rfl (yl_assign rfl) ?_
          refine T0_q (v := (.int .i64 0)) rfl (yl_assign rfl) ?_
          refine T0_nil ?_
          refine hK812 _ _ ?_
          refine WC_ret ?_
          replace h := some_out h
          subst h
          exact ⟨[v714, (.int .i64 0)], ⟨rfl, rfl, trivial⟩, e712, v714, rfl, (h717.rdL (sub_skip (sub_refl _)) hL hf718)⟩

noncomputable def locate_CheckTrack_spec (p_Listappend : LocateTrack) : Option (Int × Int) :=
  (Option.bind (locate_within_spec p_Listappend.Window 1 12) fun r18 =>
  (Option.bind (locate_unless_spec r18 2) fun r25 =>
  (Option.bind (locate_unless_spec (decide (p_Listappend.Window ≤ (p_Listappend.Vanes.length : Int))) 10) fun r33 =>
  (Option.bind (locate_unless_spec (decide ((p_Listappend.Vanes.length : Int) ≤ 40)) 8) fun r41 =>
  (Option.bind (locate_first_spec ([r25, r33, r41] : List Int)) fun r58 =>
  (bif (!decide (r58 = 0)) then (
    some (0, r58)
  ) else (
    (Option.bind (slices_IndexFunc_int_56_spec p_Listappend.Vanes) fun r72 =>
    (bif (decide (0 ≤ r72)) then (
      some (r72, 15)
    ) else (
      (Option.bind (locate_within_spec p_Listappend.Tooth 1 1000) fun r84 =>
      (Option.bind (bif r84 then locate_within_spec p_Listappend.PerVane 1 12 else some default) fun r92 =>
      (Option.bind (bif (r84 && r92) then locate_within_spec p_Listappend.First 0 999000000 else some default) fun r100 =>
      (Option.bind (bif ((r84 && r92) && r100) then locate_within_spec p_Listappend.Modulus 1 1000 else some default) fun r108 =>
      (Option.bind (bif (((r84 && r92) && r100) && r108) then locate_within_spec p_Listappend.Slack 0 p_Listappend.Modulus else some default) fun r116 =>
      (Option.bind (bif ((((r84 && r92) && r100) && r108) && r116) then locate_within_spec p_Listappend.Errors 0 p_Listappend.Window else some default) fun r124 =>
      (Option.bind (locate_unless_spec (((((r84 && r92) && r100) && r108) && r116) && r124) 2) fun r133 =>
      some (0, r133)
      )
      )
      )
      )
      )
      )
      )
    ))
    )
  ))
  )
  )
  )
  )
  )
theorem locate_CheckTrack_ok (L : List Value) (w : World) (hL : LtL L w) (cs_p_Listappend : List Value) (p_Listappend : LocateTrack) (h_p_Listappend : Rep.rd L w cs_p_Listappend p_Listappend) (r : Int × Int) (h : locate_CheckTrack_spec p_Listappend = some r) :
    CallsTo Try.prog 45 [(.agg cs_p_Listappend.toArray)] w (fun v w' => Ext w w' ∧ (.tuple #[(.int .i64 r.1), (.int .i64 r.2)]) = v) := by
  have e0 : Ext w w := Chg.refl _ _
  obtain ⟨v1, h2, rfl⟩ := h_p_Listappend
  refine callsTo_of_WC (n := 68) (rs := [.tmp 2, .tmp 3]) Try.func45 rfl rfl rfl rfl rfl ?_
  refine WC_seqK fun K4 hK4 => ?_
  refine WC_region ?_
  refine T0_e rfl (eff_boxC (cs := [v1, (.int .i64 p_Listappend.Window), (.int .i64 p_Listappend.Tooth), (.int .i64 p_Listappend.PerVane), (.int .i64 p_Listappend.First), (.int .i64 p_Listappend.Modulus), (.int .i64 p_Listappend.Slack), (.int .i64 p_Listappend.Errors), (.bool p_Listappend.Round)]) rfl rfl ?_)
  intro b5 wd6 hb7 he8 hB9
  have hbf10 := bfresh e0 hb7
  have e11 := e0.trans he8
  refine T0_q (v := (.int .i64 0)) rfl (yl_assign rfl) ?_
  refine T0_q (v := (.int .i64 0)) rfl (yl_assign rfl) ?_
  refine T0_nil ?_
  refine hK4 _ _ ?_
  refine WC_seqK fun K13 hK13 => ?_
  refine WC_plan mixed (.p 0 (.p 4 (.p 7 (.p 11 (.q 1 (.q 5 (.p 6 (.q 8 (.p 9 (.q 12 (.p 13 (.p 14 (.e 2 (.e 3 (.e 10 (.e 15 (.e 16 (.e 17 (.p 18 .done))))))))))))))))))) (by kernel_rfl) ?_
  intro wd14 he15
  have e16 := he8.trans he15
  have e17 := e11.trans he15
  refine TP_p (v := (.pointer (some ⟨b5, 1, none⟩))) rfl rfl (fun w' => (yl_fa 1 Try.underlying24 rfl rfl ⟨0, sz3⟩ rfl rfl)) ?_
  refine TP_p (v := (.pointer (some ⟨b5, 0, none⟩))) rfl rfl (fun w' => (yl_fa 0 Try.underlying24 rfl rfl ⟨0, sz22⟩ rfl rfl)) ?_
  refine TP_p (v := (.pointer (some ⟨b5, 1, none⟩))) rfl rfl (fun w' => (yl_fa 1 Try.underlying24 rfl rfl ⟨0, sz3⟩ rfl rfl)) ?_
  refine TP_p (v := (.pointer (some ⟨b5, 0, none⟩))) rfl rfl (fun w' => (yl_fa 0 Try.underlying24 rfl rfl ⟨0, sz22⟩ rfl rfl)) ?_
  refine TP_q (v := (.int .i64 p_Listappend.Window)) rfl rfl (fun w' hS => (yl_load sc3 rfl (At.drop (Box.at (hB9.ext ((he15).trans hS))) 1))) ?_
  refine TP_q (v := v1) rfl rfl (fun w' hS => (yl_load sc22 rfl (Box.at (hB9.ext ((he15).trans hS))))) ?_
  refine TP_p (v := (.int .i64 (p_Listappend.Vanes.length : Int))) rfl rfl (fun w' => (yl_lenR rfl Try.underlying22 h2 rfl)) ?_
  refine TP_q (v := (.int .i64 p_Listappend.Window)) rfl rfl (fun w' hS => (yl_load sc3 rfl (At.drop (Box.at (hB9.ext ((he15).trans hS))) 1))) ?_
  refine TP_p (v := (.bool (decide (p_Listappend.Window ≤ (p_Listappend.Vanes.length : Int))))) rfl rfl (fun w' => (yl_geq rfl rfl)) ?_
  refine TP_q (v := v1) rfl rfl (fun w' hS => (yl_load sc22 rfl (Box.at (hB9.ext ((he15).trans hS))))) ?_
  refine TP_p (v := (.int .i64 (p_Listappend.Vanes.length : Int))) rfl rfl (fun w' => (yl_lenR rfl Try.underlying22 h2 rfl)) ?_
  refine TP_p (v := (.bool (decide ((p_Listappend.Vanes.length : Int) ≤ 40)))) rfl rfl (fun w' => (yl_leq rfl rfl)) ?_
  obtain ⟨r18, hr19, h⟩ := bind_elim h
  refine TP_e rfl rfl (eff_call Try.func27 nm27 rfl (ev3 rfl rfl rfl) (locate_within_ok [] _ (LtL.nil _) p_Listappend.Window 1 12 r18 hr19) ?_)
  rintro _ wd20 ⟨he21, rfl⟩
  have e22 := e16.trans he21
  have e23 := he15.trans he21
  have e24 := e17.trans he21
  refine ⟨he21, ?_⟩
  obtain ⟨r25, hr26, h⟩ := bind_elim h
  refine TP_e rfl rfl (eff_call Try.func37 nm37 rfl (ev2 rfl rfl) (locate_unless_ok [] _ (LtL.nil _) r18 2 r25 hr26) ?_)
  rintro _ wd27 ⟨he28, rfl⟩
  have e29 := e22.trans he28
  have e30 := e23.trans he28
  have e31 := he21.trans he28
  have e32 := e24.trans he28
  refine ⟨e31, ?_⟩
  obtain ⟨r33, hr34, h⟩ := bind_elim h
  refine TP_e rfl rfl (eff_call Try.func37 nm37 rfl (ev2 rfl rfl) (locate_unless_ok [] _ (LtL.nil _) (decide (p_Listappend.Window ≤ (p_Listappend.Vanes.length : Int))) 10 r33 hr34) ?_)
  rintro _ wd35 ⟨he36, rfl⟩
  have e37 := e29.trans he36
  have e38 := e30.trans he36
  have e39 := e31.trans he36
  have e40 := e32.trans he36
  refine ⟨e39, ?_⟩
  obtain ⟨r41, hr42, h⟩ := bind_elim h
  refine TP_e rfl rfl (eff_call Try.func37 nm37 rfl (ev2 rfl rfl) (locate_unless_ok [] _ (LtL.nil _) (decide ((p_Listappend.Vanes.length : Int) ≤ 40)) 8 r41 hr42) ?_)
  rintro _ wd43 ⟨he44, rfl⟩
  have e45 := e37.trans he44
  have e46 := e38.trans he44
  have e47 := e39.trans he44
  have e48 := e40.trans he44
  refine ⟨e47, ?_⟩
  refine TP_e rfl rfl (eff_buildTC (xs := ([r25, r33, r41] : List Int)) (cells := [(.int .i64 r25), (.int .i64 r33), (.int .i64 r41)]) Try.underlying91 ei37 rfl (pc_cons rfl rfl (pc_cons rfl rfl (pc_cons rfl rfl pc_nil))) rfl (Elems.cons (cs := [(.int .i64 r25)]) rfl (Elems.cons (cs := [(.int .i64 r33)]) rfl (Elems.cons (cs := [(.int .i64 r41)]) rfl Elems.nil))) rfl (hL.chg e48) ?_)
  intro b52 wd49 he50 h51
  have e53 := e45.trans he50
  have e54 := e46.trans he50
  have e55 := e47.trans he50
  have e56 := e48.trans he50
  refine ⟨e55, ?_⟩
  obtain ⟨r58, hr59, h⟩ := bind_elim h
  refine TP_e rfl rfl (eff_call Try.func35 nm35 rfl (ev1 rfl) (locate_first_ok [] _ (LtL.nil _) (.slice (some ⟨b52, 0, none⟩) 3 3) ([r25, r33, r41] : List Int) (h51.sub (fun _ h => by cases h)) r58 hr59) ?_)
  rintro _ wd60 ⟨he61, rfl⟩
  have e62 := e53.trans he61
  have e63 := e54.trans he61
  have e64 := e55.trans he61
  have e65 := e56.trans he61
  refine ⟨e64, ?_⟩
  refine TP_p (v := (.int .i64 r58)) rfl rfl (fun w' => (yl_assign rfl)) ?_
  refine TP_done ?_
  refine hK13 _ _ ?_
  refine WC_seqK fun K66 hK66 => ?_
  refine WC_seqK fun K67 hK67 => ?_
  refine WC_region ?_
  refine T0_q (v := (.int .i64 r58)) rfl (yl_move rfl) ?_
  refine T0_q (v := (.bool (!decide (r58 = 0)))) rfl (yl_neq rfl rfl) ?_
  refine T0_nil ?_
  refine hK67 _ _ ?_
  refine WC_cond (b := (!decide (r58 = 0))) rfl (fun hb68 => ?_) (fun hb68 => ?_)
  · replace h := cond_t hb68 h
    refine WC_seqK fun K69 hK69 => ?_
    refine WC_region ?_
    refine T0_q (v := (.int .i64 r58)) rfl (yl_move rfl) ?_
    refine T0_q (v := (.int .i64 0)) rfl (yl_assign rfl) ?_
    refine T0_q (v := (.int .i64 r58)) rfl (yl_assign rfl) ?_
    refine T0_nil ?_
    refine hK69 _ _ ?_
    refine WC_ret ?_
    replace h := some_out h
    subst h
    exact ⟨[(.int .i64 0), (.int .i64 r58)], ⟨rfl, rfl, trivial⟩, e65, rfl⟩
  · replace h := cond_f hb68 h
    refine WC_skip ?_
    refine hK66 _ _ ?_
    refine WC_seqK fun K70 hK70 => ?_
    refine WC_seqK fun K71 hK71 => ?_
    refine WC_region ?_
    refine T0_q (v := (.pointer (some ⟨b5, 0, none⟩))) rfl (yl_fa 0 Try.underlying24 rfl rfl ⟨0, sz22⟩ rfl rfl) ?_
    refine T0_q (v := v1) rfl (yl_load sc22 rfl (Box.at (hB9.ext e63))) ?_
    obtain ⟨r72, hr73, h⟩ := bind_elim h
    refine T0_e rfl (eff_call Try.func55 nm55 rfl (ev2 rfl rfl) (slices_IndexFunc_int_56_ok [] _ (LtL.nil _) v1 p_Listappend.Vanes ((h2.ext e62).sub (fun _ h => by cases h)) r72 hr73) ?_)
    rintro _ wd74 ⟨he75, rfl⟩
    have e76 := e62.trans he75
    have e77 := he61.trans he75
    have e78 := e63.trans he75
    have e79 := e65.trans he75
    refine T0_q (v := (.int .i64 r72)) rfl (yl_assign rfl) ?_
    refine T0_nil ?_
    refine hK71 _ _ ?_
    refine WC_seqK fun K80 hK80 => ?_
    refine WC_region ?_
    refine T0_q (v := (.int .i64 r72)) rfl (yl_move rfl) ?_
    refine T0_q (v := (.bool (decide (0 ≤ r72)))) rfl (yl_geq rfl rfl) ?_
    refine T0_nil ?_
    refine hK80 _ _ ?_
    refine WC_cond (b := (decide (0 ≤ r72))) rfl (fun hb81 => ?_) (fun hb81 => ?_)
    · replace h := cond_t hb81 h
      refine WC_seqK fun K82 hK82 => ?_
      refine WC_region ?_
      refine T0_q (v := (.int .i64 r72)) rfl (yl_move rfl) ?_
      refine T0_q (v := (.int .i64 r72)) rfl (yl_assign rfl) ?_
      refine T0_q (v := (.int .i64 15)) rfl (yl_assign rfl) ?_
      refine T0_nil ?_
      refine hK82 _ _ ?_
      refine WC_ret ?_
      replace h := some_out h
      subst h
      exact ⟨[(.int .i64 r72), (.int .i64 15)], ⟨rfl, rfl, trivial⟩, e79, rfl⟩
    · replace h := cond_f hb81 h
      refine WC_skip ?_
      refine hK70 _ _ ?_
      refine WC_seqK fun K83 hK83 => ?_
      refine WC_region ?_
      refine T0_q (v := (.pointer (some ⟨b5, 2, none⟩))) rfl (yl_fa 2 Try.underlying24 rfl rfl ⟨0, sz3⟩ rfl rfl) ?_
      refine T0_q (v := (.int .i64 p_Listappend.Tooth)) rfl (yl_load sc3 rfl (At.drop (Box.at (hB9.ext e78)) 2)) ?_
      obtain ⟨r84, hr85, h⟩ := bind_elim h
      refine T0_e rfl (eff_call Try.func27 nm27 rfl (ev3 rfl rfl rfl) (locate_within_ok [] _ (LtL.nil _) p_Listappend.Tooth 1 1000 r84 hr85) ?_)
      rintro _ wd86 ⟨he87, rfl⟩
      have e88 := e76.trans he87
      have e89 := e77.trans he87
      have e90 := e78.trans he87
      have e91 := e79.trans he87
      refine T0_q (v := (.bool r84)) rfl (yl_move rfl) ?_
      refine T0_g (v := (.pointer (some ⟨b5, 3, none⟩))) r84 (wanted_t rfl rfl rfl rfl) (fun hg => (yl_fa 3 Try.underlying24 rfl rfl ⟨0, sz3⟩ rfl rfl)) ?_
      refine T0_g (v := (.int .i64 p_Listappend.PerVane)) r84 (wanted_t rfl rfl rfl rfl) (fun hg => (yl_load sc3 (gd_true hg) (At.drop (Box.at (hB9.ext e90)) 3))) ?_
      obtain ⟨r92, hr93, h⟩ := bind_elim h
      refine T0_ges r84 (.bool r92) (wanted_t rfl rfl rfl rfl) (fun hg => eff_call Try.func27 nm27 rfl (ev3 (gd_true hg) rfl rfl) (locate_within_ok [] _ (LtL.nil _) p_Listappend.PerVane 1 12 r92 (cond_t hg hr93)) (by rintro _ wd94 ⟨he95, rfl⟩; exact ⟨rfl, he95⟩)) ?_
      intro wd94 he95
      have e96 := e88.trans he95
      have e97 := e89.trans he95
      have e98 := e90.trans he95
      have e99 := e91.trans he95
      refine T0_q (v := (.bool (r84 && r92))) rfl (yl_and rfl (fun hb => (gd_true hb)) rfl) ?_
      refine T0_q (v := (.bool (r84 && r92))) rfl (yl_move rfl) ?_
      refine T0_g (v := (.pointer (some ⟨b5, 4, none⟩))) (r84 && r92) (wanted_t rfl rfl rfl rfl) (fun hg => (yl_fa 4 Try.underlying24 rfl rfl ⟨0, sz3⟩ rfl rfl)) ?_
      refine T0_g (v := (.int .i64 p_Listappend.First)) (r84 && r92) (wanted_t rfl rfl rfl rfl) (fun hg => (yl_load sc3 (gd_true hg) (At.drop (Box.at (hB9.ext e98)) 4))) ?_
      obtain ⟨r100, hr101, h⟩ := bind_elim h
      refine T0_ges (r84 && r92) (.bool r100) (wanted_t rfl rfl rfl rfl) (fun hg => eff_call Try.func27 nm27 rfl (ev3 (gd_true hg) rfl rfl) (locate_within_ok [] _ (LtL.nil _) p_Listappend.First 0 999000000 r100 (cond_t hg hr101)) (by rintro _ wd102 ⟨he103, rfl⟩; exact ⟨rfl, he103⟩)) ?_
      intro wd102 he103
      have e104 := e96.trans he103
      have e105 := e97.trans he103
      have e106 := e98.trans he103
      have e107 := e99.trans he103
      refine T0_q (v := (.bool ((r84 && r92) && r100))) rfl (yl_and rfl (fun hb => (gd_true hb)) rfl) ?_
      refine T0_q (v := (.bool ((r84 && r92) && r100))) rfl (yl_move rfl) ?_
      refine T0_g (v := (.pointer (some ⟨b5, 5, none⟩))) ((r84 && r92) && r100) (wanted_t rfl rfl rfl rfl) (fun hg => (yl_fa 5 Try.underlying24 rfl rfl ⟨0, sz3⟩ rfl rfl)) ?_
      refine T0_g (v := (.int .i64 p_Listappend.Modulus)) ((r84 && r92) && r100) (wanted_t rfl rfl rfl rfl) (fun hg => (yl_load sc3 (gd_true hg) (At.drop (Box.at (hB9.ext e106)) 5))) ?_
      obtain ⟨r108, hr109, h⟩ := bind_elim h
      refine T0_ges ((r84 && r92) && r100) (.bool r108) (wanted_t rfl rfl rfl rfl) (fun hg => eff_call Try.func27 nm27 rfl (ev3 (gd_true hg) rfl rfl) (locate_within_ok [] _ (LtL.nil _) p_Listappend.Modulus 1 1000 r108 (cond_t hg hr109)) (by rintro _ wd110 ⟨he111, rfl⟩; exact ⟨rfl, he111⟩)) ?_
      intro wd110 he111
      have e112 := e104.trans he111
      have e113 := e105.trans he111
      have e114 := e106.trans he111
      have e115 := e107.trans he111
      refine T0_q (v := (.bool (((r84 && r92) && r100) && r108))) rfl (yl_and rfl (fun hb => (gd_true hb)) rfl) ?_
      refine T0_q (v := (.bool (((r84 && r92) && r100) && r108))) rfl (yl_move rfl) ?_
      refine T0_g (v := (.pointer (some ⟨b5, 6, none⟩))) (((r84 && r92) && r100) && r108) (wanted_t rfl rfl rfl rfl) (fun hg => (yl_fa 6 Try.underlying24 rfl rfl ⟨0, sz3⟩ rfl rfl)) ?_
      refine T0_g (v := (.int .i64 p_Listappend.Slack)) (((r84 && r92) && r100) && r108) (wanted_t rfl rfl rfl rfl) (fun hg => (yl_load sc3 (gd_true hg) (At.drop (Box.at (hB9.ext e114)) 6))) ?_
      refine T0_g (v := (.pointer (some ⟨b5, 5, none⟩))) (((r84 && r92) && r100) && r108) (wanted_t rfl rfl rfl rfl) (fun hg => (yl_fa 5 Try.underlying24 rfl rfl ⟨0, sz3⟩ rfl rfl)) ?_
      refine T0_g (v := (.int .i64 p_Listappend.Modulus)) (((r84 && r92) && r100) && r108) (wanted_t rfl rfl rfl rfl) (fun hg => (yl_load sc3 (gd_true hg) (At.drop (Box.at (hB9.ext e114)) 5))) ?_
      obtain ⟨r116, hr117, h⟩ := bind_elim h
      refine T0_ges (((r84 && r92) && r100) && r108) (.bool r116) (wanted_t rfl rfl rfl rfl) (fun hg => eff_call Try.func27 nm27 rfl (ev3 (gd_true hg) rfl (gd_true hg)) (locate_within_ok [] _ (LtL.nil _) p_Listappend.Slack 0 p_Listappend.Modulus r116 (cond_t hg hr117)) (by rintro _ wd118 ⟨he119, rfl⟩; exact ⟨rfl, he119⟩)) ?_
      intro wd118 he119
      have e120 := e112.trans he119
      have e121 := e113.trans he119
      have e122 := e114.trans he119
      have e123 := e115.trans he119
      refine T0_q (v := (.bool ((((r84 && r92) && r100) && r108) && r116))) rfl (yl_and rfl (fun hb => (gd_true hb)) rfl) ?_
      refine T0_q (v := (.bool ((((r84 && r92) && r100) && r108) && r116))) rfl (yl_move rfl) ?_
      refine T0_g (v := (.pointer (some ⟨b5, 7, none⟩))) ((((r84 && r92) && r100) && r108) && r116) (wanted_t rfl rfl rfl rfl) (fun hg => (yl_fa 7 Try.underlying24 rfl rfl ⟨0, sz3⟩ rfl rfl)) ?_
      refine T0_g (v := (.int .i64 p_Listappend.Errors)) ((((r84 && r92) && r100) && r108) && r116) (wanted_t rfl rfl rfl rfl) (fun hg => (yl_load sc3 (gd_true hg) (At.drop (Box.at (hB9.ext e122)) 7))) ?_
      refine T0_g (v := (.pointer (some ⟨b5, 1, none⟩))) ((((r84 && r92) && r100) && r108) && r116) (wanted_t rfl rfl rfl rfl) (fun hg => (yl_fa 1 Try.underlying24 rfl rfl ⟨0, sz3⟩ rfl rfl)) ?_
      refine T0_g (v := (.int .i64 p_Listappend.Window)) ((((r84 && r92) && r100) && r108) && r116) (wanted_t rfl rfl rfl rfl) (fun hg => (yl_load sc3 (gd_true hg) (At.drop (Box.at (hB9.ext e122)) 1))) ?_
      obtain ⟨r124, hr125, h⟩ := bind_elim h
      refine T0_ges ((((r84 && r92) && r100) && r108) && r116) (.bool r124) (wanted_t rfl rfl rfl rfl) (fun hg => eff_call Try.func27 nm27 rfl (ev3 (gd_true hg) rfl (gd_true hg)) (locate_within_ok [] _ (LtL.nil _) p_Listappend.Errors 0 p_Listappend.Window r124 (cond_t hg hr125)) (by rintro _ wd126 ⟨he127, rfl⟩; exact ⟨rfl, he127⟩)) ?_
      intro wd126 he127
      have e128 := e120.trans he127
      have e129 := e121.trans he127
      have e130 := e122.trans he127
      have e131 := e123.trans he127
      refine T0_q (v := (.bool (((((r84 && r92) && r100) && r108) && r116) && r124))) rfl (yl_and rfl (fun hb => (gd_true hb)) rfl) ?_
      refine T0_q (v := (.bool (((((r84 && r92) && r100) && r108) && r116) && r124))) rfl (yl_assign rfl) ?_
      refine T0_nil ?_
      refine hK83 _ _ ?_
      refine WC_seqK fun K132 hK132 => ?_
      refine WC_region ?_
      refine T0_q (v := (.bool (((((r84 && r92) && r100) && r108) && r116) && r124))) rfl (yl_move rfl) ?_
      obtain ⟨r133, hr134, h⟩ := bind_elim h
      refine T0_e rfl (eff_call Try.func37 nm37 rfl (ev2 rfl rfl) (locate_unless_ok [] _ (LtL.nil _) (((((r84 && r92) && r100) && r108) && r116) && r124) 2 r133 hr134) ?_)
      rintro _ wd135 ⟨he136, rfl⟩
      have e137 := e128.trans he136
      have e138 := e129.trans he136
      have e139 := e130.trans he136
      have e140 := e131.trans he136
      refine T0_q (v := (.int .i64 0)) rfl (yl_assign rfl) ?_
      refine T0_q (v := (.int .i64 r133)) rfl (yl_assign rfl) ?_
      refine T0_nil ?_
      refine hK132 _ _ ?_
      refine WC_ret ?_
      replace h := some_out h
      subst h
      exact ⟨[(.int .i64 0), (.int .i64 r133)], ⟨rfl, rfl, trivial⟩, e140, rfl⟩

noncomputable def locate_open_spec (p_t : LocateTrack) : Option (locate_track × Int) :=
  (Option.bind (locate_CheckTrack_spec p_t) fun r24 =>
  some ((locate_track.mk p_t), r24.2)
  )
theorem locate_open_ok (L : List Value) (w : World) (hL : LtL L w) (cs_p_t : List Value) (p_t : LocateTrack) (h_p_t : Rep.rd L w cs_p_t p_t) (r : locate_track × Int) (h : locate_open_spec p_t = some r) :
    CallsTo Try.prog 26 [(.agg cs_p_t.toArray)] w (fun v w' => Ext w w' ∧ ∃ (cs0 : List Value), (.tuple #[(.agg cs0.toArray), (.int .i64 r.2)]) = v ∧ Rep.rd L w' cs0 r.1) := by
  have e0 : Ext w w := Chg.refl _ _
  obtain ⟨v1, h2, rfl⟩ := h_p_t
  refine callsTo_of_WC (n := 14) (rs := [.cell 2 68, .tmp 3]) Try.func26 rfl rfl rfl rfl rfl ?_
  refine WC_seqK fun K4 hK4 => ?_
  refine WC_region ?_
  refine T0_e rfl (eff_boxC (cs := [v1, (.int .i64 p_t.Window), (.int .i64 p_t.Tooth), (.int .i64 p_t.PerVane), (.int .i64 p_t.First), (.int .i64 p_t.Modulus), (.int .i64 p_t.Slack), (.int .i64 p_t.Errors), (.bool p_t.Round)]) rfl rfl ?_)
  intro b5 wd6 hb7 he8 hB9
  have hbf10 := bfresh e0 hb7
  have e11 := e0.trans he8
  refine T0_e rfl (eff_allocZ zi68 ?_)
  intro b13 wd14 hb15 he16 hB17
  have hn18 : b13 ≠ b5 := box_ne hB9 hb15
  have hbf19 := bfresh e11 hb15
  have h20 := (h2.ext he8).step (add_box he16 hb15)
  have e21 := e11.trans he16
  refine T0_q (v := (.int .i64 0)) rfl (yl_assign rfl) ?_
  refine T0_nil ?_
  refine hK4 _ _ ?_
  refine WC_seqK fun K23 hK23 => ?_
  refine WC_region ?_
  refine T0_q (v := (.agg (List.toArray [v1, (.int .i64 p_t.Window), (.int .i64 p_t.Tooth), (.int .i64 p_t.PerVane), (.int .i64 p_t.First), (.int .i64 p_t.Modulus), (.int .i64 p_t.Slack), (.int .i64 p_t.Errors), (.bool p_t.Round)]))) rfl (yl_loadA (cs := [v1, (.int .i64 p_t.Window), (.int .i64 p_t.Tooth), (.int .i64 p_t.PerVane), (.int .i64 p_t.First), (.int .i64 p_t.Modulus), (.int .i64 p_t.Slack), (.int .i64 p_t.Errors), (.bool p_t.Round)]) ag24 rfl (Box.at (hB9.ext he16))) ?_
  obtain ⟨r24, hr25, h⟩ := bind_elim h
  refine T0_e rfl (eff_call Try.func45 nm45 rfl (ev1 rfl) (locate_CheckTrack_ok [] _ (LtL.nil _) [v1, (.int .i64 p_t.Window), (.int .i64 p_t.Tooth), (.int .i64 p_t.PerVane), (.int .i64 p_t.First), (.int .i64 p_t.Modulus), (.int .i64 p_t.Slack), (.int .i64 p_t.Errors), (.bool p_t.Round)] p_t ⟨v1, (h20.sub (fun _ h => by cases h)), rfl⟩ r24 hr25) ?_)
  rintro _ wd26 ⟨he27, rfl⟩
  have e28 := he16.trans he27
  have e29 := e21.trans he27
  refine T0_q (v := (.tuple #[(.int .i64 r24.1), (.int .i64 r24.2)])) rfl (yl_move rfl) ?_
  refine T0_q (v := (.int .i64 r24.1)) rfl (yl_extract rfl rfl) ?_
  refine T0_q (v := (.int .i64 r24.2)) rfl (yl_extract rfl rfl) ?_
  refine T0_q (v := (.int .i64 r24.1)) rfl (yl_assign rfl) ?_
  refine T0_q (v := (.int .i64 r24.2)) rfl (yl_assign rfl) ?_
  refine T0_nil ?_
  refine hK23 _ _ ?_
  refine WC_seqK fun K30 hK30 => ?_
  refine WC_region ?_
  refine T0_q (v := (.agg (List.toArray [v1, (.int .i64 p_t.Window), (.int .i64 p_t.Tooth), (.int .i64 p_t.PerVane), (.int .i64 p_t.First), (.int .i64 p_t.Modulus), (.int .i64 p_t.Slack), (.int .i64 p_t.Errors), (.bool p_t.Round)]))) rfl (yl_loadA (cs := [v1, (.int .i64 p_t.Window), (.int .i64 p_t.Tooth), (.int .i64 p_t.PerVane), (.int .i64 p_t.First), (.int .i64 p_t.Modulus), (.int .i64 p_t.Slack), (.int .i64 p_t.Errors), (.bool p_t.Round)]) ag24 rfl (Box.at (hB9.ext e28))) ?_
  refine T0_q (v := (.agg (List.toArray [v1, (.int .i64 p_t.Window), (.int .i64 p_t.Tooth), (.int .i64 p_t.PerVane), (.int .i64 p_t.First), (.int .i64 p_t.Modulus), (.int .i64 p_t.Slack), (.int .i64 p_t.Errors), (.bool p_t.Round)]))) rfl (yl_buildC (cells := [v1, (.int .i64 p_t.Window), (.int .i64 p_t.Tooth), (.int .i64 p_t.PerVane), (.int .i64 p_t.First), (.int .i64 p_t.Modulus), (.int .i64 p_t.Slack), (.int .i64 p_t.Errors), (.bool p_t.Round)]) bi68 (pc_cons rfl rfl pc_nil) rfl) ?_
  refine T0_q (v := (.int .i64 r24.2)) rfl (yl_move rfl) ?_
  refine T0_e rfl (eff_storeC (vs := [v1, (.int .i64 p_t.Window), (.int .i64 p_t.Tooth), (.int .i64 p_t.PerVane), (.int .i64 p_t.First), (.int .i64 p_t.Modulus), (.int .i64 p_t.Slack), (.int .i64 p_t.Errors), (.bool p_t.Round)]) (cs' := [v1, (.int .i64 p_t.Window), (.int .i64 p_t.Tooth), (.int .i64 p_t.PerVane), (.int .i64 p_t.First), (.int .i64 p_t.Modulus), (.int .i64 p_t.Slack), (.int .i64 p_t.Errors), (.bool p_t.Round)]) sz68 rfl rfl rfl rfl (hB17.ext he27) rfl (oc_cons h20.one1 (oc_cons rfl (oc_cons rfl (oc_cons rfl (oc_cons rfl (oc_cons rfl (oc_cons rfl (oc_cons rfl (oc_cons rfl oc_nil))))))))) rfl ?_)
  intro wd31 hc32 hB33
  have h34 := (h20.ext he27).step (Stepp.chg_mem hc32 mem0)
  have h35 := (hB9.ext e28).chg hc32 (avoidb hn18)
  have e36 := chg_box e29 hc32 hbf19
  refine T0_q (v := (.int .i64 r24.2)) rfl (yl_assign rfl) ?_
  refine T0_nil ?_
  refine hK30 _ _ ?_
  refine WC_ret ?_
  replace h := some_out h
  subst h
  exact ⟨[(.agg (List.toArray [v1, (.int .i64 p_t.Window), (.int .i64 p_t.Tooth), (.int .i64 p_t.PerVane), (.int .i64 p_t.First), (.int .i64 p_t.Modulus), (.int .i64 p_t.Slack), (.int .i64 p_t.Errors), (.bool p_t.Round)])), (.int .i64 r24.2)], ⟨⟨_, rfl, run_loadVarA (cs := [v1, (.int .i64 p_t.Window), (.int .i64 p_t.Tooth), (.int .i64 p_t.PerVane), (.int .i64 p_t.First), (.int .i64 p_t.Modulus), (.int .i64 p_t.Slack), (.int .i64 p_t.Errors), (.bool p_t.Round)]) ag68 (Box.at hB33)⟩, rfl, trivial⟩, e36, [v1, (.int .i64 p_t.Window), (.int .i64 p_t.Tooth), (.int .i64 p_t.PerVane), (.int .i64 p_t.First), (.int .i64 p_t.Modulus), (.int .i64 p_t.Slack), (.int .i64 p_t.Errors), (.bool p_t.Round)], rfl, ⟨v1, (h34.sub (sub_skip (sub_refl _))), rfl⟩⟩

noncomputable def locate_PlacesOf_spec (p_t : LocateTrack) (p_tooth : Int) : Option (Range × Int) :=
  (Option.bind (locate_open_spec p_t) fun r24 =>
  (bif (!decide (r24.2 = 0)) then (
    some ((Range.mk 0 0), r24.2)
  ) else (
    (Option.bind (locate_track_teeth_spec (locate_track.mk (LocateTrack.mk r24.1.LocateTrack.Vanes r24.1.LocateTrack.Window r24.1.LocateTrack.Tooth r24.1.LocateTrack.PerVane r24.1.LocateTrack.First r24.1.LocateTrack.Modulus r24.1.LocateTrack.Slack r24.1.LocateTrack.Errors r24.1.LocateTrack.Round))) fun r71 =>
    (Option.bind (locate_within_spec p_tooth 0 (w64 (r71 - 1))) fun r76 =>
    (bif (!r76) then (
      some ((Range.mk 0 0), 6)
    ) else (
      (Option.bind (locate_track_places_spec (locate_track.mk (LocateTrack.mk r24.1.LocateTrack.Vanes r24.1.LocateTrack.Window r24.1.LocateTrack.Tooth r24.1.LocateTrack.PerVane r24.1.LocateTrack.First r24.1.LocateTrack.Modulus r24.1.LocateTrack.Slack r24.1.LocateTrack.Errors r24.1.LocateTrack.Round)) p_tooth p_tooth) fun r93 =>
      some (r93, 0)
      )
    ))
    )
    )
  ))
  )
theorem locate_PlacesOf_ok (L : List Value) (w : World) (hL : LtL L w) (cs_p_t : List Value) (p_t : LocateTrack) (h_p_t : Rep.rd L w cs_p_t p_t) (p_tooth : Int) (r : Range × Int) (h : locate_PlacesOf_spec p_t p_tooth = some r) :
    CallsTo Try.prog 9 [(.agg cs_p_t.toArray), (.int .i64 p_tooth)] w (fun v w' => Ext w w' ∧ ∃ (cs0 : List Value), (.tuple #[(.agg cs0.toArray), (.int .i64 r.2)]) = v ∧ Rep.rd L w' cs0 r.1) := by
  have e0 : Ext w w := Chg.refl _ _
  obtain ⟨v1, h2, rfl⟩ := h_p_t
  refine callsTo_of_WC (n := 28) (rs := [.cell 4 35, .tmp 5]) Try.func9 rfl rfl rfl rfl rfl ?_
  refine WC_seqK fun K4 hK4 => ?_
  refine WC_region ?_
  refine T0_e rfl (eff_boxC (cs := [v1, (.int .i64 p_t.Window), (.int .i64 p_t.Tooth), (.int .i64 p_t.PerVane), (.int .i64 p_t.First), (.int .i64 p_t.Modulus), (.int .i64 p_t.Slack), (.int .i64 p_t.Errors), (.bool p_t.Round)]) rfl rfl ?_)
  intro b5 wd6 hb7 he8 hB9
  have hbf10 := bfresh e0 hb7
  have e11 := e0.trans he8
  refine T0_e rfl (eff_allocZ zi35 ?_)
  intro b13 wd14 hb15 he16 hB17
  have hn18 : b13 ≠ b5 := box_ne hB9 hb15
  have hbf19 := bfresh e11 hb15
  have h20 := (h2.ext he8).step (add_box he16 hb15)
  have e21 := e11.trans he16
  refine T0_q (v := (.int .i64 0)) rfl (yl_assign rfl) ?_
  refine T0_nil ?_
  refine hK4 _ _ ?_
  refine WC_seqK fun K23 hK23 => ?_
  refine WC_region ?_
  refine T0_q (v := (.agg (List.toArray [v1, (.int .i64 p_t.Window), (.int .i64 p_t.Tooth), (.int .i64 p_t.PerVane), (.int .i64 p_t.First), (.int .i64 p_t.Modulus), (.int .i64 p_t.Slack), (.int .i64 p_t.Errors), (.bool p_t.Round)]))) rfl (yl_loadA (cs := [v1, (.int .i64 p_t.Window), (.int .i64 p_t.Tooth), (.int .i64 p_t.PerVane), (.int .i64 p_t.First), (.int .i64 p_t.Modulus), (.int .i64 p_t.Slack), (.int .i64 p_t.Errors), (.bool p_t.Round)]) ag24 rfl (Box.at (hB9.ext he16))) ?_
  obtain ⟨r24, hr25, h⟩ := bind_elim h
  refine T0_e rfl (eff_call Try.func26 nm26 rfl (ev1 rfl) (locate_open_ok ((.pointer (some ⟨b13, 0, none⟩)) :: L) _ (ltl_box (hL.chg e21) hB17) [v1, (.int .i64 p_t.Window), (.int .i64 p_t.Tooth), (.int .i64 p_t.PerVane), (.int .i64 p_t.First), (.int .i64 p_t.Modulus), (.int .i64 p_t.Slack), (.int .i64 p_t.Errors), (.bool p_t.Round)] p_t ⟨v1, h20, rfl⟩ r24 hr25) ?_)
  rintro _ wd26 ⟨he27, cs30, rfl, hrd31⟩
  have e32 := he16.trans he27
  have e33 := e21.trans he27
  obtain ⟨v28, h29, rfl⟩ := hrd31
  refine T0_q (v := (.tuple #[(.agg (List.toArray [v28, (.int .i64 r24.1.LocateTrack.Window), (.int .i64 r24.1.LocateTrack.Tooth), (.int .i64 r24.1.LocateTrack.PerVane), (.int .i64 r24.1.LocateTrack.First), (.int .i64 r24.1.LocateTrack.Modulus), (.int .i64 r24.1.LocateTrack.Slack), (.int .i64 r24.1.LocateTrack.Errors), (.bool r24.1.LocateTrack.Round)])), (.int .i64 r24.2)])) rfl (yl_move rfl) ?_
  refine T0_q (v := (.agg (List.toArray [v28, (.int .i64 r24.1.LocateTrack.Window), (.int .i64 r24.1.LocateTrack.Tooth), (.int .i64 r24.1.LocateTrack.PerVane), (.int .i64 r24.1.LocateTrack.First), (.int .i64 r24.1.LocateTrack.Modulus), (.int .i64 r24.1.LocateTrack.Slack), (.int .i64 r24.1.LocateTrack.Errors), (.bool r24.1.LocateTrack.Round)]))) rfl (yl_extract rfl rfl) ?_
  refine T0_q (v := (.int .i64 r24.2)) rfl (yl_extract rfl rfl) ?_
  refine T0_e rfl (eff_allocZ zi68 ?_)
  intro b35 wd36 hb37 he38 hB39
  have hn40 : b35 ≠ b5 := box_ne (hB9.ext e32) hb37
  have hn41 : b35 ≠ b13 := box_ne (hB17.ext he27) hb37
  have hbf42 := bfresh e33 hb37
  have h43 := (h20.ext he27).step (add_box he38 hb37)
  have h44 := h29.step (add_box he38 hb37)
  have e45 := he27.trans he38
  have e46 := e32.trans he38
  have e47 := e33.trans he38
  refine T0_e rfl (eff_storeC (vs := [v28, (.int .i64 r24.1.LocateTrack.Window), (.int .i64 r24.1.LocateTrack.Tooth), (.int .i64 r24.1.LocateTrack.PerVane), (.int .i64 r24.1.LocateTrack.First), (.int .i64 r24.1.LocateTrack.Modulus), (.int .i64 r24.1.LocateTrack.Slack), (.int .i64 r24.1.LocateTrack.Errors), (.bool r24.1.LocateTrack.Round)]) (cs' := [v28, (.int .i64 r24.1.LocateTrack.Window), (.int .i64 r24.1.LocateTrack.Tooth), (.int .i64 r24.1.LocateTrack.PerVane), (.int .i64 r24.1.LocateTrack.First), (.int .i64 r24.1.LocateTrack.Modulus), (.int .i64 r24.1.LocateTrack.Slack), (.int .i64 r24.1.LocateTrack.Errors), (.bool r24.1.LocateTrack.Round)]) sz68 rfl rfl rfl rfl hB39 rfl (oc_cons h44.one1 (oc_cons rfl (oc_cons rfl (oc_cons rfl (oc_cons rfl (oc_cons rfl (oc_cons rfl (oc_cons rfl (oc_cons rfl oc_nil))))))))) rfl ?_)
  intro wd49 hc50 hB51
  have h52 := h43.step (Stepp.chg_mem hc50 mem0)
  have h53 := (hB9.ext e46).chg hc50 (avoidb hn40)
  have h54 := (hB17.ext e45).chg hc50 (avoidb hn41)
  have h55 := h44.step (Stepp.chg_mem hc50 mem0)
  have e56 := chg_box e47 hc50 hbf42
  refine T0_q (v := (.int .i64 r24.2)) rfl (yl_assign rfl) ?_
  refine T0_nil ?_
  refine hK23 _ _ ?_
  refine WC_seqK fun K57 hK57 => ?_
  refine WC_seqK fun K58 hK58 => ?_
  refine WC_region ?_
  refine T0_q (v := (.int .i64 r24.2)) rfl (yl_move rfl) ?_
  refine T0_q (v := (.bool (!decide (r24.2 = 0)))) rfl (yl_neq rfl rfl) ?_
  refine T0_nil ?_
  refine hK58 _ _ ?_
  refine WC_cond (b := (!decide (r24.2 = 0))) rfl (fun hb59 => ?_) (fun hb59 => ?_)
  · replace h := cond_t hb59 h
    refine WC_seqK fun K60 hK60 => ?_
    refine WC_region ?_
    refine T0_q (v := (.agg (List.toArray [(.int .i64 0), (.int .i64 0)]))) rfl (yl_buildC (cells := [(.int .i64 0), (.int .i64 0)]) bi35 pc_nil rfl) ?_
    refine T0_q (v := (.int .i64 r24.2)) rfl (yl_move rfl) ?_
    refine T0_e rfl (eff_storeC (vs := [(.int .i64 0), (.int .i64 0)]) (cs' := [(.int .i64 0), (.int .i64 0)]) sz35 rfl rfl rfl rfl h54 rfl (oc_cons rfl (oc_cons rfl oc_nil)) rfl ?_)
    intro wd61 hc62 hB63
    have h64 := h52.step (Stepp.chg_mem hc62 (memS mem0))
    have h65 := h53.chg hc62 (avoidb hn18)
    have h66 := h55.step (Stepp.chg_mem hc62 (memS mem0))
    have h67 := hB51.chg hc62 (avoidb hn41.symm)
    have e68 := chg_box e56 hc62 hbf19
    refine T0_q (v := (.int .i64 r24.2)) rfl (yl_assign rfl) ?_
    refine T0_nil ?_
    refine hK60 _ _ ?_
    refine WC_ret ?_
    replace h := some_out h
    subst h
    exact ⟨[(.agg (List.toArray [(.int .i64 0), (.int .i64 0)])), (.int .i64 r24.2)], ⟨⟨_, rfl, run_loadVarA (cs := [(.int .i64 0), (.int .i64 0)]) ag35 (Box.at hB63)⟩, rfl, trivial⟩, e68, [(.int .i64 0), (.int .i64 0)], rfl, rfl⟩
  · replace h := cond_f hb59 h
    refine WC_skip ?_
    refine hK57 _ _ ?_
    refine WC_seqK fun K69 hK69 => ?_
    refine WC_seqK fun K70 hK70 => ?_
    refine WC_region ?_
    refine T0_q (v := (.int .i64 p_tooth)) rfl (yl_move rfl) ?_
    refine T0_q (v := (.agg (List.toArray [v28, (.int .i64 r24.1.LocateTrack.Window), (.int .i64 r24.1.LocateTrack.Tooth), (.int .i64 r24.1.LocateTrack.PerVane), (.int .i64 r24.1.LocateTrack.First), (.int .i64 r24.1.LocateTrack.Modulus), (.int .i64 r24.1.LocateTrack.Slack), (.int .i64 r24.1.LocateTrack.Errors), (.bool r24.1.LocateTrack.Round)]))) rfl (yl_loadA (cs := [v28, (.int .i64 r24.1.LocateTrack.Window), (.int .i64 r24.1.LocateTrack.Tooth), (.int .i64 r24.1.LocateTrack.PerVane), (.int .i64 r24.1.LocateTrack.First), (.int .i64 r24.1.LocateTrack.Modulus), (.int .i64 r24.1.LocateTrack.Slack), (.int .i64 r24.1.LocateTrack.Errors), (.bool r24.1.LocateTrack.Round)]) ag68 rfl (Box.at hB51)) ?_
    obtain ⟨r71, hr72, h⟩ := bind_elim h
    refine T0_e rfl (eff_call Try.func28 nm28 rfl (ev1 rfl) (locate_track_teeth_ok [] _ (LtL.nil _) [v28, (.int .i64 r24.1.LocateTrack.Window), (.int .i64 r24.1.LocateTrack.Tooth), (.int .i64 r24.1.LocateTrack.PerVane), (.int .i64 r24.1.LocateTrack.First), (.int .i64 r24.1.LocateTrack.Modulus), (.int .i64 r24.1.LocateTrack.Slack), (.int .i64 r24.1.LocateTrack.Errors), (.bool r24.1.LocateTrack.Round)] (locate_track.mk (LocateTrack.mk r24.1.LocateTrack.Vanes r24.1.LocateTrack.Window r24.1.LocateTrack.Tooth r24.1.LocateTrack.PerVane r24.1.LocateTrack.First r24.1.LocateTrack.Modulus r24.1.LocateTrack.Slack r24.1.LocateTrack.Errors r24.1.LocateTrack.Round)) ⟨v28, (h55.sub (fun _ h => by cases h)), rfl⟩ r71 hr72) ?_)
    rintro _ wd73 ⟨he74, rfl⟩
    have e75 := e56.trans he74
    refine T0_q (v := (.int .i64 (w64 (r71 - 1)))) rfl (yl_sub rfl rfl) ?_
    obtain ⟨r76, hr77, h⟩ := bind_elim h
    refine T0_e rfl (eff_call Try.func27 nm27 rfl (ev3 rfl rfl rfl) (locate_within_ok [] _ (LtL.nil _) p_tooth 0 (w64 (r71 - 1)) r76 hr77) ?_)
    rintro _ wd78 ⟨he79, rfl⟩
    have e80 := he74.trans he79
    have e81 := e75.trans he79
    refine T0_q (v := (.bool (!r76))) rfl (yl_not rfl) ?_
    refine T0_nil ?_
    refine hK70 _ _ ?_
    refine WC_cond (b := (!r76)) rfl (fun hb82 => ?_) (fun hb82 => ?_)
    · replace h := cond_t hb82 h
      refine WC_seqK fun K83 hK83 => ?_
      refine WC_region ?_
      refine T0_q (v := (.agg (List.toArray [(.int .i64 0), (.int .i64 0)]))) rfl (yl_buildC (cells := [(.int .i64 0), (.int .i64 0)]) bi35 pc_nil rfl) ?_
      refine T0_e rfl (eff_storeC (vs := [(.int .i64 0), (.int .i64 0)]) (cs' := [(.int .i64 0), (.int .i64 0)]) sz35 rfl rfl rfl rfl (h54.ext e80) rfl (oc_cons rfl (oc_cons rfl oc_nil)) rfl ?_)
      intro wd84 hc85 hB86
      have h87 := (h52.ext e80).step (Stepp.chg_mem hc85 (memS mem0))
      have h88 := (h53.ext e80).chg hc85 (avoidb hn18)
      have h89 := (h55.ext e80).step (Stepp.chg_mem hc85 (memS mem0))
      have h90 := (hB51.ext e80).chg hc85 (avoidb hn41.symm)
      have e91 := chg_box e81 hc85 hbf19
      refine T0_q (v := (.int .i64 6)) rfl (yl_assign rfl) ?_
      refine T0_nil ?_
      refine hK83 _ _ ?_
      refine WC_ret ?_
      replace h := some_out h
      subst h
      exact ⟨[(.agg (List.toArray [(.int .i64 0), (.int .i64 0)])), (.int .i64 6)], ⟨⟨_, rfl, run_loadVarA (cs := [(.int .i64 0), (.int .i64 0)]) ag35 (Box.at hB86)⟩, rfl, trivial⟩, e91, [(.int .i64 0), (.int .i64 0)], rfl, rfl⟩
    · replace h := cond_f hb82 h
      refine WC_skip ?_
      refine hK69 _ _ ?_
      refine WC_seqK fun K92 hK92 => ?_
      refine WC_region ?_
      refine T0_q (v := (.agg (List.toArray [v28, (.int .i64 r24.1.LocateTrack.Window), (.int .i64 r24.1.LocateTrack.Tooth), (.int .i64 r24.1.LocateTrack.PerVane), (.int .i64 r24.1.LocateTrack.First), (.int .i64 r24.1.LocateTrack.Modulus), (.int .i64 r24.1.LocateTrack.Slack), (.int .i64 r24.1.LocateTrack.Errors), (.bool r24.1.LocateTrack.Round)]))) rfl (yl_loadA (cs := [v28, (.int .i64 r24.1.LocateTrack.Window), (.int .i64 r24.1.LocateTrack.Tooth), (.int .i64 r24.1.LocateTrack.PerVane), (.int .i64 r24.1.LocateTrack.First), (.int .i64 r24.1.LocateTrack.Modulus), (.int .i64 r24.1.LocateTrack.Slack), (.int .i64 r24.1.LocateTrack.Errors), (.bool r24.1.LocateTrack.Round)]) ag68 rfl (Box.at (hB51.ext e80))) ?_
      refine T0_q (v := (.int .i64 p_tooth)) rfl (yl_move rfl) ?_
      refine T0_q (v := (.int .i64 p_tooth)) rfl (yl_move rfl) ?_
      obtain ⟨r93, hr94, h⟩ := bind_elim h
      refine T0_e rfl (eff_call Try.func29 nm29 rfl (ev3 rfl rfl rfl) (locate_track_places_ok [] _ (LtL.nil _) [v28, (.int .i64 r24.1.LocateTrack.Window), (.int .i64 r24.1.LocateTrack.Tooth), (.int .i64 r24.1.LocateTrack.PerVane), (.int .i64 r24.1.LocateTrack.First), (.int .i64 r24.1.LocateTrack.Modulus), (.int .i64 r24.1.LocateTrack.Slack), (.int .i64 r24.1.LocateTrack.Errors), (.bool r24.1.LocateTrack.Round)] (locate_track.mk (LocateTrack.mk r24.1.LocateTrack.Vanes r24.1.LocateTrack.Window r24.1.LocateTrack.Tooth r24.1.LocateTrack.PerVane r24.1.LocateTrack.First r24.1.LocateTrack.Modulus r24.1.LocateTrack.Slack r24.1.LocateTrack.Errors r24.1.LocateTrack.Round)) ⟨v28, ((h55.ext e80).sub (fun _ h => by cases h)), rfl⟩ p_tooth p_tooth r93 hr94) ?_)
      rintro _ wd95 ⟨he96, cs97, rfl, hrd98⟩
      have e99 := e80.trans he96
      have e100 := e81.trans he96
      have hrd98 : cs97 = [(.int .i64 r93.Lo), (.int .i64 r93.Hi)] := hrd98
      subst hrd98
      refine T0_e rfl (eff_storeC (vs := [(.int .i64 r93.Lo), (.int .i64 r93.Hi)]) (cs' := [(.int .i64 r93.Lo), (.int .i64 r93.Hi)]) sz35 rfl rfl rfl rfl (h54.ext e99) rfl (oc_cons rfl (oc_cons rfl oc_nil)) rfl ?_)
      intro wd101 hc102 hB103
      have h104 := (h52.ext e99).step (Stepp.chg_mem hc102 (memS mem0))
      have h105 := (h53.ext e99).chg hc102 (avoidb hn18)
      have h106 := (h55.ext e99).step (Stepp.chg_mem hc102 (memS mem0))
      have h107 := (hB51.ext e99).chg hc102 (avoidb hn41.symm)
      have e108 := chg_box e100 hc102 hbf19
      refine T0_q (v := (.int .i64 0)) rfl (yl_assign rfl) ?_
      refine T0_nil ?_
      refine hK92 _ _ ?_
      refine WC_ret ?_
      replace h := some_out h
      subst h
      exact ⟨[(.agg (List.toArray [(.int .i64 r93.Lo), (.int .i64 r93.Hi)])), (.int .i64 0)], ⟨⟨_, rfl, run_loadVarA (cs := [(.int .i64 r93.Lo), (.int .i64 r93.Hi)]) ag35 (Box.at hB103)⟩, rfl, trivial⟩, e108, [(.int .i64 r93.Lo), (.int .i64 r93.Hi)], rfl, rfl⟩

noncomputable def slices_IndexFunc_int_59_s0 (p_s : (List Int)) : (Int) → Option ((Int) ⊕ (Int ⊕ (Unit))) := fun x91 =>
  (bif (decide (x91 < (p_s.length : Int))) then (
    (Option.bind (idx p_s x91) fun el109 =>
    (Option.bind (locate_openSeen_1_spec el109) fun r115 =>
    (bif r115 then (
      some (.inr (.inl x91))
    ) else (
      some (.inl (w64 (x91 + 1)))
    ))
    )
    )
  ) else (
    some (.inr (.inr ()))
  ))
noncomputable def slices_IndexFunc_int_59_spec (p_s : (List Int)) : Option Int :=
  (Option.bind (loop (slices_IndexFunc_int_59_s0 p_s) 0) fun o95 => jn0 o95 fun (_ : Unit) =>
  some (-1)
  )
theorem slices_IndexFunc_int_59_ok (L : List Value) (w : World) (hL : LtL L w) (v_p_s : Value) (p_s : (List Int)) (h_p_s : SlRd L w v_p_s p_s) (r : Int) (h : slices_IndexFunc_int_59_spec p_s = some r) :
    CallsTo Try.prog 55 [v_p_s, (.func (.func 59) #[] #[])] w (fun v w' => Ext w w' ∧ (.int .i64 r) = v) := by
  have e0 : Ext w w := Chg.refl _ _
  refine callsTo_of_WC (n := 19) (rs := [.tmp 4]) Try.func55 rfl rfl rfl rfl rfl ?_
  refine WC_seqK fun K2 hK2 => ?_
  refine WC_region ?_
  refine T0_q (v := (.int .i64 0)) rfl (yl_assign rfl) ?_
  refine T0_nil ?_
  refine hK2 _ _ ?_
  refine WC_seqK fun K3 hK3 => ?_
  refine WC_seqK fun K4 hK4 => ?_
  refine WC_region ?_
  refine T0_q (v := v_p_s) rfl (yl_move rfl) ?_
  refine T0_q (v := (.int .i64 (p_s.length : Int))) rfl (yl_lenR rfl Try.underlying22 h_p_s rfl) ?_
  refine T0_q (v := (.int .i64 0)) rfl (yl_move rfl) ?_
  refine T0_nil ?_
  refine hK4 _ _ ?_
  obtain ⟨o95, hl96, hn97⟩ := bind_elim h
  refine WC_post (fun (ρ : Env) (wd93 : World) => .inr () = o95 ∧ Ext w wd93) ?_ ?_
  · intro K101 hK101
    refine WC_block ?_
    refine WC_loopk (fun sv ρ wd85 => ∃ (x91 : Int), x91 = sv ∧ ρ 0 = v_p_s ∧ ρ 1 = (.func (.func 59) #[] #[]) ∧ ρ 7 = (.int .i64 (p_s.length : Int)) ∧ ρ 8 = (.int .i64 x91) ∧ SlRd L wd85 v_p_s p_s ∧ Ext w wd85) hl96 ⟨0, rfl, rfl, rfl, rfl, rfl, h_p_s, e0⟩ ?_
    rintro _ ρ wd85 ⟨x91, rfl, hs88, hs89, hs90, hs92, h87, e86⟩ x98 h hx99 K100 hK100
    refine WC_seqK fun K103 hK103 => ?_
    refine WC_region ?_
    refine T0_q (v := (.bool (decide (x91 < (p_s.length : Int))))) rfl (yl_lss hs92 hs90) ?_
    refine T0_nil ?_
    refine hK103 _ _ ?_
    refine WC_seqK fun K104 hK104 => ?_
    refine WC_cond (b := (decide (x91 < (p_s.length : Int)))) rfl (fun hb105 => ?_) (fun hb105 => ?_)
    · replace h := cond_t hb105 h
      refine WC_skip ?_
      refine hK104 _ _ ?_
      refine WC_seqK fun K106 hK106 => ?_
      refine WC_block ?_
      refine WC_seqK fun K107 hK107 => ?_
      refine WC_region ?_
      refine T0_q (v := (.int .i64 x91)) rfl (yl_move hs92) ?_
      refine T0_q (v := (.int .i64 x91)) rfl (yl_assign rfl) ?_
      refine T0_nil ?_
      refine hK107 _ _ ?_
      refine WC_seqK fun K108 hK108 => ?_
      refine WC_region ?_
      refine T0_q (v := (.func (.func 59) #[] #[])) rfl (yl_move hs89) ?_
      refine T0_q (v := v_p_s) rfl (yl_move hs88) ?_
      refine T0_q (v := (.int .i64 x91)) rfl (yl_move rfl) ?_
      obtain ⟨el109, hel110, h⟩ := bind_elim h
      obtain ⟨cs111, hat112, hrd113⟩ := SlRd.at h87 hel110
      have hrd113 : cs111 = [(.int .i64 el109)] := hrd113
      subst hrd113
      refine T0_q (v := (.pointer (some (elemAddr v_p_s (x91 : Int).toNat 1)))) rfl (yl_indexAddr Try.underlying22 sz3 h87 hel110 rfl rfl) ?_
      refine T0_q (v := (.int .i64 el109)) rfl (yl_load sc3 rfl hat112) ?_
      obtain ⟨r115, hr116, h⟩ := bind_elim h
      refine T0_e rfl (eff_callV rfl Try.func59 nm59 rfl (ev1 rfl) (locate_openSeen_1_ok [] _ (LtL.nil _) el109 r115 hr116) ?_)
      rintro _ wd117 ⟨he118, rfl⟩
      have e119 := e86.trans he118
      refine T0_nil ?_
      refine hK108 _ _ ?_
      refine WC_cond (b := r115) rfl (fun hb120 => ?_) (fun hb120 => ?_)
      · replace h := cond_t hb120 h
        refine WC_seqK fun K121 hK121 => ?_
        refine WC_region ?_
        refine T0_q (v := (.int .i64 x91)) rfl (yl_move rfl) ?_
        refine T0_q (v := (.int .i64 x91)) rfl (yl_assign rfl) ?_
        refine T0_nil ?_
        refine hK121 _ _ ?_
        refine WC_ret ?_
        replace h := some_out h
        subst h
        have ho := hx99 _ rfl
        subst ho
        replace h := jn0_inl hn97
        replace h := some_out h
        subst h
        exact ⟨[(.int .i64 x91)], ⟨rfl, trivial⟩, e119, rfl⟩
      · replace h := cond_f hb120 h
        refine WC_skip ?_
        refine hK106 _ _ ?_
        refine WC_region ?_
        refine T0_q (v := (.int .i64 (w64 (x91 + 1)))) rfl (yl_add hs92 rfl) ?_
        refine T0_q (v := (.int .i64 (w64 (x91 + 1)))) rfl (yl_move rfl) ?_
        refine T0_nil ?_
        replace h := some_out h
        subst h
        refine hK100 _ _ _ rfl ?_
        exact ⟨w64 (x91 + 1), rfl, hs88, hs89, hs90, rfl, (h87.ext he118), e119⟩
    · replace h := cond_f hb105 h
      refine WC_exit ?_
      replace h := some_out h
      subst h
      have ho := hx99 _ rfl
      subst ho
      refine hK101 _ _ ?_
      exact ⟨rfl, e86⟩
  · rintro ρ wd93 ⟨rfl, e94⟩
    replace h := jn0_inr hn97
    refine hK3 _ _ ?_
    refine WC_seqK fun K122 hK122 => ?_
    refine WC_region ?_
    refine T0_q (v := (.int .i64 (-1))) rfl (yl_assign rfl) ?_
    refine T0_nil ?_
    refine hK122 _ _ ?_
    refine WC_ret ?_
    replace h := some_out h
    subst h
    exact ⟨[(.int .i64 (-1))], ⟨rfl, trivial⟩, e94, rfl⟩

noncomputable def slices_ContainsFunc_int_59_spec (p_s : (List Int)) : Option Bool :=
  (Option.bind (slices_IndexFunc_int_59_spec p_s) fun r4 =>
  some (decide (0 ≤ r4))
  )
theorem slices_ContainsFunc_int_59_ok (L : List Value) (w : World) (hL : LtL L w) (v_p_s : Value) (p_s : (List Int)) (h_p_s : SlRd L w v_p_s p_s) (r : Bool) (h : slices_ContainsFunc_int_59_spec p_s = some r) :
    CallsTo Try.prog 58 [v_p_s, (.func (.func 59) #[] #[])] w (fun v w' => Ext w w' ∧ (.bool r) = v) := by
  have e0 : Ext w w := Chg.refl _ _
  refine callsTo_of_WC (n := 9) (rs := [.tmp 4]) Try.func58 rfl rfl rfl rfl rfl ?_
  refine WC_seqK fun K2 hK2 => ?_
  refine WC_region ?_
  refine T0_q (v := (.bool false)) rfl (yl_assign rfl) ?_
  refine T0_nil ?_
  refine hK2 _ _ ?_
  refine WC_seqK fun K3 hK3 => ?_
  refine WC_region ?_
  refine T0_q (v := v_p_s) rfl (yl_move rfl) ?_
  refine T0_q (v := (.func (.func 59) #[] #[])) rfl (yl_move rfl) ?_
  obtain ⟨r4, hr5, h⟩ := bind_elim h
  refine T0_e rfl (eff_call Try.func55 nm55 rfl (ev2 rfl rfl) (slices_IndexFunc_int_59_ok [] _ (LtL.nil _) v_p_s p_s (h_p_s.sub (fun _ h => by cases h)) r4 hr5) ?_)
  rintro _ wd6 ⟨he7, rfl⟩
  have e8 := e0.trans he7
  refine T0_q (v := (.bool (decide (0 ≤ r4)))) rfl (yl_geq rfl rfl) ?_
  refine T0_q (v := (.bool (decide (0 ≤ r4)))) rfl (yl_assign rfl) ?_
  refine T0_nil ?_
  refine hK3 _ _ ?_
  refine WC_ret ?_
  replace h := some_out h
  subst h
  exact ⟨[(.bool (decide (0 ≤ r4)))], ⟨rfl, trivial⟩, e8, rfl⟩

noncomputable def locate_openSeen_spec (p_t : LocateTrack) (p_seen : (List Int)) : Option (locate_track × Int) :=
  (Option.bind (locate_open_spec p_t) fun r26 =>
  (Option.bind (slices_ContainsFunc_int_59_spec p_seen) fun r62 =>
  (Option.bind (locate_unless_spec (decide ((p_seen.length : Int) = p_t.Window)) 10) fun r72 =>
  (Option.bind (locate_unless_spec (!r62) 15) fun r78 =>
  (Option.bind (locate_first_spec ([r26.2, r72, r78] : List Int)) fun r93 =>
  some ((locate_track.mk (LocateTrack.mk r26.1.LocateTrack.Vanes r26.1.LocateTrack.Window r26.1.LocateTrack.Tooth r26.1.LocateTrack.PerVane r26.1.LocateTrack.First r26.1.LocateTrack.Modulus r26.1.LocateTrack.Slack r26.1.LocateTrack.Errors r26.1.LocateTrack.Round)), r93)
  )
  )
  )
  )
  )
theorem locate_openSeen_ok (L : List Value) (w : World) (hL : LtL L w) (cs_p_t : List Value) (p_t : LocateTrack) (h_p_t : Rep.rd L w cs_p_t p_t) (v_p_seen : Value) (p_seen : (List Int)) (h_p_seen : SlRd L w v_p_seen p_seen) (r : locate_track × Int) (h : locate_openSeen_spec p_t p_seen = some r) :
    CallsTo Try.prog 47 [(.agg cs_p_t.toArray), v_p_seen] w (fun v w' => Ext w w' ∧ ∃ (cs0 : List Value), (.tuple #[(.agg cs0.toArray), (.int .i64 r.2)]) = v ∧ Rep.rd L w' cs0 r.1) := by
  have e0 : Ext w w := Chg.refl _ _
  obtain ⟨v1, h2, rfl⟩ := h_p_t
  refine callsTo_of_WC (n := 29) (rs := [.cell 4 68, .tmp 5]) Try.func47 rfl rfl rfl rfl rfl ?_
  refine WC_seqK fun K5 hK5 => ?_
  refine WC_region ?_
  refine T0_e rfl (eff_boxC (cs := [v1, (.int .i64 p_t.Window), (.int .i64 p_t.Tooth), (.int .i64 p_t.PerVane), (.int .i64 p_t.First), (.int .i64 p_t.Modulus), (.int .i64 p_t.Slack), (.int .i64 p_t.Errors), (.bool p_t.Round)]) rfl rfl ?_)
  intro b6 wd7 hb8 he9 hB10
  have hbf11 := bfresh e0 hb8
  have e12 := e0.trans he9
  refine T0_e rfl (eff_allocZ zi68 ?_)
  intro b14 wd15 hb16 he17 hB18
  have hn19 : b14 ≠ b6 := box_ne hB10 hb16
  have hbf20 := bfresh e12 hb16
  have h21 := (h2.ext he9).step (add_box he17 hb16)
  have h22 := (h_p_seen.ext he9).step (add_box he17 hb16)
  have e23 := e12.trans he17
  refine T0_q (v := (.int .i64 0)) rfl (yl_assign rfl) ?_
  refine T0_nil ?_
  refine hK5 _ _ ?_
  refine WC_seqK fun K25 hK25 => ?_
  refine WC_region ?_
  refine T0_q (v := (.agg (List.toArray [v1, (.int .i64 p_t.Window), (.int .i64 p_t.Tooth), (.int .i64 p_t.PerVane), (.int .i64 p_t.First), (.int .i64 p_t.Modulus), (.int .i64 p_t.Slack), (.int .i64 p_t.Errors), (.bool p_t.Round)]))) rfl (yl_loadA (cs := [v1, (.int .i64 p_t.Window), (.int .i64 p_t.Tooth), (.int .i64 p_t.PerVane), (.int .i64 p_t.First), (.int .i64 p_t.Modulus), (.int .i64 p_t.Slack), (.int .i64 p_t.Errors), (.bool p_t.Round)]) ag24 rfl (Box.at (hB10.ext he17))) ?_
  obtain ⟨r26, hr27, h⟩ := bind_elim h
  refine T0_e rfl (eff_call Try.func26 nm26 rfl (ev1 rfl) (locate_open_ok ((.pointer (some ⟨b14, 0, none⟩)) :: L) _ (ltl_box (hL.chg e23) hB18) [v1, (.int .i64 p_t.Window), (.int .i64 p_t.Tooth), (.int .i64 p_t.PerVane), (.int .i64 p_t.First), (.int .i64 p_t.Modulus), (.int .i64 p_t.Slack), (.int .i64 p_t.Errors), (.bool p_t.Round)] p_t ⟨v1, h21, rfl⟩ r26 hr27) ?_)
  rintro _ wd28 ⟨he29, cs32, rfl, hrd33⟩
  have e34 := he17.trans he29
  have e35 := e23.trans he29
  obtain ⟨v30, h31, rfl⟩ := hrd33
  refine T0_q (v := (.tuple #[(.agg (List.toArray [v30, (.int .i64 r26.1.LocateTrack.Window), (.int .i64 r26.1.LocateTrack.Tooth), (.int .i64 r26.1.LocateTrack.PerVane), (.int .i64 r26.1.LocateTrack.First), (.int .i64 r26.1.LocateTrack.Modulus), (.int .i64 r26.1.LocateTrack.Slack), (.int .i64 r26.1.LocateTrack.Errors), (.bool r26.1.LocateTrack.Round)])), (.int .i64 r26.2)])) rfl (yl_move rfl) ?_
  refine T0_q (v := (.agg (List.toArray [v30, (.int .i64 r26.1.LocateTrack.Window), (.int .i64 r26.1.LocateTrack.Tooth), (.int .i64 r26.1.LocateTrack.PerVane), (.int .i64 r26.1.LocateTrack.First), (.int .i64 r26.1.LocateTrack.Modulus), (.int .i64 r26.1.LocateTrack.Slack), (.int .i64 r26.1.LocateTrack.Errors), (.bool r26.1.LocateTrack.Round)]))) rfl (yl_extract rfl rfl) ?_
  refine T0_q (v := (.int .i64 r26.2)) rfl (yl_extract rfl rfl) ?_
  refine T0_e rfl (eff_allocZ zi68 ?_)
  intro b37 wd38 hb39 he40 hB41
  have hn42 : b37 ≠ b6 := box_ne (hB10.ext e34) hb39
  have hn43 : b37 ≠ b14 := box_ne (hB18.ext he29) hb39
  have hbf44 := bfresh e35 hb39
  have h45 := (h21.ext he29).step (add_box he40 hb39)
  have h46 := (h22.ext he29).step (add_box he40 hb39)
  have h47 := h31.step (add_box he40 hb39)
  have e48 := he29.trans he40
  have e49 := e34.trans he40
  have e50 := e35.trans he40
  refine T0_e rfl (eff_storeC (vs := [v30, (.int .i64 r26.1.LocateTrack.Window), (.int .i64 r26.1.LocateTrack.Tooth), (.int .i64 r26.1.LocateTrack.PerVane), (.int .i64 r26.1.LocateTrack.First), (.int .i64 r26.1.LocateTrack.Modulus), (.int .i64 r26.1.LocateTrack.Slack), (.int .i64 r26.1.LocateTrack.Errors), (.bool r26.1.LocateTrack.Round)]) (cs' := [v30, (.int .i64 r26.1.LocateTrack.Window), (.int .i64 r26.1.LocateTrack.Tooth), (.int .i64 r26.1.LocateTrack.PerVane), (.int .i64 r26.1.LocateTrack.First), (.int .i64 r26.1.LocateTrack.Modulus), (.int .i64 r26.1.LocateTrack.Slack), (.int .i64 r26.1.LocateTrack.Errors), (.bool r26.1.LocateTrack.Round)]) sz68 rfl rfl rfl rfl hB41 rfl (oc_cons h47.one1 (oc_cons rfl (oc_cons rfl (oc_cons rfl (oc_cons rfl (oc_cons rfl (oc_cons rfl (oc_cons rfl (oc_cons rfl oc_nil))))))))) rfl ?_)
  intro wd52 hc53 hB54
  have h55 := h45.step (Stepp.chg_mem hc53 mem0)
  have h56 := h46.step (Stepp.chg_mem hc53 mem0)
  have h57 := (hB10.ext e49).chg hc53 (avoidb hn42)
  have h58 := (hB18.ext e48).chg hc53 (avoidb hn43)
  have h59 := h47.step (Stepp.chg_mem hc53 mem0)
  have e60 := chg_box e50 hc53 hbf44
  refine T0_q (v := (.int .i64 r26.2)) rfl (yl_assign rfl) ?_
  refine T0_nil ?_
  refine hK25 _ _ ?_
  refine WC_seqK fun K61 hK61 => ?_
  refine WC_region ?_
  refine T0_q (v := v_p_seen) rfl (yl_move rfl) ?_
  obtain ⟨r62, hr63, h⟩ := bind_elim h
  refine T0_e rfl (eff_call Try.func58 nm58 rfl (ev2 rfl rfl) (slices_ContainsFunc_int_59_ok [] _ (LtL.nil _) v_p_seen p_seen (h56.sub (fun _ h => by cases h)) r62 hr63) ?_)
  rintro _ wd64 ⟨he65, rfl⟩
  have e66 := e60.trans he65
  refine T0_q (v := (.bool r62)) rfl (yl_assign rfl) ?_
  refine T0_nil ?_
  refine hK61 _ _ ?_
  refine WC_seqK fun K67 hK67 => ?_
  refine WC_plan mixed (.p 1 (.p 2 (.p 3 (.p 4 (.p 8 (.p 9 (.q 0 (.q 5 (.p 6 (.e 7 (.e 10 (.e 11 (.e 12 (.b 13 (.p 14 .done))))))))))))))) (by kernel_rfl) ?_
  intro wd68 he69
  have e70 := he65.trans he69
  have e71 := e66.trans he69
  refine TP_p (v := (.int .i64 r26.2)) rfl rfl (fun w' => (yl_move rfl)) ?_
  refine TP_p (v := v_p_seen) rfl rfl (fun w' => (yl_move rfl)) ?_
  refine TP_p (v := (.int .i64 (p_seen.length : Int))) rfl rfl (fun w' => (yl_lenR rfl Try.underlying22 h56 rfl)) ?_
  refine TP_p (v := (.pointer (some ⟨b6, 1, none⟩))) rfl rfl (fun w' => (yl_fa 1 Try.underlying24 rfl rfl ⟨0, sz3⟩ rfl rfl)) ?_
  refine TP_p (v := (.bool r62)) rfl rfl (fun w' => (yl_move rfl)) ?_
  refine TP_p (v := (.bool (!r62))) rfl rfl (fun w' => (yl_not rfl)) ?_
  refine TP_q (v := (.agg (List.toArray [v30, (.int .i64 r26.1.LocateTrack.Window), (.int .i64 r26.1.LocateTrack.Tooth), (.int .i64 r26.1.LocateTrack.PerVane), (.int .i64 r26.1.LocateTrack.First), (.int .i64 r26.1.LocateTrack.Modulus), (.int .i64 r26.1.LocateTrack.Slack), (.int .i64 r26.1.LocateTrack.Errors), (.bool r26.1.LocateTrack.Round)]))) rfl rfl (fun w' hS => (yl_loadA (cs := [v30, (.int .i64 r26.1.LocateTrack.Window), (.int .i64 r26.1.LocateTrack.Tooth), (.int .i64 r26.1.LocateTrack.PerVane), (.int .i64 r26.1.LocateTrack.First), (.int .i64 r26.1.LocateTrack.Modulus), (.int .i64 r26.1.LocateTrack.Slack), (.int .i64 r26.1.LocateTrack.Errors), (.bool r26.1.LocateTrack.Round)]) ag68 rfl (Box.at (hB54.ext ((e70).trans hS))))) ?_
  refine TP_q (v := (.int .i64 p_t.Window)) rfl rfl (fun w' hS => (yl_load sc3 rfl (At.drop (Box.at (h57.ext ((e70).trans hS))) 1))) ?_
  refine TP_p (v := (.bool (decide ((p_seen.length : Int) = p_t.Window)))) rfl rfl (fun w' => (yl_eql rfl rfl)) ?_
  obtain ⟨r72, hr73, h⟩ := bind_elim h
  refine TP_e rfl rfl (eff_call Try.func37 nm37 rfl (ev2 rfl rfl) (locate_unless_ok [] _ (LtL.nil _) (decide ((p_seen.length : Int) = p_t.Window)) 10 r72 hr73) ?_)
  rintro _ wd74 ⟨he75, rfl⟩
  have e76 := e70.trans he75
  have e77 := e71.trans he75
  refine ⟨he75, ?_⟩
  obtain ⟨r78, hr79, h⟩ := bind_elim h
  refine TP_e rfl rfl (eff_call Try.func37 nm37 rfl (ev2 rfl rfl) (locate_unless_ok [] _ (LtL.nil _) (!r62) 15 r78 hr79) ?_)
  rintro _ wd80 ⟨he81, rfl⟩
  have e82 := e76.trans he81
  have e83 := he75.trans he81
  have e84 := e77.trans he81
  refine ⟨e83, ?_⟩
  refine TP_e rfl rfl (eff_buildTC (xs := ([r26.2, r72, r78] : List Int)) (cells := [(.int .i64 r26.2), (.int .i64 r72), (.int .i64 r78)]) Try.underlying91 ei37 rfl (pc_cons rfl rfl (pc_cons rfl rfl (pc_cons rfl rfl pc_nil))) rfl (Elems.cons (cs := [(.int .i64 r26.2)]) rfl (Elems.cons (cs := [(.int .i64 r72)]) rfl (Elems.cons (cs := [(.int .i64 r78)]) rfl Elems.nil))) rfl (ltl_box (ltl_box (hL.chg e84) (h58.ext e82)) (hB54.ext e82)) ?_)
  intro b88 wd85 he86 h87
  have e89 := e82.trans he86
  have e90 := e83.trans he86
  have e91 := e84.trans he86
  refine ⟨e90, ?_⟩
  obtain ⟨r93, hr94, h⟩ := bind_elim h
  refine TP_e rfl rfl (eff_call Try.func35 nm35 rfl (ev1 rfl) (locate_first_ok [] _ (LtL.nil _) (.slice (some ⟨b88, 0, none⟩) 3 3) ([r26.2, r72, r78] : List Int) (h87.sub (fun _ h => by cases h)) r93 hr94) ?_)
  rintro _ wd95 ⟨he96, rfl⟩
  have e97 := e89.trans he96
  have e98 := e90.trans he96
  have e99 := e91.trans he96
  refine ⟨e98, ?_⟩
  refine TP_b rfl rfl (eff_storeC (vs := [v30, (.int .i64 r26.1.LocateTrack.Window), (.int .i64 r26.1.LocateTrack.Tooth), (.int .i64 r26.1.LocateTrack.PerVane), (.int .i64 r26.1.LocateTrack.First), (.int .i64 r26.1.LocateTrack.Modulus), (.int .i64 r26.1.LocateTrack.Slack), (.int .i64 r26.1.LocateTrack.Errors), (.bool r26.1.LocateTrack.Round)]) (cs' := [v30, (.int .i64 r26.1.LocateTrack.Window), (.int .i64 r26.1.LocateTrack.Tooth), (.int .i64 r26.1.LocateTrack.PerVane), (.int .i64 r26.1.LocateTrack.First), (.int .i64 r26.1.LocateTrack.Modulus), (.int .i64 r26.1.LocateTrack.Slack), (.int .i64 r26.1.LocateTrack.Errors), (.bool r26.1.LocateTrack.Round)]) sz68 rfl rfl rfl rfl (h58.ext e97) rfl (oc_cons h59.one1 (oc_cons rfl (oc_cons rfl (oc_cons rfl (oc_cons rfl (oc_cons rfl (oc_cons rfl (oc_cons rfl (oc_cons rfl oc_nil))))))))) rfl ?_)
  intro wd100 hc101 hB102
  have h103 := (h55.ext e97).step (Stepp.chg_mem hc101 (memS mem0))
  have h104 := (h56.ext e97).step (Stepp.chg_mem hc101 (memS mem0))
  have h105 := (h57.ext e97).chg hc101 (avoidb hn19)
  have h106 := (h59.ext e97).step (Stepp.chg_mem hc101 (memS mem0))
  have h107 := (hB54.ext e97).chg hc101 (avoidb hn43.symm)
  have h108 := (h87.ext he96).step (Stepp.chg_mem hc101 (memS mem0))
  have e109 := chg_box e99 hc101 hbf20
  refine TP_p (v := (.int .i64 r93)) rfl rfl (fun w' => (yl_assign rfl)) ?_
  refine TP_done ?_
  refine hK67 _ _ ?_
  refine WC_ret ?_
  replace h := some_out h
  subst h
  exact ⟨[(.agg (List.toArray [v30, (.int .i64 r26.1.LocateTrack.Window), (.int .i64 r26.1.LocateTrack.Tooth), (.int .i64 r26.1.LocateTrack.PerVane), (.int .i64 r26.1.LocateTrack.First), (.int .i64 r26.1.LocateTrack.Modulus), (.int .i64 r26.1.LocateTrack.Slack), (.int .i64 r26.1.LocateTrack.Errors), (.bool r26.1.LocateTrack.Round)])), (.int .i64 r93)], ⟨⟨_, rfl, run_loadVarA (cs := [v30, (.int .i64 r26.1.LocateTrack.Window), (.int .i64 r26.1.LocateTrack.Tooth), (.int .i64 r26.1.LocateTrack.PerVane), (.int .i64 r26.1.LocateTrack.First), (.int .i64 r26.1.LocateTrack.Modulus), (.int .i64 r26.1.LocateTrack.Slack), (.int .i64 r26.1.LocateTrack.Errors), (.bool r26.1.LocateTrack.Round)]) ag68 (Box.at hB102)⟩, rfl, trivial⟩, e109, [v30, (.int .i64 r26.1.LocateTrack.Window), (.int .i64 r26.1.LocateTrack.Tooth), (.int .i64 r26.1.LocateTrack.PerVane), (.int .i64 r26.1.LocateTrack.First), (.int .i64 r26.1.LocateTrack.Modulus), (.int .i64 r26.1.LocateTrack.Slack), (.int .i64 r26.1.LocateTrack.Errors), (.bool r26.1.LocateTrack.Round)], rfl, ⟨v30, (h106.sub (sub_skip (sub_skip (sub_refl _)))), rfl⟩⟩

noncomputable def locate_Possible_s0 (el1724 : Int) (p_Listappend : LocateTrack) (p_String : LocateReading) (r27 : (locate_track × Int)) : ((List Range) × Int × Int) → Option (((List Range) × Int × Int) ⊕ ((List Range) × Int)) := fun (x2068, x2073, x2076) =>
  (bif (decide (x2076 < w64 ((w64 (el1724 + 1)) * p_Listappend.PerVane))) then (
    (Option.bind (rem x2076 p_Listappend.Modulus) fun q2140 =>
    (Option.bind (rem (w64 ((w64 (q2140 + p_Listappend.Modulus)) - p_String.Count)) p_Listappend.Modulus) fun q2142 =>
    (bif (decide (p_Listappend.Slack < (if w64 (p_Listappend.Modulus - q2142) < q2142 then w64 (p_Listappend.Modulus - q2142) else q2142))) then (
      some (.inl (x2068, x2073, w64 (x2076 + 1)))
    ) else (
      (bif ((decide (0 < (x2068.length : Int))) && (decide (x2073 = w64 (x2076 - 1)))) then (
        (Option.bind (locate_track_places_spec (locate_track.mk (LocateTrack.mk r27.1.LocateTrack.Vanes r27.1.LocateTrack.Window r27.1.LocateTrack.Tooth r27.1.LocateTrack.PerVane r27.1.LocateTrack.First r27.1.LocateTrack.Modulus r27.1.LocateTrack.Slack r27.1.LocateTrack.Errors r27.1.LocateTrack.Round)) x2076 x2076) fun r2150 =>
        (Option.bind (idx x2068 (w64 ((x2068.length : Int) - 1))) fun el2158 =>
        some (.inl ((x2068.set (w64 ((x2068.length : Int) - 1) : Int).toNat (Range.mk el2158.Lo r2150.Hi)), x2076, w64 (x2076 + 1)))
        )
        )
      ) else (
        (Option.bind (locate_track_places_spec (locate_track.mk (LocateTrack.mk r27.1.LocateTrack.Vanes r27.1.LocateTrack.Window r27.1.LocateTrack.Tooth r27.1.LocateTrack.PerVane r27.1.LocateTrack.First r27.1.LocateTrack.Modulus r27.1.LocateTrack.Slack r27.1.LocateTrack.Errors r27.1.LocateTrack.Round)) x2076 x2076) fun r2175 =>
        (Option.bind (app x2068 ([r2175] : List Range)) fun zs2190 =>
        some (.inl (zs2190, x2076, w64 (x2076 + 1)))
        )
        )
      ))
    ))
    )
    )
  ) else (
    some (.inr (x2068, x2073))
  ))
noncomputable def locate_Possible_s1 (p_Listappend : LocateTrack) (p_String : LocateReading) (r27 : (locate_track × Int)) (r96 : (List Int)) : ((List Range) × Int × Int) → Option (((List Range) × Int × Int) ⊕ ((List Range))) := fun (x1670, x1675, x1680) =>
  (bif (decide (x1680 < (r96.length : Int))) then (
    (Option.bind (idx r96 x1680) fun el1724 =>
    (Option.bind (loop (locate_Possible_s0 el1724 p_Listappend p_String r27) (x1670, x1675, w64 (el1724 * p_Listappend.PerVane))) fun ((x2101, x2106) : (List Range) × Int) =>
    some (.inl (x2101, x2106, w64 (x1680 + 1)))
    )
    )
  ) else (
    some (.inr x1670)
  ))
noncomputable def locate_Possible_spec (p_Listappend : LocateTrack) (p_String : LocateReading) : Option ((List Range) × Int) :=
  (Option.bind (locate_openSeen_spec p_Listappend p_String.Seen) fun r27 =>
  (Option.bind (locate_within_spec p_String.Count 0 (w64 (p_Listappend.Modulus - 1))) fun r65 =>
  (Option.bind (locate_unless_spec r65 2) fun r70 =>
  (Option.bind (locate_first_spec ([r27.2, r70] : List Int)) fun r83 =>
  (bif (!decide (r83 = 0)) then (
    some (([] : (List Range)), r83)
  ) else (
    (Option.bind (locate_track_near_spec (locate_track.mk (LocateTrack.mk r27.1.LocateTrack.Vanes r27.1.LocateTrack.Window r27.1.LocateTrack.Tooth r27.1.LocateTrack.PerVane r27.1.LocateTrack.First r27.1.LocateTrack.Modulus r27.1.LocateTrack.Slack r27.1.LocateTrack.Errors r27.1.LocateTrack.Round)) p_String.Seen) fun r96 =>
    (Option.bind (loop (locate_Possible_s1 p_Listappend p_String r27 r96) (([] : List Range), -1, 0)) fun (x1706 : (List Range)) =>
    some (x1706, 0)
    )
    )
  ))
  )
  )
  )
  )
theorem locate_Possible_ok (L : List Value) (w : World) (hL : LtL L w) (cs_p_Listappend : List Value) (p_Listappend : LocateTrack) (h_p_Listappend : Rep.rd L w cs_p_Listappend p_Listappend) (cs_p_String : List Value) (p_String : LocateReading) (h_p_String : Rep.rd L w cs_p_String p_String) (r : (List Range) × Int) (h : locate_Possible_spec p_Listappend p_String = some r) :
    CallsTo Try.prog 34 [(.agg cs_p_Listappend.toArray), (.agg cs_p_String.toArray)] w (fun v w' => Ext w w' ∧ ∃ (v0 : Value), (.tuple #[v0, (.int .i64 r.2)]) = v ∧ SlRd L w' v0 r.1) := by
  have e0 : Ext w w := Chg.refl _ _
  obtain ⟨v1, h2, rfl⟩ := h_p_Listappend
  obtain ⟨v4, h5, rfl⟩ := h_p_String
  refine callsTo_of_WC (n := 108) (rs := [.tmp 4, .tmp 5]) Try.func34 rfl rfl rfl rfl rfl ?_
  refine WC_seqK fun K7 hK7 => ?_
  refine WC_region ?_
  refine T0_e rfl (eff_boxC (cs := [v1, (.int .i64 p_Listappend.Window), (.int .i64 p_Listappend.Tooth), (.int .i64 p_Listappend.PerVane), (.int .i64 p_Listappend.First), (.int .i64 p_Listappend.Modulus), (.int .i64 p_Listappend.Slack), (.int .i64 p_Listappend.Errors), (.bool p_Listappend.Round)]) rfl rfl ?_)
  intro b8 wd9 hb10 he11 hB12
  have hbf13 := bfresh e0 hb10
  have e14 := e0.trans he11
  refine T0_e rfl (eff_boxC (cs := [v4, (.int .i64 p_String.Count)]) rfl rfl ?_)
  intro b16 wd17 hb18 he19 hB20
  have hn21 : b16 ≠ b8 := box_ne hB12 hb18
  have hbf22 := bfresh e14 hb18
  have e23 := he11.trans he19
  have e24 := e14.trans he19
  refine T0_q (v := (.slice none 0 0)) rfl (yl_assign rfl) ?_
  refine T0_q (v := (.int .i64 0)) rfl (yl_assign rfl) ?_
  refine T0_nil ?_
  refine hK7 _ _ ?_
  refine WC_seqK fun K26 hK26 => ?_
  refine WC_region ?_
  refine T0_q (v := (.agg (List.toArray [v1, (.int .i64 p_Listappend.Window), (.int .i64 p_Listappend.Tooth), (.int .i64 p_Listappend.PerVane), (.int .i64 p_Listappend.First), (.int .i64 p_Listappend.Modulus), (.int .i64 p_Listappend.Slack), (.int .i64 p_Listappend.Errors), (.bool p_Listappend.Round)]))) rfl (yl_loadA (cs := [v1, (.int .i64 p_Listappend.Window), (.int .i64 p_Listappend.Tooth), (.int .i64 p_Listappend.PerVane), (.int .i64 p_Listappend.First), (.int .i64 p_Listappend.Modulus), (.int .i64 p_Listappend.Slack), (.int .i64 p_Listappend.Errors), (.bool p_Listappend.Round)]) ag24 rfl (Box.at (hB12.ext he19))) ?_
  refine T0_q (v := (.pointer (some ⟨b16, 0, none⟩))) rfl (yl_fa 0 Try.underlying45 rfl rfl ⟨0, sz22⟩ rfl rfl) ?_
  refine T0_q (v := v4) rfl (yl_load sc22 rfl (Box.at hB20)) ?_
  obtain ⟨r27, hr28, h⟩ := bind_elim h
  refine T0_e rfl (eff_call Try.func47 nm47 rfl (ev2 rfl rfl) (locate_openSeen_ok L _ (hL.chg e24) [v1, (.int .i64 p_Listappend.Window), (.int .i64 p_Listappend.Tooth), (.int .i64 p_Listappend.PerVane), (.int .i64 p_Listappend.First), (.int .i64 p_Listappend.Modulus), (.int .i64 p_Listappend.Slack), (.int .i64 p_Listappend.Errors), (.bool p_Listappend.Round)] p_Listappend ⟨v1, (h2.ext e23), rfl⟩ v4 p_String.Seen (h5.ext e23) r27 hr28) ?_)
  rintro _ wd29 ⟨he30, cs33, rfl, hrd34⟩
  have e35 := e23.trans he30
  have e36 := he19.trans he30
  have e37 := e24.trans he30
  obtain ⟨v31, h32, rfl⟩ := hrd34
  refine T0_q (v := (.tuple #[(.agg (List.toArray [v31, (.int .i64 r27.1.LocateTrack.Window), (.int .i64 r27.1.LocateTrack.Tooth), (.int .i64 r27.1.LocateTrack.PerVane), (.int .i64 r27.1.LocateTrack.First), (.int .i64 r27.1.LocateTrack.Modulus), (.int .i64 r27.1.LocateTrack.Slack), (.int .i64 r27.1.LocateTrack.Errors), (.bool r27.1.LocateTrack.Round)])), (.int .i64 r27.2)])) rfl (yl_move rfl) ?_
  refine T0_q (v := (.agg (List.toArray [v31, (.int .i64 r27.1.LocateTrack.Window), (.int .i64 r27.1.LocateTrack.Tooth), (.int .i64 r27.1.LocateTrack.PerVane), (.int .i64 r27.1.LocateTrack.First), (.int .i64 r27.1.LocateTrack.Modulus), (.int .i64 r27.1.LocateTrack.Slack), (.int .i64 r27.1.LocateTrack.Errors), (.bool r27.1.LocateTrack.Round)]))) rfl (yl_extract rfl rfl) ?_
  refine T0_q (v := (.int .i64 r27.2)) rfl (yl_extract rfl rfl) ?_
  refine T0_e rfl (eff_allocZ zi68 ?_)
  intro b39 wd40 hb41 he42 hB43
  have hn44 : b39 ≠ b8 := box_ne (hB12.ext e36) hb41
  have hn45 : b39 ≠ b16 := box_ne (hB20.ext he30) hb41
  have hbf46 := bfresh e37 hb41
  have h47 := (h2.ext e35).step (add_box he42 hb41)
  have h48 := (h5.ext e35).step (add_box he42 hb41)
  have h49 := h32.step (add_box he42 hb41)
  have e50 := he30.trans he42
  have e51 := e36.trans he42
  have e52 := e37.trans he42
  refine T0_e rfl (eff_storeC (vs := [v31, (.int .i64 r27.1.LocateTrack.Window), (.int .i64 r27.1.LocateTrack.Tooth), (.int .i64 r27.1.LocateTrack.PerVane), (.int .i64 r27.1.LocateTrack.First), (.int .i64 r27.1.LocateTrack.Modulus), (.int .i64 r27.1.LocateTrack.Slack), (.int .i64 r27.1.LocateTrack.Errors), (.bool r27.1.LocateTrack.Round)]) (cs' := [v31, (.int .i64 r27.1.LocateTrack.Window), (.int .i64 r27.1.LocateTrack.Tooth), (.int .i64 r27.1.LocateTrack.PerVane), (.int .i64 r27.1.LocateTrack.First), (.int .i64 r27.1.LocateTrack.Modulus), (.int .i64 r27.1.LocateTrack.Slack), (.int .i64 r27.1.LocateTrack.Errors), (.bool r27.1.LocateTrack.Round)]) sz68 rfl rfl rfl rfl hB43 rfl (oc_cons h49.one1 (oc_cons rfl (oc_cons rfl (oc_cons rfl (oc_cons rfl (oc_cons rfl (oc_cons rfl (oc_cons rfl (oc_cons rfl oc_nil))))))))) rfl ?_)
  intro wd54 hc55 hB56
  have h57 := h47.step (Stepp.chg_mem hc55 mem0)
  have h58 := h48.step (Stepp.chg_mem hc55 mem0)
  have h59 := (hB12.ext e51).chg hc55 (avoidb hn44)
  have h60 := (hB20.ext e50).chg hc55 (avoidb hn45)
  have h61 := h49.step (Stepp.chg_mem hc55 mem0)
  have e62 := chg_box e52 hc55 hbf46
  refine T0_q (v := (.int .i64 r27.2)) rfl (yl_assign rfl) ?_
  refine T0_nil ?_
  refine hK26 _ _ ?_
  refine WC_seqK fun K63 hK63 => ?_
  refine WC_seqK fun K64 hK64 => ?_
  refine WC_region ?_
  refine T0_q (v := (.int .i64 r27.2)) rfl (yl_move rfl) ?_
  refine T0_q (v := (.pointer (some ⟨b16, 1, none⟩))) rfl (yl_fa 1 Try.underlying45 rfl rfl ⟨0, sz3⟩ rfl rfl) ?_
  refine T0_q (v := (.int .i64 p_String.Count)) rfl (yl_load sc3 rfl (At.drop (Box.at h60) 1)) ?_
  refine T0_q (v := (.pointer (some ⟨b8, 5, none⟩))) rfl (yl_fa 5 Try.underlying24 rfl rfl ⟨0, sz3⟩ rfl rfl) ?_
  refine T0_q (v := (.int .i64 p_Listappend.Modulus)) rfl (yl_load sc3 rfl (At.drop (Box.at h59) 5)) ?_
  refine T0_q (v := (.int .i64 (w64 (p_Listappend.Modulus - 1)))) rfl (yl_sub rfl rfl) ?_
  obtain ⟨r65, hr66, h⟩ := bind_elim h
  refine T0_e rfl (eff_call Try.func27 nm27 rfl (ev3 rfl rfl rfl) (locate_within_ok [] _ (LtL.nil _) p_String.Count 0 (w64 (p_Listappend.Modulus - 1)) r65 hr66) ?_)
  rintro _ wd67 ⟨he68, rfl⟩
  have e69 := e62.trans he68
  obtain ⟨r70, hr71, h⟩ := bind_elim h
  refine T0_e rfl (eff_call Try.func37 nm37 rfl (ev2 rfl rfl) (locate_unless_ok [] _ (LtL.nil _) r65 2 r70 hr71) ?_)
  rintro _ wd72 ⟨he73, rfl⟩
  have e74 := he68.trans he73
  have e75 := e69.trans he73
  refine T0_e rfl (eff_buildTC (xs := ([r27.2, r70] : List Int)) (cells := [(.int .i64 r27.2), (.int .i64 r70)]) Try.underlying91 ei37 rfl (pc_cons rfl rfl (pc_cons rfl rfl pc_nil)) rfl (Elems.cons (cs := [(.int .i64 r27.2)]) rfl (Elems.cons (cs := [(.int .i64 r70)]) rfl Elems.nil)) rfl (ltl_box (hL.chg e75) (hB56.ext e74)) ?_)
  intro b79 wd76 he77 h78
  have e80 := e74.trans he77
  have e81 := e75.trans he77
  obtain ⟨r83, hr84, h⟩ := bind_elim h
  refine T0_e rfl (eff_call Try.func35 nm35 rfl (ev1 rfl) (locate_first_ok [] _ (LtL.nil _) (.slice (some ⟨b79, 0, none⟩) 2 2) ([r27.2, r70] : List Int) (h78.sub (fun _ h => by cases h)) r83 hr84) ?_)
  rintro _ wd85 ⟨he86, rfl⟩
  have e87 := e80.trans he86
  have e88 := e81.trans he86
  refine T0_q (v := (.int .i64 r83)) rfl (yl_assign rfl) ?_
  refine T0_nil ?_
  refine hK64 _ _ ?_
  refine WC_seqK fun K89 hK89 => ?_
  refine WC_region ?_
  refine T0_q (v := (.int .i64 r83)) rfl (yl_move rfl) ?_
  refine T0_q (v := (.bool (!decide (r83 = 0)))) rfl (yl_neq rfl rfl) ?_
  refine T0_nil ?_
  refine hK89 _ _ ?_
  refine WC_cond (b := (!decide (r83 = 0))) rfl (fun hb90 => ?_) (fun hb90 => ?_)
  · replace h := cond_t hb90 h
    refine WC_seqK fun K91 hK91 => ?_
    refine WC_region ?_
    refine T0_q (v := (.int .i64 r83)) rfl (yl_move rfl) ?_
    refine T0_q (v := (.slice none 0 0)) rfl (yl_assign rfl) ?_
    refine T0_q (v := (.int .i64 r83)) rfl (yl_assign rfl) ?_
    refine T0_nil ?_
    refine hK91 _ _ ?_
    refine WC_ret ?_
    replace h := some_out h
    subst h
    exact ⟨[(.slice none 0 0), (.int .i64 r83)], ⟨rfl, rfl, trivial⟩, e88, (.slice none 0 0), rfl, (SlRd.nil _ _)⟩
  · replace h := cond_f hb90 h
    refine WC_skip ?_
    refine hK63 _ _ ?_
    refine WC_seqK fun K92 hK92 => ?_
    refine WC_region ?_
    refine T0_q (v := (.slice none 0 0)) rfl (yl_assign rfl) ?_
    refine T0_nil ?_
    refine hK92 _ _ ?_
    refine WC_seqK fun K93 hK93 => ?_
    refine WC_region ?_
    refine T0_q (v := (.int .i64 (-1))) rfl (yl_assign rfl) ?_
    refine T0_nil ?_
    refine hK93 _ _ ?_
    refine WC_seqK fun K94 hK94 => ?_
    refine WC_seqK fun K95 hK95 => ?_
    refine WC_region ?_
    refine T0_q (v := (.agg (List.toArray [v31, (.int .i64 r27.1.LocateTrack.Window), (.int .i64 r27.1.LocateTrack.Tooth), (.int .i64 r27.1.LocateTrack.PerVane), (.int .i64 r27.1.LocateTrack.First), (.int .i64 r27.1.LocateTrack.Modulus), (.int .i64 r27.1.LocateTrack.Slack), (.int .i64 r27.1.LocateTrack.Errors), (.bool r27.1.LocateTrack.Round)]))) rfl (yl_loadA (cs := [v31, (.int .i64 r27.1.LocateTrack.Window), (.int .i64 r27.1.LocateTrack.Tooth), (.int .i64 r27.1.LocateTrack.PerVane), (.int .i64 r27.1.LocateTrack.First), (.int .i64 r27.1.LocateTrack.Modulus), (.int .i64 r27.1.LocateTrack.Slack), (.int .i64 r27.1.LocateTrack.Errors), (.bool r27.1.LocateTrack.Round)]) ag68 rfl (Box.at (hB56.ext e87))) ?_
    refine T0_q (v := (.pointer (some ⟨b16, 0, none⟩))) rfl (yl_fa 0 Try.underlying45 rfl rfl ⟨0, sz22⟩ rfl rfl) ?_
    refine T0_q (v := v4) rfl (yl_load sc22 rfl (Box.at (h60.ext e87))) ?_
    obtain ⟨r96, hr97, h⟩ := bind_elim h
    refine T0_e rfl (eff_call Try.func48 nm48 rfl (ev2 rfl rfl) (locate_track_near_ok ((.pointer (some ⟨b39, 0, none⟩)) :: L) _ (ltl_box (hL.chg e88) (hB56.ext e87)) [v31, (.int .i64 r27.1.LocateTrack.Window), (.int .i64 r27.1.LocateTrack.Tooth), (.int .i64 r27.1.LocateTrack.PerVane), (.int .i64 r27.1.LocateTrack.First), (.int .i64 r27.1.LocateTrack.Modulus), (.int .i64 r27.1.LocateTrack.Slack), (.int .i64 r27.1.LocateTrack.Errors), (.bool r27.1.LocateTrack.Round)] (locate_track.mk (LocateTrack.mk r27.1.LocateTrack.Vanes r27.1.LocateTrack.Window r27.1.LocateTrack.Tooth r27.1.LocateTrack.PerVane r27.1.LocateTrack.First r27.1.LocateTrack.Modulus r27.1.LocateTrack.Slack r27.1.LocateTrack.Errors r27.1.LocateTrack.Round)) ⟨v31, (h61.ext e87), rfl⟩ v4 p_String.Seen (h58.ext e87) r96 hr97) ?_)
    rintro _ wd98 ⟨he99, v100, rfl, h101⟩
    have e102 := e87.trans he99
    have e103 := he86.trans he99
    have e104 := e88.trans he99
    refine T0_q (v := (.int .i64 (r96.length : Int))) rfl (yl_lenR rfl Try.underlying22 h101 rfl) ?_
    refine T0_q (v := (.int .i64 0)) rfl (yl_move rfl) ?_
    refine T0_nil ?_
    refine hK95 _ _ ?_
    have h1694 := (h57.ext e102).step (add_nil _)
    have h1695 := (h58.ext e102).step (add_nil _)
    have h1696 := (h61.ext e102).step (add_nil _)
    have h1697 := (h78.ext e103).step (add_nil _)
    have h1698 := h101.step (add_nil _)
    have h1700 : Own 35 ((.slice none 0 0) :: (.pointer (some ⟨b39, 0, none⟩)) :: L) wd98 (.slice none 0 0) ([] : List Range) := Own.nil _ _ _
    obtain ⟨o1711, hl1712, hn1713⟩ := bind_elim h
    refine WC_post (fun (ρ : Env) (wd1702 : World) => ∃ (x1706 : (List Range)) (v1705 : Value), x1706 = o1711 ∧ ρ 8 = v1705 ∧ Own 35 (v1705 :: L) wd1702 v1705 x1706 ∧ (∀ b, blk v1705 = some b → w.heap.size ≤ b) ∧ Ext w wd1702) ?_ ?_
    · intro K1717 hK1717
      refine WC_block ?_
      refine WC_loopk (fun sv ρ wd1663 => ∃ (x1670 : (List Range)) (x1675 : Int) (x1680 : Int) (v1669 : Value), (x1670, x1675, x1680) = sv ∧ ρ 2 = (.pointer (some ⟨b8, 0, none⟩)) ∧ ρ 3 = (.pointer (some ⟨b16, 0, none⟩)) ∧ ρ 6 = (.pointer (some ⟨b39, 0, none⟩)) ∧ ρ 8 = v1669 ∧ ρ 9 = (.int .i64 x1675) ∧ ρ 37 = v100 ∧ ρ 38 = (.int .i64 (r96.length : Int)) ∧ ρ 39 = (.int .i64 x1680) ∧ SlRd (v1669 :: (.pointer (some ⟨b39, 0, none⟩)) :: L) wd1663 v100 r96 ∧ SlRd (v1669 :: (.pointer (some ⟨b39, 0, none⟩)) :: L) wd1663 v4 p_String.Seen ∧ SlRd (v1669 :: (.pointer (some ⟨b39, 0, none⟩)) :: L) wd1663 v31 r27.1.LocateTrack.Vanes ∧ SlRd (v1669 :: (.pointer (some ⟨b39, 0, none⟩)) :: L) wd1663 v1 p_Listappend.Vanes ∧ Box wd1663 b16 [v4, (.int .i64 p_String.Count)] 45 ∧ Box wd1663 b39 [v31, (.int .i64 r27.1.LocateTrack.Window), (.int .i64 r27.1.LocateTrack.Tooth), (.int .i64 r27.1.LocateTrack.PerVane), (.int .i64 r27.1.LocateTrack.First), (.int .i64 r27.1.LocateTrack.Modulus), (.int .i64 r27.1.LocateTrack.Slack), (.int .i64 r27.1.LocateTrack.Errors), (.bool r27.1.LocateTrack.Round)] 68 ∧ Box wd1663 b8 [v1, (.int .i64 p_Listappend.Window), (.int .i64 p_Listappend.Tooth), (.int .i64 p_Listappend.PerVane), (.int .i64 p_Listappend.First), (.int .i64 p_Listappend.Modulus), (.int .i64 p_Listappend.Slack), (.int .i64 p_Listappend.Errors), (.bool p_Listappend.Round)] 24 ∧ Own 35 (v1669 :: (.pointer (some ⟨b39, 0, none⟩)) :: L) wd1663 v1669 x1670 ∧ (∀ b, blk v1669 = some b → w.heap.size ≤ b) ∧ (blk v1669 ≠ some b16) ∧ (blk v1669 ≠ some b39) ∧ (blk v1669 ≠ some b8) ∧ Ext w wd1663) hl1712 ⟨([] : List Range), -1, 0, (.slice none 0 0), rfl, rfl, rfl, rfl, rfl, rfl, rfl, rfl, rfl, h1698, h1695, h1696, h1694, (h60.ext e102), (hB56.ext e102), (h59.ext e102), h1700, (fun b h => blk_nil b h), (fun h => by cases h), (fun h => by cases h), (fun h => by cases h), e104⟩ ?_
      rintro _ ρ wd1663 ⟨x1670, x1675, x1680, v1669, rfl, hs1665, hs1666, hs1667, hs1674, hs1676, hs1678, hs1679, hs1681, h1677, h1682, h1685, h1688, hB1684, hB1687, hB1690, h1672, hf1673, hn1691, hn1692, hn1693, e1664⟩ x1714 h hx1715 K1716 hK1716
      refine WC_seqK fun K1719 hK1719 => ?_
      refine WC_region ?_
      refine T0_q (v := (.bool (decide (x1680 < (r96.length : Int))))) rfl (yl_lss hs1681 hs1679) ?_
      refine T0_nil ?_
      refine hK1719 _ _ ?_
      refine WC_seqK fun K1720 hK1720 => ?_
      refine WC_cond (b := (decide (x1680 < (r96.length : Int)))) rfl (fun hb1721 => ?_) (fun hb1721 => ?_)
      · replace h := cond_t hb1721 h
        refine WC_skip ?_
        refine hK1720 _ _ ?_
        refine WC_seqK fun K1722 hK1722 => ?_
        refine WC_block ?_
        refine WC_seqK fun K1723 hK1723 => ?_
        refine WC_region ?_
        obtain ⟨el1724, hel1725, h⟩ := bind_elim h
        obtain ⟨cs1726, hat1727, hrd1728⟩ := SlRd.at h1677 hel1725
        have hrd1728 : cs1726 = [(.int .i64 el1724)] := hrd1728
        subst hrd1728
        refine T0_q (v := (.pointer (some (elemAddr v100 (x1680 : Int).toNat 1)))) rfl (yl_indexAddr Try.underlying22 sz3 h1677 hel1725 hs1678 hs1681) ?_
        refine T0_q (v := (.int .i64 el1724)) rfl (yl_load sc3 rfl hat1727) ?_
        refine T0_q (v := (.int .i64 el1724)) rfl (yl_assign rfl) ?_
        refine T0_nil ?_
        refine hK1723 _ _ ?_
        refine WC_seqK fun K1730 hK1730 => ?_
        refine WC_region ?_
        refine T0_q (v := (.int .i64 el1724)) rfl (yl_move rfl) ?_
        refine T0_q (v := (.pointer (some ⟨b8, 3, none⟩))) rfl (yl_fa 3 Try.underlying24 rfl rfl ⟨0, sz3⟩ hs1665 rfl) ?_
        refine T0_q (v := (.int .i64 p_Listappend.PerVane)) rfl (yl_load sc3 rfl (At.drop (Box.at hB1690) 3)) ?_
        refine T0_q (v := (.int .i64 (w64 (el1724 * p_Listappend.PerVane)))) rfl (yl_mul rfl rfl) ?_
        refine T0_q (v := (.int .i64 (w64 (el1724 * p_Listappend.PerVane)))) rfl (yl_assign rfl) ?_
        refine T0_nil ?_
        refine hK1730 _ _ ?_
        obtain ⟨o2124, hl2125, hn2126⟩ := bind_elim h
        refine WC_post (fun (ρ : Env) (wd2094 : World) => ∃ (x2101 : (List Range)) (x2106 : Int) (v2100 : Value), (x2101, x2106) = o2124 ∧ ρ 2 = (.pointer (some ⟨b8, 0, none⟩)) ∧ ρ 3 = (.pointer (some ⟨b16, 0, none⟩)) ∧ ρ 6 = (.pointer (some ⟨b39, 0, none⟩)) ∧ ρ 8 = v2100 ∧ ρ 9 = (.int .i64 x2106) ∧ ρ 37 = v100 ∧ ρ 38 = (.int .i64 (r96.length : Int)) ∧ ρ 39 = (.int .i64 x1680) ∧ SlRd (v2100 :: (.pointer (some ⟨b39, 0, none⟩)) :: L) wd2094 v100 r96 ∧ SlRd (v2100 :: (.pointer (some ⟨b39, 0, none⟩)) :: L) wd2094 v4 p_String.Seen ∧ SlRd (v2100 :: (.pointer (some ⟨b39, 0, none⟩)) :: L) wd2094 v31 r27.1.LocateTrack.Vanes ∧ SlRd (v2100 :: (.pointer (some ⟨b39, 0, none⟩)) :: L) wd2094 v1 p_Listappend.Vanes ∧ Box wd2094 b16 [v4, (.int .i64 p_String.Count)] 45 ∧ Box wd2094 b39 [v31, (.int .i64 r27.1.LocateTrack.Window), (.int .i64 r27.1.LocateTrack.Tooth), (.int .i64 r27.1.LocateTrack.PerVane), (.int .i64 r27.1.LocateTrack.First), (.int .i64 r27.1.LocateTrack.Modulus), (.int .i64 r27.1.LocateTrack.Slack), (.int .i64 r27.1.LocateTrack.Errors), (.bool r27.1.LocateTrack.Round)] 68 ∧ Box wd2094 b8 [v1, (.int .i64 p_Listappend.Window), (.int .i64 p_Listappend.Tooth), (.int .i64 p_Listappend.PerVane), (.int .i64 p_Listappend.First), (.int .i64 p_Listappend.Modulus), (.int .i64 p_Listappend.Slack), (.int .i64 p_Listappend.Errors), (.bool p_Listappend.Round)] 24 ∧ Own 35 (v2100 :: (.pointer (some ⟨b39, 0, none⟩)) :: L) wd2094 v2100 x2101 ∧ (∀ b, blk v2100 = some b → w.heap.size ≤ b) ∧ (blk v2100 ≠ some b16) ∧ (blk v2100 ≠ some b39) ∧ (blk v2100 ≠ some b8) ∧ Ext w wd2094) ?_ ?_
        · intro K2130 hK2130
          refine WC_block ?_
          refine WC_loopk (fun sv ρ wd2061 => ∃ (x2068 : (List Range)) (x2073 : Int) (x2076 : Int) (v2067 : Value), (x2068, x2073, x2076) = sv ∧ ρ 2 = (.pointer (some ⟨b8, 0, none⟩)) ∧ ρ 3 = (.pointer (some ⟨b16, 0, none⟩)) ∧ ρ 6 = (.pointer (some ⟨b39, 0, none⟩)) ∧ ρ 8 = v2067 ∧ ρ 9 = (.int .i64 x2073) ∧ ρ 11 = (.int .i64 el1724) ∧ ρ 12 = (.int .i64 x2076) ∧ ρ 37 = v100 ∧ ρ 38 = (.int .i64 (r96.length : Int)) ∧ ρ 39 = (.int .i64 x1680) ∧ SlRd (v2067 :: (.pointer (some ⟨b39, 0, none⟩)) :: L) wd2061 v100 r96 ∧ SlRd (v2067 :: (.pointer (some ⟨b39, 0, none⟩)) :: L) wd2061 v4 p_String.Seen ∧ SlRd (v2067 :: (.pointer (some ⟨b39, 0, none⟩)) :: L) wd2061 v31 r27.1.LocateTrack.Vanes ∧ SlRd (v2067 :: (.pointer (some ⟨b39, 0, none⟩)) :: L) wd2061 v1 p_Listappend.Vanes ∧ Box wd2061 b16 [v4, (.int .i64 p_String.Count)] 45 ∧ Box wd2061 b39 [v31, (.int .i64 r27.1.LocateTrack.Window), (.int .i64 r27.1.LocateTrack.Tooth), (.int .i64 r27.1.LocateTrack.PerVane), (.int .i64 r27.1.LocateTrack.First), (.int .i64 r27.1.LocateTrack.Modulus), (.int .i64 r27.1.LocateTrack.Slack), (.int .i64 r27.1.LocateTrack.Errors), (.bool r27.1.LocateTrack.Round)] 68 ∧ Box wd2061 b8 [v1, (.int .i64 p_Listappend.Window), (.int .i64 p_Listappend.Tooth), (.int .i64 p_Listappend.PerVane), (.int .i64 p_Listappend.First), (.int .i64 p_Listappend.Modulus), (.int .i64 p_Listappend.Slack), (.int .i64 p_Listappend.Errors), (.bool p_Listappend.Round)] 24 ∧ Own 35 (v2067 :: (.pointer (some ⟨b39, 0, none⟩)) :: L) wd2061 v2067 x2068 ∧ (∀ b, blk v2067 = some b → w.heap.size ≤ b) ∧ (blk v2067 ≠ some b16) ∧ (blk v2067 ≠ some b39) ∧ (blk v2067 ≠ some b8) ∧ Ext w wd2061) hl2125 ⟨x1670, x1675, w64 (el1724 * p_Listappend.PerVane), v1669, rfl, hs1665, hs1666, hs1667, hs1674, hs1676, rfl, rfl, hs1678, hs1679, hs1681, h1677, h1682, h1685, h1688, hB1684, hB1687, hB1690, h1672, hf1673, hn1691, hn1692, hn1693, e1664⟩ ?_
          rintro _ ρ wd2061 ⟨x2068, x2073, x2076, v2067, rfl, hs2063, hs2064, hs2065, hs2072, hs2074, hs2075, hs2077, hs2079, hs2080, hs2081, h2078, h2082, h2085, h2088, hB2084, hB2087, hB2090, h2070, hf2071, hn2091, hn2092, hn2093, e2062⟩ x2127 h hx2128 K2129 hK2129
          refine WC_seqK fun K2132 hK2132 => ?_
          refine WC_seqK fun K2133 hK2133 => ?_
          refine WC_region ?_
          refine T0_q (v := (.int .i64 x2076)) rfl (yl_move hs2077) ?_
          refine T0_q (v := (.int .i64 el1724)) rfl (yl_move hs2075) ?_
          refine T0_q (v := (.int .i64 (w64 (el1724 + 1)))) rfl (yl_add rfl rfl) ?_
          refine T0_q (v := (.pointer (some ⟨b8, 3, none⟩))) rfl (yl_fa 3 Try.underlying24 rfl rfl ⟨0, sz3⟩ hs2063 rfl) ?_
          refine T0_q (v := (.int .i64 p_Listappend.PerVane)) rfl (yl_load sc3 rfl (At.drop (Box.at hB2090) 3)) ?_
          refine T0_q (v := (.int .i64 (w64 ((w64 (el1724 + 1)) * p_Listappend.PerVane)))) rfl (yl_mul rfl rfl) ?_
          refine T0_q (v := (.bool (decide (x2076 < w64 ((w64 (el1724 + 1)) * p_Listappend.PerVane))))) rfl (yl_lss rfl rfl) ?_
          refine T0_nil ?_
          refine hK2133 _ _ ?_
          refine WC_cond (b := (decide (x2076 < w64 ((w64 (el1724 + 1)) * p_Listappend.PerVane)))) rfl (fun hb2134 => ?_) (fun hb2134 => ?_)
          · replace h := cond_t hb2134 h
            refine WC_skip ?_
            refine hK2132 _ _ ?_
            refine WC_seqK fun K2135 hK2135 => ?_
            refine WC_block ?_
            refine WC_seqK fun K2136 hK2136 => ?_
            refine WC_plan mixed (.p 0 (.p 1 (.p 4 (.p 7 (.p 10 (.q 2 (.p 3 (.q 5 (.p 6 (.q 8 (.p 9 (.q 11 (.p 12 (.p 13 .done)))))))))))))) (by kernel_rfl) ?_
            intro wd2137 he2138
            have e2139 := e2062.trans he2138
            refine TP_p (v := (.int .i64 x2076)) rfl rfl (fun w' => (yl_move hs2077)) ?_
            refine TP_p (v := (.pointer (some ⟨b8, 5, none⟩))) rfl rfl (fun w' => (yl_fa 5 Try.underlying24 rfl rfl ⟨0, sz3⟩ hs2063 rfl)) ?_
            refine TP_p (v := (.pointer (some ⟨b8, 5, none⟩))) rfl rfl (fun w' => (yl_fa 5 Try.underlying24 rfl rfl ⟨0, sz3⟩ hs2063 rfl)) ?_
            refine TP_p (v := (.pointer (some ⟨b16, 1, none⟩))) rfl rfl (fun w' => (yl_fa 1 Try.underlying45 rfl rfl ⟨0, sz3⟩ hs2064 rfl)) ?_
            refine TP_p (v := (.pointer (some ⟨b8, 5, none⟩))) rfl rfl (fun w' => (yl_fa 5 Try.underlying24 rfl rfl ⟨0, sz3⟩ hs2063 rfl)) ?_
            refine TP_q (v := (.int .i64 p_Listappend.Modulus)) rfl rfl (fun w' hS => (yl_load sc3 rfl (At.drop (Box.at (hB2090.ext ((he2138).trans hS))) 5))) ?_
            obtain ⟨q2140, hq2141, h⟩ := bind_elim h
            refine TP_p (v := (.int .i64 q2140)) rfl rfl (fun w' => (yl_rem' hq2141 rfl rfl)) ?_
            refine TP_q (v := (.int .i64 p_Listappend.Modulus)) rfl rfl (fun w' hS => (yl_load sc3 rfl (At.drop (Box.at (hB2090.ext ((he2138).trans hS))) 5))) ?_
            refine TP_p (v := (.int .i64 (w64 (q2140 + p_Listappend.Modulus)))) rfl rfl (fun w' => (yl_add rfl rfl)) ?_
            refine TP_q (v := (.int .i64 p_String.Count)) rfl rfl (fun w' hS => (yl_load sc3 rfl (At.drop (Box.at (hB2084.ext ((he2138).trans hS))) 1))) ?_
            refine TP_p (v := (.int .i64 (w64 ((w64 (q2140 + p_Listappend.Modulus)) - p_String.Count)))) rfl rfl (fun w' => (yl_sub rfl rfl)) ?_
            refine TP_q (v := (.int .i64 p_Listappend.Modulus)) rfl rfl (fun w' hS => (yl_load sc3 rfl (At.drop (Box.at (hB2090.ext ((he2138).trans hS))) 5))) ?_
            obtain ⟨q2142, hq2143, h⟩ := bind_elim h
            refine TP_p (v := (.int .i64 q2142)) rfl rfl (fun w' => (yl_rem' hq2143 rfl rfl)) ?_
            refine TP_p (v := (.int .i64 q2142)) rfl rfl (fun w' => (yl_assign rfl)) ?_
            refine TP_done ?_
            refine hK2136 _ _ ?_
            refine WC_seqK fun K2144 hK2144 => ?_
            refine WC_seqK fun K2145 hK2145 => ?_
            refine WC_region ?_
            refine T0_q (v := (.int .i64 q2142)) rfl (yl_move rfl) ?_
            refine T0_q (v := (.pointer (some ⟨b8, 5, none⟩))) rfl (yl_fa 5 Try.underlying24 rfl rfl ⟨0, sz3⟩ hs2063 rfl) ?_
            refine T0_q (v := (.int .i64 p_Listappend.Modulus)) rfl (yl_load sc3 rfl (At.drop (Box.at (hB2090.ext he2138)) 5)) ?_
            refine T0_q (v := (.int .i64 q2142)) rfl (yl_move rfl) ?_
            refine T0_q (v := (.int .i64 (w64 (p_Listappend.Modulus - q2142)))) rfl (yl_sub rfl rfl) ?_
            refine T0_q (v := (.int .i64 (if w64 (p_Listappend.Modulus - q2142) < q2142 then w64 (p_Listappend.Modulus - q2142) else q2142))) rfl (yl_min rfl rfl) ?_
            refine T0_q (v := (.pointer (some ⟨b8, 6, none⟩))) rfl (yl_fa 6 Try.underlying24 rfl rfl ⟨0, sz3⟩ hs2063 rfl) ?_
            refine T0_q (v := (.int .i64 p_Listappend.Slack)) rfl (yl_load sc3 rfl (At.drop (Box.at (hB2090.ext he2138)) 6)) ?_
            refine T0_q (v := (.bool (decide (p_Listappend.Slack < (if w64 (p_Listappend.Modulus - q2142) < q2142 then w64 (p_Listappend.Modulus - q2142) else q2142))))) rfl (yl_gtr rfl rfl) ?_
            refine T0_nil ?_
            refine hK2145 _ _ ?_
            refine WC_cond (b := (decide (p_Listappend.Slack < (if w64 (p_Listappend.Modulus - q2142) < q2142 then w64 (p_Listappend.Modulus - q2142) else q2142)))) rfl (fun hb2146 => ?_) (fun hb2146 => ?_)
            · replace h := cond_t hb2146 h
              refine WC_exit ?_
              refine hK2135 _ _ ?_
              refine WC_region ?_
              refine T0_q (v := (.int .i64 x2076)) rfl (yl_move hs2077) ?_
              refine T0_q (v := (.int .i64 (w64 (x2076 + 1)))) rfl (yl_add rfl rfl) ?_
              refine T0_q (v := (.int .i64 (w64 (x2076 + 1)))) rfl (yl_assign rfl) ?_
              refine T0_nil ?_
              replace h := some_out h
              subst h
              refine hK2129 _ _ _ rfl ?_
              exact ⟨x2068, x2073, w64 (x2076 + 1), v2067, rfl, hs2063, hs2064, hs2065, hs2072, hs2074, hs2075, rfl, hs2079, hs2080, hs2081, (h2078.ext he2138), (h2082.ext he2138), (h2085.ext he2138), (h2088.ext he2138), (hB2084.ext he2138), (hB2087.ext he2138), (hB2090.ext he2138), (h2070.ext he2138), hf2071, hn2091, hn2092, hn2093, e2139⟩
            · replace h := cond_f hb2146 h
              refine WC_skip ?_
              refine hK2144 _ _ ?_
              refine WC_seqK fun K2147 hK2147 => ?_
              refine WC_seqK fun K2148 hK2148 => ?_
              refine WC_region ?_
              refine T0_q (v := v2067) rfl (yl_move hs2072) ?_
              refine T0_q (v := (.int .i64 (x2068.length : Int))) rfl (yl_lenO rfl Try.underlying33 h2070 rfl) ?_
              refine T0_q (v := (.bool (decide (0 < (x2068.length : Int))))) rfl (yl_gtr rfl rfl) ?_
              refine T0_q (v := (.bool (decide (0 < (x2068.length : Int))))) rfl (yl_move rfl) ?_
              refine T0_g (v := (.int .i64 x2073)) (decide (0 < (x2068.length : Int))) (wanted_t rfl rfl rfl rfl) (fun hg => (yl_move hs2074)) ?_
              refine T0_g (v := (.int .i64 x2076)) (decide (0 < (x2068.length : Int))) (wanted_t rfl rfl rfl rfl) (fun hg => (yl_move hs2077)) ?_
              refine T0_g (v := (.int .i64 (w64 (x2076 - 1)))) (decide (0 < (x2068.length : Int))) (wanted_t rfl rfl rfl rfl) (fun hg => (yl_sub (gd_true hg) rfl)) ?_
              refine T0_g (v := (.bool (decide (x2073 = w64 (x2076 - 1))))) (decide (0 < (x2068.length : Int))) (wanted_t rfl rfl rfl rfl) (fun hg => (yl_eql (gd_true hg) (gd_true hg))) ?_
              refine T0_q (v := (.bool ((decide (0 < (x2068.length : Int))) && (decide (x2073 = w64 (x2076 - 1)))))) rfl (yl_and rfl (fun hb => (gd_true hb)) rfl) ?_
              refine T0_nil ?_
              refine hK2148 _ _ ?_
              refine WC_cond (b := ((decide (0 < (x2068.length : Int))) && (decide (x2073 = w64 (x2076 - 1))))) rfl (fun hb2149 => ?_) (fun hb2149 => ?_)
              · replace h := cond_t hb2149 h
                refine WC_region ?_
                refine T0_q (v := v2067) rfl (yl_move hs2072) ?_
                refine T0_q (v := v2067) rfl (yl_move hs2072) ?_
                refine T0_q (v := (.int .i64 (x2068.length : Int))) rfl (yl_lenO rfl Try.underlying33 h2070 rfl) ?_
                refine T0_q (v := (.int .i64 (w64 ((x2068.length : Int) - 1)))) rfl (yl_sub rfl rfl) ?_
                refine T0_q (v := (.agg (List.toArray [v31, (.int .i64 r27.1.LocateTrack.Window), (.int .i64 r27.1.LocateTrack.Tooth), (.int .i64 r27.1.LocateTrack.PerVane), (.int .i64 r27.1.LocateTrack.First), (.int .i64 r27.1.LocateTrack.Modulus), (.int .i64 r27.1.LocateTrack.Slack), (.int .i64 r27.1.LocateTrack.Errors), (.bool r27.1.LocateTrack.Round)]))) rfl (yl_loadA (cs := [v31, (.int .i64 r27.1.LocateTrack.Window), (.int .i64 r27.1.LocateTrack.Tooth), (.int .i64 r27.1.LocateTrack.PerVane), (.int .i64 r27.1.LocateTrack.First), (.int .i64 r27.1.LocateTrack.Modulus), (.int .i64 r27.1.LocateTrack.Slack), (.int .i64 r27.1.LocateTrack.Errors), (.bool r27.1.LocateTrack.Round)]) ag68 hs2065 (Box.at (hB2087.ext he2138))) ?_
                refine T0_q (v := (.int .i64 x2076)) rfl (yl_move hs2077) ?_
                refine T0_q (v := (.int .i64 x2076)) rfl (yl_move hs2077) ?_
                obtain ⟨r2150, hr2151, h⟩ := bind_elim h
                refine T0_e rfl (eff_call Try.func29 nm29 rfl (ev3 rfl rfl rfl) (locate_track_places_ok [] _ (LtL.nil _) [v31, (.int .i64 r27.1.LocateTrack.Window), (.int .i64 r27.1.LocateTrack.Tooth), (.int .i64 r27.1.LocateTrack.PerVane), (.int .i64 r27.1.LocateTrack.First), (.int .i64 r27.1.LocateTrack.Modulus), (.int .i64 r27.1.LocateTrack.Slack), (.int .i64 r27.1.LocateTrack.Errors), (.bool r27.1.LocateTrack.Round)] (locate_track.mk (LocateTrack.mk r27.1.LocateTrack.Vanes r27.1.LocateTrack.Window r27.1.LocateTrack.Tooth r27.1.LocateTrack.PerVane r27.1.LocateTrack.First r27.1.LocateTrack.Modulus r27.1.LocateTrack.Slack r27.1.LocateTrack.Errors r27.1.LocateTrack.Round)) ⟨v31, ((h2085.ext he2138).sub (fun _ h => by cases h)), rfl⟩ x2076 x2076 r2150 hr2151) ?_)
                rintro _ wd2152 ⟨he2153, cs2154, rfl, hrd2155⟩
                have e2156 := he2138.trans he2153
                have e2157 := e2139.trans he2153
                have hrd2155 : cs2154 = [(.int .i64 r2150.Lo), (.int .i64 r2150.Hi)] := hrd2155
                subst hrd2155
                refine T0_q (v := (.int .i64 r2150.Hi)) rfl (yl_fieldS Try.underlying35 rfl sc3 rfl rfl) ?_
                obtain ⟨el2158, hel2159, h⟩ := bind_elim h
                obtain ⟨cs2160, hat2161, hrd2162⟩ := Own.at h2070 hel2159
                have hrd2162 : cs2160 = [(.int .i64 el2158.Lo), (.int .i64 el2158.Hi)] := hrd2162
                subst hrd2162
                refine T0_q (v := (.pointer (some (elemAddr v2067 (w64 ((x2068.length : Int) - 1) : Int).toNat 2)))) rfl (yl_indexAddrO Try.underlying33 sz35 h2070 hel2159 rfl rfl) ?_
                refine T0_q (v := (.pointer (some (Addr.add (elemAddr v2067 (w64 ((x2068.length : Int) - 1) : Int).toNat 2) 1)))) rfl (yl_fa 1 Try.underlying35 rfl rfl ⟨0, sz3⟩ rfl rfl) ?_
                refine T0_e rfl (eff_storeOC (vs := [(.int .i64 r2150.Hi)]) (off := 1) (y' := (Range.mk el2158.Lo r2150.Hi)) sz3 rfl rfl (h2070.ext e2156) mem0 hel2159 rfl rfl rfl (oc_cons rfl oc_nil) (fun w' cs hcs => by have hcs : cs = [(.int .i64 el2158.Lo), (.int .i64 el2158.Hi)] := hcs; subst hcs; rfl) ?_)
                intro wd2164 hc2165 hB2166
                have h2167 := (h2078.ext e2156).step (Stepp.chg_mem hc2165 mem0)
                have h2168 := (h2082.ext e2156).step (Stepp.chg_mem hc2165 mem0)
                have h2169 := (hB2084.ext e2156).chg hc2165 (avoid1 hn2091)
                have h2170 := (h2085.ext e2156).step (Stepp.chg_mem hc2165 mem0)
                have h2171 := (hB2087.ext e2156).chg hc2165 (avoid1 hn2092)
                have h2172 := (h2088.ext e2156).step (Stepp.chg_mem hc2165 mem0)
                have h2173 := (hB2090.ext e2156).chg hc2165 (avoid1 hn2093)
                have e2174 := chg_own e2157 hc2165 hf2071
                refine T0_nil ?_
                refine hK2147 _ _ ?_
                refine WC_region ?_
                refine T0_q (v := (.int .i64 x2076)) rfl (yl_move hs2077) ?_
                refine T0_q (v := (.int .i64 x2076)) rfl (yl_assign rfl) ?_
                refine T0_nil ?_
                refine hK2135 _ _ ?_
                refine WC_region ?_
                refine T0_q (v := (.int .i64 x2076)) rfl (yl_move hs2077) ?_
                refine T0_q (v := (.int .i64 (w64 (x2076 + 1)))) rfl (yl_add rfl rfl) ?_
                refine T0_q (v := (.int .i64 (w64 (x2076 + 1)))) rfl (yl_assign rfl) ?_
                refine T0_nil ?_
                replace h := some_out h
                subst h
                refine hK2129 _ _ _ rfl ?_
                exact ⟨(x2068.set (w64 ((x2068.length : Int) - 1) : Int).toNat (Range.mk el2158.Lo r2150.Hi)), x2076, w64 (x2076 + 1), v2067, rfl, hs2063, hs2064, hs2065, hs2072, rfl, hs2075, rfl, hs2079, hs2080, hs2081, h2167, h2168, h2170, h2172, h2169, h2171, h2173, hB2166, hf2071, hn2091, hn2092, hn2093, e2174⟩
              · replace h := cond_f hb2149 h
                refine WC_region ?_
                refine T0_q (v := v2067) rfl (yl_move hs2072) ?_
                refine T0_q (v := (.agg (List.toArray [v31, (.int .i64 r27.1.LocateTrack.Window), (.int .i64 r27.1.LocateTrack.Tooth), (.int .i64 r27.1.LocateTrack.PerVane), (.int .i64 r27.1.LocateTrack.First), (.int .i64 r27.1.LocateTrack.Modulus), (.int .i64 r27.1.LocateTrack.Slack), (.int .i64 r27.1.LocateTrack.Errors), (.bool r27.1.LocateTrack.Round)]))) rfl (yl_loadA (cs := [v31, (.int .i64 r27.1.LocateTrack.Window), (.int .i64 r27.1.LocateTrack.Tooth), (.int .i64 r27.1.LocateTrack.PerVane), (.int .i64 r27.1.LocateTrack.First), (.int .i64 r27.1.LocateTrack.Modulus), (.int .i64 r27.1.LocateTrack.Slack), (.int .i64 r27.1.LocateTrack.Errors), (.bool r27.1.LocateTrack.Round)]) ag68 hs2065 (Box.at (hB2087.ext he2138))) ?_
                refine T0_q (v := (.int .i64 x2076)) rfl (yl_move hs2077) ?_
                refine T0_q (v := (.int .i64 x2076)) rfl (yl_move hs2077) ?_
                obtain ⟨r2175, hr2176, h⟩ := bind_elim h
                refine T0_e rfl (eff_call Try.func29 nm29 rfl (ev3 rfl rfl rfl) (locate_track_places_ok [] _ (LtL.nil _) [v31, (.int .i64 r27.1.LocateTrack.Window), (.int .i64 r27.1.LocateTrack.Tooth), (.int .i64 r27.1.LocateTrack.PerVane), (.int .i64 r27.1.LocateTrack.First), (.int .i64 r27.1.LocateTrack.Modulus), (.int .i64 r27.1.LocateTrack.Slack), (.int .i64 r27.1.LocateTrack.Errors), (.bool r27.1.LocateTrack.Round)] (locate_track.mk (LocateTrack.mk r27.1.LocateTrack.Vanes r27.1.LocateTrack.Window r27.1.LocateTrack.Tooth r27.1.LocateTrack.PerVane r27.1.LocateTrack.First r27.1.LocateTrack.Modulus r27.1.LocateTrack.Slack r27.1.LocateTrack.Errors r27.1.LocateTrack.Round)) ⟨v31, ((h2085.ext he2138).sub (fun _ h => by cases h)), rfl⟩ x2076 x2076 r2175 hr2176) ?_)
                rintro _ wd2177 ⟨he2178, cs2179, rfl, hrd2180⟩
                have e2181 := he2138.trans he2178
                have e2182 := e2139.trans he2178
                have hrd2180 : cs2179 = [(.int .i64 r2175.Lo), (.int .i64 r2175.Hi)] := hrd2180
                subst hrd2180
                refine T0_e rfl (eff_buildTC (xs := ([r2175] : List Range)) (cells := [(.int .i64 r2175.Lo), (.int .i64 r2175.Hi)]) Try.underlying33 ei35 rfl (pc_cons rfl rfl pc_nil) rfl (Elems.cons (cs := [(.int .i64 r2175.Lo), (.int .i64 r2175.Hi)]) rfl Elems.nil) rfl (ltl_own (ltl_box (hL.chg e2182) (hB2087.ext e2181)) (h2070.ext e2181)) ?_)
                intro b2186 wd2183 he2184 h2185
                have e2187 := e2181.trans he2184
                have e2188 := e2182.trans he2184
                obtain ⟨zs2190, hz2191, h⟩ := bind_elim h
                refine T0_e rfl (eff_app Try.underlying33 ei35 rfl rfl rfl rfl (h2070.ext e2187) h2185 hz2191 ?_)
                intro v2192 wd2193 hc2194 hbl2195 h2196
                have hn2198 : blk v2192 ≠ some b16 := ne_swap hbl2195 hn2091 (hB2084.ext e2187)
                have hn2199 : blk v2192 ≠ some b39 := ne_swap hbl2195 hn2092 (hB2087.ext e2187)
                have hn2200 : blk v2192 ≠ some b8 := ne_swap hbl2195 hn2093 (hB2090.ext e2187)
                have hf2201 := fresh_swap hbl2195 hf2071 e2188.size
                have h2202 := (h2078.ext e2187).step (Stepp.swap hc2194 hbl2195)
                have h2203 := (h2082.ext e2187).step (Stepp.swap hc2194 hbl2195)
                have h2204 := (hB2084.ext e2187).chg hc2194 (avoid1 hn2091)
                have h2205 := (h2085.ext e2187).step (Stepp.swap hc2194 hbl2195)
                have h2206 := (hB2087.ext e2187).chg hc2194 (avoid1 hn2092)
                have h2207 := (h2088.ext e2187).step (Stepp.swap hc2194 hbl2195)
                have h2208 := (hB2090.ext e2187).chg hc2194 (avoid1 hn2093)
                have h2209 := h2185.step (Stepp.swap hc2194 hbl2195)
                have e2210 := chg_own e2188 hc2194 hf2071
                refine T0_q (v := v2192) rfl (yl_assign rfl) ?_
                refine T0_nil ?_
                refine hK2147 _ _ ?_
                refine WC_region ?_
                refine T0_q (v := (.int .i64 x2076)) rfl (yl_move hs2077) ?_
                refine T0_q (v := (.int .i64 x2076)) rfl (yl_assign rfl) ?_
                refine T0_nil ?_
                refine hK2135 _ _ ?_
                refine WC_region ?_
                refine T0_q (v := (.int .i64 x2076)) rfl (yl_move hs2077) ?_
                refine T0_q (v := (.int .i64 (w64 (x2076 + 1)))) rfl (yl_add rfl rfl) ?_
                refine T0_q (v := (.int .i64 (w64 (x2076 + 1)))) rfl (yl_assign rfl) ?_
                refine T0_nil ?_
                replace h := some_out h
                subst h
                refine hK2129 _ _ _ rfl ?_
                exact ⟨zs2190, x2076, w64 (x2076 + 1), v2192, rfl, hs2063, hs2064, hs2065, rfl, rfl, hs2075, rfl, hs2079, hs2080, hs2081, h2202, h2203, h2205, h2207, h2204, h2206, h2208, h2196, hf2201, hn2198, hn2199, hn2200, e2210⟩
          · replace h := cond_f hb2134 h
            refine WC_exit ?_
            replace h := some_out h
            subst h
            have ho := hx2128 _ rfl
            subst ho
            refine hK2130 _ _ ?_
            exact ⟨x2068, x2073, v2067, rfl, hs2063, hs2064, hs2065, hs2072, hs2074, hs2079, hs2080, hs2081, h2078, h2082, h2085, h2088, hB2084, hB2087, hB2090, h2070, hf2071, hn2091, hn2092, hn2093, e2062⟩
        · rintro ρ wd2094 ⟨x2101, x2106, v2100, rfl, hs2096, hs2097, hs2098, hs2105, hs2107, hs2109, hs2110, hs2111, h2108, h2112, h2115, h2118, hB2114, hB2117, hB2120, h2103, hf2104, hn2121, hn2122, hn2123, e2095⟩
          replace h := hn2126
          refine hK1722 _ _ ?_
          refine WC_region ?_
          refine T0_q (v := (.int .i64 (w64 (x1680 + 1)))) rfl (yl_add hs2111 rfl) ?_
          refine T0_q (v := (.int .i64 (w64 (x1680 + 1)))) rfl (yl_move rfl) ?_
          refine T0_nil ?_
          replace h := some_out h
          subst h
          refine hK1716 _ _ _ rfl ?_
          exact ⟨x2101, x2106, w64 (x1680 + 1), v2100, rfl, hs2096, hs2097, hs2098, hs2105, hs2107, hs2109, hs2110, rfl, h2108, h2112, h2115, h2118, hB2114, hB2117, hB2120, h2103, hf2104, hn2121, hn2122, hn2123, e2095⟩
      · replace h := cond_f hb1721 h
        refine WC_exit ?_
        replace h := some_out h
        subst h
        have ho := hx1715 _ rfl
        subst ho
        refine hK1717 _ _ ?_
        exact ⟨x1670, v1669, rfl, hs1674, (h1672.sub (sub_cons mem0 (sub_skip (sub_skip (sub_refl _))))), hf1673, e1664⟩
    · rintro ρ wd1702 ⟨x1706, v1705, rfl, hs1710, h1708, hf1709, e1703⟩
      replace h := hn1713
      refine hK94 _ _ ?_
      refine WC_seqK fun K2212 hK2212 => ?_
      refine WC_region ?_
      refine T0_q (v := v1705) rfl (yl_move hs1710) ?_
      refine T0_q (v := v1705) rfl (yl_assign rfl) ?_
      refine T0_q (v := (.int .i64 0)) rfl (yl_assign rfl) ?_
      refine T0_nil ?_
      refine hK2212 _ _ ?_
      refine WC_ret ?_
      replace h := some_out h
      subst h
      exact ⟨[v1705, (.int .i64 0)], ⟨rfl, rfl, trivial⟩, e1703, v1705, rfl, (h1708.rdL (sub_skip (sub_refl _)) hL hf1709)⟩

noncomputable def locate_PlaceOf_spec (p_t : LocateTrack) (p_x : LocateReading) : Option (Range × Int) :=
  (Option.bind (locate_Possible_spec p_t p_x) fun r40 =>
  (Option.bind (locate_only_api_Range_spec r40.1 r40.2) fun r50 =>
  some ((Range.mk r50.1.Lo r50.1.Hi), r50.2)
  )
  )
theorem locate_PlaceOf_ok (L : List Value) (w : World) (hL : LtL L w) (cs_p_t : List Value) (p_t : LocateTrack) (h_p_t : Rep.rd L w cs_p_t p_t) (cs_p_x : List Value) (p_x : LocateReading) (h_p_x : Rep.rd L w cs_p_x p_x) (r : Range × Int) (h : locate_PlaceOf_spec p_t p_x = some r) :
    CallsTo Try.prog 14 [(.agg cs_p_t.toArray), (.agg cs_p_x.toArray)] w (fun v w' => Ext w w' ∧ ∃ (cs0 : List Value), (.tuple #[(.agg cs0.toArray), (.int .i64 r.2)]) = v ∧ Rep.rd L w' cs0 r.1) := by
  have e0 : Ext w w := Chg.refl _ _
  obtain ⟨v1, h2, rfl⟩ := h_p_t
  obtain ⟨v4, h5, rfl⟩ := h_p_x
  refine callsTo_of_WC (n := 14) (rs := [.cell 4 35, .tmp 5]) Try.func14 rfl rfl rfl rfl rfl ?_
  refine WC_seqK fun K7 hK7 => ?_
  refine WC_region ?_
  refine T0_e rfl (eff_boxC (cs := [v1, (.int .i64 p_t.Window), (.int .i64 p_t.Tooth), (.int .i64 p_t.PerVane), (.int .i64 p_t.First), (.int .i64 p_t.Modulus), (.int .i64 p_t.Slack), (.int .i64 p_t.Errors), (.bool p_t.Round)]) rfl rfl ?_)
  intro b8 wd9 hb10 he11 hB12
  have hbf13 := bfresh e0 hb10
  have e14 := e0.trans he11
  refine T0_e rfl (eff_boxC (cs := [v4, (.int .i64 p_x.Count)]) rfl rfl ?_)
  intro b16 wd17 hb18 he19 hB20
  have hn21 : b16 ≠ b8 := box_ne hB12 hb18
  have hbf22 := bfresh e14 hb18
  have e23 := he11.trans he19
  have e24 := e14.trans he19
  refine T0_e rfl (eff_allocZ zi35 ?_)
  intro b26 wd27 hb28 he29 hB30
  have hn31 : b26 ≠ b8 := box_ne (hB12.ext he19) hb28
  have hn32 : b26 ≠ b16 := box_ne hB20 hb28
  have hbf33 := bfresh e24 hb28
  have h34 := (h2.ext e23).step (add_box he29 hb28)
  have h35 := (h5.ext e23).step (add_box he29 hb28)
  have e36 := he19.trans he29
  have e37 := e24.trans he29
  refine T0_q (v := (.int .i64 0)) rfl (yl_assign rfl) ?_
  refine T0_nil ?_
  refine hK7 _ _ ?_
  refine WC_seqK fun K39 hK39 => ?_
  refine WC_region ?_
  refine T0_q (v := (.agg (List.toArray [v1, (.int .i64 p_t.Window), (.int .i64 p_t.Tooth), (.int .i64 p_t.PerVane), (.int .i64 p_t.First), (.int .i64 p_t.Modulus), (.int .i64 p_t.Slack), (.int .i64 p_t.Errors), (.bool p_t.Round)]))) rfl (yl_loadA (cs := [v1, (.int .i64 p_t.Window), (.int .i64 p_t.Tooth), (.int .i64 p_t.PerVane), (.int .i64 p_t.First), (.int .i64 p_t.Modulus), (.int .i64 p_t.Slack), (.int .i64 p_t.Errors), (.bool p_t.Round)]) ag24 rfl (Box.at (hB12.ext e36))) ?_
  refine T0_q (v := (.agg (List.toArray [v4, (.int .i64 p_x.Count)]))) rfl (yl_loadA (cs := [v4, (.int .i64 p_x.Count)]) ag45 rfl (Box.at (hB20.ext he29))) ?_
  obtain ⟨r40, hr41, h⟩ := bind_elim h
  refine T0_e rfl (eff_call Try.func34 nm34 rfl (ev2 rfl rfl) (locate_Possible_ok ((.pointer (some ⟨b26, 0, none⟩)) :: L) _ (ltl_box (hL.chg e37) hB30) [v1, (.int .i64 p_t.Window), (.int .i64 p_t.Tooth), (.int .i64 p_t.PerVane), (.int .i64 p_t.First), (.int .i64 p_t.Modulus), (.int .i64 p_t.Slack), (.int .i64 p_t.Errors), (.bool p_t.Round)] p_t ⟨v1, h34, rfl⟩ [v4, (.int .i64 p_x.Count)] p_x ⟨v4, h35, rfl⟩ r40 hr41) ?_)
  rintro _ wd42 ⟨he43, v44, rfl, h45⟩
  have e46 := he29.trans he43
  have e47 := e36.trans he43
  have e48 := e37.trans he43
  refine T0_q (v := v44) rfl (yl_extract rfl rfl) ?_
  refine T0_q (v := (.int .i64 r40.2)) rfl (yl_extract rfl rfl) ?_
  obtain ⟨r50, hr51, h⟩ := bind_elim h
  refine T0_e rfl (eff_call Try.func33 nm33 rfl (ev2 rfl rfl) (locate_only_api_Range_ok [] _ (LtL.nil _) v44 r40.1 (h45.sub (fun _ h => by cases h)) r40.2 r50 hr51) ?_)
  rintro _ wd52 ⟨he53, cs54, rfl, hrd55⟩
  have e56 := e46.trans he53
  have e57 := he43.trans he53
  have e58 := e47.trans he53
  have e59 := e48.trans he53
  have hrd55 : cs54 = [(.int .i64 r50.1.Lo), (.int .i64 r50.1.Hi)] := hrd55
  subst hrd55
  refine T0_q (v := (.agg (List.toArray [(.int .i64 r50.1.Lo), (.int .i64 r50.1.Hi)]))) rfl (yl_extract rfl rfl) ?_
  refine T0_q (v := (.int .i64 r50.2)) rfl (yl_extract rfl rfl) ?_
  refine T0_e rfl (eff_storeC (vs := [(.int .i64 r50.1.Lo), (.int .i64 r50.1.Hi)]) (cs' := [(.int .i64 r50.1.Lo), (.int .i64 r50.1.Hi)]) sz35 rfl rfl rfl rfl (hB30.ext e57) rfl (oc_cons rfl (oc_cons rfl oc_nil)) rfl ?_)
  intro wd60 hc61 hB62
  have h63 := (h34.ext e57).step (Stepp.chg_mem hc61 mem0)
  have h64 := (h35.ext e57).step (Stepp.chg_mem hc61 mem0)
  have h65 := (hB12.ext e58).chg hc61 (avoidb hn31)
  have h66 := (hB20.ext e56).chg hc61 (avoidb hn32)
  have h67 := (h45.ext he53).step (Stepp.chg_mem hc61 mem0)
  have e68 := chg_box e59 hc61 hbf33
  refine T0_q (v := (.int .i64 r50.2)) rfl (yl_assign rfl) ?_
  refine T0_nil ?_
  refine hK39 _ _ ?_
  refine WC_ret ?_
  replace h := some_out h
  subst h
  exact ⟨[(.agg (List.toArray [(.int .i64 r50.1.Lo), (.int .i64 r50.1.Hi)])), (.int .i64 r50.2)], ⟨⟨_, rfl, run_loadVarA (cs := [(.int .i64 r50.1.Lo), (.int .i64 r50.1.Hi)]) ag35 (Box.at hB62)⟩, rfl, trivial⟩, e68, [(.int .i64 r50.1.Lo), (.int .i64 r50.1.Hi)], rfl, rfl⟩

end Go.Gw
