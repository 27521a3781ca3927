/- What functions come to, printed by a program of this work. No condition. -/
import Derived.Test.YtgpapebgdnimfaaDoorGwFnB
set_option maxRecDepth 4096
set_option maxHeartbeats 1000000
set_option linter.unusedVariables false
namespace Go.Gw
open Go Go.Proofs
attribute [local irreducible] T0 TS TT TP Eff Stp WC Quiet gd
noncomputable def locate_Possible_s0 (el1724 : Int) (p_Listappend : LocateTrack) (p_String : LocateReading) (r27 : (locate_track × Int)) : ((List Range) × Int × Int) → Option (((List Range) × Int × Int) ⊕ ((List Range) × Int)) := fun (x2068, x2073, x2076) =>
  (bif (decide (x2076 < w64 ((w64 (el1724 + 1)) * p_Listappend.PerVane))) then (
    (Option.bind (rem x2076 p_Listappend.Modulus) fun q2140 =>
    (Option.bind (rem (w64 ((w64 (q2140 + p_Listappend.Modulus)) - p_String.Count)) p_Listappend.Modulus) fun q2142 =>
    (bif (decide (p_Listappend.Slack < (if w64 (p_Listappend.Modulus - q2142) < q2142 then w64 (p_Listappend.Modulus - q2142) else q2142))) then (
      some (.inl (x2068, x2073, w64 (x2076 + 1)))
    ) else (
      (bif ((decide (0 < (x2068.length : Int))) && (decide (x2073 = w64 (x2076 - 1)))) then (
        (Option.bind (locate_track_places_spec (locate_track.mk (LocateTrack.mk r27.1.LocateTrack.Vanes r27.1.LocateTrack.Window r27.1.LocateTrack.Tooth r27.1.LocateTrack.PerVane r27.1.LocateTrack.First r27.1.LocateTrack.Modulus r27.1.LocateTrack.Slack r27.1.LocateTrack.Errors r27.1.LocateTrack.Round)) x2076 x2076) fun r2150 =>
        (Option.bind (idx x2068 (w64 ((x2068.length : Int) - 1))) fun el2158 =>
        some (.inl ((x2068.set (w64 ((x2068.length : Int) - 1) : Int).toNat (Range.mk el2158.Lo r2150.Hi)), x2076, w64 (x2076 + 1)))
        )
        )
      ) else (
        (Option.bind (locate_track_places_spec (locate_track.mk (LocateTrack.mk r27.1.LocateTrack.Vanes r27.1.LocateTrack.Window r27.1.LocateTrack.Tooth r27.1.LocateTrack.PerVane r27.1.LocateTrack.First r27.1.LocateTrack.Modulus r27.1.LocateTrack.Slack r27.1.LocateTrack.Errors r27.1.LocateTrack.Round)) x2076 x2076) fun r2175 =>
        (Option.bind (app x2068 ([r2175] : List Range)) fun zs2190 =>
        some (.inl (zs2190, x2076, w64 (x2076 + 1)))
        )
        )
      ))
    ))
    )
    )
  ) else (
    some (.inr (x2068, x2073))
  ))
noncomputable def locate_Possible_s1 (p_Listappend : LocateTrack) (p_String : LocateReading) (r27 : (locate_track × Int)) (r96 : (List Int)) : ((List Range) × Int × Int) → Option (((List Range) × Int × Int) ⊕ ((List Range))) := fun (x1670, x1675, x1680) =>
  (bif (decide (x1680 < (r96.length : Int))) then (
    (Option.bind (idx r96 x1680) fun el1724 =>
    (Option.bind (loop (locate_Possible_s0 el1724 p_Listappend p_String r27) (x1670, x1675, w64 (el1724 * p_Listappend.PerVane))) fun ((x2101, x2106) : (List Range) × Int) =>
    some (.inl (x2101, x2106, w64 (x1680 + 1)))
    )
    )
  ) else (
    some (.inr x1670)
  ))
noncomputable def locate_Possible_spec (p_Listappend : LocateTrack) (p_String : LocateReading) : Option ((List Range) × Int) :=
  (Option.bind (locate_openSeen_spec p_Listappend p_String.Seen) fun r27 =>
  (Option.bind (locate_within_spec p_String.Count 0 (w64 (p_Listappend.Modulus - 1))) fun r65 =>
  (Option.bind (locate_unless_spec r65 2) fun r70 =>
  (Option.bind (locate_first_spec ([r27.2, r70] : List Int)) fun r83 =>
  (bif (!decide (r83 = 0)) then (
    some (([] : (List Range)), r83)
  ) else (
    (Option.bind (locate_track_near_spec (locate_track.mk (LocateTrack.mk r27.1.LocateTrack.Vanes r27.1.LocateTrack.Window r27.1.LocateTrack.Tooth r27.1.LocateTrack.PerVane r27.1.LocateTrack.First r27.1.LocateTrack.Modulus r27.1.LocateTrack.Slack r27.1.LocateTrack.Errors r27.1.LocateTrack.Round)) p_String.Seen) fun r96 =>
    (Option.bind (loop (locate_Possible_s1 p_Listappend p_String r27 r96) (([] : List Range), -1, 0)) fun (x1706 : (List Range)) =>
    some (x1706, 0)
    )
    )
  ))
  )
  )
  )
  )
theorem locate_Possible_ok (L : List Value) (w : World) (hL : LtL L w) (cs_p_Listappend : List Value) (p_Listappend : LocateTrack) (h_p_Listappend : Rep.rd L w cs_p_Listappend p_Listappend) (cs_p_String : List Value) (p_String : LocateReading) (h_p_String : Rep.rd L w cs_p_String p_String) (r : (List Range) × Int) (h : locate_Possible_spec p_Listappend p_String = some r) :
    CallsTo Tryd.prog 20 [(.agg cs_p_Listappend.toArray), (.agg cs_p_String.toArray)] w (fun v w' => Ext w w' ∧ ∃ (v0 : Value), (.tuple #[v0, (.int .i64 r.2)]) = v ∧ SlRd L w' v0 r.1) := by
  have e0 : Ext w w := Chg.refl _ _
  obtain ⟨v1, h2, rfl⟩ := h_p_Listappend
  obtain ⟨v4, h5, rfl⟩ := h_p_String
  refine callsTo_of_WC (n := 108) (rs := [.tmp 4, .tmp 5]) Tryd.func20 rfl rfl rfl rfl rfl ?_
  refine WC_seqK fun K7 hK7 => ?_
  refine WC_region ?_
  refine T0_e rfl (eff_boxC (cs := [v1, (.int .i64 p_Listappend.Window), (.int .i64 p_Listappend.Tooth), (.int .i64 p_Listappend.PerVane), (.int .i64 p_Listappend.First), (.int .i64 p_Listappend.Modulus), (.int .i64 p_Listappend.Slack), (.int .i64 p_Listappend.Errors), (.bool p_Listappend.Round)]) rfl rfl ?_)
  intro b8 wd9 hb10 he11 hB12
  have hbf13 := bfresh e0 hb10
  have e14 := e0.trans he11
  refine T0_e rfl (eff_boxC (cs := [v4, (.int .i64 p_String.Count)]) rfl rfl ?_)
  intro b16 wd17 hb18 he19 hB20
  have hn21 : b16 ≠ b8 := box_ne hB12 hb18
  have hbf22 := bfresh e14 hb18
  have e23 := he11.trans he19
  have e24 := e14.trans he19
  refine T0_q (v := (.slice none 0 0)) rfl (yl_assign rfl) ?_
  refine T0_q (v := (.int .i64 0)) rfl (yl_assign rfl) ?_
  refine T0_nil ?_
  refine hK7 _ _ ?_
  refine WC_seqK fun K26 hK26 => ?_
  refine WC_region ?_
  refine T0_q (v := (.agg (List.toArray [v1, (.int .i64 p_Listappend.Window), (.int .i64 p_Listappend.Tooth), (.int .i64 p_Listappend.PerVane), (.int .i64 p_Listappend.First), (.int .i64 p_Listappend.Modulus), (.int .i64 p_Listappend.Slack), (.int .i64 p_Listappend.Errors), (.bool p_Listappend.Round)]))) rfl (yl_loadA (cs := [v1, (.int .i64 p_Listappend.Window), (.int .i64 p_Listappend.Tooth), (.int .i64 p_Listappend.PerVane), (.int .i64 p_Listappend.First), (.int .i64 p_Listappend.Modulus), (.int .i64 p_Listappend.Slack), (.int .i64 p_Listappend.Errors), (.bool p_Listappend.Round)]) ag24 rfl (Box.at (hB12.ext he19))) ?_
  refine T0_q (v := (.pointer (some ⟨b16, 0, none⟩))) rfl (yl_fa 0 Tryd.underlying26 rfl rfl ⟨0, sz22⟩ rfl rfl) ?_
  refine T0_q (v := v4) rfl (yl_load sc22 rfl (Box.at hB20)) ?_
  obtain ⟨r27, hr28, h⟩ := bind_elim h
  refine T0_e rfl (eff_call Tryd.func83 nm83 rfl (ev2 rfl rfl) (locate_openSeen_ok L _ (hL.chg e24) [v1, (.int .i64 p_Listappend.Window), (.int .i64 p_Listappend.Tooth), (.int .i64 p_Listappend.PerVane), (.int .i64 p_Listappend.First), (.int .i64 p_Listappend.Modulus), (.int .i64 p_Listappend.Slack), (.int .i64 p_Listappend.Errors), (.bool p_Listappend.Round)] p_Listappend ⟨v1, (h2.ext e23), rfl⟩ v4 p_String.Seen (h5.ext e23) r27 hr28) ?_)
  rintro _ wd29 ⟨he30, cs33, rfl, hrd34⟩
  have e35 := e23.trans he30
  have e36 := he19.trans he30
  have e37 := e24.trans he30
  obtain ⟨v31, h32, rfl⟩ := hrd34
  refine T0_q (v := (.tuple #[(.agg (List.toArray [v31, (.int .i64 r27.1.LocateTrack.Window), (.int .i64 r27.1.LocateTrack.Tooth), (.int .i64 r27.1.LocateTrack.PerVane), (.int .i64 r27.1.LocateTrack.First), (.int .i64 r27.1.LocateTrack.Modulus), (.int .i64 r27.1.LocateTrack.Slack), (.int .i64 r27.1.LocateTrack.Errors), (.bool r27.1.LocateTrack.Round)])), (.int .i64 r27.2)])) rfl (yl_move rfl) ?_
  refine T0_q (v := (.agg (List.toArray [v31, (.int .i64 r27.1.LocateTrack.Window), (.int .i64 r27.1.LocateTrack.Tooth), (.int .i64 r27.1.LocateTrack.PerVane), (.int .i64 r27.1.LocateTrack.First), (.int .i64 r27.1.LocateTrack.Modulus), (.int .i64 r27.1.LocateTrack.Slack), (.int .i64 r27.1.LocateTrack.Errors), (.bool r27.1.LocateTrack.Round)]))) rfl (yl_extract rfl rfl) ?_
  refine T0_q (v := (.int .i64 r27.2)) rfl (yl_extract rfl rfl) ?_
  refine T0_e rfl (eff_allocZ zi130 ?_)
  intro b39 wd40 hb41 he42 hB43
  have hn44 : b39 ≠ b8 := box_ne (hB12.ext e36) hb41
  have hn45 : b39 ≠ b16 := box_ne (hB20.ext he30) hb41
  have hbf46 := bfresh e37 hb41
  have h47 := (h2.ext e35).step (add_box he42 hb41)
  have h48 := (h5.ext e35).step (add_box he42 hb41)
  have h49 := h32.step (add_box he42 hb41)
  have e50 := he30.trans he42
  have e51 := e36.trans he42
  have e52 := e37.trans he42
  refine T0_e rfl (eff_storeC (vs := [v31, (.int .i64 r27.1.LocateTrack.Window), (.int .i64 r27.1.LocateTrack.Tooth), (.int .i64 r27.1.LocateTrack.PerVane), (.int .i64 r27.1.LocateTrack.First), (.int .i64 r27.1.LocateTrack.Modulus), (.int .i64 r27.1.LocateTrack.Slack), (.int .i64 r27.1.LocateTrack.Errors), (.bool r27.1.LocateTrack.Round)]) (cs' := [v31, (.int .i64 r27.1.LocateTrack.Window), (.int .i64 r27.1.LocateTrack.Tooth), (.int .i64 r27.1.LocateTrack.PerVane), (.int .i64 r27.1.LocateTrack.First), (.int .i64 r27.1.LocateTrack.Modulus), (.int .i64 r27.1.LocateTrack.Slack), (.int .i64 r27.1.LocateTrack.Errors), (.bool r27.1.LocateTrack.Round)]) sz130 rfl rfl rfl rfl hB43 rfl (oc_cons h49.one1 (oc_cons rfl (oc_cons rfl (oc_cons rfl (oc_cons rfl (oc_cons rfl (oc_cons rfl (oc_cons rfl (oc_cons rfl oc_nil))))))))) rfl ?_)
  intro wd54 hc55 hB56
  have h57 := h47.step (Stepp.chg_mem hc55 mem0)
  have h58 := h48.step (Stepp.chg_mem hc55 mem0)
  have h59 := (hB12.ext e51).chg hc55 (avoidb hn44)
  have h60 := (hB20.ext e50).chg hc55 (avoidb hn45)
  have h61 := h49.step (Stepp.chg_mem hc55 mem0)
  have e62 := chg_box e52 hc55 hbf46
  refine T0_q (v := (.int .i64 r27.2)) rfl (yl_assign rfl) ?_
  refine T0_nil ?_
  refine hK26 _ _ ?_
  refine WC_seqK fun K63 hK63 => ?_
  refine WC_seqK fun K64 hK64 => ?_
  refine WC_region ?_
  refine T0_q (v := (.int .i64 r27.2)) rfl (yl_move rfl) ?_
  refine T0_q (v := (.pointer (some ⟨b16, 1, none⟩))) rfl (yl_fa 1 Tryd.underlying26 rfl rfl ⟨0, sz3⟩ rfl rfl) ?_
  refine T0_q (v := (.int .i64 p_String.Count)) rfl (yl_load sc3 rfl (At.drop (Box.at h60) 1)) ?_
  refine T0_q (v := (.pointer (some ⟨b8, 5, none⟩))) rfl (yl_fa 5 Tryd.underlying24 rfl rfl ⟨0, sz3⟩ rfl rfl) ?_
  refine T0_q (v := (.int .i64 p_Listappend.Modulus)) rfl (yl_load sc3 rfl (At.drop (Box.at h59) 5)) ?_
  refine T0_q (v := (.int .i64 (w64 (p_Listappend.Modulus - 1)))) rfl (yl_sub rfl rfl) ?_
  obtain ⟨r65, hr66, h⟩ := bind_elim h
  refine T0_e rfl (eff_call Tryd.func86 nm86 rfl (ev3 rfl rfl rfl) (locate_within_ok [] _ (LtL.nil _) p_String.Count 0 (w64 (p_Listappend.Modulus - 1)) r65 hr66) ?_)
  rintro _ wd67 ⟨he68, rfl⟩
  have e69 := e62.trans he68
  obtain ⟨r70, hr71, h⟩ := bind_elim h
  refine T0_e rfl (eff_call Tryd.func85 nm85 rfl (ev2 rfl rfl) (locate_unless_ok [] _ (LtL.nil _) r65 2 r70 hr71) ?_)
  rintro _ wd72 ⟨he73, rfl⟩
  have e74 := he68.trans he73
  have e75 := e69.trans he73
  refine T0_e rfl (eff_buildTC (xs := ([r27.2, r70] : List Int)) (cells := [(.int .i64 r27.2), (.int .i64 r70)]) Tryd.underlying164 ei30 rfl (pc_cons rfl rfl (pc_cons rfl rfl pc_nil)) rfl (Elems.cons (cs := [(.int .i64 r27.2)]) rfl (Elems.cons (cs := [(.int .i64 r70)]) rfl Elems.nil)) rfl (ltl_box (hL.chg e75) (hB56.ext e74)) ?_)
  intro b79 wd76 he77 h78
  have e80 := e74.trans he77
  have e81 := e75.trans he77
  obtain ⟨r83, hr84, h⟩ := bind_elim h
  refine T0_e rfl (eff_call Tryd.func84 nm84 rfl (ev1 rfl) (locate_first_ok [] _ (LtL.nil _) (.slice (some ⟨b79, 0, none⟩) 2 2) ([r27.2, r70] : List Int) (h78.sub (fun _ h => by cases h)) r83 hr84) ?_)
  rintro _ wd85 ⟨he86, rfl⟩
  have e87 := e80.trans he86
  have e88 := e81.trans he86
  refine T0_q (v := (.int .i64 r83)) rfl (yl_assign rfl) ?_
  refine T0_nil ?_
  refine hK64 _ _ ?_
  refine WC_seqK fun K89 hK89 => ?_
  refine WC_region ?_
  refine T0_q (v := (.int .i64 r83)) rfl (yl_move rfl) ?_
  refine T0_q (v := (.bool (!decide (r83 = 0)))) rfl (yl_neq rfl rfl) ?_
  refine T0_nil ?_
  refine hK89 _ _ ?_
  refine WC_cond (b := (!decide (r83 = 0))) rfl (fun hb90 => ?_) (fun hb90 => ?_)
  · replace h := cond_t hb90 h
    refine WC_seqK fun K91 hK91 => ?_
    refine WC_region ?_
    refine T0_q (v := (.int .i64 r83)) rfl (yl_move rfl) ?_
    refine T0_q (v := (.slice none 0 0)) rfl (yl_assign rfl) ?_
    refine T0_q (v := (.int .i64 r83)) rfl (yl_assign rfl) ?_
    refine T0_nil ?_
    refine hK91 _ _ ?_
    refine WC_ret ?_
    replace h := some_out h
    subst h
    exact ⟨[(.slice none 0 0), (.int .i64 r83)], ⟨rfl, rfl, trivial⟩, e88, (.slice none 0 0), rfl, (SlRd.nil _ _)⟩
  · replace h := cond_f hb90 h
    refine WC_skip ?_
    refine hK63 _ _ ?_
    refine WC_seqK fun K92 hK92 => ?_
    refine WC_region ?_
    refine T0_q (v := (.slice none 0 0)) rfl (yl_assign rfl) ?_
    refine T0_nil ?_
    refine hK92 _ _ ?_
    refine WC_seqK fun K93 hK93 => ?_
    refine WC_region ?_
    refine T0_q (v := (.int .i64 (-1))) rfl (yl_assign rfl) ?_
    refine T0_nil ?_
    refine hK93 _ _ ?_
    refine WC_seqK fun K94 hK94 => ?_
    refine WC_seqK fun K95 hK95 => ?_
    refine WC_region ?_
    refine T0_q (v := (.agg (List.toArray [v31, (.int .i64 r27.1.LocateTrack.Window), (.int .i64 r27.1.LocateTrack.Tooth), (.int .i64 r27.1.LocateTrack.PerVane), (.int .i64 r27.1.LocateTrack.First), (.int .i64 r27.1.LocateTrack.Modulus), (.int .i64 r27.1.LocateTrack.Slack), (.int .i64 r27.1.LocateTrack.Errors), (.bool r27.1.LocateTrack.Round)]))) rfl (yl_loadA (cs := [v31, (.int .i64 r27.1.LocateTrack.Window), (.int .i64 r27.1.LocateTrack.Tooth), (.int .i64 r27.1.LocateTrack.PerVane), (.int .i64 r27.1.LocateTrack.First), (.int .i64 r27.1.LocateTrack.Modulus), (.int .i64 r27.1.LocateTrack.Slack), (.int .i64 r27.1.LocateTrack.Errors), (.bool r27.1.LocateTrack.Round)]) ag130 rfl (Box.at (hB56.ext e87))) ?_
    refine T0_q (v := (.pointer (some ⟨b16, 0, none⟩))) rfl (yl_fa 0 Tryd.underlying26 rfl rfl ⟨0, sz22⟩ rfl rfl) ?_
    refine T0_q (v := v4) rfl (yl_load sc22 rfl (Box.at (h60.ext e87))) ?_
    obtain ⟨r96, hr97, h⟩ := bind_elim h
    refine T0_e rfl (eff_call Tryd.func87 nm87 rfl (ev2 rfl rfl) (locate_track_near_ok ((.pointer (some ⟨b39, 0, none⟩)) :: L) _ (ltl_box (hL.chg e88) (hB56.ext e87)) [v31, (.int .i64 r27.1.LocateTrack.Window), (.int .i64 r27.1.LocateTrack.Tooth), (.int .i64 r27.1.LocateTrack.PerVane), (.int .i64 r27.1.LocateTrack.First), (.int .i64 r27.1.LocateTrack.Modulus), (.int .i64 r27.1.LocateTrack.Slack), (.int .i64 r27.1.LocateTrack.Errors), (.bool r27.1.LocateTrack.Round)] (locate_track.mk (LocateTrack.mk r27.1.LocateTrack.Vanes r27.1.LocateTrack.Window r27.1.LocateTrack.Tooth r27.1.LocateTrack.PerVane r27.1.LocateTrack.First r27.1.LocateTrack.Modulus r27.1.LocateTrack.Slack r27.1.LocateTrack.Errors r27.1.LocateTrack.Round)) ⟨v31, (h61.ext e87), rfl⟩ v4 p_String.Seen (h58.ext e87) r96 hr97) ?_)
    rintro _ wd98 ⟨he99, v100, rfl, h101⟩
    have e102 := e87.trans he99
    have e103 := he86.trans he99
    have e104 := e88.trans he99
    refine T0_q (v := (.int .i64 (r96.length : Int))) rfl (yl_lenR rfl Tryd.underlying22 h101 rfl) ?_
    refine T0_q (v := (.int .i64 0)) rfl (yl_move rfl) ?_
    refine T0_nil ?_
    refine hK95 _ _ ?_
    have h1694 := (h57.ext e102).step (add_nil _)
    have h1695 := (h58.ext e102).step (add_nil _)
    have h1696 := (h61.ext e102).step (add_nil _)
    have h1697 := (h78.ext e103).step (add_nil _)
    have h1698 := h101.step (add_nil _)
    have h1700 : Own 36 ((.slice none 0 0) :: (.pointer (some ⟨b39, 0, none⟩)) :: L) wd98 (.slice none 0 0) ([] : List Range) := Own.nil _ _ _
    obtain ⟨o1711, hl1712, hn1713⟩ := bind_elim h
    refine WC_post (fun (ρ : Env) (wd1702 : World) => ∃ (x1706 : (List Range)) (v1705 : Value), x1706 = o1711 ∧ ρ 8 = v1705 ∧ Own 36 (v1705 :: L) wd1702 v1705 x1706 ∧ (∀ b, blk v1705 = some b → w.heap.size ≤ b) ∧ Ext w wd1702) ?_ ?_
    · intro K1717 hK1717
      refine WC_block ?_
      refine WC_loopk (fun sv ρ wd1663 => ∃ (x1670 : (List Range)) (x1675 : Int) (x1680 : Int) (v1669 : Value), (x1670, x1675, x1680) = sv ∧ ρ 2 = (.pointer (some ⟨b8, 0, none⟩)) ∧ ρ 3 = (.pointer (some ⟨b16, 0, none⟩)) ∧ ρ 6 = (.pointer (some ⟨b39, 0, none⟩)) ∧ ρ 8 = v1669 ∧ ρ 9 = (.int .i64 x1675) ∧ ρ 37 = v100 ∧ ρ 38 = (.int .i64 (r96.length : Int)) ∧ ρ 39 = (.int .i64 x1680) ∧ SlRd (v1669 :: (.pointer (some ⟨b39, 0, none⟩)) :: L) wd1663 v100 r96 ∧ SlRd (v1669 :: (.pointer (some ⟨b39, 0, none⟩)) :: L) wd1663 v4 p_String.Seen ∧ SlRd (v1669 :: (.pointer (some ⟨b39, 0, none⟩)) :: L) wd1663 v31 r27.1.LocateTrack.Vanes ∧ SlRd (v1669 :: (.pointer (some ⟨b39, 0, none⟩)) :: L) wd1663 v1 p_Listappend.Vanes ∧ Box wd1663 b16 [v4, (.int .i64 p_String.Count)] 26 ∧ Box wd1663 b39 [v31, (.int .i64 r27.1.LocateTrack.Window), (.int .i64 r27.1.LocateTrack.Tooth), (.int .i64 r27.1.LocateTrack.PerVane), (.int .i64 r27.1.LocateTrack.First), (.int .i64 r27.1.LocateTrack.Modulus), (.int .i64 r27.1.LocateTrack.Slack), (.int .i64 r27.1.LocateTrack.Errors), (.bool r27.1.LocateTrack.Round)] 130 ∧ Box wd1663 b8 [v1, (.int .i64 p_Listappend.Window), (.int .i64 p_Listappend.Tooth), (.int .i64 p_Listappend.PerVane), (.int .i64 p_Listappend.First), (.int .i64 p_Listappend.Modulus), (.int .i64 p_Listappend.Slack), (.int .i64 p_Listappend.Errors), (.bool p_Listappend.Round)] 24 ∧ Own 36 (v1669 :: (.pointer (some ⟨b39, 0, none⟩)) :: L) wd1663 v1669 x1670 ∧ (∀ b, blk v1669 = some b → w.heap.size ≤ b) ∧ (blk v1669 ≠ some b16) ∧ (blk v1669 ≠ some b39) ∧ (blk v1669 ≠ some b8) ∧ Ext w wd1663) hl1712 ⟨([] : List Range), -1, 0, (.slice none 0 0), rfl, rfl, rfl, rfl, rfl, rfl, rfl, rfl, rfl, h1698, h1695, h1696, h1694, (h60.ext e102), (hB56.ext e102), (h59.ext e102), h1700, (fun b h => blk_nil b h), (fun h => by cases h), (fun h => by cases h), (fun h => by cases h), e104⟩ ?_
      rintro _ ρ wd1663 ⟨x1670, x1675, x1680, v1669, rfl, hs1665, hs1666, hs1667, hs1674, hs1676, hs1678, hs1679, hs1681, h1677, h1682, h1685, h1688, hB1684, hB1687, hB1690, h1672, hf1673, hn1691, hn1692, hn1693, e1664⟩ x1714 h hx1715 K1716 hK1716
      refine WC_seqK fun K1719 hK1719 => ?_
      refine WC_region ?_
      refine T0_q (v := (.bool (decide (x1680 < (r96.length : Int))))) rfl (yl_lss hs1681 hs1679) ?_
      refine T0_nil ?_
      refine hK1719 _ _ ?_
      refine WC_seqK fun K1720 hK1720 => ?_
      refine WC_cond (b := (decide (x1680 < (r96.length : Int)))) rfl (fun hb1721 => ?_) (fun hb1721 => ?_)
      · replace h := cond_t hb1721 h
        refine WC_skip ?_
        refine hK1720 _ _ ?_
        refine WC_seqK fun K1722 hK1722 => ?_
        refine WC_block ?_
        refine WC_seqK fun K1723 hK1723 => ?_
        refine WC_region ?_
        obtain ⟨el1724, hel1725, h⟩ := bind_elim h
        obtain ⟨cs1726, hat1727, hrd1728⟩ := SlRd.at h1677 hel1725
        have hrd1728 : cs1726 = [(.int .i64 el1724)] := hrd1728
        subst hrd1728
        refine T0_q (v := (.pointer (some (elemAddr v100 (x1680 : Int).toNat 1)))) rfl (yl_indexAddr Tryd.underlying22 sz3 h1677 hel1725 hs1678 hs1681) ?_
        refine T0_q (v := (.int .i64 el1724)) rfl (yl_load sc3 rfl hat1727) ?_
        refine T0_q (v := (.int .i64 el1724)) rfl (yl_assign rfl) ?_
        refine T0_nil ?_
        refine hK1723 _ _ ?_
        refine WC_seqK fun K1730 hK1730 => ?_
        refine WC_region ?_
        refine T0_q (v := (.int .i64 el1724)) rfl (yl_move rfl) ?_
        refine T0_q (v := (.pointer (some ⟨b8, 3, none⟩))) rfl (yl_fa 3 Tryd.underlying24 rfl rfl ⟨0, sz3⟩ hs1665 rfl) ?_
        refine T0_q (v := (.int .i64 p_Listappend.PerVane)) rfl (yl_load sc3 rfl (At.drop (Box.at hB1690) 3)) ?_
        refine T0_q (v := (.int .i64 (w64 (el1724 * p_Listappend.PerVane)))) rfl (yl_mul rfl rfl) ?_
        refine T0_q (v := (.int .i64 (w64 (el1724 * p_Listappend.PerVane)))) rfl (yl_assign rfl) ?_
        refine T0_nil ?_
        refine hK1730 _ _ ?_
        obtain ⟨o2124, hl2125, hn2126⟩ := bind_elim h
        refine WC_post (fun (ρ : Env) (wd2094 : World) => ∃ (x2101 : (List Range)) (x2106 : Int) (v2100 : Value), (x2101, x2106) = o2124 ∧ ρ 2 = (.pointer (some ⟨b8, 0, none⟩)) ∧ ρ 3 = (.pointer (some ⟨b16, 0, none⟩)) ∧ ρ 6 = (.pointer (some ⟨b39, 0, none⟩)) ∧ ρ 8 = v2100 ∧ ρ 9 = (.int .i64 x2106) ∧ ρ 37 = v100 ∧ ρ 38 = (.int .i64 (r96.length : Int)) ∧ ρ 39 = (.int .i64 x1680) ∧ SlRd (v2100 :: (.pointer (some ⟨b39, 0, none⟩)) :: L) wd2094 v100 r96 ∧ SlRd (v2100 :: (.pointer (some ⟨b39, 0, none⟩)) :: L) wd2094 v4 p_String.Seen ∧ SlRd (v2100 :: (.pointer (some ⟨b39, 0, none⟩)) :: L) wd2094 v31 r27.1.LocateTrack.Vanes ∧ SlRd (v2100 :: (.pointer (some ⟨b39, 0, none⟩)) :: L) wd2094 v1 p_Listappend.Vanes ∧ Box wd2094 b16 [v4, (.int .i64 p_String.Count)] 26 ∧ Box wd2094 b39 [v31, (.int .i64 r27.1.LocateTrack.Window), (.int .i64 r27.1.LocateTrack.Tooth), (.int .i64 r27.1.LocateTrack.PerVane), (.int .i64 r27.1.LocateTrack.First), (.int .i64 r27.1.LocateTrack.Modulus), (.int .i64 r27.1.LocateTrack.Slack), (.int .i64 r27.1.LocateTrack.Errors), (.bool r27.1.LocateTrack.Round)] 130 ∧ Box wd2094 b8 [v1, (.int .i64 p_Listappend.Window), (.int .i64 p_Listappend.Tooth), (.int .i64 p_Listappend.PerVane), (.int .i64 p_Listappend.First), (.int .i64 p_Listappend.Modulus), (.int .i64 p_Listappend.Slack), (.int .i64 p_Listappend.Errors), (.bool p_Listappend.Round)] 24 ∧ Own 36 (v2100 :: (.pointer (some ⟨b39, 0, none⟩)) :: L) wd2094 v2100 x2101 ∧ (∀ b, blk v2100 = some b → w.heap.size ≤ b) ∧ (blk v2100 ≠ some b16) ∧ (blk v2100 ≠ some b39) ∧ (blk v2100 ≠ some b8) ∧ Ext w wd2094) ?_ ?_
        · intro K2130 hK2130
          refine WC_block ?_
          refine WC_loopk (fun sv ρ wd2061 => ∃ (x2068 : (List Range)) (x2073 : Int) (x2076 : Int) (v2067 : Value), (x2068, x2073, x2076) = sv ∧ ρ 2 = (.pointer (some ⟨b8, 0, none⟩)) ∧ ρ 3 = (.pointer (some ⟨b16, 0, none⟩)) ∧ ρ 6 = (.pointer (some ⟨b39, 0, none⟩)) ∧ ρ 8 = v2067 ∧ ρ 9 = (.int .i64 x2073) ∧ ρ 11 = (.int .i64 el1724) ∧ ρ 12 = (.int .i64 x2076) ∧ ρ 37 = v100 ∧ ρ 38 = (.int .i64 (r96.length : Int)) ∧ ρ 39 = (.int .i64 x1680) ∧ SlRd (v2067 :: (.pointer (some ⟨b39, 0, none⟩)) :: L) wd2061 v100 r96 ∧ SlRd (v2067 :: (.pointer (some ⟨b39, 0, none⟩)) :: L) wd2061 v4 p_String.Seen ∧ SlRd (v2067 :: (.pointer (some ⟨b39, 0, none⟩)) :: L) wd2061 v31 r27.1.LocateTrack.Vanes ∧ SlRd (v2067 :: (.pointer (some ⟨b39, 0, none⟩)) :: L) wd2061 v1 p_Listappend.Vanes ∧ Box wd2061 b16 [v4, (.int .i64 p_String.Count)] 26 ∧ Box wd2061 b39 [v31, (.int .i64 r27.1.LocateTrack.Window), (.int .i64 r27.1.LocateTrack.Tooth), (.int .i64 r27.1.LocateTrack.PerVane), (.int .i64 r27.1.LocateTrack.First), (.int .i64 r27.1.LocateTrack.Modulus), (.int .i64 r27.1.LocateTrack.Slack), (.int .i64 r27.1.LocateTrack.Errors), (.bool r27.1.LocateTrack.Round)] 130 ∧ Box wd2061 b8 [v1, (.int .i64 p_Listappend.Window), (.int .i64 p_Listappend.Tooth), (.int .i64 p_Listappend.PerVane), (.int .i64 p_Listappend.First), (.int .i64 p_Listappend.Modulus), (.int .i64 p_Listappend.Slack), (.int .i64 p_Listappend.Errors), (.bool p_Listappend.Round)] 24 ∧ Own 36 (v2067 :: (.pointer (some ⟨b39, 0, none⟩)) :: L) wd2061 v2067 x2068 ∧ (∀ b, blk v2067 = some b → w.heap.size ≤ b) ∧ (blk v2067 ≠ some b16) ∧ (blk v2067 ≠ some b39) ∧ (blk v2067 ≠ some b8) ∧ Ext w wd2061) hl2125 ⟨x1670, x1675, w64 (el1724 * p_Listappend.PerVane), v1669, rfl, hs1665, hs1666, hs1667, hs1674, hs1676, rfl, rfl, hs1678, hs1679, hs1681, h1677, h1682, h1685, h1688, hB1684, hB1687, hB1690, h1672, hf1673, hn1691, hn1692, hn1693, e1664⟩ ?_
          rintro _ ρ wd2061 ⟨x2068, x2073, x2076, v2067, rfl, hs2063, hs2064, hs2065, hs2072, hs2074, hs2075, hs2077, hs2079, hs2080, hs2081, h2078, h2082, h2085, h2088, hB2084, hB2087, hB2090, h2070, hf2071, hn2091, hn2092, hn2093, e2062⟩ x2127 h hx2128 K2129 hK2129
          refine WC_seqK fun K2132 hK2132 => ?_
          refine WC_seqK fun K2133 hK2133 => ?_
          refine WC_region ?_
          refine T0_q (v := (.int .i64 x2076)) rfl (yl_move hs2077) ?_
          refine T0_q (v := (.int .i64 el1724)) rfl (yl_move hs2075) ?_
          refine T0_q (v := (.int .i64 (w64 (el1724 + 1)))) rfl (yl_add rfl rfl) ?_
          refine T0_q (v := (.pointer (some ⟨b8, 3, none⟩))) rfl (yl_fa 3 Tryd.underlying24 rfl rfl ⟨0, sz3⟩ hs2063 rfl) ?_
          refine T0_q (v := (.int .i64 p_Listappend.PerVane)) rfl (yl_load sc3 rfl (At.drop (Box.at hB2090) 3)) ?_
          refine T0_q (v := (.int .i64 (w64 ((w64 (el1724 + 1)) * p_Listappend.PerVane)))) rfl (yl_mul rfl rfl) ?_
          refine T0_q (v := (.bool (decide (x2076 < w64 ((w64 (el1724 + 1)) * p_Listappend.PerVane))))) rfl (yl_lss rfl rfl) ?_
          refine T0_nil ?_
          refine hK2133 _ _ ?_
          refine WC_cond (b := (decide (x2076 < w64 ((w64 (el1724 + 1)) * p_Listappend.PerVane)))) rfl (fun hb2134 => ?_) (fun hb2134 => ?_)
          · replace h := cond_t hb2134 h
            refine WC_skip ?_
            refine hK2132 _ _ ?_
            refine WC_seqK fun K2135 hK2135 => ?_
            refine WC_block ?_
            refine WC_seqK fun K2136 hK2136 => ?_
            refine WC_plan mixed (.p 0 (.p 1 (.p 4 (.p 7 (.p 10 (.q 2 (.p 3 (.q 5 (.p 6 (.q 8 (.p 9 (.q 11 (.p 12 (.p 13 .done)))))))))))))) (by kernel_rfl) ?_
            intro wd2137 he2138
            have e2139 := e2062.trans he2138
            refine TP_p (v := (.int .i64 x2076)) rfl rfl (fun w' => (yl_move hs2077)) ?_
            refine TP_p (v := (.pointer (some ⟨b8, 5, none⟩))) rfl rfl (fun w' => (yl_fa 5 Tryd.underlying24 rfl rfl ⟨0, sz3⟩ hs2063 rfl)) ?_
            refine TP_p (v := (.pointer (some ⟨b8, 5, none⟩))) rfl rfl (fun w' => (yl_fa 5 Tryd.underlying24 rfl rfl ⟨0, sz3⟩ hs2063 rfl)) ?_
            refine TP_p (v := (.pointer (some ⟨b16, 1, none⟩))) rfl rfl (fun w' => (yl_fa 1 Tryd.underlying26 rfl rfl ⟨0, sz3⟩ hs2064 rfl)) ?_
            refine TP_p (v := (.pointer (some ⟨b8, 5, none⟩))) rfl rfl (fun w' => (yl_fa 5 Tryd.underlying24 rfl rfl ⟨0, sz3⟩ hs2063 rfl)) ?_
            refine TP_q (v := (.int .i64 p_Listappend.Modulus)) rfl rfl (fun w' hS => (yl_load sc3 rfl (At.drop (Box.at (hB2090.ext ((he2138).trans hS))) 5))) ?_
            obtain ⟨q2140, hq2141, h⟩ := bind_elim h
            refine TP_p (v := (.int .i64 q2140)) rfl rfl (fun w' => (yl_rem' hq2141 rfl rfl)) ?_
            refine TP_q (v := (.int .i64 p_Listappend.Modulus)) rfl rfl (fun w' hS => (yl_load sc3 rfl (At.drop (Box.at (hB2090.ext ((he2138).trans hS))) 5))) ?_
            refine TP_p (v := (.int .i64 (w64 (q2140 + p_Listappend.Modulus)))) rfl rfl (fun w' => (yl_add rfl rfl)) ?_
            refine TP_q (v := (.int .i64 p_String.Count)) rfl rfl (fun w' hS => (yl_load sc3 rfl (At.drop (Box.at (hB2084.ext ((he2138).trans hS))) 1))) ?_
            refine TP_p (v := (.int .i64 (w64 ((w64 (q2140 + p_Listappend.Modulus)) - p_String.Count)))) rfl rfl (fun w' => (yl_sub rfl rfl)) ?_
            refine TP_q (v := (.int .i64 p_Listappend.Modulus)) rfl rfl (fun w' hS => (yl_load sc3 rfl (At.drop (Box.at (hB2090.ext ((he2138).trans hS))) 5))) ?_
            obtain ⟨q2142, hq2143, h⟩ := bind_elim h
            refine TP_p (v := (.int .i64 q2142)) rfl rfl (fun w' => (yl_rem' hq2143 rfl rfl)) ?_
            refine TP_p (v := (.int .i64 q2142)) rfl rfl (fun w' => (yl_assign rfl)) ?_
            refine TP_done ?_
            refine hK2136 _ _ ?_
            refine WC_seqK fun K2144 hK2144 => ?_
            refine WC_seqK fun K2145 hK2145 => ?_
            refine WC_region ?_
            refine T0_q (v := (.int .i64 q2142)) rfl (yl_move rfl) ?_
            refine T0_q (v := (.pointer (some ⟨b8, 5, none⟩))) rfl (yl_fa 5 Tryd.underlying24 rfl rfl ⟨0, sz3⟩ hs2063 rfl) ?_
            refine T0_q (v := (.int .i64 p_Listappend.Modulus)) rfl (yl_load sc3 rfl (At.drop (Box.at (hB2090.ext he2138)) 5)) ?_
            refine T0_q (v := (.int .i64 q2142)) rfl (yl_move rfl) ?_
            refine T0_q (v := (.int .i64 (w64 (p_Listappend.Modulus - q2142)))) rfl (yl_sub rfl rfl) ?_
            refine T0_q (v := (.int .i64 (if w64 (p_Listappend.Modulus - q2142) < q2142 then w64 (p_Listappend.Modulus - q2142) else q2142))) rfl (yl_min rfl rfl) ?_
            refine T0_q (v := (.pointer (some ⟨b8, 6, none⟩))) rfl (yl_fa 6 Tryd.underlying24 rfl rfl ⟨0, sz3⟩ hs2063 rfl) ?_
            refine T0_q (v := (.int .i64 p_Listappend.Slack)) rfl (yl_load sc3 rfl (At.drop (Box.at (hB2090.ext he2138)) 6)) ?_
            refine T0_q (v := (.bool (decide (p_Listappend.Slack < (if w64 (p_Listappend.Modulus - q2142) < q2142 then w64 (p_Listappend.Modulus - q2142) else q2142))))) rfl (yl_gtr rfl rfl) ?_
            refine T0_nil ?_
            refine hK2145 _ _ ?_
            refine WC_cond (b := (decide (p_Listappend.Slack < (if w64 (p_Listappend.Modulus - q2142) < q2142 then w64 (p_Listappend.Modulus - q2142) else q2142)))) rfl (fun hb2146 => ?_) (fun hb2146 => ?_)
            · replace h := cond_t hb2146 h
              refine WC_exit ?_
              refine hK2135 _ _ ?_
              refine WC_region ?_
              refine T0_q (v := (.int .i64 x2076)) rfl (yl_move hs2077) ?_
              refine T0_q (v := (.int .i64 (w64 (x2076 + 1)))) rfl (yl_add rfl rfl) ?_
              refine T0_q (v := (.int .i64 (w64 (x2076 + 1)))) rfl (yl_assign rfl) ?_
              refine T0_nil ?_
              replace h := some_out h
              subst h
              refine hK2129 _ _ _ rfl ?_
              exact ⟨x2068, x2073, w64 (x2076 + 1), v2067, rfl, hs2063, hs2064, hs2065, hs2072, hs2074, hs2075, rfl, hs2079, hs2080, hs2081, (h2078.ext he2138), (h2082.ext he2138), (h2085.ext he2138), (h2088.ext he2138), (hB2084.ext he2138), (hB2087.ext he2138), (hB2090.ext he2138), (h2070.ext he2138), hf2071, hn2091, hn2092, hn2093, e2139⟩
            · replace h := cond_f hb2146 h
              refine WC_skip ?_
              refine hK2144 _ _ ?_
              refine WC_seqK fun K2147 hK2147 => ?_
              refine WC_seqK fun K2148 hK2148 => ?_
              refine WC_region ?_
              refine T0_q (v := v2067) rfl (yl_move hs2072) ?_
              refine T0_q (v := (.int .i64 (x2068.length : Int))) rfl (yl_lenO rfl Tryd.underlying29 h2070 rfl) ?_
              refine T0_q (v := (.bool (decide (0 < (x2068.length : Int))))) rfl (yl_gtr rfl rfl) ?_
              refine T0_q (v := (.bool (decide (0 < (x2068.length : Int))))) rfl (yl_move rfl) ?_
              refine T0_g (v := (.int .i64 x2073)) (decide (0 < (x2068.length : Int))) (wanted_t rfl rfl rfl rfl) (fun hg => (yl_move hs2074)) ?_
              refine T0_g (v := (.int .i64 x2076)) (decide (0 < (x2068.length : Int))) (wanted_t rfl rfl rfl rfl) (fun hg => (yl_move hs2077)) ?_
              refine T0_g (v := (.int .i64 (w64 (x2076 - 1)))) (decide (0 < (x2068.length : Int))) (wanted_t rfl rfl rfl rfl) (fun hg => (yl_sub (gd_true hg) rfl)) ?_
              refine T0_g (v := (.bool (decide (x2073 = w64 (x2076 - 1))))) (decide (0 < (x2068.length : Int))) (wanted_t rfl rfl rfl rfl) (fun hg => (yl_eql (gd_true hg) (gd_true hg))) ?_
              refine T0_q (v := (.bool ((decide (0 < (x2068.length : Int))) && (decide (x2073 = w64 (x2076 - 1)))))) rfl (yl_and rfl (fun hb => (gd_true hb)) rfl) ?_
              refine T0_nil ?_
              refine hK2148 _ _ ?_
              refine WC_cond (b := ((decide (0 < (x2068.length : Int))) && (decide (x2073 = w64 (x2076 - 1))))) rfl (fun hb2149 => ?_) (fun hb2149 => ?_)
              · replace h := cond_t hb2149 h
                refine WC_region ?_
                refine T0_q (v := v2067) rfl (yl_move hs2072) ?_
                refine T0_q (v := v2067) rfl (yl_move hs2072) ?_
                refine T0_q (v := (.int .i64 (x2068.length : Int))) rfl (yl_lenO rfl Tryd.underlying29 h2070 rfl) ?_
                refine T0_q (v := (.int .i64 (w64 ((x2068.length : Int) - 1)))) rfl (yl_sub rfl rfl) ?_
                refine T0_q (v := (.agg (List.toArray [v31, (.int .i64 r27.1.LocateTrack.Window), (.int .i64 r27.1.LocateTrack.Tooth), (.int .i64 r27.1.LocateTrack.PerVane), (.int .i64 r27.1.LocateTrack.First), (.int .i64 r27.1.LocateTrack.Modulus), (.int .i64 r27.1.LocateTrack.Slack), (.int .i64 r27.1.LocateTrack.Errors), (.bool r27.1.LocateTrack.Round)]))) rfl (yl_loadA (cs := [v31, (.int .i64 r27.1.LocateTrack.Window), (.int .i64 r27.1.LocateTrack.Tooth), (.int .i64 r27.1.LocateTrack.PerVane), (.int .i64 r27.1.LocateTrack.First), (.int .i64 r27.1.LocateTrack.Modulus), (.int .i64 r27.1.LocateTrack.Slack), (.int .i64 r27.1.LocateTrack.Errors), (.bool r27.1.LocateTrack.Round)]) ag130 hs2065 (Box.at (hB2087.ext he2138))) ?_
                refine T0_q (v := (.int .i64 x2076)) rfl (yl_move hs2077) ?_
                refine T0_q (v := (.int .i64 x2076)) rfl (yl_move hs2077) ?_
                obtain ⟨r2150, hr2151, h⟩ := bind_elim h
                refine T0_e rfl (eff_call Tryd.func88 nm88 rfl (ev3 rfl rfl rfl) (locate_track_places_ok [] _ (LtL.nil _) [v31, (.int .i64 r27.1.LocateTrack.Window), (.int .i64 r27.1.LocateTrack.Tooth), (.int .i64 r27.1.LocateTrack.PerVane), (.int .i64 r27.1.LocateTrack.First), (.int .i64 r27.1.LocateTrack.Modulus), (.int .i64 r27.1.LocateTrack.Slack), (.int .i64 r27.1.LocateTrack.Errors), (.bool r27.1.LocateTrack.Round)] (locate_track.mk (LocateTrack.mk r27.1.LocateTrack.Vanes r27.1.LocateTrack.Window r27.1.LocateTrack.Tooth r27.1.LocateTrack.PerVane r27.1.LocateTrack.First r27.1.LocateTrack.Modulus r27.1.LocateTrack.Slack r27.1.LocateTrack.Errors r27.1.LocateTrack.Round)) ⟨v31, ((h2085.ext he2138).sub (fun _ h => by cases h)), rfl⟩ x2076 x2076 r2150 hr2151) ?_)
                rintro _ wd2152 ⟨he2153, cs2154, rfl, hrd2155⟩
                have e2156 := he2138.trans he2153
                have e2157 := e2139.trans he2153
                have hrd2155 : cs2154 = [(.int .i64 r2150.Lo), (.int .i64 r2150.Hi)] := hrd2155
                subst hrd2155
                refine T0_q (v := (.int .i64 r2150.Hi)) rfl (yl_fieldS Tryd.underlying36 rfl sc3 rfl rfl) ?_
                obtain ⟨el2158, hel2159, h⟩ := bind_elim h
                obtain ⟨cs2160, hat2161, hrd2162⟩ := Own.at h2070 hel2159
                have hrd2162 : cs2160 = [(.int .i64 el2158.Lo), (.int .i64 el2158.Hi)] := hrd2162
                subst hrd2162
                refine T0_q (v := (.pointer (some (elemAddr v2067 (w64 ((x2068.length : Int) - 1) : Int).toNat 2)))) rfl (yl_indexAddrO Tryd.underlying29 sz36 h2070 hel2159 rfl rfl) ?_
                refine T0_q (v := (.pointer (some (Addr.add (elemAddr v2067 (w64 ((x2068.length : Int) - 1) : Int).toNat 2) 1)))) rfl (yl_fa 1 Tryd.underlying36 rfl rfl ⟨0, sz3⟩ rfl rfl) ?_
                refine T0_e rfl (eff_storeOC (vs := [(.int .i64 r2150.Hi)]) (off := 1) (y' := (Range.mk el2158.Lo r2150.Hi)) sz3 rfl rfl (h2070.ext e2156) mem0 hel2159 rfl rfl rfl (oc_cons rfl oc_nil) (fun w' cs hcs => by have hcs : cs = [(.int .i64 el2158.Lo), (.int .i64 el2158.Hi)] := hcs; subst hcs; rfl) ?_)
                intro wd2164 hc2165 hB2166
                have h2167 := (h2078.ext e2156).step (Stepp.chg_mem hc2165 mem0)
                have h2168 := (h2082.ext e2156).step (Stepp.chg_mem hc2165 mem0)
                have h2169 := (hB2084.ext e2156).chg hc2165 (avoid1 hn2091)
                have h2170 := (h2085.ext e2156).step (Stepp.chg_mem hc2165 mem0)
                have h2171 := (hB2087.ext e2156).chg hc2165 (avoid1 hn2092)
                have h2172 := (h2088.ext e2156).step (Stepp.chg_mem hc2165 mem0)
                have h2173 := (hB2090.ext e2156).chg hc2165 (avoid1 hn2093)
                have e2174 := chg_own e2157 hc2165 hf2071
                refine T0_nil ?_
                refine hK2147 _ _ ?_
                refine WC_region ?_
                refine T0_q (v := (.int .i64 x2076)) rfl (yl_move hs2077) ?_
                refine T0_q (v := (.int .i64 x2076)) rfl (yl_assign rfl) ?_
                refine T0_nil ?_
                refine hK2135 _ _ ?_
                refine WC_region ?_
                refine T0_q (v := (.int .i64 x2076)) rfl (yl_move hs2077) ?_
                refine T0_q (v := (.int .i64 (w64 (x2076 + 1)))) rfl (yl_add rfl rfl) ?_
                refine T0_q (v := (.int .i64 (w64 (x2076 + 1)))) rfl (yl_assign rfl) ?_
                refine T0_nil ?_
                replace h := some_out h
                subst h
                refine hK2129 _ _ _ rfl ?_
                exact ⟨(x2068.set (w64 ((x2068.length : Int) - 1) : Int).toNat (Range.mk el2158.Lo r2150.Hi)), x2076, w64 (x2076 + 1), v2067, rfl, hs2063, hs2064, hs2065, hs2072, rfl, hs2075, rfl, hs2079, hs2080, hs2081, h2167, h2168, h2170, h2172, h2169, h2171, h2173, hB2166, hf2071, hn2091, hn2092, hn2093, e2174⟩
              · replace h := cond_f hb2149 h
                refine WC_region ?_
                refine T0_q (v := v2067) rfl (yl_move hs2072) ?_
                refine T0_q (v := (.agg (List.toArray [v31, (.int .i64 r27.1.LocateTrack.Window), (.int .i64 r27.1.LocateTrack.Tooth), (.int .i64 r27.1.LocateTrack.PerVane), (.int .i64 r27.1.LocateTrack.First), (.int .i64 r27.1.LocateTrack.Modulus), (.int .i64 r27.1.LocateTrack.Slack), (.int .i64 r27.1.LocateTrack.Errors), (.bool r27.1.LocateTrack.Round)]))) rfl (yl_loadA (cs := [v31, (.int .i64 r27.1.LocateTrack.Window), (.int .i64 r27.1.LocateTrack.Tooth), (.int .i64 r27.1.LocateTrack.PerVane), (.int .i64 r27.1.LocateTrack.First), (.int .i64 r27.1.LocateTrack.Modulus), (.int .i64 r27.1.LocateTrack.Slack), (.int .i64 r27.1.LocateTrack.Errors), (.bool r27.1.LocateTrack.Round)]) ag130 hs2065 (Box.at (hB2087.ext he2138))) ?_
                refine T0_q (v := (.int .i64 x2076)) rfl (yl_move hs2077) ?_
                refine T0_q (v := (.int .i64 x2076)) rfl (yl_move hs2077) ?_
                obtain ⟨r2175, hr2176, h⟩ := bind_elim h
                refine T0_e rfl (eff_call Tryd.func88 nm88 rfl (ev3 rfl rfl rfl) (locate_track_places_ok [] _ (LtL.nil _) [v31, (.int .i64 r27.1.LocateTrack.Window), (.int .i64 r27.1.LocateTrack.Tooth), (.int .i64 r27.1.LocateTrack.PerVane), (.int .i64 r27.1.LocateTrack.First), (.int .i64 r27.1.LocateTrack.Modulus), (.int .i64 r27.1.LocateTrack.Slack), (.int .i64 r27.1.LocateTrack.Errors), (.bool r27.1.LocateTrack.Round)] (locate_track.mk (LocateTrack.mk r27.1.LocateTrack.Vanes r27.1.LocateTrack.Window r27.1.LocateTrack.Tooth r27.1.LocateTrack.PerVane r27.1.LocateTrack.First r27.1.LocateTrack.Modulus r27.1.LocateTrack.Slack r27.1.LocateTrack.Errors r27.1.LocateTrack.Round)) ⟨v31, ((h2085.ext he2138).sub (fun _ h => by cases h)), rfl⟩ x2076 x2076 r2175 hr2176) ?_)
                rintro _ wd2177 ⟨he2178, cs2179, rfl, hrd2180⟩
                have e2181 := he2138.trans he2178
                have e2182 := e2139.trans he2178
                have hrd2180 : cs2179 = [(.int .i64 r2175.Lo), (.int .i64 r2175.Hi)] := hrd2180
                subst hrd2180
                refine T0_e rfl (eff_buildTC (xs := ([r2175] : List Range)) (cells := [(.int .i64 r2175.Lo), (.int .i64 r2175.Hi)]) Tryd.underlying29 ei36 rfl (pc_cons rfl rfl pc_nil) rfl (Elems.cons (cs := [(.int .i64 r2175.Lo), (.int .i64 r2175.Hi)]) rfl Elems.nil) rfl (ltl_own (ltl_box (hL.chg e2182) (hB2087.ext e2181)) (h2070.ext e2181)) ?_)
                intro b2186 wd2183 he2184 h2185
                have e2187 := e2181.trans he2184
                have e2188 := e2182.trans he2184
                obtain ⟨zs2190, hz2191, h⟩ := bind_elim h
                refine T0_e rfl (eff_app Tryd.underlying29 ei36 rfl rfl rfl rfl (h2070.ext e2187) h2185 hz2191 ?_)
                intro v2192 wd2193 hc2194 hbl2195 h2196
                have hn2198 : blk v2192 ≠ some b16 := ne_swap hbl2195 hn2091 (hB2084.ext e2187)
                have hn2199 : blk v2192 ≠ some b39 := ne_swap hbl2195 hn2092 (hB2087.ext e2187)
                have hn2200 : blk v2192 ≠ some b8 := ne_swap hbl2195 hn2093 (hB2090.ext e2187)
                have hf2201 := fresh_swap hbl2195 hf2071 e2188.size
                have h2202 := (h2078.ext e2187).step (Stepp.swap hc2194 hbl2195)
                have h2203 := (h2082.ext e2187).step (Stepp.swap hc2194 hbl2195)
                have h2204 := (hB2084.ext e2187).chg hc2194 (avoid1 hn2091)
                have h2205 := (h2085.ext e2187).step (Stepp.swap hc2194 hbl2195)
                have h2206 := (hB2087.ext e2187).chg hc2194 (avoid1 hn2092)
                have h2207 := (h2088.ext e2187).step (Stepp.swap hc2194 hbl2195)
                have h2208 := (hB2090.ext e2187).chg hc2194 (avoid1 hn2093)
                have h2209 := h2185.step (Stepp.swap hc2194 hbl2195)
                have e2210 := chg_own e2188 hc2194 hf2071
                refine T0_q (v := v2192) rfl (yl_assign rfl) ?_
                refine T0_nil ?_
                refine hK2147 _ _ ?_
                refine WC_region ?_
                refine T0_q (v := (.int .i64 x2076)) rfl (yl_move hs2077) ?_
                refine T0_q (v := (.int .i64 x2076)) rfl (yl_assign rfl) ?_
                refine T0_nil ?_
                refine hK2135 _ _ ?_
                refine WC_region ?_
                refine T0_q (v := (.int .i64 x2076)) rfl (yl_move hs2077) ?_
                refine T0_q (v := (.int .i64 (w64 (x2076 + 1)))) rfl (yl_add rfl rfl) ?_
                refine T0_q (v := (.int .i64 (w64 (x2076 + 1)))) rfl (yl_assign rfl) ?_
                refine T0_nil ?_
                replace h := some_out h
                subst h
                refine hK2129 _ _ _ rfl ?_
                exact ⟨zs2190, x2076, w64 (x2076 + 1), v2192, rfl, hs2063, hs2064, hs2065, rfl, rfl, hs2075, rfl, hs2079, hs2080, hs2081, h2202, h2203, h2205, h2207, h2204, h2206, h2208, h2196, hf2201, hn2198, hn2199, hn2200, e2210⟩
          · replace h := cond_f hb2134 h
            refine WC_exit ?_
            replace h := some_out h
            subst h
            have ho := hx2128 _ rfl
            subst ho
            refine hK2130 _ _ ?_
            exact ⟨x2068, x2073, v2067, rfl, hs2063, hs2064, hs2065, hs2072, hs2074, hs2079, hs2080, hs2081, h2078, h2082, h2085, h2088, hB2084, hB2087, hB2090, h2070, hf2071, hn2091, hn2092, hn2093, e2062⟩
        · rintro ρ wd2094 ⟨x2101, x2106, v2100, rfl, hs2096, hs2097, hs2098, hs2105, hs2107, hs2109, hs2110, hs2111, h2108, h2112, h2115, h2118, hB2114, hB2117, hB2120, h2103, hf2104, hn2121, hn2122, hn2123, e2095⟩
          replace h := hn2126
          refine hK1722 _ _ ?_
          refine WC_region ?_
          refine T0_q (v := (.int .i64 (w64 (x1680 + 1)))) rfl (yl_add hs2111 rfl) ?_
          refine T0_q (v := (.int .i64 (w64 (x1680 + 1)))) rfl (yl_move rfl) ?_
          refine T0_nil ?_
          replace h := some_out h
          subst h
          refine hK1716 _ _ _ rfl ?_
          exact ⟨x2101, x2106, w64 (x1680 + 1), v2100, rfl, hs2096, hs2097, hs2098, hs2105, hs2107, hs2109, hs2110, rfl, h2108, h2112, h2115, h2118, hB2114, hB2117, hB2120, h2103, hf2104, hn2121, hn2122, hn2123, e2095⟩
      · replace h := cond_f hb1721 h
        refine WC_exit ?_
        replace h := some_out h
        subst h
        have ho := hx1715 _ rfl
        subst ho
        refine hK1717 _ _ ?_
        exact ⟨x1670, v1669, rfl, hs1674, (h1672.sub (sub_cons mem0 (sub_skip (sub_skip (sub_refl _))))), hf1673, e1664⟩
    · rintro ρ wd1702 ⟨x1706, v1705, rfl, hs1710, h1708, hf1709, e1703⟩
      replace h := hn1713
      refine hK94 _ _ ?_
      refine WC_seqK fun K2212 hK2212 => ?_
      refine WC_region ?_
      refine T0_q (v := v1705) rfl (yl_move hs1710) ?_
      refine T0_q (v := v1705) rfl (yl_assign rfl) ?_
      refine T0_q (v := (.int .i64 0)) rfl (yl_assign rfl) ?_
      refine T0_nil ?_
      refine hK2212 _ _ ?_
      refine WC_ret ?_
      replace h := some_out h
      subst h
      exact ⟨[v1705, (.int .i64 0)], ⟨rfl, rfl, trivial⟩, e1703, v1705, rfl, (h1708.rdL (sub_skip (sub_refl _)) hL hf1709)⟩

noncomputable def locate_PlaceOf_spec (p_t : LocateTrack) (p_x : LocateReading) : Option (Range × Int) :=
  (Option.bind (locate_Possible_spec p_t p_x) fun r40 =>
  (Option.bind (locate_only_api_Range_spec r40.1 r40.2) fun r50 =>
  some ((Range.mk r50.1.Lo r50.1.Hi), r50.2)
  )
  )
theorem locate_PlaceOf_ok (L : List Value) (w : World) (hL : LtL L w) (cs_p_t : List Value) (p_t : LocateTrack) (h_p_t : Rep.rd L w cs_p_t p_t) (cs_p_x : List Value) (p_x : LocateReading) (h_p_x : Rep.rd L w cs_p_x p_x) (r : Range × Int) (h : locate_PlaceOf_spec p_t p_x = some r) :
    CallsTo Tryd.prog 23 [(.agg cs_p_t.toArray), (.agg cs_p_x.toArray)] w (fun v w' => Ext w w' ∧ ∃ (cs0 : List Value), (.tuple #[(.agg cs0.toArray), (.int .i64 r.2)]) = v ∧ Rep.rd L w' cs0 r.1) := by
  have e0 : Ext w w := Chg.refl _ _
  obtain ⟨v1, h2, rfl⟩ := h_p_t
  obtain ⟨v4, h5, rfl⟩ := h_p_x
  refine callsTo_of_WC (n := 14) (rs := [.cell 4 36, .tmp 5]) Tryd.func23 rfl rfl rfl rfl rfl ?_
  refine WC_seqK fun K7 hK7 => ?_
  refine WC_region ?_
  refine T0_e rfl (eff_boxC (cs := [v1, (.int .i64 p_t.Window), (.int .i64 p_t.Tooth), (.int .i64 p_t.PerVane), (.int .i64 p_t.First), (.int .i64 p_t.Modulus), (.int .i64 p_t.Slack), (.int .i64 p_t.Errors), (.bool p_t.Round)]) rfl rfl ?_)
  intro b8 wd9 hb10 he11 hB12
  have hbf13 := bfresh e0 hb10
  have e14 := e0.trans he11
  refine T0_e rfl (eff_boxC (cs := [v4, (.int .i64 p_x.Count)]) rfl rfl ?_)
  intro b16 wd17 hb18 he19 hB20
  have hn21 : b16 ≠ b8 := box_ne hB12 hb18
  have hbf22 := bfresh e14 hb18
  have e23 := he11.trans he19
  have e24 := e14.trans he19
  refine T0_e rfl (eff_allocZ zi36 ?_)
  intro b26 wd27 hb28 he29 hB30
  have hn31 : b26 ≠ b8 := box_ne (hB12.ext he19) hb28
  have hn32 : b26 ≠ b16 := box_ne hB20 hb28
  have hbf33 := bfresh e24 hb28
  have h34 := (h2.ext e23).step (add_box he29 hb28)
  have h35 := (h5.ext e23).step (add_box he29 hb28)
  have e36 := he19.trans he29
  have e37 := e24.trans he29
  refine T0_q (v := (.int .i64 0)) rfl (yl_assign rfl) ?_
  refine T0_nil ?_
  refine hK7 _ _ ?_
  refine WC_seqK fun K39 hK39 => ?_
  refine WC_region ?_
  refine T0_q (v := (.agg (List.toArray [v1, (.int .i64 p_t.Window), (.int .i64 p_t.Tooth), (.int .i64 p_t.PerVane), (.int .i64 p_t.First), (.int .i64 p_t.Modulus), (.int .i64 p_t.Slack), (.int .i64 p_t.Errors), (.bool p_t.Round)]))) rfl (yl_loadA (cs := [v1, (.int .i64 p_t.Window), (.int .i64 p_t.Tooth), (.int .i64 p_t.PerVane), (.int .i64 p_t.First), (.int .i64 p_t.Modulus), (.int .i64 p_t.Slack), (.int .i64 p_t.Errors), (.bool p_t.Round)]) ag24 rfl (Box.at (hB12.ext e36))) ?_
  refine T0_q (v := (.agg (List.toArray [v4, (.int .i64 p_x.Count)]))) rfl (yl_loadA (cs := [v4, (.int .i64 p_x.Count)]) ag26 rfl (Box.at (hB20.ext he29))) ?_
  obtain ⟨r40, hr41, h⟩ := bind_elim h
  refine T0_e rfl (eff_call Tryd.func20 nm20 rfl (ev2 rfl rfl) (locate_Possible_ok ((.pointer (some ⟨b26, 0, none⟩)) :: L) _ (ltl_box (hL.chg e37) hB30) [v1, (.int .i64 p_t.Window), (.int .i64 p_t.Tooth), (.int .i64 p_t.PerVane), (.int .i64 p_t.First), (.int .i64 p_t.Modulus), (.int .i64 p_t.Slack), (.int .i64 p_t.Errors), (.bool p_t.Round)] p_t ⟨v1, h34, rfl⟩ [v4, (.int .i64 p_x.Count)] p_x ⟨v4, h35, rfl⟩ r40 hr41) ?_)
  rintro _ wd42 ⟨he43, v44, rfl, h45⟩
  have e46 := he29.trans he43
  have e47 := e36.trans he43
  have e48 := e37.trans he43
  refine T0_q (v := v44) rfl (yl_extract rfl rfl) ?_
  refine T0_q (v := (.int .i64 r40.2)) rfl (yl_extract rfl rfl) ?_
  obtain ⟨r50, hr51, h⟩ := bind_elim h
  refine T0_e rfl (eff_call Tryd.func89 nm89 rfl (ev2 rfl rfl) (locate_only_api_Range_ok [] _ (LtL.nil _) v44 r40.1 (h45.sub (fun _ h => by cases h)) r40.2 r50 hr51) ?_)
  rintro _ wd52 ⟨he53, cs54, rfl, hrd55⟩
  have e56 := e46.trans he53
  have e57 := he43.trans he53
  have e58 := e47.trans he53
  have e59 := e48.trans he53
  have hrd55 : cs54 = [(.int .i64 r50.1.Lo), (.int .i64 r50.1.Hi)] := hrd55
  subst hrd55
  refine T0_q (v := (.agg (List.toArray [(.int .i64 r50.1.Lo), (.int .i64 r50.1.Hi)]))) rfl (yl_extract rfl rfl) ?_
  refine T0_q (v := (.int .i64 r50.2)) rfl (yl_extract rfl rfl) ?_
  refine T0_e rfl (eff_storeC (vs := [(.int .i64 r50.1.Lo), (.int .i64 r50.1.Hi)]) (cs' := [(.int .i64 r50.1.Lo), (.int .i64 r50.1.Hi)]) sz36 rfl rfl rfl rfl (hB30.ext e57) rfl (oc_cons rfl (oc_cons rfl oc_nil)) rfl ?_)
  intro wd60 hc61 hB62
  have h63 := (h34.ext e57).step (Stepp.chg_mem hc61 mem0)
  have h64 := (h35.ext e57).step (Stepp.chg_mem hc61 mem0)
  have h65 := (hB12.ext e58).chg hc61 (avoidb hn31)
  have h66 := (hB20.ext e56).chg hc61 (avoidb hn32)
  have h67 := (h45.ext he53).step (Stepp.chg_mem hc61 mem0)
  have e68 := chg_box e59 hc61 hbf33
  refine T0_q (v := (.int .i64 r50.2)) rfl (yl_assign rfl) ?_
  refine T0_nil ?_
  refine hK39 _ _ ?_
  refine WC_ret ?_
  replace h := some_out h
  subst h
  exact ⟨[(.agg (List.toArray [(.int .i64 r50.1.Lo), (.int .i64 r50.1.Hi)])), (.int .i64 r50.2)], ⟨⟨_, rfl, run_loadVarA (cs := [(.int .i64 r50.1.Lo), (.int .i64 r50.1.Hi)]) ag36 (Box.at hB62)⟩, rfl, trivial⟩, e68, [(.int .i64 r50.1.Lo), (.int .i64 r50.1.Hi)], rfl, rfl⟩

noncomputable def locate_Near_spec (p_t : LocateTrack) (p_seen : (List Int)) : Option ((List Int) × Int) :=
  (Option.bind (locate_openSeen_spec p_t p_seen) fun r15 =>
  (bif (!decide (r15.2 = 0)) then (
    some (([] : (List Int)), r15.2)
  ) else (
    (Option.bind (locate_track_near_spec (locate_track.mk (LocateTrack.mk r15.1.LocateTrack.Vanes r15.1.LocateTrack.Window r15.1.LocateTrack.Tooth r15.1.LocateTrack.PerVane r15.1.LocateTrack.First r15.1.LocateTrack.Modulus r15.1.LocateTrack.Slack r15.1.LocateTrack.Errors r15.1.LocateTrack.Round)) p_seen) fun r52 =>
    some (r52, 0)
    )
  ))
  )
theorem locate_Near_ok (L : List Value) (w : World) (hL : LtL L w) (cs_p_t : List Value) (p_t : LocateTrack) (h_p_t : Rep.rd L w cs_p_t p_t) (v_p_seen : Value) (p_seen : (List Int)) (h_p_seen : SlRd L w v_p_seen p_seen) (r : (List Int) × Int) (h : locate_Near_spec p_t p_seen = some r) :
    CallsTo Tryd.prog 29 [(.agg cs_p_t.toArray), v_p_seen] w (fun v w' => Ext w w' ∧ ∃ (v0 : Value), (.tuple #[v0, (.int .i64 r.2)]) = v ∧ SlRd L w' v0 r.1) := by
  have e0 : Ext w w := Chg.refl _ _
  obtain ⟨v1, h2, rfl⟩ := h_p_t
  refine callsTo_of_WC (n := 20) (rs := [.tmp 4, .tmp 5]) Tryd.func29 rfl rfl rfl rfl rfl ?_
  refine WC_seqK fun K5 hK5 => ?_
  refine WC_region ?_
  refine T0_e rfl (eff_boxC (cs := [v1, (.int .i64 p_t.Window), (.int .i64 p_t.Tooth), (.int .i64 p_t.PerVane), (.int .i64 p_t.First), (.int .i64 p_t.Modulus), (.int .i64 p_t.Slack), (.int .i64 p_t.Errors), (.bool p_t.Round)]) rfl rfl ?_)
  intro b6 wd7 hb8 he9 hB10
  have hbf11 := bfresh e0 hb8
  have e12 := e0.trans he9
  refine T0_q (v := (.slice none 0 0)) rfl (yl_assign rfl) ?_
  refine T0_q (v := (.int .i64 0)) rfl (yl_assign rfl) ?_
  refine T0_nil ?_
  refine hK5 _ _ ?_
  refine WC_seqK fun K14 hK14 => ?_
  refine WC_region ?_
  refine T0_q (v := (.agg (List.toArray [v1, (.int .i64 p_t.Window), (.int .i64 p_t.Tooth), (.int .i64 p_t.PerVane), (.int .i64 p_t.First), (.int .i64 p_t.Modulus), (.int .i64 p_t.Slack), (.int .i64 p_t.Errors), (.bool p_t.Round)]))) rfl (yl_loadA (cs := [v1, (.int .i64 p_t.Window), (.int .i64 p_t.Tooth), (.int .i64 p_t.PerVane), (.int .i64 p_t.First), (.int .i64 p_t.Modulus), (.int .i64 p_t.Slack), (.int .i64 p_t.Errors), (.bool p_t.Round)]) ag24 rfl (Box.at hB10)) ?_
  refine T0_q (v := v_p_seen) rfl (yl_move rfl) ?_
  obtain ⟨r15, hr16, h⟩ := bind_elim h
  refine T0_e rfl (eff_call Tryd.func83 nm83 rfl (ev2 rfl rfl) (locate_openSeen_ok L _ (hL.chg e12) [v1, (.int .i64 p_t.Window), (.int .i64 p_t.Tooth), (.int .i64 p_t.PerVane), (.int .i64 p_t.First), (.int .i64 p_t.Modulus), (.int .i64 p_t.Slack), (.int .i64 p_t.Errors), (.bool p_t.Round)] p_t ⟨v1, (h2.ext he9), rfl⟩ v_p_seen p_seen (h_p_seen.ext he9) r15 hr16) ?_)
  rintro _ wd17 ⟨he18, cs21, rfl, hrd22⟩
  have e23 := he9.trans he18
  have e24 := e12.trans he18
  obtain ⟨v19, h20, rfl⟩ := hrd22
  refine T0_q (v := (.tuple #[(.agg (List.toArray [v19, (.int .i64 r15.1.LocateTrack.Window), (.int .i64 r15.1.LocateTrack.Tooth), (.int .i64 r15.1.LocateTrack.PerVane), (.int .i64 r15.1.LocateTrack.First), (.int .i64 r15.1.LocateTrack.Modulus), (.int .i64 r15.1.LocateTrack.Slack), (.int .i64 r15.1.LocateTrack.Errors), (.bool r15.1.LocateTrack.Round)])), (.int .i64 r15.2)])) rfl (yl_move rfl) ?_
  refine T0_q (v := (.agg (List.toArray [v19, (.int .i64 r15.1.LocateTrack.Window), (.int .i64 r15.1.LocateTrack.Tooth), (.int .i64 r15.1.LocateTrack.PerVane), (.int .i64 r15.1.LocateTrack.First), (.int .i64 r15.1.LocateTrack.Modulus), (.int .i64 r15.1.LocateTrack.Slack), (.int .i64 r15.1.LocateTrack.Errors), (.bool r15.1.LocateTrack.Round)]))) rfl (yl_extract rfl rfl) ?_
  refine T0_q (v := (.int .i64 r15.2)) rfl (yl_extract rfl rfl) ?_
  refine T0_e rfl (eff_allocZ zi130 ?_)
  intro b26 wd27 hb28 he29 hB30
  have hn31 : b26 ≠ b6 := box_ne (hB10.ext he18) hb28
  have hbf32 := bfresh e24 hb28
  have h33 := (h2.ext e23).step (add_box he29 hb28)
  have h34 := (h_p_seen.ext e23).step (add_box he29 hb28)
  have h35 := h20.step (add_box he29 hb28)
  have e36 := he18.trans he29
  have e37 := e24.trans he29
  refine T0_e rfl (eff_storeC (vs := [v19, (.int .i64 r15.1.LocateTrack.Window), (.int .i64 r15.1.LocateTrack.Tooth), (.int .i64 r15.1.LocateTrack.PerVane), (.int .i64 r15.1.LocateTrack.First), (.int .i64 r15.1.LocateTrack.Modulus), (.int .i64 r15.1.LocateTrack.Slack), (.int .i64 r15.1.LocateTrack.Errors), (.bool r15.1.LocateTrack.Round)]) (cs' := [v19, (.int .i64 r15.1.LocateTrack.Window), (.int .i64 r15.1.LocateTrack.Tooth), (.int .i64 r15.1.LocateTrack.PerVane), (.int .i64 r15.1.LocateTrack.First), (.int .i64 r15.1.LocateTrack.Modulus), (.int .i64 r15.1.LocateTrack.Slack), (.int .i64 r15.1.LocateTrack.Errors), (.bool r15.1.LocateTrack.Round)]) sz130 rfl rfl rfl rfl hB30 rfl (oc_cons h35.one1 (oc_cons rfl (oc_cons rfl (oc_cons rfl (oc_cons rfl (oc_cons rfl (oc_cons rfl (oc_cons rfl (oc_cons rfl oc_nil))))))))) rfl ?_)
  intro wd39 hc40 hB41
  have h42 := h33.step (Stepp.chg_mem hc40 mem0)
  have h43 := h34.step (Stepp.chg_mem hc40 mem0)
  have h44 := (hB10.ext e36).chg hc40 (avoidb hn31)
  have h45 := h35.step (Stepp.chg_mem hc40 mem0)
  have e46 := chg_box e37 hc40 hbf32
  refine T0_q (v := (.int .i64 r15.2)) rfl (yl_assign rfl) ?_
  refine T0_nil ?_
  refine hK14 _ _ ?_
  refine WC_seqK fun K47 hK47 => ?_
  refine WC_seqK fun K48 hK48 => ?_
  refine WC_region ?_
  refine T0_q (v := (.int .i64 r15.2)) rfl (yl_move rfl) ?_
  refine T0_q (v := (.bool (!decide (r15.2 = 0)))) rfl (yl_neq rfl rfl) ?_
  refine T0_nil ?_
  refine hK48 _ _ ?_
  refine WC_cond (b := (!decide (r15.2 = 0))) rfl (fun hb49 => ?_) (fun hb49 => ?_)
  · replace h := cond_t hb49 h
    refine WC_seqK fun K50 hK50 => ?_
    refine WC_region ?_
    refine T0_q (v := (.int .i64 r15.2)) rfl (yl_move rfl) ?_
    refine T0_q (v := (.slice none 0 0)) rfl (yl_assign rfl) ?_
    refine T0_q (v := (.int .i64 r15.2)) rfl (yl_assign rfl) ?_
    refine T0_nil ?_
    refine hK50 _ _ ?_
    refine WC_ret ?_
    replace h := some_out h
    subst h
    exact ⟨[(.slice none 0 0), (.int .i64 r15.2)], ⟨rfl, rfl, trivial⟩, e46, (.slice none 0 0), rfl, (SlRd.nil _ _)⟩
  · replace h := cond_f hb49 h
    refine WC_skip ?_
    refine hK47 _ _ ?_
    refine WC_seqK fun K51 hK51 => ?_
    refine WC_region ?_
    refine T0_q (v := (.agg (List.toArray [v19, (.int .i64 r15.1.LocateTrack.Window), (.int .i64 r15.1.LocateTrack.Tooth), (.int .i64 r15.1.LocateTrack.PerVane), (.int .i64 r15.1.LocateTrack.First), (.int .i64 r15.1.LocateTrack.Modulus), (.int .i64 r15.1.LocateTrack.Slack), (.int .i64 r15.1.LocateTrack.Errors), (.bool r15.1.LocateTrack.Round)]))) rfl (yl_loadA (cs := [v19, (.int .i64 r15.1.LocateTrack.Window), (.int .i64 r15.1.LocateTrack.Tooth), (.int .i64 r15.1.LocateTrack.PerVane), (.int .i64 r15.1.LocateTrack.First), (.int .i64 r15.1.LocateTrack.Modulus), (.int .i64 r15.1.LocateTrack.Slack), (.int .i64 r15.1.LocateTrack.Errors), (.bool r15.1.LocateTrack.Round)]) ag130 rfl (Box.at hB41)) ?_
    refine T0_q (v := v_p_seen) rfl (yl_move rfl) ?_
    obtain ⟨r52, hr53, h⟩ := bind_elim h
    refine T0_e rfl (eff_call Tryd.func87 nm87 rfl (ev2 rfl rfl) (locate_track_near_ok ((.pointer (some ⟨b26, 0, none⟩)) :: L) _ (ltl_box (hL.chg e46) hB41) [v19, (.int .i64 r15.1.LocateTrack.Window), (.int .i64 r15.1.LocateTrack.Tooth), (.int .i64 r15.1.LocateTrack.PerVane), (.int .i64 r15.1.LocateTrack.First), (.int .i64 r15.1.LocateTrack.Modulus), (.int .i64 r15.1.LocateTrack.Slack), (.int .i64 r15.1.LocateTrack.Errors), (.bool r15.1.LocateTrack.Round)] (locate_track.mk (LocateTrack.mk r15.1.LocateTrack.Vanes r15.1.LocateTrack.Window r15.1.LocateTrack.Tooth r15.1.LocateTrack.PerVane r15.1.LocateTrack.First r15.1.LocateTrack.Modulus r15.1.LocateTrack.Slack r15.1.LocateTrack.Errors r15.1.LocateTrack.Round)) ⟨v19, h45, rfl⟩ v_p_seen p_seen h43 r52 hr53) ?_)
    rintro _ wd54 ⟨he55, v56, rfl, h57⟩
    have e58 := e46.trans he55
    refine T0_q (v := v56) rfl (yl_assign rfl) ?_
    refine T0_q (v := (.int .i64 0)) rfl (yl_assign rfl) ?_
    refine T0_nil ?_
    refine hK51 _ _ ?_
    refine WC_ret ?_
    replace h := some_out h
    subst h
    exact ⟨[v56, (.int .i64 0)], ⟨rfl, rfl, trivial⟩, e58, v56, rfl, (h57.sub (sub_skip (sub_refl _)))⟩

noncomputable def locate_Told_spec (p_t : LocateTrack) (p_seen : (List Int)) : Option (Int × Int) :=
  (Option.bind (locate_Near_spec p_t p_seen) fun r15 =>
  (Option.bind (locate_only_int_spec r15.1 r15.2) fun r24 =>
  some (r24.1, r24.2)
  )
  )
theorem locate_Told_ok (L : List Value) (w : World) (hL : LtL L w) (cs_p_t : List Value) (p_t : LocateTrack) (h_p_t : Rep.rd L w cs_p_t p_t) (v_p_seen : Value) (p_seen : (List Int)) (h_p_seen : SlRd L w v_p_seen p_seen) (r : Int × Int) (h : locate_Told_spec p_t p_seen = some r) :
    CallsTo Tryd.prog 39 [(.agg cs_p_t.toArray), v_p_seen] w (fun v w' => Ext w w' ∧ (.tuple #[(.int .i64 r.1), (.int .i64 r.2)]) = v) := by
  have e0 : Ext w w := Chg.refl _ _
  obtain ⟨v1, h2, rfl⟩ := h_p_t
  refine callsTo_of_WC (n := 14) (rs := [.tmp 4, .tmp 5]) Tryd.func39 rfl rfl rfl rfl rfl ?_
  refine WC_seqK fun K5 hK5 => ?_
  refine WC_region ?_
  refine T0_e rfl (eff_boxC (cs := [v1, (.int .i64 p_t.Window), (.int .i64 p_t.Tooth), (.int .i64 p_t.PerVane), (.int .i64 p_t.First), (.int .i64 p_t.Modulus), (.int .i64 p_t.Slack), (.int .i64 p_t.Errors), (.bool p_t.Round)]) rfl rfl ?_)
  intro b6 wd7 hb8 he9 hB10
  have hbf11 := bfresh e0 hb8
  have e12 := e0.trans he9
  refine T0_q (v := (.int .i64 0)) rfl (yl_assign rfl) ?_
  refine T0_q (v := (.int .i64 0)) rfl (yl_assign rfl) ?_
  refine T0_nil ?_
  refine hK5 _ _ ?_
  refine WC_seqK fun K14 hK14 => ?_
  refine WC_region ?_
  refine T0_q (v := (.agg (List.toArray [v1, (.int .i64 p_t.Window), (.int .i64 p_t.Tooth), (.int .i64 p_t.PerVane), (.int .i64 p_t.First), (.int .i64 p_t.Modulus), (.int .i64 p_t.Slack), (.int .i64 p_t.Errors), (.bool p_t.Round)]))) rfl (yl_loadA (cs := [v1, (.int .i64 p_t.Window), (.int .i64 p_t.Tooth), (.int .i64 p_t.PerVane), (.int .i64 p_t.First), (.int .i64 p_t.Modulus), (.int .i64 p_t.Slack), (.int .i64 p_t.Errors), (.bool p_t.Round)]) ag24 rfl (Box.at hB10)) ?_
  refine T0_q (v := v_p_seen) rfl (yl_move rfl) ?_
  obtain ⟨r15, hr16, h⟩ := bind_elim h
  refine T0_e rfl (eff_call Tryd.func29 nm29 rfl (ev2 rfl rfl) (locate_Near_ok L _ (hL.chg e12) [v1, (.int .i64 p_t.Window), (.int .i64 p_t.Tooth), (.int .i64 p_t.PerVane), (.int .i64 p_t.First), (.int .i64 p_t.Modulus), (.int .i64 p_t.Slack), (.int .i64 p_t.Errors), (.bool p_t.Round)] p_t ⟨v1, (h2.ext he9), rfl⟩ v_p_seen p_seen (h_p_seen.ext he9) r15 hr16) ?_)
  rintro _ wd17 ⟨he18, v19, rfl, h20⟩
  have e21 := he9.trans he18
  have e22 := e12.trans he18
  refine T0_q (v := v19) rfl (yl_extract rfl rfl) ?_
  refine T0_q (v := (.int .i64 r15.2)) rfl (yl_extract rfl rfl) ?_
  obtain ⟨r24, hr25, h⟩ := bind_elim h
  refine T0_e rfl (eff_call Tryd.func95 nm95 rfl (ev2 rfl rfl) (locate_only_int_ok [] _ (LtL.nil _) v19 r15.1 (h20.sub (fun _ h => by cases h)) r15.2 r24 hr25) ?_)
  rintro _ wd26 ⟨he27, rfl⟩
  have e28 := e21.trans he27
  have e29 := he18.trans he27
  have e30 := e22.trans he27
  refine T0_q (v := (.int .i64 r24.1)) rfl (yl_extract rfl rfl) ?_
  refine T0_q (v := (.int .i64 r24.2)) rfl (yl_extract rfl rfl) ?_
  refine T0_q (v := (.int .i64 r24.1)) rfl (yl_assign rfl) ?_
  refine T0_q (v := (.int .i64 r24.2)) rfl (yl_assign rfl) ?_
  refine T0_nil ?_
  refine hK14 _ _ ?_
  refine WC_ret ?_
  replace h := some_out h
  subst h
  exact ⟨[(.int .i64 r24.1), (.int .i64 r24.2)], ⟨rfl, rfl, trivial⟩, e30, rfl⟩

noncomputable def law04_awake_spec : Option Bool :=
  (Option.bind (law04_Round_spec) fun r3 =>
  (Option.bind (locate_Near_spec r3 ([0, 2, 1] : List Int)) fun r19 =>
  (Option.bind (law04_Round_spec) fun r29 =>
  (Option.bind (locate_PlaceOf_spec r29 (LocateReading.mk ([0, 2, 1] : List Int) 1)) fun r50 =>
  (Option.bind (locate_Joined_spec ([(LocateRest.mk 4 2), (LocateRest.mk 6 4)] : List LocateRest)) fun r90 =>
  (Option.bind (locate_Counted_spec ([0, 1, 3, 1, 2] : List Int)) fun r132 =>
  (Option.bind (locate_Fused_spec ([(Range.mk 0 10), (Range.mk 5 20), (Range.mk 30 40)] : List Range) 1) fun r178 =>
  (Option.bind (bif (decide (r19.2 = 0)) then base_Ints_spec r19.1 ([0, 1] : List Int) else some default) fun r197 =>
  (Option.bind (bif (((((((((decide (r19.2 = 0)) && r197) && (decide (r50.2 = 0))) && (decide ((Range.mk r50.1.Lo r50.1.Hi) = (Range.mk 1100 1199)))) && (decide (r90.2 = 0))) && (decide ((LocateRest.mk r90.1.Modulus r90.1.Rest) = (LocateRest.mk 12 10)))) && (decide (r132.2 = 0))) && (decide ((LocateSteps.mk r132.1.Steps r132.1.Skips) = (LocateSteps.mk 1 1)))) && (decide (r178.2 = 0))) then base_Ranges_spec r178.1 ([(Range.mk 5 10)] : List Range) else some default) fun r216 =>
  some ((((((((((decide (r19.2 = 0)) && r197) && (decide (r50.2 = 0))) && (decide ((Range.mk r50.1.Lo r50.1.Hi) = (Range.mk 1100 1199)))) && (decide (r90.2 = 0))) && (decide ((LocateRest.mk r90.1.Modulus r90.1.Rest) = (LocateRest.mk 12 10)))) && (decide (r132.2 = 0))) && (decide ((LocateSteps.mk r132.1.Steps r132.1.Skips) = (LocateSteps.mk 1 1)))) && (decide (r178.2 = 0))) && r216)
  )
  )
  )
  )
  )
  )
  )
  )
  )
theorem law04_awake_ok (L : List Value) (w : World) (hL : LtL L w) (hg0 : At w ⟨0, 0, none⟩ [.int .i64 0, .int .i64 1, .int .i64 3, .int .i64 2]) (r : Bool) (h : law04_awake_spec = some r) :
    CallsTo Tryd.prog 18 [] w (fun v w' => Ext w w' ∧ (.bool r) = v) := by
  have e0 : Ext w w := Chg.refl _ _
  refine callsTo_of_WC (n := 88) (rs := [.tmp 0]) Tryd.func18 rfl rfl rfl rfl rfl ?_
  refine WC_seqK fun K1 hK1 => ?_
  refine WC_region ?_
  refine T0_q (v := (.bool false)) rfl (yl_assign rfl) ?_
  refine T0_nil ?_
  refine hK1 _ _ ?_
  refine WC_seqK fun K2 hK2 => ?_
  refine WC_region ?_
  obtain ⟨r3, hr4, h⟩ := bind_elim h
  refine T0_e rfl (eff_call Tryd.func82 nm82 rfl ev0 (law04_Round_ok L _ (hL.chg e0)  r3 hr4) ?_)
  rintro _ wd5 ⟨he6, cs9, rfl, hrd10⟩
  have e11 := e0.trans he6
  obtain ⟨v7, h8, rfl⟩ := hrd10
  refine T0_e rfl (eff_buildTC (xs := ([0, 2, 1] : List Int)) (cells := [(.int .i64 0), (.int .i64 2), (.int .i64 1)]) Tryd.underlying22 ei3 rfl (pc_cons rfl rfl (pc_cons rfl rfl (pc_cons rfl rfl pc_nil))) rfl (Elems.cons (cs := [(.int .i64 0)]) rfl (Elems.cons (cs := [(.int .i64 2)]) rfl (Elems.cons (cs := [(.int .i64 1)]) rfl Elems.nil))) rfl (hL.chg e11) ?_)
  intro b16 wd13 he14 h15
  have e17 := e11.trans he14
  obtain ⟨r19, hr20, h⟩ := bind_elim h
  refine T0_e rfl (eff_call Tryd.func29 nm29 rfl (ev2 rfl rfl) (locate_Near_ok L _ (hL.chg e17) [v7, (.int .i64 r3.Window), (.int .i64 r3.Tooth), (.int .i64 r3.PerVane), (.int .i64 r3.First), (.int .i64 r3.Modulus), (.int .i64 r3.Slack), (.int .i64 r3.Errors), (.bool r3.Round)] r3 ⟨v7, (h8.ext he14), rfl⟩ (.slice (some ⟨b16, 0, none⟩) 3 3) ([0, 2, 1] : List Int) h15 r19 hr20) ?_)
  rintro _ wd21 ⟨he22, v23, rfl, h24⟩
  have e25 := he14.trans he22
  have e26 := e17.trans he22
  refine T0_q (v := (.tuple #[v23, (.int .i64 r19.2)])) rfl (yl_move rfl) ?_
  refine T0_q (v := v23) rfl (yl_extract rfl rfl) ?_
  refine T0_q (v := (.int .i64 r19.2)) rfl (yl_extract rfl rfl) ?_
  refine T0_q (v := v23) rfl (yl_assign rfl) ?_
  refine T0_q (v := (.int .i64 r19.2)) rfl (yl_assign rfl) ?_
  refine T0_nil ?_
  refine hK2 _ _ ?_
  refine WC_seqK fun K28 hK28 => ?_
  refine WC_region ?_
  obtain ⟨r29, hr30, h⟩ := bind_elim h
  refine T0_e rfl (eff_call Tryd.func82 nm82 rfl ev0 (law04_Round_ok L _ (hL.chg e26)  r29 hr30) ?_)
  rintro _ wd31 ⟨he32, cs35, rfl, hrd36⟩
  have e37 := he22.trans he32
  have e38 := e25.trans he32
  have e39 := e26.trans he32
  obtain ⟨v33, h34, rfl⟩ := hrd36
  refine T0_e rfl (eff_buildTC (xs := ([0, 2, 1] : List Int)) (cells := [(.int .i64 0), (.int .i64 2), (.int .i64 1)]) Tryd.underlying22 ei3 rfl (pc_cons rfl rfl (pc_cons rfl rfl (pc_cons rfl rfl pc_nil))) rfl (Elems.cons (cs := [(.int .i64 0)]) rfl (Elems.cons (cs := [(.int .i64 2)]) rfl (Elems.cons (cs := [(.int .i64 1)]) rfl Elems.nil))) rfl (hL.chg e39) ?_)
  intro b44 wd41 he42 h43
  have e45 := e37.trans he42
  have e46 := he32.trans he42
  have e47 := e38.trans he42
  have e48 := e39.trans he42
  refine T0_q (v := (.agg (List.toArray [(.slice (some ⟨b44, 0, none⟩) 3 3), (.int .i64 1)]))) rfl (yl_buildC (cells := [(.slice (some ⟨b44, 0, none⟩) 3 3), (.int .i64 1)]) bi26 (pc_cons rfl (cells_one h43.one1) (pc_cons rfl rfl pc_nil)) rfl) ?_
  obtain ⟨r50, hr51, h⟩ := bind_elim h
  refine T0_e rfl (eff_call Tryd.func23 nm23 rfl (ev2 rfl rfl) (locate_PlaceOf_ok [] _ (LtL.nil _) [v33, (.int .i64 r29.Window), (.int .i64 r29.Tooth), (.int .i64 r29.PerVane), (.int .i64 r29.First), (.int .i64 r29.Modulus), (.int .i64 r29.Slack), (.int .i64 r29.Errors), (.bool r29.Round)] r29 ⟨v33, ((h34.ext he42).sub (fun _ h => by cases h)), rfl⟩ [(.slice (some ⟨b44, 0, none⟩) 3 3), (.int .i64 1)] (LocateReading.mk ([0, 2, 1] : List Int) 1) ⟨(.slice (some ⟨b44, 0, none⟩) 3 3), (h43.sub (fun _ h => by cases h)), rfl⟩ r50 hr51) ?_)
  rintro _ wd52 ⟨he53, cs54, rfl, hrd55⟩
  have e56 := e45.trans he53
  have e57 := e46.trans he53
  have e58 := he42.trans he53
  have e59 := e47.trans he53
  have e60 := e48.trans he53
  have hrd55 : cs54 = [(.int .i64 r50.1.Lo), (.int .i64 r50.1.Hi)] := hrd55
  subst hrd55
  refine T0_q (v := (.tuple #[(.agg (List.toArray [(.int .i64 r50.1.Lo), (.int .i64 r50.1.Hi)])), (.int .i64 r50.2)])) rfl (yl_move rfl) ?_
  refine T0_q (v := (.agg (List.toArray [(.int .i64 r50.1.Lo), (.int .i64 r50.1.Hi)]))) rfl (yl_extract rfl rfl) ?_
  refine T0_q (v := (.int .i64 r50.2)) rfl (yl_extract rfl rfl) ?_
  refine T0_e rfl (eff_allocZ zi36 ?_)
  intro b61 wd62 hb63 he64 hB65
  have hbf66 := bfresh e60 hb63
  have h67 := (h8.ext e59).step (add_box he64 hb63)
  have h68 := (h15.ext e56).step (add_box he64 hb63)
  have h69 := (h24.ext e57).step (add_box he64 hb63)
  have h70 := (h34.ext e58).step (add_box he64 hb63)
  have h71 := (h43.ext he53).step (add_box he64 hb63)
  have e72 := e60.trans he64
  refine T0_e rfl (eff_storeC (vs := [(.int .i64 r50.1.Lo), (.int .i64 r50.1.Hi)]) (cs' := [(.int .i64 r50.1.Lo), (.int .i64 r50.1.Hi)]) sz36 rfl rfl rfl rfl hB65 rfl (oc_cons rfl (oc_cons rfl oc_nil)) rfl ?_)
  intro wd74 hc75 hB76
  have h77 := h67.step (Stepp.chg_mem hc75 mem0)
  have h78 := h68.step (Stepp.chg_mem hc75 mem0)
  have h79 := h69.step (Stepp.chg_mem hc75 mem0)
  have h80 := h70.step (Stepp.chg_mem hc75 mem0)
  have h81 := h71.step (Stepp.chg_mem hc75 mem0)
  have e82 := chg_box e72 hc75 hbf66
  refine T0_q (v := (.int .i64 r50.2)) rfl (yl_assign rfl) ?_
  refine T0_nil ?_
  refine hK28 _ _ ?_
  refine WC_seqK fun K83 hK83 => ?_
  refine WC_region ?_
  refine T0_q (v := (.agg (List.toArray [(.int .i64 4), (.int .i64 2)]))) rfl (yl_buildC (cells := [(.int .i64 4), (.int .i64 2)]) bi53 (pc_cons rfl rfl (pc_cons rfl rfl pc_nil)) rfl) ?_
  refine T0_q (v := (.agg (List.toArray [(.int .i64 6), (.int .i64 4)]))) rfl (yl_buildC (cells := [(.int .i64 6), (.int .i64 4)]) bi53 (pc_cons rfl rfl (pc_cons rfl rfl pc_nil)) rfl) ?_
  refine T0_e rfl (eff_buildTC (xs := ([(LocateRest.mk 4 2), (LocateRest.mk 6 4)] : List LocateRest)) (cells := [(.int .i64 4), (.int .i64 2), (.int .i64 6), (.int .i64 4)]) Tryd.underlying51 ei53 rfl (pc_cons rfl rfl (pc_cons rfl rfl pc_nil)) rfl (Elems.cons (cs := [(.int .i64 4), (.int .i64 2)]) rfl (Elems.cons (cs := [(.int .i64 6), (.int .i64 4)]) rfl Elems.nil)) rfl (ltl_box (hL.chg e82) hB76) ?_)
  intro b87 wd84 he85 h86
  have e88 := e82.trans he85
  obtain ⟨r90, hr91, h⟩ := bind_elim h
  refine T0_e rfl (eff_call Tryd.func32 nm32 rfl (ev1 rfl) (locate_Joined_ok [] _ (LtL.nil _) (.slice (some ⟨b87, 0, none⟩) 2 2) ([(LocateRest.mk 4 2), (LocateRest.mk 6 4)] : List LocateRest) (h86.sub (fun _ h => by cases h)) r90 hr91) ?_)
  rintro _ wd92 ⟨he93, cs94, rfl, hrd95⟩
  have e96 := he85.trans he93
  have e97 := e88.trans he93
  have hrd95 : cs94 = [(.int .i64 r90.1.Modulus), (.int .i64 r90.1.Rest)] := hrd95
  subst hrd95
  refine T0_q (v := (.tuple #[(.agg (List.toArray [(.int .i64 r90.1.Modulus), (.int .i64 r90.1.Rest)])), (.int .i64 r90.2)])) rfl (yl_move rfl) ?_
  refine T0_q (v := (.agg (List.toArray [(.int .i64 r90.1.Modulus), (.int .i64 r90.1.Rest)]))) rfl (yl_extract rfl rfl) ?_
  refine T0_q (v := (.int .i64 r90.2)) rfl (yl_extract rfl rfl) ?_
  refine T0_e rfl (eff_allocZ zi53 ?_)
  intro b98 wd99 hb100 he101 hB102
  have hn103 : b98 ≠ b61 := box_ne (hB76.ext e96) hb100
  have hbf104 := bfresh e97 hb100
  have h105 := (h77.ext e96).step (add_box he101 hb100)
  have h106 := (h78.ext e96).step (add_box he101 hb100)
  have h107 := (h79.ext e96).step (add_box he101 hb100)
  have h108 := (h80.ext e96).step (add_box he101 hb100)
  have h109 := (h81.ext e96).step (add_box he101 hb100)
  have h110 := (h86.ext he93).step (add_box he101 hb100)
  have e111 := e96.trans he101
  have e112 := e97.trans he101
  refine T0_e rfl (eff_storeC (vs := [(.int .i64 r90.1.Modulus), (.int .i64 r90.1.Rest)]) (cs' := [(.int .i64 r90.1.Modulus), (.int .i64 r90.1.Rest)]) sz53 rfl rfl rfl rfl hB102 rfl (oc_cons rfl (oc_cons rfl oc_nil)) rfl ?_)
  intro wd114 hc115 hB116
  have h117 := h105.step (Stepp.chg_mem hc115 mem0)
  have h118 := h106.step (Stepp.chg_mem hc115 mem0)
  have h119 := h107.step (Stepp.chg_mem hc115 mem0)
  have h120 := h108.step (Stepp.chg_mem hc115 mem0)
  have h121 := h109.step (Stepp.chg_mem hc115 mem0)
  have h122 := (hB76.ext e111).chg hc115 (avoidb hn103)
  have h123 := h110.step (Stepp.chg_mem hc115 mem0)
  have e124 := chg_box e112 hc115 hbf104
  refine T0_q (v := (.int .i64 r90.2)) rfl (yl_assign rfl) ?_
  refine T0_nil ?_
  refine hK83 _ _ ?_
  refine WC_seqK fun K125 hK125 => ?_
  refine WC_region ?_
  refine T0_e rfl (eff_buildTC (xs := ([0, 1, 3, 1, 2] : List Int)) (cells := [(.int .i64 0), (.int .i64 1), (.int .i64 3), (.int .i64 1), (.int .i64 2)]) Tryd.underlying22 ei3 rfl (pc_cons rfl rfl (pc_cons rfl rfl (pc_cons rfl rfl (pc_cons rfl rfl (pc_cons rfl rfl pc_nil))))) rfl (Elems.cons (cs := [(.int .i64 0)]) rfl (Elems.cons (cs := [(.int .i64 1)]) rfl (Elems.cons (cs := [(.int .i64 3)]) rfl (Elems.cons (cs := [(.int .i64 1)]) rfl (Elems.cons (cs := [(.int .i64 2)]) rfl Elems.nil))))) rfl (ltl_box (ltl_box (hL.chg e124) h122) hB116) ?_)
  intro b129 wd126 he127 h128
  have e130 := e124.trans he127
  obtain ⟨r132, hr133, h⟩ := bind_elim h
  refine T0_e rfl (eff_call Tryd.func36 nm36 rfl (ev1 rfl) (locate_Counted_ok [] _ (LtL.nil _) (hg0.ext e130) (.slice (some ⟨b129, 0, none⟩) 5 5) ([0, 1, 3, 1, 2] : List Int) (h128.sub (fun _ h => by cases h)) r132 hr133) ?_)
  rintro _ wd134 ⟨he135, cs136, rfl, hrd137⟩
  have e138 := he127.trans he135
  have e139 := e130.trans he135
  have hrd137 : cs136 = [(.int .i64 r132.1.Steps), (.int .i64 r132.1.Skips)] := hrd137
  subst hrd137
  refine T0_q (v := (.tuple #[(.agg (List.toArray [(.int .i64 r132.1.Steps), (.int .i64 r132.1.Skips)])), (.int .i64 r132.2)])) rfl (yl_move rfl) ?_
  refine T0_q (v := (.agg (List.toArray [(.int .i64 r132.1.Steps), (.int .i64 r132.1.Skips)]))) rfl (yl_extract rfl rfl) ?_
  refine T0_q (v := (.int .i64 r132.2)) rfl (yl_extract rfl rfl) ?_
  refine T0_e rfl (eff_allocZ zi62 ?_)
  intro b140 wd141 hb142 he143 hB144
  have hn145 : b140 ≠ b61 := box_ne (h122.ext e138) hb142
  have hn146 : b140 ≠ b98 := box_ne (hB116.ext e138) hb142
  have hbf147 := bfresh e139 hb142
  have h148 := (h117.ext e138).step (add_box he143 hb142)
  have h149 := (h118.ext e138).step (add_box he143 hb142)
  have h150 := (h119.ext e138).step (add_box he143 hb142)
  have h151 := (h120.ext e138).step (add_box he143 hb142)
  have h152 := (h121.ext e138).step (add_box he143 hb142)
  have h153 := (h123.ext e138).step (add_box he143 hb142)
  have h154 := (h128.ext he135).step (add_box he143 hb142)
  have e155 := e138.trans he143
  have e156 := e139.trans he143
  refine T0_e rfl (eff_storeC (vs := [(.int .i64 r132.1.Steps), (.int .i64 r132.1.Skips)]) (cs' := [(.int .i64 r132.1.Steps), (.int .i64 r132.1.Skips)]) sz62 rfl rfl rfl rfl hB144 rfl (oc_cons rfl (oc_cons rfl oc_nil)) rfl ?_)
  intro wd158 hc159 hB160
  have h161 := h148.step (Stepp.chg_mem hc159 mem0)
  have h162 := h149.step (Stepp.chg_mem hc159 mem0)
  have h163 := h150.step (Stepp.chg_mem hc159 mem0)
  have h164 := h151.step (Stepp.chg_mem hc159 mem0)
  have h165 := h152.step (Stepp.chg_mem hc159 mem0)
  have h166 := (h122.ext e155).chg hc159 (avoidb hn145)
  have h167 := h153.step (Stepp.chg_mem hc159 mem0)
  have h168 := (hB116.ext e155).chg hc159 (avoidb hn146)
  have h169 := h154.step (Stepp.chg_mem hc159 mem0)
  have e170 := chg_box e156 hc159 hbf147
  refine T0_q (v := (.int .i64 r132.2)) rfl (yl_assign rfl) ?_
  refine T0_nil ?_
  refine hK125 _ _ ?_
  refine WC_seqK fun K171 hK171 => ?_
  refine WC_region ?_
  refine T0_q (v := (.agg (List.toArray [(.int .i64 0), (.int .i64 10)]))) rfl (yl_buildC (cells := [(.int .i64 0), (.int .i64 10)]) bi36 (pc_cons rfl rfl (pc_cons rfl rfl pc_nil)) rfl) ?_
  refine T0_q (v := (.agg (List.toArray [(.int .i64 5), (.int .i64 20)]))) rfl (yl_buildC (cells := [(.int .i64 5), (.int .i64 20)]) bi36 (pc_cons rfl rfl (pc_cons rfl rfl pc_nil)) rfl) ?_
  refine T0_q (v := (.agg (List.toArray [(.int .i64 30), (.int .i64 40)]))) rfl (yl_buildC (cells := [(.int .i64 30), (.int .i64 40)]) bi36 (pc_cons rfl rfl (pc_cons rfl rfl pc_nil)) rfl) ?_
  refine T0_e rfl (eff_buildTC (xs := ([(Range.mk 0 10), (Range.mk 5 20), (Range.mk 30 40)] : List Range)) (cells := [(.int .i64 0), (.int .i64 10), (.int .i64 5), (.int .i64 20), (.int .i64 30), (.int .i64 40)]) Tryd.underlying29 ei36 rfl (pc_cons rfl rfl (pc_cons rfl rfl (pc_cons rfl rfl pc_nil))) rfl (Elems.cons (cs := [(.int .i64 0), (.int .i64 10)]) rfl (Elems.cons (cs := [(.int .i64 5), (.int .i64 20)]) rfl (Elems.cons (cs := [(.int .i64 30), (.int .i64 40)]) rfl Elems.nil))) rfl (ltl_box (ltl_box (ltl_box (hL.chg e170) h166) h168) hB160) ?_)
  intro b175 wd172 he173 h174
  have e176 := e170.trans he173
  obtain ⟨r178, hr179, h⟩ := bind_elim h
  refine T0_e rfl (eff_call Tryd.func57 nm57 rfl (ev2 rfl rfl) (locate_Fused_ok ((.pointer (some ⟨b140, 0, none⟩)) :: (.pointer (some ⟨b98, 0, none⟩)) :: (.pointer (some ⟨b61, 0, none⟩)) :: L) _ (ltl_box (ltl_box (ltl_box (hL.chg e176) (h166.ext he173)) (h168.ext he173)) (hB160.ext he173)) (.slice (some ⟨b175, 0, none⟩) 3 3) ([(Range.mk 0 10), (Range.mk 5 20), (Range.mk 30 40)] : List Range) h174 1 r178 hr179) ?_)
  rintro _ wd180 ⟨he181, v182, rfl, h183⟩
  have e184 := he173.trans he181
  have e185 := e176.trans he181
  refine T0_q (v := (.tuple #[v182, (.int .i64 r178.2)])) rfl (yl_move rfl) ?_
  refine T0_q (v := v182) rfl (yl_extract rfl rfl) ?_
  refine T0_q (v := (.int .i64 r178.2)) rfl (yl_extract rfl rfl) ?_
  refine T0_q (v := v182) rfl (yl_assign rfl) ?_
  refine T0_q (v := (.int .i64 r178.2)) rfl (yl_assign rfl) ?_
  refine T0_nil ?_
  refine hK171 _ _ ?_
  refine WC_seqK fun K187 hK187 => ?_
  refine WC_region ?_
  refine T0_q (v := (.int .i64 r19.2)) rfl (yl_move rfl) ?_
  refine T0_q (v := (.bool (decide (r19.2 = 0)))) rfl (yl_eql rfl rfl) ?_
  refine T0_q (v := (.bool (decide (r19.2 = 0)))) rfl (yl_move rfl) ?_
  refine T0_g (v := v23) (decide (r19.2 = 0)) (wanted_t rfl rfl rfl rfl) (fun hg => (yl_move rfl)) ?_
  refine T0_gx (fun v w' => SlRd ((.pointer (some ⟨b140, 0, none⟩)) :: (.pointer (some ⟨b98, 0, none⟩)) :: (.pointer (some ⟨b61, 0, none⟩)) :: L) w' v ([0, 1] : List Int)) (decide (r19.2 = 0)) (wanted_t rfl rfl rfl rfl) (fun hg => eff_buildTC (xs := ([0, 1] : List Int)) (cells := [(.int .i64 0), (.int .i64 1)]) Tryd.underlying22 ei3 rfl (pc_cons rfl rfl (pc_cons rfl rfl pc_nil)) rfl (Elems.cons (cs := [(.int .i64 0)]) rfl (Elems.cons (cs := [(.int .i64 1)]) rfl Elems.nil)) rfl (ltl_box (ltl_box (ltl_box (hL.chg e185) (h166.ext e184)) (h168.ext e184)) (hB160.ext e184)) (fun _ _ he h1 => ⟨he, h1⟩)) ?_
  intro v188 wd189 he190 h191
  have e192 := e184.trans he190
  have e193 := he181.trans he190
  have e194 := e185.trans he190
  obtain ⟨r197, hr198, h⟩ := bind_elim h
  refine T0_ges (decide (r19.2 = 0)) (.bool r197) (wanted_t rfl rfl rfl rfl) (fun hg => eff_call Tryd.func42 nm42 rfl (ev2 (gd_true hg) (gd_true hg)) (base_Ints_ok [] _ (LtL.nil _) v23 r19.1 ((h163.ext e192).sub (fun _ h => by cases h)) v188 ([0, 1] : List Int) ((h191 hg).sub (fun _ h => by cases h)) r197 (cond_t hg hr198)) (by rintro _ wd199 ⟨he200, rfl⟩; exact ⟨rfl, he200⟩)) ?_
  intro wd199 he200
  have e201 := e192.trans he200
  have e202 := e193.trans he200
  have e203 := he190.trans he200
  have e204 := e194.trans he200
  refine T0_q (v := (.bool ((decide (r19.2 = 0)) && r197))) rfl (yl_and rfl (fun hb => (gd_true hb)) rfl) ?_
  refine T0_q (v := (.bool ((decide (r19.2 = 0)) && r197))) rfl (yl_move rfl) ?_
  refine T0_g (v := (.int .i64 r50.2)) ((decide (r19.2 = 0)) && r197) (wanted_t rfl rfl rfl rfl) (fun hg => (yl_move rfl)) ?_
  refine T0_g (v := (.bool (decide (r50.2 = 0)))) ((decide (r19.2 = 0)) && r197) (wanted_t rfl rfl rfl rfl) (fun hg => (yl_eql (gd_true hg) rfl)) ?_
  refine T0_q (v := (.bool (((decide (r19.2 = 0)) && r197) && (decide (r50.2 = 0))))) rfl (yl_and rfl (fun hb => (gd_true hb)) rfl) ?_
  refine T0_q (v := (.bool (((decide (r19.2 = 0)) && r197) && (decide (r50.2 = 0))))) rfl (yl_move rfl) ?_
  refine T0_g (v := (.agg (List.toArray [(.int .i64 r50.1.Lo), (.int .i64 r50.1.Hi)]))) (((decide (r19.2 = 0)) && r197) && (decide (r50.2 = 0))) (wanted_t rfl rfl rfl rfl) (fun hg => (yl_loadA (cs := [(.int .i64 r50.1.Lo), (.int .i64 r50.1.Hi)]) ag36 rfl (Box.at (h166.ext e201)))) ?_
  refine T0_g (v := (.agg (List.toArray [(.int .i64 1100), (.int .i64 1199)]))) (((decide (r19.2 = 0)) && r197) && (decide (r50.2 = 0))) (wanted_t rfl rfl rfl rfl) (fun hg => (yl_buildC (cells := [(.int .i64 1100), (.int .i64 1199)]) bi36 (pc_cons rfl rfl (pc_cons rfl rfl pc_nil)) rfl)) ?_
  refine T0_g (v := (.bool (decide ((Range.mk r50.1.Lo r50.1.Hi) = (Range.mk 1100 1199))))) (((decide (r19.2 = 0)) && r197) && (decide (r50.2 = 0))) (wanted_t rfl rfl rfl rfl) (fun hg => (yl_eqlS eg36 (gd_true hg) (gd_true hg) (eqs36 (Range.mk r50.1.Lo r50.1.Hi) (Range.mk 1100 1199) _))) ?_
  refine T0_q (v := (.bool ((((decide (r19.2 = 0)) && r197) && (decide (r50.2 = 0))) && (decide ((Range.mk r50.1.Lo r50.1.Hi) = (Range.mk 1100 1199)))))) rfl (yl_and rfl (fun hb => (gd_true hb)) rfl) ?_
  refine T0_q (v := (.bool ((((decide (r19.2 = 0)) && r197) && (decide (r50.2 = 0))) && (decide ((Range.mk r50.1.Lo r50.1.Hi) = (Range.mk 1100 1199)))))) rfl (yl_move rfl) ?_
  refine T0_g (v := (.int .i64 r90.2)) ((((decide (r19.2 = 0)) && r197) && (decide (r50.2 = 0))) && (decide ((Range.mk r50.1.Lo r50.1.Hi) = (Range.mk 1100 1199)))) (wanted_t rfl rfl rfl rfl) (fun hg => (yl_move rfl)) ?_
  refine T0_g (v := (.bool (decide (r90.2 = 0)))) ((((decide (r19.2 = 0)) && r197) && (decide (r50.2 = 0))) && (decide ((Range.mk r50.1.Lo r50.1.Hi) = (Range.mk 1100 1199)))) (wanted_t rfl rfl rfl rfl) (fun hg => (yl_eql (gd_true hg) rfl)) ?_
  refine T0_q (v := (.bool (((((decide (r19.2 = 0)) && r197) && (decide (r50.2 = 0))) && (decide ((Range.mk r50.1.Lo r50.1.Hi) = (Range.mk 1100 1199)))) && (decide (r90.2 = 0))))) rfl (yl_and rfl (fun hb => (gd_true hb)) rfl) ?_
  refine T0_q (v := (.bool (((((decide (r19.2 = 0)) && r197) && (decide (r50.2 = 0))) && (decide ((Range.mk r50.1.Lo r50.1.Hi) = (Range.mk 1100 1199)))) && (decide (r90.2 = 0))))) rfl (yl_move rfl) ?_
  refine T0_g (v := (.agg (List.toArray [(.int .i64 r90.1.Modulus), (.int .i64 r90.1.Rest)]))) (((((decide (r19.2 = 0)) && r197) && (decide (r50.2 = 0))) && (decide ((Range.mk r50.1.Lo r50.1.Hi) = (Range.mk 1100 1199)))) && (decide (r90.2 = 0))) (wanted_t rfl rfl rfl rfl) (fun hg => (yl_loadA (cs := [(.int .i64 r90.1.Modulus), (.int .i64 r90.1.Rest)]) ag53 rfl (Box.at (h168.ext e201)))) ?_
  refine T0_g (v := (.agg (List.toArray [(.int .i64 12), (.int .i64 10)]))) (((((decide (r19.2 = 0)) && r197) && (decide (r50.2 = 0))) && (decide ((Range.mk r50.1.Lo r50.1.Hi) = (Range.mk 1100 1199)))) && (decide (r90.2 = 0))) (wanted_t rfl rfl rfl rfl) (fun hg => (yl_buildC (cells := [(.int .i64 12), (.int .i64 10)]) bi53 (pc_cons rfl rfl (pc_cons rfl rfl pc_nil)) rfl)) ?_
  refine T0_g (v := (.bool (decide ((LocateRest.mk r90.1.Modulus r90.1.Rest) = (LocateRest.mk 12 10))))) (((((decide (r19.2 = 0)) && r197) && (decide (r50.2 = 0))) && (decide ((Range.mk r50.1.Lo r50.1.Hi) = (Range.mk 1100 1199)))) && (decide (r90.2 = 0))) (wanted_t rfl rfl rfl rfl) (fun hg => (yl_eqlS eg53 (gd_true hg) (gd_true hg) (eqs53 (LocateRest.mk r90.1.Modulus r90.1.Rest) (LocateRest.mk 12 10) _))) ?_
  refine T0_q (v := (.bool ((((((decide (r19.2 = 0)) && r197) && (decide (r50.2 = 0))) && (decide ((Range.mk r50.1.Lo r50.1.Hi) = (Range.mk 1100 1199)))) && (decide (r90.2 = 0))) && (decide ((LocateRest.mk r90.1.Modulus r90.1.Rest) = (LocateRest.mk 12 10)))))) rfl (yl_and rfl (fun hb => (gd_true hb)) rfl) ?_
  refine T0_q (v := (.bool ((((((decide (r19.2 = 0)) && r197) && (decide (r50.2 = 0))) && (decide ((Range.mk r50.1.Lo r50.1.Hi) = (Range.mk 1100 1199)))) && (decide (r90.2 = 0))) && (decide ((LocateRest.mk r90.1.Modulus r90.1.Rest) = (LocateRest.mk 12 10)))))) rfl (yl_move rfl) ?_
  refine T0_g (v := (.int .i64 r132.2)) ((((((decide (r19.2 = 0)) && r197) && (decide (r50.2 = 0))) && (decide ((Range.mk r50.1.Lo r50.1.Hi) = (Range.mk 1100 1199)))) && (decide (r90.2 = 0))) && (decide ((LocateRest.mk r90.1.Modulus r90.1.Rest) = (LocateRest.mk 12 10)))) (wanted_t rfl rfl rfl rfl) (fun hg => (yl_move rfl)) ?_
  refine T0_g (v := (.bool (decide (r132.2 = 0)))) ((((((decide (r19.2 = 0)) && r197) && (decide (r50.2 = 0))) && (decide ((Range.mk r50.1.Lo r50.1.Hi) = (Range.mk 1100 1199)))) && (decide (r90.2 = 0))) && (decide ((LocateRest.mk r90.1.Modulus r90.1.Rest) = (LocateRest.mk 12 10)))) (wanted_t rfl rfl rfl rfl) (fun hg => (yl_eql (gd_true hg) rfl)) ?_
  refine T0_q (v := (.bool (((((((decide (r19.2 = 0)) && r197) && (decide (r50.2 = 0))) && (decide ((Range.mk r50.1.Lo r50.1.Hi) = (Range.mk 1100 1199)))) && (decide (r90.2 = 0))) && (decide ((LocateRest.mk r90.1.Modulus r90.1.Rest) = (LocateRest.mk 12 10)))) && (decide (r132.2 = 0))))) rfl (yl_and rfl (fun hb => (gd_true hb)) rfl) ?_
  refine T0_q (v := (.bool (((((((decide (r19.2 = 0)) && r197) && (decide (r50.2 = 0))) && (decide ((Range.mk r50.1.Lo r50.1.Hi) = (Range.mk 1100 1199)))) && (decide (r90.2 = 0))) && (decide ((LocateRest.mk r90.1.Modulus r90.1.Rest) = (LocateRest.mk 12 10)))) && (decide (r132.2 = 0))))) rfl (yl_move rfl) ?_
  refine T0_g (v := (.agg (List.toArray [(.int .i64 r132.1.Steps), (.int .i64 r132.1.Skips)]))) (((((((decide (r19.2 = 0)) && r197) && (decide (r50.2 = 0))) && (decide ((Range.mk r50.1.Lo r50.1.Hi) = (Range.mk 1100 1199)))) && (decide (r90.2 = 0))) && (decide ((LocateRest.mk r90.1.Modulus r90.1.Rest) = (LocateRest.mk 12 10)))) && (decide (r132.2 = 0))) (wanted_t rfl rfl rfl rfl) (fun hg => (yl_loadA (cs := [(.int .i64 r132.1.Steps), (.int .i64 r132.1.Skips)]) ag62 rfl (Box.at (hB160.ext e201)))) ?_
  refine T0_g (v := (.agg (List.toArray [(.int .i64 1), (.int .i64 1)]))) (((((((decide (r19.2 = 0)) && r197) && (decide (r50.2 = 0))) && (decide ((Range.mk r50.1.Lo r50.1.Hi) = (Range.mk 1100 1199)))) && (decide (r90.2 = 0))) && (decide ((LocateRest.mk r90.1.Modulus r90.1.Rest) = (LocateRest.mk 12 10)))) && (decide (r132.2 = 0))) (wanted_t rfl rfl rfl rfl) (fun hg => (yl_buildC (cells := [(.int .i64 1), (.int .i64 1)]) bi62 (pc_cons rfl rfl (pc_cons rfl rfl pc_nil)) rfl)) ?_
  refine T0_g (v := (.bool (decide ((LocateSteps.mk r132.1.Steps r132.1.Skips) = (LocateSteps.mk 1 1))))) (((((((decide (r19.2 = 0)) && r197) && (decide (r50.2 = 0))) && (decide ((Range.mk r50.1.Lo r50.1.Hi) = (Range.mk 1100 1199)))) && (decide (r90.2 = 0))) && (decide ((LocateRest.mk r90.1.Modulus r90.1.Rest) = (LocateRest.mk 12 10)))) && (decide (r132.2 = 0))) (wanted_t rfl rfl rfl rfl) (fun hg => (yl_eqlS eg62 (gd_true hg) (gd_true hg) (eqs62 (LocateSteps.mk r132.1.Steps r132.1.Skips) (LocateSteps.mk 1 1) _))) ?_
  refine T0_q (v := (.bool ((((((((decide (r19.2 = 0)) && r197) && (decide (r50.2 = 0))) && (decide ((Range.mk r50.1.Lo r50.1.Hi) = (Range.mk 1100 1199)))) && (decide (r90.2 = 0))) && (decide ((LocateRest.mk r90.1.Modulus r90.1.Rest) = (LocateRest.mk 12 10)))) && (decide (r132.2 = 0))) && (decide ((LocateSteps.mk r132.1.Steps r132.1.Skips) = (LocateSteps.mk 1 1)))))) rfl (yl_and rfl (fun hb => (gd_true hb)) rfl) ?_
  refine T0_q (v := (.bool ((((((((decide (r19.2 = 0)) && r197) && (decide (r50.2 = 0))) && (decide ((Range.mk r50.1.Lo r50.1.Hi) = (Range.mk 1100 1199)))) && (decide (r90.2 = 0))) && (decide ((LocateRest.mk r90.1.Modulus r90.1.Rest) = (LocateRest.mk 12 10)))) && (decide (r132.2 = 0))) && (decide ((LocateSteps.mk r132.1.Steps r132.1.Skips) = (LocateSteps.mk 1 1)))))) rfl (yl_move rfl) ?_
  refine T0_g (v := (.int .i64 r178.2)) ((((((((decide (r19.2 = 0)) && r197) && (decide (r50.2 = 0))) && (decide ((Range.mk r50.1.Lo r50.1.Hi) = (Range.mk 1100 1199)))) && (decide (r90.2 = 0))) && (decide ((LocateRest.mk r90.1.Modulus r90.1.Rest) = (LocateRest.mk 12 10)))) && (decide (r132.2 = 0))) && (decide ((LocateSteps.mk r132.1.Steps r132.1.Skips) = (LocateSteps.mk 1 1)))) (wanted_t rfl rfl rfl rfl) (fun hg => (yl_move rfl)) ?_
  refine T0_g (v := (.bool (decide (r178.2 = 0)))) ((((((((decide (r19.2 = 0)) && r197) && (decide (r50.2 = 0))) && (decide ((Range.mk r50.1.Lo r50.1.Hi) = (Range.mk 1100 1199)))) && (decide (r90.2 = 0))) && (decide ((LocateRest.mk r90.1.Modulus r90.1.Rest) = (LocateRest.mk 12 10)))) && (decide (r132.2 = 0))) && (decide ((LocateSteps.mk r132.1.Steps r132.1.Skips) = (LocateSteps.mk 1 1)))) (wanted_t rfl rfl rfl rfl) (fun hg => (yl_eql (gd_true hg) rfl)) ?_
  refine T0_q (v := (.bool (((((((((decide (r19.2 = 0)) && r197) && (decide (r50.2 = 0))) && (decide ((Range.mk r50.1.Lo r50.1.Hi) = (Range.mk 1100 1199)))) && (decide (r90.2 = 0))) && (decide ((LocateRest.mk r90.1.Modulus r90.1.Rest) = (LocateRest.mk 12 10)))) && (decide (r132.2 = 0))) && (decide ((LocateSteps.mk r132.1.Steps r132.1.Skips) = (LocateSteps.mk 1 1)))) && (decide (r178.2 = 0))))) rfl (yl_and rfl (fun hb => (gd_true hb)) rfl) ?_
  refine T0_q (v := (.bool (((((((((decide (r19.2 = 0)) && r197) && (decide (r50.2 = 0))) && (decide ((Range.mk r50.1.Lo r50.1.Hi) = (Range.mk 1100 1199)))) && (decide (r90.2 = 0))) && (decide ((LocateRest.mk r90.1.Modulus r90.1.Rest) = (LocateRest.mk 12 10)))) && (decide (r132.2 = 0))) && (decide ((LocateSteps.mk r132.1.Steps r132.1.Skips) = (LocateSteps.mk 1 1)))) && (decide (r178.2 = 0))))) rfl (yl_move rfl) ?_
  refine T0_g (v := v182) (((((((((decide (r19.2 = 0)) && r197) && (decide (r50.2 = 0))) && (decide ((Range.mk r50.1.Lo r50.1.Hi) = (Range.mk 1100 1199)))) && (decide (r90.2 = 0))) && (decide ((LocateRest.mk r90.1.Modulus r90.1.Rest) = (LocateRest.mk 12 10)))) && (decide (r132.2 = 0))) && (decide ((LocateSteps.mk r132.1.Steps r132.1.Skips) = (LocateSteps.mk 1 1)))) && (decide (r178.2 = 0))) (wanted_t rfl rfl rfl rfl) (fun hg => (yl_move rfl)) ?_
  refine T0_g (v := (.agg (List.toArray [(.int .i64 5), (.int .i64 10)]))) (((((((((decide (r19.2 = 0)) && r197) && (decide (r50.2 = 0))) && (decide ((Range.mk r50.1.Lo r50.1.Hi) = (Range.mk 1100 1199)))) && (decide (r90.2 = 0))) && (decide ((LocateRest.mk r90.1.Modulus r90.1.Rest) = (LocateRest.mk 12 10)))) && (decide (r132.2 = 0))) && (decide ((LocateSteps.mk r132.1.Steps r132.1.Skips) = (LocateSteps.mk 1 1)))) && (decide (r178.2 = 0))) (wanted_t rfl rfl rfl rfl) (fun hg => (yl_buildC (cells := [(.int .i64 5), (.int .i64 10)]) bi36 (pc_cons rfl rfl (pc_cons rfl rfl pc_nil)) rfl)) ?_
  refine T0_gx (fun v w' => SlRd ((.pointer (some ⟨b140, 0, none⟩)) :: (.pointer (some ⟨b98, 0, none⟩)) :: (.pointer (some ⟨b61, 0, none⟩)) :: L) w' v ([(Range.mk 5 10)] : List Range)) (((((((((decide (r19.2 = 0)) && r197) && (decide (r50.2 = 0))) && (decide ((Range.mk r50.1.Lo r50.1.Hi) = (Range.mk 1100 1199)))) && (decide (r90.2 = 0))) && (decide ((LocateRest.mk r90.1.Modulus r90.1.Rest) = (LocateRest.mk 12 10)))) && (decide (r132.2 = 0))) && (decide ((LocateSteps.mk r132.1.Steps r132.1.Skips) = (LocateSteps.mk 1 1)))) && (decide (r178.2 = 0))) (wanted_t rfl rfl rfl rfl) (fun hg => eff_buildTC (xs := ([(Range.mk 5 10)] : List Range)) (cells := [(.int .i64 5), (.int .i64 10)]) Tryd.underlying29 ei36 rfl (pc_cons (gd_true hg) rfl pc_nil) rfl (Elems.cons (cs := [(.int .i64 5), (.int .i64 10)]) rfl Elems.nil) rfl (ltl_box (ltl_box (ltl_box (hL.chg e204) (h166.ext e201)) (h168.ext e201)) (hB160.ext e201)) (fun _ _ he h1 => ⟨he, h1⟩)) ?_
  intro v205 wd206 he207 h208
  have e209 := e201.trans he207
  have e210 := e202.trans he207
  have e211 := e203.trans he207
  have e212 := he200.trans he207
  have e213 := e204.trans he207
  obtain ⟨r216, hr217, h⟩ := bind_elim h
  refine T0_ges (((((((((decide (r19.2 = 0)) && r197) && (decide (r50.2 = 0))) && (decide ((Range.mk r50.1.Lo r50.1.Hi) = (Range.mk 1100 1199)))) && (decide (r90.2 = 0))) && (decide ((LocateRest.mk r90.1.Modulus r90.1.Rest) = (LocateRest.mk 12 10)))) && (decide (r132.2 = 0))) && (decide ((LocateSteps.mk r132.1.Steps r132.1.Skips) = (LocateSteps.mk 1 1)))) && (decide (r178.2 = 0))) (.bool r216) (wanted_t rfl rfl rfl rfl) (fun hg => eff_call Tryd.func27 nm27 rfl (ev2 (gd_true hg) (gd_true hg)) (base_Ranges_ok [] _ (LtL.nil _) v182 r178.1 ((h183.ext e211).sub (fun _ h => by cases h)) v205 ([(Range.mk 5 10)] : List Range) ((h208 hg).sub (fun _ h => by cases h)) r216 (cond_t hg hr217)) (by rintro _ wd218 ⟨he219, rfl⟩; exact ⟨rfl, he219⟩)) ?_
  intro wd218 he219
  have e220 := e209.trans he219
  have e221 := e210.trans he219
  have e222 := e211.trans he219
  have e223 := e212.trans he219
  have e224 := e213.trans he219
  refine T0_q (v := (.bool ((((((((((decide (r19.2 = 0)) && r197) && (decide (r50.2 = 0))) && (decide ((Range.mk r50.1.Lo r50.1.Hi) = (Range.mk 1100 1199)))) && (decide (r90.2 = 0))) && (decide ((LocateRest.mk r90.1.Modulus r90.1.Rest) = (LocateRest.mk 12 10)))) && (decide (r132.2 = 0))) && (decide ((LocateSteps.mk r132.1.Steps r132.1.Skips) = (LocateSteps.mk 1 1)))) && (decide (r178.2 = 0))) && r216))) rfl (yl_and rfl (fun hb => (gd_true hb)) rfl) ?_
  refine T0_q (v := (.bool ((((((((((decide (r19.2 = 0)) && r197) && (decide (r50.2 = 0))) && (decide ((Range.mk r50.1.Lo r50.1.Hi) = (Range.mk 1100 1199)))) && (decide (r90.2 = 0))) && (decide ((LocateRest.mk r90.1.Modulus r90.1.Rest) = (LocateRest.mk 12 10)))) && (decide (r132.2 = 0))) && (decide ((LocateSteps.mk r132.1.Steps r132.1.Skips) = (LocateSteps.mk 1 1)))) && (decide (r178.2 = 0))) && r216))) rfl (yl_assign rfl) ?_
  refine T0_nil ?_
  refine hK187 _ _ ?_
  refine WC_ret ?_
  replace h := some_out h
  subst h
  exact ⟨[(.bool ((((((((((decide (r19.2 = 0)) && r197) && (decide (r50.2 = 0))) && (decide ((Range.mk r50.1.Lo r50.1.Hi) = (Range.mk 1100 1199)))) && (decide (r90.2 = 0))) && (decide ((LocateRest.mk r90.1.Modulus r90.1.Rest) = (LocateRest.mk 12 10)))) && (decide (r132.2 = 0))) && (decide ((LocateSteps.mk r132.1.Steps r132.1.Skips) = (LocateSteps.mk 1 1)))) && (decide (r178.2 = 0))) && r216))], ⟨rfl, trivial⟩, e224, rfl⟩

end Go.Gw
