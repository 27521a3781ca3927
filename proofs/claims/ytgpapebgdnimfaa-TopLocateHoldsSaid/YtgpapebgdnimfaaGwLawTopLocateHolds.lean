/- What functions come to, printed by a program of this work. No condition. -/
import Derived.Test.YtgpapebgdnimfaaGwFnB
set_option maxRecDepth 4096
set_option maxHeartbeats 1000000
set_option linter.unusedVariables false
namespace Go.Gw
open Go Go.Proofs
attribute [local irreducible] T0 TS TT TP Eff Stp WC Quiet gd
noncomputable def law04_Short_spec (p_t : LocateTrack) : Option Bool :=
  some ((decide ((p_t.Vanes.length : Int) ≤ 16)) || ((decide (40 < (p_t.Vanes.length : Int))) && (decide ((p_t.Vanes.length : Int) ≤ 42))))
theorem law04_Short_ok (L : List Value) (w : World) (hL : LtL L w) (cs_p_t : List Value) (p_t : LocateTrack) (h_p_t : Rep.rd L w cs_p_t p_t) (r : Bool) (h : law04_Short_spec p_t = some r) :
    CallsTo Try.prog 5 [(.agg cs_p_t.toArray)] w (fun v w' => Ext w w' ∧ (.bool r) = v) := by
  have e0 : Ext w w := Chg.refl _ _
  obtain ⟨v1, h2, rfl⟩ := h_p_t
  refine callsTo_of_WC (n := 19) (rs := [.tmp 2]) Try.func5 rfl rfl rfl rfl rfl ?_
  refine WC_seqK fun K4 hK4 => ?_
  refine WC_region ?_
  refine T0_e rfl (eff_boxC (cs := [v1, (.int .i64 p_t.Window), (.int .i64 p_t.Tooth), (.int .i64 p_t.PerVane), (.int .i64 p_t.First), (.int .i64 p_t.Modulus), (.int .i64 p_t.Slack), (.int .i64 p_t.Errors), (.bool p_t.Round)]) rfl rfl ?_)
  intro b5 wd6 hb7 he8 hB9
  have hbf10 := bfresh e0 hb7
  have e11 := e0.trans he8
  refine T0_q (v := (.bool false)) rfl (yl_assign rfl) ?_
  refine T0_nil ?_
  refine hK4 _ _ ?_
  refine WC_seqK fun K13 hK13 => ?_
  refine WC_region ?_
  refine T0_q (v := (.pointer (some ⟨b5, 0, none⟩))) rfl (yl_fa 0 Try.underlying24 rfl rfl ⟨0, sz22⟩ rfl rfl) ?_
  refine T0_q (v := v1) rfl (yl_load sc22 rfl (Box.at hB9)) ?_
  refine T0_q (v := (.int .i64 (p_t.Vanes.length : Int))) rfl (yl_lenR rfl Try.underlying22 h2 rfl) ?_
  refine T0_q (v := (.bool (decide ((p_t.Vanes.length : Int) ≤ 16)))) rfl (yl_leq rfl rfl) ?_
  refine T0_q (v := (.bool (decide ((p_t.Vanes.length : Int) ≤ 16)))) rfl (yl_move rfl) ?_
  refine T0_g (v := (.pointer (some ⟨b5, 0, none⟩))) (!(decide ((p_t.Vanes.length : Int) ≤ 16))) (wanted_f rfl rfl rfl rfl) (fun hg => (yl_fa 0 Try.underlying24 rfl rfl ⟨0, sz22⟩ rfl rfl)) ?_
  refine T0_g (v := v1) (!(decide ((p_t.Vanes.length : Int) ≤ 16))) (wanted_f rfl rfl rfl rfl) (fun hg => (yl_load sc22 (gd_true hg) (Box.at hB9))) ?_
  refine T0_g (v := (.int .i64 (p_t.Vanes.length : Int))) (!(decide ((p_t.Vanes.length : Int) ≤ 16))) (wanted_f rfl rfl rfl rfl) (fun hg => (yl_lenR rfl Try.underlying22 h2 (gd_true hg))) ?_
  refine T0_g (v := (.bool (decide (40 < (p_t.Vanes.length : Int))))) (!(decide ((p_t.Vanes.length : Int) ≤ 16))) (wanted_f rfl rfl rfl rfl) (fun hg => (yl_gtr (gd_true hg) rfl)) ?_
  refine T0_g (v := (.bool (decide (40 < (p_t.Vanes.length : Int))))) (!(decide ((p_t.Vanes.length : Int) ≤ 16))) (wanted_f rfl rfl rfl rfl) (fun hg => (yl_move (gd_true hg))) ?_
  refine T0_g (v := (.pointer (some ⟨b5, 0, none⟩))) ((!(decide ((p_t.Vanes.length : Int) ≤ 16))) && (decide (40 < (p_t.Vanes.length : Int)))) (wanted_gt rfl rfl rfl rfl) (fun hg => (yl_fa 0 Try.underlying24 rfl rfl ⟨0, sz22⟩ rfl rfl)) ?_
  refine T0_g (v := v1) ((!(decide ((p_t.Vanes.length : Int) ≤ 16))) && (decide (40 < (p_t.Vanes.length : Int)))) (wanted_gt rfl rfl rfl rfl) (fun hg => (yl_load sc22 (gd_true hg) (Box.at hB9))) ?_
  refine T0_g (v := (.int .i64 (p_t.Vanes.length : Int))) ((!(decide ((p_t.Vanes.length : Int) ≤ 16))) && (decide (40 < (p_t.Vanes.length : Int)))) (wanted_gt rfl rfl rfl rfl) (fun hg => (yl_lenR rfl Try.underlying22 h2 (gd_true hg))) ?_
  refine T0_g (v := (.bool (decide ((p_t.Vanes.length : Int) ≤ 42)))) ((!(decide ((p_t.Vanes.length : Int) ≤ 16))) && (decide (40 < (p_t.Vanes.length : Int)))) (wanted_gt rfl rfl rfl rfl) (fun hg => (yl_leq (gd_true hg) rfl)) ?_
  refine T0_g (v := (.bool ((decide (40 < (p_t.Vanes.length : Int))) && (decide ((p_t.Vanes.length : Int) ≤ 42))))) (!(decide ((p_t.Vanes.length : Int) ≤ 16))) (wanted_f rfl rfl rfl rfl) (fun hg => (yl_and (gd_true hg) (fun hb => (gd_true (and_i hg hb))) rfl)) ?_
  refine T0_q (v := (.bool ((decide ((p_t.Vanes.length : Int) ≤ 16)) || ((decide (40 < (p_t.Vanes.length : Int))) && (decide ((p_t.Vanes.length : Int) ≤ 42)))))) rfl (yl_or rfl rfl (fun hb => (gd_true (not_t hb)))) ?_
  refine T0_q (v := (.bool ((decide ((p_t.Vanes.length : Int) ≤ 16)) || ((decide (40 < (p_t.Vanes.length : Int))) && (decide ((p_t.Vanes.length : Int) ≤ 42)))))) rfl (yl_assign rfl) ?_
  refine T0_nil ?_
  refine hK13 _ _ ?_
  refine WC_ret ?_
  replace h := some_out h
  subst h
  exact ⟨[(.bool ((decide ((p_t.Vanes.length : Int) ≤ 16)) || ((decide (40 < (p_t.Vanes.length : Int))) && (decide ((p_t.Vanes.length : Int) ≤ 42)))))], ⟨rfl, trivial⟩, e11, rfl⟩

noncomputable def law04_Round_spec : Option LocateTrack :=
  some (LocateTrack.mk ([0, 0, 1, 1, 1, 0, 1] : List Int) 3 100 2 1000 5 0 0 true)
theorem law04_Round_ok (L : List Value) (w : World) (hL : LtL L w) (r : LocateTrack) (h : law04_Round_spec = some r) :
    CallsTo Try.prog 22 [] w (fun v w' => Ext w w' ∧ ∃ (cs0 : List Value), (.agg cs0.toArray) = v ∧ Rep.rd L w' cs0 r) := by
  have e0 : Ext w w := Chg.refl _ _
  refine callsTo_of_WC (n := 3) (rs := [.cell 0 24]) Try.func22 rfl rfl rfl rfl rfl ?_
  refine WC_seqK fun K1 hK1 => ?_
  refine WC_region ?_
  refine T0_e rfl (eff_allocZ zi24 ?_)
  intro b2 wd3 hb4 he5 hB6
  have hbf7 := bfresh e0 hb4
  have e8 := e0.trans he5
  refine T0_nil ?_
  refine hK1 _ _ ?_
  refine WC_seqK fun K10 hK10 => ?_
  refine WC_region ?_
  refine T0_e rfl (eff_buildTC (xs := ([0, 0, 1, 1, 1, 0, 1] : List Int)) (cells := [(.int .i64 0), (.int .i64 0), (.int .i64 1), (.int .i64 1), (.int .i64 1), (.int .i64 0), (.int .i64 1)]) Try.underlying22 ei3 rfl (pc_cons rfl rfl (pc_cons rfl rfl (pc_cons rfl rfl (pc_cons rfl rfl (pc_cons rfl rfl (pc_cons rfl rfl (pc_cons rfl rfl pc_nil))))))) rfl (Elems.cons (cs := [(.int .i64 0)]) rfl (Elems.cons (cs := [(.int .i64 0)]) rfl (Elems.cons (cs := [(.int .i64 1)]) rfl (Elems.cons (cs := [(.int .i64 1)]) rfl (Elems.cons (cs := [(.int .i64 1)]) rfl (Elems.cons (cs := [(.int .i64 0)]) rfl (Elems.cons (cs := [(.int .i64 1)]) rfl Elems.nil))))))) rfl (ltl_box (hL.chg e8) hB6) ?_)
  intro b14 wd11 he12 h13
  have e15 := e8.trans he12
  refine T0_q (v := (.agg (List.toArray [(.slice (some ⟨b14, 0, none⟩) 7 7), (.int .i64 3), (.int .i64 100), (.int .i64 2), (.int .i64 1000), (.int .i64 5), (.int .i64 0), (.int .i64 0), (.bool true)]))) rfl (yl_buildC (cells := [(.slice (some ⟨b14, 0, none⟩) 7 7), (.int .i64 3), (.int .i64 100), (.int .i64 2), (.int .i64 1000), (.int .i64 5), (.int .i64 0), (.int .i64 0), (.bool true)]) bi24 (pc_cons rfl (cells_one h13.one1) (pc_cons rfl rfl (pc_cons rfl rfl (pc_cons rfl rfl (pc_cons rfl rfl (pc_cons rfl rfl (pc_cons rfl rfl pc_nil))))))) rfl) ?_
  refine T0_e rfl (eff_storeC (vs := [(.slice (some ⟨b14, 0, none⟩) 7 7), (.int .i64 3), (.int .i64 100), (.int .i64 2), (.int .i64 1000), (.int .i64 5), (.int .i64 0), (.int .i64 0), (.bool true)]) (cs' := [(.slice (some ⟨b14, 0, none⟩) 7 7), (.int .i64 3), (.int .i64 100), (.int .i64 2), (.int .i64 1000), (.int .i64 5), (.int .i64 0), (.int .i64 0), (.bool true)]) sz24 rfl rfl rfl rfl (hB6.ext he12) rfl (oc_cons h13.one1 (oc_cons rfl (oc_cons rfl (oc_cons rfl (oc_cons rfl (oc_cons rfl (oc_cons rfl (oc_cons rfl (oc_cons rfl oc_nil))))))))) rfl ?_)
  intro wd17 hc18 hB19
  have h20 := h13.step (Stepp.chg_mem hc18 mem0)
  have e21 := chg_box e15 hc18 hbf7
  refine T0_nil ?_
  refine hK10 _ _ ?_
  refine WC_ret ?_
  replace h := some_out h
  subst h
  exact ⟨[(.agg (List.toArray [(.slice (some ⟨b14, 0, none⟩) 7 7), (.int .i64 3), (.int .i64 100), (.int .i64 2), (.int .i64 1000), (.int .i64 5), (.int .i64 0), (.int .i64 0), (.bool true)]))], ⟨⟨_, rfl, run_loadVarA (cs := [(.slice (some ⟨b14, 0, none⟩) 7 7), (.int .i64 3), (.int .i64 100), (.int .i64 2), (.int .i64 1000), (.int .i64 5), (.int .i64 0), (.int .i64 0), (.bool true)]) ag24 (Box.at hB19)⟩, trivial⟩, e21, [(.slice (some ⟨b14, 0, none⟩) 7 7), (.int .i64 3), (.int .i64 100), (.int .i64 2), (.int .i64 1000), (.int .i64 5), (.int .i64 0), (.int .i64 0), (.bool true)], rfl, ⟨(.slice (some ⟨b14, 0, none⟩) 7 7), (h20.sub (sub_skip (sub_refl _))), rfl⟩⟩

noncomputable def guidewaytop_locateRead_s0 (el843 : guidewaylaw04_Spoilt) (p_Listappend : LocateTrack) : ((List Int) × Int) → Option (((List Int) × Int) ⊕ ((List Int))) := fun (x1146, x1152) =>
  (bif (decide (x1152 < (el843.Wrong.length : Int))) then (
    (Option.bind (idx el843.Wrong x1152) fun el1218 =>
    (Option.bind (base_Mod_spec el1218 p_Listappend.Window) fun r1224 =>
    (Option.bind (idx x1146 r1224) fun el1230 =>
    (Option.bind (idx x1146 r1224) fun el1236 =>
    some (.inl ((x1146.set (r1224 : Int).toNat (w64 (1 - el1230))), w64 (x1152 + 1)))
    )
    )
    )
    )
  ) else (
    some (.inr x1146)
  ))
noncomputable def guidewaytop_locateRead_s1 (el843 : guidewaylaw04_Spoilt) (p_Listappend : LocateTrack) : ((List Int) × Int) → Option (((List Int) × Int) ⊕ ((List Int))) := fun (x1469, x1475) =>
  (bif (decide (x1475 < (el843.Unread.length : Int))) then (
    (Option.bind (idx el843.Unread x1475) fun el1540 =>
    (Option.bind (base_Mod_spec el1540 p_Listappend.Window) fun r1546 =>
    (Option.bind (idx x1469 r1546) fun el1552 =>
    some (.inl ((x1469.set (r1546 : Int).toNat 2), w64 (x1475 + 1)))
    )
    )
    )
  ) else (
    some (.inr x1469)
  ))
noncomputable def guidewaytop_locateRead_spec (p_Listappend : LocateTrack) (p_String : guidewaytop_LocateRun) (p_txsteptxstepseenoffskatk : Int) : Option (LocateReading × Bool) :=
  (Option.bind (idx p_String.Teeth p_txsteptxstepseenoffskatk) fun el49 =>
  (Option.bind (quo el49 p_Listappend.PerVane) fun q55 =>
  (Option.bind (ref04_WindowAt_spec p_Listappend q55) fun r57 =>
  (Option.bind (α := ((LocateReading × Bool) ⊕ ((List Int) × Int))) (
    (bif (decide (p_txsteptxstepseenoffskatk < (p_String.Spoilt.length : Int))) then (
      (Option.bind (idx p_String.Spoilt p_txsteptxstepseenoffskatk) fun el843 =>
      (Option.bind (bif (!((decide (p_Listappend.Errors < (el843.Wrong.length : Int))) || (decide (14 < (el843.Unread.length : Int))))) then base_Within_spec el843.Off (w64 (0 - p_Listappend.Slack)) p_Listappend.Slack else some default) fun r891 =>
      (bif (((decide (p_Listappend.Errors < (el843.Wrong.length : Int))) || (decide (14 < (el843.Unread.length : Int)))) || (!r891)) then (
        some (.inl ((LocateReading.mk [] 0), false))
      ) else (
        (Option.bind (loop (guidewaytop_locateRead_s0 el843 p_Listappend) (r57, 0)) fun (x1179 : (List Int)) =>
        (Option.bind (loop (guidewaytop_locateRead_s1 el843 p_Listappend) (x1179, 0)) fun (x1502 : (List Int)) =>
        some (.inr (x1502, el843.Off))
        )
        )
      ))
      )
      )
    ) else (
      some (.inr (r57, 0))
    ))
  ) fun o837 => jn0 o837 fun ((x818, x823) : (List Int) × Int) =>
  (Option.bind (idx p_String.Teeth p_txsteptxstepseenoffskatk) fun el1575 =>
  (Option.bind (base_Mod_spec (w64 (el1575 + x823)) p_Listappend.Modulus) fun r1581 =>
  some ((LocateReading.mk x818 r1581), true)
  )
  )
  )
  )
  )
  )
theorem guidewaytop_locateRead_ok (L : List Value) (w : World) (hL : LtL L w) (cs_p_Listappend : List Value) (p_Listappend : LocateTrack) (h_p_Listappend : Rep.rd L w cs_p_Listappend p_Listappend) (cs_p_String : List Value) (p_String : guidewaytop_LocateRun) (h_p_String : Rep.rd L w cs_p_String p_String) (p_txsteptxstepseenoffskatk : Int) (r : LocateReading × Bool) (h : guidewaytop_locateRead_spec p_Listappend p_String p_txsteptxstepseenoffskatk = some r) :
    CallsTo Try.prog 13 [(.agg cs_p_Listappend.toArray), (.agg cs_p_String.toArray), (.int .i64 p_txsteptxstepseenoffskatk)] w (fun v w' => Ext w w' ∧ ∃ (cs0 : List Value), (.tuple #[(.agg cs0.toArray), (.bool r.2)]) = v ∧ Rep.rd L w' cs0 r.1) := by
  have e0 : Ext w w := Chg.refl _ _
  obtain ⟨v1, h2, rfl⟩ := h_p_Listappend
  obtain ⟨v4, v6, h5, h7, rfl⟩ := h_p_String
  refine callsTo_of_WC (n := 112) (rs := [.cell 6 45, .tmp 7]) Try.func13 rfl rfl rfl rfl rfl ?_
  refine WC_seqK fun K10 hK10 => ?_
  refine WC_region ?_
  refine T0_e rfl (eff_boxC (cs := [v1, (.int .i64 p_Listappend.Window), (.int .i64 p_Listappend.Tooth), (.int .i64 p_Listappend.PerVane), (.int .i64 p_Listappend.First), (.int .i64 p_Listappend.Modulus), (.int .i64 p_Listappend.Slack), (.int .i64 p_Listappend.Errors), (.bool p_Listappend.Round)]) rfl rfl ?_)
  intro b11 wd12 hb13 he14 hB15
  have hbf16 := bfresh e0 hb13
  have e17 := e0.trans he14
  refine T0_e rfl (eff_boxC (cs := [v4, (.int .i64 p_String.Time), v6]) rfl rfl ?_)
  intro b19 wd20 hb21 he22 hB23
  have hn24 : b19 ≠ b11 := box_ne hB15 hb21
  have hbf25 := bfresh e17 hb21
  have e26 := he14.trans he22
  have e27 := e17.trans he22
  refine T0_e rfl (eff_allocZ zi45 ?_)
  intro b29 wd30 hb31 he32 hB33
  have hn34 : b29 ≠ b11 := box_ne (hB15.ext he22) hb31
  have hn35 : b29 ≠ b19 := box_ne hB23 hb31
  have hbf36 := bfresh e27 hb31
  have h37 := (h2.ext e26).step (add_box he32 hb31)
  have h38 := (h5.ext e26).step (add_box he32 hb31)
  have h39 := (h7.ext e26).step (add_box he32 hb31)
  have e40 := he22.trans he32
  have e41 := e27.trans he32
  refine T0_q (v := (.bool false)) rfl (yl_assign rfl) ?_
  refine T0_nil ?_
  refine hK10 _ _ ?_
  refine WC_seqK fun K43 hK43 => ?_
  refine WC_plan mixed (.p 1 (.p 3 (.p 6 (.q 0 (.q 2 (.p 4 (.q 5 (.q 7 (.p 8 (.e 9 (.p 10 .done))))))))))) (by kernel_rfl) ?_
  intro wd44 he45
  have e46 := e40.trans he45
  have e47 := he32.trans he45
  have e48 := e41.trans he45
  refine TP_p (v := (.pointer (some ⟨b19, 0, none⟩))) rfl rfl (fun w' => (yl_fa 0 Try.underlying27 rfl rfl ⟨0, sz22⟩ rfl rfl)) ?_
  refine TP_p (v := (.int .i64 p_txsteptxstepseenoffskatk)) rfl rfl (fun w' => (yl_move rfl)) ?_
  refine TP_p (v := (.pointer (some ⟨b11, 3, none⟩))) rfl rfl (fun w' => (yl_fa 3 Try.underlying24 rfl rfl ⟨0, sz3⟩ rfl rfl)) ?_
  refine TP_q (v := (.agg (List.toArray [v1, (.int .i64 p_Listappend.Window), (.int .i64 p_Listappend.Tooth), (.int .i64 p_Listappend.PerVane), (.int .i64 p_Listappend.First), (.int .i64 p_Listappend.Modulus), (.int .i64 p_Listappend.Slack), (.int .i64 p_Listappend.Errors), (.bool p_Listappend.Round)]))) rfl rfl (fun w' hS => (yl_loadA (cs := [v1, (.int .i64 p_Listappend.Window), (.int .i64 p_Listappend.Tooth), (.int .i64 p_Listappend.PerVane), (.int .i64 p_Listappend.First), (.int .i64 p_Listappend.Modulus), (.int .i64 p_Listappend.Slack), (.int .i64 p_Listappend.Errors), (.bool p_Listappend.Round)]) ag24 rfl (Box.at (hB15.ext ((e46).trans hS))))) ?_
  refine TP_q (v := v4) rfl rfl (fun w' hS => (yl_load sc22 rfl (Box.at (hB23.ext ((e47).trans hS))))) ?_
  obtain ⟨el49, hel50, h⟩ := bind_elim h
  obtain ⟨cs51, hat52, hrd53⟩ := SlRd.at h38 hel50
  have hrd53 : cs51 = [(.int .i64 el49)] := hrd53
  subst hrd53
  refine TP_p (v := (.pointer (some (elemAddr v4 (p_txsteptxstepseenoffskatk : Int).toNat 1)))) rfl rfl (fun w' => (yl_indexAddr Try.underlying22 sz3 h38 hel50 rfl rfl)) ?_
  refine TP_q (v := (.int .i64 el49)) rfl rfl (fun w' hS => (yl_load sc3 rfl (hat52.ext' ((he45).trans hS)))) ?_
  refine TP_q (v := (.int .i64 p_Listappend.PerVane)) rfl rfl (fun w' hS => (yl_load sc3 rfl (At.drop (Box.at (hB15.ext ((e46).trans hS))) 3))) ?_
  obtain ⟨q55, hq56, h⟩ := bind_elim h
  refine TP_p (v := (.int .i64 q55)) rfl rfl (fun w' => (yl_quo' hq56 rfl rfl)) ?_
  obtain ⟨r57, hr58, h⟩ := bind_elim h
  refine TP_e rfl rfl (eff_call Try.func31 nm31 rfl (ev2 rfl rfl) (ref04_WindowAt_own ((.pointer (some ⟨b29, 0, none⟩)) :: L) _ (ltl_box (hL.chg e48) (hB33.ext he45)) [v1, (.int .i64 p_Listappend.Window), (.int .i64 p_Listappend.Tooth), (.int .i64 p_Listappend.PerVane), (.int .i64 p_Listappend.First), (.int .i64 p_Listappend.Modulus), (.int .i64 p_Listappend.Slack), (.int .i64 p_Listappend.Errors), (.bool p_Listappend.Round)] p_Listappend ⟨v1, (h37.ext he45), rfl⟩ q55 r57 hr58) ?_)
  rintro _ wd59 ⟨he60, v61, rfl, hf63, h62⟩
  have h64 := (h37.ext he45).step (Stepp.add v61 he60 hf63)
  have h65 := (h38.ext he45).step (Stepp.add v61 he60 hf63)
  have h66 := (h39.ext he45).step (Stepp.add v61 he60 hf63)
  have hn68 : blk v61 ≠ some b11 := fun e => by have := hf63 _ e; have := (hB15.ext e46).lt; omega
  have hn69 : blk v61 ≠ some b19 := fun e => by have := hf63 _ e; have := (hB23.ext e47).lt; omega
  have hn70 : blk v61 ≠ some b29 := fun e => by have := hf63 _ e; have := (hB33.ext he45).lt; omega
  have hf71 : ∀ b, blk v61 = some b → w.heap.size ≤ b := fun b hb => Nat.le_trans e48.size (hf63 b hb)
  have e72 := e46.trans he60
  have e73 := e47.trans he60
  have e74 := he45.trans he60
  have e75 := e48.trans he60
  refine ⟨he60, ?_⟩
  refine TP_p (v := v61) rfl rfl (fun w' => (yl_assign rfl)) ?_
  refine TP_done ?_
  refine hK43 _ _ ?_
  refine WC_seqK fun K77 hK77 => ?_
  refine WC_region ?_
  refine T0_q (v := (.int .i64 0)) rfl (yl_assign rfl) ?_
  refine T0_nil ?_
  refine hK77 _ _ ?_
  refine WC_seqK fun K78 hK78 => ?_
  refine WC_seqK fun K79 hK79 => ?_
  refine WC_region ?_
  refine T0_q (v := (.int .i64 p_txsteptxstepseenoffskatk)) rfl (yl_move rfl) ?_
  refine T0_q (v := (.pointer (some ⟨b19, 2, none⟩))) rfl (yl_fa 2 Try.underlying27 rfl rfl ⟨0, sz25⟩ rfl rfl) ?_
  refine T0_q (v := v6) rfl (yl_load sc25 rfl (At.drop (Box.at (hB23.ext e73)) 2)) ?_
  refine T0_q (v := (.int .i64 (p_String.Spoilt.length : Int))) rfl (yl_lenR rfl Try.underlying25 h66 rfl) ?_
  refine T0_q (v := (.bool (decide (p_txsteptxstepseenoffskatk < (p_String.Spoilt.length : Int))))) rfl (yl_lss rfl rfl) ?_
  refine T0_nil ?_
  refine hK79 _ _ ?_
  obtain ⟨o837, ho838, hn839⟩ := bind_elim h
  refine WC_post (fun (ρ : Env) (wd810 : World) => ∃ (x818 : (List Int)) (x823 : Int) (v817 : Value), .inr (x818, x823) = o837 ∧ ρ 2 = (.int .i64 p_txsteptxstepseenoffskatk) ∧ ρ 3 = (.pointer (some ⟨b11, 0, none⟩)) ∧ ρ 4 = (.pointer (some ⟨b19, 0, none⟩)) ∧ ρ 6 = (.pointer (some ⟨b29, 0, none⟩)) ∧ ρ 8 = v817 ∧ ρ 9 = (.int .i64 x823) ∧ SlRd (v817 :: (.pointer (some ⟨b29, 0, none⟩)) :: L) wd810 v1 p_Listappend.Vanes ∧ SlRd (v817 :: (.pointer (some ⟨b29, 0, none⟩)) :: L) wd810 v4 p_String.Teeth ∧ SlRd (v817 :: (.pointer (some ⟨b29, 0, none⟩)) :: L) wd810 v6 p_String.Spoilt ∧ Box wd810 b11 [v1, (.int .i64 p_Listappend.Window), (.int .i64 p_Listappend.Tooth), (.int .i64 p_Listappend.PerVane), (.int .i64 p_Listappend.First), (.int .i64 p_Listappend.Modulus), (.int .i64 p_Listappend.Slack), (.int .i64 p_Listappend.Errors), (.bool p_Listappend.Round)] 24 ∧ Box wd810 b19 [v4, (.int .i64 p_String.Time), v6] 27 ∧ Box wd810 b29 [(.slice none 0 0), (.int .i64 0)] 45 ∧ Own 3 (v817 :: (.pointer (some ⟨b29, 0, none⟩)) :: L) wd810 v817 x818 ∧ (∀ b, blk v817 = some b → w.heap.size ≤ b) ∧ (blk v817 ≠ some b11) ∧ (blk v817 ≠ some b19) ∧ (blk v817 ≠ some b29) ∧ Ext w wd810) ?_ ?_
  · intro K840 hK840
    replace h := ho838
    clear ho838
    refine WC_cond (b := (decide (p_txsteptxstepseenoffskatk < (p_String.Spoilt.length : Int)))) rfl (fun hb841 => ?_) (fun hb841 => ?_)
    · replace h := cond_t hb841 h
      refine WC_seqK fun K842 hK842 => ?_
      refine WC_region ?_
      refine T0_q (v := (.pointer (some ⟨b19, 2, none⟩))) rfl (yl_fa 2 Try.underlying27 rfl rfl ⟨0, sz25⟩ rfl rfl) ?_
      refine T0_q (v := v6) rfl (yl_load sc25 rfl (At.drop (Box.at (hB23.ext e73)) 2)) ?_
      refine T0_q (v := (.int .i64 p_txsteptxstepseenoffskatk)) rfl (yl_move rfl) ?_
      obtain ⟨el843, hel844, h⟩ := bind_elim h
      obtain ⟨cs849, hat850, hrd851⟩ := SlRd.at h66 hel844
      obtain ⟨v845, v847, h846, h848, rfl⟩ := hrd851
      refine T0_q (v := (.pointer (some (elemAddr v6 (p_txsteptxstepseenoffskatk : Int).toNat 4)))) rfl (yl_indexAddr Try.underlying25 sz76 h66 hel844 rfl rfl) ?_
      refine T0_q (v := (.agg (List.toArray [(.int .i64 el843.Tooth), v845, v847, (.int .i64 el843.Off)]))) rfl (yl_loadA (cs := [(.int .i64 el843.Tooth), v845, v847, (.int .i64 el843.Off)]) ag76 rfl hat850) ?_
      refine T0_e rfl (eff_allocZ zi76 ?_)
      intro b855 wd856 hb857 he858 hB859
      have hn860 : b855 ≠ b11 := box_ne (hB15.ext e72) hb857
      have hn861 : b855 ≠ b19 := box_ne (hB23.ext e73) hb857
      have hn862 : b855 ≠ b29 := box_ne (hB33.ext e74) hb857
      have hn863 : blk v61 ≠ some b855 := ne_new_box h62 hb857
      have hbf864 := bfresh e75 hb857
      have h865 := h64.step (add_box he858 hb857)
      have h866 := h65.step (add_box he858 hb857)
      have h867 := h66.step (add_box he858 hb857)
      have h868 := h62.step (add_box he858 hb857) he858 (fun _ _ => Avoids.nil _)
      have h869 := h846.step (add_box he858 hb857)
      have h870 := h848.step (add_box he858 hb857)
      have e871 := e72.trans he858
      have e872 := e73.trans he858
      have e873 := e74.trans he858
      have e874 := e75.trans he858
      refine T0_e rfl (eff_storeC (vs := [(.int .i64 el843.Tooth), v845, v847, (.int .i64 el843.Off)]) (cs' := [(.int .i64 el843.Tooth), v845, v847, (.int .i64 el843.Off)]) sz76 rfl rfl rfl rfl hB859 rfl (oc_cons rfl (oc_cons h869.one1 (oc_cons h870.one1 (oc_cons rfl oc_nil)))) rfl ?_)
      intro wd876 hc877 hB878
      have h879 := h865.step (Stepp.chg_mem hc877 mem0)
      have h880 := h866.step (Stepp.chg_mem hc877 mem0)
      have h881 := h867.step (Stepp.chg_mem hc877 mem0)
      have h882 := (hB15.ext e871).chg hc877 (avoidb hn860)
      have h883 := (hB23.ext e872).chg hc877 (avoidb hn861)
      have h884 := (hB33.ext e873).chg hc877 (avoidb hn862)
      have h885 := h868.step (Stepp.chg_mem hc877 mem0) hc877 (av_box hn863)
      have h886 := h869.step (Stepp.chg_mem hc877 mem0)
      have h887 := h870.step (Stepp.chg_mem hc877 mem0)
      have e888 := chg_box e874 hc877 hbf864
      refine T0_nil ?_
      refine hK842 _ _ ?_
      refine WC_seqK fun K889 hK889 => ?_
      refine WC_seqK fun K890 hK890 => ?_
      refine WC_region ?_
      refine T0_q (v := (.pointer (some ⟨b855, 1, none⟩))) rfl (yl_fa 1 Try.underlying76 rfl rfl ⟨0, sz22⟩ rfl rfl) ?_
      refine T0_q (v := v845) rfl (yl_load sc22 rfl (At.drop (Box.at hB878) 1)) ?_
      refine T0_q (v := (.int .i64 (el843.Wrong.length : Int))) rfl (yl_lenR rfl Try.underlying22 h886 rfl) ?_
      refine T0_q (v := (.pointer (some ⟨b11, 7, none⟩))) rfl (yl_fa 7 Try.underlying24 rfl rfl ⟨0, sz3⟩ rfl rfl) ?_
      refine T0_q (v := (.int .i64 p_Listappend.Errors)) rfl (yl_load sc3 rfl (At.drop (Box.at h882) 7)) ?_
      refine T0_q (v := (.bool (decide (p_Listappend.Errors < (el843.Wrong.length : Int))))) rfl (yl_gtr rfl rfl) ?_
      refine T0_q (v := (.bool (decide (p_Listappend.Errors < (el843.Wrong.length : Int))))) rfl (yl_move rfl) ?_
      refine T0_g (v := (.pointer (some ⟨b855, 2, none⟩))) (!(decide (p_Listappend.Errors < (el843.Wrong.length : Int)))) (wanted_f rfl rfl rfl rfl) (fun hg => (yl_fa 2 Try.underlying76 rfl rfl ⟨0, sz22⟩ rfl rfl)) ?_
      refine T0_g (v := v847) (!(decide (p_Listappend.Errors < (el843.Wrong.length : Int)))) (wanted_f rfl rfl rfl rfl) (fun hg => (yl_load sc22 (gd_true hg) (At.drop (Box.at hB878) 2))) ?_
      refine T0_g (v := (.int .i64 (el843.Unread.length : Int))) (!(decide (p_Listappend.Errors < (el843.Wrong.length : Int)))) (wanted_f rfl rfl rfl rfl) (fun hg => (yl_lenR rfl Try.underlying22 h887 (gd_true hg))) ?_
      refine T0_g (v := (.bool (decide (14 < (el843.Unread.length : Int))))) (!(decide (p_Listappend.Errors < (el843.Wrong.length : Int)))) (wanted_f rfl rfl rfl rfl) (fun hg => (yl_gtr (gd_true hg) rfl)) ?_
      refine T0_q (v := (.bool ((decide (p_Listappend.Errors < (el843.Wrong.length : Int))) || (decide (14 < (el843.Unread.length : Int)))))) rfl (yl_or rfl rfl (fun hb => (gd_true (not_t hb)))) ?_
      refine T0_q (v := (.bool ((decide (p_Listappend.Errors < (el843.Wrong.length : Int))) || (decide (14 < (el843.Unread.length : Int)))))) rfl (yl_move rfl) ?_
      refine T0_g (v := (.pointer (some ⟨b855, 3, none⟩))) (!((decide (p_Listappend.Errors < (el843.Wrong.length : Int))) || (decide (14 < (el843.Unread.length : Int))))) (wanted_f rfl rfl rfl rfl) (fun hg => (yl_fa 3 Try.underlying76 rfl rfl ⟨0, sz3⟩ rfl rfl)) ?_
      refine T0_g (v := (.int .i64 el843.Off)) (!((decide (p_Listappend.Errors < (el843.Wrong.length : Int))) || (decide (14 < (el843.Unread.length : Int))))) (wanted_f rfl rfl rfl rfl) (fun hg => (yl_load sc3 (gd_true hg) (At.drop (Box.at hB878) 3))) ?_
      refine T0_g (v := (.pointer (some ⟨b11, 6, none⟩))) (!((decide (p_Listappend.Errors < (el843.Wrong.length : Int))) || (decide (14 < (el843.Unread.length : Int))))) (wanted_f rfl rfl rfl rfl) (fun hg => (yl_fa 6 Try.underlying24 rfl rfl ⟨0, sz3⟩ rfl rfl)) ?_
      refine T0_g (v := (.int .i64 p_Listappend.Slack)) (!((decide (p_Listappend.Errors < (el843.Wrong.length : Int))) || (decide (14 < (el843.Unread.length : Int))))) (wanted_f rfl rfl rfl rfl) (fun hg => (yl_load sc3 (gd_true hg) (At.drop (Box.at h882) 6))) ?_
      refine T0_g (v := (.int .i64 (w64 (0 - p_Listappend.Slack)))) (!((decide (p_Listappend.Errors < (el843.Wrong.length : Int))) || (decide (14 < (el843.Unread.length : Int))))) (wanted_f rfl rfl rfl rfl) (fun hg => (yl_neg (gd_true hg))) ?_
      refine T0_g (v := (.pointer (some ⟨b11, 6, none⟩))) (!((decide (p_Listappend.Errors < (el843.Wrong.length : Int))) || (decide (14 < (el843.Unread.length : Int))))) (wanted_f rfl rfl rfl rfl) (fun hg => (yl_fa 6 Try.underlying24 rfl rfl ⟨0, sz3⟩ rfl rfl)) ?_
      refine T0_g (v := (.int .i64 p_Listappend.Slack)) (!((decide (p_Listappend.Errors < (el843.Wrong.length : Int))) || (decide (14 < (el843.Unread.length : Int))))) (wanted_f rfl rfl rfl rfl) (fun hg => (yl_load sc3 (gd_true hg) (At.drop (Box.at h882) 6))) ?_
      obtain ⟨r891, hr892, h⟩ := bind_elim h
      refine T0_ges (!((decide (p_Listappend.Errors < (el843.Wrong.length : Int))) || (decide (14 < (el843.Unread.length : Int))))) (.bool r891) (wanted_f rfl rfl rfl rfl) (fun hg => eff_call Try.func7 nm7 rfl (ev3 (gd_true hg) (gd_true hg) (gd_true hg)) (base_Within_ok [] _ (LtL.nil _) el843.Off (w64 (0 - p_Listappend.Slack)) p_Listappend.Slack r891 (cond_t hg hr892)) (by rintro _ wd893 ⟨he894, rfl⟩; exact ⟨rfl, he894⟩)) ?_
      intro wd893 he894
      have e895 := e888.trans he894
      refine T0_g (v := (.bool (!r891))) (!((decide (p_Listappend.Errors < (el843.Wrong.length : Int))) || (decide (14 < (el843.Unread.length : Int))))) (wanted_f rfl rfl rfl rfl) (fun hg => (yl_not (gd_true hg))) ?_
      refine T0_q (v := (.bool (((decide (p_Listappend.Errors < (el843.Wrong.length : Int))) || (decide (14 < (el843.Unread.length : Int)))) || (!r891)))) rfl (yl_or rfl rfl (fun hb => (gd_true (not_t hb)))) ?_
      refine T0_nil ?_
      refine hK890 _ _ ?_
      refine WC_cond (b := (((decide (p_Listappend.Errors < (el843.Wrong.length : Int))) || (decide (14 < (el843.Unread.length : Int)))) || (!r891))) rfl (fun hb896 => ?_) (fun hb896 => ?_)
      · replace h := cond_t hb896 h
        refine WC_seqK fun K897 hK897 => ?_
        refine WC_region ?_
        refine T0_q (v := (.agg (List.toArray [(.slice none 0 0), (.int .i64 0)]))) rfl (yl_buildC (cells := [(.slice none 0 0), (.int .i64 0)]) bi45 pc_nil rfl) ?_
        refine T0_e rfl (eff_storeC (vs := [(.slice none 0 0), (.int .i64 0)]) (cs' := [(.slice none 0 0), (.int .i64 0)]) sz45 rfl rfl rfl rfl (h884.ext he894) rfl (oc_cons rfl (oc_cons rfl oc_nil)) rfl ?_)
        intro wd898 hc899 hB900
        have h901 := (h879.ext he894).step (Stepp.chg_mem hc899 (memS (memS mem0)))
        have h902 := (h880.ext he894).step (Stepp.chg_mem hc899 (memS (memS mem0)))
        have h903 := (h881.ext he894).step (Stepp.chg_mem hc899 (memS (memS mem0)))
        have h904 := (h882.ext he894).chg hc899 (avoidb hn34)
        have h905 := (h883.ext he894).chg hc899 (avoidb hn35)
        have h906 := (h885.ext he894).step (Stepp.chg_mem hc899 (memS (memS mem0))) hc899 (av_box hn70)
        have h907 := (h886.ext he894).step (Stepp.chg_mem hc899 (memS (memS mem0)))
        have h908 := (h887.ext he894).step (Stepp.chg_mem hc899 (memS (memS mem0)))
        have h909 := (hB878.ext he894).chg hc899 (avoidb hn862.symm)
        have e910 := chg_box e895 hc899 hbf36
        refine T0_q (v := (.bool false)) rfl (yl_assign rfl) ?_
        refine T0_nil ?_
        refine hK897 _ _ ?_
        refine WC_ret ?_
        replace h := some_out h
        subst h
        replace h := jn0_inl hn839
        replace h := some_out h
        subst h
        exact ⟨[(.agg (List.toArray [(.slice none 0 0), (.int .i64 0)])), (.bool false)], ⟨⟨_, rfl, run_loadVarA (cs := [(.slice none 0 0), (.int .i64 0)]) ag45 (Box.at hB900)⟩, rfl, trivial⟩, e910, [(.slice none 0 0), (.int .i64 0)], rfl, ⟨(.slice none 0 0), (SlRd.nil _ _), rfl⟩⟩
      · replace h := cond_f hb896 h
        refine WC_skip ?_
        refine hK889 _ _ ?_
        refine WC_seqK fun K911 hK911 => ?_
        refine WC_seqK fun K912 hK912 => ?_
        refine WC_region ?_
        refine T0_q (v := (.int .i64 0)) rfl (yl_assign rfl) ?_
        refine T0_nil ?_
        refine hK912 _ _ ?_
        obtain ⟨o1202, hl1203, hn1204⟩ := bind_elim h
        refine WC_post (fun (ρ : Env) (wd1171 : World) => ∃ (x1179 : (List Int)) (v1178 : Value), x1179 = o1202 ∧ ρ 2 = (.int .i64 p_txsteptxstepseenoffskatk) ∧ ρ 3 = (.pointer (some ⟨b11, 0, none⟩)) ∧ ρ 4 = (.pointer (some ⟨b19, 0, none⟩)) ∧ ρ 6 = (.pointer (some ⟨b29, 0, none⟩)) ∧ ρ 8 = v1178 ∧ ρ 10 = (.pointer (some ⟨b855, 0, none⟩)) ∧ SlRd (v1178 :: (.pointer (some ⟨b855, 0, none⟩)) :: (.pointer (some ⟨b29, 0, none⟩)) :: L) wd1171 v1 p_Listappend.Vanes ∧ SlRd (v1178 :: (.pointer (some ⟨b855, 0, none⟩)) :: (.pointer (some ⟨b29, 0, none⟩)) :: L) wd1171 v4 p_String.Teeth ∧ SlRd (v1178 :: (.pointer (some ⟨b855, 0, none⟩)) :: (.pointer (some ⟨b29, 0, none⟩)) :: L) wd1171 v6 p_String.Spoilt ∧ SlRd (v1178 :: (.pointer (some ⟨b855, 0, none⟩)) :: (.pointer (some ⟨b29, 0, none⟩)) :: L) wd1171 v845 el843.Wrong ∧ SlRd (v1178 :: (.pointer (some ⟨b855, 0, none⟩)) :: (.pointer (some ⟨b29, 0, none⟩)) :: L) wd1171 v847 el843.Unread ∧ Box wd1171 b11 [v1, (.int .i64 p_Listappend.Window), (.int .i64 p_Listappend.Tooth), (.int .i64 p_Listappend.PerVane), (.int .i64 p_Listappend.First), (.int .i64 p_Listappend.Modulus), (.int .i64 p_Listappend.Slack), (.int .i64 p_Listappend.Errors), (.bool p_Listappend.Round)] 24 ∧ Box wd1171 b19 [v4, (.int .i64 p_String.Time), v6] 27 ∧ Box wd1171 b29 [(.slice none 0 0), (.int .i64 0)] 45 ∧ Box wd1171 b855 [(.int .i64 el843.Tooth), v845, v847, (.int .i64 el843.Off)] 76 ∧ Own 3 (v1178 :: (.pointer (some ⟨b855, 0, none⟩)) :: (.pointer (some ⟨b29, 0, none⟩)) :: L) wd1171 v1178 x1179 ∧ (∀ b, blk v1178 = some b → w.heap.size ≤ b) ∧ (blk v1178 ≠ some b11) ∧ (blk v1178 ≠ some b19) ∧ (blk v1178 ≠ some b29) ∧ (blk v1178 ≠ some b855) ∧ Ext w wd1171) ?_ ?_
        · intro K1208 hK1208
          refine WC_block ?_
          refine WC_loopk (fun sv ρ wd1138 => ∃ (x1146 : (List Int)) (x1152 : Int) (v1145 : Value), (x1146, x1152) = sv ∧ ρ 2 = (.int .i64 p_txsteptxstepseenoffskatk) ∧ ρ 3 = (.pointer (some ⟨b11, 0, none⟩)) ∧ ρ 4 = (.pointer (some ⟨b19, 0, none⟩)) ∧ ρ 6 = (.pointer (some ⟨b29, 0, none⟩)) ∧ ρ 8 = v1145 ∧ ρ 10 = (.pointer (some ⟨b855, 0, none⟩)) ∧ ρ 11 = (.int .i64 x1152) ∧ SlRd (v1145 :: (.pointer (some ⟨b855, 0, none⟩)) :: (.pointer (some ⟨b29, 0, none⟩)) :: L) wd1138 v1 p_Listappend.Vanes ∧ SlRd (v1145 :: (.pointer (some ⟨b855, 0, none⟩)) :: (.pointer (some ⟨b29, 0, none⟩)) :: L) wd1138 v4 p_String.Teeth ∧ SlRd (v1145 :: (.pointer (some ⟨b855, 0, none⟩)) :: (.pointer (some ⟨b29, 0, none⟩)) :: L) wd1138 v6 p_String.Spoilt ∧ SlRd (v1145 :: (.pointer (some ⟨b855, 0, none⟩)) :: (.pointer (some ⟨b29, 0, none⟩)) :: L) wd1138 v845 el843.Wrong ∧ SlRd (v1145 :: (.pointer (some ⟨b855, 0, none⟩)) :: (.pointer (some ⟨b29, 0, none⟩)) :: L) wd1138 v847 el843.Unread ∧ Box wd1138 b11 [v1, (.int .i64 p_Listappend.Window), (.int .i64 p_Listappend.Tooth), (.int .i64 p_Listappend.PerVane), (.int .i64 p_Listappend.First), (.int .i64 p_Listappend.Modulus), (.int .i64 p_Listappend.Slack), (.int .i64 p_Listappend.Errors), (.bool p_Listappend.Round)] 24 ∧ Box wd1138 b19 [v4, (.int .i64 p_String.Time), v6] 27 ∧ Box wd1138 b29 [(.slice none 0 0), (.int .i64 0)] 45 ∧ Box wd1138 b855 [(.int .i64 el843.Tooth), v845, v847, (.int .i64 el843.Off)] 76 ∧ Own 3 (v1145 :: (.pointer (some ⟨b855, 0, none⟩)) :: (.pointer (some ⟨b29, 0, none⟩)) :: L) wd1138 v1145 x1146 ∧ (∀ b, blk v1145 = some b → w.heap.size ≤ b) ∧ (blk v1145 ≠ some b11) ∧ (blk v1145 ≠ some b19) ∧ (blk v1145 ≠ some b29) ∧ (blk v1145 ≠ some b855) ∧ Ext w wd1138) hl1203 ⟨r57, 0, v61, rfl, rfl, rfl, rfl, rfl, rfl, rfl, rfl, ((h879.ext he894).sub (sub_cons (memS mem0) (sub_cons mem0 (sub_cons (memS (memS mem0)) (sub_skip (sub_skip (sub_skip (sub_refl _)))))))), ((h880.ext he894).sub (sub_cons (memS mem0) (sub_cons mem0 (sub_cons (memS (memS mem0)) (sub_skip (sub_skip (sub_skip (sub_refl _)))))))), ((h881.ext he894).sub (sub_cons (memS mem0) (sub_cons mem0 (sub_cons (memS (memS mem0)) (sub_skip (sub_skip (sub_skip (sub_refl _)))))))), ((h886.ext he894).sub (sub_cons (memS mem0) (sub_cons mem0 (sub_cons (memS (memS mem0)) (sub_skip (sub_skip (sub_skip (sub_refl _)))))))), ((h887.ext he894).sub (sub_cons (memS mem0) (sub_cons mem0 (sub_cons (memS (memS mem0)) (sub_skip (sub_skip (sub_skip (sub_refl _)))))))), (h882.ext he894), (h883.ext he894), (h884.ext he894), (hB878.ext he894), ((h885.ext he894).sub (sub_cons (memS mem0) (sub_cons mem0 (sub_cons (memS (memS mem0)) (sub_skip (sub_skip (sub_skip (sub_refl _)))))))), hf71, hn68, hn69, hn70, hn863, e895⟩ ?_
          rintro _ ρ wd1138 ⟨x1146, x1152, v1145, rfl, hs1140, hs1141, hs1142, hs1143, hs1150, hs1151, hs1153, h1154, h1157, h1158, h1163, h1164, hB1156, hB1160, hB1162, hB1166, h1148, hf1149, hn1167, hn1168, hn1169, hn1170, e1139⟩ x1205 h hx1206 K1207 hK1207
          refine WC_seqK fun K1210 hK1210 => ?_
          refine WC_seqK fun K1211 hK1211 => ?_
          refine WC_region ?_
          refine T0_q (v := (.int .i64 x1152)) rfl (yl_move hs1153) ?_
          refine T0_q (v := (.pointer (some ⟨b855, 1, none⟩))) rfl (yl_fa 1 Try.underlying76 rfl rfl ⟨0, sz22⟩ hs1151 rfl) ?_
          refine T0_q (v := v845) rfl (yl_load sc22 rfl (At.drop (Box.at hB1166) 1)) ?_
          refine T0_q (v := (.int .i64 (el843.Wrong.length : Int))) rfl (yl_lenR rfl Try.underlying22 h1163 rfl) ?_
          refine T0_q (v := (.bool (decide (x1152 < (el843.Wrong.length : Int))))) rfl (yl_lss rfl rfl) ?_
          refine T0_nil ?_
          refine hK1211 _ _ ?_
          refine WC_cond (b := (decide (x1152 < (el843.Wrong.length : Int)))) rfl (fun hb1212 => ?_) (fun hb1212 => ?_)
          · replace h := cond_t hb1212 h
            refine WC_skip ?_
            refine hK1210 _ _ ?_
            refine WC_seqK fun K1213 hK1213 => ?_
            refine WC_block ?_
            refine WC_seqK fun K1214 hK1214 => ?_
            refine WC_plan mixed (.p 0 (.p 2 (.p 5 (.q 1 (.p 3 (.q 4 (.q 6 (.e 7 (.p 8 .done))))))))) (by kernel_rfl) ?_
            intro wd1215 he1216
            have e1217 := e1139.trans he1216
            refine TP_p (v := (.pointer (some ⟨b855, 1, none⟩))) rfl rfl (fun w' => (yl_fa 1 Try.underlying76 rfl rfl ⟨0, sz22⟩ hs1151 rfl)) ?_
            refine TP_p (v := (.int .i64 x1152)) rfl rfl (fun w' => (yl_move hs1153)) ?_
            refine TP_p (v := (.pointer (some ⟨b11, 1, none⟩))) rfl rfl (fun w' => (yl_fa 1 Try.underlying24 rfl rfl ⟨0, sz3⟩ hs1141 rfl)) ?_
            refine TP_q (v := v845) rfl rfl (fun w' hS => (yl_load sc22 rfl (At.drop (Box.at (hB1166.ext ((he1216).trans hS))) 1))) ?_
            obtain ⟨el1218, hel1219, h⟩ := bind_elim h
            obtain ⟨cs1220, hat1221, hrd1222⟩ := SlRd.at h1163 hel1219
            have hrd1222 : cs1220 = [(.int .i64 el1218)] := hrd1222
            subst hrd1222
            refine TP_p (v := (.pointer (some (elemAddr v845 (x1152 : Int).toNat 1)))) rfl rfl (fun w' => (yl_indexAddr Try.underlying22 sz3 h1163 hel1219 rfl rfl)) ?_
            refine TP_q (v := (.int .i64 el1218)) rfl rfl (fun w' hS => (yl_load sc3 rfl (hat1221.ext' ((he1216).trans hS)))) ?_
            refine TP_q (v := (.int .i64 p_Listappend.Window)) rfl rfl (fun w' hS => (yl_load sc3 rfl (At.drop (Box.at (hB1156.ext ((he1216).trans hS))) 1))) ?_
            obtain ⟨r1224, hr1225, h⟩ := bind_elim h
            refine TP_e rfl rfl (eff_call Try.func32 nm32 rfl (ev2 rfl rfl) (base_Mod_ok [] _ (LtL.nil _) el1218 p_Listappend.Window r1224 hr1225) ?_)
            rintro _ wd1226 ⟨he1227, rfl⟩
            have e1228 := he1216.trans he1227
            have e1229 := e1217.trans he1227
            refine ⟨he1227, ?_⟩
            refine TP_p (v := (.int .i64 r1224)) rfl rfl (fun w' => (yl_assign rfl)) ?_
            refine TP_done ?_
            refine hK1214 _ _ ?_
            refine WC_region ?_
            refine T0_q (v := v1145) rfl (yl_move hs1150) ?_
            refine T0_q (v := (.int .i64 r1224)) rfl (yl_move rfl) ?_
            refine T0_q (v := v1145) rfl (yl_move hs1150) ?_
            refine T0_q (v := (.int .i64 r1224)) rfl (yl_move rfl) ?_
            obtain ⟨el1230, hel1231, h⟩ := bind_elim h
            obtain ⟨cs1232, hat1233, hrd1234⟩ := Own.at h1148 hel1231
            have hrd1234 : cs1232 = [(.int .i64 el1230)] := hrd1234
            subst hrd1234
            refine T0_q (v := (.pointer (some (elemAddr v1145 (r1224 : Int).toNat 1)))) rfl (yl_indexAddrO Try.underlying22 sz3 h1148 hel1231 rfl rfl) ?_
            refine T0_q (v := (.int .i64 el1230)) rfl (yl_load sc3 rfl (hat1233.ext' e1228)) ?_
            refine T0_q (v := (.int .i64 (w64 (1 - el1230)))) rfl (yl_sub rfl rfl) ?_
            obtain ⟨el1236, hel1237, h⟩ := bind_elim h
            obtain ⟨cs1238, hat1239, hrd1240⟩ := Own.at h1148 hel1237
            have hrd1240 : cs1238 = [(.int .i64 el1236)] := hrd1240
            subst hrd1240
            refine T0_q (v := (.pointer (some (elemAddr v1145 (r1224 : Int).toNat 1)))) rfl (yl_indexAddrO Try.underlying22 sz3 h1148 hel1237 rfl rfl) ?_
            refine T0_e rfl (eff_storeOC (vs := [(.int .i64 (w64 (1 - el1230)))]) (off := 0) (y' := w64 (1 - el1230)) sz3 rfl rfl (h1148.ext e1228) mem0 hel1237 rfl rfl rfl (oc_cons rfl oc_nil) (fun w' cs hcs => by have hcs : cs = [(.int .i64 el1236)] := hcs; subst hcs; rfl) ?_)
            intro wd1242 hc1243 hB1244
            have h1245 := (h1154.ext e1228).step (Stepp.chg_mem hc1243 mem0)
            have h1246 := (hB1156.ext e1228).chg hc1243 (avoid1 hn1167)
            have h1247 := (h1157.ext e1228).step (Stepp.chg_mem hc1243 mem0)
            have h1248 := (h1158.ext e1228).step (Stepp.chg_mem hc1243 mem0)
            have h1249 := (hB1160.ext e1228).chg hc1243 (avoid1 hn1168)
            have h1250 := (hB1162.ext e1228).chg hc1243 (avoid1 hn1169)
            have h1251 := (h1163.ext e1228).step (Stepp.chg_mem hc1243 mem0)
            have h1252 := (h1164.ext e1228).step (Stepp.chg_mem hc1243 mem0)
            have h1253 := (hB1166.ext e1228).chg hc1243 (avoid1 hn1170)
            have e1254 := chg_own e1229 hc1243 hf1149
            refine T0_nil ?_
            refine hK1213 _ _ ?_
            refine WC_region ?_
            refine T0_q (v := (.int .i64 x1152)) rfl (yl_move hs1153) ?_
            refine T0_q (v := (.int .i64 (w64 (x1152 + 1)))) rfl (yl_add rfl rfl) ?_
            refine T0_q (v := (.int .i64 (w64 (x1152 + 1)))) rfl (yl_assign rfl) ?_
            refine T0_nil ?_
            replace h := some_out h
            subst h
            refine hK1207 _ _ _ rfl ?_
            exact ⟨(x1146.set (r1224 : Int).toNat (w64 (1 - el1230))), w64 (x1152 + 1), v1145, rfl, hs1140, hs1141, hs1142, hs1143, hs1150, hs1151, rfl, h1245, h1247, h1248, h1251, h1252, h1246, h1249, h1250, h1253, hB1244, hf1149, hn1167, hn1168, hn1169, hn1170, e1254⟩
          · replace h := cond_f hb1212 h
            refine WC_exit ?_
            replace h := some_out h
            subst h
            have ho := hx1206 _ rfl
            subst ho
            refine hK1208 _ _ ?_
            exact ⟨x1146, v1145, rfl, hs1140, hs1141, hs1142, hs1143, hs1150, hs1151, h1154, h1157, h1158, h1163, h1164, hB1156, hB1160, hB1162, hB1166, h1148, hf1149, hn1167, hn1168, hn1169, hn1170, e1139⟩
        · rintro ρ wd1171 ⟨x1179, v1178, rfl, hs1173, hs1174, hs1175, hs1176, hs1183, hs1184, h1185, h1188, h1189, h1194, h1195, hB1187, hB1191, hB1193, hB1197, h1181, hf1182, hn1198, hn1199, hn1200, hn1201, e1172⟩
          replace h := hn1204
          refine hK911 _ _ ?_
          refine WC_seqK fun K1255 hK1255 => ?_
          refine WC_seqK fun K1256 hK1256 => ?_
          refine WC_region ?_
          refine T0_q (v := (.int .i64 0)) rfl (yl_assign rfl) ?_
          refine T0_nil ?_
          refine hK1256 _ _ ?_
          obtain ⟨o1525, hl1526, hn1527⟩ := bind_elim h
          refine WC_post (fun (ρ : Env) (wd1494 : World) => ∃ (x1502 : (List Int)) (v1501 : Value), x1502 = o1525 ∧ ρ 2 = (.int .i64 p_txsteptxstepseenoffskatk) ∧ ρ 3 = (.pointer (some ⟨b11, 0, none⟩)) ∧ ρ 4 = (.pointer (some ⟨b19, 0, none⟩)) ∧ ρ 6 = (.pointer (some ⟨b29, 0, none⟩)) ∧ ρ 8 = v1501 ∧ ρ 10 = (.pointer (some ⟨b855, 0, none⟩)) ∧ SlRd (v1501 :: (.pointer (some ⟨b855, 0, none⟩)) :: (.pointer (some ⟨b29, 0, none⟩)) :: L) wd1494 v1 p_Listappend.Vanes ∧ SlRd (v1501 :: (.pointer (some ⟨b855, 0, none⟩)) :: (.pointer (some ⟨b29, 0, none⟩)) :: L) wd1494 v4 p_String.Teeth ∧ SlRd (v1501 :: (.pointer (some ⟨b855, 0, none⟩)) :: (.pointer (some ⟨b29, 0, none⟩)) :: L) wd1494 v6 p_String.Spoilt ∧ SlRd (v1501 :: (.pointer (some ⟨b855, 0, none⟩)) :: (.pointer (some ⟨b29, 0, none⟩)) :: L) wd1494 v845 el843.Wrong ∧ SlRd (v1501 :: (.pointer (some ⟨b855, 0, none⟩)) :: (.pointer (some ⟨b29, 0, none⟩)) :: L) wd1494 v847 el843.Unread ∧ Box wd1494 b11 [v1, (.int .i64 p_Listappend.Window), (.int .i64 p_Listappend.Tooth), (.int .i64 p_Listappend.PerVane), (.int .i64 p_Listappend.First), (.int .i64 p_Listappend.Modulus), (.int .i64 p_Listappend.Slack), (.int .i64 p_Listappend.Errors), (.bool p_Listappend.Round)] 24 ∧ Box wd1494 b19 [v4, (.int .i64 p_String.Time), v6] 27 ∧ Box wd1494 b29 [(.slice none 0 0), (.int .i64 0)] 45 ∧ Box wd1494 b855 [(.int .i64 el843.Tooth), v845, v847, (.int .i64 el843.Off)] 76 ∧ Own 3 (v1501 :: (.pointer (some ⟨b855, 0, none⟩)) :: (.pointer (some ⟨b29, 0, none⟩)) :: L) wd1494 v1501 x1502 ∧ (∀ b, blk v1501 = some b → w.heap.size ≤ b) ∧ (blk v1501 ≠ some b11) ∧ (blk v1501 ≠ some b19) ∧ (blk v1501 ≠ some b29) ∧ (blk v1501 ≠ some b855) ∧ Ext w wd1494) ?_ ?_
          · intro K1531 hK1531
            refine WC_block ?_
            refine WC_loopk (fun sv ρ wd1461 => ∃ (x1469 : (List Int)) (x1475 : Int) (v1468 : Value), (x1469, x1475) = sv ∧ ρ 2 = (.int .i64 p_txsteptxstepseenoffskatk) ∧ ρ 3 = (.pointer (some ⟨b11, 0, none⟩)) ∧ ρ 4 = (.pointer (some ⟨b19, 0, none⟩)) ∧ ρ 6 = (.pointer (some ⟨b29, 0, none⟩)) ∧ ρ 8 = v1468 ∧ ρ 10 = (.pointer (some ⟨b855, 0, none⟩)) ∧ ρ 13 = (.int .i64 x1475) ∧ SlRd (v1468 :: (.pointer (some ⟨b855, 0, none⟩)) :: (.pointer (some ⟨b29, 0, none⟩)) :: L) wd1461 v1 p_Listappend.Vanes ∧ SlRd (v1468 :: (.pointer (some ⟨b855, 0, none⟩)) :: (.pointer (some ⟨b29, 0, none⟩)) :: L) wd1461 v4 p_String.Teeth ∧ SlRd (v1468 :: (.pointer (some ⟨b855, 0, none⟩)) :: (.pointer (some ⟨b29, 0, none⟩)) :: L) wd1461 v6 p_String.Spoilt ∧ SlRd (v1468 :: (.pointer (some ⟨b855, 0, none⟩)) :: (.pointer (some ⟨b29, 0, none⟩)) :: L) wd1461 v845 el843.Wrong ∧ SlRd (v1468 :: (.pointer (some ⟨b855, 0, none⟩)) :: (.pointer (some ⟨b29, 0, none⟩)) :: L) wd1461 v847 el843.Unread ∧ Box wd1461 b11 [v1, (.int .i64 p_Listappend.Window), (.int .i64 p_Listappend.Tooth), (.int .i64 p_Listappend.PerVane), (.int .i64 p_Listappend.First), (.int .i64 p_Listappend.Modulus), (.int .i64 p_Listappend.Slack), (.int .i64 p_Listappend.Errors), (.bool p_Listappend.Round)] 24 ∧ Box wd1461 b19 [v4, (.int .i64 p_String.Time), v6] 27 ∧ Box wd1461 b29 [(.slice none 0 0), (.int .i64 0)] 45 ∧ Box wd1461 b855 [(.int .i64 el843.Tooth), v845, v847, (.int .i64 el843.Off)] 76 ∧ Own 3 (v1468 :: (.pointer (some ⟨b855, 0, none⟩)) :: (.pointer (some ⟨b29, 0, none⟩)) :: L) wd1461 v1468 x1469 ∧ (∀ b, blk v1468 = some b → w.heap.size ≤ b) ∧ (blk v1468 ≠ some b11) ∧ (blk v1468 ≠ some b19) ∧ (blk v1468 ≠ some b29) ∧ (blk v1468 ≠ some b855) ∧ Ext w wd1461) hl1526 ⟨x1179, 0, v1178, rfl, hs1173, hs1174, hs1175, hs1176, hs1183, hs1184, rfl, h1185, h1188, h1189, h1194, h1195, hB1187, hB1191, hB1193, hB1197, h1181, hf1182, hn1198, hn1199, hn1200, hn1201, e1172⟩ ?_
            rintro _ ρ wd1461 ⟨x1469, x1475, v1468, rfl, hs1463, hs1464, hs1465, hs1466, hs1473, hs1474, hs1476, h1477, h1480, h1481, h1486, h1487, hB1479, hB1483, hB1485, hB1489, h1471, hf1472, hn1490, hn1491, hn1492, hn1493, e1462⟩ x1528 h hx1529 K1530 hK1530
            refine WC_seqK fun K1533 hK1533 => ?_
            refine WC_seqK fun K1534 hK1534 => ?_
            refine WC_region ?_
            refine T0_q (v := (.int .i64 x1475)) rfl (yl_move hs1476) ?_
            refine T0_q (v := (.pointer (some ⟨b855, 2, none⟩))) rfl (yl_fa 2 Try.underlying76 rfl rfl ⟨0, sz22⟩ hs1474 rfl) ?_
            refine T0_q (v := v847) rfl (yl_load sc22 rfl (At.drop (Box.at hB1489) 2)) ?_
            refine T0_q (v := (.int .i64 (el843.Unread.length : Int))) rfl (yl_lenR rfl Try.underlying22 h1487 rfl) ?_
            refine T0_q (v := (.bool (decide (x1475 < (el843.Unread.length : Int))))) rfl (yl_lss rfl rfl) ?_
            refine T0_nil ?_
            refine hK1534 _ _ ?_
            refine WC_cond (b := (decide (x1475 < (el843.Unread.length : Int)))) rfl (fun hb1535 => ?_) (fun hb1535 => ?_)
            · replace h := cond_t hb1535 h
              refine WC_skip ?_
              refine hK1533 _ _ ?_
              refine WC_seqK fun K1536 hK1536 => ?_
              refine WC_block ?_
              refine WC_plan mixed (.p 0 (.p 1 (.p 3 (.p 6 (.q 2 (.p 4 (.q 5 (.q 7 (.e 8 (.p 9 (.b 10 .done))))))))))) (by kernel_rfl) ?_
              intro wd1537 he1538
              have e1539 := e1462.trans he1538
              refine TP_p (v := v1468) rfl rfl (fun w' => (yl_move hs1473)) ?_
              refine TP_p (v := (.pointer (some ⟨b855, 2, none⟩))) rfl rfl (fun w' => (yl_fa 2 Try.underlying76 rfl rfl ⟨0, sz22⟩ hs1474 rfl)) ?_
              refine TP_p (v := (.int .i64 x1475)) rfl rfl (fun w' => (yl_move hs1476)) ?_
              refine TP_p (v := (.pointer (some ⟨b11, 1, none⟩))) rfl rfl (fun w' => (yl_fa 1 Try.underlying24 rfl rfl ⟨0, sz3⟩ hs1464 rfl)) ?_
              refine TP_q (v := v847) rfl rfl (fun w' hS => (yl_load sc22 rfl (At.drop (Box.at (hB1489.ext ((he1538).trans hS))) 2))) ?_
              obtain ⟨el1540, hel1541, h⟩ := bind_elim h
              obtain ⟨cs1542, hat1543, hrd1544⟩ := SlRd.at h1487 hel1541
              have hrd1544 : cs1542 = [(.int .i64 el1540)] := hrd1544
              subst hrd1544
              refine TP_p (v := (.pointer (some (elemAddr v847 (x1475 : Int).toNat 1)))) rfl rfl (fun w' => (yl_indexAddr Try.underlying22 sz3 h1487 hel1541 rfl rfl)) ?_
              refine TP_q (v := (.int .i64 el1540)) rfl rfl (fun w' hS => (yl_load sc3 rfl (hat1543.ext' ((he1538).trans hS)))) ?_
              refine TP_q (v := (.int .i64 p_Listappend.Window)) rfl rfl (fun w' hS => (yl_load sc3 rfl (At.drop (Box.at (hB1479.ext ((he1538).trans hS))) 1))) ?_
              obtain ⟨r1546, hr1547, h⟩ := bind_elim h
              refine TP_e rfl rfl (eff_call Try.func32 nm32 rfl (ev2 rfl rfl) (base_Mod_ok [] _ (LtL.nil _) el1540 p_Listappend.Window r1546 hr1547) ?_)
              rintro _ wd1548 ⟨he1549, rfl⟩
              have e1550 := he1538.trans he1549
              have e1551 := e1539.trans he1549
              refine ⟨he1549, ?_⟩
              obtain ⟨el1552, hel1553, h⟩ := bind_elim h
              obtain ⟨cs1554, hat1555, hrd1556⟩ := Own.at h1471 hel1553
              have hrd1556 : cs1554 = [(.int .i64 el1552)] := hrd1556
              subst hrd1556
              refine TP_p (v := (.pointer (some (elemAddr v1468 (r1546 : Int).toNat 1)))) rfl rfl (fun w' => (yl_indexAddrO Try.underlying22 sz3 h1471 hel1553 rfl rfl)) ?_
              refine TP_b rfl rfl (eff_storeOC (vs := [(.int .i64 2)]) (off := 0) (y' := 2) sz3 rfl rfl (h1471.ext e1550) mem0 hel1553 rfl rfl rfl (oc_cons rfl oc_nil) (fun w' cs hcs => by have hcs : cs = [(.int .i64 el1552)] := hcs; subst hcs; rfl) ?_)
              intro wd1558 hc1559 hB1560
              have h1561 := (h1477.ext e1550).step (Stepp.chg_mem hc1559 mem0)
              have h1562 := (hB1479.ext e1550).chg hc1559 (avoid1 hn1490)
              have h1563 := (h1480.ext e1550).step (Stepp.chg_mem hc1559 mem0)
              have h1564 := (h1481.ext e1550).step (Stepp.chg_mem hc1559 mem0)
              have h1565 := (hB1483.ext e1550).chg hc1559 (avoid1 hn1491)
              have h1566 := (hB1485.ext e1550).chg hc1559 (avoid1 hn1492)
              have h1567 := (h1486.ext e1550).step (Stepp.chg_mem hc1559 mem0)
              have h1568 := (h1487.ext e1550).step (Stepp.chg_mem hc1559 mem0)
              have h1569 := (hB1489.ext e1550).chg hc1559 (avoid1 hn1493)
              have e1570 := chg_own e1551 hc1559 hf1472
              refine TP_done ?_
              refine hK1536 _ _ ?_
              refine WC_region ?_
              refine T0_q (v := (.int .i64 x1475)) rfl (yl_move hs1476) ?_
              refine T0_q (v := (.int .i64 (w64 (x1475 + 1)))) rfl (yl_add rfl rfl) ?_
              refine T0_q (v := (.int .i64 (w64 (x1475 + 1)))) rfl (yl_assign rfl) ?_
              refine T0_nil ?_
              replace h := some_out h
              subst h
              refine hK1530 _ _ _ rfl ?_
              exact ⟨(x1469.set (r1546 : Int).toNat 2), w64 (x1475 + 1), v1468, rfl, hs1463, hs1464, hs1465, hs1466, hs1473, hs1474, rfl, h1561, h1563, h1564, h1567, h1568, h1562, h1565, h1566, h1569, hB1560, hf1472, hn1490, hn1491, hn1492, hn1493, e1570⟩
            · replace h := cond_f hb1535 h
              refine WC_exit ?_
              replace h := some_out h
              subst h
              have ho := hx1529 _ rfl
              subst ho
              refine hK1531 _ _ ?_
              exact ⟨x1469, v1468, rfl, hs1463, hs1464, hs1465, hs1466, hs1473, hs1474, h1477, h1480, h1481, h1486, h1487, hB1479, hB1483, hB1485, hB1489, h1471, hf1472, hn1490, hn1491, hn1492, hn1493, e1462⟩
          · rintro ρ wd1494 ⟨x1502, v1501, rfl, hs1496, hs1497, hs1498, hs1499, hs1506, hs1507, h1508, h1511, h1512, h1517, h1518, hB1510, hB1514, hB1516, hB1520, h1504, hf1505, hn1521, hn1522, hn1523, hn1524, e1495⟩
            replace h := hn1527
            refine hK1255 _ _ ?_
            refine WC_region ?_
            refine T0_q (v := (.pointer (some ⟨b855, 3, none⟩))) rfl (yl_fa 3 Try.underlying76 rfl rfl ⟨0, sz3⟩ hs1507 rfl) ?_
            refine T0_q (v := (.int .i64 el843.Off)) rfl (yl_load sc3 rfl (At.drop (Box.at hB1520) 3)) ?_
            refine T0_q (v := (.int .i64 el843.Off)) rfl (yl_assign rfl) ?_
            refine T0_nil ?_
            replace h := some_out h
            subst h
            refine hK840 _ _ ?_
            exact ⟨x1502, el843.Off, v1501, rfl, hs1496, hs1497, hs1498, hs1499, hs1506, rfl, (h1508.sub (sub_cons mem0 (sub_cons (memS (memS mem0)) (sub_skip (sub_skip (sub_skip (sub_refl _))))))), (h1511.sub (sub_cons mem0 (sub_cons (memS (memS mem0)) (sub_skip (sub_skip (sub_skip (sub_refl _))))))), (h1512.sub (sub_cons mem0 (sub_cons (memS (memS mem0)) (sub_skip (sub_skip (sub_skip (sub_refl _))))))), hB1510, hB1514, hB1516, (h1504.sub (sub_cons mem0 (sub_cons (memS (memS mem0)) (sub_skip (sub_skip (sub_skip (sub_refl _))))))), hf1505, hn1521, hn1522, hn1523, e1495⟩
    · replace h := cond_f hb841 h
      refine WC_skip ?_
      replace h := some_out h
      subst h
      refine hK840 _ _ ?_
      exact ⟨r57, 0, v61, rfl, rfl, rfl, rfl, rfl, rfl, rfl, h64, h65, h66, (hB15.ext e72), (hB23.ext e73), (hB33.ext e74), h62, hf71, hn68, hn69, hn70, e75⟩
  · rintro ρ wd810 ⟨x818, x823, v817, rfl, hs812, hs813, hs814, hs815, hs822, hs824, h825, h828, h829, hB827, hB831, hB833, h820, hf821, hn834, hn835, hn836, e811⟩
    replace h := jn0_inr hn839
    refine hK78 _ _ ?_
    refine WC_seqK fun K1571 hK1571 => ?_
    refine WC_plan mixed (.p 0 (.p 1 (.p 3 (.p 6 (.p 8 (.q 2 (.p 4 (.q 5 (.p 7 (.q 9 (.e 10 (.p 11 (.b 12 (.p 13 .done)))))))))))))) (by kernel_rfl) ?_
    intro wd1572 he1573
    have e1574 := e811.trans he1573
    refine TP_p (v := v817) rfl rfl (fun w' => (yl_move hs822)) ?_
    refine TP_p (v := (.pointer (some ⟨b19, 0, none⟩))) rfl rfl (fun w' => (yl_fa 0 Try.underlying27 rfl rfl ⟨0, sz22⟩ hs814 rfl)) ?_
    refine TP_p (v := (.int .i64 p_txsteptxstepseenoffskatk)) rfl rfl (fun w' => (yl_move hs812)) ?_
    refine TP_p (v := (.int .i64 x823)) rfl rfl (fun w' => (yl_move hs824)) ?_
    refine TP_p (v := (.pointer (some ⟨b11, 5, none⟩))) rfl rfl (fun w' => (yl_fa 5 Try.underlying24 rfl rfl ⟨0, sz3⟩ hs813 rfl)) ?_
    refine TP_q (v := v4) rfl rfl (fun w' hS => (yl_load sc22 rfl (Box.at (hB831.ext ((he1573).trans hS))))) ?_
    obtain ⟨el1575, hel1576, h⟩ := bind_elim h
    obtain ⟨cs1577, hat1578, hrd1579⟩ := SlRd.at h828 hel1576
    have hrd1579 : cs1577 = [(.int .i64 el1575)] := hrd1579
    subst hrd1579
    refine TP_p (v := (.pointer (some (elemAddr v4 (p_txsteptxstepseenoffskatk : Int).toNat 1)))) rfl rfl (fun w' => (yl_indexAddr Try.underlying22 sz3 h828 hel1576 rfl rfl)) ?_
    refine TP_q (v := (.int .i64 el1575)) rfl rfl (fun w' hS => (yl_load sc3 rfl (hat1578.ext' ((he1573).trans hS)))) ?_
    refine TP_p (v := (.int .i64 (w64 (el1575 + x823)))) rfl rfl (fun w' => (yl_add rfl rfl)) ?_
    refine TP_q (v := (.int .i64 p_Listappend.Modulus)) rfl rfl (fun w' hS => (yl_load sc3 rfl (At.drop (Box.at (hB827.ext ((he1573).trans hS))) 5))) ?_
    obtain ⟨r1581, hr1582, h⟩ := bind_elim h
    refine TP_e rfl rfl (eff_call Try.func32 nm32 rfl (ev2 rfl rfl) (base_Mod_ok [] _ (LtL.nil _) (w64 (el1575 + x823)) p_Listappend.Modulus r1581 hr1582) ?_)
    rintro _ wd1583 ⟨he1584, rfl⟩
    have e1585 := he1573.trans he1584
    have e1586 := e1574.trans he1584
    refine ⟨he1584, ?_⟩
    refine TP_p (v := (.agg (List.toArray [v817, (.int .i64 r1581)]))) rfl rfl (fun w' => (yl_buildC (cells := [v817, (.int .i64 r1581)]) bi45 (pc_cons rfl (cells_one h820.one1) (pc_cons rfl rfl pc_nil)) rfl)) ?_
    refine TP_b rfl rfl (eff_storeC (vs := [v817, (.int .i64 r1581)]) (cs' := [v817, (.int .i64 r1581)]) sz45 rfl rfl hs815 rfl (hB833.ext e1585) rfl (oc_cons h820.one1 (oc_cons rfl oc_nil)) rfl ?_)
    intro wd1587 hc1588 hB1589
    have h1590 := (h820.ext e1585).step (Stepp.chg_mem hc1588 (memS mem0)) hc1588 (av_box hn836)
    have h1591 := (h825.ext e1585).step (Stepp.chg_mem hc1588 (memS mem0))
    have h1592 := (hB827.ext e1585).chg hc1588 (avoidb hn34)
    have h1593 := (h828.ext e1585).step (Stepp.chg_mem hc1588 (memS mem0))
    have h1594 := (h829.ext e1585).step (Stepp.chg_mem hc1588 (memS mem0))
    have h1595 := (hB831.ext e1585).chg hc1588 (avoidb hn35)
    have e1596 := chg_box e1586 hc1588 hbf36
    refine TP_p (v := (.bool true)) rfl rfl (fun w' => (yl_assign rfl)) ?_
    refine TP_done ?_
    refine hK1571 _ _ ?_
    refine WC_ret ?_
    replace h := some_out h
    subst h
    exact ⟨[(.agg (List.toArray [v817, (.int .i64 r1581)])), (.bool true)], ⟨⟨_, hs815, run_loadVarA (cs := [v817, (.int .i64 r1581)]) ag45 (Box.at hB1589)⟩, rfl, trivial⟩, e1596, [v817, (.int .i64 r1581)], rfl, ⟨v817, (h1590.rdL (sub_skip (sub_skip (sub_refl _))) hL hf821), rfl⟩⟩

noncomputable def locate_ToothAt_spec (p_t : LocateTrack) (p_place : Int) : Option (Int × Int) :=
  (Option.bind (locate_open_spec p_t) fun r14 =>
  (bif (!decide (r14.2 = 0)) then (
    some (0, r14.2)
  ) else (
    (Option.bind (locate_track_teeth_spec (locate_track.mk (LocateTrack.mk r14.1.LocateTrack.Vanes r14.1.LocateTrack.Window r14.1.LocateTrack.Tooth r14.1.LocateTrack.PerVane r14.1.LocateTrack.First r14.1.LocateTrack.Modulus r14.1.LocateTrack.Slack r14.1.LocateTrack.Errors r14.1.LocateTrack.Round))) fun r53 =>
    (Option.bind (locate_within_spec p_place p_t.First (w64 ((w64 (p_t.First + (w64 (r53 * p_t.Tooth)))) - 1))) fun r59 =>
    (bif (!r59) then (
      some (0, 6)
    ) else (
      (Option.bind (quo (w64 (p_place - p_t.First)) p_t.Tooth) fun q69 =>
      some (q69, 0)
      )
    ))
    )
    )
  ))
  )
theorem locate_ToothAt_ok (L : List Value) (w : World) (hL : LtL L w) (cs_p_t : List Value) (p_t : LocateTrack) (h_p_t : Rep.rd L w cs_p_t p_t) (p_place : Int) (r : Int × Int) (h : locate_ToothAt_spec p_t p_place = some r) :
    CallsTo Try.prog 12 [(.agg cs_p_t.toArray), (.int .i64 p_place)] w (fun v w' => Ext w w' ∧ (.tuple #[(.int .i64 r.1), (.int .i64 r.2)]) = v) := by
  have e0 : Ext w w := Chg.refl _ _
  obtain ⟨v1, h2, rfl⟩ := h_p_t
  refine callsTo_of_WC (n := 37) (rs := [.tmp 4, .tmp 5]) Try.func12 rfl rfl rfl rfl rfl ?_
  refine WC_seqK fun K4 hK4 => ?_
  refine WC_region ?_
  refine T0_e rfl (eff_boxC (cs := [v1, (.int .i64 p_t.Window), (.int .i64 p_t.Tooth), (.int .i64 p_t.PerVane), (.int .i64 p_t.First), (.int .i64 p_t.Modulus), (.int .i64 p_t.Slack), (.int .i64 p_t.Errors), (.bool p_t.Round)]) rfl rfl ?_)
  intro b5 wd6 hb7 he8 hB9
  have hbf10 := bfresh e0 hb7
  have e11 := e0.trans he8
  refine T0_q (v := (.int .i64 0)) rfl (yl_assign rfl) ?_
  refine T0_q (v := (.int .i64 0)) rfl (yl_assign rfl) ?_
  refine T0_nil ?_
  refine hK4 _ _ ?_
  refine WC_seqK fun K13 hK13 => ?_
  refine WC_region ?_
  refine T0_q (v := (.agg (List.toArray [v1, (.int .i64 p_t.Window), (.int .i64 p_t.Tooth), (.int .i64 p_t.PerVane), (.int .i64 p_t.First), (.int .i64 p_t.Modulus), (.int .i64 p_t.Slack), (.int .i64 p_t.Errors), (.bool p_t.Round)]))) rfl (yl_loadA (cs := [v1, (.int .i64 p_t.Window), (.int .i64 p_t.Tooth), (.int .i64 p_t.PerVane), (.int .i64 p_t.First), (.int .i64 p_t.Modulus), (.int .i64 p_t.Slack), (.int .i64 p_t.Errors), (.bool p_t.Round)]) ag24 rfl (Box.at hB9)) ?_
  obtain ⟨r14, hr15, h⟩ := bind_elim h
  refine T0_e rfl (eff_call Try.func26 nm26 rfl (ev1 rfl) (locate_open_ok L _ (hL.chg e11) [v1, (.int .i64 p_t.Window), (.int .i64 p_t.Tooth), (.int .i64 p_t.PerVane), (.int .i64 p_t.First), (.int .i64 p_t.Modulus), (.int .i64 p_t.Slack), (.int .i64 p_t.Errors), (.bool p_t.Round)] p_t ⟨v1, (h2.ext he8), rfl⟩ r14 hr15) ?_)
  rintro _ wd16 ⟨he17, cs20, rfl, hrd21⟩
  have e22 := he8.trans he17
  have e23 := e11.trans he17
  obtain ⟨v18, h19, rfl⟩ := hrd21
  refine T0_q (v := (.tuple #[(.agg (List.toArray [v18, (.int .i64 r14.1.LocateTrack.Window), (.int .i64 r14.1.LocateTrack.Tooth), (.int .i64 r14.1.LocateTrack.PerVane), (.int .i64 r14.1.LocateTrack.First), (.int .i64 r14.1.LocateTrack.Modulus), (.int .i64 r14.1.LocateTrack.Slack), (.int .i64 r14.1.LocateTrack.Errors), (.bool r14.1.LocateTrack.Round)])), (.int .i64 r14.2)])) rfl (yl_move rfl) ?_
  refine T0_q (v := (.agg (List.toArray [v18, (.int .i64 r14.1.LocateTrack.Window), (.int .i64 r14.1.LocateTrack.Tooth), (.int .i64 r14.1.LocateTrack.PerVane), (.int .i64 r14.1.LocateTrack.First), (.int .i64 r14.1.LocateTrack.Modulus), (.int .i64 r14.1.LocateTrack.Slack), (.int .i64 r14.1.LocateTrack.Errors), (.bool r14.1.LocateTrack.Round)]))) rfl (yl_extract rfl rfl) ?_
  refine T0_q (v := (.int .i64 r14.2)) rfl (yl_extract rfl rfl) ?_
  refine T0_e rfl (eff_allocZ zi68 ?_)
  intro b25 wd26 hb27 he28 hB29
  have hn30 : b25 ≠ b5 := box_ne (hB9.ext he17) hb27
  have hbf31 := bfresh e23 hb27
  have h32 := (h2.ext e22).step (add_box he28 hb27)
  have h33 := h19.step (add_box he28 hb27)
  have e34 := he17.trans he28
  have e35 := e23.trans he28
  refine T0_e rfl (eff_storeC (vs := [v18, (.int .i64 r14.1.LocateTrack.Window), (.int .i64 r14.1.LocateTrack.Tooth), (.int .i64 r14.1.LocateTrack.PerVane), (.int .i64 r14.1.LocateTrack.First), (.int .i64 r14.1.LocateTrack.Modulus), (.int .i64 r14.1.LocateTrack.Slack), (.int .i64 r14.1.LocateTrack.Errors), (.bool r14.1.LocateTrack.Round)]) (cs' := [v18, (.int .i64 r14.1.LocateTrack.Window), (.int .i64 r14.1.LocateTrack.Tooth), (.int .i64 r14.1.LocateTrack.PerVane), (.int .i64 r14.1.LocateTrack.First), (.int .i64 r14.1.LocateTrack.Modulus), (.int .i64 r14.1.LocateTrack.Slack), (.int .i64 r14.1.LocateTrack.Errors), (.bool r14.1.LocateTrack.Round)]) sz68 rfl rfl rfl rfl hB29 rfl (oc_cons h33.one1 (oc_cons rfl (oc_cons rfl (oc_cons rfl (oc_cons rfl (oc_cons rfl (oc_cons rfl (oc_cons rfl (oc_cons rfl oc_nil))))))))) rfl ?_)
  intro wd37 hc38 hB39
  have h40 := h32.step (Stepp.chg_mem hc38 mem0)
  have h41 := (hB9.ext e34).chg hc38 (avoidb hn30)
  have h42 := h33.step (Stepp.chg_mem hc38 mem0)
  have e43 := chg_box e35 hc38 hbf31
  refine T0_q (v := (.int .i64 r14.2)) rfl (yl_assign rfl) ?_
  refine T0_nil ?_
  refine hK13 _ _ ?_
  refine WC_seqK fun K44 hK44 => ?_
  refine WC_seqK fun K45 hK45 => ?_
  refine WC_region ?_
  refine T0_q (v := (.int .i64 r14.2)) rfl (yl_move rfl) ?_
  refine T0_q (v := (.bool (!decide (r14.2 = 0)))) rfl (yl_neq rfl rfl) ?_
  refine T0_nil ?_
  refine hK45 _ _ ?_
  refine WC_cond (b := (!decide (r14.2 = 0))) rfl (fun hb46 => ?_) (fun hb46 => ?_)
  · replace h := cond_t hb46 h
    refine WC_seqK fun K47 hK47 => ?_
    refine WC_region ?_
    refine T0_q (v := (.int .i64 r14.2)) rfl (yl_move rfl) ?_
    refine T0_q (v := (.int .i64 0)) rfl (yl_assign rfl) ?_
    refine T0_q (v := (.int .i64 r14.2)) rfl (yl_assign rfl) ?_
    refine T0_nil ?_
    refine hK47 _ _ ?_
    refine WC_ret ?_
    replace h := some_out h
    subst h
    exact ⟨[(.int .i64 0), (.int .i64 r14.2)], ⟨rfl, rfl, trivial⟩, e43, rfl⟩
  · replace h := cond_f hb46 h
    refine WC_skip ?_
    refine hK44 _ _ ?_
    refine WC_seqK fun K48 hK48 => ?_
    refine WC_seqK fun K49 hK49 => ?_
    refine WC_plan mixed (.p 0 (.p 1 (.p 3 (.p 7 (.q 2 (.q 4 (.q 5 (.q 8 (.e 6 (.p 9 (.p 10 (.p 11 (.e 12 (.p 13 .done)))))))))))))) (by kernel_rfl) ?_
    intro wd50 he51
    have e52 := e43.trans he51
    refine TP_p (v := (.int .i64 p_place)) rfl rfl (fun w' => (yl_move rfl)) ?_
    refine TP_p (v := (.pointer (some ⟨b5, 4, none⟩))) rfl rfl (fun w' => (yl_fa 4 Try.underlying24 rfl rfl ⟨0, sz3⟩ rfl rfl)) ?_
    refine TP_p (v := (.pointer (some ⟨b5, 4, none⟩))) rfl rfl (fun w' => (yl_fa 4 Try.underlying24 rfl rfl ⟨0, sz3⟩ rfl rfl)) ?_
    refine TP_p (v := (.pointer (some ⟨b5, 2, none⟩))) rfl rfl (fun w' => (yl_fa 2 Try.underlying24 rfl rfl ⟨0, sz3⟩ rfl rfl)) ?_
    refine TP_q (v := (.int .i64 p_t.First)) rfl rfl (fun w' hS => (yl_load sc3 rfl (At.drop (Box.at (h41.ext ((he51).trans hS))) 4))) ?_
    refine TP_q (v := (.int .i64 p_t.First)) rfl rfl (fun w' hS => (yl_load sc3 rfl (At.drop (Box.at (h41.ext ((he51).trans hS))) 4))) ?_
    refine TP_q (v := (.agg (List.toArray [v18, (.int .i64 r14.1.LocateTrack.Window), (.int .i64 r14.1.LocateTrack.Tooth), (.int .i64 r14.1.LocateTrack.PerVane), (.int .i64 r14.1.LocateTrack.First), (.int .i64 r14.1.LocateTrack.Modulus), (.int .i64 r14.1.LocateTrack.Slack), (.int .i64 r14.1.LocateTrack.Errors), (.bool r14.1.LocateTrack.Round)]))) rfl rfl (fun w' hS => (yl_loadA (cs := [v18, (.int .i64 r14.1.LocateTrack.Window), (.int .i64 r14.1.LocateTrack.Tooth), (.int .i64 r14.1.LocateTrack.PerVane), (.int .i64 r14.1.LocateTrack.First), (.int .i64 r14.1.LocateTrack.Modulus), (.int .i64 r14.1.LocateTrack.Slack), (.int .i64 r14.1.LocateTrack.Errors), (.bool r14.1.LocateTrack.Round)]) ag68 rfl (Box.at (hB39.ext ((he51).trans hS))))) ?_
    refine TP_q (v := (.int .i64 p_t.Tooth)) rfl rfl (fun w' hS => (yl_load sc3 rfl (At.drop (Box.at (h41.ext ((he51).trans hS))) 2))) ?_
    obtain ⟨r53, hr54, h⟩ := bind_elim h
    refine TP_e rfl rfl (eff_call Try.func28 nm28 rfl (ev1 rfl) (locate_track_teeth_ok [] _ (LtL.nil _) [v18, (.int .i64 r14.1.LocateTrack.Window), (.int .i64 r14.1.LocateTrack.Tooth), (.int .i64 r14.1.LocateTrack.PerVane), (.int .i64 r14.1.LocateTrack.First), (.int .i64 r14.1.LocateTrack.Modulus), (.int .i64 r14.1.LocateTrack.Slack), (.int .i64 r14.1.LocateTrack.Errors), (.bool r14.1.LocateTrack.Round)] (locate_track.mk (LocateTrack.mk r14.1.LocateTrack.Vanes r14.1.LocateTrack.Window r14.1.LocateTrack.Tooth r14.1.LocateTrack.PerVane r14.1.LocateTrack.First r14.1.LocateTrack.Modulus r14.1.LocateTrack.Slack r14.1.LocateTrack.Errors r14.1.LocateTrack.Round)) ⟨v18, ((h42.ext he51).sub (fun _ h => by cases h)), rfl⟩ r53 hr54) ?_)
    rintro _ wd55 ⟨he56, rfl⟩
    have e57 := he51.trans he56
    have e58 := e52.trans he56
    refine ⟨he56, ?_⟩
    refine TP_p (v := (.int .i64 (w64 (r53 * p_t.Tooth)))) rfl rfl (fun w' => (yl_mul rfl rfl)) ?_
    refine TP_p (v := (.int .i64 (w64 (p_t.First + (w64 (r53 * p_t.Tooth)))))) rfl rfl (fun w' => (yl_add rfl rfl)) ?_
    refine TP_p (v := (.int .i64 (w64 ((w64 (p_t.First + (w64 (r53 * p_t.Tooth)))) - 1)))) rfl rfl (fun w' => (yl_sub rfl rfl)) ?_
    obtain ⟨r59, hr60, h⟩ := bind_elim h
    refine TP_e rfl rfl (eff_call Try.func27 nm27 rfl (ev3 rfl rfl rfl) (locate_within_ok [] _ (LtL.nil _) p_place p_t.First (w64 ((w64 (p_t.First + (w64 (r53 * p_t.Tooth)))) - 1)) r59 hr60) ?_)
    rintro _ wd61 ⟨he62, rfl⟩
    have e63 := e57.trans he62
    have e64 := he56.trans he62
    have e65 := e58.trans he62
    refine ⟨e64, ?_⟩
    refine TP_p (v := (.bool (!r59))) rfl rfl (fun w' => (yl_not rfl)) ?_
    refine TP_done ?_
    refine hK49 _ _ ?_
    refine WC_cond (b := (!r59)) rfl (fun hb66 => ?_) (fun hb66 => ?_)
    · replace h := cond_t hb66 h
      refine WC_seqK fun K67 hK67 => ?_
      refine WC_region ?_
      refine T0_q (v := (.int .i64 0)) rfl (yl_assign rfl) ?_
      refine T0_q (v := (.int .i64 6)) rfl (yl_assign rfl) ?_
      refine T0_nil ?_
      refine hK67 _ _ ?_
      refine WC_ret ?_
      replace h := some_out h
      subst h
      exact ⟨[(.int .i64 0), (.int .i64 6)], ⟨rfl, rfl, trivial⟩, e65, rfl⟩
    · replace h := cond_f hb66 h
      refine WC_skip ?_
      refine hK48 _ _ ?_
      refine WC_seqK fun K68 hK68 => ?_
      refine WC_region ?_
      refine T0_q (v := (.int .i64 p_place)) rfl (yl_move rfl) ?_
      refine T0_q (v := (.pointer (some ⟨b5, 4, none⟩))) rfl (yl_fa 4 Try.underlying24 rfl rfl ⟨0, sz3⟩ rfl rfl) ?_
      refine T0_q (v := (.int .i64 p_t.First)) rfl (yl_load sc3 rfl (At.drop (Box.at (h41.ext e63)) 4)) ?_
      refine T0_q (v := (.int .i64 (w64 (p_place - p_t.First)))) rfl (yl_sub rfl rfl) ?_
      refine T0_q (v := (.pointer (some ⟨b5, 2, none⟩))) rfl (yl_fa 2 Try.underlying24 rfl rfl ⟨0, sz3⟩ rfl rfl) ?_
      refine T0_q (v := (.int .i64 p_t.Tooth)) rfl (yl_load sc3 rfl (At.drop (Box.at (h41.ext e63)) 2)) ?_
      obtain ⟨q69, hq70, h⟩ := bind_elim h
      refine T0_q (v := (.int .i64 q69)) rfl (yl_quo' hq70 rfl rfl) ?_
      refine T0_q (v := (.int .i64 q69)) rfl (yl_assign rfl) ?_
      refine T0_q (v := (.int .i64 0)) rfl (yl_assign rfl) ?_
      refine T0_nil ?_
      refine hK68 _ _ ?_
      refine WC_ret ?_
      replace h := some_out h
      subst h
      exact ⟨[(.int .i64 q69), (.int .i64 0)], ⟨rfl, rfl, trivial⟩, e65, rfl⟩

noncomputable def guidewaytop_locateAwake_spec : Option Bool :=
  (Option.bind (law04_Round_spec) fun r3 =>
  (Option.bind (locate_PlaceOf_spec r3 (LocateReading.mk ([0, 2, 1] : List Int) 1)) fun r19 =>
  (Option.bind (locate_Joined_spec ([(LocateRest.mk 4 2), (LocateRest.mk 6 4)] : List LocateRest)) fun r50 =>
  some ((((decide (r19.2 = 0)) && (decide ((Range.mk r19.1.Lo r19.1.Hi) = (Range.mk 1100 1199)))) && (decide (r50.2 = 0))) && (decide ((LocateRest.mk r50.1.Modulus r50.1.Rest) = (LocateRest.mk 12 10))))
  )
  )
  )
theorem guidewaytop_locateAwake_ok (L : List Value) (w : World) (hL : LtL L w) (r : Bool) (h : guidewaytop_locateAwake_spec = some r) :
    CallsTo Try.prog 4 [] w (fun v w' => Ext w w' ∧ (.bool r) = v) := by
  have e0 : Ext w w := Chg.refl _ _
  refine callsTo_of_WC (n := 35) (rs := [.tmp 0]) Try.func4 rfl rfl rfl rfl rfl ?_
  refine WC_seqK fun K1 hK1 => ?_
  refine WC_region ?_
  refine T0_q (v := (.bool false)) rfl (yl_assign rfl) ?_
  refine T0_nil ?_
  refine hK1 _ _ ?_
  refine WC_seqK fun K2 hK2 => ?_
  refine WC_region ?_
  obtain ⟨r3, hr4, h⟩ := bind_elim h
  refine T0_e rfl (eff_call Try.func22 nm22 rfl ev0 (law04_Round_ok L _ (hL.chg e0)  r3 hr4) ?_)
  rintro _ wd5 ⟨he6, cs9, rfl, hrd10⟩
  have e11 := e0.trans he6
  obtain ⟨v7, h8, rfl⟩ := hrd10
  refine T0_e rfl (eff_buildTC (xs := ([0, 2, 1] : List Int)) (cells := [(.int .i64 0), (.int .i64 2), (.int .i64 1)]) Try.underlying22 ei3 rfl (pc_cons rfl rfl (pc_cons rfl rfl (pc_cons rfl rfl pc_nil))) rfl (Elems.cons (cs := [(.int .i64 0)]) rfl (Elems.cons (cs := [(.int .i64 2)]) rfl (Elems.cons (cs := [(.int .i64 1)]) rfl Elems.nil))) rfl (hL.chg e11) ?_)
  intro b16 wd13 he14 h15
  have e17 := e11.trans he14
  refine T0_q (v := (.agg (List.toArray [(.slice (some ⟨b16, 0, none⟩) 3 3), (.int .i64 1)]))) rfl (yl_buildC (cells := [(.slice (some ⟨b16, 0, none⟩) 3 3), (.int .i64 1)]) bi45 (pc_cons rfl (cells_one h15.one1) (pc_cons rfl rfl pc_nil)) rfl) ?_
  obtain ⟨r19, hr20, h⟩ := bind_elim h
  refine T0_e rfl (eff_call Try.func14 nm14 rfl (ev2 rfl rfl) (locate_PlaceOf_ok [] _ (LtL.nil _) [v7, (.int .i64 r3.Window), (.int .i64 r3.Tooth), (.int .i64 r3.PerVane), (.int .i64 r3.First), (.int .i64 r3.Modulus), (.int .i64 r3.Slack), (.int .i64 r3.Errors), (.bool r3.Round)] r3 ⟨v7, ((h8.ext he14).sub (fun _ h => by cases h)), rfl⟩ [(.slice (some ⟨b16, 0, none⟩) 3 3), (.int .i64 1)] (LocateReading.mk ([0, 2, 1] : List Int) 1) ⟨(.slice (some ⟨b16, 0, none⟩) 3 3), (h15.sub (fun _ h => by cases h)), rfl⟩ r19 hr20) ?_)
  rintro _ wd21 ⟨he22, cs23, rfl, hrd24⟩
  have e25 := he14.trans he22
  have e26 := e17.trans he22
  have hrd24 : cs23 = [(.int .i64 r19.1.Lo), (.int .i64 r19.1.Hi)] := hrd24
  subst hrd24
  refine T0_q (v := (.tuple #[(.agg (List.toArray [(.int .i64 r19.1.Lo), (.int .i64 r19.1.Hi)])), (.int .i64 r19.2)])) rfl (yl_move rfl) ?_
  refine T0_q (v := (.agg (List.toArray [(.int .i64 r19.1.Lo), (.int .i64 r19.1.Hi)]))) rfl (yl_extract rfl rfl) ?_
  refine T0_q (v := (.int .i64 r19.2)) rfl (yl_extract rfl rfl) ?_
  refine T0_e rfl (eff_allocZ zi35 ?_)
  intro b27 wd28 hb29 he30 hB31
  have hbf32 := bfresh e26 hb29
  have h33 := (h8.ext e25).step (add_box he30 hb29)
  have h34 := (h15.ext he22).step (add_box he30 hb29)
  have e35 := e26.trans he30
  refine T0_e rfl (eff_storeC (vs := [(.int .i64 r19.1.Lo), (.int .i64 r19.1.Hi)]) (cs' := [(.int .i64 r19.1.Lo), (.int .i64 r19.1.Hi)]) sz35 rfl rfl rfl rfl hB31 rfl (oc_cons rfl (oc_cons rfl oc_nil)) rfl ?_)
  intro wd37 hc38 hB39
  have h40 := h33.step (Stepp.chg_mem hc38 mem0)
  have h41 := h34.step (Stepp.chg_mem hc38 mem0)
  have e42 := chg_box e35 hc38 hbf32
  refine T0_q (v := (.int .i64 r19.2)) rfl (yl_assign rfl) ?_
  refine T0_nil ?_
  refine hK2 _ _ ?_
  refine WC_seqK fun K43 hK43 => ?_
  refine WC_region ?_
  refine T0_q (v := (.agg (List.toArray [(.int .i64 4), (.int .i64 2)]))) rfl (yl_buildC (cells := [(.int .i64 4), (.int .i64 2)]) bi61 (pc_cons rfl rfl (pc_cons rfl rfl pc_nil)) rfl) ?_
  refine T0_q (v := (.agg (List.toArray [(.int .i64 6), (.int .i64 4)]))) rfl (yl_buildC (cells := [(.int .i64 6), (.int .i64 4)]) bi61 (pc_cons rfl rfl (pc_cons rfl rfl pc_nil)) rfl) ?_
  refine T0_e rfl (eff_buildTC (xs := ([(LocateRest.mk 4 2), (LocateRest.mk 6 4)] : List LocateRest)) (cells := [(.int .i64 4), (.int .i64 2), (.int .i64 6), (.int .i64 4)]) Try.underlying64 ei61 rfl (pc_cons rfl rfl (pc_cons rfl rfl pc_nil)) rfl (Elems.cons (cs := [(.int .i64 4), (.int .i64 2)]) rfl (Elems.cons (cs := [(.int .i64 6), (.int .i64 4)]) rfl Elems.nil)) rfl (ltl_box (hL.chg e42) hB39) ?_)
  intro b47 wd44 he45 h46
  have e48 := e42.trans he45
  obtain ⟨r50, hr51, h⟩ := bind_elim h
  refine T0_e rfl (eff_call Try.func23 nm23 rfl (ev1 rfl) (locate_Joined_ok [] _ (LtL.nil _) (.slice (some ⟨b47, 0, none⟩) 2 2) ([(LocateRest.mk 4 2), (LocateRest.mk 6 4)] : List LocateRest) (h46.sub (fun _ h => by cases h)) r50 hr51) ?_)
  rintro _ wd52 ⟨he53, cs54, rfl, hrd55⟩
  have e56 := he45.trans he53
  have e57 := e48.trans he53
  have hrd55 : cs54 = [(.int .i64 r50.1.Modulus), (.int .i64 r50.1.Rest)] := hrd55
  subst hrd55
  refine T0_q (v := (.tuple #[(.agg (List.toArray [(.int .i64 r50.1.Modulus), (.int .i64 r50.1.Rest)])), (.int .i64 r50.2)])) rfl (yl_move rfl) ?_
  refine T0_q (v := (.agg (List.toArray [(.int .i64 r50.1.Modulus), (.int .i64 r50.1.Rest)]))) rfl (yl_extract rfl rfl) ?_
  refine T0_q (v := (.int .i64 r50.2)) rfl (yl_extract rfl rfl) ?_
  refine T0_e rfl (eff_allocZ zi61 ?_)
  intro b58 wd59 hb60 he61 hB62
  have hn63 : b58 ≠ b27 := box_ne (hB39.ext e56) hb60
  have hbf64 := bfresh e57 hb60
  have h65 := (h40.ext e56).step (add_box he61 hb60)
  have h66 := (h41.ext e56).step (add_box he61 hb60)
  have h67 := (h46.ext he53).step (add_box he61 hb60)
  have e68 := e56.trans he61
  have e69 := e57.trans he61
  refine T0_e rfl (eff_storeC (vs := [(.int .i64 r50.1.Modulus), (.int .i64 r50.1.Rest)]) (cs' := [(.int .i64 r50.1.Modulus), (.int .i64 r50.1.Rest)]) sz61 rfl rfl rfl rfl hB62 rfl (oc_cons rfl (oc_cons rfl oc_nil)) rfl ?_)
  intro wd71 hc72 hB73
  have h74 := h65.step (Stepp.chg_mem hc72 mem0)
  have h75 := h66.step (Stepp.chg_mem hc72 mem0)
  have h76 := (hB39.ext e68).chg hc72 (avoidb hn63)
  have h77 := h67.step (Stepp.chg_mem hc72 mem0)
  have e78 := chg_box e69 hc72 hbf64
  refine T0_q (v := (.int .i64 r50.2)) rfl (yl_assign rfl) ?_
  refine T0_nil ?_
  refine hK43 _ _ ?_
  refine WC_seqK fun K79 hK79 => ?_
  refine WC_region ?_
  refine T0_q (v := (.int .i64 r19.2)) rfl (yl_move rfl) ?_
  refine T0_q (v := (.bool (decide (r19.2 = 0)))) rfl (yl_eql rfl rfl) ?_
  refine T0_q (v := (.bool (decide (r19.2 = 0)))) rfl (yl_move rfl) ?_
  refine T0_g (v := (.agg (List.toArray [(.int .i64 r19.1.Lo), (.int .i64 r19.1.Hi)]))) (decide (r19.2 = 0)) (wanted_t rfl rfl rfl rfl) (fun hg => (yl_loadA (cs := [(.int .i64 r19.1.Lo), (.int .i64 r19.1.Hi)]) ag35 rfl (Box.at h76))) ?_
  refine T0_g (v := (.agg (List.toArray [(.int .i64 1100), (.int .i64 1199)]))) (decide (r19.2 = 0)) (wanted_t rfl rfl rfl rfl) (fun hg => (yl_buildC (cells := [(.int .i64 1100), (.int .i64 1199)]) bi35 (pc_cons rfl rfl (pc_cons rfl rfl pc_nil)) rfl)) ?_
  refine T0_g (v := (.bool (decide ((Range.mk r19.1.Lo r19.1.Hi) = (Range.mk 1100 1199))))) (decide (r19.2 = 0)) (wanted_t rfl rfl rfl rfl) (fun hg => (yl_eqlS eg35 (gd_true hg) (gd_true hg) (eqs35 (Range.mk r19.1.Lo r19.1.Hi) (Range.mk 1100 1199) _))) ?_
  refine T0_q (v := (.bool ((decide (r19.2 = 0)) && (decide ((Range.mk r19.1.Lo r19.1.Hi) = (Range.mk 1100 1199)))))) rfl (yl_and rfl (fun hb => (gd_true hb)) rfl) ?_
  refine T0_q (v := (.bool ((decide (r19.2 = 0)) && (decide ((Range.mk r19.1.Lo r19.1.Hi) = (Range.mk 1100 1199)))))) rfl (yl_move rfl) ?_
  refine T0_g (v := (.int .i64 r50.2)) ((decide (r19.2 = 0)) && (decide ((Range.mk r19.1.Lo r19.1.Hi) = (Range.mk 1100 1199)))) (wanted_t rfl rfl rfl rfl) (fun hg => (yl_move rfl)) ?_
  refine T0_g (v := (.bool (decide (r50.2 = 0)))) ((decide (r19.2 = 0)) && (decide ((Range.mk r19.1.Lo r19.1.Hi) = (Range.mk 1100 1199)))) (wanted_t rfl rfl rfl rfl) (fun hg => (yl_eql (gd_true hg) rfl)) ?_
  refine T0_q (v := (.bool (((decide (r19.2 = 0)) && (decide ((Range.mk r19.1.Lo r19.1.Hi) = (Range.mk 1100 1199)))) && (decide (r50.2 = 0))))) rfl (yl_and rfl (fun hb => (gd_true hb)) rfl) ?_
  refine T0_q (v := (.bool (((decide (r19.2 = 0)) && (decide ((Range.mk r19.1.Lo r19.1.Hi) = (Range.mk 1100 1199)))) && (decide (r50.2 = 0))))) rfl (yl_move rfl) ?_
  refine T0_g (v := (.agg (List.toArray [(.int .i64 r50.1.Modulus), (.int .i64 r50.1.Rest)]))) (((decide (r19.2 = 0)) && (decide ((Range.mk r19.1.Lo r19.1.Hi) = (Range.mk 1100 1199)))) && (decide (r50.2 = 0))) (wanted_t rfl rfl rfl rfl) (fun hg => (yl_loadA (cs := [(.int .i64 r50.1.Modulus), (.int .i64 r50.1.Rest)]) ag61 rfl (Box.at hB73))) ?_
  refine T0_g (v := (.agg (List.toArray [(.int .i64 12), (.int .i64 10)]))) (((decide (r19.2 = 0)) && (decide ((Range.mk r19.1.Lo r19.1.Hi) = (Range.mk 1100 1199)))) && (decide (r50.2 = 0))) (wanted_t rfl rfl rfl rfl) (fun hg => (yl_buildC (cells := [(.int .i64 12), (.int .i64 10)]) bi61 (pc_cons rfl rfl (pc_cons rfl rfl pc_nil)) rfl)) ?_
  refine T0_g (v := (.bool (decide ((LocateRest.mk r50.1.Modulus r50.1.Rest) = (LocateRest.mk 12 10))))) (((decide (r19.2 = 0)) && (decide ((Range.mk r19.1.Lo r19.1.Hi) = (Range.mk 1100 1199)))) && (decide (r50.2 = 0))) (wanted_t rfl rfl rfl rfl) (fun hg => (yl_eqlS eg61 (gd_true hg) (gd_true hg) (eqs61 (LocateRest.mk r50.1.Modulus r50.1.Rest) (LocateRest.mk 12 10) _))) ?_
  refine T0_q (v := (.bool ((((decide (r19.2 = 0)) && (decide ((Range.mk r19.1.Lo r19.1.Hi) = (Range.mk 1100 1199)))) && (decide (r50.2 = 0))) && (decide ((LocateRest.mk r50.1.Modulus r50.1.Rest) = (LocateRest.mk 12 10)))))) rfl (yl_and rfl (fun hb => (gd_true hb)) rfl) ?_
  refine T0_q (v := (.bool ((((decide (r19.2 = 0)) && (decide ((Range.mk r19.1.Lo r19.1.Hi) = (Range.mk 1100 1199)))) && (decide (r50.2 = 0))) && (decide ((LocateRest.mk r50.1.Modulus r50.1.Rest) = (LocateRest.mk 12 10)))))) rfl (yl_assign rfl) ?_
  refine T0_nil ?_
  refine hK79 _ _ ?_
  refine WC_ret ?_
  replace h := some_out h
  subst h
  exact ⟨[(.bool ((((decide (r19.2 = 0)) && (decide ((Range.mk r19.1.Lo r19.1.Hi) = (Range.mk 1100 1199)))) && (decide (r50.2 = 0))) && (decide ((LocateRest.mk r50.1.Modulus r50.1.Rest) = (LocateRest.mk 12 10)))))], ⟨rfl, trivial⟩, e78, rfl⟩

noncomputable def guidewaytop_TopLocateHolds_s0 (p_Listappend : LocateTrack) (p_String : guidewaytop_LocateRun) : ((List LocateFix) × (List Range) × Int × Int × Int × Int × Int) → Option (((List LocateFix) × (List Range) × Int × Int × Int × Int × Int) ⊕ (Bool ⊕ ((List LocateFix) × (List Range) × Int × Int × Int))) := fun (x4608, x4615, x4621, x4623, x4625, x4634, x4635) =>
  (bif (decide (x4625 < (p_String.Teeth.length : Int))) then (
    (Option.bind (idx p_String.Teeth x4625) fun el4716 =>
    (Option.bind (ref04_ToothErr_spec p_Listappend el4716) fun r4722 =>
    (bif (!decide (r4722 = 0)) then (
      some (.inr (.inl true))
    ) else (
      (Option.bind (α := (Int × Int × Int)) (
        (Option.bind (idx p_String.Teeth x4625) fun el4937 =>
        (Option.bind (ref04_Copy_spec p_Listappend) fun r4943 =>
        (Option.bind (locate_PlacesOf_spec r4943 el4937) fun r4954 =>
        some (r4954.2, r4954.1.Lo, r4954.1.Hi)
        )
        )
        )
      ) fun ((x4908, x4919, x4920) : Int × Int × Int) =>
      (Option.bind (bif (!(!decide (x4908 = 0))) then ref04_RangeErr_spec (Range.mk x4919 x4920) else some default) fun r5096 =>
      (bif ((!decide (x4908 = 0)) || (!decide (r5096 = 0))) then (
        some (.inr (.inl false))
      ) else (
        (Option.bind (ref04_Copy_spec p_Listappend) fun r5106 =>
        (Option.bind (locate_ToothAt_spec r5106 x4919) fun r5117 =>
        (Option.bind ((bif (!(!decide (r5117.2 = 0))) then idx p_String.Teeth x4625 else some default)) fun el5124 =>
        (bif ((!decide (r5117.2 = 0)) || (!decide (r5117.1 = el5124))) then (
          some (.inr (.inl false))
        ) else (
          (Option.bind (guidewaytop_locateRead_spec p_Listappend p_String x4625) fun r5132 =>
          (bif (!r5132.2) then (
            some (.inr (.inl true))
          ) else (
            (Option.bind (α := (Int × Int × Int)) (
              (Option.bind (ref04_Copy_spec p_Listappend) fun r5409 =>
              (Option.bind (locate_PlaceOf_spec r5409 (LocateReading.mk r5132.1.Seen r5132.1.Count)) fun r5420 =>
              some (r5420.2, r5420.1.Lo, r5420.1.Hi)
              )
              )
            ) fun ((x5381, x5392, x5393) : Int × Int × Int) =>
            (bif ((!decide (x5381 = 0)) && (!decide (x5381 = 29))) then (
              some (.inr (.inl false))
            ) else (
              (bif (decide (x5381 = 0)) then (
                (Option.bind (base_Within_spec x4919 x5392 x5393) fun r5592 =>
                (bif (!r5592) then (
                  some (.inr (.inl false))
                ) else (
                  (Option.bind (α := (Int × Int)) (
                    (bif (decide (0 < (x4608.length : Int))) then (
                      (Option.bind (base_Floor_spec (w64 (1000 * (w64 (x4919 - x4621)))) (w64 ((w64 (x4625 - x4623)) * p_String.Time))) fun r5697 =>
                      (Option.bind (base_Ceil_spec (w64 (1000 * (w64 (x4919 - x4621)))) (w64 ((w64 (x4625 - x4623)) * p_String.Time))) fun r5703 =>
                      some ((if r5697 < x4634 then r5697 else x4634), (if x4635 < r5703 then r5703 else x4635))
                      )
                      )
                    ) else (
                      some (x4634, x4635)
                    ))
                  ) fun ((x5675, x5676) : Int × Int) =>
                  (Option.bind (app x4608 ([(LocateFix.mk (w64 (x4625 * p_String.Time)) (Range.mk x5392 x5393))] : List LocateFix)) fun zs5741 =>
                  (Option.bind (app x4615 ([(Range.mk x5392 x5393)] : List Range)) fun zs5779 =>
                  some (.inl (zs5741, zs5779, x4919, x4625, w64 (x4625 + 1), x5675, x5676))
                  )
                  )
                  )
                ))
                )
              ) else (
                some (.inl (x4608, x4615, x4621, x4623, w64 (x4625 + 1), x4634, x4635))
              ))
            ))
            )
          ))
          )
        ))
        )
        )
        )
      ))
      )
      )
    ))
    )
    )
  ) else (
    some (.inr (.inr (x4608, x4615, x4621, x4634, x4635)))
  ))
noncomputable def guidewaytop_TopLocateHolds_s1 (x4669 : (List Range)) (x4675 : Int) : (Int × Int) → Option ((Int × Int) ⊕ (Int)) := fun (x6216, x6218) =>
  (bif (decide (x6218 < (x4669.length : Int))) then (
    (Option.bind (idx x4669 x6218) fun el6244 =>
    (Option.bind (idx x4669 x6218) fun el6250 =>
    (Option.bind (base_Within_spec x4675 el6244.Lo el6250.Hi) fun r6256 =>
    (bif (!r6256) then (
      some (.inl (w64 (x6216 + 1), w64 (x6218 + 1)))
    ) else (
      some (.inl (x6216, w64 (x6218 + 1)))
    ))
    )
    )
    )
  ) else (
    some (.inr x6216)
  ))
noncomputable def guidewaytop_TopLocateHolds_s2 (r6274 : ((List Range) × Int)) (x4675 : Int) : (Bool × Int) → Option ((Bool × Int) ⊕ (Bool)) := fun (x6389, x6391) =>
  (bif (decide (x6391 < (r6274.1.length : Int))) then (
    (Option.bind ((bif (!x6389) then idx r6274.1 x6391 else some default)) fun el6413 =>
    (Option.bind ((bif (!x6389) then idx r6274.1 x6391 else some default)) fun el6418 =>
    (Option.bind (bif (!x6389) then base_Within_spec x4675 el6413.Lo el6418.Hi else some default) fun r6423 =>
    some (.inl ((x6389 || r6423), w64 (x6391 + 1)))
    )
    )
    )
  ) else (
    some (.inr x6389)
  ))
noncomputable def guidewaytop_TopLocateHolds_spec (p_Listappend : LocateTrack) (p_String : guidewaytop_LocateRun) : Option Bool :=
  (Option.bind (guidewaytop_locateAwake_spec) fun r31 =>
  (bif (!r31) then (
    some false
  ) else (
    (Option.bind (law04_Short_spec p_Listappend) fun r42 =>
    (Option.bind (bif (!(!r42)) then ref04_TrackErr_spec p_Listappend else some default) fun r50 =>
    (Option.bind (bif (!((((!r42) || (!decide (r50 = 0))) || (decide (8 < (p_String.Teeth.length : Int)))) || (decide (8 < (p_String.Spoilt.length : Int))))) then base_Within_spec p_String.Time 1 100000 else some default) fun r58 =>
    (bif (((((!r42) || (!decide (r50 = 0))) || (decide (8 < (p_String.Teeth.length : Int)))) || (decide (8 < (p_String.Spoilt.length : Int)))) || (!r58)) then (
      some true
    ) else (
      (Option.bind (loop (guidewaytop_TopLocateHolds_s0 p_Listappend p_String) (([] : List LocateFix), ([] : List Range), 0, 0, 0, 0, 0)) fun o4684 => jn0 o4684 fun ((x4662, x4669, x4675, x4677, x4678) : (List LocateFix) × (List Range) × Int × Int × Int) =>
      (Option.bind (bif (!(decide ((x4662.length : Int) = 0))) then ref04_SpeedErr_spec (Range.mk x4677 x4678) else some default) fun r5807 =>
      (bif ((decide ((x4662.length : Int) = 0)) || (!decide (r5807 = 0))) then (
        some true
      ) else (
        (Option.bind (α := (Int × Int × Int × Int)) (
          (Option.bind (ref04_CopyFixes_spec x4662) fun r5970 =>
          (Option.bind (locate_Follow_spec (Range.mk x4677 x4678) r5970) fun r5979 =>
          some (r5979.2.1, r5979.2.2, r5979.1.Lo, r5979.1.Hi)
          )
          )
        ) fun ((x5949, x5951, x5953, x5954) : Int × Int × Int × Int) =>
        (Option.bind (bif (!((!decide (x5951 = 0)) || (!decide (x5949 = 0)))) then base_Within_spec x4675 x5953 x5954 else some default) fun r6091 =>
        (bif (((!decide (x5951 = 0)) || (!decide (x5949 = 0))) || (!r6091)) then (
          some false
        ) else (
          (Option.bind (loop (guidewaytop_TopLocateHolds_s1 x4669 x4675) (0, 0)) fun (x6226 : Int) =>
          (Option.bind (base_CopyRanges_spec x4669) fun r6266 =>
          (Option.bind (locate_Fused_spec r6266 x6226) fun r6274 =>
          (Option.bind (loop (guidewaytop_TopLocateHolds_s2 r6274 x4675) (false, 0)) fun (x6396 : Bool) =>
          some ((decide (r6274.2 = 0)) && x6396)
          )
          )
          )
          )
        ))
        )
        )
      ))
      )
      )
    ))
    )
    )
    )
  ))
  )
theorem guidewaytop_TopLocateHolds_ok (L : List Value) (w : World) (hL : LtL L w) (cs_p_Listappend : List Value) (p_Listappend : LocateTrack) (h_p_Listappend : Rep.rd L w cs_p_Listappend p_Listappend) (cs_p_String : List Value) (p_String : guidewaytop_LocateRun) (h_p_String : Rep.rd L w cs_p_String p_String) (r : Bool) (h : guidewaytop_TopLocateHolds_spec p_Listappend p_String = some r) :
    CallsTo Try.prog 3 [(.agg cs_p_Listappend.toArray), (.agg cs_p_String.toArray)] w (fun v w' => Ext w w' ∧ (.bool r) = v) := by
  have e0 : Ext w w := Chg.refl _ _
  obtain ⟨v1, h2, rfl⟩ := h_p_Listappend
  obtain ⟨v4, v6, h5, h7, rfl⟩ := h_p_String
  refine callsTo_of_WC (n := 272) (rs := [.tmp 4]) Try.func3 rfl rfl rfl rfl rfl ?_
  refine WC_seqK fun K10 hK10 => ?_
  refine WC_region ?_
  refine T0_e rfl (eff_boxC (cs := [v1, (.int .i64 p_Listappend.Window), (.int .i64 p_Listappend.Tooth), (.int .i64 p_Listappend.PerVane), (.int .i64 p_Listappend.First), (.int .i64 p_Listappend.Modulus), (.int .i64 p_Listappend.Slack), (.int .i64 p_Listappend.Errors), (.bool p_Listappend.Round)]) rfl rfl ?_)
  intro b11 wd12 hb13 he14 hB15
  have hbf16 := bfresh e0 hb13
  have e17 := e0.trans he14
  refine T0_e rfl (eff_boxC (cs := [v4, (.int .i64 p_String.Time), v6]) rfl rfl ?_)
  intro b19 wd20 hb21 he22 hB23
  have hn24 : b19 ≠ b11 := box_ne hB15 hb21
  have hbf25 := bfresh e17 hb21
  have e26 := he14.trans he22
  have e27 := e17.trans he22
  refine T0_q (v := (.bool false)) rfl (yl_assign rfl) ?_
  refine T0_nil ?_
  refine hK10 _ _ ?_
  refine WC_seqK fun K29 hK29 => ?_
  refine WC_seqK fun K30 hK30 => ?_
  refine WC_region ?_
  obtain ⟨r31, hr32, h⟩ := bind_elim h
  refine T0_e rfl (eff_call Try.func4 nm4 rfl ev0 (guidewaytop_locateAwake_ok [] _ (LtL.nil _)  r31 hr32) ?_)
  rintro _ wd33 ⟨he34, rfl⟩
  have e35 := e26.trans he34
  have e36 := he22.trans he34
  have e37 := e27.trans he34
  refine T0_q (v := (.bool (!r31))) rfl (yl_not rfl) ?_
  refine T0_nil ?_
  refine hK30 _ _ ?_
  refine WC_cond (b := (!r31)) rfl (fun hb38 => ?_) (fun hb38 => ?_)
  · replace h := cond_t hb38 h
    refine WC_seqK fun K39 hK39 => ?_
    refine WC_region ?_
    refine T0_q (v := (.bool false)) rfl (yl_assign rfl) ?_
    refine T0_nil ?_
    refine hK39 _ _ ?_
    refine WC_ret ?_
    replace h := some_out h
    subst h
    exact ⟨[(.bool false)], ⟨rfl, trivial⟩, e37, rfl⟩
  · replace h := cond_f hb38 h
    refine WC_skip ?_
    refine hK29 _ _ ?_
    refine WC_seqK fun K40 hK40 => ?_
    refine WC_seqK fun K41 hK41 => ?_
    refine WC_region ?_
    refine T0_q (v := (.agg (List.toArray [v1, (.int .i64 p_Listappend.Window), (.int .i64 p_Listappend.Tooth), (.int .i64 p_Listappend.PerVane), (.int .i64 p_Listappend.First), (.int .i64 p_Listappend.Modulus), (.int .i64 p_Listappend.Slack), (.int .i64 p_Listappend.Errors), (.bool p_Listappend.Round)]))) rfl (yl_loadA (cs := [v1, (.int .i64 p_Listappend.Window), (.int .i64 p_Listappend.Tooth), (.int .i64 p_Listappend.PerVane), (.int .i64 p_Listappend.First), (.int .i64 p_Listappend.Modulus), (.int .i64 p_Listappend.Slack), (.int .i64 p_Listappend.Errors), (.bool p_Listappend.Round)]) ag24 rfl (Box.at (hB15.ext e36))) ?_
    obtain ⟨r42, hr43, h⟩ := bind_elim h
    refine T0_e rfl (eff_call Try.func5 nm5 rfl (ev1 rfl) (law04_Short_ok [] _ (LtL.nil _) [v1, (.int .i64 p_Listappend.Window), (.int .i64 p_Listappend.Tooth), (.int .i64 p_Listappend.PerVane), (.int .i64 p_Listappend.First), (.int .i64 p_Listappend.Modulus), (.int .i64 p_Listappend.Slack), (.int .i64 p_Listappend.Errors), (.bool p_Listappend.Round)] p_Listappend ⟨v1, ((h2.ext e35).sub (fun _ h => by cases h)), rfl⟩ r42 hr43) ?_)
    rintro _ wd44 ⟨he45, rfl⟩
    have e46 := e35.trans he45
    have e47 := e36.trans he45
    have e48 := he34.trans he45
    have e49 := e37.trans he45
    refine T0_q (v := (.bool (!r42))) rfl (yl_not rfl) ?_
    refine T0_q (v := (.bool (!r42))) rfl (yl_move rfl) ?_
    refine T0_g (v := (.agg (List.toArray [v1, (.int .i64 p_Listappend.Window), (.int .i64 p_Listappend.Tooth), (.int .i64 p_Listappend.PerVane), (.int .i64 p_Listappend.First), (.int .i64 p_Listappend.Modulus), (.int .i64 p_Listappend.Slack), (.int .i64 p_Listappend.Errors), (.bool p_Listappend.Round)]))) (!(!r42)) (wanted_f rfl rfl rfl rfl) (fun hg => (yl_loadA (cs := [v1, (.int .i64 p_Listappend.Window), (.int .i64 p_Listappend.Tooth), (.int .i64 p_Listappend.PerVane), (.int .i64 p_Listappend.First), (.int .i64 p_Listappend.Modulus), (.int .i64 p_Listappend.Slack), (.int .i64 p_Listappend.Errors), (.bool p_Listappend.Round)]) ag24 rfl (Box.at (hB15.ext e47)))) ?_
    obtain ⟨r50, hr51, h⟩ := bind_elim h
    refine T0_ges (!(!r42)) (.int .i64 r50) (wanted_f rfl rfl rfl rfl) (fun hg => eff_call Try.func6 nm6 rfl (ev1 (gd_true hg)) (ref04_TrackErr_ok [] _ (LtL.nil _) [v1, (.int .i64 p_Listappend.Window), (.int .i64 p_Listappend.Tooth), (.int .i64 p_Listappend.PerVane), (.int .i64 p_Listappend.First), (.int .i64 p_Listappend.Modulus), (.int .i64 p_Listappend.Slack), (.int .i64 p_Listappend.Errors), (.bool p_Listappend.Round)] p_Listappend ⟨v1, ((h2.ext e46).sub (fun _ h => by cases h)), rfl⟩ r50 (cond_t hg hr51)) (by rintro _ wd52 ⟨he53, rfl⟩; exact ⟨rfl, he53⟩)) ?_
    intro wd52 he53
    have e54 := e46.trans he53
    have e55 := e47.trans he53
    have e56 := e48.trans he53
    have e57 := e49.trans he53
    refine T0_g (v := (.bool (!decide (r50 = 0)))) (!(!r42)) (wanted_f rfl rfl rfl rfl) (fun hg => (yl_neq (gd_true hg) rfl)) ?_
    refine T0_q (v := (.bool ((!r42) || (!decide (r50 = 0))))) rfl (yl_or rfl rfl (fun hb => (gd_true (not_t hb)))) ?_
    refine T0_q (v := (.bool ((!r42) || (!decide (r50 = 0))))) rfl (yl_move rfl) ?_
    refine T0_g (v := (.pointer (some ⟨b19, 0, none⟩))) (!((!r42) || (!decide (r50 = 0)))) (wanted_f rfl rfl rfl rfl) (fun hg => (yl_fa 0 Try.underlying27 rfl rfl ⟨0, sz22⟩ rfl rfl)) ?_
    refine T0_g (v := v4) (!((!r42) || (!decide (r50 = 0)))) (wanted_f rfl rfl rfl rfl) (fun hg => (yl_load sc22 (gd_true hg) (Box.at (hB23.ext e56)))) ?_
    refine T0_g (v := (.int .i64 (p_String.Teeth.length : Int))) (!((!r42) || (!decide (r50 = 0)))) (wanted_f rfl rfl rfl rfl) (fun hg => (yl_lenR rfl Try.underlying22 h5 (gd_true hg))) ?_
    refine T0_g (v := (.bool (decide (8 < (p_String.Teeth.length : Int))))) (!((!r42) || (!decide (r50 = 0)))) (wanted_f rfl rfl rfl rfl) (fun hg => (yl_gtr (gd_true hg) rfl)) ?_
    refine T0_q (v := (.bool (((!r42) || (!decide (r50 = 0))) || (decide (8 < (p_String.Teeth.length : Int)))))) rfl (yl_or rfl rfl (fun hb => (gd_true (not_t hb)))) ?_
    refine T0_q (v := (.bool (((!r42) || (!decide (r50 = 0))) || (decide (8 < (p_String.Teeth.length : Int)))))) rfl (yl_move rfl) ?_
    refine T0_g (v := (.pointer (some ⟨b19, 2, none⟩))) (!(((!r42) || (!decide (r50 = 0))) || (decide (8 < (p_String.Teeth.length : Int))))) (wanted_f rfl rfl rfl rfl) (fun hg => (yl_fa 2 Try.underlying27 rfl rfl ⟨0, sz25⟩ rfl rfl)) ?_
    refine T0_g (v := v6) (!(((!r42) || (!decide (r50 = 0))) || (decide (8 < (p_String.Teeth.length : Int))))) (wanted_f rfl rfl rfl rfl) (fun hg => (yl_load sc25 (gd_true hg) (At.drop (Box.at (hB23.ext e56)) 2))) ?_
    refine T0_g (v := (.int .i64 (p_String.Spoilt.length : Int))) (!(((!r42) || (!decide (r50 = 0))) || (decide (8 < (p_String.Teeth.length : Int))))) (wanted_f rfl rfl rfl rfl) (fun hg => (yl_lenR rfl Try.underlying25 h7 (gd_true hg))) ?_
    refine T0_g (v := (.bool (decide (8 < (p_String.Spoilt.length : Int))))) (!(((!r42) || (!decide (r50 = 0))) || (decide (8 < (p_String.Teeth.length : Int))))) (wanted_f rfl rfl rfl rfl) (fun hg => (yl_gtr (gd_true hg) rfl)) ?_
    refine T0_q (v := (.bool ((((!r42) || (!decide (r50 = 0))) || (decide (8 < (p_String.Teeth.length : Int)))) || (decide (8 < (p_String.Spoilt.length : Int)))))) rfl (yl_or rfl rfl (fun hb => (gd_true (not_t hb)))) ?_
    refine T0_q (v := (.bool ((((!r42) || (!decide (r50 = 0))) || (decide (8 < (p_String.Teeth.length : Int)))) || (decide (8 < (p_String.Spoilt.length : Int)))))) rfl (yl_move rfl) ?_
    refine T0_g (v := (.pointer (some ⟨b19, 1, none⟩))) (!((((!r42) || (!decide (r50 = 0))) || (decide (8 < (p_String.Teeth.length : Int)))) || (decide (8 < (p_String.Spoilt.length : Int))))) (wanted_f rfl rfl rfl rfl) (fun hg => (yl_fa 1 Try.underlying27 rfl rfl ⟨0, sz3⟩ rfl rfl)) ?_
    refine T0_g (v := (.int .i64 p_String.Time)) (!((((!r42) || (!decide (r50 = 0))) || (decide (8 < (p_String.Teeth.length : Int)))) || (decide (8 < (p_String.Spoilt.length : Int))))) (wanted_f rfl rfl rfl rfl) (fun hg => (yl_load sc3 (gd_true hg) (At.drop (Box.at (hB23.ext e56)) 1))) ?_
    obtain ⟨r58, hr59, h⟩ := bind_elim h
    refine T0_ges (!((((!r42) || (!decide (r50 = 0))) || (decide (8 < (p_String.Teeth.length : Int)))) || (decide (8 < (p_String.Spoilt.length : Int))))) (.bool r58) (wanted_f rfl rfl rfl rfl) (fun hg => eff_call Try.func7 nm7 rfl (ev3 (gd_true hg) rfl rfl) (base_Within_ok [] _ (LtL.nil _) p_String.Time 1 100000 r58 (cond_t hg hr59)) (by rintro _ wd60 ⟨he61, rfl⟩; exact ⟨rfl, he61⟩)) ?_
    intro wd60 he61
    have e62 := e54.trans he61
    have e63 := e55.trans he61
    have e64 := e56.trans he61
    have e65 := e57.trans he61
    refine T0_g (v := (.bool (!r58))) (!((((!r42) || (!decide (r50 = 0))) || (decide (8 < (p_String.Teeth.length : Int)))) || (decide (8 < (p_String.Spoilt.length : Int))))) (wanted_f rfl rfl rfl rfl) (fun hg => (yl_not (gd_true hg))) ?_
    refine T0_q (v := (.bool (((((!r42) || (!decide (r50 = 0))) || (decide (8 < (p_String.Teeth.length : Int)))) || (decide (8 < (p_String.Spoilt.length : Int)))) || (!r58)))) rfl (yl_or rfl rfl (fun hb => (gd_true (not_t hb)))) ?_
    refine T0_nil ?_
    refine hK41 _ _ ?_
    refine WC_cond (b := (((((!r42) || (!decide (r50 = 0))) || (decide (8 < (p_String.Teeth.length : Int)))) || (decide (8 < (p_String.Spoilt.length : Int)))) || (!r58))) rfl (fun hb66 => ?_) (fun hb66 => ?_)
    · replace h := cond_t hb66 h
      refine WC_seqK fun K67 hK67 => ?_
      refine WC_region ?_
      refine T0_q (v := (.bool true)) rfl (yl_assign rfl) ?_
      refine T0_nil ?_
      refine hK67 _ _ ?_
      refine WC_ret ?_
      replace h := some_out h
      subst h
      exact ⟨[(.bool true)], ⟨rfl, trivial⟩, e65, rfl⟩
    · replace h := cond_f hb66 h
      refine WC_skip ?_
      refine hK40 _ _ ?_
      refine WC_seqK fun K68 hK68 => ?_
      refine WC_region ?_
      refine T0_q (v := (.slice none 0 0)) rfl (yl_assign rfl) ?_
      refine T0_nil ?_
      refine hK68 _ _ ?_
      refine WC_seqK fun K69 hK69 => ?_
      refine WC_region ?_
      refine T0_q (v := (.slice none 0 0)) rfl (yl_assign rfl) ?_
      refine T0_nil ?_
      refine hK69 _ _ ?_
      refine WC_seqK fun K70 hK70 => ?_
      refine WC_region ?_
      refine T0_q (v := (.agg (List.toArray [(.int .i64 0), (.int .i64 0)]))) rfl (yl_buildC (cells := [(.int .i64 0), (.int .i64 0)]) bi35 pc_nil rfl) ?_
      refine T0_e rfl (eff_allocZ zi35 ?_)
      intro b71 wd72 hb73 he74 hB75
      have hn76 : b71 ≠ b11 := box_ne (hB15.ext e63) hb73
      have hn77 : b71 ≠ b19 := box_ne (hB23.ext e64) hb73
      have hbf78 := bfresh e65 hb73
      have h79 := (h2.ext e62).step (add_box he74 hb73)
      have h80 := (h5.ext e62).step (add_box he74 hb73)
      have h81 := (h7.ext e62).step (add_box he74 hb73)
      have e82 := e63.trans he74
      have e83 := e64.trans he74
      have e84 := e65.trans he74
      refine T0_e rfl (eff_storeC (vs := [(.int .i64 0), (.int .i64 0)]) (cs' := [(.int .i64 0), (.int .i64 0)]) sz35 rfl rfl rfl rfl hB75 rfl (oc_cons rfl (oc_cons rfl oc_nil)) rfl ?_)
      intro wd86 hc87 hB88
      have h89 := h79.step (Stepp.chg_mem hc87 mem0)
      have h90 := h80.step (Stepp.chg_mem hc87 mem0)
      have h91 := h81.step (Stepp.chg_mem hc87 mem0)
      have h92 := (hB15.ext e82).chg hc87 (avoidb hn76)
      have h93 := (hB23.ext e83).chg hc87 (avoidb hn77)
      have e94 := chg_box e84 hc87 hbf78
      refine T0_nil ?_
      refine hK70 _ _ ?_
      refine WC_seqK fun K95 hK95 => ?_
      refine WC_region ?_
      refine T0_q (v := (.int .i64 0)) rfl (yl_assign rfl) ?_
      refine T0_q (v := (.int .i64 0)) rfl (yl_assign rfl) ?_
      refine T0_nil ?_
      refine hK95 _ _ ?_
      refine WC_seqK fun K96 hK96 => ?_
      refine WC_seqK fun K97 hK97 => ?_
      refine WC_region ?_
      refine T0_q (v := (.int .i64 0)) rfl (yl_assign rfl) ?_
      refine T0_nil ?_
      refine hK97 _ _ ?_
      have h4645 := h89.step (add_nil _)
      have h4646 := h90.step (add_nil _)
      have h4647 := h91.step (add_nil _)
      have h4649 : Own 51 ((.slice none 0 0) :: (.pointer (some ⟨b71, 0, none⟩)) :: L) wd86 (.slice none 0 0) ([] : List LocateFix) := Own.nil _ _ _
      have h4651 := h4645.step (add_nil _)
      have h4652 := h4646.step (add_nil _)
      have h4653 := h4647.step (add_nil _)
      have h4654 := h4649.step (add_nil _) (Chg.refl [] _) (fun _ _ => Avoids.nil _)
      have h4656 : Own 35 ((.slice none 0 0) :: (.slice none 0 0) :: (.pointer (some ⟨b71, 0, none⟩)) :: L) wd86 (.slice none 0 0) ([] : List Range) := Own.nil _ _ _
      obtain ⟨o4684, hl4685, hn4686⟩ := bind_elim h
      refine WC_post (fun (ρ : Env) (wd4658 : World) => ∃ (x4662 : (List LocateFix)) (x4669 : (List Range)) (x4675 : Int) (x4677 : Int) (x4678 : Int) (v4661 : Value) (v4668 : Value), .inr (x4662, x4669, x4675, x4677, x4678) = o4684 ∧ ρ 5 = v4661 ∧ ρ 6 = v4668 ∧ ρ 7 = (.pointer (some ⟨b71, 0, none⟩)) ∧ ρ 8 = (.int .i64 x4675) ∧ Box wd4658 b71 [(.int .i64 x4677), (.int .i64 x4678)] 35 ∧ Own 51 (v4661 :: v4668 :: (.pointer (some ⟨b71, 0, none⟩)) :: L) wd4658 v4661 x4662 ∧ Own 35 (v4661 :: v4668 :: (.pointer (some ⟨b71, 0, none⟩)) :: L) wd4658 v4668 x4669 ∧ (∀ b, blk v4661 = some b → w.heap.size ≤ b) ∧ (blk v4661 ≠ some b71) ∧ (∀ b, blk v4668 = some b → w.heap.size ≤ b) ∧ (blk v4668 ≠ some b71) ∧ (∀ b, blk v4661 = some b → blk v4668 ≠ some b) ∧ Ext w wd4658) ?_ ?_
      · intro K4690 hK4690
        refine WC_block ?_
        refine WC_loopk (fun sv ρ wd4602 => ∃ (x4608 : (List LocateFix)) (x4615 : (List Range)) (x4621 : Int) (x4623 : Int) (x4625 : Int) (x4634 : Int) (x4635 : Int) (v4607 : Value) (v4614 : Value), (x4608, x4615, x4621, x4623, x4625, x4634, x4635) = sv ∧ ρ 2 = (.pointer (some ⟨b11, 0, none⟩)) ∧ ρ 3 = (.pointer (some ⟨b19, 0, none⟩)) ∧ ρ 5 = v4607 ∧ ρ 6 = v4614 ∧ ρ 7 = (.pointer (some ⟨b71, 0, none⟩)) ∧ ρ 8 = (.int .i64 x4621) ∧ ρ 9 = (.int .i64 x4623) ∧ ρ 10 = (.int .i64 x4625) ∧ SlRd (v4607 :: v4614 :: (.pointer (some ⟨b71, 0, none⟩)) :: L) wd4602 v1 p_Listappend.Vanes ∧ SlRd (v4607 :: v4614 :: (.pointer (some ⟨b71, 0, none⟩)) :: L) wd4602 v4 p_String.Teeth ∧ SlRd (v4607 :: v4614 :: (.pointer (some ⟨b71, 0, none⟩)) :: L) wd4602 v6 p_String.Spoilt ∧ Box wd4602 b11 [v1, (.int .i64 p_Listappend.Window), (.int .i64 p_Listappend.Tooth), (.int .i64 p_Listappend.PerVane), (.int .i64 p_Listappend.First), (.int .i64 p_Listappend.Modulus), (.int .i64 p_Listappend.Slack), (.int .i64 p_Listappend.Errors), (.bool p_Listappend.Round)] 24 ∧ Box wd4602 b19 [v4, (.int .i64 p_String.Time), v6] 27 ∧ Box wd4602 b71 [(.int .i64 x4634), (.int .i64 x4635)] 35 ∧ Own 51 (v4607 :: v4614 :: (.pointer (some ⟨b71, 0, none⟩)) :: L) wd4602 v4607 x4608 ∧ Own 35 (v4607 :: v4614 :: (.pointer (some ⟨b71, 0, none⟩)) :: L) wd4602 v4614 x4615 ∧ (∀ b, blk v4607 = some b → w.heap.size ≤ b) ∧ (blk v4607 ≠ some b11) ∧ (blk v4607 ≠ some b19) ∧ (blk v4607 ≠ some b71) ∧ (∀ b, blk v4614 = some b → w.heap.size ≤ b) ∧ (blk v4614 ≠ some b11) ∧ (blk v4614 ≠ some b19) ∧ (blk v4614 ≠ some b71) ∧ (∀ b, blk v4607 = some b → blk v4614 ≠ some b) ∧ Ext w wd4602) hl4685 ⟨([] : List LocateFix), ([] : List Range), 0, 0, 0, 0, 0, (.slice none 0 0), (.slice none 0 0), rfl, rfl, rfl, rfl, rfl, rfl, rfl, rfl, rfl, h4651, h4652, h4653, h92, h93, hB88, h4654, h4656, (fun b h => blk_nil b h), (fun h => by cases h), (fun h => by cases h), (fun h => by cases h), (fun b h => blk_nil b h), (fun h => by cases h), (fun h => by cases h), (fun h => by cases h), (fun _ _ h => by cases h), e94⟩ ?_
        rintro _ ρ wd4602 ⟨x4608, x4615, x4621, x4623, x4625, x4634, x4635, v4607, v4614, rfl, hs4604, hs4605, hs4612, hs4619, hs4620, hs4622, hs4624, hs4626, h4627, h4630, h4631, hB4629, hB4633, hB4637, h4610, h4617, hf4611, hn4638, hn4639, hn4640, hf4618, hn4641, hn4642, hn4643, hn4644, e4603⟩ x4687 h hx4688 K4689 hK4689
        refine WC_seqK fun K4692 hK4692 => ?_
        refine WC_seqK fun K4693 hK4693 => ?_
        refine WC_region ?_
        refine T0_q (v := (.int .i64 x4625)) rfl (yl_move hs4626) ?_
        refine T0_q (v := (.pointer (some ⟨b19, 0, none⟩))) rfl (yl_fa 0 Try.underlying27 rfl rfl ⟨0, sz22⟩ hs4605 rfl) ?_
        refine T0_q (v := v4) rfl (yl_load sc22 rfl (Box.at hB4633)) ?_
        refine T0_q (v := (.int .i64 (p_String.Teeth.length : Int))) rfl (yl_lenR rfl Try.underlying22 h4630 rfl) ?_
        refine T0_q (v := (.bool (decide (x4625 < (p_String.Teeth.length : Int))))) rfl (yl_lss rfl rfl) ?_
        refine T0_nil ?_
        refine hK4693 _ _ ?_
        refine WC_cond (b := (decide (x4625 < (p_String.Teeth.length : Int)))) rfl (fun hb4694 => ?_) (fun hb4694 => ?_)
        · replace h := cond_t hb4694 h
          refine WC_skip ?_
          refine hK4692 _ _ ?_
          refine WC_seqK fun K4695 hK4695 => ?_
          refine WC_block ?_
          refine WC_seqK fun K4696 hK4696 => ?_
          refine WC_seqK fun K4697 hK4697 => ?_
          refine WC_plan mixed (.p 1 (.p 3 (.q 0 (.q 2 (.p 4 (.q 5 (.e 6 (.p 7 .done)))))))) (by kernel_rfl) ?_
          intro wd4713 he4714
          have e4715 := e4603.trans he4714
          refine TP_p (v := (.pointer (some ⟨b19, 0, none⟩))) rfl rfl (fun w' => (yl_fa 0 Try.underlying27 rfl rfl ⟨0, sz22⟩ hs4605 rfl)) ?_
          refine TP_p (v := (.int .i64 x4625)) rfl rfl (fun w' => (yl_move hs4626)) ?_
          refine TP_q (v := (.agg (List.toArray [v1, (.int .i64 p_Listappend.Window), (.int .i64 p_Listappend.Tooth), (.int .i64 p_Listappend.PerVane), (.int .i64 p_Listappend.First), (.int .i64 p_Listappend.Modulus), (.int .i64 p_Listappend.Slack), (.int .i64 p_Listappend.Errors), (.bool p_Listappend.Round)]))) rfl rfl (fun w' hS => (yl_loadA (cs := [v1, (.int .i64 p_Listappend.Window), (.int .i64 p_Listappend.Tooth), (.int .i64 p_Listappend.PerVane), (.int .i64 p_Listappend.First), (.int .i64 p_Listappend.Modulus), (.int .i64 p_Listappend.Slack), (.int .i64 p_Listappend.Errors), (.bool p_Listappend.Round)]) ag24 hs4604 (Box.at (hB4629.ext ((he4714).trans hS))))) ?_
          refine TP_q (v := v4) rfl rfl (fun w' hS => (yl_load sc22 rfl (Box.at (hB4633.ext ((he4714).trans hS))))) ?_
          obtain ⟨el4716, hel4717, h⟩ := bind_elim h
          obtain ⟨cs4718, hat4719, hrd4720⟩ := SlRd.at h4630 hel4717
          have hrd4720 : cs4718 = [(.int .i64 el4716)] := hrd4720
          subst hrd4720
          refine TP_p (v := (.pointer (some (elemAddr v4 (x4625 : Int).toNat 1)))) rfl rfl (fun w' => (yl_indexAddr Try.underlying22 sz3 h4630 hel4717 rfl rfl)) ?_
          refine TP_q (v := (.int .i64 el4716)) rfl rfl (fun w' hS => (yl_load sc3 rfl (hat4719.ext' ((he4714).trans hS)))) ?_
          obtain ⟨r4722, hr4723, h⟩ := bind_elim h
          refine TP_e rfl rfl (eff_call Try.func8 nm8 rfl (ev2 rfl rfl) (ref04_ToothErr_ok [] _ (LtL.nil _) [v1, (.int .i64 p_Listappend.Window), (.int .i64 p_Listappend.Tooth), (.int .i64 p_Listappend.PerVane), (.int .i64 p_Listappend.First), (.int .i64 p_Listappend.Modulus), (.int .i64 p_Listappend.Slack), (.int .i64 p_Listappend.Errors), (.bool p_Listappend.Round)] p_Listappend ⟨v1, ((h4627.ext he4714).sub (fun _ h => by cases h)), rfl⟩ el4716 r4722 hr4723) ?_)
          rintro _ wd4724 ⟨he4725, rfl⟩
          have e4726 := he4714.trans he4725
          have e4727 := e4715.trans he4725
          refine ⟨he4725, ?_⟩
          refine TP_p (v := (.bool (!decide (r4722 = 0)))) rfl rfl (fun w' => (yl_neq rfl rfl)) ?_
          refine TP_done ?_
          refine hK4697 _ _ ?_
          refine WC_cond (b := (!decide (r4722 = 0))) rfl (fun hb4728 => ?_) (fun hb4728 => ?_)
          · replace h := cond_t hb4728 h
            refine WC_seqK fun K4729 hK4729 => ?_
            refine WC_region ?_
            refine T0_q (v := (.bool true)) rfl (yl_assign rfl) ?_
            refine T0_nil ?_
            refine hK4729 _ _ ?_
            refine WC_ret ?_
            replace h := some_out h
            subst h
            have ho := hx4688 _ rfl
            subst ho
            replace h := jn0_inl hn4686
            replace h := some_out h
            subst h
            exact ⟨[(.bool true)], ⟨rfl, trivial⟩, e4727, rfl⟩
          · replace h := cond_f hb4728 h
            refine WC_skip ?_
            refine hK4696 _ _ ?_
            refine WC_seqK fun K4730 hK4730 => ?_
            obtain ⟨o4929, ho4930, hn4931⟩ := bind_elim h
            refine WC_post (fun (ρ : Env) (wd4892 : World) => ∃ (x4908 : Int) (x4919 : Int) (x4920 : Int) (b4906 : Nat), (x4908, x4919, x4920) = o4929 ∧ ρ 2 = (.pointer (some ⟨b11, 0, none⟩)) ∧ ρ 3 = (.pointer (some ⟨b19, 0, none⟩)) ∧ ρ 5 = v4607 ∧ ρ 6 = v4614 ∧ ρ 7 = (.pointer (some ⟨b71, 0, none⟩)) ∧ ρ 8 = (.int .i64 x4621) ∧ ρ 9 = (.int .i64 x4623) ∧ ρ 10 = (.int .i64 x4625) ∧ ρ 11 = (.pointer (some ⟨b4906, 0, none⟩)) ∧ ρ 12 = (.int .i64 x4908) ∧ SlRd (v4607 :: v4614 :: (.pointer (some ⟨b71, 0, none⟩)) :: L) wd4892 v1 p_Listappend.Vanes ∧ SlRd (v4607 :: v4614 :: (.pointer (some ⟨b71, 0, none⟩)) :: L) wd4892 v4 p_String.Teeth ∧ SlRd (v4607 :: v4614 :: (.pointer (some ⟨b71, 0, none⟩)) :: L) wd4892 v6 p_String.Spoilt ∧ Box wd4892 b11 [v1, (.int .i64 p_Listappend.Window), (.int .i64 p_Listappend.Tooth), (.int .i64 p_Listappend.PerVane), (.int .i64 p_Listappend.First), (.int .i64 p_Listappend.Modulus), (.int .i64 p_Listappend.Slack), (.int .i64 p_Listappend.Errors), (.bool p_Listappend.Round)] 24 ∧ Box wd4892 b19 [v4, (.int .i64 p_String.Time), v6] 27 ∧ Box wd4892 b71 [(.int .i64 x4634), (.int .i64 x4635)] 35 ∧ Box wd4892 b4906 [(.int .i64 x4919), (.int .i64 x4920)] 35 ∧ Own 51 (v4607 :: v4614 :: (.pointer (some ⟨b71, 0, none⟩)) :: L) wd4892 v4607 x4608 ∧ Own 35 (v4607 :: v4614 :: (.pointer (some ⟨b71, 0, none⟩)) :: L) wd4892 v4614 x4615 ∧ (blk v4607 ≠ some b4906) ∧ (blk v4614 ≠ some b4906) ∧ (w.heap.size ≤ b4906) ∧ (b11 ≠ b4906) ∧ (b19 ≠ b4906) ∧ (b71 ≠ b4906) ∧ Ext w wd4892) ?_ ?_
            · intro K4932 hK4932
              replace h := ho4930
              clear ho4930
              refine WC_plan mixed (.p 2 (.p 4 (.q 0 (.q 3 (.p 5 (.q 6 (.f 1 (.f 7 (.p 8 (.p 9 (.p 10 (.e 11 (.b 12 (.p 13 .done)))))) 11 (.e 7 (.p 8 (.p 9 (.p 10 (.b 12 (.p 13 .done))))))) 11 (.e 1 (.e 7 (.p 8 (.p 9 (.p 10 (.b 12 (.p 13 .done)))))))))))))) (by kernel_rfl) ?_
              intro wd4933 he4934
              have e4935 := e4726.trans he4934
              have e4936 := e4727.trans he4934
              refine TP_p (v := (.pointer (some ⟨b19, 0, none⟩))) rfl rfl (fun w' => (yl_fa 0 Try.underlying27 rfl rfl ⟨0, sz22⟩ hs4605 rfl)) ?_
              refine TP_p (v := (.int .i64 x4625)) rfl rfl (fun w' => (yl_move hs4626)) ?_
              refine TP_q (v := (.agg (List.toArray [v1, (.int .i64 p_Listappend.Window), (.int .i64 p_Listappend.Tooth), (.int .i64 p_Listappend.PerVane), (.int .i64 p_Listappend.First), (.int .i64 p_Listappend.Modulus), (.int .i64 p_Listappend.Slack), (.int .i64 p_Listappend.Errors), (.bool p_Listappend.Round)]))) rfl rfl (fun w' hS => (yl_loadA (cs := [v1, (.int .i64 p_Listappend.Window), (.int .i64 p_Listappend.Tooth), (.int .i64 p_Listappend.PerVane), (.int .i64 p_Listappend.First), (.int .i64 p_Listappend.Modulus), (.int .i64 p_Listappend.Slack), (.int .i64 p_Listappend.Errors), (.bool p_Listappend.Round)]) ag24 hs4604 (Box.at (hB4629.ext ((e4935).trans hS))))) ?_
              refine TP_q (v := v4) rfl rfl (fun w' hS => (yl_load sc22 rfl (Box.at (hB4633.ext ((e4935).trans hS))))) ?_
              obtain ⟨el4937, hel4938, h⟩ := bind_elim h
              obtain ⟨cs4939, hat4940, hrd4941⟩ := SlRd.at h4630 hel4938
              have hrd4941 : cs4939 = [(.int .i64 el4937)] := hrd4941
              subst hrd4941
              refine TP_p (v := (.pointer (some (elemAddr v4 (x4625 : Int).toNat 1)))) rfl rfl (fun w' => (yl_indexAddr Try.underlying22 sz3 h4630 hel4938 rfl rfl)) ?_
              refine TP_q (v := (.int .i64 el4937)) rfl rfl (fun w' hS => (yl_load sc3 rfl (hat4940.ext' ((e4935).trans hS)))) ?_
              refine TP_f rfl rfl rfl rfl ?_ ?_
              · skip
                obtain ⟨r4943, hr4944, h⟩ := bind_elim h
                refine  (eff_call Try.func10 nm10 rfl (ev1 rfl) (ref04_Copy_ok (v4607 :: v4614 :: (.pointer (some ⟨b71, 0, none⟩)) :: L) _ (ltl_own (ltl_own (ltl_box (hL.chg e4936) (hB4637.ext e4935)) (h4617.ext e4935)) (h4610.ext e4935)) [v1, (.int .i64 p_Listappend.Window), (.int .i64 p_Listappend.Tooth), (.int .i64 p_Listappend.PerVane), (.int .i64 p_Listappend.First), (.int .i64 p_Listappend.Modulus), (.int .i64 p_Listappend.Slack), (.int .i64 p_Listappend.Errors), (.bool p_Listappend.Round)] p_Listappend ⟨v1, (h4627.ext e4935), rfl⟩ r4943 hr4944) ?_)
                rintro _ wd4945 ⟨he4946, cs4949, rfl, hrd4950⟩
                have e4951 := e4935.trans he4946
                have e4952 := e4936.trans he4946
                obtain ⟨v4947, h4948, rfl⟩ := hrd4950
                refine ⟨he4946, ?_⟩
                refine TP_f rfl rfl rfl rfl ?_ ?_
                · skip
                  obtain ⟨r4954, hr4955, h⟩ := bind_elim h
                  refine  (eff_call Try.func9 nm9 rfl (ev2 rfl rfl) (locate_PlacesOf_ok [] _ (LtL.nil _) [v4947, (.int .i64 r4943.Window), (.int .i64 r4943.Tooth), (.int .i64 r4943.PerVane), (.int .i64 r4943.First), (.int .i64 r4943.Modulus), (.int .i64 r4943.Slack), (.int .i64 r4943.Errors), (.bool r4943.Round)] r4943 ⟨v4947, (h4948.sub (fun _ h => by cases h)), rfl⟩ el4937 r4954 hr4955) ?_)
                  rintro _ wd4956 ⟨he4957, cs4958, rfl, hrd4959⟩
                  have e4960 := e4951.trans he4957
                  have e4961 := he4946.trans he4957
                  have e4962 := e4952.trans he4957
                  have hrd4959 : cs4958 = [(.int .i64 r4954.1.Lo), (.int .i64 r4954.1.Hi)] := hrd4959
                  subst hrd4959
                  refine ⟨e4961, ?_⟩
                  refine TP_p (v := (.tuple #[(.agg (List.toArray [(.int .i64 r4954.1.Lo), (.int .i64 r4954.1.Hi)])), (.int .i64 r4954.2)])) rfl rfl (fun w' => (yl_move rfl)) ?_
                  refine TP_p (v := (.agg (List.toArray [(.int .i64 r4954.1.Lo), (.int .i64 r4954.1.Hi)]))) rfl rfl (fun w' => (yl_extract rfl rfl)) ?_
                  refine TP_p (v := (.int .i64 r4954.2)) rfl rfl (fun w' => (yl_extract rfl rfl)) ?_
                  refine TP_e rfl rfl (eff_allocZ zi35 ?_)
                  intro b4963 wd4964 hb4965 he4966 hB4967
                  have hn4968 : b4963 ≠ b11 := box_ne (hB4629.ext e4960) hb4965
                  have hn4969 : b4963 ≠ b19 := box_ne (hB4633.ext e4960) hb4965
                  have hn4970 : b4963 ≠ b71 := box_ne (hB4637.ext e4960) hb4965
                  have hn4971 : blk v4607 ≠ some b4963 := ne_new_box (h4610.ext e4960) hb4965
                  have hn4972 : blk v4614 ≠ some b4963 := ne_new_box (h4617.ext e4960) hb4965
                  have hbf4973 := bfresh e4962 hb4965
                  have h4974 := (h4610.ext e4960).step (add_box he4966 hb4965) he4966 (fun _ _ => Avoids.nil _)
                  have h4975 := (h4617.ext e4960).step (add_box he4966 hb4965) he4966 (fun _ _ => Avoids.nil _)
                  have h4976 := (h4627.ext e4960).step (add_box he4966 hb4965)
                  have h4977 := (h4630.ext e4960).step (add_box he4966 hb4965)
                  have h4978 := (h4631.ext e4960).step (add_box he4966 hb4965)
                  have h4979 := (h4948.ext he4957).step (add_box he4966 hb4965)
                  have e4980 := e4960.trans he4966
                  have e4981 := e4961.trans he4966
                  have e4982 := e4962.trans he4966
                  refine ⟨e4981, ?_⟩
                  refine TP_b rfl rfl (eff_storeC (vs := [(.int .i64 r4954.1.Lo), (.int .i64 r4954.1.Hi)]) (cs' := [(.int .i64 r4954.1.Lo), (.int .i64 r4954.1.Hi)]) sz35 rfl rfl rfl rfl hB4967 rfl (oc_cons rfl (oc_cons rfl oc_nil)) rfl ?_)
                  intro wd4984 hc4985 hB4986
                  have h4987 := h4974.step (Stepp.chg_mem hc4985 mem0) hc4985 (av_box hn4971)
                  have h4988 := h4975.step (Stepp.chg_mem hc4985 mem0) hc4985 (av_box hn4972)
                  have h4989 := h4976.step (Stepp.chg_mem hc4985 mem0)
                  have h4990 := (hB4629.ext e4980).chg hc4985 (avoidb hn4968)
                  have h4991 := h4977.step (Stepp.chg_mem hc4985 mem0)
                  have h4992 := h4978.step (Stepp.chg_mem hc4985 mem0)
                  have h4993 := (hB4633.ext e4980).chg hc4985 (avoidb hn4969)
                  have h4994 := (hB4637.ext e4980).chg hc4985 (avoidb hn4970)
                  have h4995 := h4979.step (Stepp.chg_mem hc4985 mem0)
                  have e4996 := chg_box e4982 hc4985 hbf4973
                  refine TP_p (v := (.int .i64 r4954.2)) rfl rfl (fun w' => (yl_assign rfl)) ?_
                  refine TP_done ?_
                  replace h := some_out h
                  subst h
                  refine hK4932 _ _ ?_
                  exact ⟨r4954.2, r4954.1.Lo, r4954.1.Hi, b4963, rfl, hs4604, hs4605, hs4612, hs4619, hs4620, hs4622, hs4624, hs4626, rfl, rfl, (h4989.sub (sub_cons (memS mem0) (sub_cons (memS (memS mem0)) (sub_cons (memS (memS (memS mem0))) (sub_skip (sub_skip (sub_skip (sub_skip (sub_refl _))))))))), (h4991.sub (sub_cons (memS mem0) (sub_cons (memS (memS mem0)) (sub_cons (memS (memS (memS mem0))) (sub_skip (sub_skip (sub_skip (sub_skip (sub_refl _))))))))), (h4992.sub (sub_cons (memS mem0) (sub_cons (memS (memS mem0)) (sub_cons (memS (memS (memS mem0))) (sub_skip (sub_skip (sub_skip (sub_skip (sub_refl _))))))))), h4990, h4993, h4994, hB4986, (h4987.sub (sub_cons (memS mem0) (sub_cons (memS (memS mem0)) (sub_cons (memS (memS (memS mem0))) (sub_skip (sub_skip (sub_skip (sub_skip (sub_refl _))))))))), (h4988.sub (sub_cons (memS mem0) (sub_cons (memS (memS mem0)) (sub_cons (memS (memS (memS mem0))) (sub_skip (sub_skip (sub_skip (sub_skip (sub_refl _))))))))), hn4971, hn4972, hbf4973, hn4968.symm, hn4969.symm, hn4970.symm, e4996⟩
                · skip
                  refine  (eff_allocZ zi35 ?_)
                  intro b4997 wd4998 hb4999 he5000 hB5001
                  have hn5002 : b4997 ≠ b11 := box_ne (hB4629.ext e4951) hb4999
                  have hn5003 : b4997 ≠ b19 := box_ne (hB4633.ext e4951) hb4999
                  have hn5004 : b4997 ≠ b71 := box_ne (hB4637.ext e4951) hb4999
                  have hn5005 : blk v4607 ≠ some b4997 := ne_new_box (h4610.ext e4951) hb4999
                  have hn5006 : blk v4614 ≠ some b4997 := ne_new_box (h4617.ext e4951) hb4999
                  have hbf5007 := bfresh e4952 hb4999
                  have h5008 := (h4610.ext e4951).step (add_box he5000 hb4999) he5000 (fun _ _ => Avoids.nil _)
                  have h5009 := (h4617.ext e4951).step (add_box he5000 hb4999) he5000 (fun _ _ => Avoids.nil _)
                  have h5010 := (h4627.ext e4951).step (add_box he5000 hb4999)
                  have h5011 := (h4630.ext e4951).step (add_box he5000 hb4999)
                  have h5012 := (h4631.ext e4951).step (add_box he5000 hb4999)
                  have h5013 := h4948.step (add_box he5000 hb4999)
                  have e5014 := e4951.trans he5000
                  have e5015 := he4946.trans he5000
                  have e5016 := e4952.trans he5000
                  refine ⟨e5015, ?_⟩
                  obtain ⟨r5018, hr5019, h⟩ := bind_elim h
                  refine TP_e rfl rfl (eff_call Try.func9 nm9 rfl (ev2 rfl rfl) (locate_PlacesOf_ok [] _ (LtL.nil _) [v4947, (.int .i64 r4943.Window), (.int .i64 r4943.Tooth), (.int .i64 r4943.PerVane), (.int .i64 r4943.First), (.int .i64 r4943.Modulus), (.int .i64 r4943.Slack), (.int .i64 r4943.Errors), (.bool r4943.Round)] r4943 ⟨v4947, (h5013.sub (fun _ h => by cases h)), rfl⟩ el4937 r5018 hr5019) ?_)
                  rintro _ wd5020 ⟨he5021, cs5022, rfl, hrd5023⟩
                  have e5024 := e5014.trans he5021
                  have e5025 := e5015.trans he5021
                  have e5026 := e5016.trans he5021
                  have hrd5023 : cs5022 = [(.int .i64 r5018.1.Lo), (.int .i64 r5018.1.Hi)] := hrd5023
                  subst hrd5023
                  refine ⟨e5025, ?_⟩
                  refine TP_p (v := (.tuple #[(.agg (List.toArray [(.int .i64 r5018.1.Lo), (.int .i64 r5018.1.Hi)])), (.int .i64 r5018.2)])) rfl rfl (fun w' => (yl_move rfl)) ?_
                  refine TP_p (v := (.agg (List.toArray [(.int .i64 r5018.1.Lo), (.int .i64 r5018.1.Hi)]))) rfl rfl (fun w' => (yl_extract rfl rfl)) ?_
                  refine TP_p (v := (.int .i64 r5018.2)) rfl rfl (fun w' => (yl_extract rfl rfl)) ?_
                  refine TP_b rfl rfl (eff_storeC (vs := [(.int .i64 r5018.1.Lo), (.int .i64 r5018.1.Hi)]) (cs' := [(.int .i64 r5018.1.Lo), (.int .i64 r5018.1.Hi)]) sz35 rfl rfl rfl rfl (hB5001.ext he5021) rfl (oc_cons rfl (oc_cons rfl oc_nil)) rfl ?_)
                  intro wd5027 hc5028 hB5029
                  have h5030 := (h5008.ext he5021).step (Stepp.chg_mem hc5028 mem0) hc5028 (av_box hn5005)
                  have h5031 := (h5009.ext he5021).step (Stepp.chg_mem hc5028 mem0) hc5028 (av_box hn5006)
                  have h5032 := (h5010.ext he5021).step (Stepp.chg_mem hc5028 mem0)
                  have h5033 := (hB4629.ext e5024).chg hc5028 (avoidb hn5002)
                  have h5034 := (h5011.ext he5021).step (Stepp.chg_mem hc5028 mem0)
                  have h5035 := (h5012.ext he5021).step (Stepp.chg_mem hc5028 mem0)
                  have h5036 := (hB4633.ext e5024).chg hc5028 (avoidb hn5003)
                  have h5037 := (hB4637.ext e5024).chg hc5028 (avoidb hn5004)
                  have h5038 := (h5013.ext he5021).step (Stepp.chg_mem hc5028 mem0)
                  have e5039 := chg_box e5026 hc5028 hbf5007
                  refine TP_p (v := (.int .i64 r5018.2)) rfl rfl (fun w' => (yl_assign rfl)) ?_
                  refine TP_done ?_
                  replace h := some_out h
                  subst h
                  refine hK4932 _ _ ?_
                  exact ⟨r5018.2, r5018.1.Lo, r5018.1.Hi, b4997, rfl, hs4604, hs4605, hs4612, hs4619, hs4620, hs4622, hs4624, hs4626, rfl, rfl, (h5032.sub (sub_cons (memS mem0) (sub_cons (memS (memS mem0)) (sub_cons (memS (memS (memS mem0))) (sub_skip (sub_skip (sub_skip (sub_skip (sub_refl _))))))))), (h5034.sub (sub_cons (memS mem0) (sub_cons (memS (memS mem0)) (sub_cons (memS (memS (memS mem0))) (sub_skip (sub_skip (sub_skip (sub_skip (sub_refl _))))))))), (h5035.sub (sub_cons (memS mem0) (sub_cons (memS (memS mem0)) (sub_cons (memS (memS (memS mem0))) (sub_skip (sub_skip (sub_skip (sub_skip (sub_refl _))))))))), h5033, h5036, h5037, hB5029, (h5030.sub (sub_cons (memS mem0) (sub_cons (memS (memS mem0)) (sub_cons (memS (memS (memS mem0))) (sub_skip (sub_skip (sub_skip (sub_skip (sub_refl _))))))))), (h5031.sub (sub_cons (memS mem0) (sub_cons (memS (memS mem0)) (sub_cons (memS (memS (memS mem0))) (sub_skip (sub_skip (sub_skip (sub_skip (sub_refl _))))))))), hn5005, hn5006, hbf5007, hn5002.symm, hn5003.symm, hn5004.symm, e5039⟩
              · skip
                refine  (eff_allocZ zi35 ?_)
                intro b5040 wd5041 hb5042 he5043 hB5044
                have hn5045 : b5040 ≠ b11 := box_ne (hB4629.ext e4935) hb5042
                have hn5046 : b5040 ≠ b19 := box_ne (hB4633.ext e4935) hb5042
                have hn5047 : b5040 ≠ b71 := box_ne (hB4637.ext e4935) hb5042
                have hn5048 : blk v4607 ≠ some b5040 := ne_new_box (h4610.ext e4935) hb5042
                have hn5049 : blk v4614 ≠ some b5040 := ne_new_box (h4617.ext e4935) hb5042
                have hbf5050 := bfresh e4936 hb5042
                have h5051 := (h4610.ext e4935).step (add_box he5043 hb5042) he5043 (fun _ _ => Avoids.nil _)
                have h5052 := (h4617.ext e4935).step (add_box he5043 hb5042) he5043 (fun _ _ => Avoids.nil _)
                have h5053 := (h4627.ext e4935).step (add_box he5043 hb5042)
                have h5054 := (h4630.ext e4935).step (add_box he5043 hb5042)
                have h5055 := (h4631.ext e4935).step (add_box he5043 hb5042)
                have e5056 := e4935.trans he5043
                have e5057 := e4936.trans he5043
                refine ⟨he5043, ?_⟩
                obtain ⟨r5059, hr5060, h⟩ := bind_elim h
                refine TP_e rfl rfl (eff_call Try.func10 nm10 rfl (ev1 rfl) (ref04_Copy_ok ((.pointer (some ⟨b5040, 0, none⟩)) :: v4607 :: v4614 :: (.pointer (some ⟨b71, 0, none⟩)) :: L) _ (ltl_box (ltl_own (ltl_own (ltl_box (hL.chg e5057) (hB4637.ext e5056)) h5052) h5051) hB5044) [v1, (.int .i64 p_Listappend.Window), (.int .i64 p_Listappend.Tooth), (.int .i64 p_Listappend.PerVane), (.int .i64 p_Listappend.First), (.int .i64 p_Listappend.Modulus), (.int .i64 p_Listappend.Slack), (.int .i64 p_Listappend.Errors), (.bool p_Listappend.Round)] p_Listappend ⟨v1, h5053, rfl⟩ r5059 hr5060) ?_)
                rintro _ wd5061 ⟨he5062, cs5065, rfl, hrd5066⟩
                have e5067 := e5056.trans he5062
                have e5068 := he5043.trans he5062
                have e5069 := e5057.trans he5062
                obtain ⟨v5063, h5064, rfl⟩ := hrd5066
                refine ⟨e5068, ?_⟩
                obtain ⟨r5071, hr5072, h⟩ := bind_elim h
                refine TP_e rfl rfl (eff_call Try.func9 nm9 rfl (ev2 rfl rfl) (locate_PlacesOf_ok [] _ (LtL.nil _) [v5063, (.int .i64 r5059.Window), (.int .i64 r5059.Tooth), (.int .i64 r5059.PerVane), (.int .i64 r5059.First), (.int .i64 r5059.Modulus), (.int .i64 r5059.Slack), (.int .i64 r5059.Errors), (.bool r5059.Round)] r5059 ⟨v5063, (h5064.sub (fun _ h => by cases h)), rfl⟩ el4937 r5071 hr5072) ?_)
                rintro _ wd5073 ⟨he5074, cs5075, rfl, hrd5076⟩
                have e5077 := e5067.trans he5074
                have e5078 := he5062.trans he5074
                have e5079 := e5068.trans he5074
                have e5080 := e5069.trans he5074
                have hrd5076 : cs5075 = [(.int .i64 r5071.1.Lo), (.int .i64 r5071.1.Hi)] := hrd5076
                subst hrd5076
                refine ⟨e5079, ?_⟩
                refine TP_p (v := (.tuple #[(.agg (List.toArray [(.int .i64 r5071.1.Lo), (.int .i64 r5071.1.Hi)])), (.int .i64 r5071.2)])) rfl rfl (fun w' => (yl_move rfl)) ?_
                refine TP_p (v := (.agg (List.toArray [(.int .i64 r5071.1.Lo), (.int .i64 r5071.1.Hi)]))) rfl rfl (fun w' => (yl_extract rfl rfl)) ?_
                refine TP_p (v := (.int .i64 r5071.2)) rfl rfl (fun w' => (yl_extract rfl rfl)) ?_
                refine TP_b rfl rfl (eff_storeC (vs := [(.int .i64 r5071.1.Lo), (.int .i64 r5071.1.Hi)]) (cs' := [(.int .i64 r5071.1.Lo), (.int .i64 r5071.1.Hi)]) sz35 rfl rfl rfl rfl (hB5044.ext e5078) rfl (oc_cons rfl (oc_cons rfl oc_nil)) rfl ?_)
                intro wd5081 hc5082 hB5083
                have h5084 := (h5051.ext e5078).step (Stepp.chg_mem hc5082 mem0) hc5082 (av_box hn5048)
                have h5085 := (h5052.ext e5078).step (Stepp.chg_mem hc5082 mem0) hc5082 (av_box hn5049)
                have h5086 := (h5053.ext e5078).step (Stepp.chg_mem hc5082 mem0)
                have h5087 := (hB4629.ext e5077).chg hc5082 (avoidb hn5045)
                have h5088 := (h5054.ext e5078).step (Stepp.chg_mem hc5082 mem0)
                have h5089 := (h5055.ext e5078).step (Stepp.chg_mem hc5082 mem0)
                have h5090 := (hB4633.ext e5077).chg hc5082 (avoidb hn5046)
                have h5091 := (hB4637.ext e5077).chg hc5082 (avoidb hn5047)
                have h5092 := (h5064.ext he5074).step (Stepp.chg_mem hc5082 mem0)
                have e5093 := chg_box e5080 hc5082 hbf5050
                refine TP_p (v := (.int .i64 r5071.2)) rfl rfl (fun w' => (yl_assign rfl)) ?_
                refine TP_done ?_
                replace h := some_out h
                subst h
                refine hK4932 _ _ ?_
                exact ⟨r5071.2, r5071.1.Lo, r5071.1.Hi, b5040, rfl, hs4604, hs4605, hs4612, hs4619, hs4620, hs4622, hs4624, hs4626, rfl, rfl, (h5086.sub (sub_cons (memS mem0) (sub_cons (memS (memS mem0)) (sub_cons (memS (memS (memS mem0))) (sub_skip (sub_skip (sub_skip (sub_skip (sub_refl _))))))))), (h5088.sub (sub_cons (memS mem0) (sub_cons (memS (memS mem0)) (sub_cons (memS (memS (memS mem0))) (sub_skip (sub_skip (sub_skip (sub_skip (sub_refl _))))))))), (h5089.sub (sub_cons (memS mem0) (sub_cons (memS (memS mem0)) (sub_cons (memS (memS (memS mem0))) (sub_skip (sub_skip (sub_skip (sub_skip (sub_refl _))))))))), h5087, h5090, h5091, hB5083, (h5084.sub (sub_cons (memS mem0) (sub_cons (memS (memS mem0)) (sub_cons (memS (memS (memS mem0))) (sub_skip (sub_skip (sub_skip (sub_skip (sub_refl _))))))))), (h5085.sub (sub_cons (memS mem0) (sub_cons (memS (memS mem0)) (sub_cons (memS (memS (memS mem0))) (sub_skip (sub_skip (sub_skip (sub_skip (sub_refl _))))))))), hn5048, hn5049, hbf5050, hn5045.symm, hn5046.symm, hn5047.symm, e5093⟩
            · rintro ρ wd4892 ⟨x4908, x4919, x4920, b4906, rfl, hs4894, hs4895, hs4898, hs4901, hs4902, hs4903, hs4904, hs4905, hs4907, hs4909, h4910, h4913, h4914, hB4912, hB4916, hB4918, hB4922, h4897, h4900, hn4923, hn4924, hf4925, hn4926, hn4927, hn4928, e4893⟩
              replace h := hn4931
              refine hK4730 _ _ ?_
              refine WC_seqK fun K5094 hK5094 => ?_
              refine WC_seqK fun K5095 hK5095 => ?_
              refine WC_region ?_
              refine T0_q (v := (.int .i64 x4908)) rfl (yl_move hs4909) ?_
              refine T0_q (v := (.bool (!decide (x4908 = 0)))) rfl (yl_neq rfl rfl) ?_
              refine T0_q (v := (.bool (!decide (x4908 = 0)))) rfl (yl_move rfl) ?_
              refine T0_g (v := (.agg (List.toArray [(.int .i64 x4919), (.int .i64 x4920)]))) (!(!decide (x4908 = 0))) (wanted_f rfl rfl rfl rfl) (fun hg => (yl_loadA (cs := [(.int .i64 x4919), (.int .i64 x4920)]) ag35 hs4907 (Box.at hB4922))) ?_
              obtain ⟨r5096, hr5097, h⟩ := bind_elim h
              refine T0_ges (!(!decide (x4908 = 0))) (.int .i64 r5096) (wanted_f rfl rfl rfl rfl) (fun hg => eff_call Try.func11 nm11 rfl (ev1 (gd_true hg)) (ref04_RangeErr_ok [] _ (LtL.nil _) [(.int .i64 x4919), (.int .i64 x4920)] (Range.mk x4919 x4920) rfl r5096 (cond_t hg hr5097)) (by rintro _ wd5098 ⟨he5099, rfl⟩; exact ⟨rfl, he5099⟩)) ?_
              intro wd5098 he5099
              have e5100 := e4893.trans he5099
              refine T0_g (v := (.bool (!decide (r5096 = 0)))) (!(!decide (x4908 = 0))) (wanted_f rfl rfl rfl rfl) (fun hg => (yl_neq (gd_true hg) rfl)) ?_
              refine T0_q (v := (.bool ((!decide (x4908 = 0)) || (!decide (r5096 = 0))))) rfl (yl_or rfl rfl (fun hb => (gd_true (not_t hb)))) ?_
              refine T0_nil ?_
              refine hK5095 _ _ ?_
              refine WC_cond (b := ((!decide (x4908 = 0)) || (!decide (r5096 = 0)))) rfl (fun hb5101 => ?_) (fun hb5101 => ?_)
              · replace h := cond_t hb5101 h
                refine WC_seqK fun K5102 hK5102 => ?_
                refine WC_region ?_
                refine T0_q (v := (.bool false)) rfl (yl_assign rfl) ?_
                refine T0_nil ?_
                refine hK5102 _ _ ?_
                refine WC_ret ?_
                replace h := some_out h
                subst h
                have ho := hx4688 _ rfl
                subst ho
                replace h := jn0_inl hn4686
                replace h := some_out h
                subst h
                exact ⟨[(.bool false)], ⟨rfl, trivial⟩, e5100, rfl⟩
              · replace h := cond_f hb5101 h
                refine WC_skip ?_
                refine hK5094 _ _ ?_
                refine WC_seqK fun K5103 hK5103 => ?_
                refine WC_region ?_
                refine T0_q (v := (.pointer (some ⟨b4906, 0, none⟩))) rfl (yl_fa 0 Try.underlying35 rfl rfl ⟨0, sz3⟩ hs4907 rfl) ?_
                refine T0_q (v := (.int .i64 x4919)) rfl (yl_load sc3 rfl (Box.at (hB4922.ext he5099))) ?_
                refine T0_q (v := (.int .i64 x4919)) rfl (yl_assign rfl) ?_
                refine T0_nil ?_
                refine hK5103 _ _ ?_
                refine WC_seqK fun K5104 hK5104 => ?_
                refine WC_seqK fun K5105 hK5105 => ?_
                refine WC_region ?_
                refine T0_q (v := (.agg (List.toArray [v1, (.int .i64 p_Listappend.Window), (.int .i64 p_Listappend.Tooth), (.int .i64 p_Listappend.PerVane), (.int .i64 p_Listappend.First), (.int .i64 p_Listappend.Modulus), (.int .i64 p_Listappend.Slack), (.int .i64 p_Listappend.Errors), (.bool p_Listappend.Round)]))) rfl (yl_loadA (cs := [v1, (.int .i64 p_Listappend.Window), (.int .i64 p_Listappend.Tooth), (.int .i64 p_Listappend.PerVane), (.int .i64 p_Listappend.First), (.int .i64 p_Listappend.Modulus), (.int .i64 p_Listappend.Slack), (.int .i64 p_Listappend.Errors), (.bool p_Listappend.Round)]) ag24 hs4894 (Box.at (hB4912.ext he5099))) ?_
                obtain ⟨r5106, hr5107, h⟩ := bind_elim h
                refine T0_e rfl (eff_call Try.func10 nm10 rfl (ev1 rfl) (ref04_Copy_ok (v4607 :: v4614 :: (.pointer (some ⟨b71, 0, none⟩)) :: L) _ (ltl_own (ltl_own (ltl_box (hL.chg e5100) (hB4918.ext he5099)) (h4900.ext he5099)) (h4897.ext he5099)) [v1, (.int .i64 p_Listappend.Window), (.int .i64 p_Listappend.Tooth), (.int .i64 p_Listappend.PerVane), (.int .i64 p_Listappend.First), (.int .i64 p_Listappend.Modulus), (.int .i64 p_Listappend.Slack), (.int .i64 p_Listappend.Errors), (.bool p_Listappend.Round)] p_Listappend ⟨v1, (h4910.ext he5099), rfl⟩ r5106 hr5107) ?_)
                rintro _ wd5108 ⟨he5109, cs5112, rfl, hrd5113⟩
                have e5114 := he5099.trans he5109
                have e5115 := e5100.trans he5109
                obtain ⟨v5110, h5111, rfl⟩ := hrd5113
                refine T0_q (v := (.int .i64 x4919)) rfl (yl_move rfl) ?_
                obtain ⟨r5117, hr5118, h⟩ := bind_elim h
                refine T0_e rfl (eff_call Try.func12 nm12 rfl (ev2 rfl rfl) (locate_ToothAt_ok [] _ (LtL.nil _) [v5110, (.int .i64 r5106.Window), (.int .i64 r5106.Tooth), (.int .i64 r5106.PerVane), (.int .i64 r5106.First), (.int .i64 r5106.Modulus), (.int .i64 r5106.Slack), (.int .i64 r5106.Errors), (.bool r5106.Round)] r5106 ⟨v5110, (h5111.sub (fun _ h => by cases h)), rfl⟩ x4919 r5117 hr5118) ?_)
                rintro _ wd5119 ⟨he5120, rfl⟩
                have e5121 := e5114.trans he5120
                have e5122 := e5115.trans he5120
                refine T0_q (v := (.tuple #[(.int .i64 r5117.1), (.int .i64 r5117.2)])) rfl (yl_move rfl) ?_
                refine T0_q (v := (.int .i64 r5117.1)) rfl (yl_extract rfl rfl) ?_
                refine T0_q (v := (.int .i64 r5117.2)) rfl (yl_extract rfl rfl) ?_
                refine T0_q (v := (.int .i64 r5117.1)) rfl (yl_assign rfl) ?_
                refine T0_q (v := (.int .i64 r5117.2)) rfl (yl_assign rfl) ?_
                refine T0_nil ?_
                refine hK5105 _ _ ?_
                refine WC_seqK fun K5123 hK5123 => ?_
                refine WC_region ?_
                refine T0_q (v := (.int .i64 r5117.2)) rfl (yl_move rfl) ?_
                refine T0_q (v := (.bool (!decide (r5117.2 = 0)))) rfl (yl_neq rfl rfl) ?_
                refine T0_q (v := (.bool (!decide (r5117.2 = 0)))) rfl (yl_move rfl) ?_
                refine T0_g (v := (.int .i64 r5117.1)) (!(!decide (r5117.2 = 0))) (wanted_f rfl rfl rfl rfl) (fun hg => (yl_move rfl)) ?_
                refine T0_g (v := (.pointer (some ⟨b19, 0, none⟩))) (!(!decide (r5117.2 = 0))) (wanted_f rfl rfl rfl rfl) (fun hg => (yl_fa 0 Try.underlying27 rfl rfl ⟨0, sz22⟩ hs4895 rfl)) ?_
                refine T0_g (v := v4) (!(!decide (r5117.2 = 0))) (wanted_f rfl rfl rfl rfl) (fun hg => (yl_load sc22 (gd_true hg) (Box.at (hB4916.ext e5121)))) ?_
                refine T0_g (v := (.int .i64 x4625)) (!(!decide (r5117.2 = 0))) (wanted_f rfl rfl rfl rfl) (fun hg => (yl_move hs4905)) ?_
                obtain ⟨el5124, hel5125, h⟩ := bind_elim h
                have hat5127 : (!(!decide (r5117.2 = 0))) = true → At wd4892 (elemAddr v4 (x4625 : Int).toNat 1) [(.int .i64 el5124)] := fun hg => by obtain ⟨cs, hat, hrd⟩ := SlRd.at h4913 (cond_t hg hel5125); have hrd : cs = [(.int .i64 el5124)] := hrd; subst hrd; exact hat
                refine T0_g (v := (.pointer (some (elemAddr v4 (x4625 : Int).toNat 1)))) (!(!decide (r5117.2 = 0))) (wanted_f rfl rfl rfl rfl) (fun hg => (yl_indexAddr Try.underlying22 sz3 h4913 (cond_t hg hel5125) (gd_true hg) (gd_true hg))) ?_
                refine T0_g (v := (.int .i64 el5124)) (!(!decide (r5117.2 = 0))) (wanted_f rfl rfl rfl rfl) (fun hg => (yl_load sc3 (gd_true hg) ((hat5127 hg).ext' e5121))) ?_
                refine T0_g (v := (.bool (!decide (r5117.1 = el5124)))) (!(!decide (r5117.2 = 0))) (wanted_f rfl rfl rfl rfl) (fun hg => (yl_neq (gd_true hg) (gd_true hg))) ?_
                refine T0_q (v := (.bool ((!decide (r5117.2 = 0)) || (!decide (r5117.1 = el5124))))) rfl (yl_or rfl rfl (fun hb => (gd_true (not_t hb)))) ?_
                refine T0_nil ?_
                refine hK5123 _ _ ?_
                refine WC_cond (b := ((!decide (r5117.2 = 0)) || (!decide (r5117.1 = el5124)))) rfl (fun hb5129 => ?_) (fun hb5129 => ?_)
                · replace h := cond_t hb5129 h
                  refine WC_seqK fun K5130 hK5130 => ?_
                  refine WC_region ?_
                  refine T0_q (v := (.bool false)) rfl (yl_assign rfl) ?_
                  refine T0_nil ?_
                  refine hK5130 _ _ ?_
                  refine WC_ret ?_
                  replace h := some_out h
                  subst h
                  have ho := hx4688 _ rfl
                  subst ho
                  replace h := jn0_inl hn4686
                  replace h := some_out h
                  subst h
                  exact ⟨[(.bool false)], ⟨rfl, trivial⟩, e5122, rfl⟩
                · replace h := cond_f hb5129 h
                  refine WC_skip ?_
                  refine hK5104 _ _ ?_
                  refine WC_seqK fun K5131 hK5131 => ?_
                  refine WC_region ?_
                  refine T0_q (v := (.agg (List.toArray [v1, (.int .i64 p_Listappend.Window), (.int .i64 p_Listappend.Tooth), (.int .i64 p_Listappend.PerVane), (.int .i64 p_Listappend.First), (.int .i64 p_Listappend.Modulus), (.int .i64 p_Listappend.Slack), (.int .i64 p_Listappend.Errors), (.bool p_Listappend.Round)]))) rfl (yl_loadA (cs := [v1, (.int .i64 p_Listappend.Window), (.int .i64 p_Listappend.Tooth), (.int .i64 p_Listappend.PerVane), (.int .i64 p_Listappend.First), (.int .i64 p_Listappend.Modulus), (.int .i64 p_Listappend.Slack), (.int .i64 p_Listappend.Errors), (.bool p_Listappend.Round)]) ag24 hs4894 (Box.at (hB4912.ext e5121))) ?_
                  refine T0_q (v := (.agg (List.toArray [v4, (.int .i64 p_String.Time), v6]))) rfl (yl_loadA (cs := [v4, (.int .i64 p_String.Time), v6]) ag27 hs4895 (Box.at (hB4916.ext e5121))) ?_
                  refine T0_q (v := (.int .i64 x4625)) rfl (yl_move hs4905) ?_
                  obtain ⟨r5132, hr5133, h⟩ := bind_elim h
                  refine T0_e rfl (eff_call Try.func13 nm13 rfl (ev3 rfl rfl rfl) (guidewaytop_locateRead_ok (v4607 :: v4614 :: (.pointer (some ⟨b71, 0, none⟩)) :: L) _ (ltl_own (ltl_own (ltl_box (hL.chg e5122) (hB4918.ext e5121)) (h4900.ext e5121)) (h4897.ext e5121)) [v1, (.int .i64 p_Listappend.Window), (.int .i64 p_Listappend.Tooth), (.int .i64 p_Listappend.PerVane), (.int .i64 p_Listappend.First), (.int .i64 p_Listappend.Modulus), (.int .i64 p_Listappend.Slack), (.int .i64 p_Listappend.Errors), (.bool p_Listappend.Round)] p_Listappend ⟨v1, (h4910.ext e5121), rfl⟩ [v4, (.int .i64 p_String.Time), v6] p_String ⟨v4, v6, (h4913.ext e5121), (h4914.ext e5121), rfl⟩ x4625 r5132 hr5133) ?_)
                  rintro _ wd5134 ⟨he5135, cs5138, rfl, hrd5139⟩
                  have e5140 := e5121.trans he5135
                  have e5141 := he5120.trans he5135
                  have e5142 := e5122.trans he5135
                  obtain ⟨v5136, h5137, rfl⟩ := hrd5139
                  refine T0_q (v := (.tuple #[(.agg (List.toArray [v5136, (.int .i64 r5132.1.Count)])), (.bool r5132.2)])) rfl (yl_move rfl) ?_
                  refine T0_q (v := (.agg (List.toArray [v5136, (.int .i64 r5132.1.Count)]))) rfl (yl_extract rfl rfl) ?_
                  refine T0_q (v := (.bool r5132.2)) rfl (yl_extract rfl rfl) ?_
                  refine T0_e rfl (eff_allocZ zi45 ?_)
                  intro b5144 wd5145 hb5146 he5147 hB5148
                  have hn5149 : b5144 ≠ b11 := box_ne (hB4912.ext e5140) hb5146
                  have hn5150 : b5144 ≠ b19 := box_ne (hB4916.ext e5140) hb5146
                  have hn5151 : b5144 ≠ b71 := box_ne (hB4918.ext e5140) hb5146
                  have hn5152 : b5144 ≠ b4906 := box_ne (hB4922.ext e5140) hb5146
                  have hn5153 : blk v4607 ≠ some b5144 := ne_new_box (h4897.ext e5140) hb5146
                  have hn5154 : blk v4614 ≠ some b5144 := ne_new_box (h4900.ext e5140) hb5146
                  have hbf5155 := bfresh e5142 hb5146
                  have h5156 := (h4897.ext e5140).step (add_box he5147 hb5146) he5147 (fun _ _ => Avoids.nil _)
                  have h5157 := (h4900.ext e5140).step (add_box he5147 hb5146) he5147 (fun _ _ => Avoids.nil _)
                  have h5158 := (h4910.ext e5140).step (add_box he5147 hb5146)
                  have h5159 := (h4913.ext e5140).step (add_box he5147 hb5146)
                  have h5160 := (h4914.ext e5140).step (add_box he5147 hb5146)
                  have h5161 := (h5111.ext e5141).step (add_box he5147 hb5146)
                  have h5162 := h5137.step (add_box he5147 hb5146)
                  have e5163 := e5140.trans he5147
                  have e5164 := e5142.trans he5147
                  refine T0_e rfl (eff_storeC (vs := [v5136, (.int .i64 r5132.1.Count)]) (cs' := [v5136, (.int .i64 r5132.1.Count)]) sz45 rfl rfl rfl rfl hB5148 rfl (oc_cons h5162.one1 (oc_cons rfl oc_nil)) rfl ?_)
                  intro wd5166 hc5167 hB5168
                  have h5169 := h5156.step (Stepp.chg_mem hc5167 mem0) hc5167 (av_box hn5153)
                  have h5170 := h5157.step (Stepp.chg_mem hc5167 mem0) hc5167 (av_box hn5154)
                  have h5171 := h5158.step (Stepp.chg_mem hc5167 mem0)
                  have h5172 := (hB4912.ext e5163).chg hc5167 (avoidb hn5149)
                  have h5173 := h5159.step (Stepp.chg_mem hc5167 mem0)
                  have h5174 := h5160.step (Stepp.chg_mem hc5167 mem0)
                  have h5175 := (hB4916.ext e5163).chg hc5167 (avoidb hn5150)
                  have h5176 := (hB4918.ext e5163).chg hc5167 (avoidb hn5151)
                  have h5177 := (hB4922.ext e5163).chg hc5167 (avoidb hn5152)
                  have h5178 := h5161.step (Stepp.chg_mem hc5167 mem0)
                  have h5179 := h5162.step (Stepp.chg_mem hc5167 mem0)
                  have e5180 := chg_box e5164 hc5167 hbf5155
                  refine T0_q (v := (.bool r5132.2)) rfl (yl_assign rfl) ?_
                  refine T0_nil ?_
                  refine hK5131 _ _ ?_
                  refine WC_seqK fun K5181 hK5181 => ?_
                  refine WC_seqK fun K5182 hK5182 => ?_
                  refine WC_region ?_
                  refine T0_q (v := (.bool r5132.2)) rfl (yl_move rfl) ?_
                  refine T0_q (v := (.bool (!r5132.2))) rfl (yl_not rfl) ?_
                  refine T0_nil ?_
                  refine hK5182 _ _ ?_
                  refine WC_cond (b := (!r5132.2)) rfl (fun hb5183 => ?_) (fun hb5183 => ?_)
                  · replace h := cond_t hb5183 h
                    refine WC_seqK fun K5184 hK5184 => ?_
                    refine WC_region ?_
                    refine T0_q (v := (.bool true)) rfl (yl_assign rfl) ?_
                    refine T0_nil ?_
                    refine hK5184 _ _ ?_
                    refine WC_ret ?_
                    replace h := some_out h
                    subst h
                    have ho := hx4688 _ rfl
                    subst ho
                    replace h := jn0_inl hn4686
                    replace h := some_out h
                    subst h
                    exact ⟨[(.bool true)], ⟨rfl, trivial⟩, e5180, rfl⟩
                  · replace h := cond_f hb5183 h
                    refine WC_skip ?_
                    refine hK5181 _ _ ?_
                    refine WC_seqK fun K5185 hK5185 => ?_
                    obtain ⟨o5402, ho5403, hn5404⟩ := bind_elim h
                    refine WC_post (fun (ρ : Env) (wd5364 : World) => ∃ (x5381 : Int) (x5392 : Int) (x5393 : Int) (b5379 : Nat), (x5381, x5392, x5393) = o5402 ∧ ρ 2 = (.pointer (some ⟨b11, 0, none⟩)) ∧ ρ 3 = (.pointer (some ⟨b19, 0, none⟩)) ∧ ρ 5 = v4607 ∧ ρ 6 = v4614 ∧ ρ 7 = (.pointer (some ⟨b71, 0, none⟩)) ∧ ρ 8 = (.int .i64 x4621) ∧ ρ 9 = (.int .i64 x4623) ∧ ρ 10 = (.int .i64 x4625) ∧ ρ 13 = (.int .i64 x4919) ∧ ρ 18 = (.pointer (some ⟨b5379, 0, none⟩)) ∧ ρ 19 = (.int .i64 x5381) ∧ SlRd (v4607 :: v4614 :: (.pointer (some ⟨b71, 0, none⟩)) :: L) wd5364 v1 p_Listappend.Vanes ∧ SlRd (v4607 :: v4614 :: (.pointer (some ⟨b71, 0, none⟩)) :: L) wd5364 v4 p_String.Teeth ∧ SlRd (v4607 :: v4614 :: (.pointer (some ⟨b71, 0, none⟩)) :: L) wd5364 v6 p_String.Spoilt ∧ Box wd5364 b11 [v1, (.int .i64 p_Listappend.Window), (.int .i64 p_Listappend.Tooth), (.int .i64 p_Listappend.PerVane), (.int .i64 p_Listappend.First), (.int .i64 p_Listappend.Modulus), (.int .i64 p_Listappend.Slack), (.int .i64 p_Listappend.Errors), (.bool p_Listappend.Round)] 24 ∧ Box wd5364 b19 [v4, (.int .i64 p_String.Time), v6] 27 ∧ Box wd5364 b71 [(.int .i64 x4634), (.int .i64 x4635)] 35 ∧ Box wd5364 b5379 [(.int .i64 x5392), (.int .i64 x5393)] 35 ∧ Own 51 (v4607 :: v4614 :: (.pointer (some ⟨b71, 0, none⟩)) :: L) wd5364 v4607 x4608 ∧ Own 35 (v4607 :: v4614 :: (.pointer (some ⟨b71, 0, none⟩)) :: L) wd5364 v4614 x4615 ∧ (blk v4607 ≠ some b5379) ∧ (blk v4614 ≠ some b5379) ∧ (w.heap.size ≤ b5379) ∧ (b11 ≠ b5379) ∧ (b19 ≠ b5379) ∧ (b71 ≠ b5379) ∧ Ext w wd5364) ?_ ?_
                    · intro K5405 hK5405
                      replace h := ho5403
                      clear ho5403
                      refine WC_plan mixed (.q 0 (.q 2 (.f 1 (.f 3 (.p 4 (.p 5 (.p 6 (.e 7 (.b 8 (.p 9 .done)))))) 7 (.e 3 (.p 4 (.p 5 (.p 6 (.b 8 (.p 9 .done))))))) 7 (.e 1 (.e 3 (.p 4 (.p 5 (.p 6 (.b 8 (.p 9 .done)))))))))) (by kernel_rfl) ?_
                      intro wd5406 he5407
                      have e5408 := e5180.trans he5407
                      refine TP_q (v := (.agg (List.toArray [v1, (.int .i64 p_Listappend.Window), (.int .i64 p_Listappend.Tooth), (.int .i64 p_Listappend.PerVane), (.int .i64 p_Listappend.First), (.int .i64 p_Listappend.Modulus), (.int .i64 p_Listappend.Slack), (.int .i64 p_Listappend.Errors), (.bool p_Listappend.Round)]))) rfl rfl (fun w' hS => (yl_loadA (cs := [v1, (.int .i64 p_Listappend.Window), (.int .i64 p_Listappend.Tooth), (.int .i64 p_Listappend.PerVane), (.int .i64 p_Listappend.First), (.int .i64 p_Listappend.Modulus), (.int .i64 p_Listappend.Slack), (.int .i64 p_Listappend.Errors), (.bool p_Listappend.Round)]) ag24 hs4894 (Box.at (h5172.ext ((he5407).trans hS))))) ?_
                      refine TP_q (v := (.agg (List.toArray [v5136, (.int .i64 r5132.1.Count)]))) rfl rfl (fun w' hS => (yl_loadA (cs := [v5136, (.int .i64 r5132.1.Count)]) ag45 rfl (Box.at (hB5168.ext ((he5407).trans hS))))) ?_
                      refine TP_f rfl rfl rfl rfl ?_ ?_
                      · skip
                        obtain ⟨r5409, hr5410, h⟩ := bind_elim h
                        refine  (eff_call Try.func10 nm10 rfl (ev1 rfl) (ref04_Copy_ok ((.pointer (some ⟨b5144, 0, none⟩)) :: v4607 :: v4614 :: (.pointer (some ⟨b71, 0, none⟩)) :: L) _ (ltl_box (ltl_own (ltl_own (ltl_box (hL.chg e5408) (h5176.ext he5407)) (h5170.ext he5407)) (h5169.ext he5407)) (hB5168.ext he5407)) [v1, (.int .i64 p_Listappend.Window), (.int .i64 p_Listappend.Tooth), (.int .i64 p_Listappend.PerVane), (.int .i64 p_Listappend.First), (.int .i64 p_Listappend.Modulus), (.int .i64 p_Listappend.Slack), (.int .i64 p_Listappend.Errors), (.bool p_Listappend.Round)] p_Listappend ⟨v1, (h5171.ext he5407), rfl⟩ r5409 hr5410) ?_)
                        rintro _ wd5411 ⟨he5412, cs5415, rfl, hrd5416⟩
                        have e5417 := he5407.trans he5412
                        have e5418 := e5408.trans he5412
                        obtain ⟨v5413, h5414, rfl⟩ := hrd5416
                        refine ⟨he5412, ?_⟩
                        refine TP_f rfl rfl rfl rfl ?_ ?_
                        · skip
                          obtain ⟨r5420, hr5421, h⟩ := bind_elim h
                          refine  (eff_call Try.func14 nm14 rfl (ev2 rfl rfl) (locate_PlaceOf_ok [] _ (LtL.nil _) [v5413, (.int .i64 r5409.Window), (.int .i64 r5409.Tooth), (.int .i64 r5409.PerVane), (.int .i64 r5409.First), (.int .i64 r5409.Modulus), (.int .i64 r5409.Slack), (.int .i64 r5409.Errors), (.bool r5409.Round)] r5409 ⟨v5413, (h5414.sub (fun _ h => by cases h)), rfl⟩ [v5136, (.int .i64 r5132.1.Count)] (LocateReading.mk r5132.1.Seen r5132.1.Count) ⟨v5136, ((h5179.ext e5417).sub (fun _ h => by cases h)), rfl⟩ r5420 hr5421) ?_)
                          rintro _ wd5422 ⟨he5423, cs5424, rfl, hrd5425⟩
                          have e5426 := e5417.trans he5423
                          have e5427 := he5412.trans he5423
                          have e5428 := e5418.trans he5423
                          have hrd5425 : cs5424 = [(.int .i64 r5420.1.Lo), (.int .i64 r5420.1.Hi)] := hrd5425
                          subst hrd5425
                          refine ⟨e5427, ?_⟩
                          refine TP_p (v := (.tuple #[(.agg (List.toArray [(.int .i64 r5420.1.Lo), (.int .i64 r5420.1.Hi)])), (.int .i64 r5420.2)])) rfl rfl (fun w' => (yl_move rfl)) ?_
                          refine TP_p (v := (.agg (List.toArray [(.int .i64 r5420.1.Lo), (.int .i64 r5420.1.Hi)]))) rfl rfl (fun w' => (yl_extract rfl rfl)) ?_
                          refine TP_p (v := (.int .i64 r5420.2)) rfl rfl (fun w' => (yl_extract rfl rfl)) ?_
                          refine TP_e rfl rfl (eff_allocZ zi35 ?_)
                          intro b5429 wd5430 hb5431 he5432 hB5433
                          have hn5434 : b5429 ≠ b11 := box_ne (h5172.ext e5426) hb5431
                          have hn5435 : b5429 ≠ b19 := box_ne (h5175.ext e5426) hb5431
                          have hn5436 : b5429 ≠ b71 := box_ne (h5176.ext e5426) hb5431
                          have hn5437 : b5429 ≠ b4906 := box_ne (h5177.ext e5426) hb5431
                          have hn5438 : b5429 ≠ b5144 := box_ne (hB5168.ext e5426) hb5431
                          have hn5439 : blk v4607 ≠ some b5429 := ne_new_box (h5169.ext e5426) hb5431
                          have hn5440 : blk v4614 ≠ some b5429 := ne_new_box (h5170.ext e5426) hb5431
                          have hbf5441 := bfresh e5428 hb5431
                          have h5442 := (h5169.ext e5426).step (add_box he5432 hb5431) he5432 (fun _ _ => Avoids.nil _)
                          have h5443 := (h5170.ext e5426).step (add_box he5432 hb5431) he5432 (fun _ _ => Avoids.nil _)
                          have h5444 := (h5171.ext e5426).step (add_box he5432 hb5431)
                          have h5445 := (h5173.ext e5426).step (add_box he5432 hb5431)
                          have h5446 := (h5174.ext e5426).step (add_box he5432 hb5431)
                          have h5447 := (h5178.ext e5426).step (add_box he5432 hb5431)
                          have h5448 := (h5179.ext e5426).step (add_box he5432 hb5431)
                          have h5449 := (h5414.ext he5423).step (add_box he5432 hb5431)
                          have e5450 := e5426.trans he5432
                          have e5451 := e5427.trans he5432
                          have e5452 := e5428.trans he5432
                          refine ⟨e5451, ?_⟩
                          refine TP_b rfl rfl (eff_storeC (vs := [(.int .i64 r5420.1.Lo), (.int .i64 r5420.1.Hi)]) (cs' := [(.int .i64 r5420.1.Lo), (.int .i64 r5420.1.Hi)]) sz35 rfl rfl rfl rfl hB5433 rfl (oc_cons rfl (oc_cons rfl oc_nil)) rfl ?_)
                          intro wd5454 hc5455 hB5456
                          have h5457 := h5442.step (Stepp.chg_mem hc5455 mem0) hc5455 (av_box hn5439)
                          have h5458 := h5443.step (Stepp.chg_mem hc5455 mem0) hc5455 (av_box hn5440)
                          have h5459 := h5444.step (Stepp.chg_mem hc5455 mem0)
                          have h5460 := (h5172.ext e5450).chg hc5455 (avoidb hn5434)
                          have h5461 := h5445.step (Stepp.chg_mem hc5455 mem0)
                          have h5462 := h5446.step (Stepp.chg_mem hc5455 mem0)
                          have h5463 := (h5175.ext e5450).chg hc5455 (avoidb hn5435)
                          have h5464 := (h5176.ext e5450).chg hc5455 (avoidb hn5436)
                          have h5465 := (h5177.ext e5450).chg hc5455 (avoidb hn5437)
                          have h5466 := h5447.step (Stepp.chg_mem hc5455 mem0)
                          have h5467 := h5448.step (Stepp.chg_mem hc5455 mem0)
                          have h5468 := (hB5168.ext e5450).chg hc5455 (avoidb hn5438)
                          have h5469 := h5449.step (Stepp.chg_mem hc5455 mem0)
                          have e5470 := chg_box e5452 hc5455 hbf5441
                          refine TP_p (v := (.int .i64 r5420.2)) rfl rfl (fun w' => (yl_assign rfl)) ?_
                          refine TP_done ?_
                          replace h := some_out h
                          subst h
                          refine hK5405 _ _ ?_
                          exact ⟨r5420.2, r5420.1.Lo, r5420.1.Hi, b5429, rfl, hs4894, hs4895, hs4898, hs4901, hs4902, hs4903, hs4904, hs4905, rfl, rfl, rfl, (h5459.sub (sub_cons (memS (memS mem0)) (sub_cons (memS (memS (memS mem0))) (sub_cons (memS (memS (memS (memS mem0)))) (sub_skip (sub_skip (sub_skip (sub_skip (sub_skip (sub_refl _)))))))))), (h5461.sub (sub_cons (memS (memS mem0)) (sub_cons (memS (memS (memS mem0))) (sub_cons (memS (memS (memS (memS mem0)))) (sub_skip (sub_skip (sub_skip (sub_skip (sub_skip (sub_refl _)))))))))), (h5462.sub (sub_cons (memS (memS mem0)) (sub_cons (memS (memS (memS mem0))) (sub_cons (memS (memS (memS (memS mem0)))) (sub_skip (sub_skip (sub_skip (sub_skip (sub_skip (sub_refl _)))))))))), h5460, h5463, h5464, hB5456, (h5457.sub (sub_cons (memS (memS mem0)) (sub_cons (memS (memS (memS mem0))) (sub_cons (memS (memS (memS (memS mem0)))) (sub_skip (sub_skip (sub_skip (sub_skip (sub_skip (sub_refl _)))))))))), (h5458.sub (sub_cons (memS (memS mem0)) (sub_cons (memS (memS (memS mem0))) (sub_cons (memS (memS (memS (memS mem0)))) (sub_skip (sub_skip (sub_skip (sub_skip (sub_skip (sub_refl _)))))))))), hn5439, hn5440, hbf5441, hn5434.symm, hn5435.symm, hn5436.symm, e5470⟩
                        · skip
                          refine  (eff_allocZ zi35 ?_)
                          intro b5471 wd5472 hb5473 he5474 hB5475
                          have hn5476 : b5471 ≠ b11 := box_ne (h5172.ext e5417) hb5473
                          have hn5477 : b5471 ≠ b19 := box_ne (h5175.ext e5417) hb5473
                          have hn5478 : b5471 ≠ b71 := box_ne (h5176.ext e5417) hb5473
                          have hn5479 : b5471 ≠ b4906 := box_ne (h5177.ext e5417) hb5473
                          have hn5480 : b5471 ≠ b5144 := box_ne (hB5168.ext e5417) hb5473
                          have hn5481 : blk v4607 ≠ some b5471 := ne_new_box (h5169.ext e5417) hb5473
                          have hn5482 : blk v4614 ≠ some b5471 := ne_new_box (h5170.ext e5417) hb5473
                          have hbf5483 := bfresh e5418 hb5473
                          have h5484 := (h5169.ext e5417).step (add_box he5474 hb5473) he5474 (fun _ _ => Avoids.nil _)
                          have h5485 := (h5170.ext e5417).step (add_box he5474 hb5473) he5474 (fun _ _ => Avoids.nil _)
                          have h5486 := (h5171.ext e5417).step (add_box he5474 hb5473)
                          have h5487 := (h5173.ext e5417).step (add_box he5474 hb5473)
                          have h5488 := (h5174.ext e5417).step (add_box he5474 hb5473)
                          have h5489 := (h5178.ext e5417).step (add_box he5474 hb5473)
                          have h5490 := (h5179.ext e5417).step (add_box he5474 hb5473)
                          have h5491 := h5414.step (add_box he5474 hb5473)
                          have e5492 := e5417.trans he5474
                          have e5493 := he5412.trans he5474
                          have e5494 := e5418.trans he5474
                          refine ⟨e5493, ?_⟩
                          obtain ⟨r5496, hr5497, h⟩ := bind_elim h
                          refine TP_e rfl rfl (eff_call Try.func14 nm14 rfl (ev2 rfl rfl) (locate_PlaceOf_ok [] _ (LtL.nil _) [v5413, (.int .i64 r5409.Window), (.int .i64 r5409.Tooth), (.int .i64 r5409.PerVane), (.int .i64 r5409.First), (.int .i64 r5409.Modulus), (.int .i64 r5409.Slack), (.int .i64 r5409.Errors), (.bool r5409.Round)] r5409 ⟨v5413, (h5491.sub (fun _ h => by cases h)), rfl⟩ [v5136, (.int .i64 r5132.1.Count)] (LocateReading.mk r5132.1.Seen r5132.1.Count) ⟨v5136, (h5490.sub (fun _ h => by cases h)), rfl⟩ r5496 hr5497) ?_)
                          rintro _ wd5498 ⟨he5499, cs5500, rfl, hrd5501⟩
                          have e5502 := e5492.trans he5499
                          have e5503 := e5493.trans he5499
                          have e5504 := e5494.trans he5499
                          have hrd5501 : cs5500 = [(.int .i64 r5496.1.Lo), (.int .i64 r5496.1.Hi)] := hrd5501
                          subst hrd5501
                          refine ⟨e5503, ?_⟩
                          refine TP_p (v := (.tuple #[(.agg (List.toArray [(.int .i64 r5496.1.Lo), (.int .i64 r5496.1.Hi)])), (.int .i64 r5496.2)])) rfl rfl (fun w' => (yl_move rfl)) ?_
                          refine TP_p (v := (.agg (List.toArray [(.int .i64 r5496.1.Lo), (.int .i64 r5496.1.Hi)]))) rfl rfl (fun w' => (yl_extract rfl rfl)) ?_
                          refine TP_p (v := (.int .i64 r5496.2)) rfl rfl (fun w' => (yl_extract rfl rfl)) ?_
                          refine TP_b rfl rfl (eff_storeC (vs := [(.int .i64 r5496.1.Lo), (.int .i64 r5496.1.Hi)]) (cs' := [(.int .i64 r5496.1.Lo), (.int .i64 r5496.1.Hi)]) sz35 rfl rfl rfl rfl (hB5475.ext he5499) rfl (oc_cons rfl (oc_cons rfl oc_nil)) rfl ?_)
                          intro wd5505 hc5506 hB5507
                          have h5508 := (h5484.ext he5499).step (Stepp.chg_mem hc5506 mem0) hc5506 (av_box hn5481)
                          have h5509 := (h5485.ext he5499).step (Stepp.chg_mem hc5506 mem0) hc5506 (av_box hn5482)
                          have h5510 := (h5486.ext he5499).step (Stepp.chg_mem hc5506 mem0)
                          have h5511 := (h5172.ext e5502).chg hc5506 (avoidb hn5476)
                          have h5512 := (h5487.ext he5499).step (Stepp.chg_mem hc5506 mem0)
                          have h5513 := (h5488.ext he5499).step (Stepp.chg_mem hc5506 mem0)
                          have h5514 := (h5175.ext e5502).chg hc5506 (avoidb hn5477)
                          have h5515 := (h5176.ext e5502).chg hc5506 (avoidb hn5478)
                          have h5516 := (h5177.ext e5502).chg hc5506 (avoidb hn5479)
                          have h5517 := (h5489.ext he5499).step (Stepp.chg_mem hc5506 mem0)
                          have h5518 := (h5490.ext he5499).step (Stepp.chg_mem hc5506 mem0)
                          have h5519 := (hB5168.ext e5502).chg hc5506 (avoidb hn5480)
                          have h5520 := (h5491.ext he5499).step (Stepp.chg_mem hc5506 mem0)
                          have e5521 := chg_box e5504 hc5506 hbf5483
                          refine TP_p (v := (.int .i64 r5496.2)) rfl rfl (fun w' => (yl_assign rfl)) ?_
                          refine TP_done ?_
                          replace h := some_out h
                          subst h
                          refine hK5405 _ _ ?_
                          exact ⟨r5496.2, r5496.1.Lo, r5496.1.Hi, b5471, rfl, hs4894, hs4895, hs4898, hs4901, hs4902, hs4903, hs4904, hs4905, rfl, rfl, rfl, (h5510.sub (sub_cons (memS (memS mem0)) (sub_cons (memS (memS (memS mem0))) (sub_cons (memS (memS (memS (memS mem0)))) (sub_skip (sub_skip (sub_skip (sub_skip (sub_skip (sub_refl _)))))))))), (h5512.sub (sub_cons (memS (memS mem0)) (sub_cons (memS (memS (memS mem0))) (sub_cons (memS (memS (memS (memS mem0)))) (sub_skip (sub_skip (sub_skip (sub_skip (sub_skip (sub_refl _)))))))))), (h5513.sub (sub_cons (memS (memS mem0)) (sub_cons (memS (memS (memS mem0))) (sub_cons (memS (memS (memS (memS mem0)))) (sub_skip (sub_skip (sub_skip (sub_skip (sub_skip (sub_refl _)))))))))), h5511, h5514, h5515, hB5507, (h5508.sub (sub_cons (memS (memS mem0)) (sub_cons (memS (memS (memS mem0))) (sub_cons (memS (memS (memS (memS mem0)))) (sub_skip (sub_skip (sub_skip (sub_skip (sub_skip (sub_refl _)))))))))), (h5509.sub (sub_cons (memS (memS mem0)) (sub_cons (memS (memS (memS mem0))) (sub_cons (memS (memS (memS (memS mem0)))) (sub_skip (sub_skip (sub_skip (sub_skip (sub_skip (sub_refl _)))))))))), hn5481, hn5482, hbf5483, hn5476.symm, hn5477.symm, hn5478.symm, e5521⟩
                      · skip
                        refine  (eff_allocZ zi35 ?_)
                        intro b5522 wd5523 hb5524 he5525 hB5526
                        have hn5527 : b5522 ≠ b11 := box_ne (h5172.ext he5407) hb5524
                        have hn5528 : b5522 ≠ b19 := box_ne (h5175.ext he5407) hb5524
                        have hn5529 : b5522 ≠ b71 := box_ne (h5176.ext he5407) hb5524
                        have hn5530 : b5522 ≠ b4906 := box_ne (h5177.ext he5407) hb5524
                        have hn5531 : b5522 ≠ b5144 := box_ne (hB5168.ext he5407) hb5524
                        have hn5532 : blk v4607 ≠ some b5522 := ne_new_box (h5169.ext he5407) hb5524
                        have hn5533 : blk v4614 ≠ some b5522 := ne_new_box (h5170.ext he5407) hb5524
                        have hbf5534 := bfresh e5408 hb5524
                        have h5535 := (h5169.ext he5407).step (add_box he5525 hb5524) he5525 (fun _ _ => Avoids.nil _)
                        have h5536 := (h5170.ext he5407).step (add_box he5525 hb5524) he5525 (fun _ _ => Avoids.nil _)
                        have h5537 := (h5171.ext he5407).step (add_box he5525 hb5524)
                        have h5538 := (h5173.ext he5407).step (add_box he5525 hb5524)
                        have h5539 := (h5174.ext he5407).step (add_box he5525 hb5524)
                        have h5540 := (h5178.ext he5407).step (add_box he5525 hb5524)
                        have h5541 := (h5179.ext he5407).step (add_box he5525 hb5524)
                        have e5542 := he5407.trans he5525
                        have e5543 := e5408.trans he5525
                        refine ⟨he5525, ?_⟩
                        obtain ⟨r5545, hr5546, h⟩ := bind_elim h
                        refine TP_e rfl rfl (eff_call Try.func10 nm10 rfl (ev1 rfl) (ref04_Copy_ok ((.pointer (some ⟨b5522, 0, none⟩)) :: (.pointer (some ⟨b5144, 0, none⟩)) :: v4607 :: v4614 :: (.pointer (some ⟨b71, 0, none⟩)) :: L) _ (ltl_box (ltl_box (ltl_own (ltl_own (ltl_box (hL.chg e5543) (h5176.ext e5542)) h5536) h5535) (hB5168.ext e5542)) hB5526) [v1, (.int .i64 p_Listappend.Window), (.int .i64 p_Listappend.Tooth), (.int .i64 p_Listappend.PerVane), (.int .i64 p_Listappend.First), (.int .i64 p_Listappend.Modulus), (.int .i64 p_Listappend.Slack), (.int .i64 p_Listappend.Errors), (.bool p_Listappend.Round)] p_Listappend ⟨v1, h5537, rfl⟩ r5545 hr5546) ?_)
                        rintro _ wd5547 ⟨he5548, cs5551, rfl, hrd5552⟩
                        have e5553 := e5542.trans he5548
                        have e5554 := he5525.trans he5548
                        have e5555 := e5543.trans he5548
                        obtain ⟨v5549, h5550, rfl⟩ := hrd5552
                        refine ⟨e5554, ?_⟩
                        obtain ⟨r5557, hr5558, h⟩ := bind_elim h
                        refine TP_e rfl rfl (eff_call Try.func14 nm14 rfl (ev2 rfl rfl) (locate_PlaceOf_ok [] _ (LtL.nil _) [v5549, (.int .i64 r5545.Window), (.int .i64 r5545.Tooth), (.int .i64 r5545.PerVane), (.int .i64 r5545.First), (.int .i64 r5545.Modulus), (.int .i64 r5545.Slack), (.int .i64 r5545.Errors), (.bool r5545.Round)] r5545 ⟨v5549, (h5550.sub (fun _ h => by cases h)), rfl⟩ [v5136, (.int .i64 r5132.1.Count)] (LocateReading.mk r5132.1.Seen r5132.1.Count) ⟨v5136, ((h5541.ext he5548).sub (fun _ h => by cases h)), rfl⟩ r5557 hr5558) ?_)
                        rintro _ wd5559 ⟨he5560, cs5561, rfl, hrd5562⟩
                        have e5563 := e5553.trans he5560
                        have e5564 := he5548.trans he5560
                        have e5565 := e5554.trans he5560
                        have e5566 := e5555.trans he5560
                        have hrd5562 : cs5561 = [(.int .i64 r5557.1.Lo), (.int .i64 r5557.1.Hi)] := hrd5562
                        subst hrd5562
                        refine ⟨e5565, ?_⟩
                        refine TP_p (v := (.tuple #[(.agg (List.toArray [(.int .i64 r5557.1.Lo), (.int .i64 r5557.1.Hi)])), (.int .i64 r5557.2)])) rfl rfl (fun w' => (yl_move rfl)) ?_
                        refine TP_p (v := (.agg (List.toArray [(.int .i64 r5557.1.Lo), (.int .i64 r5557.1.Hi)]))) rfl rfl (fun w' => (yl_extract rfl rfl)) ?_
                        refine TP_p (v := (.int .i64 r5557.2)) rfl rfl (fun w' => (yl_extract rfl rfl)) ?_
                        refine TP_b rfl rfl (eff_storeC (vs := [(.int .i64 r5557.1.Lo), (.int .i64 r5557.1.Hi)]) (cs' := [(.int .i64 r5557.1.Lo), (.int .i64 r5557.1.Hi)]) sz35 rfl rfl rfl rfl (hB5526.ext e5564) rfl (oc_cons rfl (oc_cons rfl oc_nil)) rfl ?_)
                        intro wd5567 hc5568 hB5569
                        have h5570 := (h5535.ext e5564).step (Stepp.chg_mem hc5568 mem0) hc5568 (av_box hn5532)
                        have h5571 := (h5536.ext e5564).step (Stepp.chg_mem hc5568 mem0) hc5568 (av_box hn5533)
                        have h5572 := (h5537.ext e5564).step (Stepp.chg_mem hc5568 mem0)
                        have h5573 := (h5172.ext e5563).chg hc5568 (avoidb hn5527)
                        have h5574 := (h5538.ext e5564).step (Stepp.chg_mem hc5568 mem0)
                        have h5575 := (h5539.ext e5564).step (Stepp.chg_mem hc5568 mem0)
                        have h5576 := (h5175.ext e5563).chg hc5568 (avoidb hn5528)
                        have h5577 := (h5176.ext e5563).chg hc5568 (avoidb hn5529)
                        have h5578 := (h5177.ext e5563).chg hc5568 (avoidb hn5530)
                        have h5579 := (h5540.ext e5564).step (Stepp.chg_mem hc5568 mem0)
                        have h5580 := (h5541.ext e5564).step (Stepp.chg_mem hc5568 mem0)
                        have h5581 := (hB5168.ext e5563).chg hc5568 (avoidb hn5531)
                        have h5582 := (h5550.ext he5560).step (Stepp.chg_mem hc5568 mem0)
                        have e5583 := chg_box e5566 hc5568 hbf5534
                        refine TP_p (v := (.int .i64 r5557.2)) rfl rfl (fun w' => (yl_assign rfl)) ?_
                        refine TP_done ?_
                        replace h := some_out h
                        subst h
                        refine hK5405 _ _ ?_
                        exact ⟨r5557.2, r5557.1.Lo, r5557.1.Hi, b5522, rfl, hs4894, hs4895, hs4898, hs4901, hs4902, hs4903, hs4904, hs4905, rfl, rfl, rfl, (h5572.sub (sub_cons (memS (memS mem0)) (sub_cons (memS (memS (memS mem0))) (sub_cons (memS (memS (memS (memS mem0)))) (sub_skip (sub_skip (sub_skip (sub_skip (sub_skip (sub_refl _)))))))))), (h5574.sub (sub_cons (memS (memS mem0)) (sub_cons (memS (memS (memS mem0))) (sub_cons (memS (memS (memS (memS mem0)))) (sub_skip (sub_skip (sub_skip (sub_skip (sub_skip (sub_refl _)))))))))), (h5575.sub (sub_cons (memS (memS mem0)) (sub_cons (memS (memS (memS mem0))) (sub_cons (memS (memS (memS (memS mem0)))) (sub_skip (sub_skip (sub_skip (sub_skip (sub_skip (sub_refl _)))))))))), h5573, h5576, h5577, hB5569, (h5570.sub (sub_cons (memS (memS mem0)) (sub_cons (memS (memS (memS mem0))) (sub_cons (memS (memS (memS (memS mem0)))) (sub_skip (sub_skip (sub_skip (sub_skip (sub_skip (sub_refl _)))))))))), (h5571.sub (sub_cons (memS (memS mem0)) (sub_cons (memS (memS (memS mem0))) (sub_cons (memS (memS (memS (memS mem0)))) (sub_skip (sub_skip (sub_skip (sub_skip (sub_skip (sub_refl _)))))))))), hn5532, hn5533, hbf5534, hn5527.symm, hn5528.symm, hn5529.symm, e5583⟩
                    · rintro ρ wd5364 ⟨x5381, x5392, x5393, b5379, rfl, hs5366, hs5367, hs5370, hs5373, hs5374, hs5375, hs5376, hs5377, hs5378, hs5380, hs5382, h5383, h5386, h5387, hB5385, hB5389, hB5391, hB5395, h5369, h5372, hn5396, hn5397, hf5398, hn5399, hn5400, hn5401, e5365⟩
                      replace h := hn5404
                      refine hK5185 _ _ ?_
                      refine WC_seqK fun K5584 hK5584 => ?_
                      refine WC_seqK fun K5585 hK5585 => ?_
                      refine WC_region ?_
                      refine T0_q (v := (.int .i64 x5381)) rfl (yl_move hs5382) ?_
                      refine T0_q (v := (.bool (!decide (x5381 = 0)))) rfl (yl_neq rfl rfl) ?_
                      refine T0_q (v := (.bool (!decide (x5381 = 0)))) rfl (yl_move rfl) ?_
                      refine T0_g (v := (.int .i64 x5381)) (!decide (x5381 = 0)) (wanted_t rfl rfl rfl rfl) (fun hg => (yl_move hs5382)) ?_
                      refine T0_g (v := (.bool (!decide (x5381 = 29)))) (!decide (x5381 = 0)) (wanted_t rfl rfl rfl rfl) (fun hg => (yl_neq (gd_true hg) rfl)) ?_
                      refine T0_q (v := (.bool ((!decide (x5381 = 0)) && (!decide (x5381 = 29))))) rfl (yl_and rfl (fun hb => (gd_true hb)) rfl) ?_
                      refine T0_nil ?_
                      refine hK5585 _ _ ?_
                      refine WC_cond (b := ((!decide (x5381 = 0)) && (!decide (x5381 = 29)))) rfl (fun hb5586 => ?_) (fun hb5586 => ?_)
                      · replace h := cond_t hb5586 h
                        refine WC_seqK fun K5587 hK5587 => ?_
                        refine WC_region ?_
                        refine T0_q (v := (.bool false)) rfl (yl_assign rfl) ?_
                        refine T0_nil ?_
                        refine hK5587 _ _ ?_
                        refine WC_ret ?_
                        replace h := some_out h
                        subst h
                        have ho := hx4688 _ rfl
                        subst ho
                        replace h := jn0_inl hn4686
                        replace h := some_out h
                        subst h
                        exact ⟨[(.bool false)], ⟨rfl, trivial⟩, e5365, rfl⟩
                      · replace h := cond_f hb5586 h
                        refine WC_skip ?_
                        refine hK5584 _ _ ?_
                        refine WC_seqK fun K5588 hK5588 => ?_
                        refine WC_region ?_
                        refine T0_q (v := (.int .i64 x5381)) rfl (yl_move hs5382) ?_
                        refine T0_q (v := (.bool (decide (x5381 = 0)))) rfl (yl_eql rfl rfl) ?_
                        refine T0_nil ?_
                        refine hK5588 _ _ ?_
                        refine WC_cond (b := (decide (x5381 = 0))) rfl (fun hb5589 => ?_) (fun hb5589 => ?_)
                        · replace h := cond_t hb5589 h
                          refine WC_seqK fun K5590 hK5590 => ?_
                          refine WC_seqK fun K5591 hK5591 => ?_
                          refine WC_region ?_
                          refine T0_q (v := (.int .i64 x4919)) rfl (yl_move hs5378) ?_
                          refine T0_q (v := (.pointer (some ⟨b5379, 0, none⟩))) rfl (yl_fa 0 Try.underlying35 rfl rfl ⟨0, sz3⟩ hs5380 rfl) ?_
                          refine T0_q (v := (.int .i64 x5392)) rfl (yl_load sc3 rfl (Box.at hB5395)) ?_
                          refine T0_q (v := (.pointer (some ⟨b5379, 1, none⟩))) rfl (yl_fa 1 Try.underlying35 rfl rfl ⟨0, sz3⟩ hs5380 rfl) ?_
                          refine T0_q (v := (.int .i64 x5393)) rfl (yl_load sc3 rfl (At.drop (Box.at hB5395) 1)) ?_
                          obtain ⟨r5592, hr5593, h⟩ := bind_elim h
                          refine T0_e rfl (eff_call Try.func7 nm7 rfl (ev3 rfl rfl rfl) (base_Within_ok [] _ (LtL.nil _) x4919 x5392 x5393 r5592 hr5593) ?_)
                          rintro _ wd5594 ⟨he5595, rfl⟩
                          have e5596 := e5365.trans he5595
                          refine T0_q (v := (.bool (!r5592))) rfl (yl_not rfl) ?_
                          refine T0_nil ?_
                          refine hK5591 _ _ ?_
                          refine WC_cond (b := (!r5592)) rfl (fun hb5597 => ?_) (fun hb5597 => ?_)
                          · replace h := cond_t hb5597 h
                            refine WC_seqK fun K5598 hK5598 => ?_
                            refine WC_region ?_
                            refine T0_q (v := (.bool false)) rfl (yl_assign rfl) ?_
                            refine T0_nil ?_
                            refine hK5598 _ _ ?_
                            refine WC_ret ?_
                            replace h := some_out h
                            subst h
                            have ho := hx4688 _ rfl
                            subst ho
                            replace h := jn0_inl hn4686
                            replace h := some_out h
                            subst h
                            exact ⟨[(.bool false)], ⟨rfl, trivial⟩, e5596, rfl⟩
                          · replace h := cond_f hb5597 h
                            refine WC_skip ?_
                            refine hK5590 _ _ ?_
                            refine WC_seqK fun K5599 hK5599 => ?_
                            refine WC_seqK fun K5600 hK5600 => ?_
                            refine WC_region ?_
                            refine T0_q (v := v4607) rfl (yl_move hs5370) ?_
                            refine T0_q (v := (.int .i64 (x4608.length : Int))) rfl (yl_lenO rfl Try.underlying32 h5369 rfl) ?_
                            refine T0_q (v := (.bool (decide (0 < (x4608.length : Int))))) rfl (yl_gtr rfl rfl) ?_
                            refine T0_nil ?_
                            refine hK5600 _ _ ?_
                            obtain ⟨o5679, ho5680, hn5681⟩ := bind_elim h
                            refine WC_post (fun (ρ : Env) (wd5652 : World) => ∃ (x5675 : Int) (x5676 : Int), (x5675, x5676) = o5679 ∧ ρ 2 = (.pointer (some ⟨b11, 0, none⟩)) ∧ ρ 3 = (.pointer (some ⟨b19, 0, none⟩)) ∧ ρ 5 = v4607 ∧ ρ 6 = v4614 ∧ ρ 7 = (.pointer (some ⟨b71, 0, none⟩)) ∧ ρ 10 = (.int .i64 x4625) ∧ ρ 13 = (.int .i64 x4919) ∧ ρ 18 = (.pointer (some ⟨b5379, 0, none⟩)) ∧ SlRd (v4607 :: v4614 :: (.pointer (some ⟨b71, 0, none⟩)) :: L) wd5652 v1 p_Listappend.Vanes ∧ SlRd (v4607 :: v4614 :: (.pointer (some ⟨b71, 0, none⟩)) :: L) wd5652 v4 p_String.Teeth ∧ SlRd (v4607 :: v4614 :: (.pointer (some ⟨b71, 0, none⟩)) :: L) wd5652 v6 p_String.Spoilt ∧ Box wd5652 b11 [v1, (.int .i64 p_Listappend.Window), (.int .i64 p_Listappend.Tooth), (.int .i64 p_Listappend.PerVane), (.int .i64 p_Listappend.First), (.int .i64 p_Listappend.Modulus), (.int .i64 p_Listappend.Slack), (.int .i64 p_Listappend.Errors), (.bool p_Listappend.Round)] 24 ∧ Box wd5652 b19 [v4, (.int .i64 p_String.Time), v6] 27 ∧ Box wd5652 b5379 [(.int .i64 x5392), (.int .i64 x5393)] 35 ∧ Box wd5652 b71 [(.int .i64 x5675), (.int .i64 x5676)] 35 ∧ Own 51 (v4607 :: v4614 :: (.pointer (some ⟨b71, 0, none⟩)) :: L) wd5652 v4607 x4608 ∧ Own 35 (v4607 :: v4614 :: (.pointer (some ⟨b71, 0, none⟩)) :: L) wd5652 v4614 x4615 ∧ Ext w wd5652) ?_ ?_
                            · intro K5682 hK5682
                              replace h := ho5680
                              clear ho5680
                              refine WC_cond (b := (decide (0 < (x4608.length : Int)))) rfl (fun hb5683 => ?_) (fun hb5683 => ?_)
                              · replace h := cond_t hb5683 h
                                refine WC_seqK fun K5684 hK5684 => ?_
                                refine WC_plan mixed (.p 0 (.p 1 (.p 2 (.p 3 (.p 4 (.p 5 (.p 6 (.p 9 (.q 7 (.p 8 (.p 10 .done))))))))))) (by kernel_rfl) ?_
                                intro wd5689 he5690
                                have e5691 := he5595.trans he5690
                                have e5692 := e5596.trans he5690
                                refine TP_p (v := (.int .i64 x4919)) rfl rfl (fun w' => (yl_move hs5378)) ?_
                                refine TP_p (v := (.int .i64 x4621)) rfl rfl (fun w' => (yl_move hs5375)) ?_
                                refine TP_p (v := (.int .i64 (w64 (x4919 - x4621)))) rfl rfl (fun w' => (yl_sub rfl rfl)) ?_
                                refine TP_p (v := (.int .i64 x4625)) rfl rfl (fun w' => (yl_move hs5377)) ?_
                                refine TP_p (v := (.int .i64 x4623)) rfl rfl (fun w' => (yl_move hs5376)) ?_
                                refine TP_p (v := (.int .i64 (w64 (x4625 - x4623)))) rfl rfl (fun w' => (yl_sub rfl rfl)) ?_
                                refine TP_p (v := (.pointer (some ⟨b19, 1, none⟩))) rfl rfl (fun w' => (yl_fa 1 Try.underlying27 rfl rfl ⟨0, sz3⟩ hs5367 rfl)) ?_
                                refine TP_p (v := (.int .i64 (w64 (x4919 - x4621)))) rfl rfl (fun w' => (yl_assign rfl)) ?_
                                refine TP_q (v := (.int .i64 p_String.Time)) rfl rfl (fun w' hS => (yl_load sc3 rfl (At.drop (Box.at (hB5389.ext ((e5691).trans hS))) 1))) ?_
                                refine TP_p (v := (.int .i64 (w64 ((w64 (x4625 - x4623)) * p_String.Time)))) rfl rfl (fun w' => (yl_mul rfl rfl)) ?_
                                refine TP_p (v := (.int .i64 (w64 ((w64 (x4625 - x4623)) * p_String.Time)))) rfl rfl (fun w' => (yl_assign rfl)) ?_
                                refine TP_done ?_
                                refine hK5684 _ _ ?_
                                refine WC_plan mixed (.p 0 (.p 2 (.p 3 (.p 4 (.p 7 (.p 9 (.p 10 (.p 11 (.q 1 (.q 8 (.e 5 (.p 6 (.p 14 (.e 12 (.p 13 (.b 15 (.p 16 (.b 17 .done)))))))))))))))))) (by kernel_rfl) ?_
                                intro wd5693 he5694
                                have e5695 := e5691.trans he5694
                                have e5696 := e5692.trans he5694
                                refine TP_p (v := (.pointer (some ⟨b71, 0, none⟩))) rfl rfl (fun w' => (yl_fa 0 Try.underlying35 rfl rfl ⟨0, sz3⟩ hs5374 rfl)) ?_
                                refine TP_p (v := (.int .i64 (w64 (x4919 - x4621)))) rfl rfl (fun w' => (yl_move rfl)) ?_
                                refine TP_p (v := (.int .i64 (w64 (1000 * (w64 (x4919 - x4621)))))) rfl rfl (fun w' => (yl_mul rfl rfl)) ?_
                                refine TP_p (v := (.int .i64 (w64 ((w64 (x4625 - x4623)) * p_String.Time)))) rfl rfl (fun w' => (yl_move rfl)) ?_
                                refine TP_p (v := (.pointer (some ⟨b71, 1, none⟩))) rfl rfl (fun w' => (yl_fa 1 Try.underlying35 rfl rfl ⟨0, sz3⟩ hs5374 rfl)) ?_
                                refine TP_p (v := (.int .i64 (w64 (x4919 - x4621)))) rfl rfl (fun w' => (yl_move rfl)) ?_
                                refine TP_p (v := (.int .i64 (w64 (1000 * (w64 (x4919 - x4621)))))) rfl rfl (fun w' => (yl_mul rfl rfl)) ?_
                                refine TP_p (v := (.int .i64 (w64 ((w64 (x4625 - x4623)) * p_String.Time)))) rfl rfl (fun w' => (yl_move rfl)) ?_
                                refine TP_q (v := (.int .i64 x4634)) rfl rfl (fun w' hS => (yl_load sc3 rfl (Box.at (hB5391.ext ((e5695).trans hS))))) ?_
                                refine TP_q (v := (.int .i64 x4635)) rfl rfl (fun w' hS => (yl_load sc3 rfl (At.drop (Box.at (hB5391.ext ((e5695).trans hS))) 1))) ?_
                                obtain ⟨r5697, hr5698, h⟩ := bind_elim h
                                refine TP_e rfl rfl (eff_call Try.func15 nm15 rfl (ev2 rfl rfl) (base_Floor_ok [] _ (LtL.nil _) (w64 (1000 * (w64 (x4919 - x4621)))) (w64 ((w64 (x4625 - x4623)) * p_String.Time)) r5697 hr5698) ?_)
                                rintro _ wd5699 ⟨he5700, rfl⟩
                                have e5701 := e5695.trans he5700
                                have e5702 := e5696.trans he5700
                                refine ⟨he5700, ?_⟩
                                refine TP_p (v := (.int .i64 (if r5697 < x4634 then r5697 else x4634))) rfl rfl (fun w' => (yl_min rfl rfl)) ?_
                                refine TP_p (v := (.pointer (some ⟨b71, 0, none⟩))) rfl rfl (fun w' => (yl_fa 0 Try.underlying35 rfl rfl ⟨0, sz3⟩ hs5374 rfl)) ?_
                                obtain ⟨r5703, hr5704, h⟩ := bind_elim h
                                refine TP_e rfl rfl (eff_call Try.func16 nm16 rfl (ev2 rfl rfl) (base_Ceil_ok [] _ (LtL.nil _) (w64 (1000 * (w64 (x4919 - x4621)))) (w64 ((w64 (x4625 - x4623)) * p_String.Time)) r5703 hr5704) ?_)
                                rintro _ wd5705 ⟨he5706, rfl⟩
                                have e5707 := e5701.trans he5706
                                have e5708 := he5700.trans he5706
                                have e5709 := e5702.trans he5706
                                refine ⟨e5708, ?_⟩
                                refine TP_p (v := (.int .i64 (if x4635 < r5703 then r5703 else x4635))) rfl rfl (fun w' => (yl_max rfl rfl)) ?_
                                refine TP_b rfl rfl (eff_storeC (vs := [(.int .i64 (if r5697 < x4634 then r5697 else x4634))]) (cs' := [(.int .i64 (if r5697 < x4634 then r5697 else x4634)), (.int .i64 x4635)]) sz3 rfl rfl rfl rfl (hB5391.ext e5707) rfl (oc_cons rfl oc_nil) rfl ?_)
                                intro wd5710 hc5711 hB5712
                                have h5713 := (h5369.ext e5707).step (Stepp.chg_mem hc5711 (memS (memS mem0))) hc5711 (av_box hn4640)
                                have h5714 := (h5372.ext e5707).step (Stepp.chg_mem hc5711 (memS (memS mem0))) hc5711 (av_box hn4643)
                                have h5715 := (h5383.ext e5707).step (Stepp.chg_mem hc5711 (memS (memS mem0)))
                                have h5716 := (hB5385.ext e5707).chg hc5711 (avoidb hn76)
                                have h5717 := (h5386.ext e5707).step (Stepp.chg_mem hc5711 (memS (memS mem0)))
                                have h5718 := (h5387.ext e5707).step (Stepp.chg_mem hc5711 (memS (memS mem0)))
                                have h5719 := (hB5389.ext e5707).chg hc5711 (avoidb hn77)
                                have h5720 := (hB5395.ext e5707).chg hc5711 (avoidb hn5401)
                                have e5721 := chg_box e5709 hc5711 hbf78
                                refine TP_p (v := (.pointer (some ⟨b71, 1, none⟩))) rfl rfl (fun w' => (yl_fa 1 Try.underlying35 rfl rfl ⟨0, sz3⟩ hs5374 rfl)) ?_
                                refine TP_b rfl rfl (eff_storeC (vs := [(.int .i64 (if x4635 < r5703 then r5703 else x4635))]) (cs' := [(.int .i64 (if r5697 < x4634 then r5697 else x4634)), (.int .i64 (if x4635 < r5703 then r5703 else x4635))]) sz3 rfl rfl rfl rfl hB5712 rfl (oc_cons rfl oc_nil) rfl ?_)
                                intro wd5722 hc5723 hB5724
                                have h5725 := h5713.step (Stepp.chg_mem hc5723 (memS (memS mem0))) hc5723 (av_box hn4640)
                                have h5726 := h5714.step (Stepp.chg_mem hc5723 (memS (memS mem0))) hc5723 (av_box hn4643)
                                have h5727 := h5715.step (Stepp.chg_mem hc5723 (memS (memS mem0)))
                                have h5728 := h5716.chg hc5723 (avoidb hn76)
                                have h5729 := h5717.step (Stepp.chg_mem hc5723 (memS (memS mem0)))
                                have h5730 := h5718.step (Stepp.chg_mem hc5723 (memS (memS mem0)))
                                have h5731 := h5719.chg hc5723 (avoidb hn77)
                                have h5732 := h5720.chg hc5723 (avoidb hn5401)
                                have e5733 := chg_box e5721 hc5723 hbf78
                                refine TP_done ?_
                                replace h := some_out h
                                subst h
                                refine hK5682 _ _ ?_
                                exact ⟨(if r5697 < x4634 then r5697 else x4634), (if x4635 < r5703 then r5703 else x4635), rfl, hs5366, hs5367, hs5370, hs5373, hs5374, hs5377, hs5378, hs5380, h5727, h5729, h5730, h5728, h5731, h5732, hB5724, h5725, h5726, e5733⟩
                              · replace h := cond_f hb5683 h
                                refine WC_skip ?_
                                replace h := some_out h
                                subst h
                                refine hK5682 _ _ ?_
                                exact ⟨x4634, x4635, rfl, hs5366, hs5367, hs5370, hs5373, hs5374, hs5377, hs5378, hs5380, (h5383.ext he5595), (h5386.ext he5595), (h5387.ext he5595), (hB5385.ext he5595), (hB5389.ext he5595), (hB5395.ext he5595), (hB5391.ext he5595), (h5369.ext he5595), (h5372.ext he5595), e5596⟩
                            · rintro ρ wd5652 ⟨x5675, x5676, rfl, hs5654, hs5655, hs5658, hs5661, hs5662, hs5663, hs5664, hs5665, h5666, h5669, h5670, hB5668, hB5672, hB5674, hB5678, h5657, h5660, e5653⟩
                              replace h := hn5681
                              refine hK5599 _ _ ?_
                              refine WC_seqK fun K5734 hK5734 => ?_
                              refine WC_region ?_
                              refine T0_q (v := v4607) rfl (yl_move hs5658) ?_
                              refine T0_q (v := (.int .i64 x4625)) rfl (yl_move hs5663) ?_
                              refine T0_q (v := (.pointer (some ⟨b19, 1, none⟩))) rfl (yl_fa 1 Try.underlying27 rfl rfl ⟨0, sz3⟩ hs5655 rfl) ?_
                              refine T0_q (v := (.int .i64 p_String.Time)) rfl (yl_load sc3 rfl (At.drop (Box.at hB5672) 1)) ?_
                              refine T0_q (v := (.int .i64 (w64 (x4625 * p_String.Time)))) rfl (yl_mul rfl rfl) ?_
                              refine T0_q (v := (.agg (List.toArray [(.int .i64 x5392), (.int .i64 x5393)]))) rfl (yl_loadA (cs := [(.int .i64 x5392), (.int .i64 x5393)]) ag35 hs5665 (Box.at hB5674)) ?_
                              refine T0_q (v := (.agg (List.toArray [(.int .i64 (w64 (x4625 * p_String.Time))), (.int .i64 x5392), (.int .i64 x5393)]))) rfl (yl_buildC (cells := [(.int .i64 (w64 (x4625 * p_String.Time))), (.int .i64 x5392), (.int .i64 x5393)]) bi51 (pc_cons rfl rfl (pc_cons rfl rfl pc_nil)) rfl) ?_
                              refine T0_e rfl (eff_buildTC (xs := ([(LocateFix.mk (w64 (x4625 * p_String.Time)) (Range.mk x5392 x5393))] : List LocateFix)) (cells := [(.int .i64 (w64 (x4625 * p_String.Time))), (.int .i64 x5392), (.int .i64 x5393)]) Try.underlying32 ei51 rfl (pc_cons rfl rfl pc_nil) rfl (Elems.cons (cs := [(.int .i64 (w64 (x4625 * p_String.Time))), (.int .i64 x5392), (.int .i64 x5393)]) rfl Elems.nil) rfl (ltl_own (ltl_own (ltl_box (hL.chg e5653) hB5678) h5660) h5657) ?_)
                              intro b5738 wd5735 he5736 h5737
                              have e5739 := e5653.trans he5736
                              obtain ⟨zs5741, hz5742, h⟩ := bind_elim h
                              refine T0_e rfl (eff_app Try.underlying32 ei51 rfl rfl rfl rfl (h5657.ext he5736) h5737 hz5742 ?_)
                              intro v5743 wd5744 hc5745 hbl5746 h5747
                              have hn5749 : blk v5743 ≠ some b11 := ne_swap hbl5746 hn4638 (hB5668.ext he5736)
                              have hn5750 : blk v5743 ≠ some b19 := ne_swap hbl5746 hn4639 (hB5672.ext he5736)
                              have hn5751 : blk v5743 ≠ some b5379 := ne_swap hbl5746 hn5396 (hB5674.ext he5736)
                              have hn5752 : blk v5743 ≠ some b71 := ne_swap hbl5746 hn4640 (hB5678.ext he5736)
                              have hn5753 := dj_swap hbl5746 (dj_symm hn4644) (h5660.ext he5736)
                              have hf5754 := fresh_swap hbl5746 hf4611 e5739.size
                              have h5755 := (h5660.ext he5736).step (Stepp.swap hc5745 hbl5746) hc5745 (av_own (dj_symm hn4644))
                              have h5756 := (h5666.ext he5736).step (Stepp.swap hc5745 hbl5746)
                              have h5757 := (hB5668.ext he5736).chg hc5745 (avoid1 hn4638)
                              have h5758 := (h5669.ext he5736).step (Stepp.swap hc5745 hbl5746)
                              have h5759 := (h5670.ext he5736).step (Stepp.swap hc5745 hbl5746)
                              have h5760 := (hB5672.ext he5736).chg hc5745 (avoid1 hn4639)
                              have h5761 := (hB5674.ext he5736).chg hc5745 (avoid1 hn5396)
                              have h5762 := (hB5678.ext he5736).chg hc5745 (avoid1 hn4640)
                              have h5763 := h5737.step (Stepp.swap hc5745 hbl5746)
                              have e5764 := chg_own e5739 hc5745 hf4611
                              refine T0_q (v := (.int .i64 x4919)) rfl (yl_move hs5664) ?_
                              refine T0_q (v := (.int .i64 x4625)) rfl (yl_move hs5663) ?_
                              refine T0_q (v := v5743) rfl (yl_assign rfl) ?_
                              refine T0_q (v := (.int .i64 x4919)) rfl (yl_assign rfl) ?_
                              refine T0_q (v := (.int .i64 x4625)) rfl (yl_assign rfl) ?_
                              refine T0_nil ?_
                              refine hK5734 _ _ ?_
                              refine WC_region ?_
                              refine T0_q (v := v4614) rfl (yl_move hs5661) ?_
                              refine T0_q (v := (.agg (List.toArray [(.int .i64 x5392), (.int .i64 x5393)]))) rfl (yl_loadA (cs := [(.int .i64 x5392), (.int .i64 x5393)]) ag35 hs5665 (Box.at h5761)) ?_
                              refine T0_e rfl (eff_buildTC (xs := ([(Range.mk x5392 x5393)] : List Range)) (cells := [(.int .i64 x5392), (.int .i64 x5393)]) Try.underlying33 ei35 rfl (pc_cons rfl rfl pc_nil) rfl (Elems.cons (cs := [(.int .i64 x5392), (.int .i64 x5393)]) rfl Elems.nil) rfl (ltl_own (ltl_own (ltl_box (hL.chg e5764) h5762) h5755) h5747) ?_)
                              intro b5769 wd5766 he5767 h5768
                              have e5770 := e5764.trans he5767
                              have h5772 := (h5755.ext he5767).sub (sub_cons (memS mem0) (sub_cons mem0 (sub_cons (memS (memS mem0)) (sub_skip (sub_skip (sub_skip (sub_refl _)))))))
                              have h5773 := (h5756.ext he5767).sub (sub_cons (memS mem0) (sub_cons mem0 (sub_cons (memS (memS mem0)) (sub_skip (sub_skip (sub_skip (sub_refl _)))))))
                              have h5774 := (h5758.ext he5767).sub (sub_cons (memS mem0) (sub_cons mem0 (sub_cons (memS (memS mem0)) (sub_skip (sub_skip (sub_skip (sub_refl _)))))))
                              have h5775 := (h5759.ext he5767).sub (sub_cons (memS mem0) (sub_cons mem0 (sub_cons (memS (memS mem0)) (sub_skip (sub_skip (sub_skip (sub_refl _)))))))
                              have h5776 := (h5763.ext he5767).sub (sub_cons (memS mem0) (sub_cons mem0 (sub_cons (memS (memS mem0)) (sub_skip (sub_skip (sub_skip (sub_refl _)))))))
                              have h5777 := (h5747.ext he5767).sub (sub_cons (memS mem0) (sub_cons mem0 (sub_cons (memS (memS mem0)) (sub_skip (sub_skip (sub_skip (sub_refl _)))))))
                              have h5778 := h5768.sub (sub_cons (memS mem0) (sub_cons mem0 (sub_cons (memS (memS mem0)) (sub_skip (sub_skip (sub_skip (sub_refl _)))))))
                              obtain ⟨zs5779, hz5780, h⟩ := bind_elim h
                              refine T0_e rfl (eff_app Try.underlying33 ei35 rfl rfl rfl rfl h5772 h5778 hz5780 ?_)
                              intro v5781 wd5782 hc5783 hbl5784 h5785
                              have hn5787 : blk v5781 ≠ some b11 := ne_swap hbl5784 hn4641 (h5757.ext he5767)
                              have hn5788 : blk v5781 ≠ some b19 := ne_swap hbl5784 hn4642 (h5760.ext he5767)
                              have hn5789 : blk v5781 ≠ some b5379 := ne_swap hbl5784 hn5397 (h5761.ext he5767)
                              have hn5790 : blk v5781 ≠ some b71 := ne_swap hbl5784 hn4643 (h5762.ext he5767)
                              have hn5791 := dj_swap hbl5784 (dj_symm hn5753) h5777
                              have hf5792 := fresh_swap hbl5784 hf4618 e5770.size
                              have h5793 := h5773.step (Stepp.swap hc5783 hbl5784)
                              have h5794 := (h5757.ext he5767).chg hc5783 (avoid1 hn4641)
                              have h5795 := h5774.step (Stepp.swap hc5783 hbl5784)
                              have h5796 := h5775.step (Stepp.swap hc5783 hbl5784)
                              have h5797 := (h5760.ext he5767).chg hc5783 (avoid1 hn4642)
                              have h5798 := (h5761.ext he5767).chg hc5783 (avoid1 hn5397)
                              have h5799 := (h5762.ext he5767).chg hc5783 (avoid1 hn4643)
                              have h5800 := h5776.step (Stepp.swap hc5783 hbl5784)
                              have h5801 := h5777.step (Stepp.swap hc5783 hbl5784) hc5783 (av_own (dj_symm hn5753))
                              have h5802 := h5778.step (Stepp.swap hc5783 hbl5784)
                              have e5803 := chg_own e5770 hc5783 hf4618
                              refine T0_q (v := v5781) rfl (yl_assign rfl) ?_
                              refine T0_nil ?_
                              refine hK4695 _ _ ?_
                              refine WC_region ?_
                              refine T0_q (v := (.int .i64 x4625)) rfl (yl_move hs5663) ?_
                              refine T0_q (v := (.int .i64 (w64 (x4625 + 1)))) rfl (yl_add rfl rfl) ?_
                              refine T0_q (v := (.int .i64 (w64 (x4625 + 1)))) rfl (yl_assign rfl) ?_
                              refine T0_nil ?_
                              replace h := some_out h
                              subst h
                              refine hK4689 _ _ _ rfl ?_
                              exact ⟨zs5741, zs5779, x4919, x4625, w64 (x4625 + 1), x5675, x5676, v5743, v5781, rfl, hs5654, hs5655, rfl, rfl, hs5662, rfl, rfl, rfl, (h5793.sub (sub_cons (memS mem0) (sub_cons mem0 (sub_cons (memS (memS mem0)) (sub_skip (sub_skip (sub_skip (sub_refl _)))))))), (h5795.sub (sub_cons (memS mem0) (sub_cons mem0 (sub_cons (memS (memS mem0)) (sub_skip (sub_skip (sub_skip (sub_refl _)))))))), (h5796.sub (sub_cons (memS mem0) (sub_cons mem0 (sub_cons (memS (memS mem0)) (sub_skip (sub_skip (sub_skip (sub_refl _)))))))), h5794, h5797, h5799, (h5801.sub (sub_cons (memS mem0) (sub_cons mem0 (sub_cons (memS (memS mem0)) (sub_skip (sub_skip (sub_skip (sub_refl _)))))))), (h5785.sub (sub_cons (memS mem0) (sub_cons mem0 (sub_cons (memS (memS mem0)) (sub_skip (sub_skip (sub_skip (sub_refl _)))))))), hf5754, hn5749, hn5750, hn5752, hf5792, hn5787, hn5788, hn5790, hn5791, e5803⟩
                        · replace h := cond_f hb5589 h
                          refine WC_skip ?_
                          refine hK4695 _ _ ?_
                          refine WC_region ?_
                          refine T0_q (v := (.int .i64 x4625)) rfl (yl_move hs5377) ?_
                          refine T0_q (v := (.int .i64 (w64 (x4625 + 1)))) rfl (yl_add rfl rfl) ?_
                          refine T0_q (v := (.int .i64 (w64 (x4625 + 1)))) rfl (yl_assign rfl) ?_
                          refine T0_nil ?_
                          replace h := some_out h
                          subst h
                          refine hK4689 _ _ _ rfl ?_
                          exact ⟨x4608, x4615, x4621, x4623, w64 (x4625 + 1), x4634, x4635, v4607, v4614, rfl, hs5366, hs5367, hs5370, hs5373, hs5374, hs5375, hs5376, rfl, h5383, h5386, h5387, hB5385, hB5389, hB5391, h5369, h5372, hf4611, hn4638, hn4639, hn4640, hf4618, hn4641, hn4642, hn4643, hn4644, e5365⟩
        · replace h := cond_f hb4694 h
          refine WC_exit ?_
          replace h := some_out h
          subst h
          have ho := hx4688 _ rfl
          subst ho
          refine hK4690 _ _ ?_
          exact ⟨x4608, x4615, x4621, x4634, x4635, v4607, v4614, rfl, hs4612, hs4619, hs4620, hs4622, hB4637, h4610, h4617, hf4611, hn4640, hf4618, hn4643, hn4644, e4603⟩
      · rintro ρ wd4658 ⟨x4662, x4669, x4675, x4677, x4678, v4661, v4668, rfl, hs4666, hs4673, hs4674, hs4676, hB4680, h4664, h4671, hf4665, hn4681, hf4672, hn4682, hn4683, e4659⟩
        replace h := jn0_inr hn4686
        refine hK96 _ _ ?_
        refine WC_seqK fun K5805 hK5805 => ?_
        refine WC_seqK fun K5806 hK5806 => ?_
        refine WC_region ?_
        refine T0_q (v := v4661) rfl (yl_move hs4666) ?_
        refine T0_q (v := (.int .i64 (x4662.length : Int))) rfl (yl_lenO rfl Try.underlying32 h4664 rfl) ?_
        refine T0_q (v := (.bool (decide ((x4662.length : Int) = 0)))) rfl (yl_eql rfl rfl) ?_
        refine T0_q (v := (.bool (decide ((x4662.length : Int) = 0)))) rfl (yl_move rfl) ?_
        refine T0_g (v := (.agg (List.toArray [(.int .i64 x4677), (.int .i64 x4678)]))) (!(decide ((x4662.length : Int) = 0))) (wanted_f rfl rfl rfl rfl) (fun hg => (yl_loadA (cs := [(.int .i64 x4677), (.int .i64 x4678)]) ag35 hs4674 (Box.at hB4680))) ?_
        obtain ⟨r5807, hr5808, h⟩ := bind_elim h
        refine T0_ges (!(decide ((x4662.length : Int) = 0))) (.int .i64 r5807) (wanted_f rfl rfl rfl rfl) (fun hg => eff_call Try.func17 nm17 rfl (ev1 (gd_true hg)) (ref04_SpeedErr_ok [] _ (LtL.nil _) [(.int .i64 x4677), (.int .i64 x4678)] (Range.mk x4677 x4678) rfl r5807 (cond_t hg hr5808)) (by rintro _ wd5809 ⟨he5810, rfl⟩; exact ⟨rfl, he5810⟩)) ?_
        intro wd5809 he5810
        have e5811 := e4659.trans he5810
        refine T0_g (v := (.bool (!decide (r5807 = 0)))) (!(decide ((x4662.length : Int) = 0))) (wanted_f rfl rfl rfl rfl) (fun hg => (yl_neq (gd_true hg) rfl)) ?_
        refine T0_q (v := (.bool ((decide ((x4662.length : Int) = 0)) || (!decide (r5807 = 0))))) rfl (yl_or rfl rfl (fun hb => (gd_true (not_t hb)))) ?_
        refine T0_nil ?_
        refine hK5806 _ _ ?_
        refine WC_cond (b := ((decide ((x4662.length : Int) = 0)) || (!decide (r5807 = 0)))) rfl (fun hb5812 => ?_) (fun hb5812 => ?_)
        · replace h := cond_t hb5812 h
          refine WC_seqK fun K5813 hK5813 => ?_
          refine WC_region ?_
          refine T0_q (v := (.bool true)) rfl (yl_assign rfl) ?_
          refine T0_nil ?_
          refine hK5813 _ _ ?_
          refine WC_ret ?_
          replace h := some_out h
          subst h
          exact ⟨[(.bool true)], ⟨rfl, trivial⟩, e5811, rfl⟩
        · replace h := cond_f hb5812 h
          refine WC_skip ?_
          refine hK5805 _ _ ?_
          refine WC_seqK fun K5814 hK5814 => ?_
          obtain ⟨o5959, ho5960, hn5961⟩ := bind_elim h
          refine WC_post (fun (ρ : Env) (wd5941 : World) => ∃ (x5949 : Int) (x5951 : Int) (x5953 : Int) (x5954 : Int) (b5947 : Nat), (x5949, x5951, x5953, x5954) = o5959 ∧ ρ 6 = v4668 ∧ ρ 8 = (.int .i64 x4675) ∧ ρ 22 = (.pointer (some ⟨b5947, 0, none⟩)) ∧ ρ 23 = (.int .i64 x5949) ∧ ρ 24 = (.int .i64 x5951) ∧ Box wd5941 b5947 [(.int .i64 x5953), (.int .i64 x5954)] 35 ∧ Own 35 (v4668 :: L) wd5941 v4668 x4669 ∧ (blk v4668 ≠ some b5947) ∧ (w.heap.size ≤ b5947) ∧ Ext w wd5941) ?_ ?_
          · intro K5962 hK5962
            replace h := ho5960
            clear ho5960
            refine WC_plan mixed (.p 1 (.q 0 (.f 2 (.f 3 (.p 4 (.p 5 (.p 6 (.p 7 (.e 8 (.b 9 (.p 10 (.p 11 .done)))))))) 8 (.e 3 (.p 4 (.p 5 (.p 6 (.p 7 (.b 9 (.p 10 (.p 11 .done))))))))) 8 (.e 2 (.e 3 (.p 4 (.p 5 (.p 6 (.p 7 (.b 9 (.p 10 (.p 11 .done)))))))))))) (by kernel_rfl) ?_
            intro wd5963 he5964
            have e5965 := he5810.trans he5964
            have e5966 := e5811.trans he5964
            refine TP_p (v := v4661) rfl rfl (fun w' => (yl_move hs4666)) ?_
            refine TP_q (v := (.agg (List.toArray [(.int .i64 x4677), (.int .i64 x4678)]))) rfl rfl (fun w' hS => (yl_loadA (cs := [(.int .i64 x4677), (.int .i64 x4678)]) ag35 hs4674 (Box.at (hB4680.ext ((e5965).trans hS))))) ?_
            refine TP_f rfl rfl rfl rfl ?_ ?_
            · skip
              have h5967 := ((h4664.ext e5965).sub (sub_cons (memS mem0) (sub_cons (memS (memS mem0)) (sub_skip (sub_skip (sub_skip (sub_refl _))))))).rd (fun b hb => (Avoids.cons (Avoids.cons (fun x hx e => by have := hL x hx b e; have := hf4665 b hb; omega) (fun e => hn4681 (hb.trans e.symm))) (hn4683 b hb)))
              have h5968 := (h4671.ext e5965).sub (sub_cons (memS mem0) (sub_cons (memS (memS mem0)) (sub_skip (sub_skip (sub_skip (sub_refl _))))))
              obtain ⟨r5970, hr5971, h⟩ := bind_elim h
              refine  (eff_call Try.func19 nm19 rfl (ev1 rfl) (ref04_CopyFixes_ok (v4668 :: (.pointer (some ⟨b71, 0, none⟩)) :: L) _ (ltl_own (ltl_box (hL.chg e5966) (hB4680.ext e5965)) h5968) v4661 x4662 h5967 r5970 hr5971) ?_)
              rintro _ wd5972 ⟨he5973, v5974, rfl, h5975⟩
              have e5976 := e5965.trans he5973
              have e5977 := e5966.trans he5973
              refine ⟨he5973, ?_⟩
              refine TP_f rfl rfl rfl rfl ?_ ?_
              · skip
                obtain ⟨r5979, hr5980, h⟩ := bind_elim h
                refine  (eff_call Try.func18 nm18 rfl (ev2 rfl rfl) (locate_Follow_ok [] _ (LtL.nil _) [(.int .i64 x4677), (.int .i64 x4678)] (Range.mk x4677 x4678) rfl v5974 r5970 (h5975.sub (fun _ h => by cases h)) r5979 hr5980) ?_)
                rintro _ wd5981 ⟨he5982, cs5983, rfl, hrd5984⟩
                have e5985 := e5976.trans he5982
                have e5986 := he5973.trans he5982
                have e5987 := he5973.trans he5982
                have e5988 := e5977.trans he5982
                have hrd5984 : cs5983 = [(.int .i64 r5979.1.Lo), (.int .i64 r5979.1.Hi)] := hrd5984
                subst hrd5984
                refine ⟨e5987, ?_⟩
                refine TP_p (v := (.tuple #[(.agg (List.toArray [(.int .i64 r5979.1.Lo), (.int .i64 r5979.1.Hi)])), (.int .i64 r5979.2.1), (.int .i64 r5979.2.2)])) rfl rfl (fun w' => (yl_move rfl)) ?_
                refine TP_p (v := (.agg (List.toArray [(.int .i64 r5979.1.Lo), (.int .i64 r5979.1.Hi)]))) rfl rfl (fun w' => (yl_extract rfl rfl)) ?_
                refine TP_p (v := (.int .i64 r5979.2.1)) rfl rfl (fun w' => (yl_extract rfl rfl)) ?_
                refine TP_p (v := (.int .i64 r5979.2.2)) rfl rfl (fun w' => (yl_extract rfl rfl)) ?_
                refine TP_e rfl rfl (eff_allocZ zi35 ?_)
                intro b5989 wd5990 hb5991 he5992 hB5993
                have hn5994 : b5989 ≠ b71 := box_ne (hB4680.ext e5985) hb5991
                have hn5995 : blk v4668 ≠ some b5989 := ne_new_box (h5968.ext e5986) hb5991
                have hbf5996 := bfresh e5988 hb5991
                have h5997 := (h5968.ext e5986).step (add_box he5992 hb5991) he5992 (fun _ _ => Avoids.nil _)
                have h5998 := (h5967.ext e5986).step (add_box he5992 hb5991)
                have h5999 := (h5975.ext he5982).step (add_box he5992 hb5991)
                have e6000 := e5985.trans he5992
                have e6001 := e5987.trans he5992
                have e6002 := e5988.trans he5992
                refine ⟨e6001, ?_⟩
                refine TP_b rfl rfl (eff_storeC (vs := [(.int .i64 r5979.1.Lo), (.int .i64 r5979.1.Hi)]) (cs' := [(.int .i64 r5979.1.Lo), (.int .i64 r5979.1.Hi)]) sz35 rfl rfl rfl rfl hB5993 rfl (oc_cons rfl (oc_cons rfl oc_nil)) rfl ?_)
                intro wd6004 hc6005 hB6006
                have h6007 := h5997.step (Stepp.chg_mem hc6005 mem0) hc6005 (av_box hn5995)
                have h6008 := (hB4680.ext e6000).chg hc6005 (avoidb hn5994)
                have h6009 := h5998.step (Stepp.chg_mem hc6005 mem0)
                have h6010 := h5999.step (Stepp.chg_mem hc6005 mem0)
                have e6011 := chg_box e6002 hc6005 hbf5996
                refine TP_p (v := (.int .i64 r5979.2.1)) rfl rfl (fun w' => (yl_assign rfl)) ?_
                refine TP_p (v := (.int .i64 r5979.2.2)) rfl rfl (fun w' => (yl_assign rfl)) ?_
                refine TP_done ?_
                replace h := some_out h
                subst h
                refine hK5962 _ _ ?_
                exact ⟨r5979.2.1, r5979.2.2, r5979.1.Lo, r5979.1.Hi, b5989, rfl, hs4673, hs4676, rfl, rfl, rfl, hB6006, (h6007.sub (sub_cons (memS mem0) (sub_skip (sub_skip (sub_skip (sub_refl _)))))), hn5995, hbf5996, e6011⟩
              · skip
                refine  (eff_allocZ zi35 ?_)
                intro b6012 wd6013 hb6014 he6015 hB6016
                have hn6017 : b6012 ≠ b71 := box_ne (hB4680.ext e5976) hb6014
                have hn6018 : blk v4668 ≠ some b6012 := ne_new_box (h5968.ext he5973) hb6014
                have hbf6019 := bfresh e5977 hb6014
                have h6020 := (h5968.ext he5973).step (add_box he6015 hb6014) he6015 (fun _ _ => Avoids.nil _)
                have h6021 := (h5967.ext he5973).step (add_box he6015 hb6014)
                have h6022 := h5975.step (add_box he6015 hb6014)
                have e6023 := e5976.trans he6015
                have e6024 := he5973.trans he6015
                have e6025 := e5977.trans he6015
                refine ⟨e6024, ?_⟩
                obtain ⟨r6027, hr6028, h⟩ := bind_elim h
                refine TP_e rfl rfl (eff_call Try.func18 nm18 rfl (ev2 rfl rfl) (locate_Follow_ok [] _ (LtL.nil _) [(.int .i64 x4677), (.int .i64 x4678)] (Range.mk x4677 x4678) rfl v5974 r5970 (h6022.sub (fun _ h => by cases h)) r6027 hr6028) ?_)
                rintro _ wd6029 ⟨he6030, cs6031, rfl, hrd6032⟩
                have e6033 := e6023.trans he6030
                have e6034 := e6024.trans he6030
                have e6035 := e6025.trans he6030
                have hrd6032 : cs6031 = [(.int .i64 r6027.1.Lo), (.int .i64 r6027.1.Hi)] := hrd6032
                subst hrd6032
                refine ⟨e6034, ?_⟩
                refine TP_p (v := (.tuple #[(.agg (List.toArray [(.int .i64 r6027.1.Lo), (.int .i64 r6027.1.Hi)])), (.int .i64 r6027.2.1), (.int .i64 r6027.2.2)])) rfl rfl (fun w' => (yl_move rfl)) ?_
                refine TP_p (v := (.agg (List.toArray [(.int .i64 r6027.1.Lo), (.int .i64 r6027.1.Hi)]))) rfl rfl (fun w' => (yl_extract rfl rfl)) ?_
                refine TP_p (v := (.int .i64 r6027.2.1)) rfl rfl (fun w' => (yl_extract rfl rfl)) ?_
                refine TP_p (v := (.int .i64 r6027.2.2)) rfl rfl (fun w' => (yl_extract rfl rfl)) ?_
                refine TP_b rfl rfl (eff_storeC (vs := [(.int .i64 r6027.1.Lo), (.int .i64 r6027.1.Hi)]) (cs' := [(.int .i64 r6027.1.Lo), (.int .i64 r6027.1.Hi)]) sz35 rfl rfl rfl rfl (hB6016.ext he6030) rfl (oc_cons rfl (oc_cons rfl oc_nil)) rfl ?_)
                intro wd6036 hc6037 hB6038
                have h6039 := (h6020.ext he6030).step (Stepp.chg_mem hc6037 mem0) hc6037 (av_box hn6018)
                have h6040 := (hB4680.ext e6033).chg hc6037 (avoidb hn6017)
                have h6041 := (h6021.ext he6030).step (Stepp.chg_mem hc6037 mem0)
                have h6042 := (h6022.ext he6030).step (Stepp.chg_mem hc6037 mem0)
                have e6043 := chg_box e6035 hc6037 hbf6019
                refine TP_p (v := (.int .i64 r6027.2.1)) rfl rfl (fun w' => (yl_assign rfl)) ?_
                refine TP_p (v := (.int .i64 r6027.2.2)) rfl rfl (fun w' => (yl_assign rfl)) ?_
                refine TP_done ?_
                replace h := some_out h
                subst h
                refine hK5962 _ _ ?_
                exact ⟨r6027.2.1, r6027.2.2, r6027.1.Lo, r6027.1.Hi, b6012, rfl, hs4673, hs4676, rfl, rfl, rfl, hB6038, (h6039.sub (sub_cons (memS mem0) (sub_skip (sub_skip (sub_skip (sub_refl _)))))), hn6018, hbf6019, e6043⟩
            · skip
              refine  (eff_allocZ zi35 ?_)
              intro b6044 wd6045 hb6046 he6047 hB6048
              have hn6049 : b6044 ≠ b71 := box_ne (hB4680.ext e5965) hb6046
              have hn6050 : blk v4661 ≠ some b6044 := ne_new_box (h4664.ext e5965) hb6046
              have hn6051 : blk v4668 ≠ some b6044 := ne_new_box (h4671.ext e5965) hb6046
              have hbf6052 := bfresh e5966 hb6046
              have h6053 := (h4664.ext e5965).step (add_box he6047 hb6046) he6047 (fun _ _ => Avoids.nil _)
              have h6054 := (h4671.ext e5965).step (add_box he6047 hb6046) he6047 (fun _ _ => Avoids.nil _)
              have e6055 := e5965.trans he6047
              have e6056 := e5966.trans he6047
              refine ⟨he6047, ?_⟩
              have h6058 := (h6053.sub (sub_cons mem0 (sub_cons (memS (memS mem0)) (sub_cons (memS (memS (memS mem0))) (sub_skip (sub_skip (sub_skip (sub_skip (sub_refl _))))))))).rd (fun b hb => (Avoids.cons (Avoids.cons (Avoids.cons (fun x hx e => by have := hL x hx b e; have := hf4665 b hb; omega) (fun e => hn4681 (hb.trans e.symm))) (hn4683 b hb)) (fun e => hn6050 (hb.trans e.symm))))
              have h6059 := h6054.sub (sub_cons mem0 (sub_cons (memS (memS mem0)) (sub_cons (memS (memS (memS mem0))) (sub_skip (sub_skip (sub_skip (sub_skip (sub_refl _))))))))
              obtain ⟨r6061, hr6062, h⟩ := bind_elim h
              refine TP_e rfl rfl (eff_call Try.func19 nm19 rfl (ev1 rfl) (ref04_CopyFixes_ok ((.pointer (some ⟨b6044, 0, none⟩)) :: v4668 :: (.pointer (some ⟨b71, 0, none⟩)) :: L) _ (ltl_box (ltl_own (ltl_box (hL.chg e6056) (hB4680.ext e6055)) h6059) hB6048) v4661 x4662 h6058 r6061 hr6062) ?_)
              rintro _ wd6063 ⟨he6064, v6065, rfl, h6066⟩
              have e6067 := e6055.trans he6064
              have e6068 := he6047.trans he6064
              have e6069 := e6056.trans he6064
              refine ⟨e6068, ?_⟩
              obtain ⟨r6071, hr6072, h⟩ := bind_elim h
              refine TP_e rfl rfl (eff_call Try.func18 nm18 rfl (ev2 rfl rfl) (locate_Follow_ok [] _ (LtL.nil _) [(.int .i64 x4677), (.int .i64 x4678)] (Range.mk x4677 x4678) rfl v6065 r6061 (h6066.sub (fun _ h => by cases h)) r6071 hr6072) ?_)
              rintro _ wd6073 ⟨he6074, cs6075, rfl, hrd6076⟩
              have e6077 := e6067.trans he6074
              have e6078 := he6064.trans he6074
              have e6079 := e6068.trans he6074
              have e6080 := e6069.trans he6074
              have hrd6076 : cs6075 = [(.int .i64 r6071.1.Lo), (.int .i64 r6071.1.Hi)] := hrd6076
              subst hrd6076
              refine ⟨e6079, ?_⟩
              refine TP_p (v := (.tuple #[(.agg (List.toArray [(.int .i64 r6071.1.Lo), (.int .i64 r6071.1.Hi)])), (.int .i64 r6071.2.1), (.int .i64 r6071.2.2)])) rfl rfl (fun w' => (yl_move rfl)) ?_
              refine TP_p (v := (.agg (List.toArray [(.int .i64 r6071.1.Lo), (.int .i64 r6071.1.Hi)]))) rfl rfl (fun w' => (yl_extract rfl rfl)) ?_
              refine TP_p (v := (.int .i64 r6071.2.1)) rfl rfl (fun w' => (yl_extract rfl rfl)) ?_
              refine TP_p (v := (.int .i64 r6071.2.2)) rfl rfl (fun w' => (yl_extract rfl rfl)) ?_
              refine TP_b rfl rfl (eff_storeC (vs := [(.int .i64 r6071.1.Lo), (.int .i64 r6071.1.Hi)]) (cs' := [(.int .i64 r6071.1.Lo), (.int .i64 r6071.1.Hi)]) sz35 rfl rfl rfl rfl (hB6048.ext e6078) rfl (oc_cons rfl (oc_cons rfl oc_nil)) rfl ?_)
              intro wd6081 hc6082 hB6083
              have h6084 := (h6059.ext e6078).step (Stepp.chg_mem hc6082 mem0) hc6082 (av_box hn6051)
              have h6085 := (hB4680.ext e6077).chg hc6082 (avoidb hn6049)
              have h6086 := (h6058.ext e6078).step (Stepp.chg_mem hc6082 mem0)
              have h6087 := (h6066.ext he6074).step (Stepp.chg_mem hc6082 mem0)
              have e6088 := chg_box e6080 hc6082 hbf6052
              refine TP_p (v := (.int .i64 r6071.2.1)) rfl rfl (fun w' => (yl_assign rfl)) ?_
              refine TP_p (v := (.int .i64 r6071.2.2)) rfl rfl (fun w' => (yl_assign rfl)) ?_
              refine TP_done ?_
              replace h := some_out h
              subst h
              refine hK5962 _ _ ?_
              exact ⟨r6071.2.1, r6071.2.2, r6071.1.Lo, r6071.1.Hi, b6044, rfl, hs4673, hs4676, rfl, rfl, rfl, hB6083, (h6084.sub (sub_cons (memS mem0) (sub_skip (sub_skip (sub_skip (sub_refl _)))))), hn6051, hbf6052, e6088⟩
          · rintro ρ wd5941 ⟨x5949, x5951, x5953, x5954, b5947, rfl, hs5945, hs5946, hs5948, hs5950, hs5952, hB5956, h5944, hn5957, hf5958, e5942⟩
            replace h := hn5961
            refine hK5814 _ _ ?_
            refine WC_seqK fun K6089 hK6089 => ?_
            refine WC_seqK fun K6090 hK6090 => ?_
            refine WC_region ?_
            refine T0_q (v := (.int .i64 x5951)) rfl (yl_move hs5952) ?_
            refine T0_q (v := (.bool (!decide (x5951 = 0)))) rfl (yl_neq rfl rfl) ?_
            refine T0_q (v := (.bool (!decide (x5951 = 0)))) rfl (yl_move rfl) ?_
            refine T0_g (v := (.int .i64 x5949)) (!(!decide (x5951 = 0))) (wanted_f rfl rfl rfl rfl) (fun hg => (yl_move hs5950)) ?_
            refine T0_g (v := (.bool (!decide (x5949 = 0)))) (!(!decide (x5951 = 0))) (wanted_f rfl rfl rfl rfl) (fun hg => (yl_neq (gd_true hg) rfl)) ?_
            refine T0_q (v := (.bool ((!decide (x5951 = 0)) || (!decide (x5949 = 0))))) rfl (yl_or rfl rfl (fun hb => (gd_true (not_t hb)))) ?_
            refine T0_q (v := (.bool ((!decide (x5951 = 0)) || (!decide (x5949 = 0))))) rfl (yl_move rfl) ?_
            refine T0_g (v := (.int .i64 x4675)) (!((!decide (x5951 = 0)) || (!decide (x5949 = 0)))) (wanted_f rfl rfl rfl rfl) (fun hg => (yl_move hs5946)) ?_
            refine T0_g (v := (.pointer (some ⟨b5947, 0, none⟩))) (!((!decide (x5951 = 0)) || (!decide (x5949 = 0)))) (wanted_f rfl rfl rfl rfl) (fun hg => (yl_fa 0 Try.underlying35 rfl rfl ⟨0, sz3⟩ hs5948 rfl)) ?_
            refine T0_g (v := (.int .i64 x5953)) (!((!decide (x5951 = 0)) || (!decide (x5949 = 0)))) (wanted_f rfl rfl rfl rfl) (fun hg => (yl_load sc3 (gd_true hg) (Box.at hB5956))) ?_
            refine T0_g (v := (.pointer (some ⟨b5947, 1, none⟩))) (!((!decide (x5951 = 0)) || (!decide (x5949 = 0)))) (wanted_f rfl rfl rfl rfl) (fun hg => (yl_fa 1 Try.underlying35 rfl rfl ⟨0, sz3⟩ hs5948 rfl)) ?_
            refine T0_g (v := (.int .i64 x5954)) (!((!decide (x5951 = 0)) || (!decide (x5949 = 0)))) (wanted_f rfl rfl rfl rfl) (fun hg => (yl_load sc3 (gd_true hg) (At.drop (Box.at hB5956) 1))) ?_
            obtain ⟨r6091, hr6092, h⟩ := bind_elim h
            refine T0_ges (!((!decide (x5951 = 0)) || (!decide (x5949 = 0)))) (.bool r6091) (wanted_f rfl rfl rfl rfl) (fun hg => eff_call Try.func7 nm7 rfl (ev3 (gd_true hg) (gd_true hg) (gd_true hg)) (base_Within_ok [] _ (LtL.nil _) x4675 x5953 x5954 r6091 (cond_t hg hr6092)) (by rintro _ wd6093 ⟨he6094, rfl⟩; exact ⟨rfl, he6094⟩)) ?_
            intro wd6093 he6094
            have e6095 := e5942.trans he6094
            refine T0_g (v := (.bool (!r6091))) (!((!decide (x5951 = 0)) || (!decide (x5949 = 0)))) (wanted_f rfl rfl rfl rfl) (fun hg => (yl_not (gd_true hg))) ?_
            refine T0_q (v := (.bool (((!decide (x5951 = 0)) || (!decide (x5949 = 0))) || (!r6091)))) rfl (yl_or rfl rfl (fun hb => (gd_true (not_t hb)))) ?_
            refine T0_nil ?_
            refine hK6090 _ _ ?_
            refine WC_cond (b := (((!decide (x5951 = 0)) || (!decide (x5949 = 0))) || (!r6091))) rfl (fun hb6096 => ?_) (fun hb6096 => ?_)
            · replace h := cond_t hb6096 h
              refine WC_seqK fun K6097 hK6097 => ?_
              refine WC_region ?_
              refine T0_q (v := (.bool false)) rfl (yl_assign rfl) ?_
              refine T0_nil ?_
              refine hK6097 _ _ ?_
              refine WC_ret ?_
              replace h := some_out h
              subst h
              exact ⟨[(.bool false)], ⟨rfl, trivial⟩, e6095, rfl⟩
            · replace h := cond_f hb6096 h
              refine WC_skip ?_
              refine hK6089 _ _ ?_
              refine WC_seqK fun K6098 hK6098 => ?_
              refine WC_region ?_
              refine T0_q (v := (.int .i64 0)) rfl (yl_assign rfl) ?_
              refine T0_nil ?_
              refine hK6098 _ _ ?_
              refine WC_seqK fun K6099 hK6099 => ?_
              refine WC_seqK fun K6100 hK6100 => ?_
              refine WC_region ?_
              refine T0_q (v := (.int .i64 0)) rfl (yl_assign rfl) ?_
              refine T0_nil ?_
              refine hK6100 _ _ ?_
              obtain ⟨o6228, hl6229, hn6230⟩ := bind_elim h
              refine WC_post (fun (ρ : Env) (wd6220 : World) => ∃ (x6226 : Int), x6226 = o6228 ∧ ρ 6 = v4668 ∧ ρ 8 = (.int .i64 x4675) ∧ ρ 25 = (.int .i64 x6226) ∧ Own 35 (v4668 :: L) wd6220 v4668 x4669 ∧ Ext w wd6220) ?_ ?_
              · intro K6234 hK6234
                refine WC_block ?_
                refine WC_loopk (fun sv ρ wd6210 => ∃ (x6216 : Int) (x6218 : Int), (x6216, x6218) = sv ∧ ρ 6 = v4668 ∧ ρ 8 = (.int .i64 x4675) ∧ ρ 25 = (.int .i64 x6216) ∧ ρ 26 = (.int .i64 x6218) ∧ Own 35 (v4668 :: L) wd6210 v4668 x4669 ∧ Ext w wd6210) hl6229 ⟨0, 0, rfl, hs5945, hs5946, rfl, rfl, (h5944.ext he6094), e6095⟩ ?_
                rintro _ ρ wd6210 ⟨x6216, x6218, rfl, hs6214, hs6215, hs6217, hs6219, h6213, e6211⟩ x6231 h hx6232 K6233 hK6233
                refine WC_seqK fun K6236 hK6236 => ?_
                refine WC_seqK fun K6237 hK6237 => ?_
                refine WC_region ?_
                refine T0_q (v := (.int .i64 x6218)) rfl (yl_move hs6219) ?_
                refine T0_q (v := v4668) rfl (yl_move hs6214) ?_
                refine T0_q (v := (.int .i64 (x4669.length : Int))) rfl (yl_lenO rfl Try.underlying33 h6213 rfl) ?_
                refine T0_q (v := (.bool (decide (x6218 < (x4669.length : Int))))) rfl (yl_lss rfl rfl) ?_
                refine T0_nil ?_
                refine hK6237 _ _ ?_
                refine WC_cond (b := (decide (x6218 < (x4669.length : Int)))) rfl (fun hb6238 => ?_) (fun hb6238 => ?_)
                · replace h := cond_t hb6238 h
                  refine WC_skip ?_
                  refine hK6236 _ _ ?_
                  refine WC_seqK fun K6239 hK6239 => ?_
                  refine WC_block ?_
                  refine WC_seqK fun K6240 hK6240 => ?_
                  refine WC_plan mixed (.p 0 (.p 1 (.p 2 (.p 3 (.p 4 (.p 6 (.p 7 (.p 8 (.p 9 (.q 5 (.q 10 (.e 11 (.p 12 .done))))))))))))) (by kernel_rfl) ?_
                  intro wd6241 he6242
                  have e6243 := e6211.trans he6242
                  refine TP_p (v := (.int .i64 x4675)) rfl rfl (fun w' => (yl_move hs6215)) ?_
                  refine TP_p (v := v4668) rfl rfl (fun w' => (yl_move hs6214)) ?_
                  refine TP_p (v := (.int .i64 x6218)) rfl rfl (fun w' => (yl_move hs6219)) ?_
                  obtain ⟨el6244, hel6245, h⟩ := bind_elim h
                  obtain ⟨cs6246, hat6247, hrd6248⟩ := Own.at h6213 hel6245
                  have hrd6248 : cs6246 = [(.int .i64 el6244.Lo), (.int .i64 el6244.Hi)] := hrd6248
                  subst hrd6248
                  refine TP_p (v := (.pointer (some (elemAddr v4668 (x6218 : Int).toNat 2)))) rfl rfl (fun w' => (yl_indexAddrO Try.underlying33 sz35 h6213 hel6245 rfl rfl)) ?_
                  refine TP_p (v := (.pointer (some (elemAddr v4668 (x6218 : Int).toNat 2)))) rfl rfl (fun w' => (yl_fa 0 Try.underlying35 rfl rfl ⟨0, sz3⟩ rfl rfl)) ?_
                  refine TP_p (v := v4668) rfl rfl (fun w' => (yl_move hs6214)) ?_
                  refine TP_p (v := (.int .i64 x6218)) rfl rfl (fun w' => (yl_move hs6219)) ?_
                  obtain ⟨el6250, hel6251, h⟩ := bind_elim h
                  obtain ⟨cs6252, hat6253, hrd6254⟩ := Own.at h6213 hel6251
                  have hrd6254 : cs6252 = [(.int .i64 el6250.Lo), (.int .i64 el6250.Hi)] := hrd6254
                  subst hrd6254
                  refine TP_p (v := (.pointer (some (elemAddr v4668 (x6218 : Int).toNat 2)))) rfl rfl (fun w' => (yl_indexAddrO Try.underlying33 sz35 h6213 hel6251 rfl rfl)) ?_
                  refine TP_p (v := (.pointer (some (Addr.add (elemAddr v4668 (x6218 : Int).toNat 2) 1)))) rfl rfl (fun w' => (yl_fa 1 Try.underlying35 rfl rfl ⟨0, sz3⟩ rfl rfl)) ?_
                  refine TP_q (v := (.int .i64 el6244.Lo)) rfl rfl (fun w' hS => (yl_load sc3 rfl (hat6247.ext' ((he6242).trans hS)))) ?_
                  refine TP_q (v := (.int .i64 el6250.Hi)) rfl rfl (fun w' hS => (yl_load sc3 rfl (At.drop (hat6253.ext' ((he6242).trans hS)) 1))) ?_
                  obtain ⟨r6256, hr6257, h⟩ := bind_elim h
                  refine TP_e rfl rfl (eff_call Try.func7 nm7 rfl (ev3 rfl rfl rfl) (base_Within_ok [] _ (LtL.nil _) x4675 el6244.Lo el6250.Hi r6256 hr6257) ?_)
                  rintro _ wd6258 ⟨he6259, rfl⟩
                  have e6260 := he6242.trans he6259
                  have e6261 := e6243.trans he6259
                  refine ⟨he6259, ?_⟩
                  refine TP_p (v := (.bool (!r6256))) rfl rfl (fun w' => (yl_not rfl)) ?_
                  refine TP_done ?_
                  refine hK6240 _ _ ?_
                  refine WC_cond (b := (!r6256)) rfl (fun hb6262 => ?_) (fun hb6262 => ?_)
                  · replace h := cond_t hb6262 h
                    refine WC_region ?_
                    refine T0_q (v := (.int .i64 x6216)) rfl (yl_move hs6217) ?_
                    refine T0_q (v := (.int .i64 (w64 (x6216 + 1)))) rfl (yl_add rfl rfl) ?_
                    refine T0_q (v := (.int .i64 (w64 (x6216 + 1)))) rfl (yl_assign rfl) ?_
                    refine T0_nil ?_
                    refine hK6239 _ _ ?_
                    refine WC_region ?_
                    refine T0_q (v := (.int .i64 x6218)) rfl (yl_move hs6219) ?_
                    refine T0_q (v := (.int .i64 (w64 (x6218 + 1)))) rfl (yl_add rfl rfl) ?_
                    refine T0_q (v := (.int .i64 (w64 (x6218 + 1)))) rfl (yl_assign rfl) ?_
                    refine T0_nil ?_
                    replace h := some_out h
                    subst h
                    refine hK6233 _ _ _ rfl ?_
                    exact ⟨w64 (x6216 + 1), w64 (x6218 + 1), rfl, hs6214, hs6215, rfl, rfl, (h6213.ext e6260), e6261⟩
                  · replace h := cond_f hb6262 h
                    refine WC_skip ?_
                    refine hK6239 _ _ ?_
                    refine WC_region ?_
                    refine T0_q (v := (.int .i64 x6218)) rfl (yl_move hs6219) ?_
                    refine T0_q (v := (.int .i64 (w64 (x6218 + 1)))) rfl (yl_add rfl rfl) ?_
                    refine T0_q (v := (.int .i64 (w64 (x6218 + 1)))) rfl (yl_assign rfl) ?_
                    refine T0_nil ?_
                    replace h := some_out h
                    subst h
                    refine hK6233 _ _ _ rfl ?_
                    exact ⟨x6216, w64 (x6218 + 1), rfl, hs6214, hs6215, hs6217, rfl, (h6213.ext e6260), e6261⟩
                · replace h := cond_f hb6238 h
                  refine WC_exit ?_
                  replace h := some_out h
                  subst h
                  have ho := hx6232 _ rfl
                  subst ho
                  refine hK6234 _ _ ?_
                  exact ⟨x6216, rfl, hs6214, hs6215, hs6217, h6213, e6211⟩
              · rintro ρ wd6220 ⟨x6226, rfl, hs6224, hs6225, hs6227, h6223, e6221⟩
                replace h := hn6230
                refine hK6099 _ _ ?_
                refine WC_seqK fun K6263 hK6263 => ?_
                refine WC_region ?_
                refine T0_q (v := v4668) rfl (yl_move hs6224) ?_
                have h6264 := (h6223.sub (sub_skip (sub_refl _))).rd (fun b hb => (fun x hx e => by have := hL x hx b e; have := hf4672 b hb; omega))
                obtain ⟨r6266, hr6267, h⟩ := bind_elim h
                refine T0_e rfl (eff_call Try.func21 nm21 rfl (ev1 rfl) (base_CopyRanges_ok L _ (hL.chg e6221) v4668 x4669 h6264 r6266 hr6267) ?_)
                rintro _ wd6268 ⟨he6269, v6270, rfl, h6271⟩
                have e6272 := e6221.trans he6269
                refine T0_q (v := (.int .i64 x6226)) rfl (yl_move hs6227) ?_
                obtain ⟨r6274, hr6275, h⟩ := bind_elim h
                refine T0_e rfl (eff_call Try.func20 nm20 rfl (ev2 rfl rfl) (locate_Fused_ok L _ (hL.chg e6272) v6270 r6266 h6271 x6226 r6274 hr6275) ?_)
                rintro _ wd6276 ⟨he6277, v6278, rfl, h6279⟩
                have e6280 := he6269.trans he6277
                have e6281 := e6272.trans he6277
                refine T0_q (v := (.tuple #[v6278, (.int .i64 r6274.2)])) rfl (yl_move rfl) ?_
                refine T0_q (v := v6278) rfl (yl_extract rfl rfl) ?_
                refine T0_q (v := (.int .i64 r6274.2)) rfl (yl_extract rfl rfl) ?_
                refine T0_q (v := v6278) rfl (yl_assign rfl) ?_
                refine T0_q (v := (.int .i64 r6274.2)) rfl (yl_assign rfl) ?_
                refine T0_nil ?_
                refine hK6263 _ _ ?_
                refine WC_seqK fun K6283 hK6283 => ?_
                refine WC_region ?_
                refine T0_q (v := (.bool false)) rfl (yl_assign rfl) ?_
                refine T0_nil ?_
                refine hK6283 _ _ ?_
                refine WC_seqK fun K6284 hK6284 => ?_
                refine WC_seqK fun K6285 hK6285 => ?_
                refine WC_region ?_
                refine T0_q (v := (.int .i64 0)) rfl (yl_assign rfl) ?_
                refine T0_nil ?_
                refine hK6285 _ _ ?_
                obtain ⟨o6398, hl6399, hn6400⟩ := bind_elim h
                refine WC_post (fun (ρ : Env) (wd6393 : World) => ∃ (x6396 : Bool), x6396 = o6398 ∧ ρ 28 = (.int .i64 r6274.2) ∧ ρ 29 = (.bool x6396) ∧ Ext w wd6393) ?_ ?_
                · intro K6404 hK6404
                  refine WC_block ?_
                  refine WC_loopk (fun sv ρ wd6383 => ∃ (x6389 : Bool) (x6391 : Int), (x6389, x6391) = sv ∧ ρ 8 = (.int .i64 x4675) ∧ ρ 27 = v6278 ∧ ρ 28 = (.int .i64 r6274.2) ∧ ρ 29 = (.bool x6389) ∧ ρ 30 = (.int .i64 x6391) ∧ SlRd L wd6383 v6278 r6274.1 ∧ Ext w wd6383) hl6399 ⟨false, 0, rfl, hs6225, rfl, rfl, rfl, rfl, h6279, e6281⟩ ?_
                  rintro _ ρ wd6383 ⟨x6389, x6391, rfl, hs6385, hs6387, hs6388, hs6390, hs6392, h6386, e6384⟩ x6401 h hx6402 K6403 hK6403
                  refine WC_seqK fun K6406 hK6406 => ?_
                  refine WC_seqK fun K6407 hK6407 => ?_
                  refine WC_region ?_
                  refine T0_q (v := (.int .i64 x6391)) rfl (yl_move hs6392) ?_
                  refine T0_q (v := v6278) rfl (yl_move hs6387) ?_
                  refine T0_q (v := (.int .i64 (r6274.1.length : Int))) rfl (yl_lenR rfl Try.underlying33 h6386 rfl) ?_
                  refine T0_q (v := (.bool (decide (x6391 < (r6274.1.length : Int))))) rfl (yl_lss rfl rfl) ?_
                  refine T0_nil ?_
                  refine hK6407 _ _ ?_
                  refine WC_cond (b := (decide (x6391 < (r6274.1.length : Int)))) rfl (fun hb6408 => ?_) (fun hb6408 => ?_)
                  · replace h := cond_t hb6408 h
                    refine WC_skip ?_
                    refine hK6406 _ _ ?_
                    refine WC_seqK fun K6409 hK6409 => ?_
                    refine WC_block ?_
                    refine WC_plan mixed (.p 0 (.p 1 (.p 2 (.p 3 (.p 4 (.p 5 (.p 6 (.p 8 (.p 9 (.p 10 (.p 11 (.q 7 (.q 12 (.e 13 (.p 14 (.p 15 .done)))))))))))))))) (by kernel_rfl) ?_
                    intro wd6410 he6411
                    have e6412 := e6384.trans he6411
                    refine TP_p (v := (.bool x6389)) rfl rfl (fun w' => (yl_move hs6390)) ?_
                    refine TP_p (v := (.bool x6389)) rfl rfl (fun w' => (yl_move rfl)) ?_
                    refine TP_gp (v := (.int .i64 x4675)) (!x6389) rfl (wanted_f rfl rfl rfl rfl) (fun w' hg => (yl_move hs6385)) ?_
                    refine TP_gp (v := v6278) (!x6389) rfl (wanted_f rfl rfl rfl rfl) (fun w' hg => (yl_move hs6387)) ?_
                    refine TP_gp (v := (.int .i64 x6391)) (!x6389) rfl (wanted_f rfl rfl rfl rfl) (fun w' hg => (yl_move hs6392)) ?_
                    obtain ⟨el6413, hel6414, h⟩ := bind_elim h
                    have hat6416 : (!x6389) = true → At wd6383 (elemAddr v6278 (x6391 : Int).toNat 2) [(.int .i64 el6413.Lo), (.int .i64 el6413.Hi)] := fun hg => by obtain ⟨cs, hat, hrd⟩ := SlRd.at h6386 (cond_t hg hel6414); have hrd : cs = [(.int .i64 el6413.Lo), (.int .i64 el6413.Hi)] := hrd; subst hrd; exact hat
                    refine TP_gp (v := (.pointer (some (elemAddr v6278 (x6391 : Int).toNat 2)))) (!x6389) rfl (wanted_f rfl rfl rfl rfl) (fun w' hg => (yl_indexAddr Try.underlying33 sz35 h6386 (cond_t hg hel6414) (gd_true hg) (gd_true hg))) ?_
                    refine TP_gp (v := (.pointer (some (elemAddr v6278 (x6391 : Int).toNat 2)))) (!x6389) rfl (wanted_f rfl rfl rfl rfl) (fun w' hg => (yl_fa 0 Try.underlying35 rfl rfl ⟨0, sz3⟩ (gd_true hg) rfl)) ?_
                    refine TP_gp (v := v6278) (!x6389) rfl (wanted_f rfl rfl rfl rfl) (fun w' hg => (yl_move hs6387)) ?_
                    refine TP_gp (v := (.int .i64 x6391)) (!x6389) rfl (wanted_f rfl rfl rfl rfl) (fun w' hg => (yl_move hs6392)) ?_
                    obtain ⟨el6418, hel6419, h⟩ := bind_elim h
                    have hat6421 : (!x6389) = true → At wd6383 (elemAddr v6278 (x6391 : Int).toNat 2) [(.int .i64 el6418.Lo), (.int .i64 el6418.Hi)] := fun hg => by obtain ⟨cs, hat, hrd⟩ := SlRd.at h6386 (cond_t hg hel6419); have hrd : cs = [(.int .i64 el6418.Lo), (.int .i64 el6418.Hi)] := hrd; subst hrd; exact hat
                    refine TP_gp (v := (.pointer (some (elemAddr v6278 (x6391 : Int).toNat 2)))) (!x6389) rfl (wanted_f rfl rfl rfl rfl) (fun w' hg => (yl_indexAddr Try.underlying33 sz35 h6386 (cond_t hg hel6419) (gd_true hg) (gd_true hg))) ?_
                    refine TP_gp (v := (.pointer (some (Addr.add (elemAddr v6278 (x6391 : Int).toNat 2) 1)))) (!x6389) rfl (wanted_f rfl rfl rfl rfl) (fun w' hg => (yl_fa 1 Try.underlying35 rfl rfl ⟨0, sz3⟩ (gd_true hg) rfl)) ?_
                    refine TP_gq (v := (.int .i64 el6413.Lo)) (!x6389) rfl (wanted_f rfl rfl rfl rfl) (fun w' hS hg => (yl_load sc3 (gd_true hg) ((hat6416 hg).ext' ((he6411).trans hS)))) ?_
                    refine TP_gq (v := (.int .i64 el6418.Hi)) (!x6389) rfl (wanted_f rfl rfl rfl rfl) (fun w' hS hg => (yl_load sc3 (gd_true hg) (At.drop ((hat6421 hg).ext' ((he6411).trans hS)) 1))) ?_
                    obtain ⟨r6423, hr6424, h⟩ := bind_elim h
                    refine TP_ges (!x6389) (.bool r6423) rfl (wanted_f rfl rfl rfl rfl) (fun hg => eff_call Try.func7 nm7 rfl (ev3 (gd_true hg) (gd_true hg) (gd_true hg)) (base_Within_ok [] _ (LtL.nil _) x4675 el6413.Lo el6418.Hi r6423 (cond_t hg hr6424)) (by rintro _ wd6425 ⟨he6426, rfl⟩; exact ⟨rfl, he6426⟩)) ?_
                    intro wd6425 he6426
                    have e6427 := he6411.trans he6426
                    have e6428 := e6412.trans he6426
                    refine ⟨he6426, ?_⟩
                    refine TP_p (v := (.bool (x6389 || r6423))) rfl rfl (fun w' => (yl_or rfl rfl (fun hb => (gd_true (not_t hb))))) ?_
                    refine TP_p (v := (.bool (x6389 || r6423))) rfl rfl (fun w' => (yl_assign rfl)) ?_
                    refine TP_done ?_
                    refine hK6409 _ _ ?_
                    refine WC_region ?_
                    refine T0_q (v := (.int .i64 x6391)) rfl (yl_move hs6392) ?_
                    refine T0_q (v := (.int .i64 (w64 (x6391 + 1)))) rfl (yl_add rfl rfl) ?_
                    refine T0_q (v := (.int .i64 (w64 (x6391 + 1)))) rfl (yl_assign rfl) ?_
                    refine T0_nil ?_
                    replace h := some_out h
                    subst h
                    refine hK6403 _ _ _ rfl ?_
                    exact ⟨(x6389 || r6423), w64 (x6391 + 1), rfl, hs6385, hs6387, hs6388, rfl, rfl, (h6386.ext e6427), e6428⟩
                  · replace h := cond_f hb6408 h
                    refine WC_exit ?_
                    replace h := some_out h
                    subst h
                    have ho := hx6402 _ rfl
                    subst ho
                    refine hK6404 _ _ ?_
                    exact ⟨x6389, rfl, hs6388, hs6390, e6384⟩
                · rintro ρ wd6393 ⟨x6396, rfl, hs6395, hs6397, e6394⟩
                  replace h := hn6400
                  refine hK6284 _ _ ?_
                  refine WC_seqK fun K6429 hK6429 => ?_
                  refine WC_region ?_
                  refine T0_q (v := (.int .i64 r6274.2)) rfl (yl_move hs6395) ?_
                  refine T0_q (v := (.bool (decide (r6274.2 = 0)))) rfl (yl_eql rfl rfl) ?_
                  refine T0_q (v := (.bool (decide (r6274.2 = 0)))) rfl (yl_move rfl) ?_
                  refine T0_g (v := (.bool x6396)) (decide (r6274.2 = 0)) (wanted_t rfl rfl rfl rfl) (fun hg => (yl_move hs6397)) ?_
                  refine T0_q (v := (.bool ((decide (r6274.2 = 0)) && x6396))) rfl (yl_and rfl (fun hb => (gd_true hb)) rfl) ?_
                  refine T0_q (v := (.bool ((decide (r6274.2 = 0)) && x6396))) rfl (yl_assign rfl) ?_
                  refine T0_nil ?_
                  refine hK6429 _ _ ?_
                  refine WC_ret ?_
                  replace h := some_out h
                  subst h
                  exact ⟨[(.bool ((decide (r6274.2 = 0)) && x6396))], ⟨rfl, trivial⟩, e6394, rfl⟩

end Go.Gw
