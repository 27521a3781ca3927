/- What functions come to, printed by a program of this work. No condition. -/
import Derived.Test.YtgpapebgdnimfaaDoorGwFnC
import Derived.Test.YtgpapebgdnimfaaDoorGwFxWin
set_option maxRecDepth 4096
set_option maxHeartbeats 1000000
set_option linter.unusedVariables false
namespace Go.Gw
open Go Go.Proofs
attribute [local irreducible] T0 TS TT TP Eff Stp WC Quiet gd
noncomputable def law04_Short_spec (p_t : LocateTrack) : Option Bool :=
  some ((decide ((p_t.Vanes.length : Int) ≤ 16)) || ((decide (40 < (p_t.Vanes.length : Int))) && (decide ((p_t.Vanes.length : Int) ≤ 42))))
theorem law04_Short_ok (L : List Value) (w : World) (hL : LtL L w) (cs_p_t : List Value) (p_t : LocateTrack) (h_p_t : Rep.rd L w cs_p_t p_t) (r : Bool) (h : law04_Short_spec p_t = some r) :
    CallsTo Tryd.prog 19 [(.agg cs_p_t.toArray)] w (fun v w' => Ext w w' ∧ (.bool r) = v) := by
  have e0 : Ext w w := Chg.refl _ _
  obtain ⟨v1, h2, rfl⟩ := h_p_t
  refine callsTo_of_WC (n := 19) (rs := [.tmp 2]) Tryd.func19 rfl rfl rfl rfl rfl ?_
  refine WC_seqK fun K4 hK4 => ?_
  refine WC_region ?_
  refine T0_e rfl (eff_boxC (cs := [v1, (.int .i64 p_t.Window), (.int .i64 p_t.Tooth), (.int .i64 p_t.PerVane), (.int .i64 p_t.First), (.int .i64 p_t.Modulus), (.int .i64 p_t.Slack), (.int .i64 p_t.Errors), (.bool p_t.Round)]) rfl rfl ?_)
  intro b5 wd6 hb7 he8 hB9
  have hbf10 := bfresh e0 hb7
  have e11 := e0.trans he8
  refine T0_q (v := (.bool false)) rfl (yl_assign rfl) ?_
  refine T0_nil ?_
  refine hK4 _ _ ?_
  refine WC_seqK fun K13 hK13 => ?_
  refine WC_region ?_
  refine T0_q (v := (.pointer (some ⟨b5, 0, none⟩))) rfl (yl_fa 0 Tryd.underlying24 rfl rfl ⟨0, sz22⟩ rfl rfl) ?_
  refine T0_q (v := v1) rfl (yl_load sc22 rfl (Box.at hB9)) ?_
  refine T0_q (v := (.int .i64 (p_t.Vanes.length : Int))) rfl (yl_lenR rfl Tryd.underlying22 h2 rfl) ?_
  refine T0_q (v := (.bool (decide ((p_t.Vanes.length : Int) ≤ 16)))) rfl (yl_leq rfl rfl) ?_
  refine T0_q (v := (.bool (decide ((p_t.Vanes.length : Int) ≤ 16)))) rfl (yl_move rfl) ?_
  refine T0_g (v := (.pointer (some ⟨b5, 0, none⟩))) (!(decide ((p_t.Vanes.length : Int) ≤ 16))) (wanted_f rfl rfl rfl rfl) (fun hg => (yl_fa 0 Tryd.underlying24 rfl rfl ⟨0, sz22⟩ rfl rfl)) ?_
  refine T0_g (v := v1) (!(decide ((p_t.Vanes.length : Int) ≤ 16))) (wanted_f rfl rfl rfl rfl) (fun hg => (yl_load sc22 (gd_true hg) (Box.at hB9))) ?_
  refine T0_g (v := (.int .i64 (p_t.Vanes.length : Int))) (!(decide ((p_t.Vanes.length : Int) ≤ 16))) (wanted_f rfl rfl rfl rfl) (fun hg => (yl_lenR rfl Tryd.underlying22 h2 (gd_true hg))) ?_
  refine T0_g (v := (.bool (decide (40 < (p_t.Vanes.length : Int))))) (!(decide ((p_t.Vanes.length : Int) ≤ 16))) (wanted_f rfl rfl rfl rfl) (fun hg => (yl_gtr (gd_true hg) rfl)) ?_
  refine T0_g (v := (.bool (decide (40 < (p_t.Vanes.length : Int))))) (!(decide ((p_t.Vanes.length : Int) ≤ 16))) (wanted_f rfl rfl rfl rfl) (fun hg => (yl_move (gd_true hg))) ?_
  refine T0_g (v := (.pointer (some ⟨b5, 0, none⟩))) ((!(decide ((p_t.Vanes.length : Int) ≤ 16))) && (decide (40 < (p_t.Vanes.length : Int)))) (wanted_gt rfl rfl rfl rfl) (fun hg => (yl_fa 0 Tryd.underlying24 rfl rfl ⟨0, sz22⟩ rfl rfl)) ?_
  refine T0_g (v := v1) ((!(decide ((p_t.Vanes.length : Int) ≤ 16))) && (decide (40 < (p_t.Vanes.length : Int)))) (wanted_gt rfl rfl rfl rfl) (fun hg => (yl_load sc22 (gd_true hg) (Box.at hB9))) ?_
  refine T0_g (v := (.int .i64 (p_t.Vanes.length : Int))) ((!(decide ((p_t.Vanes.length : Int) ≤ 16))) && (decide (40 < (p_t.Vanes.length : Int)))) (wanted_gt rfl rfl rfl rfl) (fun hg => (yl_lenR rfl Tryd.underlying22 h2 (gd_true hg))) ?_
  refine T0_g (v := (.bool (decide ((p_t.Vanes.length : Int) ≤ 42)))) ((!(decide ((p_t.Vanes.length : Int) ≤ 16))) && (decide (40 < (p_t.Vanes.length : Int)))) (wanted_gt rfl rfl rfl rfl) (fun hg => (yl_leq (gd_true hg) rfl)) ?_
  refine T0_g (v := (.bool ((decide (40 < (p_t.Vanes.length : Int))) && (decide ((p_t.Vanes.length : Int) ≤ 42))))) (!(decide ((p_t.Vanes.length : Int) ≤ 16))) (wanted_f rfl rfl rfl rfl) (fun hg => (yl_and (gd_true hg) (fun hb => (gd_true (and_i hg hb))) rfl)) ?_
  refine T0_q (v := (.bool ((decide ((p_t.Vanes.length : Int) ≤ 16)) || ((decide (40 < (p_t.Vanes.length : Int))) && (decide ((p_t.Vanes.length : Int) ≤ 42)))))) rfl (yl_or rfl rfl (fun hb => (gd_true (not_t hb)))) ?_
  refine T0_q (v := (.bool ((decide ((p_t.Vanes.length : Int) ≤ 16)) || ((decide (40 < (p_t.Vanes.length : Int))) && (decide ((p_t.Vanes.length : Int) ≤ 42)))))) rfl (yl_assign rfl) ?_
  refine T0_nil ?_
  refine hK13 _ _ ?_
  refine WC_ret ?_
  replace h := some_out h
  subst h
  exact ⟨[(.bool ((decide ((p_t.Vanes.length : Int) ≤ 16)) || ((decide (40 < (p_t.Vanes.length : Int))) && (decide ((p_t.Vanes.length : Int) ≤ 42)))))], ⟨rfl, trivial⟩, e11, rfl⟩

noncomputable def ref04_CopyReading_spec (p_x : LocateReading) : Option LocateReading :=
  (Option.bind (base_CopyInts_spec p_x.Seen) fun r28 =>
  some (LocateReading.mk r28 p_x.Count)
  )
theorem ref04_CopyReading_ok (L : List Value) (w : World) (hL : LtL L w) (cs_p_x : List Value) (p_x : LocateReading) (h_p_x : Rep.rd L w cs_p_x p_x) (r : LocateReading) (h : ref04_CopyReading_spec p_x = some r) :
    CallsTo Tryd.prog 22 [(.agg cs_p_x.toArray)] w (fun v w' => Ext w w' ∧ ∃ (cs0 : List Value), (.agg cs0.toArray) = v ∧ Rep.rd L w' cs0 r) := by
  have e0 : Ext w w := Chg.refl _ _
  obtain ⟨v1, h2, rfl⟩ := h_p_x
  refine callsTo_of_WC (n := 9) (rs := [.cell 2 26]) Tryd.func22 rfl rfl rfl rfl rfl ?_
  refine WC_seqK fun K4 hK4 => ?_
  refine WC_region ?_
  refine T0_e rfl (eff_boxC (cs := [v1, (.int .i64 p_x.Count)]) rfl rfl ?_)
  intro b5 wd6 hb7 he8 hB9
  have hbf10 := bfresh e0 hb7
  have e11 := e0.trans he8
  refine T0_e rfl (eff_allocZ zi26 ?_)
  intro b13 wd14 hb15 he16 hB17
  have hn18 : b13 ≠ b5 := box_ne hB9 hb15
  have hbf19 := bfresh e11 hb15
  have h20 := (h2.ext he8).step (add_box he16 hb15)
  have e21 := e11.trans he16
  refine T0_nil ?_
  refine hK4 _ _ ?_
  refine WC_seqK fun K23 hK23 => ?_
  refine WC_plan mixed (.p 0 (.p 3 (.q 1 (.q 4 (.e 2 (.p 5 (.b 6 .done))))))) (by kernel_rfl) ?_
  intro wd24 he25
  have e26 := he16.trans he25
  have e27 := e21.trans he25
  refine TP_p (v := (.pointer (some ⟨b5, 0, none⟩))) rfl rfl (fun w' => (yl_fa 0 Tryd.underlying26 rfl rfl ⟨0, sz22⟩ rfl rfl)) ?_
  refine TP_p (v := (.pointer (some ⟨b5, 1, none⟩))) rfl rfl (fun w' => (yl_fa 1 Tryd.underlying26 rfl rfl ⟨0, sz3⟩ rfl rfl)) ?_
  refine TP_q (v := v1) rfl rfl (fun w' hS => (yl_load sc22 rfl (Box.at (hB9.ext ((e26).trans hS))))) ?_
  refine TP_q (v := (.int .i64 p_x.Count)) rfl rfl (fun w' hS => (yl_load sc3 rfl (At.drop (Box.at (hB9.ext ((e26).trans hS))) 1))) ?_
  obtain ⟨r28, hr29, h⟩ := bind_elim h
  refine TP_e rfl rfl (eff_call Tryd.func30 nm30 rfl (ev1 rfl) (base_CopyInts_own ((.pointer (some ⟨b13, 0, none⟩)) :: L) _ (ltl_box (hL.chg e27) (hB17.ext he25)) v1 p_x.Seen (h20.ext he25) r28 hr29) ?_)
  rintro _ wd30 ⟨he31, v32, rfl, hf34, h33⟩
  have h35 := (h20.ext he25).step (Stepp.add v32 he31 hf34)
  have hn37 : blk v32 ≠ some b5 := fun e => by have := hf34 _ e; have := (hB9.ext e26).lt; omega
  have hn38 : blk v32 ≠ some b13 := fun e => by have := hf34 _ e; have := (hB17.ext he25).lt; omega
  have hf39 : ∀ b, blk v32 = some b → w.heap.size ≤ b := fun b hb => Nat.le_trans e27.size (hf34 b hb)
  have e40 := he25.trans he31
  have e41 := e26.trans he31
  have e42 := e27.trans he31
  refine ⟨he31, ?_⟩
  refine TP_p (v := (.agg (List.toArray [v32, (.int .i64 p_x.Count)]))) rfl rfl (fun w' => (yl_buildC (cells := [v32, (.int .i64 p_x.Count)]) bi26 (pc_cons rfl (cells_one h33.one1) (pc_cons rfl rfl pc_nil)) rfl)) ?_
  refine TP_b rfl rfl (eff_storeC (vs := [v32, (.int .i64 p_x.Count)]) (cs' := [v32, (.int .i64 p_x.Count)]) sz26 rfl rfl rfl rfl (hB17.ext e40) rfl (oc_cons h33.one1 (oc_cons rfl oc_nil)) rfl ?_)
  intro wd44 hc45 hB46
  have h47 := h35.step (Stepp.chg_mem hc45 (memS mem0))
  have h48 := (hB9.ext e41).chg hc45 (avoidb hn18)
  have h49 := h33.step (Stepp.chg_mem hc45 (memS mem0)) hc45 (av_box hn38)
  have e50 := chg_box e42 hc45 hbf19
  refine TP_done ?_
  refine hK23 _ _ ?_
  refine WC_ret ?_
  replace h := some_out h
  subst h
  exact ⟨[(.agg (List.toArray [v32, (.int .i64 p_x.Count)]))], ⟨⟨_, rfl, run_loadVarA (cs := [v32, (.int .i64 p_x.Count)]) ag26 (Box.at hB46)⟩, trivial⟩, e50, [v32, (.int .i64 p_x.Count)], rfl, ⟨v32, (h49.rdL (sub_skip (sub_skip (sub_refl _))) hL hf39), rfl⟩⟩
theorem ref04_CopyReading_own (L : List Value) (w : World) (hL : LtL L w) (cs_p_x : List Value) (p_x : LocateReading) (h_p_x : Rep.rd L w cs_p_x p_x) (r : LocateReading) (h : ref04_CopyReading_spec p_x = some r) :
    CallsTo Tryd.prog 22 [(.agg cs_p_x.toArray)] w (fun v w' => Ext w w' ∧ ∃ (v4 : Value), (.agg (List.toArray [v4, (.int .i64 r.Count)])) = v ∧ (∀ b, blk v4 = some b → w.heap.size ≤ b) ∧ Own 3 (v4 :: L) w' v4 r.Seen) := by
  have e0 : Ext w w := Chg.refl _ _
  obtain ⟨v1, h2, rfl⟩ := h_p_x
  refine callsTo_of_WC (n := 9) (rs := [.cell 2 26]) Tryd.func22 rfl rfl rfl rfl rfl ?_
  refine WC_seqK fun K6 hK6 => ?_
  refine WC_region ?_
  refine T0_e rfl (eff_boxC (cs := [v1, (.int .i64 p_x.Count)]) rfl rfl ?_)
  intro b7 wd8 hb9 he10 hB11
  have hbf12 := bfresh e0 hb9
  have e13 := e0.trans he10
  refine T0_e rfl (eff_allocZ zi26 ?_)
  intro b15 wd16 hb17 he18 hB19
  have hn20 : b15 ≠ b7 := box_ne hB11 hb17
  have hbf21 := bfresh e13 hb17
  have h22 := (h2.ext he10).step (add_box he18 hb17)
  have e23 := e13.trans he18
  refine T0_nil ?_
  refine hK6 _ _ ?_
  refine WC_seqK fun K25 hK25 => ?_
  refine WC_plan mixed (.p 0 (.p 3 (.q 1 (.q 4 (.e 2 (.p 5 (.b 6 .done))))))) (by kernel_rfl) ?_
  intro wd26 he27
  have e28 := he18.trans he27
  have e29 := e23.trans he27
  refine TP_p (v := (.pointer (some ⟨b7, 0, none⟩))) rfl rfl (fun w' => (yl_fa 0 Tryd.underlying26 rfl rfl ⟨0, sz22⟩ rfl rfl)) ?_
  refine TP_p (v := (.pointer (some ⟨b7, 1, none⟩))) rfl rfl (fun w' => (yl_fa 1 Tryd.underlying26 rfl rfl ⟨0, sz3⟩ rfl rfl)) ?_
  refine TP_q (v := v1) rfl rfl (fun w' hS => (yl_load sc22 rfl (Box.at (hB11.ext ((e28).trans hS))))) ?_
  refine TP_q (v := (.int .i64 p_x.Count)) rfl rfl (fun w' hS => (yl_load sc3 rfl (At.drop (Box.at (hB11.ext ((e28).trans hS))) 1))) ?_
  obtain ⟨r30, hr31, h⟩ := bind_elim h
  refine TP_e rfl rfl (eff_call Tryd.func30 nm30 rfl (ev1 rfl) (base_CopyInts_own ((.pointer (some ⟨b15, 0, none⟩)) :: L) _ (ltl_box (hL.chg e29) (hB19.ext he27)) v1 p_x.Seen (h22.ext he27) r30 hr31) ?_)
  rintro _ wd32 ⟨he33, v34, rfl, hf36, h35⟩
  have h37 := (h22.ext he27).step (Stepp.add v34 he33 hf36)
  have hn39 : blk v34 ≠ some b7 := fun e => by have := hf36 _ e; have := (hB11.ext e28).lt; omega
  have hn40 : blk v34 ≠ some b15 := fun e => by have := hf36 _ e; have := (hB19.ext he27).lt; omega
  have hf41 : ∀ b, blk v34 = some b → w.heap.size ≤ b := fun b hb => Nat.le_trans e29.size (hf36 b hb)
  have e42 := he27.trans he33
  have e43 := e28.trans he33
  have e44 := e29.trans he33
  refine ⟨he33, ?_⟩
  refine TP_p (v := (.agg (List.toArray [v34, (.int .i64 p_x.Count)]))) rfl rfl (fun w' => (yl_buildC (cells := [v34, (.int .i64 p_x.Count)]) bi26 (pc_cons rfl (cells_one h35.one1) (pc_cons rfl rfl pc_nil)) rfl)) ?_
  refine TP_b rfl rfl (eff_storeC (vs := [v34, (.int .i64 p_x.Count)]) (cs' := [v34, (.int .i64 p_x.Count)]) sz26 rfl rfl rfl rfl (hB19.ext e42) rfl (oc_cons h35.one1 (oc_cons rfl oc_nil)) rfl ?_)
  intro wd46 hc47 hB48
  have h49 := h37.step (Stepp.chg_mem hc47 (memS mem0))
  have h50 := (hB11.ext e43).chg hc47 (avoidb hn20)
  have h51 := h35.step (Stepp.chg_mem hc47 (memS mem0)) hc47 (av_box hn40)
  have e52 := chg_box e44 hc47 hbf21
  refine TP_done ?_
  refine hK25 _ _ ?_
  refine WC_ret ?_
  replace h := some_out h
  subst h
  exact ⟨[(.agg (List.toArray [v34, (.int .i64 p_x.Count)]))], ⟨⟨_, rfl, run_loadVarA (cs := [v34, (.int .i64 p_x.Count)]) ag26 (Box.at hB48)⟩, trivial⟩, e52, v34, rfl, hf41, (h51.sub (sub_cons mem0 (sub_skip (sub_skip (sub_refl _)))))⟩

noncomputable def law04_LocateNeverWrong_s0 (p_Listappend : LocateTrack) (p_String : guidewaylaw04_Spoilt) : ((List Int) × Int) → Option (((List Int) × Int) ⊕ ((List Int))) := fun (x377, x382) =>
  (bif (decide (x382 < (p_String.Wrong.length : Int))) then (
    (Option.bind (idx p_String.Wrong x382) fun el445 =>
    (Option.bind (base_Mod_spec el445 p_Listappend.Window) fun r451 =>
    (Option.bind (idx x377 r451) fun el457 =>
    (Option.bind (idx x377 r451) fun el463 =>
    some (.inl ((x377.set (r451 : Int).toNat (w64 (1 - el457))), w64 (x382 + 1)))
    )
    )
    )
    )
  ) else (
    some (.inr x377)
  ))
noncomputable def law04_LocateNeverWrong_s1 (p_Listappend : LocateTrack) (p_String : guidewaylaw04_Spoilt) : ((List Int) × Int) → Option (((List Int) × Int) ⊕ ((List Int))) := fun (x651, x656) =>
  (bif (decide (x656 < (p_String.Unread.length : Int))) then (
    (Option.bind (idx p_String.Unread x656) fun el703 =>
    (Option.bind (base_Mod_spec el703 p_Listappend.Window) fun r709 =>
    (Option.bind (idx x651 r709) fun el715 =>
    some (.inl ((x651.set (r709 : Int).toNat 2), w64 (x656 + 1)))
    )
    )
    )
  ) else (
    some (.inr x651)
  ))
noncomputable def law04_LocateNeverWrong_s2 (r1306 : ((List Range) × Int)) (x1043 : Int) (x1044 : Int) : (Bool × Int) → Option ((Bool × Int) ⊕ (Bool)) := fun (x1786, x1788) =>
  (bif (decide (x1788 < (r1306.1.length : Int))) then (
    (Option.bind ((bif (!x1786) then idx r1306.1 x1788 else some default)) fun el1822 =>
    (Option.bind ((bif ((!x1786) && (decide (el1822.Lo ≤ x1043))) then idx r1306.1 x1788 else some default)) fun el1827 =>
    some (.inl ((x1786 || ((decide (el1822.Lo ≤ x1043)) && (decide (x1044 ≤ el1827.Hi)))), w64 (x1788 + 1)))
    )
    )
  ) else (
    some (.inr x1786)
  ))
noncomputable def law04_LocateNeverWrong_spec (p_Listappend : LocateTrack) (p_String : guidewaylaw04_Spoilt) : Option Bool :=
  (Option.bind (law04_awake_spec) fun r31 =>
  (bif (!r31) then (
    some false
  ) else (
    (Option.bind (law04_Short_spec p_Listappend) fun r42 =>
    (Option.bind (bif (!(!r42)) then ref04_TrackErr_spec p_Listappend else some default) fun r50 =>
    (Option.bind (bif (!((!r42) || (!decide (r50 = 0)))) then ref04_ToothErr_spec p_Listappend p_String.Tooth else some default) fun r58 =>
    (Option.bind (bif (!(((((!r42) || (!decide (r50 = 0))) || (!decide (r58 = 0))) || (decide (p_Listappend.Errors < (p_String.Wrong.length : Int)))) || (decide (14 < (p_String.Unread.length : Int))))) then base_Within_spec p_String.Off (w64 (0 - p_Listappend.Slack)) p_Listappend.Slack else some default) fun r66 =>
    (bif ((((((!r42) || (!decide (r50 = 0))) || (!decide (r58 = 0))) || (decide (p_Listappend.Errors < (p_String.Wrong.length : Int)))) || (decide (14 < (p_String.Unread.length : Int)))) || (!r66)) then (
      some true
    ) else (
      (Option.bind (quo p_String.Tooth p_Listappend.PerVane) fun q77 =>
      (Option.bind (ref04_Copy_spec p_Listappend) fun r80 =>
      (Option.bind (locate_WindowAt_spec r80 q77) fun r93 =>
      (Option.bind (bif (!((!decide (r93.2 = 0)) || (!decide ((r93.1.length : Int) = p_Listappend.Window)))) then base_AreBits_spec r93.1 else some default) fun r106 =>
      (bif (((!decide (r93.2 = 0)) || (!decide ((r93.1.length : Int) = p_Listappend.Window))) || (!r106)) then (
        some false
      ) else (
        (Option.bind (base_CopyInts_spec r93.1) fun r118 =>
        (Option.bind (loop (law04_LocateNeverWrong_s0 p_Listappend p_String) (r118, 0)) fun (x400 : (List Int)) =>
        (Option.bind (loop (law04_LocateNeverWrong_s1 p_Listappend p_String) (x400, 0)) fun (x674 : (List Int)) =>
        (Option.bind (base_Mod_spec (w64 (p_String.Tooth + p_String.Off)) p_Listappend.Modulus) fun r731 =>
        (Option.bind (ref04_Copy_spec p_Listappend) fun r763 =>
        (Option.bind (base_CopyInts_spec x674) fun r779 =>
        (Option.bind (locate_Near_spec r763 r779) fun r788 =>
        (Option.bind (ref04_Copy_spec p_Listappend) fun r799 =>
        (Option.bind (base_CopyInts_spec x674) fun r812 =>
        (Option.bind (locate_Told_spec r799 r812) fun r824 =>
        (Option.bind (α := (Int × Int × Int)) (
          (Option.bind (ref04_Copy_spec p_Listappend) fun r1063 =>
          (Option.bind (locate_PlacesOf_spec r1063 p_String.Tooth) fun r1079 =>
          some (r1079.2, r1079.1.Lo, r1079.1.Hi)
          )
          )
        ) fun ((x1035, x1043, x1044) : Int × Int × Int) =>
        (Option.bind (ref04_Copy_spec p_Listappend) fun r1283 =>
        (Option.bind (ref04_CopyReading_spec (LocateReading.mk x674 r731)) fun r1294 =>
        (Option.bind (locate_Possible_spec r1283 r1294) fun r1306 =>
        (Option.bind (α := (Int × Int × Int)) (
          (Option.bind (ref04_Copy_spec p_Listappend) fun r1516 =>
          (Option.bind (locate_PlaceOf_spec r1516 (LocateReading.mk x674 r731)) fun r1530 =>
          some (r1530.2, r1530.1.Lo, r1530.1.Hi)
          )
          )
        ) fun ((x1496, x1500, x1501) : Int × Int × Int) =>
        (Option.bind (bif (!(!decide (r788.2 = 0))) then base_Has_spec r788.1 q77 else some default) fun r1675 =>
        (bif ((((((!decide (r788.2 = 0)) || (!r1675)) || ((!decide (r824.2 = 0)) && (!decide (r824.2 = 29)))) || ((decide (r824.2 = 0)) && (!decide (r824.1 = q77)))) || (!decide (x1035 = 0))) || (!decide (r1306.2 = 0))) then (
          some false
        ) else (
          (Option.bind (loop (law04_LocateNeverWrong_s2 r1306 x1043 x1044) (false, 0)) fun (x1801 : Bool) =>
          some (x1801 && (((decide (x1496 = 29)) && (decide (1 < (r1306.1.length : Int)))) || (((decide (x1496 = 0)) && (decide (x1500 ≤ x1043))) && (decide (x1044 ≤ x1501)))))
          )
        ))
        )
        )
        )
        )
        )
        )
        )
        )
        )
        )
        )
        )
        )
        )
        )
        )
      ))
      )
      )
      )
      )
    ))
    )
    )
    )
    )
  ))
  )
theorem law04_LocateNeverWrong_ok (L : List Value) (w : World) (hL : LtL L w) (hg0 : At w ⟨0, 0, none⟩ [.int .i64 0, .int .i64 1, .int .i64 3, .int .i64 2]) (cs_p_Listappend : List Value) (p_Listappend : LocateTrack) (h_p_Listappend : Rep.rd L w cs_p_Listappend p_Listappend) (cs_p_String : List Value) (p_String : guidewaylaw04_Spoilt) (h_p_String : Rep.rd L w cs_p_String p_String) (r : Bool) (h : law04_LocateNeverWrong_spec p_Listappend p_String = some r) :
    CallsTo Tryd.prog 11 [(.agg cs_p_Listappend.toArray), (.agg cs_p_String.toArray)] w (fun v w' => Ext w w' ∧ (.bool r) = v) := by
  have e0 : Ext w w := Chg.refl _ _
  obtain ⟨v1, h2, rfl⟩ := h_p_Listappend
  obtain ⟨v4, v6, h5, h7, rfl⟩ := h_p_String
  refine callsTo_of_WC (n := 272) (rs := [.tmp 4]) Tryd.func11 rfl rfl rfl rfl rfl ?_
  refine WC_seqK fun K10 hK10 => ?_
  refine WC_region ?_
  refine T0_e rfl (eff_boxC (cs := [v1, (.int .i64 p_Listappend.Window), (.int .i64 p_Listappend.Tooth), (.int .i64 p_Listappend.PerVane), (.int .i64 p_Listappend.First), (.int .i64 p_Listappend.Modulus), (.int .i64 p_Listappend.Slack), (.int .i64 p_Listappend.Errors), (.bool p_Listappend.Round)]) rfl rfl ?_)
  intro b11 wd12 hb13 he14 hB15
  have hbf16 := bfresh e0 hb13
  have e17 := e0.trans he14
  refine T0_e rfl (eff_boxC (cs := [(.int .i64 p_String.Tooth), v4, v6, (.int .i64 p_String.Off)]) rfl rfl ?_)
  intro b19 wd20 hb21 he22 hB23
  have hn24 : b19 ≠ b11 := box_ne hB15 hb21
  have hbf25 := bfresh e17 hb21
  have e26 := he14.trans he22
  have e27 := e17.trans he22
  refine T0_q (v := (.bool false)) rfl (yl_assign rfl) ?_
  refine T0_nil ?_
  refine hK10 _ _ ?_
  refine WC_seqK fun K29 hK29 => ?_
  refine WC_seqK fun K30 hK30 => ?_
  refine WC_region ?_
  obtain ⟨r31, hr32, h⟩ := bind_elim h
  refine T0_e rfl (eff_call Tryd.func18 nm18 rfl ev0 (law04_awake_ok [] _ (LtL.nil _) (hg0.ext e27)  r31 hr32) ?_)
  rintro _ wd33 ⟨he34, rfl⟩
  have e35 := e26.trans he34
  have e36 := he22.trans he34
  have e37 := e27.trans he34
  refine T0_q (v := (.bool (!r31))) rfl (yl_not rfl) ?_
  refine T0_nil ?_
  refine hK30 _ _ ?_
  refine WC_cond (b := (!r31)) rfl (fun hb38 => ?_) (fun hb38 => ?_)
  · replace h := cond_t hb38 h
    refine WC_seqK fun K39 hK39 => ?_
    refine WC_region ?_
    refine T0_q (v := (.bool false)) rfl (yl_assign rfl) ?_
    refine T0_nil ?_
    refine hK39 _ _ ?_
    refine WC_ret ?_
    replace h := some_out h
    subst h
    exact ⟨[(.bool false)], ⟨rfl, trivial⟩, e37, rfl⟩
  · replace h := cond_f hb38 h
    refine WC_skip ?_
    refine hK29 _ _ ?_
    refine WC_seqK fun K40 hK40 => ?_
    refine WC_seqK fun K41 hK41 => ?_
    refine WC_region ?_
    refine T0_q (v := (.agg (List.toArray [v1, (.int .i64 p_Listappend.Window), (.int .i64 p_Listappend.Tooth), (.int .i64 p_Listappend.PerVane), (.int .i64 p_Listappend.First), (.int .i64 p_Listappend.Modulus), (.int .i64 p_Listappend.Slack), (.int .i64 p_Listappend.Errors), (.bool p_Listappend.Round)]))) rfl (yl_loadA (cs := [v1, (.int .i64 p_Listappend.Window), (.int .i64 p_Listappend.Tooth), (.int .i64 p_Listappend.PerVane), (.int .i64 p_Listappend.First), (.int .i64 p_Listappend.Modulus), (.int .i64 p_Listappend.Slack), (.int .i64 p_Listappend.Errors), (.bool p_Listappend.Round)]) ag24 rfl (Box.at (hB15.ext e36))) ?_
    obtain ⟨r42, hr43, h⟩ := bind_elim h
    refine T0_e rfl (eff_call Tryd.func19 nm19 rfl (ev1 rfl) (law04_Short_ok [] _ (LtL.nil _) [v1, (.int .i64 p_Listappend.Window), (.int .i64 p_Listappend.Tooth), (.int .i64 p_Listappend.PerVane), (.int .i64 p_Listappend.First), (.int .i64 p_Listappend.Modulus), (.int .i64 p_Listappend.Slack), (.int .i64 p_Listappend.Errors), (.bool p_Listappend.Round)] p_Listappend ⟨v1, ((h2.ext e35).sub (fun _ h => by cases h)), rfl⟩ r42 hr43) ?_)
    rintro _ wd44 ⟨he45, rfl⟩
    have e46 := e35.trans he45
    have e47 := e36.trans he45
    have e48 := he34.trans he45
    have e49 := e37.trans he45
    refine T0_q (v := (.bool (!r42))) rfl (yl_not rfl) ?_
    refine T0_q (v := (.bool (!r42))) rfl (yl_move rfl) ?_
    refine T0_g (v := (.agg (List.toArray [v1, (.int .i64 p_Listappend.Window), (.int .i64 p_Listappend.Tooth), (.int .i64 p_Listappend.PerVane), (.int .i64 p_Listappend.First), (.int .i64 p_Listappend.Modulus), (.int .i64 p_Listappend.Slack), (.int .i64 p_Listappend.Errors), (.bool p_Listappend.Round)]))) (!(!r42)) (wanted_f rfl rfl rfl rfl) (fun hg => (yl_loadA (cs := [v1, (.int .i64 p_Listappend.Window), (.int .i64 p_Listappend.Tooth), (.int .i64 p_Listappend.PerVane), (.int .i64 p_Listappend.First), (.int .i64 p_Listappend.Modulus), (.int .i64 p_Listappend.Slack), (.int .i64 p_Listappend.Errors), (.bool p_Listappend.Round)]) ag24 rfl (Box.at (hB15.ext e47)))) ?_
    obtain ⟨r50, hr51, h⟩ := bind_elim h
    refine T0_ges (!(!r42)) (.int .i64 r50) (wanted_f rfl rfl rfl rfl) (fun hg => eff_call Tryd.func24 nm24 rfl (ev1 (gd_true hg)) (ref04_TrackErr_ok [] _ (LtL.nil _) [v1, (.int .i64 p_Listappend.Window), (.int .i64 p_Listappend.Tooth), (.int .i64 p_Listappend.PerVane), (.int .i64 p_Listappend.First), (.int .i64 p_Listappend.Modulus), (.int .i64 p_Listappend.Slack), (.int .i64 p_Listappend.Errors), (.bool p_Listappend.Round)] p_Listappend ⟨v1, ((h2.ext e46).sub (fun _ h => by cases h)), rfl⟩ r50 (cond_t hg hr51)) (by rintro _ wd52 ⟨he53, rfl⟩; exact ⟨rfl, he53⟩)) ?_
    intro wd52 he53
    have e54 := e46.trans he53
    have e55 := e47.trans he53
    have e56 := e48.trans he53
    have e57 := e49.trans he53
    refine T0_g (v := (.bool (!decide (r50 = 0)))) (!(!r42)) (wanted_f rfl rfl rfl rfl) (fun hg => (yl_neq (gd_true hg) rfl)) ?_
    refine T0_q (v := (.bool ((!r42) || (!decide (r50 = 0))))) rfl (yl_or rfl rfl (fun hb => (gd_true (not_t hb)))) ?_
    refine T0_q (v := (.bool ((!r42) || (!decide (r50 = 0))))) rfl (yl_move rfl) ?_
    refine T0_g (v := (.agg (List.toArray [v1, (.int .i64 p_Listappend.Window), (.int .i64 p_Listappend.Tooth), (.int .i64 p_Listappend.PerVane), (.int .i64 p_Listappend.First), (.int .i64 p_Listappend.Modulus), (.int .i64 p_Listappend.Slack), (.int .i64 p_Listappend.Errors), (.bool p_Listappend.Round)]))) (!((!r42) || (!decide (r50 = 0)))) (wanted_f rfl rfl rfl rfl) (fun hg => (yl_loadA (cs := [v1, (.int .i64 p_Listappend.Window), (.int .i64 p_Listappend.Tooth), (.int .i64 p_Listappend.PerVane), (.int .i64 p_Listappend.First), (.int .i64 p_Listappend.Modulus), (.int .i64 p_Listappend.Slack), (.int .i64 p_Listappend.Errors), (.bool p_Listappend.Round)]) ag24 rfl (Box.at (hB15.ext e55)))) ?_
    refine T0_g (v := (.pointer (some ⟨b19, 0, none⟩))) (!((!r42) || (!decide (r50 = 0)))) (wanted_f rfl rfl rfl rfl) (fun hg => (yl_fa 0 Tryd.underlying96 rfl rfl ⟨0, sz3⟩ rfl rfl)) ?_
    refine T0_g (v := (.int .i64 p_String.Tooth)) (!((!r42) || (!decide (r50 = 0)))) (wanted_f rfl rfl rfl rfl) (fun hg => (yl_load sc3 (gd_true hg) (Box.at (hB23.ext e56)))) ?_
    obtain ⟨r58, hr59, h⟩ := bind_elim h
    refine T0_ges (!((!r42) || (!decide (r50 = 0)))) (.int .i64 r58) (wanted_f rfl rfl rfl rfl) (fun hg => eff_call Tryd.func55 nm55 rfl (ev2 (gd_true hg) (gd_true hg)) (ref04_ToothErr_ok [] _ (LtL.nil _) [v1, (.int .i64 p_Listappend.Window), (.int .i64 p_Listappend.Tooth), (.int .i64 p_Listappend.PerVane), (.int .i64 p_Listappend.First), (.int .i64 p_Listappend.Modulus), (.int .i64 p_Listappend.Slack), (.int .i64 p_Listappend.Errors), (.bool p_Listappend.Round)] p_Listappend ⟨v1, ((h2.ext e54).sub (fun _ h => by cases h)), rfl⟩ p_String.Tooth r58 (cond_t hg hr59)) (by rintro _ wd60 ⟨he61, rfl⟩; exact ⟨rfl, he61⟩)) ?_
    intro wd60 he61
    have e62 := e54.trans he61
    have e63 := e55.trans he61
    have e64 := e56.trans he61
    have e65 := e57.trans he61
    refine T0_g (v := (.bool (!decide (r58 = 0)))) (!((!r42) || (!decide (r50 = 0)))) (wanted_f rfl rfl rfl rfl) (fun hg => (yl_neq (gd_true hg) rfl)) ?_
    refine T0_q (v := (.bool (((!r42) || (!decide (r50 = 0))) || (!decide (r58 = 0))))) rfl (yl_or rfl rfl (fun hb => (gd_true (not_t hb)))) ?_
    refine T0_q (v := (.bool (((!r42) || (!decide (r50 = 0))) || (!decide (r58 = 0))))) rfl (yl_move rfl) ?_
    refine T0_g (v := (.pointer (some ⟨b19, 1, none⟩))) (!(((!r42) || (!decide (r50 = 0))) || (!decide (r58 = 0)))) (wanted_f rfl rfl rfl rfl) (fun hg => (yl_fa 1 Tryd.underlying96 rfl rfl ⟨0, sz22⟩ rfl rfl)) ?_
    refine T0_g (v := v4) (!(((!r42) || (!decide (r50 = 0))) || (!decide (r58 = 0)))) (wanted_f rfl rfl rfl rfl) (fun hg => (yl_load sc22 (gd_true hg) (At.drop (Box.at (hB23.ext e64)) 1))) ?_
    refine T0_g (v := (.int .i64 (p_String.Wrong.length : Int))) (!(((!r42) || (!decide (r50 = 0))) || (!decide (r58 = 0)))) (wanted_f rfl rfl rfl rfl) (fun hg => (yl_lenR rfl Tryd.underlying22 h5 (gd_true hg))) ?_
    refine T0_g (v := (.pointer (some ⟨b11, 7, none⟩))) (!(((!r42) || (!decide (r50 = 0))) || (!decide (r58 = 0)))) (wanted_f rfl rfl rfl rfl) (fun hg => (yl_fa 7 Tryd.underlying24 rfl rfl ⟨0, sz3⟩ rfl rfl)) ?_
    refine T0_g (v := (.int .i64 p_Listappend.Errors)) (!(((!r42) || (!decide (r50 = 0))) || (!decide (r58 = 0)))) (wanted_f rfl rfl rfl rfl) (fun hg => (yl_load sc3 (gd_true hg) (At.drop (Box.at (hB15.ext e63)) 7))) ?_
    refine T0_g (v := (.bool (decide (p_Listappend.Errors < (p_String.Wrong.length : Int))))) (!(((!r42) || (!decide (r50 = 0))) || (!decide (r58 = 0)))) (wanted_f rfl rfl rfl rfl) (fun hg => (yl_gtr (gd_true hg) (gd_true hg))) ?_
    refine T0_q (v := (.bool ((((!r42) || (!decide (r50 = 0))) || (!decide (r58 = 0))) || (decide (p_Listappend.Errors < (p_String.Wrong.length : Int)))))) rfl (yl_or rfl rfl (fun hb => (gd_true (not_t hb)))) ?_
    refine T0_q (v := (.bool ((((!r42) || (!decide (r50 = 0))) || (!decide (r58 = 0))) || (decide (p_Listappend.Errors < (p_String.Wrong.length : Int)))))) rfl (yl_move rfl) ?_
    refine T0_g (v := (.pointer (some ⟨b19, 2, none⟩))) (!((((!r42) || (!decide (r50 = 0))) || (!decide (r58 = 0))) || (decide (p_Listappend.Errors < (p_String.Wrong.length : Int))))) (wanted_f rfl rfl rfl rfl) (fun hg => (yl_fa 2 Tryd.underlying96 rfl rfl ⟨0, sz22⟩ rfl rfl)) ?_
    refine T0_g (v := v6) (!((((!r42) || (!decide (r50 = 0))) || (!decide (r58 = 0))) || (decide (p_Listappend.Errors < (p_String.Wrong.length : Int))))) (wanted_f rfl rfl rfl rfl) (fun hg => (yl_load sc22 (gd_true hg) (At.drop (Box.at (hB23.ext e64)) 2))) ?_
    refine T0_g (v := (.int .i64 (p_String.Unread.length : Int))) (!((((!r42) || (!decide (r50 = 0))) || (!decide (r58 = 0))) || (decide (p_Listappend.Errors < (p_String.Wrong.length : Int))))) (wanted_f rfl rfl rfl rfl) (fun hg => (yl_lenR rfl Tryd.underlying22 h7 (gd_true hg))) ?_
    refine T0_g (v := (.bool (decide (14 < (p_String.Unread.length : Int))))) (!((((!r42) || (!decide (r50 = 0))) || (!decide (r58 = 0))) || (decide (p_Listappend.Errors < (p_String.Wrong.length : Int))))) (wanted_f rfl rfl rfl rfl) (fun hg => (yl_gtr (gd_true hg) rfl)) ?_
    refine T0_q (v := (.bool (((((!r42) || (!decide (r50 = 0))) || (!decide (r58 = 0))) || (decide (p_Listappend.Errors < (p_String.Wrong.length : Int)))) || (decide (14 < (p_String.Unread.length : Int)))))) rfl (yl_or rfl rfl (fun hb => (gd_true (not_t hb)))) ?_
    refine T0_q (v := (.bool (((((!r42) || (!decide (r50 = 0))) || (!decide (r58 = 0))) || (decide (p_Listappend.Errors < (p_String.Wrong.length : Int)))) || (decide (14 < (p_String.Unread.length : Int)))))) rfl (yl_move rfl) ?_
    refine T0_g (v := (.pointer (some ⟨b19, 3, none⟩))) (!(((((!r42) || (!decide (r50 = 0))) || (!decide (r58 = 0))) || (decide (p_Listappend.Errors < (p_String.Wrong.length : Int)))) || (decide (14 < (p_String.Unread.length : Int))))) (wanted_f rfl rfl rfl rfl) (fun hg => (yl_fa 3 Tryd.underlying96 rfl rfl ⟨0, sz3⟩ rfl rfl)) ?_
    refine T0_g (v := (.int .i64 p_String.Off)) (!(((((!r42) || (!decide (r50 = 0))) || (!decide (r58 = 0))) || (decide (p_Listappend.Errors < (p_String.Wrong.length : Int)))) || (decide (14 < (p_String.Unread.length : Int))))) (wanted_f rfl rfl rfl rfl) (fun hg => (yl_load sc3 (gd_true hg) (At.drop (Box.at (hB23.ext e64)) 3))) ?_
    refine T0_g (v := (.pointer (some ⟨b11, 6, none⟩))) (!(((((!r42) || (!decide (r50 = 0))) || (!decide (r58 = 0))) || (decide (p_Listappend.Errors < (p_String.Wrong.length : Int)))) || (decide (14 < (p_String.Unread.length : Int))))) (wanted_f rfl rfl rfl rfl) (fun hg => (yl_fa 6 Tryd.underlying24 rfl rfl ⟨0, sz3⟩ rfl rfl)) ?_
    refine T0_g (v := (.int .i64 p_Listappend.Slack)) (!(((((!r42) || (!decide (r50 = 0))) || (!decide (r58 = 0))) || (decide (p_Listappend.Errors < (p_String.Wrong.length : Int)))) || (decide (14 < (p_String.Unread.length : Int))))) (wanted_f rfl rfl rfl rfl) (fun hg => (yl_load sc3 (gd_true hg) (At.drop (Box.at (hB15.ext e63)) 6))) ?_
    refine T0_g (v := (.int .i64 (w64 (0 - p_Listappend.Slack)))) (!(((((!r42) || (!decide (r50 = 0))) || (!decide (r58 = 0))) || (decide (p_Listappend.Errors < (p_String.Wrong.length : Int)))) || (decide (14 < (p_String.Unread.length : Int))))) (wanted_f rfl rfl rfl rfl) (fun hg => (yl_neg (gd_true hg))) ?_
    refine T0_g (v := (.pointer (some ⟨b11, 6, none⟩))) (!(((((!r42) || (!decide (r50 = 0))) || (!decide (r58 = 0))) || (decide (p_Listappend.Errors < (p_String.Wrong.length : Int)))) || (decide (14 < (p_String.Unread.length : Int))))) (wanted_f rfl rfl rfl rfl) (fun hg => (yl_fa 6 Tryd.underlying24 rfl rfl ⟨0, sz3⟩ rfl rfl)) ?_
    refine T0_g (v := (.int .i64 p_Listappend.Slack)) (!(((((!r42) || (!decide (r50 = 0))) || (!decide (r58 = 0))) || (decide (p_Listappend.Errors < (p_String.Wrong.length : Int)))) || (decide (14 < (p_String.Unread.length : Int))))) (wanted_f rfl rfl rfl rfl) (fun hg => (yl_load sc3 (gd_true hg) (At.drop (Box.at (hB15.ext e63)) 6))) ?_
    obtain ⟨r66, hr67, h⟩ := bind_elim h
    refine T0_ges (!(((((!r42) || (!decide (r50 = 0))) || (!decide (r58 = 0))) || (decide (p_Listappend.Errors < (p_String.Wrong.length : Int)))) || (decide (14 < (p_String.Unread.length : Int))))) (.bool r66) (wanted_f rfl rfl rfl rfl) (fun hg => eff_call Tryd.func35 nm35 rfl (ev3 (gd_true hg) (gd_true hg) (gd_true hg)) (base_Within_ok [] _ (LtL.nil _) p_String.Off (w64 (0 - p_Listappend.Slack)) p_Listappend.Slack r66 (cond_t hg hr67)) (by rintro _ wd68 ⟨he69, rfl⟩; exact ⟨rfl, he69⟩)) ?_
    intro wd68 he69
    have e70 := e62.trans he69
    have e71 := e63.trans he69
    have e72 := e64.trans he69
    have e73 := e65.trans he69
    refine T0_g (v := (.bool (!r66))) (!(((((!r42) || (!decide (r50 = 0))) || (!decide (r58 = 0))) || (decide (p_Listappend.Errors < (p_String.Wrong.length : Int)))) || (decide (14 < (p_String.Unread.length : Int))))) (wanted_f rfl rfl rfl rfl) (fun hg => (yl_not (gd_true hg))) ?_
    refine T0_q (v := (.bool ((((((!r42) || (!decide (r50 = 0))) || (!decide (r58 = 0))) || (decide (p_Listappend.Errors < (p_String.Wrong.length : Int)))) || (decide (14 < (p_String.Unread.length : Int)))) || (!r66)))) rfl (yl_or rfl rfl (fun hb => (gd_true (not_t hb)))) ?_
    refine T0_nil ?_
    refine hK41 _ _ ?_
    refine WC_cond (b := ((((((!r42) || (!decide (r50 = 0))) || (!decide (r58 = 0))) || (decide (p_Listappend.Errors < (p_String.Wrong.length : Int)))) || (decide (14 < (p_String.Unread.length : Int)))) || (!r66))) rfl (fun hb74 => ?_) (fun hb74 => ?_)
    · replace h := cond_t hb74 h
      refine WC_seqK fun K75 hK75 => ?_
      refine WC_region ?_
      refine T0_q (v := (.bool true)) rfl (yl_assign rfl) ?_
      refine T0_nil ?_
      refine hK75 _ _ ?_
      refine WC_ret ?_
      replace h := some_out h
      subst h
      exact ⟨[(.bool true)], ⟨rfl, trivial⟩, e73, rfl⟩
    · replace h := cond_f hb74 h
      refine WC_skip ?_
      refine hK40 _ _ ?_
      refine WC_seqK fun K76 hK76 => ?_
      refine WC_region ?_
      refine T0_q (v := (.pointer (some ⟨b19, 0, none⟩))) rfl (yl_fa 0 Tryd.underlying96 rfl rfl ⟨0, sz3⟩ rfl rfl) ?_
      refine T0_q (v := (.int .i64 p_String.Tooth)) rfl (yl_load sc3 rfl (Box.at (hB23.ext e72))) ?_
      refine T0_q (v := (.pointer (some ⟨b11, 3, none⟩))) rfl (yl_fa 3 Tryd.underlying24 rfl rfl ⟨0, sz3⟩ rfl rfl) ?_
      refine T0_q (v := (.int .i64 p_Listappend.PerVane)) rfl (yl_load sc3 rfl (At.drop (Box.at (hB15.ext e71)) 3)) ?_
      obtain ⟨q77, hq78, h⟩ := bind_elim h
      refine T0_q (v := (.int .i64 q77)) rfl (yl_quo' hq78 rfl rfl) ?_
      refine T0_q (v := (.int .i64 q77)) rfl (yl_assign rfl) ?_
      refine T0_nil ?_
      refine hK76 _ _ ?_
      refine WC_seqK fun K79 hK79 => ?_
      refine WC_region ?_
      refine T0_q (v := (.agg (List.toArray [v1, (.int .i64 p_Listappend.Window), (.int .i64 p_Listappend.Tooth), (.int .i64 p_Listappend.PerVane), (.int .i64 p_Listappend.First), (.int .i64 p_Listappend.Modulus), (.int .i64 p_Listappend.Slack), (.int .i64 p_Listappend.Errors), (.bool p_Listappend.Round)]))) rfl (yl_loadA (cs := [v1, (.int .i64 p_Listappend.Window), (.int .i64 p_Listappend.Tooth), (.int .i64 p_Listappend.PerVane), (.int .i64 p_Listappend.First), (.int .i64 p_Listappend.Modulus), (.int .i64 p_Listappend.Slack), (.int .i64 p_Listappend.Errors), (.bool p_Listappend.Round)]) ag24 rfl (Box.at (hB15.ext e71))) ?_
      obtain ⟨r80, hr81, h⟩ := bind_elim h
      refine T0_e rfl (eff_call Tryd.func21 nm21 rfl (ev1 rfl) (ref04_Copy_ok L _ (hL.chg e73) [v1, (.int .i64 p_Listappend.Window), (.int .i64 p_Listappend.Tooth), (.int .i64 p_Listappend.PerVane), (.int .i64 p_Listappend.First), (.int .i64 p_Listappend.Modulus), (.int .i64 p_Listappend.Slack), (.int .i64 p_Listappend.Errors), (.bool p_Listappend.Round)] p_Listappend ⟨v1, (h2.ext e70), rfl⟩ r80 hr81) ?_)
      rintro _ wd82 ⟨he83, cs86, rfl, hrd87⟩
      have e88 := e70.trans he83
      have e89 := e71.trans he83
      have e90 := e72.trans he83
      have e91 := e73.trans he83
      obtain ⟨v84, h85, rfl⟩ := hrd87
      refine T0_q (v := (.int .i64 q77)) rfl (yl_move rfl) ?_
      obtain ⟨r93, hr94, h⟩ := bind_elim h
      refine T0_e rfl (eff_call Tryd.func46 nm46 rfl (ev2 rfl rfl) (locate_WindowAt_ok L _ (hL.chg e91) [v84, (.int .i64 r80.Window), (.int .i64 r80.Tooth), (.int .i64 r80.PerVane), (.int .i64 r80.First), (.int .i64 r80.Modulus), (.int .i64 r80.Slack), (.int .i64 r80.Errors), (.bool r80.Round)] r80 ⟨v84, h85, rfl⟩ q77 r93 hr94) ?_)
      rintro _ wd95 ⟨he96, v97, rfl, h98⟩
      have e99 := e88.trans he96
      have e100 := e89.trans he96
      have e101 := e90.trans he96
      have e102 := e91.trans he96
      refine T0_q (v := (.tuple #[v97, (.int .i64 r93.2)])) rfl (yl_move rfl) ?_
      refine T0_q (v := v97) rfl (yl_extract rfl rfl) ?_
      refine T0_q (v := (.int .i64 r93.2)) rfl (yl_extract rfl rfl) ?_
      refine T0_q (v := v97) rfl (yl_assign rfl) ?_
      refine T0_q (v := (.int .i64 r93.2)) rfl (yl_assign rfl) ?_
      refine T0_nil ?_
      refine hK79 _ _ ?_
      refine WC_seqK fun K104 hK104 => ?_
      refine WC_seqK fun K105 hK105 => ?_
      refine WC_region ?_
      refine T0_q (v := (.int .i64 r93.2)) rfl (yl_move rfl) ?_
      refine T0_q (v := (.bool (!decide (r93.2 = 0)))) rfl (yl_neq rfl rfl) ?_
      refine T0_q (v := (.bool (!decide (r93.2 = 0)))) rfl (yl_move rfl) ?_
      refine T0_g (v := v97) (!(!decide (r93.2 = 0))) (wanted_f rfl rfl rfl rfl) (fun hg => (yl_move rfl)) ?_
      refine T0_g (v := (.int .i64 (r93.1.length : Int))) (!(!decide (r93.2 = 0))) (wanted_f rfl rfl rfl rfl) (fun hg => (yl_lenR rfl Tryd.underlying22 h98 (gd_true hg))) ?_
      refine T0_g (v := (.pointer (some ⟨b11, 1, none⟩))) (!(!decide (r93.2 = 0))) (wanted_f rfl rfl rfl rfl) (fun hg => (yl_fa 1 Tryd.underlying24 rfl rfl ⟨0, sz3⟩ rfl rfl)) ?_
      refine T0_g (v := (.int .i64 p_Listappend.Window)) (!(!decide (r93.2 = 0))) (wanted_f rfl rfl rfl rfl) (fun hg => (yl_load sc3 (gd_true hg) (At.drop (Box.at (hB15.ext e100)) 1))) ?_
      refine T0_g (v := (.bool (!decide ((r93.1.length : Int) = p_Listappend.Window)))) (!(!decide (r93.2 = 0))) (wanted_f rfl rfl rfl rfl) (fun hg => (yl_neq (gd_true hg) (gd_true hg))) ?_
      refine T0_q (v := (.bool ((!decide (r93.2 = 0)) || (!decide ((r93.1.length : Int) = p_Listappend.Window))))) rfl (yl_or rfl rfl (fun hb => (gd_true (not_t hb)))) ?_
      refine T0_q (v := (.bool ((!decide (r93.2 = 0)) || (!decide ((r93.1.length : Int) = p_Listappend.Window))))) rfl (yl_move rfl) ?_
      refine T0_g (v := v97) (!((!decide (r93.2 = 0)) || (!decide ((r93.1.length : Int) = p_Listappend.Window)))) (wanted_f rfl rfl rfl rfl) (fun hg => (yl_move rfl)) ?_
      obtain ⟨r106, hr107, h⟩ := bind_elim h
      refine T0_ges (!((!decide (r93.2 = 0)) || (!decide ((r93.1.length : Int) = p_Listappend.Window)))) (.bool r106) (wanted_f rfl rfl rfl rfl) (fun hg => eff_call Tryd.func66 nm66 rfl (ev1 (gd_true hg)) (base_AreBits_ok [] _ (LtL.nil _) v97 r93.1 (h98.sub (fun _ h => by cases h)) r106 (cond_t hg hr107)) (by rintro _ wd108 ⟨he109, rfl⟩; exact ⟨rfl, he109⟩)) ?_
      intro wd108 he109
      have e110 := e99.trans he109
      have e111 := e100.trans he109
      have e112 := e101.trans he109
      have e113 := he96.trans he109
      have e114 := e102.trans he109
      refine T0_g (v := (.bool (!r106))) (!((!decide (r93.2 = 0)) || (!decide ((r93.1.length : Int) = p_Listappend.Window)))) (wanted_f rfl rfl rfl rfl) (fun hg => (yl_not (gd_true hg))) ?_
      refine T0_q (v := (.bool (((!decide (r93.2 = 0)) || (!decide ((r93.1.length : Int) = p_Listappend.Window))) || (!r106)))) rfl (yl_or rfl rfl (fun hb => (gd_true (not_t hb)))) ?_
      refine T0_nil ?_
      refine hK105 _ _ ?_
      refine WC_cond (b := (((!decide (r93.2 = 0)) || (!decide ((r93.1.length : Int) = p_Listappend.Window))) || (!r106))) rfl (fun hb115 => ?_) (fun hb115 => ?_)
      · replace h := cond_t hb115 h
        refine WC_seqK fun K116 hK116 => ?_
        refine WC_region ?_
        refine T0_q (v := (.bool false)) rfl (yl_assign rfl) ?_
        refine T0_nil ?_
        refine hK116 _ _ ?_
        refine WC_ret ?_
        replace h := some_out h
        subst h
        exact ⟨[(.bool false)], ⟨rfl, trivial⟩, e114, rfl⟩
      · replace h := cond_f hb115 h
        refine WC_skip ?_
        refine hK104 _ _ ?_
        refine WC_seqK fun K117 hK117 => ?_
        refine WC_region ?_
        refine T0_q (v := v97) rfl (yl_move rfl) ?_
        obtain ⟨r118, hr119, h⟩ := bind_elim h
        refine T0_e rfl (eff_call Tryd.func30 nm30 rfl (ev1 rfl) (base_CopyInts_own L _ (hL.chg e114) v97 r93.1 (h98.ext he109) r118 hr119) ?_)
        rintro _ wd120 ⟨he121, v122, rfl, hf124, h123⟩
        have h125 := (h2.ext e110).step (Stepp.add v122 he121 hf124)
        have h126 := (h5.ext e110).step (Stepp.add v122 he121 hf124)
        have h127 := (h7.ext e110).step (Stepp.add v122 he121 hf124)
        have h128 := (h85.ext e113).step (Stepp.add v122 he121 hf124)
        have h129 := (h98.ext he109).step (Stepp.add v122 he121 hf124)
        have hn131 : blk v122 ≠ some b11 := fun e => by have := hf124 _ e; have := (hB15.ext e111).lt; omega
        have hn132 : blk v122 ≠ some b19 := fun e => by have := hf124 _ e; have := (hB23.ext e112).lt; omega
        have hf133 : ∀ b, blk v122 = some b → w.heap.size ≤ b := fun b hb => Nat.le_trans e114.size (hf124 b hb)
        have e134 := e111.trans he121
        have e135 := e112.trans he121
        have e136 := e114.trans he121
        refine T0_q (v := v122) rfl (yl_assign rfl) ?_
        refine T0_nil ?_
        refine hK117 _ _ ?_
        refine WC_seqK fun K138 hK138 => ?_
        refine WC_seqK fun K139 hK139 => ?_
        refine WC_region ?_
        refine T0_q (v := (.int .i64 0)) rfl (yl_assign rfl) ?_
        refine T0_nil ?_
        refine hK139 _ _ ?_
        obtain ⟨o414, hl415, hn416⟩ := bind_elim h
        refine WC_post (fun (ρ : Env) (wd393 : World) => ∃ (x400 : (List Int)) (v399 : Value), x400 = o414 ∧ ρ 2 = (.pointer (some ⟨b11, 0, none⟩)) ∧ ρ 3 = (.pointer (some ⟨b19, 0, none⟩)) ∧ ρ 5 = (.int .i64 q77) ∧ ρ 8 = v399 ∧ SlRd (v399 :: L) wd393 v1 p_Listappend.Vanes ∧ SlRd (v399 :: L) wd393 v4 p_String.Wrong ∧ SlRd (v399 :: L) wd393 v6 p_String.Unread ∧ Box wd393 b11 [v1, (.int .i64 p_Listappend.Window), (.int .i64 p_Listappend.Tooth), (.int .i64 p_Listappend.PerVane), (.int .i64 p_Listappend.First), (.int .i64 p_Listappend.Modulus), (.int .i64 p_Listappend.Slack), (.int .i64 p_Listappend.Errors), (.bool p_Listappend.Round)] 24 ∧ Box wd393 b19 [(.int .i64 p_String.Tooth), v4, v6, (.int .i64 p_String.Off)] 96 ∧ Own 3 (v399 :: L) wd393 v399 x400 ∧ (∀ b, blk v399 = some b → w.heap.size ≤ b) ∧ (blk v399 ≠ some b11) ∧ (blk v399 ≠ some b19) ∧ Ext w wd393) ?_ ?_
        · intro K420 hK420
          refine WC_block ?_
          refine WC_loopk (fun sv ρ wd370 => ∃ (x377 : (List Int)) (x382 : Int) (v376 : Value), (x377, x382) = sv ∧ ρ 2 = (.pointer (some ⟨b11, 0, none⟩)) ∧ ρ 3 = (.pointer (some ⟨b19, 0, none⟩)) ∧ ρ 5 = (.int .i64 q77) ∧ ρ 8 = v376 ∧ ρ 9 = (.int .i64 x382) ∧ SlRd (v376 :: L) wd370 v1 p_Listappend.Vanes ∧ SlRd (v376 :: L) wd370 v4 p_String.Wrong ∧ SlRd (v376 :: L) wd370 v6 p_String.Unread ∧ Box wd370 b11 [v1, (.int .i64 p_Listappend.Window), (.int .i64 p_Listappend.Tooth), (.int .i64 p_Listappend.PerVane), (.int .i64 p_Listappend.First), (.int .i64 p_Listappend.Modulus), (.int .i64 p_Listappend.Slack), (.int .i64 p_Listappend.Errors), (.bool p_Listappend.Round)] 24 ∧ Box wd370 b19 [(.int .i64 p_String.Tooth), v4, v6, (.int .i64 p_String.Off)] 96 ∧ Own 3 (v376 :: L) wd370 v376 x377 ∧ (∀ b, blk v376 = some b → w.heap.size ≤ b) ∧ (blk v376 ≠ some b11) ∧ (blk v376 ≠ some b19) ∧ Ext w wd370) hl415 ⟨r118, 0, v122, rfl, rfl, rfl, rfl, rfl, rfl, h125, h126, h127, (hB15.ext e134), (hB23.ext e135), h123, hf133, hn131, hn132, e136⟩ ?_
          rintro _ ρ wd370 ⟨x377, x382, v376, rfl, hs372, hs373, hs374, hs381, hs383, h384, h387, h388, hB386, hB390, h379, hf380, hn391, hn392, e371⟩ x417 h hx418 K419 hK419
          refine WC_seqK fun K422 hK422 => ?_
          refine WC_seqK fun K423 hK423 => ?_
          refine WC_region ?_
          refine T0_q (v := (.int .i64 x382)) rfl (yl_move hs383) ?_
          refine T0_q (v := (.pointer (some ⟨b19, 1, none⟩))) rfl (yl_fa 1 Tryd.underlying96 rfl rfl ⟨0, sz22⟩ hs373 rfl) ?_
          refine T0_q (v := v4) rfl (yl_load sc22 rfl (At.drop (Box.at hB390) 1)) ?_
          refine T0_q (v := (.int .i64 (p_String.Wrong.length : Int))) rfl (yl_lenR rfl Tryd.underlying22 h387 rfl) ?_
          refine T0_q (v := (.bool (decide (x382 < (p_String.Wrong.length : Int))))) rfl (yl_lss rfl rfl) ?_
          refine T0_nil ?_
          refine hK423 _ _ ?_
          refine WC_cond (b := (decide (x382 < (p_String.Wrong.length : Int)))) rfl (fun hb424 => ?_) (fun hb424 => ?_)
          · replace h := cond_t hb424 h
            refine WC_skip ?_
            refine hK422 _ _ ?_
            refine WC_seqK fun K425 hK425 => ?_
            refine WC_block ?_
            refine WC_seqK fun K426 hK426 => ?_
            refine WC_plan mixed (.p 0 (.p 2 (.p 5 (.q 1 (.p 3 (.q 4 (.q 6 (.e 7 (.p 8 .done))))))))) (by kernel_rfl) ?_
            intro wd442 he443
            have e444 := e371.trans he443
            refine TP_p (v := (.pointer (some ⟨b19, 1, none⟩))) rfl rfl (fun w' => (yl_fa 1 Tryd.underlying96 rfl rfl ⟨0, sz22⟩ hs373 rfl)) ?_
            refine TP_p (v := (.int .i64 x382)) rfl rfl (fun w' => (yl_move hs383)) ?_
            refine TP_p (v := (.pointer (some ⟨b11, 1, none⟩))) rfl rfl (fun w' => (yl_fa 1 Tryd.underlying24 rfl rfl ⟨0, sz3⟩ hs372 rfl)) ?_
            refine TP_q (v := v4) rfl rfl (fun w' hS => (yl_load sc22 rfl (At.drop (Box.at (hB390.ext ((he443).trans hS))) 1))) ?_
            obtain ⟨el445, hel446, h⟩ := bind_elim h
            obtain ⟨cs447, hat448, hrd449⟩ := SlRd.at h387 hel446
            have hrd449 : cs447 = [(.int .i64 el445)] := hrd449
            subst hrd449
            refine TP_p (v := (.pointer (some (elemAddr v4 (x382 : Int).toNat 1)))) rfl rfl (fun w' => (yl_indexAddr Tryd.underlying22 sz3 h387 hel446 rfl rfl)) ?_
            refine TP_q (v := (.int .i64 el445)) rfl rfl (fun w' hS => (yl_load sc3 rfl (hat448.ext' ((he443).trans hS)))) ?_
            refine TP_q (v := (.int .i64 p_Listappend.Window)) rfl rfl (fun w' hS => (yl_load sc3 rfl (At.drop (Box.at (hB386.ext ((he443).trans hS))) 1))) ?_
            obtain ⟨r451, hr452, h⟩ := bind_elim h
            refine TP_e rfl rfl (eff_call Tryd.func28 nm28 rfl (ev2 rfl rfl) (base_Mod_ok [] _ (LtL.nil _) el445 p_Listappend.Window r451 hr452) ?_)
            rintro _ wd453 ⟨he454, rfl⟩
            have e455 := he443.trans he454
            have e456 := e444.trans he454
            refine ⟨he454, ?_⟩
            refine TP_p (v := (.int .i64 r451)) rfl rfl (fun w' => (yl_assign rfl)) ?_
            refine TP_done ?_
            refine hK426 _ _ ?_
            refine WC_region ?_
            refine T0_q (v := v376) rfl (yl_move hs381) ?_
            refine T0_q (v := (.int .i64 r451)) rfl (yl_move rfl) ?_
            refine T0_q (v := v376) rfl (yl_move hs381) ?_
            refine T0_q (v := (.int .i64 r451)) rfl (yl_move rfl) ?_
            obtain ⟨el457, hel458, h⟩ := bind_elim h
            obtain ⟨cs459, hat460, hrd461⟩ := Own.at h379 hel458
            have hrd461 : cs459 = [(.int .i64 el457)] := hrd461
            subst hrd461
            refine T0_q (v := (.pointer (some (elemAddr v376 (r451 : Int).toNat 1)))) rfl (yl_indexAddrO Tryd.underlying22 sz3 h379 hel458 rfl rfl) ?_
            refine T0_q (v := (.int .i64 el457)) rfl (yl_load sc3 rfl (hat460.ext' e455)) ?_
            refine T0_q (v := (.int .i64 (w64 (1 - el457)))) rfl (yl_sub rfl rfl) ?_
            obtain ⟨el463, hel464, h⟩ := bind_elim h
            obtain ⟨cs465, hat466, hrd467⟩ := Own.at h379 hel464
            have hrd467 : cs465 = [(.int .i64 el463)] := hrd467
            subst hrd467
            refine T0_q (v := (.pointer (some (elemAddr v376 (r451 : Int).toNat 1)))) rfl (yl_indexAddrO Tryd.underlying22 sz3 h379 hel464 rfl rfl) ?_
            refine T0_e rfl (eff_storeOC (vs := [(.int .i64 (w64 (1 - el457)))]) (off := 0) (y' := w64 (1 - el457)) sz3 rfl rfl (h379.ext e455) mem0 hel464 rfl rfl rfl (oc_cons rfl oc_nil) (fun w' cs hcs => by have hcs : cs = [(.int .i64 el463)] := hcs; subst hcs; rfl) ?_)
            intro wd469 hc470 hB471
            have h472 := (h384.ext e455).step (Stepp.chg_mem hc470 mem0)
            have h473 := (hB386.ext e455).chg hc470 (avoid1 hn391)
            have h474 := (h387.ext e455).step (Stepp.chg_mem hc470 mem0)
            have h475 := (h388.ext e455).step (Stepp.chg_mem hc470 mem0)
            have h476 := (hB390.ext e455).chg hc470 (avoid1 hn392)
            have e477 := chg_own e456 hc470 hf380
            refine T0_nil ?_
            refine hK425 _ _ ?_
            refine WC_region ?_
            refine T0_q (v := (.int .i64 x382)) rfl (yl_move hs383) ?_
            refine T0_q (v := (.int .i64 (w64 (x382 + 1)))) rfl (yl_add rfl rfl) ?_
            refine T0_q (v := (.int .i64 (w64 (x382 + 1)))) rfl (yl_assign rfl) ?_
            refine T0_nil ?_
            replace h := some_out h
            subst h
            refine hK419 _ _ _ rfl ?_
            exact ⟨(x377.set (r451 : Int).toNat (w64 (1 - el457))), w64 (x382 + 1), v376, rfl, hs372, hs373, hs374, hs381, rfl, h472, h474, h475, h473, h476, hB471, hf380, hn391, hn392, e477⟩
          · replace h := cond_f hb424 h
            refine WC_exit ?_
            replace h := some_out h
            subst h
            have ho := hx418 _ rfl
            subst ho
            refine hK420 _ _ ?_
            exact ⟨x377, v376, rfl, hs372, hs373, hs374, hs381, h384, h387, h388, hB386, hB390, h379, hf380, hn391, hn392, e371⟩
        · rintro ρ wd393 ⟨x400, v399, rfl, hs395, hs396, hs397, hs404, h405, h408, h409, hB407, hB411, h402, hf403, hn412, hn413, e394⟩
          replace h := hn416
          refine hK138 _ _ ?_
          refine WC_seqK fun K478 hK478 => ?_
          refine WC_seqK fun K479 hK479 => ?_
          refine WC_region ?_
          refine T0_q (v := (.int .i64 0)) rfl (yl_assign rfl) ?_
          refine T0_nil ?_
          refine hK479 _ _ ?_
          obtain ⟨o688, hl689, hn690⟩ := bind_elim h
          refine WC_post (fun (ρ : Env) (wd667 : World) => ∃ (x674 : (List Int)) (v673 : Value), x674 = o688 ∧ ρ 2 = (.pointer (some ⟨b11, 0, none⟩)) ∧ ρ 3 = (.pointer (some ⟨b19, 0, none⟩)) ∧ ρ 5 = (.int .i64 q77) ∧ ρ 8 = v673 ∧ SlRd (v673 :: L) wd667 v1 p_Listappend.Vanes ∧ SlRd (v673 :: L) wd667 v4 p_String.Wrong ∧ SlRd (v673 :: L) wd667 v6 p_String.Unread ∧ Box wd667 b11 [v1, (.int .i64 p_Listappend.Window), (.int .i64 p_Listappend.Tooth), (.int .i64 p_Listappend.PerVane), (.int .i64 p_Listappend.First), (.int .i64 p_Listappend.Modulus), (.int .i64 p_Listappend.Slack), (.int .i64 p_Listappend.Errors), (.bool p_Listappend.Round)] 24 ∧ Box wd667 b19 [(.int .i64 p_String.Tooth), v4, v6, (.int .i64 p_String.Off)] 96 ∧ Own 3 (v673 :: L) wd667 v673 x674 ∧ (∀ b, blk v673 = some b → w.heap.size ≤ b) ∧ (blk v673 ≠ some b11) ∧ (blk v673 ≠ some b19) ∧ Ext w wd667) ?_ ?_
          · intro K694 hK694
            refine WC_block ?_
            refine WC_loopk (fun sv ρ wd644 => ∃ (x651 : (List Int)) (x656 : Int) (v650 : Value), (x651, x656) = sv ∧ ρ 2 = (.pointer (some ⟨b11, 0, none⟩)) ∧ ρ 3 = (.pointer (some ⟨b19, 0, none⟩)) ∧ ρ 5 = (.int .i64 q77) ∧ ρ 8 = v650 ∧ ρ 11 = (.int .i64 x656) ∧ SlRd (v650 :: L) wd644 v1 p_Listappend.Vanes ∧ SlRd (v650 :: L) wd644 v4 p_String.Wrong ∧ SlRd (v650 :: L) wd644 v6 p_String.Unread ∧ Box wd644 b11 [v1, (.int .i64 p_Listappend.Window), (.int .i64 p_Listappend.Tooth), (.int .i64 p_Listappend.PerVane), (.int .i64 p_Listappend.First), (.int .i64 p_Listappend.Modulus), (.int .i64 p_Listappend.Slack), (.int .i64 p_Listappend.Errors), (.bool p_Listappend.Round)] 24 ∧ Box wd644 b19 [(.int .i64 p_String.Tooth), v4, v6, (.int .i64 p_String.Off)] 96 ∧ Own 3 (v650 :: L) wd644 v650 x651 ∧ (∀ b, blk v650 = some b → w.heap.size ≤ b) ∧ (blk v650 ≠ some b11) ∧ (blk v650 ≠ some b19) ∧ Ext w wd644) hl689 ⟨x400, 0, v399, rfl, hs395, hs396, hs397, hs404, rfl, h405, h408, h409, hB407, hB411, h402, hf403, hn412, hn413, e394⟩ ?_
            rintro _ ρ wd644 ⟨x651, x656, v650, rfl, hs646, hs647, hs648, hs655, hs657, h658, h661, h662, hB660, hB664, h653, hf654, hn665, hn666, e645⟩ x691 h hx692 K693 hK693
            refine WC_seqK fun K696 hK696 => ?_
            refine WC_seqK fun K697 hK697 => ?_
            refine WC_region ?_
            refine T0_q (v := (.int .i64 x656)) rfl (yl_move hs657) ?_
            refine T0_q (v := (.pointer (some ⟨b19, 2, none⟩))) rfl (yl_fa 2 Tryd.underlying96 rfl rfl ⟨0, sz22⟩ hs647 rfl) ?_
            refine T0_q (v := v6) rfl (yl_load sc22 rfl (At.drop (Box.at hB664) 2)) ?_
            refine T0_q (v := (.int .i64 (p_String.Unread.length : Int))) rfl (yl_lenR rfl Tryd.underlying22 h662 rfl) ?_
            refine T0_q (v := (.bool (decide (x656 < (p_String.Unread.length : Int))))) rfl (yl_lss rfl rfl) ?_
            refine T0_nil ?_
            refine hK697 _ _ ?_
            refine WC_cond (b := (decide (x656 < (p_String.Unread.length : Int)))) rfl (fun hb698 => ?_) (fun hb698 => ?_)
            · replace h := cond_t hb698 h
              refine WC_skip ?_
              refine hK696 _ _ ?_
              refine WC_seqK fun K699 hK699 => ?_
              refine WC_block ?_
              refine WC_plan mixed (.p 0 (.p 1 (.p 3 (.p 6 (.q 2 (.p 4 (.q 5 (.q 7 (.e 8 (.p 9 (.b 10 .done))))))))))) (by kernel_rfl) ?_
              intro wd700 he701
              have e702 := e645.trans he701
              refine TP_p (v := v650) rfl rfl (fun w' => (yl_move hs655)) ?_
              refine TP_p (v := (.pointer (some ⟨b19, 2, none⟩))) rfl rfl (fun w' => (yl_fa 2 Tryd.underlying96 rfl rfl ⟨0, sz22⟩ hs647 rfl)) ?_
              refine TP_p (v := (.int .i64 x656)) rfl rfl (fun w' => (yl_move hs657)) ?_
              refine TP_p (v := (.pointer (some ⟨b11, 1, none⟩))) rfl rfl (fun w' => (yl_fa 1 Tryd.underlying24 rfl rfl ⟨0, sz3⟩ hs646 rfl)) ?_
              refine TP_q (v := v6) rfl rfl (fun w' hS => (yl_load sc22 rfl (At.drop (Box.at (hB664.ext ((he701).trans hS))) 2))) ?_
              obtain ⟨el703, hel704, h⟩ := bind_elim h
              obtain ⟨cs705, hat706, hrd707⟩ := SlRd.at h662 hel704
              have hrd707 : cs705 = [(.int .i64 el703)] := hrd707
              subst hrd707
              refine TP_p (v := (.pointer (some (elemAddr v6 (x656 : Int).toNat 1)))) rfl rfl (fun w' => (yl_indexAddr Tryd.underlying22 sz3 h662 hel704 rfl rfl)) ?_
              refine TP_q (v := (.int .i64 el703)) rfl rfl (fun w' hS => (yl_load sc3 rfl (hat706.ext' ((he701).trans hS)))) ?_
              refine TP_q (v := (.int .i64 p_Listappend.Window)) rfl rfl (fun w' hS => (yl_load sc3 rfl (At.drop (Box.at (hB660.ext ((he701).trans hS))) 1))) ?_
              obtain ⟨r709, hr710, h⟩ := bind_elim h
              refine TP_e rfl rfl (eff_call Tryd.func28 nm28 rfl (ev2 rfl rfl) (base_Mod_ok [] _ (LtL.nil _) el703 p_Listappend.Window r709 hr710) ?_)
              rintro _ wd711 ⟨he712, rfl⟩
              have e713 := he701.trans he712
              have e714 := e702.trans he712
              refine ⟨he712, ?_⟩
              obtain ⟨el715, hel716, h⟩ := bind_elim h
              obtain ⟨cs717, hat718, hrd719⟩ := Own.at h653 hel716
              have hrd719 : cs717 = [(.int .i64 el715)] := hrd719
              subst hrd719
              refine TP_p (v := (.pointer (some (elemAddr v650 (r709 : Int).toNat 1)))) rfl rfl (fun w' => (yl_indexAddrO Tryd.underlying22 sz3 h653 hel716 rfl rfl)) ?_
              refine TP_b rfl rfl (eff_storeOC (vs := [(.int .i64 2)]) (off := 0) (y' := 2) sz3 rfl rfl (h653.ext e713) mem0 hel716 rfl rfl rfl (oc_cons rfl oc_nil) (fun w' cs hcs => by have hcs : cs = [(.int .i64 el715)] := hcs; subst hcs; rfl) ?_)
              intro wd721 hc722 hB723
              have h724 := (h658.ext e713).step (Stepp.chg_mem hc722 mem0)
              have h725 := (hB660.ext e713).chg hc722 (avoid1 hn665)
              have h726 := (h661.ext e713).step (Stepp.chg_mem hc722 mem0)
              have h727 := (h662.ext e713).step (Stepp.chg_mem hc722 mem0)
              have h728 := (hB664.ext e713).chg hc722 (avoid1 hn666)
              have e729 := chg_own e714 hc722 hf654
              refine TP_done ?_
              refine hK699 _ _ ?_
              refine WC_region ?_
              refine T0_q (v := (.int .i64 x656)) rfl (yl_move hs657) ?_
              refine T0_q (v := (.int .i64 (w64 (x656 + 1)))) rfl (yl_add rfl rfl) ?_
              refine T0_q (v := (.int .i64 (w64 (x656 + 1)))) rfl (yl_assign rfl) ?_
              refine T0_nil ?_
              replace h := some_out h
              subst h
              refine hK693 _ _ _ rfl ?_
              exact ⟨(x651.set (r709 : Int).toNat 2), w64 (x656 + 1), v650, rfl, hs646, hs647, hs648, hs655, rfl, h724, h726, h727, h725, h728, hB723, hf654, hn665, hn666, e729⟩
            · replace h := cond_f hb698 h
              refine WC_exit ?_
              replace h := some_out h
              subst h
              have ho := hx692 _ rfl
              subst ho
              refine hK694 _ _ ?_
              exact ⟨x651, v650, rfl, hs646, hs647, hs648, hs655, h658, h661, h662, hB660, hB664, h653, hf654, hn665, hn666, e645⟩
          · rintro ρ wd667 ⟨x674, v673, rfl, hs669, hs670, hs671, hs678, h679, h682, h683, hB681, hB685, h676, hf677, hn686, hn687, e668⟩
            replace h := hn690
            refine hK478 _ _ ?_
            refine WC_seqK fun K730 hK730 => ?_
            refine WC_region ?_
            refine T0_q (v := v673) rfl (yl_move hs678) ?_
            refine T0_q (v := (.pointer (some ⟨b19, 0, none⟩))) rfl (yl_fa 0 Tryd.underlying96 rfl rfl ⟨0, sz3⟩ hs670 rfl) ?_
            refine T0_q (v := (.int .i64 p_String.Tooth)) rfl (yl_load sc3 rfl (Box.at hB685)) ?_
            refine T0_q (v := (.pointer (some ⟨b19, 3, none⟩))) rfl (yl_fa 3 Tryd.underlying96 rfl rfl ⟨0, sz3⟩ hs670 rfl) ?_
            refine T0_q (v := (.int .i64 p_String.Off)) rfl (yl_load sc3 rfl (At.drop (Box.at hB685) 3)) ?_
            refine T0_q (v := (.int .i64 (w64 (p_String.Tooth + p_String.Off)))) rfl (yl_add rfl rfl) ?_
            refine T0_q (v := (.pointer (some ⟨b11, 5, none⟩))) rfl (yl_fa 5 Tryd.underlying24 rfl rfl ⟨0, sz3⟩ hs669 rfl) ?_
            refine T0_q (v := (.int .i64 p_Listappend.Modulus)) rfl (yl_load sc3 rfl (At.drop (Box.at hB681) 5)) ?_
            obtain ⟨r731, hr732, h⟩ := bind_elim h
            refine T0_e rfl (eff_call Tryd.func28 nm28 rfl (ev2 rfl rfl) (base_Mod_ok [] _ (LtL.nil _) (w64 (p_String.Tooth + p_String.Off)) p_Listappend.Modulus r731 hr732) ?_)
            rintro _ wd733 ⟨he734, rfl⟩
            have e735 := e668.trans he734
            refine T0_q (v := (.agg (List.toArray [v673, (.int .i64 r731)]))) rfl (yl_buildC (cells := [v673, (.int .i64 r731)]) bi26 (pc_cons rfl (cells_one h676.one1) (pc_cons rfl rfl pc_nil)) rfl) ?_
            refine T0_e rfl (eff_allocZ zi26 ?_)
            intro b736 wd737 hb738 he739 hB740
            have hn741 : b736 ≠ b11 := box_ne (hB681.ext he734) hb738
            have hn742 : b736 ≠ b19 := box_ne (hB685.ext he734) hb738
            have hn743 : blk v673 ≠ some b736 := ne_new_box (h676.ext he734) hb738
            have hbf744 := bfresh e735 hb738
            have h745 := (h676.ext he734).step (add_box he739 hb738) he739 (fun _ _ => Avoids.nil _)
            have h746 := (h679.ext he734).step (add_box he739 hb738)
            have h747 := (h682.ext he734).step (add_box he739 hb738)
            have h748 := (h683.ext he734).step (add_box he739 hb738)
            have e749 := he734.trans he739
            have e750 := e735.trans he739
            refine T0_e rfl (eff_storeC (vs := [v673, (.int .i64 r731)]) (cs' := [v673, (.int .i64 r731)]) sz26 rfl rfl rfl rfl hB740 rfl (oc_cons h745.one1 (oc_cons rfl oc_nil)) rfl ?_)
            intro wd752 hc753 hB754
            have h755 := h745.step (Stepp.chg_mem hc753 mem0) hc753 (av_box hn743)
            have h756 := h746.step (Stepp.chg_mem hc753 mem0)
            have h757 := (hB681.ext e749).chg hc753 (avoidb hn741)
            have h758 := h747.step (Stepp.chg_mem hc753 mem0)
            have h759 := h748.step (Stepp.chg_mem hc753 mem0)
            have h760 := (hB685.ext e749).chg hc753 (avoidb hn742)
            have e761 := chg_box e750 hc753 hbf744
            refine T0_nil ?_
            refine hK730 _ _ ?_
            refine WC_seqK fun K762 hK762 => ?_
            refine WC_region ?_
            refine T0_q (v := (.agg (List.toArray [v1, (.int .i64 p_Listappend.Window), (.int .i64 p_Listappend.Tooth), (.int .i64 p_Listappend.PerVane), (.int .i64 p_Listappend.First), (.int .i64 p_Listappend.Modulus), (.int .i64 p_Listappend.Slack), (.int .i64 p_Listappend.Errors), (.bool p_Listappend.Round)]))) rfl (yl_loadA (cs := [v1, (.int .i64 p_Listappend.Window), (.int .i64 p_Listappend.Tooth), (.int .i64 p_Listappend.PerVane), (.int .i64 p_Listappend.First), (.int .i64 p_Listappend.Modulus), (.int .i64 p_Listappend.Slack), (.int .i64 p_Listappend.Errors), (.bool p_Listappend.Round)]) ag24 hs669 (Box.at h757)) ?_
            obtain ⟨r763, hr764, h⟩ := bind_elim h
            refine T0_e rfl (eff_call Tryd.func21 nm21 rfl (ev1 rfl) (ref04_Copy_ok ((.pointer (some ⟨b736, 0, none⟩)) :: v673 :: L) _ (ltl_box (ltl_own (hL.chg e761) h755) hB754) [v1, (.int .i64 p_Listappend.Window), (.int .i64 p_Listappend.Tooth), (.int .i64 p_Listappend.PerVane), (.int .i64 p_Listappend.First), (.int .i64 p_Listappend.Modulus), (.int .i64 p_Listappend.Slack), (.int .i64 p_Listappend.Errors), (.bool p_Listappend.Round)] p_Listappend ⟨v1, h756, rfl⟩ r763 hr764) ?_)
            rintro _ wd765 ⟨he766, cs769, rfl, hrd770⟩
            have e771 := e761.trans he766
            obtain ⟨v767, h768, rfl⟩ := hrd770
            refine T0_q (v := v673) rfl (yl_move hs678) ?_
            have h773 := ((h755.ext he766).sub (sub_cons mem0 (sub_skip (sub_skip (sub_refl _))))).rd (fun b hb => (Avoids.cons (fun x hx e => by have := hL x hx b e; have := hf677 b hb; omega) (fun e => hn743 (hb.trans e.symm))))
            have h774 := (h756.ext he766).sub (sub_cons mem0 (sub_skip (sub_skip (sub_refl _))))
            have h775 := (h758.ext he766).sub (sub_cons mem0 (sub_skip (sub_skip (sub_refl _))))
            have h776 := (h759.ext he766).sub (sub_cons mem0 (sub_skip (sub_skip (sub_refl _))))
            have h777 := h768.sub (sub_cons mem0 (sub_skip (sub_skip (sub_refl _))))
            obtain ⟨r779, hr780, h⟩ := bind_elim h
            refine T0_e rfl (eff_call Tryd.func30 nm30 rfl (ev1 rfl) (base_CopyInts_ok ((.pointer (some ⟨b736, 0, none⟩)) :: L) _ (ltl_box (hL.chg e771) (hB754.ext he766)) v673 x674 h773 r779 hr780) ?_)
            rintro _ wd781 ⟨he782, v783, rfl, h784⟩
            have e785 := he766.trans he782
            have e786 := e771.trans he782
            obtain ⟨r788, hr789, h⟩ := bind_elim h
            refine T0_e rfl (eff_call Tryd.func29 nm29 rfl (ev2 rfl rfl) (locate_Near_ok ((.pointer (some ⟨b736, 0, none⟩)) :: L) _ (ltl_box (hL.chg e786) (hB754.ext e785)) [v767, (.int .i64 r763.Window), (.int .i64 r763.Tooth), (.int .i64 r763.PerVane), (.int .i64 r763.First), (.int .i64 r763.Modulus), (.int .i64 r763.Slack), (.int .i64 r763.Errors), (.bool r763.Round)] r763 ⟨v767, (h777.ext he782), rfl⟩ v783 r779 h784 r788 hr789) ?_)
            rintro _ wd790 ⟨he791, v792, rfl, h793⟩
            have e794 := e785.trans he791
            have e795 := he782.trans he791
            have e796 := e786.trans he791
            refine T0_q (v := (.tuple #[v792, (.int .i64 r788.2)])) rfl (yl_move rfl) ?_
            refine T0_q (v := v792) rfl (yl_extract rfl rfl) ?_
            refine T0_q (v := (.int .i64 r788.2)) rfl (yl_extract rfl rfl) ?_
            refine T0_q (v := v792) rfl (yl_assign rfl) ?_
            refine T0_q (v := (.int .i64 r788.2)) rfl (yl_assign rfl) ?_
            refine T0_nil ?_
            refine hK762 _ _ ?_
            refine WC_seqK fun K798 hK798 => ?_
            refine WC_region ?_
            refine T0_q (v := (.agg (List.toArray [v1, (.int .i64 p_Listappend.Window), (.int .i64 p_Listappend.Tooth), (.int .i64 p_Listappend.PerVane), (.int .i64 p_Listappend.First), (.int .i64 p_Listappend.Modulus), (.int .i64 p_Listappend.Slack), (.int .i64 p_Listappend.Errors), (.bool p_Listappend.Round)]))) rfl (yl_loadA (cs := [v1, (.int .i64 p_Listappend.Window), (.int .i64 p_Listappend.Tooth), (.int .i64 p_Listappend.PerVane), (.int .i64 p_Listappend.First), (.int .i64 p_Listappend.Modulus), (.int .i64 p_Listappend.Slack), (.int .i64 p_Listappend.Errors), (.bool p_Listappend.Round)]) ag24 hs669 (Box.at (h757.ext e794))) ?_
            obtain ⟨r799, hr800, h⟩ := bind_elim h
            refine T0_e rfl (eff_call Tryd.func21 nm21 rfl (ev1 rfl) (ref04_Copy_ok ((.pointer (some ⟨b736, 0, none⟩)) :: L) _ (ltl_box (hL.chg e796) (hB754.ext e794)) [v1, (.int .i64 p_Listappend.Window), (.int .i64 p_Listappend.Tooth), (.int .i64 p_Listappend.PerVane), (.int .i64 p_Listappend.First), (.int .i64 p_Listappend.Modulus), (.int .i64 p_Listappend.Slack), (.int .i64 p_Listappend.Errors), (.bool p_Listappend.Round)] p_Listappend ⟨v1, (h774.ext e795), rfl⟩ r799 hr800) ?_)
            rintro _ wd801 ⟨he802, cs805, rfl, hrd806⟩
            have e807 := e794.trans he802
            have e808 := e795.trans he802
            have e809 := he791.trans he802
            have e810 := e796.trans he802
            obtain ⟨v803, h804, rfl⟩ := hrd806
            refine T0_q (v := v673) rfl (yl_move hs678) ?_
            obtain ⟨r812, hr813, h⟩ := bind_elim h
            refine T0_e rfl (eff_call Tryd.func30 nm30 rfl (ev1 rfl) (base_CopyInts_ok ((.pointer (some ⟨b736, 0, none⟩)) :: L) _ (ltl_box (hL.chg e810) (hB754.ext e807)) v673 x674 (h773.ext e808) r812 hr813) ?_)
            rintro _ wd814 ⟨he815, v816, rfl, h817⟩
            have e818 := e807.trans he815
            have e819 := e808.trans he815
            have e820 := e809.trans he815
            have e821 := he802.trans he815
            have e822 := e810.trans he815
            obtain ⟨r824, hr825, h⟩ := bind_elim h
            refine T0_e rfl (eff_call Tryd.func39 nm39 rfl (ev2 rfl rfl) (locate_Told_ok [] _ (LtL.nil _) [v803, (.int .i64 r799.Window), (.int .i64 r799.Tooth), (.int .i64 r799.PerVane), (.int .i64 r799.First), (.int .i64 r799.Modulus), (.int .i64 r799.Slack), (.int .i64 r799.Errors), (.bool r799.Round)] r799 ⟨v803, ((h804.ext he815).sub (fun _ h => by cases h)), rfl⟩ v816 r812 (h817.sub (fun _ h => by cases h)) r824 hr825) ?_)
            rintro _ wd826 ⟨he827, rfl⟩
            have e828 := e818.trans he827
            have e829 := e819.trans he827
            have e830 := e820.trans he827
            have e831 := e821.trans he827
            have e832 := he815.trans he827
            have e833 := e822.trans he827
            refine T0_q (v := (.tuple #[(.int .i64 r824.1), (.int .i64 r824.2)])) rfl (yl_move rfl) ?_
            refine T0_q (v := (.int .i64 r824.1)) rfl (yl_extract rfl rfl) ?_
            refine T0_q (v := (.int .i64 r824.2)) rfl (yl_extract rfl rfl) ?_
            refine T0_q (v := (.int .i64 r824.1)) rfl (yl_assign rfl) ?_
            refine T0_q (v := (.int .i64 r824.2)) rfl (yl_assign rfl) ?_
            refine T0_nil ?_
            refine hK798 _ _ ?_
            refine WC_seqK fun K834 hK834 => ?_
            obtain ⟨o1050, ho1051, hn1052⟩ := bind_elim h
            refine WC_post (fun (ρ : Env) (wd1023 : World) => ∃ (x1035 : Int) (x1043 : Int) (x1044 : Int) (b1033 : Nat), (x1035, x1043, x1044) = o1050 ∧ ρ 2 = (.pointer (some ⟨b11, 0, none⟩)) ∧ ρ 5 = (.int .i64 q77) ∧ ρ 12 = (.pointer (some ⟨b736, 0, none⟩)) ∧ ρ 13 = v792 ∧ ρ 14 = (.int .i64 r788.2) ∧ ρ 15 = (.int .i64 r824.1) ∧ ρ 16 = (.int .i64 r824.2) ∧ ρ 17 = (.pointer (some ⟨b1033, 0, none⟩)) ∧ ρ 18 = (.int .i64 x1035) ∧ SlRd ((.pointer (some ⟨b736, 0, none⟩)) :: L) wd1023 v792 r788.1 ∧ SlRd ((.pointer (some ⟨b736, 0, none⟩)) :: L) wd1023 v1 p_Listappend.Vanes ∧ SlRd ((.pointer (some ⟨b736, 0, none⟩)) :: L) wd1023 v673 x674 ∧ Box wd1023 b11 [v1, (.int .i64 p_Listappend.Window), (.int .i64 p_Listappend.Tooth), (.int .i64 p_Listappend.PerVane), (.int .i64 p_Listappend.First), (.int .i64 p_Listappend.Modulus), (.int .i64 p_Listappend.Slack), (.int .i64 p_Listappend.Errors), (.bool p_Listappend.Round)] 24 ∧ Box wd1023 b736 [v673, (.int .i64 r731)] 26 ∧ Box wd1023 b1033 [(.int .i64 x1043), (.int .i64 x1044)] 36 ∧ (w.heap.size ≤ b1033) ∧ (b11 ≠ b1033) ∧ (b736 ≠ b1033) ∧ Ext w wd1023) ?_ ?_
            · intro K1053 hK1053
              replace h := ho1051
              clear ho1051
              refine WC_plan mixed (.p 2 (.q 0 (.q 3 (.f 1 (.f 4 (.p 5 (.p 6 (.p 7 (.e 8 (.b 9 (.p 10 .done)))))) 8 (.e 4 (.p 5 (.p 6 (.p 7 (.b 9 (.p 10 .done))))))) 8 (.e 1 (.e 4 (.p 5 (.p 6 (.p 7 (.b 9 (.p 10 .done))))))))))) (by kernel_rfl) ?_
              intro wd1054 he1055
              have e1056 := e828.trans he1055
              have e1057 := e829.trans he1055
              have e1058 := e830.trans he1055
              have e1059 := e831.trans he1055
              have e1060 := e832.trans he1055
              have e1061 := he827.trans he1055
              have e1062 := e833.trans he1055
              refine TP_p (v := (.pointer (some ⟨b19, 0, none⟩))) rfl rfl (fun w' => (yl_fa 0 Tryd.underlying96 rfl rfl ⟨0, sz3⟩ hs670 rfl)) ?_
              refine TP_q (v := (.agg (List.toArray [v1, (.int .i64 p_Listappend.Window), (.int .i64 p_Listappend.Tooth), (.int .i64 p_Listappend.PerVane), (.int .i64 p_Listappend.First), (.int .i64 p_Listappend.Modulus), (.int .i64 p_Listappend.Slack), (.int .i64 p_Listappend.Errors), (.bool p_Listappend.Round)]))) rfl rfl (fun w' hS => (yl_loadA (cs := [v1, (.int .i64 p_Listappend.Window), (.int .i64 p_Listappend.Tooth), (.int .i64 p_Listappend.PerVane), (.int .i64 p_Listappend.First), (.int .i64 p_Listappend.Modulus), (.int .i64 p_Listappend.Slack), (.int .i64 p_Listappend.Errors), (.bool p_Listappend.Round)]) ag24 hs669 (Box.at (h757.ext ((e1056).trans hS))))) ?_
              refine TP_q (v := (.int .i64 p_String.Tooth)) rfl rfl (fun w' hS => (yl_load sc3 rfl (Box.at (h760.ext ((e1056).trans hS))))) ?_
              refine TP_f rfl rfl rfl rfl ?_ ?_
              · skip
                obtain ⟨r1063, hr1064, h⟩ := bind_elim h
                refine  (eff_call Tryd.func21 nm21 rfl (ev1 rfl) (ref04_Copy_ok ((.pointer (some ⟨b736, 0, none⟩)) :: L) _ (ltl_box (hL.chg e1062) (hB754.ext e1056)) [v1, (.int .i64 p_Listappend.Window), (.int .i64 p_Listappend.Tooth), (.int .i64 p_Listappend.PerVane), (.int .i64 p_Listappend.First), (.int .i64 p_Listappend.Modulus), (.int .i64 p_Listappend.Slack), (.int .i64 p_Listappend.Errors), (.bool p_Listappend.Round)] p_Listappend ⟨v1, (h774.ext e1057), rfl⟩ r1063 hr1064) ?_)
                rintro _ wd1065 ⟨he1066, cs1069, rfl, hrd1070⟩
                have e1071 := e1056.trans he1066
                have e1072 := e1057.trans he1066
                have e1073 := e1058.trans he1066
                have e1074 := e1059.trans he1066
                have e1075 := e1060.trans he1066
                have e1076 := e1061.trans he1066
                have e1077 := e1062.trans he1066
                obtain ⟨v1067, h1068, rfl⟩ := hrd1070
                refine ⟨he1066, ?_⟩
                refine TP_f rfl rfl rfl rfl ?_ ?_
                · skip
                  obtain ⟨r1079, hr1080, h⟩ := bind_elim h
                  refine  (eff_call Tryd.func53 nm53 rfl (ev2 rfl rfl) (locate_PlacesOf_ok [] _ (LtL.nil _) [v1067, (.int .i64 r1063.Window), (.int .i64 r1063.Tooth), (.int .i64 r1063.PerVane), (.int .i64 r1063.First), (.int .i64 r1063.Modulus), (.int .i64 r1063.Slack), (.int .i64 r1063.Errors), (.bool r1063.Round)] r1063 ⟨v1067, (h1068.sub (fun _ h => by cases h)), rfl⟩ p_String.Tooth r1079 hr1080) ?_)
                  rintro _ wd1081 ⟨he1082, cs1083, rfl, hrd1084⟩
                  have e1085 := e1071.trans he1082
                  have e1086 := e1072.trans he1082
                  have e1087 := e1073.trans he1082
                  have e1088 := e1074.trans he1082
                  have e1089 := e1075.trans he1082
                  have e1090 := e1076.trans he1082
                  have e1091 := he1066.trans he1082
                  have e1092 := e1077.trans he1082
                  have hrd1084 : cs1083 = [(.int .i64 r1079.1.Lo), (.int .i64 r1079.1.Hi)] := hrd1084
                  subst hrd1084
                  refine ⟨e1091, ?_⟩
                  refine TP_p (v := (.tuple #[(.agg (List.toArray [(.int .i64 r1079.1.Lo), (.int .i64 r1079.1.Hi)])), (.int .i64 r1079.2)])) rfl rfl (fun w' => (yl_move rfl)) ?_
                  refine TP_p (v := (.agg (List.toArray [(.int .i64 r1079.1.Lo), (.int .i64 r1079.1.Hi)]))) rfl rfl (fun w' => (yl_extract rfl rfl)) ?_
                  refine TP_p (v := (.int .i64 r1079.2)) rfl rfl (fun w' => (yl_extract rfl rfl)) ?_
                  refine TP_e rfl rfl (eff_allocZ zi36 ?_)
                  intro b1093 wd1094 hb1095 he1096 hB1097
                  have hn1098 : b1093 ≠ b11 := box_ne (h757.ext e1085) hb1095
                  have hn1099 : b1093 ≠ b19 := box_ne (h760.ext e1085) hb1095
                  have hn1100 : b1093 ≠ b736 := box_ne (hB754.ext e1085) hb1095
                  have hbf1101 := bfresh e1092 hb1095
                  have h1102 := (h774.ext e1086).step (add_box he1096 hb1095)
                  have h1103 := (h775.ext e1086).step (add_box he1096 hb1095)
                  have h1104 := (h776.ext e1086).step (add_box he1096 hb1095)
                  have h1105 := (h777.ext e1086).step (add_box he1096 hb1095)
                  have h1106 := (h773.ext e1086).step (add_box he1096 hb1095)
                  have h1107 := (h784.ext e1087).step (add_box he1096 hb1095)
                  have h1108 := (h793.ext e1088).step (add_box he1096 hb1095)
                  have h1109 := (h804.ext e1089).step (add_box he1096 hb1095)
                  have h1110 := (h817.ext e1090).step (add_box he1096 hb1095)
                  have h1111 := (h1068.ext he1082).step (add_box he1096 hb1095)
                  have e1112 := e1085.trans he1096
                  have e1113 := e1091.trans he1096
                  have e1114 := e1092.trans he1096
                  refine ⟨e1113, ?_⟩
                  refine TP_b rfl rfl (eff_storeC (vs := [(.int .i64 r1079.1.Lo), (.int .i64 r1079.1.Hi)]) (cs' := [(.int .i64 r1079.1.Lo), (.int .i64 r1079.1.Hi)]) sz36 rfl rfl rfl rfl hB1097 rfl (oc_cons rfl (oc_cons rfl oc_nil)) rfl ?_)
                  intro wd1116 hc1117 hB1118
                  have h1119 := h1102.step (Stepp.chg_mem hc1117 mem0)
                  have h1120 := (h757.ext e1112).chg hc1117 (avoidb hn1098)
                  have h1121 := h1103.step (Stepp.chg_mem hc1117 mem0)
                  have h1122 := h1104.step (Stepp.chg_mem hc1117 mem0)
                  have h1123 := (h760.ext e1112).chg hc1117 (avoidb hn1099)
                  have h1124 := (hB754.ext e1112).chg hc1117 (avoidb hn1100)
                  have h1125 := h1105.step (Stepp.chg_mem hc1117 mem0)
                  have h1126 := h1106.step (Stepp.chg_mem hc1117 mem0)
                  have h1127 := h1107.step (Stepp.chg_mem hc1117 mem0)
                  have h1128 := h1108.step (Stepp.chg_mem hc1117 mem0)
                  have h1129 := h1109.step (Stepp.chg_mem hc1117 mem0)
                  have h1130 := h1110.step (Stepp.chg_mem hc1117 mem0)
                  have h1131 := h1111.step (Stepp.chg_mem hc1117 mem0)
                  have e1132 := chg_box e1114 hc1117 hbf1101
                  refine TP_p (v := (.int .i64 r1079.2)) rfl rfl (fun w' => (yl_assign rfl)) ?_
                  refine TP_done ?_
                  replace h := some_out h
                  subst h
                  refine hK1053 _ _ ?_
                  exact ⟨r1079.2, r1079.1.Lo, r1079.1.Hi, b1093, rfl, hs669, hs671, rfl, rfl, rfl, rfl, rfl, rfl, rfl, (h1128.sub (sub_cons (memS mem0) (sub_skip (sub_skip (sub_refl _))))), (h1119.sub (sub_cons (memS mem0) (sub_skip (sub_skip (sub_refl _))))), (h1126.sub (sub_cons (memS mem0) (sub_skip (sub_skip (sub_refl _))))), h1120, h1124, hB1118, hbf1101, hn1098.symm, hn1100.symm, e1132⟩
                · skip
                  refine  (eff_allocZ zi36 ?_)
                  intro b1133 wd1134 hb1135 he1136 hB1137
                  have hn1138 : b1133 ≠ b11 := box_ne (h757.ext e1071) hb1135
                  have hn1139 : b1133 ≠ b19 := box_ne (h760.ext e1071) hb1135
                  have hn1140 : b1133 ≠ b736 := box_ne (hB754.ext e1071) hb1135
                  have hbf1141 := bfresh e1077 hb1135
                  have h1142 := (h774.ext e1072).step (add_box he1136 hb1135)
                  have h1143 := (h775.ext e1072).step (add_box he1136 hb1135)
                  have h1144 := (h776.ext e1072).step (add_box he1136 hb1135)
                  have h1145 := (h777.ext e1072).step (add_box he1136 hb1135)
                  have h1146 := (h773.ext e1072).step (add_box he1136 hb1135)
                  have h1147 := (h784.ext e1073).step (add_box he1136 hb1135)
                  have h1148 := (h793.ext e1074).step (add_box he1136 hb1135)
                  have h1149 := (h804.ext e1075).step (add_box he1136 hb1135)
                  have h1150 := (h817.ext e1076).step (add_box he1136 hb1135)
                  have h1151 := h1068.step (add_box he1136 hb1135)
                  have e1152 := e1071.trans he1136
                  have e1153 := he1066.trans he1136
                  have e1154 := e1077.trans he1136
                  refine ⟨e1153, ?_⟩
                  obtain ⟨r1156, hr1157, h⟩ := bind_elim h
                  refine TP_e rfl rfl (eff_call Tryd.func53 nm53 rfl (ev2 rfl rfl) (locate_PlacesOf_ok [] _ (LtL.nil _) [v1067, (.int .i64 r1063.Window), (.int .i64 r1063.Tooth), (.int .i64 r1063.PerVane), (.int .i64 r1063.First), (.int .i64 r1063.Modulus), (.int .i64 r1063.Slack), (.int .i64 r1063.Errors), (.bool r1063.Round)] r1063 ⟨v1067, (h1151.sub (fun _ h => by cases h)), rfl⟩ p_String.Tooth r1156 hr1157) ?_)
                  rintro _ wd1158 ⟨he1159, cs1160, rfl, hrd1161⟩
                  have e1162 := e1152.trans he1159
                  have e1163 := e1153.trans he1159
                  have e1164 := e1154.trans he1159
                  have hrd1161 : cs1160 = [(.int .i64 r1156.1.Lo), (.int .i64 r1156.1.Hi)] := hrd1161
                  subst hrd1161
                  refine ⟨e1163, ?_⟩
                  refine TP_p (v := (.tuple #[(.agg (List.toArray [(.int .i64 r1156.1.Lo), (.int .i64 r1156.1.Hi)])), (.int .i64 r1156.2)])) rfl rfl (fun w' => (yl_move rfl)) ?_
                  refine TP_p (v := (.agg (List.toArray [(.int .i64 r1156.1.Lo), (.int .i64 r1156.1.Hi)]))) rfl rfl (fun w' => (yl_extract rfl rfl)) ?_
                  refine TP_p (v := (.int .i64 r1156.2)) rfl rfl (fun w' => (yl_extract rfl rfl)) ?_
                  refine TP_b rfl rfl (eff_storeC (vs := [(.int .i64 r1156.1.Lo), (.int .i64 r1156.1.Hi)]) (cs' := [(.int .i64 r1156.1.Lo), (.int .i64 r1156.1.Hi)]) sz36 rfl rfl rfl rfl (hB1137.ext he1159) rfl (oc_cons rfl (oc_cons rfl oc_nil)) rfl ?_)
                  intro wd1165 hc1166 hB1167
                  have h1168 := (h1142.ext he1159).step (Stepp.chg_mem hc1166 mem0)
                  have h1169 := (h757.ext e1162).chg hc1166 (avoidb hn1138)
                  have h1170 := (h1143.ext he1159).step (Stepp.chg_mem hc1166 mem0)
                  have h1171 := (h1144.ext he1159).step (Stepp.chg_mem hc1166 mem0)
                  have h1172 := (h760.ext e1162).chg hc1166 (avoidb hn1139)
                  have h1173 := (hB754.ext e1162).chg hc1166 (avoidb hn1140)
                  have h1174 := (h1145.ext he1159).step (Stepp.chg_mem hc1166 mem0)
                  have h1175 := (h1146.ext he1159).step (Stepp.chg_mem hc1166 mem0)
                  have h1176 := (h1147.ext he1159).step (Stepp.chg_mem hc1166 mem0)
                  have h1177 := (h1148.ext he1159).step (Stepp.chg_mem hc1166 mem0)
                  have h1178 := (h1149.ext he1159).step (Stepp.chg_mem hc1166 mem0)
                  have h1179 := (h1150.ext he1159).step (Stepp.chg_mem hc1166 mem0)
                  have h1180 := (h1151.ext he1159).step (Stepp.chg_mem hc1166 mem0)
                  have e1181 := chg_box e1164 hc1166 hbf1141
                  refine TP_p (v := (.int .i64 r1156.2)) rfl rfl (fun w' => (yl_assign rfl)) ?_
                  refine TP_done ?_
                  replace h := some_out h
                  subst h
                  refine hK1053 _ _ ?_
                  exact ⟨r1156.2, r1156.1.Lo, r1156.1.Hi, b1133, rfl, hs669, hs671, rfl, rfl, rfl, rfl, rfl, rfl, rfl, (h1177.sub (sub_cons (memS mem0) (sub_skip (sub_skip (sub_refl _))))), (h1168.sub (sub_cons (memS mem0) (sub_skip (sub_skip (sub_refl _))))), (h1175.sub (sub_cons (memS mem0) (sub_skip (sub_skip (sub_refl _))))), h1169, h1173, hB1167, hbf1141, hn1138.symm, hn1140.symm, e1181⟩
              · skip
                refine  (eff_allocZ zi36 ?_)
                intro b1182 wd1183 hb1184 he1185 hB1186
                have hn1187 : b1182 ≠ b11 := box_ne (h757.ext e1056) hb1184
                have hn1188 : b1182 ≠ b19 := box_ne (h760.ext e1056) hb1184
                have hn1189 : b1182 ≠ b736 := box_ne (hB754.ext e1056) hb1184
                have hbf1190 := bfresh e1062 hb1184
                have h1191 := (h774.ext e1057).step (add_box he1185 hb1184)
                have h1192 := (h775.ext e1057).step (add_box he1185 hb1184)
                have h1193 := (h776.ext e1057).step (add_box he1185 hb1184)
                have h1194 := (h777.ext e1057).step (add_box he1185 hb1184)
                have h1195 := (h773.ext e1057).step (add_box he1185 hb1184)
                have h1196 := (h784.ext e1058).step (add_box he1185 hb1184)
                have h1197 := (h793.ext e1059).step (add_box he1185 hb1184)
                have h1198 := (h804.ext e1060).step (add_box he1185 hb1184)
                have h1199 := (h817.ext e1061).step (add_box he1185 hb1184)
                have e1200 := e1056.trans he1185
                have e1201 := e1062.trans he1185
                refine ⟨he1185, ?_⟩
                obtain ⟨r1203, hr1204, h⟩ := bind_elim h
                refine TP_e rfl rfl (eff_call Tryd.func21 nm21 rfl (ev1 rfl) (ref04_Copy_ok ((.pointer (some ⟨b1182, 0, none⟩)) :: (.pointer (some ⟨b736, 0, none⟩)) :: L) _ (ltl_box (ltl_box (hL.chg e1201) (hB754.ext e1200)) hB1186) [v1, (.int .i64 p_Listappend.Window), (.int .i64 p_Listappend.Tooth), (.int .i64 p_Listappend.PerVane), (.int .i64 p_Listappend.First), (.int .i64 p_Listappend.Modulus), (.int .i64 p_Listappend.Slack), (.int .i64 p_Listappend.Errors), (.bool p_Listappend.Round)] p_Listappend ⟨v1, h1191, rfl⟩ r1203 hr1204) ?_)
                rintro _ wd1205 ⟨he1206, cs1209, rfl, hrd1210⟩
                have e1211 := e1200.trans he1206
                have e1212 := he1185.trans he1206
                have e1213 := e1201.trans he1206
                obtain ⟨v1207, h1208, rfl⟩ := hrd1210
                refine ⟨e1212, ?_⟩
                obtain ⟨r1215, hr1216, h⟩ := bind_elim h
                refine TP_e rfl rfl (eff_call Tryd.func53 nm53 rfl (ev2 rfl rfl) (locate_PlacesOf_ok [] _ (LtL.nil _) [v1207, (.int .i64 r1203.Window), (.int .i64 r1203.Tooth), (.int .i64 r1203.PerVane), (.int .i64 r1203.First), (.int .i64 r1203.Modulus), (.int .i64 r1203.Slack), (.int .i64 r1203.Errors), (.bool r1203.Round)] r1203 ⟨v1207, (h1208.sub (fun _ h => by cases h)), rfl⟩ p_String.Tooth r1215 hr1216) ?_)
                rintro _ wd1217 ⟨he1218, cs1219, rfl, hrd1220⟩
                have e1221 := he1206.trans he1218
                have e1222 := e1211.trans he1218
                have e1223 := e1212.trans he1218
                have e1224 := e1213.trans he1218
                have hrd1220 : cs1219 = [(.int .i64 r1215.1.Lo), (.int .i64 r1215.1.Hi)] := hrd1220
                subst hrd1220
                refine ⟨e1223, ?_⟩
                refine TP_p (v := (.tuple #[(.agg (List.toArray [(.int .i64 r1215.1.Lo), (.int .i64 r1215.1.Hi)])), (.int .i64 r1215.2)])) rfl rfl (fun w' => (yl_move rfl)) ?_
                refine TP_p (v := (.agg (List.toArray [(.int .i64 r1215.1.Lo), (.int .i64 r1215.1.Hi)]))) rfl rfl (fun w' => (yl_extract rfl rfl)) ?_
                refine TP_p (v := (.int .i64 r1215.2)) rfl rfl (fun w' => (yl_extract rfl rfl)) ?_
                refine TP_b rfl rfl (eff_storeC (vs := [(.int .i64 r1215.1.Lo), (.int .i64 r1215.1.Hi)]) (cs' := [(.int .i64 r1215.1.Lo), (.int .i64 r1215.1.Hi)]) sz36 rfl rfl rfl rfl (hB1186.ext e1221) rfl (oc_cons rfl (oc_cons rfl oc_nil)) rfl ?_)
                intro wd1225 hc1226 hB1227
                have h1228 := (h1191.ext e1221).step (Stepp.chg_mem hc1226 mem0)
                have h1229 := (h757.ext e1222).chg hc1226 (avoidb hn1187)
                have h1230 := (h1192.ext e1221).step (Stepp.chg_mem hc1226 mem0)
                have h1231 := (h1193.ext e1221).step (Stepp.chg_mem hc1226 mem0)
                have h1232 := (h760.ext e1222).chg hc1226 (avoidb hn1188)
                have h1233 := (hB754.ext e1222).chg hc1226 (avoidb hn1189)
                have h1234 := (h1194.ext e1221).step (Stepp.chg_mem hc1226 mem0)
                have h1235 := (h1195.ext e1221).step (Stepp.chg_mem hc1226 mem0)
                have h1236 := (h1196.ext e1221).step (Stepp.chg_mem hc1226 mem0)
                have h1237 := (h1197.ext e1221).step (Stepp.chg_mem hc1226 mem0)
                have h1238 := (h1198.ext e1221).step (Stepp.chg_mem hc1226 mem0)
                have h1239 := (h1199.ext e1221).step (Stepp.chg_mem hc1226 mem0)
                have h1240 := (h1208.ext he1218).step (Stepp.chg_mem hc1226 mem0)
                have e1241 := chg_box e1224 hc1226 hbf1190
                refine TP_p (v := (.int .i64 r1215.2)) rfl rfl (fun w' => (yl_assign rfl)) ?_
                refine TP_done ?_
                replace h := some_out h
                subst h
                refine hK1053 _ _ ?_
                exact ⟨r1215.2, r1215.1.Lo, r1215.1.Hi, b1182, rfl, hs669, hs671, rfl, rfl, rfl, rfl, rfl, rfl, rfl, (h1237.sub (sub_cons (memS mem0) (sub_skip (sub_skip (sub_refl _))))), (h1228.sub (sub_cons (memS mem0) (sub_skip (sub_skip (sub_refl _))))), (h1235.sub (sub_cons (memS mem0) (sub_skip (sub_skip (sub_refl _))))), h1229, h1233, hB1227, hbf1190, hn1187.symm, hn1189.symm, e1241⟩
            · rintro ρ wd1023 ⟨x1035, x1043, x1044, b1033, rfl, hs1025, hs1026, hs1027, hs1029, hs1030, hs1031, hs1032, hs1034, hs1036, h1028, h1037, h1040, hB1039, hB1042, hB1046, hf1047, hn1048, hn1049, e1024⟩
              replace h := hn1052
              refine hK834 _ _ ?_
              refine WC_seqK fun K1242 hK1242 => ?_
              refine WC_plan mixed (.q 0 (.q 2 (.e 1 (.e 3 (.e 4 (.p 5 (.p 6 (.p 7 (.p 8 (.p 9 .done)))))))))) (by kernel_rfl) ?_
              intro wd1280 he1281
              have e1282 := e1024.trans he1281
              refine TP_q (v := (.agg (List.toArray [v1, (.int .i64 p_Listappend.Window), (.int .i64 p_Listappend.Tooth), (.int .i64 p_Listappend.PerVane), (.int .i64 p_Listappend.First), (.int .i64 p_Listappend.Modulus), (.int .i64 p_Listappend.Slack), (.int .i64 p_Listappend.Errors), (.bool p_Listappend.Round)]))) rfl rfl (fun w' hS => (yl_loadA (cs := [v1, (.int .i64 p_Listappend.Window), (.int .i64 p_Listappend.Tooth), (.int .i64 p_Listappend.PerVane), (.int .i64 p_Listappend.First), (.int .i64 p_Listappend.Modulus), (.int .i64 p_Listappend.Slack), (.int .i64 p_Listappend.Errors), (.bool p_Listappend.Round)]) ag24 hs1025 (Box.at (hB1039.ext ((he1281).trans hS))))) ?_
              refine TP_q (v := (.agg (List.toArray [v673, (.int .i64 r731)]))) rfl rfl (fun w' hS => (yl_loadA (cs := [v673, (.int .i64 r731)]) ag26 hs1027 (Box.at (hB1042.ext ((he1281).trans hS))))) ?_
              obtain ⟨r1283, hr1284, h⟩ := bind_elim h
              refine TP_e rfl rfl (eff_call Tryd.func21 nm21 rfl (ev1 rfl) (ref04_Copy_ok ((.pointer (some ⟨b736, 0, none⟩)) :: L) _ (ltl_box (hL.chg e1282) (hB1042.ext he1281)) [v1, (.int .i64 p_Listappend.Window), (.int .i64 p_Listappend.Tooth), (.int .i64 p_Listappend.PerVane), (.int .i64 p_Listappend.First), (.int .i64 p_Listappend.Modulus), (.int .i64 p_Listappend.Slack), (.int .i64 p_Listappend.Errors), (.bool p_Listappend.Round)] p_Listappend ⟨v1, (h1037.ext he1281), rfl⟩ r1283 hr1284) ?_)
              rintro _ wd1285 ⟨he1286, cs1289, rfl, hrd1290⟩
              have e1291 := he1281.trans he1286
              have e1292 := e1282.trans he1286
              obtain ⟨v1287, h1288, rfl⟩ := hrd1290
              refine ⟨he1286, ?_⟩
              obtain ⟨r1294, hr1295, h⟩ := bind_elim h
              refine TP_e rfl rfl (eff_call Tryd.func22 nm22 rfl (ev1 rfl) (ref04_CopyReading_ok ((.pointer (some ⟨b736, 0, none⟩)) :: L) _ (ltl_box (hL.chg e1292) (hB1042.ext e1291)) [v673, (.int .i64 r731)] (LocateReading.mk x674 r731) ⟨v673, (h1040.ext e1291), rfl⟩ r1294 hr1295) ?_)
              rintro _ wd1296 ⟨he1297, cs1300, rfl, hrd1301⟩
              have e1302 := e1291.trans he1297
              have e1303 := he1286.trans he1297
              have e1304 := e1292.trans he1297
              obtain ⟨v1298, h1299, rfl⟩ := hrd1301
              refine ⟨e1303, ?_⟩
              obtain ⟨r1306, hr1307, h⟩ := bind_elim h
              refine TP_e rfl rfl (eff_call Tryd.func20 nm20 rfl (ev2 rfl rfl) (locate_Possible_ok ((.pointer (some ⟨b736, 0, none⟩)) :: L) _ (ltl_box (hL.chg e1304) (hB1042.ext e1302)) [v1287, (.int .i64 r1283.Window), (.int .i64 r1283.Tooth), (.int .i64 r1283.PerVane), (.int .i64 r1283.First), (.int .i64 r1283.Modulus), (.int .i64 r1283.Slack), (.int .i64 r1283.Errors), (.bool r1283.Round)] r1283 ⟨v1287, (h1288.ext he1297), rfl⟩ [v1298, (.int .i64 r1294.Count)] r1294 ⟨v1298, h1299, rfl⟩ r1306 hr1307) ?_)
              rintro _ wd1308 ⟨he1309, v1310, rfl, h1311⟩
              have e1312 := e1302.trans he1309
              have e1313 := he1297.trans he1309
              have e1314 := e1303.trans he1309
              have e1315 := e1304.trans he1309
              refine ⟨e1314, ?_⟩
              refine TP_p (v := (.tuple #[v1310, (.int .i64 r1306.2)])) rfl rfl (fun w' => (yl_move rfl)) ?_
              refine TP_p (v := v1310) rfl rfl (fun w' => (yl_extract rfl rfl)) ?_
              refine TP_p (v := (.int .i64 r1306.2)) rfl rfl (fun w' => (yl_extract rfl rfl)) ?_
              refine TP_p (v := v1310) rfl rfl (fun w' => (yl_assign rfl)) ?_
              refine TP_p (v := (.int .i64 r1306.2)) rfl rfl (fun w' => (yl_assign rfl)) ?_
              refine TP_done ?_
              refine hK1242 _ _ ?_
              refine WC_seqK fun K1317 hK1317 => ?_
              obtain ⟨o1506, ho1507, hn1508⟩ := bind_elim h
              refine WC_post (fun (ρ : Env) (wd1481 : World) => ∃ (x1496 : Int) (x1500 : Int) (x1501 : Int) (b1494 : Nat), (x1496, x1500, x1501) = o1506 ∧ ρ 5 = (.int .i64 q77) ∧ ρ 13 = v792 ∧ ρ 14 = (.int .i64 r788.2) ∧ ρ 15 = (.int .i64 r824.1) ∧ ρ 16 = (.int .i64 r824.2) ∧ ρ 17 = (.pointer (some ⟨b1033, 0, none⟩)) ∧ ρ 18 = (.int .i64 x1035) ∧ ρ 19 = v1310 ∧ ρ 20 = (.int .i64 r1306.2) ∧ ρ 21 = (.pointer (some ⟨b1494, 0, none⟩)) ∧ ρ 22 = (.int .i64 x1496) ∧ SlRd L wd1481 v792 r788.1 ∧ SlRd L wd1481 v1310 r1306.1 ∧ Box wd1481 b1033 [(.int .i64 x1043), (.int .i64 x1044)] 36 ∧ Box wd1481 b1494 [(.int .i64 x1500), (.int .i64 x1501)] 36 ∧ (w.heap.size ≤ b1494) ∧ (b1033 ≠ b1494) ∧ Ext w wd1481) ?_ ?_
              · intro K1509 hK1509
                replace h := ho1507
                clear ho1507
                refine WC_plan mixed (.q 0 (.q 2 (.f 1 (.f 3 (.p 4 (.p 5 (.p 6 (.e 7 (.b 8 (.p 9 .done)))))) 7 (.e 3 (.p 4 (.p 5 (.p 6 (.b 8 (.p 9 .done))))))) 7 (.e 1 (.e 3 (.p 4 (.p 5 (.p 6 (.b 8 (.p 9 .done)))))))))) (by kernel_rfl) ?_
                intro wd1510 he1511
                have e1512 := e1312.trans he1511
                have e1513 := e1313.trans he1511
                have e1514 := he1309.trans he1511
                have e1515 := e1315.trans he1511
                refine TP_q (v := (.agg (List.toArray [v1, (.int .i64 p_Listappend.Window), (.int .i64 p_Listappend.Tooth), (.int .i64 p_Listappend.PerVane), (.int .i64 p_Listappend.First), (.int .i64 p_Listappend.Modulus), (.int .i64 p_Listappend.Slack), (.int .i64 p_Listappend.Errors), (.bool p_Listappend.Round)]))) rfl rfl (fun w' hS => (yl_loadA (cs := [v1, (.int .i64 p_Listappend.Window), (.int .i64 p_Listappend.Tooth), (.int .i64 p_Listappend.PerVane), (.int .i64 p_Listappend.First), (.int .i64 p_Listappend.Modulus), (.int .i64 p_Listappend.Slack), (.int .i64 p_Listappend.Errors), (.bool p_Listappend.Round)]) ag24 hs1025 (Box.at (hB1039.ext ((e1512).trans hS))))) ?_
                refine TP_q (v := (.agg (List.toArray [v673, (.int .i64 r731)]))) rfl rfl (fun w' hS => (yl_loadA (cs := [v673, (.int .i64 r731)]) ag26 hs1027 (Box.at (hB1042.ext ((e1512).trans hS))))) ?_
                refine TP_f rfl rfl rfl rfl ?_ ?_
                · skip
                  obtain ⟨r1516, hr1517, h⟩ := bind_elim h
                  refine  (eff_call Tryd.func21 nm21 rfl (ev1 rfl) (ref04_Copy_ok ((.pointer (some ⟨b736, 0, none⟩)) :: L) _ (ltl_box (hL.chg e1515) (hB1042.ext e1512)) [v1, (.int .i64 p_Listappend.Window), (.int .i64 p_Listappend.Tooth), (.int .i64 p_Listappend.PerVane), (.int .i64 p_Listappend.First), (.int .i64 p_Listappend.Modulus), (.int .i64 p_Listappend.Slack), (.int .i64 p_Listappend.Errors), (.bool p_Listappend.Round)] p_Listappend ⟨v1, (h1037.ext e1512), rfl⟩ r1516 hr1517) ?_)
                  rintro _ wd1518 ⟨he1519, cs1522, rfl, hrd1523⟩
                  have e1524 := e1512.trans he1519
                  have e1525 := e1513.trans he1519
                  have e1526 := e1514.trans he1519
                  have e1527 := he1511.trans he1519
                  have e1528 := e1515.trans he1519
                  obtain ⟨v1520, h1521, rfl⟩ := hrd1523
                  refine ⟨he1519, ?_⟩
                  refine TP_f rfl rfl rfl rfl ?_ ?_
                  · skip
                    obtain ⟨r1530, hr1531, h⟩ := bind_elim h
                    refine  (eff_call Tryd.func23 nm23 rfl (ev2 rfl rfl) (locate_PlaceOf_ok [] _ (LtL.nil _) [v1520, (.int .i64 r1516.Window), (.int .i64 r1516.Tooth), (.int .i64 r1516.PerVane), (.int .i64 r1516.First), (.int .i64 r1516.Modulus), (.int .i64 r1516.Slack), (.int .i64 r1516.Errors), (.bool r1516.Round)] r1516 ⟨v1520, (h1521.sub (fun _ h => by cases h)), rfl⟩ [v673, (.int .i64 r731)] (LocateReading.mk x674 r731) ⟨v673, ((h1040.ext e1524).sub (fun _ h => by cases h)), rfl⟩ r1530 hr1531) ?_)
                    rintro _ wd1532 ⟨he1533, cs1534, rfl, hrd1535⟩
                    have e1536 := e1524.trans he1533
                    have e1537 := e1525.trans he1533
                    have e1538 := e1526.trans he1533
                    have e1539 := e1527.trans he1533
                    have e1540 := he1519.trans he1533
                    have e1541 := e1528.trans he1533
                    have hrd1535 : cs1534 = [(.int .i64 r1530.1.Lo), (.int .i64 r1530.1.Hi)] := hrd1535
                    subst hrd1535
                    refine ⟨e1540, ?_⟩
                    refine TP_p (v := (.tuple #[(.agg (List.toArray [(.int .i64 r1530.1.Lo), (.int .i64 r1530.1.Hi)])), (.int .i64 r1530.2)])) rfl rfl (fun w' => (yl_move rfl)) ?_
                    refine TP_p (v := (.agg (List.toArray [(.int .i64 r1530.1.Lo), (.int .i64 r1530.1.Hi)]))) rfl rfl (fun w' => (yl_extract rfl rfl)) ?_
                    refine TP_p (v := (.int .i64 r1530.2)) rfl rfl (fun w' => (yl_extract rfl rfl)) ?_
                    refine TP_e rfl rfl (eff_allocZ zi36 ?_)
                    intro b1542 wd1543 hb1544 he1545 hB1546
                    have hn1547 : b1542 ≠ b11 := box_ne (hB1039.ext e1536) hb1544
                    have hn1548 : b1542 ≠ b736 := box_ne (hB1042.ext e1536) hb1544
                    have hn1549 : b1542 ≠ b1033 := box_ne (hB1046.ext e1536) hb1544
                    have hbf1550 := bfresh e1541 hb1544
                    have h1551 := (h1028.ext e1536).step (add_box he1545 hb1544)
                    have h1552 := (h1037.ext e1536).step (add_box he1545 hb1544)
                    have h1553 := (h1040.ext e1536).step (add_box he1545 hb1544)
                    have h1554 := (h1288.ext e1537).step (add_box he1545 hb1544)
                    have h1555 := (h1299.ext e1538).step (add_box he1545 hb1544)
                    have h1556 := (h1311.ext e1539).step (add_box he1545 hb1544)
                    have h1557 := (h1521.ext he1533).step (add_box he1545 hb1544)
                    have e1558 := e1536.trans he1545
                    have e1559 := e1540.trans he1545
                    have e1560 := e1541.trans he1545
                    refine ⟨e1559, ?_⟩
                    refine TP_b rfl rfl (eff_storeC (vs := [(.int .i64 r1530.1.Lo), (.int .i64 r1530.1.Hi)]) (cs' := [(.int .i64 r1530.1.Lo), (.int .i64 r1530.1.Hi)]) sz36 rfl rfl rfl rfl hB1546 rfl (oc_cons rfl (oc_cons rfl oc_nil)) rfl ?_)
                    intro wd1562 hc1563 hB1564
                    have h1565 := h1551.step (Stepp.chg_mem hc1563 mem0)
                    have h1566 := h1552.step (Stepp.chg_mem hc1563 mem0)
                    have h1567 := (hB1039.ext e1558).chg hc1563 (avoidb hn1547)
                    have h1568 := h1553.step (Stepp.chg_mem hc1563 mem0)
                    have h1569 := (hB1042.ext e1558).chg hc1563 (avoidb hn1548)
                    have h1570 := (hB1046.ext e1558).chg hc1563 (avoidb hn1549)
                    have h1571 := h1554.step (Stepp.chg_mem hc1563 mem0)
                    have h1572 := h1555.step (Stepp.chg_mem hc1563 mem0)
                    have h1573 := h1556.step (Stepp.chg_mem hc1563 mem0)
                    have h1574 := h1557.step (Stepp.chg_mem hc1563 mem0)
                    have e1575 := chg_box e1560 hc1563 hbf1550
                    refine TP_p (v := (.int .i64 r1530.2)) rfl rfl (fun w' => (yl_assign rfl)) ?_
                    refine TP_done ?_
                    replace h := some_out h
                    subst h
                    refine hK1509 _ _ ?_
                    exact ⟨r1530.2, r1530.1.Lo, r1530.1.Hi, b1542, rfl, hs1026, hs1029, hs1030, hs1031, hs1032, hs1034, hs1036, rfl, rfl, rfl, rfl, (h1565.sub (sub_skip (sub_skip (sub_refl _)))), (h1573.sub (sub_skip (sub_skip (sub_refl _)))), h1570, hB1564, hbf1550, hn1549.symm, e1575⟩
                  · skip
                    refine  (eff_allocZ zi36 ?_)
                    intro b1576 wd1577 hb1578 he1579 hB1580
                    have hn1581 : b1576 ≠ b11 := box_ne (hB1039.ext e1524) hb1578
                    have hn1582 : b1576 ≠ b736 := box_ne (hB1042.ext e1524) hb1578
                    have hn1583 : b1576 ≠ b1033 := box_ne (hB1046.ext e1524) hb1578
                    have hbf1584 := bfresh e1528 hb1578
                    have h1585 := (h1028.ext e1524).step (add_box he1579 hb1578)
                    have h1586 := (h1037.ext e1524).step (add_box he1579 hb1578)
                    have h1587 := (h1040.ext e1524).step (add_box he1579 hb1578)
                    have h1588 := (h1288.ext e1525).step (add_box he1579 hb1578)
                    have h1589 := (h1299.ext e1526).step (add_box he1579 hb1578)
                    have h1590 := (h1311.ext e1527).step (add_box he1579 hb1578)
                    have h1591 := h1521.step (add_box he1579 hb1578)
                    have e1592 := e1524.trans he1579
                    have e1593 := he1519.trans he1579
                    have e1594 := e1528.trans he1579
                    refine ⟨e1593, ?_⟩
                    obtain ⟨r1596, hr1597, h⟩ := bind_elim h
                    refine TP_e rfl rfl (eff_call Tryd.func23 nm23 rfl (ev2 rfl rfl) (locate_PlaceOf_ok [] _ (LtL.nil _) [v1520, (.int .i64 r1516.Window), (.int .i64 r1516.Tooth), (.int .i64 r1516.PerVane), (.int .i64 r1516.First), (.int .i64 r1516.Modulus), (.int .i64 r1516.Slack), (.int .i64 r1516.Errors), (.bool r1516.Round)] r1516 ⟨v1520, (h1591.sub (fun _ h => by cases h)), rfl⟩ [v673, (.int .i64 r731)] (LocateReading.mk x674 r731) ⟨v673, (h1587.sub (fun _ h => by cases h)), rfl⟩ r1596 hr1597) ?_)
                    rintro _ wd1598 ⟨he1599, cs1600, rfl, hrd1601⟩
                    have e1602 := e1592.trans he1599
                    have e1603 := e1593.trans he1599
                    have e1604 := e1594.trans he1599
                    have hrd1601 : cs1600 = [(.int .i64 r1596.1.Lo), (.int .i64 r1596.1.Hi)] := hrd1601
                    subst hrd1601
                    refine ⟨e1603, ?_⟩
                    refine TP_p (v := (.tuple #[(.agg (List.toArray [(.int .i64 r1596.1.Lo), (.int .i64 r1596.1.Hi)])), (.int .i64 r1596.2)])) rfl rfl (fun w' => (yl_move rfl)) ?_
                    refine TP_p (v := (.agg (List.toArray [(.int .i64 r1596.1.Lo), (.int .i64 r1596.1.Hi)]))) rfl rfl (fun w' => (yl_extract rfl rfl)) ?_
                    refine TP_p (v := (.int .i64 r1596.2)) rfl rfl (fun w' => (yl_extract rfl rfl)) ?_
                    refine TP_b rfl rfl (eff_storeC (vs := [(.int .i64 r1596.1.Lo), (.int .i64 r1596.1.Hi)]) (cs' := [(.int .i64 r1596.1.Lo), (.int .i64 r1596.1.Hi)]) sz36 rfl rfl rfl rfl (hB1580.ext he1599) rfl (oc_cons rfl (oc_cons rfl oc_nil)) rfl ?_)
                    intro wd1605 hc1606 hB1607
                    have h1608 := (h1585.ext he1599).step (Stepp.chg_mem hc1606 mem0)
                    have h1609 := (h1586.ext he1599).step (Stepp.chg_mem hc1606 mem0)
                    have h1610 := (hB1039.ext e1602).chg hc1606 (avoidb hn1581)
                    have h1611 := (h1587.ext he1599).step (Stepp.chg_mem hc1606 mem0)
                    have h1612 := (hB1042.ext e1602).chg hc1606 (avoidb hn1582)
                    have h1613 := (hB1046.ext e1602).chg hc1606 (avoidb hn1583)
                    have h1614 := (h1588.ext he1599).step (Stepp.chg_mem hc1606 mem0)
                    have h1615 := (h1589.ext he1599).step (Stepp.chg_mem hc1606 mem0)
                    have h1616 := (h1590.ext he1599).step (Stepp.chg_mem hc1606 mem0)
                    have h1617 := (h1591.ext he1599).step (Stepp.chg_mem hc1606 mem0)
                    have e1618 := chg_box e1604 hc1606 hbf1584
                    refine TP_p (v := (.int .i64 r1596.2)) rfl rfl (fun w' => (yl_assign rfl)) ?_
                    refine TP_done ?_
                    replace h := some_out h
                    subst h
                    refine hK1509 _ _ ?_
                    exact ⟨r1596.2, r1596.1.Lo, r1596.1.Hi, b1576, rfl, hs1026, hs1029, hs1030, hs1031, hs1032, hs1034, hs1036, rfl, rfl, rfl, rfl, (h1608.sub (sub_skip (sub_skip (sub_refl _)))), (h1616.sub (sub_skip (sub_skip (sub_refl _)))), h1613, hB1607, hbf1584, hn1583.symm, e1618⟩
                · skip
                  refine  (eff_allocZ zi36 ?_)
                  intro b1619 wd1620 hb1621 he1622 hB1623
                  have hn1624 : b1619 ≠ b11 := box_ne (hB1039.ext e1512) hb1621
                  have hn1625 : b1619 ≠ b736 := box_ne (hB1042.ext e1512) hb1621
                  have hn1626 : b1619 ≠ b1033 := box_ne (hB1046.ext e1512) hb1621
                  have hbf1627 := bfresh e1515 hb1621
                  have h1628 := (h1028.ext e1512).step (add_box he1622 hb1621)
                  have h1629 := (h1037.ext e1512).step (add_box he1622 hb1621)
                  have h1630 := (h1040.ext e1512).step (add_box he1622 hb1621)
                  have h1631 := (h1288.ext e1513).step (add_box he1622 hb1621)
                  have h1632 := (h1299.ext e1514).step (add_box he1622 hb1621)
                  have h1633 := (h1311.ext he1511).step (add_box he1622 hb1621)
                  have e1634 := e1512.trans he1622
                  have e1635 := e1515.trans he1622
                  refine ⟨he1622, ?_⟩
                  obtain ⟨r1637, hr1638, h⟩ := bind_elim h
                  refine TP_e rfl rfl (eff_call Tryd.func21 nm21 rfl (ev1 rfl) (ref04_Copy_ok ((.pointer (some ⟨b1619, 0, none⟩)) :: (.pointer (some ⟨b736, 0, none⟩)) :: L) _ (ltl_box (ltl_box (hL.chg e1635) (hB1042.ext e1634)) hB1623) [v1, (.int .i64 p_Listappend.Window), (.int .i64 p_Listappend.Tooth), (.int .i64 p_Listappend.PerVane), (.int .i64 p_Listappend.First), (.int .i64 p_Listappend.Modulus), (.int .i64 p_Listappend.Slack), (.int .i64 p_Listappend.Errors), (.bool p_Listappend.Round)] p_Listappend ⟨v1, h1629, rfl⟩ r1637 hr1638) ?_)
                  rintro _ wd1639 ⟨he1640, cs1643, rfl, hrd1644⟩
                  have e1645 := e1634.trans he1640
                  have e1646 := he1622.trans he1640
                  have e1647 := e1635.trans he1640
                  obtain ⟨v1641, h1642, rfl⟩ := hrd1644
                  refine ⟨e1646, ?_⟩
                  obtain ⟨r1649, hr1650, h⟩ := bind_elim h
                  refine TP_e rfl rfl (eff_call Tryd.func23 nm23 rfl (ev2 rfl rfl) (locate_PlaceOf_ok [] _ (LtL.nil _) [v1641, (.int .i64 r1637.Window), (.int .i64 r1637.Tooth), (.int .i64 r1637.PerVane), (.int .i64 r1637.First), (.int .i64 r1637.Modulus), (.int .i64 r1637.Slack), (.int .i64 r1637.Errors), (.bool r1637.Round)] r1637 ⟨v1641, (h1642.sub (fun _ h => by cases h)), rfl⟩ [v673, (.int .i64 r731)] (LocateReading.mk x674 r731) ⟨v673, ((h1630.ext he1640).sub (fun _ h => by cases h)), rfl⟩ r1649 hr1650) ?_)
                  rintro _ wd1651 ⟨he1652, cs1653, rfl, hrd1654⟩
                  have e1655 := e1645.trans he1652
                  have e1656 := he1640.trans he1652
                  have e1657 := e1646.trans he1652
                  have e1658 := e1647.trans he1652
                  have hrd1654 : cs1653 = [(.int .i64 r1649.1.Lo), (.int .i64 r1649.1.Hi)] := hrd1654
                  subst hrd1654
                  refine ⟨e1657, ?_⟩
                  refine TP_p (v := (.tuple #[(.agg (List.toArray [(.int .i64 r1649.1.Lo), (.int .i64 r1649.1.Hi)])), (.int .i64 r1649.2)])) rfl rfl (fun w' => (yl_move rfl)) ?_
                  refine TP_p (v := (.agg (List.toArray [(.int .i64 r1649.1.Lo), (.int .i64 r1649.1.Hi)]))) rfl rfl (fun w' => (yl_extract rfl rfl)) ?_
                  refine TP_p (v := (.int .i64 r1649.2)) rfl rfl (fun w' => (yl_extract rfl rfl)) ?_
                  refine TP_b rfl rfl (eff_storeC (vs := [(.int .i64 r1649.1.Lo), (.int .i64 r1649.1.Hi)]) (cs' := [(.int .i64 r1649.1.Lo), (.int .i64 r1649.1.Hi)]) sz36 rfl rfl rfl rfl (hB1623.ext e1656) rfl (oc_cons rfl (oc_cons rfl oc_nil)) rfl ?_)
                  intro wd1659 hc1660 hB1661
                  have h1662 := (h1628.ext e1656).step (Stepp.chg_mem hc1660 mem0)
                  have h1663 := (h1629.ext e1656).step (Stepp.chg_mem hc1660 mem0)
                  have h1664 := (hB1039.ext e1655).chg hc1660 (avoidb hn1624)
                  have h1665 := (h1630.ext e1656).step (Stepp.chg_mem hc1660 mem0)
                  have h1666 := (hB1042.ext e1655).chg hc1660 (avoidb hn1625)
                  have h1667 := (hB1046.ext e1655).chg hc1660 (avoidb hn1626)
                  have h1668 := (h1631.ext e1656).step (Stepp.chg_mem hc1660 mem0)
                  have h1669 := (h1632.ext e1656).step (Stepp.chg_mem hc1660 mem0)
                  have h1670 := (h1633.ext e1656).step (Stepp.chg_mem hc1660 mem0)
                  have h1671 := (h1642.ext he1652).step (Stepp.chg_mem hc1660 mem0)
                  have e1672 := chg_box e1658 hc1660 hbf1627
                  refine TP_p (v := (.int .i64 r1649.2)) rfl rfl (fun w' => (yl_assign rfl)) ?_
                  refine TP_done ?_
                  replace h := some_out h
                  subst h
                  refine hK1509 _ _ ?_
                  exact ⟨r1649.2, r1649.1.Lo, r1649.1.Hi, b1619, rfl, hs1026, hs1029, hs1030, hs1031, hs1032, hs1034, hs1036, rfl, rfl, rfl, rfl, (h1662.sub (sub_skip (sub_skip (sub_refl _)))), (h1670.sub (sub_skip (sub_skip (sub_refl _)))), h1667, hB1661, hbf1627, hn1626.symm, e1672⟩
              · rintro ρ wd1481 ⟨x1496, x1500, x1501, b1494, rfl, hs1483, hs1485, hs1486, hs1487, hs1488, hs1489, hs1490, hs1492, hs1493, hs1495, hs1497, h1484, h1491, hB1499, hB1503, hf1504, hn1505, e1482⟩
                replace h := hn1508
                refine hK1317 _ _ ?_
                refine WC_seqK fun K1673 hK1673 => ?_
                refine WC_seqK fun K1674 hK1674 => ?_
                refine WC_region ?_
                refine T0_q (v := (.int .i64 r788.2)) rfl (yl_move hs1486) ?_
                refine T0_q (v := (.bool (!decide (r788.2 = 0)))) rfl (yl_neq rfl rfl) ?_
                refine T0_q (v := (.bool (!decide (r788.2 = 0)))) rfl (yl_move rfl) ?_
                refine T0_g (v := v792) (!(!decide (r788.2 = 0))) (wanted_f rfl rfl rfl rfl) (fun hg => (yl_move hs1485)) ?_
                refine T0_g (v := (.int .i64 q77)) (!(!decide (r788.2 = 0))) (wanted_f rfl rfl rfl rfl) (fun hg => (yl_move hs1483)) ?_
                obtain ⟨r1675, hr1676, h⟩ := bind_elim h
                refine T0_ges (!(!decide (r788.2 = 0))) (.bool r1675) (wanted_f rfl rfl rfl rfl) (fun hg => eff_call Tryd.func31 nm31 rfl (ev2 (gd_true hg) (gd_true hg)) (base_Has_ok [] _ (LtL.nil _) v792 r788.1 (h1484.sub (fun _ h => by cases h)) q77 r1675 (cond_t hg hr1676)) (by rintro _ wd1677 ⟨he1678, rfl⟩; exact ⟨rfl, he1678⟩)) ?_
                intro wd1677 he1678
                have e1679 := e1482.trans he1678
                refine T0_g (v := (.bool (!r1675))) (!(!decide (r788.2 = 0))) (wanted_f rfl rfl rfl rfl) (fun hg => (yl_not (gd_true hg))) ?_
                refine T0_q (v := (.bool ((!decide (r788.2 = 0)) || (!r1675)))) rfl (yl_or rfl rfl (fun hb => (gd_true (not_t hb)))) ?_
                refine T0_q (v := (.bool ((!decide (r788.2 = 0)) || (!r1675)))) rfl (yl_move rfl) ?_
                refine T0_g (v := (.int .i64 r824.2)) (!((!decide (r788.2 = 0)) || (!r1675))) (wanted_f rfl rfl rfl rfl) (fun hg => (yl_move hs1488)) ?_
                refine T0_g (v := (.bool (!decide (r824.2 = 0)))) (!((!decide (r788.2 = 0)) || (!r1675))) (wanted_f rfl rfl rfl rfl) (fun hg => (yl_neq (gd_true hg) rfl)) ?_
                refine T0_g (v := (.bool (!decide (r824.2 = 0)))) (!((!decide (r788.2 = 0)) || (!r1675))) (wanted_f rfl rfl rfl rfl) (fun hg => (yl_move (gd_true hg))) ?_
                refine T0_g (v := (.int .i64 r824.2)) ((!((!decide (r788.2 = 0)) || (!r1675))) && (!decide (r824.2 = 0))) (wanted_gt rfl rfl rfl rfl) (fun hg => (yl_move hs1488)) ?_
                refine T0_g (v := (.bool (!decide (r824.2 = 29)))) ((!((!decide (r788.2 = 0)) || (!r1675))) && (!decide (r824.2 = 0))) (wanted_gt rfl rfl rfl rfl) (fun hg => (yl_neq (gd_true hg) rfl)) ?_
                refine T0_g (v := (.bool ((!decide (r824.2 = 0)) && (!decide (r824.2 = 29))))) (!((!decide (r788.2 = 0)) || (!r1675))) (wanted_f rfl rfl rfl rfl) (fun hg => (yl_and (gd_true hg) (fun hb => (gd_true (and_i hg hb))) rfl)) ?_
                refine T0_q (v := (.bool (((!decide (r788.2 = 0)) || (!r1675)) || ((!decide (r824.2 = 0)) && (!decide (r824.2 = 29)))))) rfl (yl_or rfl rfl (fun hb => (gd_true (not_t hb)))) ?_
                refine T0_q (v := (.bool (((!decide (r788.2 = 0)) || (!r1675)) || ((!decide (r824.2 = 0)) && (!decide (r824.2 = 29)))))) rfl (yl_move rfl) ?_
                refine T0_g (v := (.int .i64 r824.2)) (!(((!decide (r788.2 = 0)) || (!r1675)) || ((!decide (r824.2 = 0)) && (!decide (r824.2 = 29))))) (wanted_f rfl rfl rfl rfl) (fun hg => (yl_move hs1488)) ?_
                refine T0_g (v := (.bool (decide (r824.2 = 0)))) (!(((!decide (r788.2 = 0)) || (!r1675)) || ((!decide (r824.2 = 0)) && (!decide (r824.2 = 29))))) (wanted_f rfl rfl rfl rfl) (fun hg => (yl_eql (gd_true hg) rfl)) ?_
                refine T0_g (v := (.bool (decide (r824.2 = 0)))) (!(((!decide (r788.2 = 0)) || (!r1675)) || ((!decide (r824.2 = 0)) && (!decide (r824.2 = 29))))) (wanted_f rfl rfl rfl rfl) (fun hg => (yl_move (gd_true hg))) ?_
                refine T0_g (v := (.int .i64 r824.1)) ((!(((!decide (r788.2 = 0)) || (!r1675)) || ((!decide (r824.2 = 0)) && (!decide (r824.2 = 29))))) && (decide (r824.2 = 0))) (wanted_gt rfl rfl rfl rfl) (fun hg => (yl_move hs1487)) ?_
                refine T0_g (v := (.int .i64 q77)) ((!(((!decide (r788.2 = 0)) || (!r1675)) || ((!decide (r824.2 = 0)) && (!decide (r824.2 = 29))))) && (decide (r824.2 = 0))) (wanted_gt rfl rfl rfl rfl) (fun hg => (yl_move hs1483)) ?_
                refine T0_g (v := (.bool (!decide (r824.1 = q77)))) ((!(((!decide (r788.2 = 0)) || (!r1675)) || ((!decide (r824.2 = 0)) && (!decide (r824.2 = 29))))) && (decide (r824.2 = 0))) (wanted_gt rfl rfl rfl rfl) (fun hg => (yl_neq (gd_true hg) (gd_true hg))) ?_
                refine T0_g (v := (.bool ((decide (r824.2 = 0)) && (!decide (r824.1 = q77))))) (!(((!decide (r788.2 = 0)) || (!r1675)) || ((!decide (r824.2 = 0)) && (!decide (r824.2 = 29))))) (wanted_f rfl rfl rfl rfl) (fun hg => (yl_and (gd_true hg) (fun hb => (gd_true (and_i hg hb))) rfl)) ?_
                refine T0_q (v := (.bool ((((!decide (r788.2 = 0)) || (!r1675)) || ((!decide (r824.2 = 0)) && (!decide (r824.2 = 29)))) || ((decide (r824.2 = 0)) && (!decide (r824.1 = q77)))))) rfl (yl_or rfl rfl (fun hb => (gd_true (not_t hb)))) ?_
                refine T0_q (v := (.bool ((((!decide (r788.2 = 0)) || (!r1675)) || ((!decide (r824.2 = 0)) && (!decide (r824.2 = 29)))) || ((decide (r824.2 = 0)) && (!decide (r824.1 = q77)))))) rfl (yl_move rfl) ?_
                refine T0_g (v := (.int .i64 x1035)) (!((((!decide (r788.2 = 0)) || (!r1675)) || ((!decide (r824.2 = 0)) && (!decide (r824.2 = 29)))) || ((decide (r824.2 = 0)) && (!decide (r824.1 = q77))))) (wanted_f rfl rfl rfl rfl) (fun hg => (yl_move hs1490)) ?_
                refine T0_g (v := (.bool (!decide (x1035 = 0)))) (!((((!decide (r788.2 = 0)) || (!r1675)) || ((!decide (r824.2 = 0)) && (!decide (r824.2 = 29)))) || ((decide (r824.2 = 0)) && (!decide (r824.1 = q77))))) (wanted_f rfl rfl rfl rfl) (fun hg => (yl_neq (gd_true hg) rfl)) ?_
                refine T0_q (v := (.bool (((((!decide (r788.2 = 0)) || (!r1675)) || ((!decide (r824.2 = 0)) && (!decide (r824.2 = 29)))) || ((decide (r824.2 = 0)) && (!decide (r824.1 = q77)))) || (!decide (x1035 = 0))))) rfl (yl_or rfl rfl (fun hb => (gd_true (not_t hb)))) ?_
                refine T0_q (v := (.bool (((((!decide (r788.2 = 0)) || (!r1675)) || ((!decide (r824.2 = 0)) && (!decide (r824.2 = 29)))) || ((decide (r824.2 = 0)) && (!decide (r824.1 = q77)))) || (!decide (x1035 = 0))))) rfl (yl_move rfl) ?_
                refine T0_g (v := (.int .i64 r1306.2)) (!(((((!decide (r788.2 = 0)) || (!r1675)) || ((!decide (r824.2 = 0)) && (!decide (r824.2 = 29)))) || ((decide (r824.2 = 0)) && (!decide (r824.1 = q77)))) || (!decide (x1035 = 0)))) (wanted_f rfl rfl rfl rfl) (fun hg => (yl_move hs1493)) ?_
                refine T0_g (v := (.bool (!decide (r1306.2 = 0)))) (!(((((!decide (r788.2 = 0)) || (!r1675)) || ((!decide (r824.2 = 0)) && (!decide (r824.2 = 29)))) || ((decide (r824.2 = 0)) && (!decide (r824.1 = q77)))) || (!decide (x1035 = 0)))) (wanted_f rfl rfl rfl rfl) (fun hg => (yl_neq (gd_true hg) rfl)) ?_
                refine T0_q (v := (.bool ((((((!decide (r788.2 = 0)) || (!r1675)) || ((!decide (r824.2 = 0)) && (!decide (r824.2 = 29)))) || ((decide (r824.2 = 0)) && (!decide (r824.1 = q77)))) || (!decide (x1035 = 0))) || (!decide (r1306.2 = 0))))) rfl (yl_or rfl rfl (fun hb => (gd_true (not_t hb)))) ?_
                refine T0_nil ?_
                refine hK1674 _ _ ?_
                refine WC_cond (b := ((((((!decide (r788.2 = 0)) || (!r1675)) || ((!decide (r824.2 = 0)) && (!decide (r824.2 = 29)))) || ((decide (r824.2 = 0)) && (!decide (r824.1 = q77)))) || (!decide (x1035 = 0))) || (!decide (r1306.2 = 0)))) rfl (fun hb1680 => ?_) (fun hb1680 => ?_)
                · replace h := cond_t hb1680 h
                  refine WC_seqK fun K1681 hK1681 => ?_
                  refine WC_region ?_
                  refine T0_q (v := (.bool false)) rfl (yl_assign rfl) ?_
                  refine T0_nil ?_
                  refine hK1681 _ _ ?_
                  refine WC_ret ?_
                  replace h := some_out h
                  subst h
                  exact ⟨[(.bool false)], ⟨rfl, trivial⟩, e1679, rfl⟩
                · replace h := cond_f hb1680 h
                  refine WC_skip ?_
                  refine hK1673 _ _ ?_
                  refine WC_seqK fun K1682 hK1682 => ?_
                  refine WC_region ?_
                  refine T0_q (v := (.bool false)) rfl (yl_assign rfl) ?_
                  refine T0_nil ?_
                  refine hK1682 _ _ ?_
                  refine WC_seqK fun K1683 hK1683 => ?_
                  refine WC_seqK fun K1684 hK1684 => ?_
                  refine WC_region ?_
                  refine T0_q (v := (.int .i64 0)) rfl (yl_assign rfl) ?_
                  refine T0_nil ?_
                  refine hK1684 _ _ ?_
                  obtain ⟨o1807, hl1808, hn1809⟩ := bind_elim h
                  refine WC_post (fun (ρ : Env) (wd1794 : World) => ∃ (x1801 : Bool), x1801 = o1807 ∧ ρ 17 = (.pointer (some ⟨b1033, 0, none⟩)) ∧ ρ 19 = v1310 ∧ ρ 21 = (.pointer (some ⟨b1494, 0, none⟩)) ∧ ρ 22 = (.int .i64 x1496) ∧ ρ 23 = (.bool x1801) ∧ SlRd L wd1794 v1310 r1306.1 ∧ Box wd1794 b1033 [(.int .i64 x1043), (.int .i64 x1044)] 36 ∧ Box wd1794 b1494 [(.int .i64 x1500), (.int .i64 x1501)] 36 ∧ Ext w wd1794) ?_ ?_
                  · intro K1813 hK1813
                    refine WC_block ?_
                    refine WC_loopk (fun sv ρ wd1779 => ∃ (x1786 : Bool) (x1788 : Int), (x1786, x1788) = sv ∧ ρ 17 = (.pointer (some ⟨b1033, 0, none⟩)) ∧ ρ 19 = v1310 ∧ ρ 21 = (.pointer (some ⟨b1494, 0, none⟩)) ∧ ρ 22 = (.int .i64 x1496) ∧ ρ 23 = (.bool x1786) ∧ ρ 24 = (.int .i64 x1788) ∧ SlRd L wd1779 v1310 r1306.1 ∧ Box wd1779 b1033 [(.int .i64 x1043), (.int .i64 x1044)] 36 ∧ Box wd1779 b1494 [(.int .i64 x1500), (.int .i64 x1501)] 36 ∧ Ext w wd1779) hl1808 ⟨false, 0, rfl, hs1489, hs1492, hs1495, hs1497, rfl, rfl, (h1491.ext he1678), (hB1499.ext he1678), (hB1503.ext he1678), e1679⟩ ?_
                    rintro _ ρ wd1779 ⟨x1786, x1788, rfl, hs1781, hs1783, hs1784, hs1785, hs1787, hs1789, h1782, hB1791, hB1793, e1780⟩ x1810 h hx1811 K1812 hK1812
                    refine WC_seqK fun K1815 hK1815 => ?_
                    refine WC_seqK fun K1816 hK1816 => ?_
                    refine WC_region ?_
                    refine T0_q (v := (.int .i64 x1788)) rfl (yl_move hs1789) ?_
                    refine T0_q (v := v1310) rfl (yl_move hs1783) ?_
                    refine T0_q (v := (.int .i64 (r1306.1.length : Int))) rfl (yl_lenR rfl Tryd.underlying29 h1782 rfl) ?_
                    refine T0_q (v := (.bool (decide (x1788 < (r1306.1.length : Int))))) rfl (yl_lss rfl rfl) ?_
                    refine T0_nil ?_
                    refine hK1816 _ _ ?_
                    refine WC_cond (b := (decide (x1788 < (r1306.1.length : Int)))) rfl (fun hb1817 => ?_) (fun hb1817 => ?_)
                    · replace h := cond_t hb1817 h
                      refine WC_skip ?_
                      refine hK1815 _ _ ?_
                      refine WC_seqK fun K1818 hK1818 => ?_
                      refine WC_block ?_
                      refine WC_plan mixed (.p 0 (.p 1 (.p 2 (.p 3 (.p 4 (.p 5 (.p 7 (.q 6 (.q 8 (.p 9 (.p 10 (.p 11 (.p 13 (.p 14 (.p 15 (.p 16 (.q 12 (.q 17 (.p 18 (.p 19 (.p 20 (.p 21 .done)))))))))))))))))))))) (by kernel_rfl) ?_
                      intro wd1819 he1820
                      have e1821 := e1780.trans he1820
                      refine TP_p (v := (.bool x1786)) rfl rfl (fun w' => (yl_move hs1787)) ?_
                      refine TP_p (v := (.bool x1786)) rfl rfl (fun w' => (yl_move rfl)) ?_
                      refine TP_gp (v := v1310) (!x1786) rfl (wanted_f rfl rfl rfl rfl) (fun w' hg => (yl_move hs1783)) ?_
                      refine TP_gp (v := (.int .i64 x1788)) (!x1786) rfl (wanted_f rfl rfl rfl rfl) (fun w' hg => (yl_move hs1789)) ?_
                      obtain ⟨el1822, hel1823, h⟩ := bind_elim h
                      have hat1825 : (!x1786) = true → At wd1779 (elemAddr v1310 (x1788 : Int).toNat 2) [(.int .i64 el1822.Lo), (.int .i64 el1822.Hi)] := fun hg => by obtain ⟨cs, hat, hrd⟩ := SlRd.at h1782 (cond_t hg hel1823); have hrd : cs = [(.int .i64 el1822.Lo), (.int .i64 el1822.Hi)] := hrd; subst hrd; exact hat
                      refine TP_gp (v := (.pointer (some (elemAddr v1310 (x1788 : Int).toNat 2)))) (!x1786) rfl (wanted_f rfl rfl rfl rfl) (fun w' hg => (yl_indexAddr Tryd.underlying29 sz36 h1782 (cond_t hg hel1823) (gd_true hg) (gd_true hg))) ?_
                      refine TP_gp (v := (.pointer (some (elemAddr v1310 (x1788 : Int).toNat 2)))) (!x1786) rfl (wanted_f rfl rfl rfl rfl) (fun w' hg => (yl_fa 0 Tryd.underlying36 rfl rfl ⟨0, sz3⟩ (gd_true hg) rfl)) ?_
                      refine TP_gp (v := (.pointer (some ⟨b1033, 0, none⟩))) (!x1786) rfl (wanted_f rfl rfl rfl rfl) (fun w' hg => (yl_fa 0 Tryd.underlying36 rfl rfl ⟨0, sz3⟩ hs1781 rfl)) ?_
                      refine TP_gq (v := (.int .i64 el1822.Lo)) (!x1786) rfl (wanted_f rfl rfl rfl rfl) (fun w' hS hg => (yl_load sc3 (gd_true hg) ((hat1825 hg).ext' ((he1820).trans hS)))) ?_
                      refine TP_gq (v := (.int .i64 x1043)) (!x1786) rfl (wanted_f rfl rfl rfl rfl) (fun w' hS hg => (yl_load sc3 (gd_true hg) (Box.at (hB1791.ext ((he1820).trans hS))))) ?_
                      refine TP_gp (v := (.bool (decide (el1822.Lo ≤ x1043)))) (!x1786) rfl (wanted_f rfl rfl rfl rfl) (fun w' hg => (yl_leq (gd_true hg) (gd_true hg))) ?_
                      refine TP_gp (v := (.bool (decide (el1822.Lo ≤ x1043)))) (!x1786) rfl (wanted_f rfl rfl rfl rfl) (fun w' hg => (yl_move (gd_true hg))) ?_
                      refine TP_gp (v := (.pointer (some ⟨b1033, 1, none⟩))) ((!x1786) && (decide (el1822.Lo ≤ x1043))) rfl (wanted_gt rfl rfl rfl rfl) (fun w' hg => (yl_fa 1 Tryd.underlying36 rfl rfl ⟨0, sz3⟩ hs1781 rfl)) ?_
                      refine TP_gp (v := v1310) ((!x1786) && (decide (el1822.Lo ≤ x1043))) rfl (wanted_gt rfl rfl rfl rfl) (fun w' hg => (yl_move hs1783)) ?_
                      refine TP_gp (v := (.int .i64 x1788)) ((!x1786) && (decide (el1822.Lo ≤ x1043))) rfl (wanted_gt rfl rfl rfl rfl) (fun w' hg => (yl_move hs1789)) ?_
                      obtain ⟨el1827, hel1828, h⟩ := bind_elim h
                      have hat1830 : ((!x1786) && (decide (el1822.Lo ≤ x1043))) = true → At wd1779 (elemAddr v1310 (x1788 : Int).toNat 2) [(.int .i64 el1827.Lo), (.int .i64 el1827.Hi)] := fun hg => by obtain ⟨cs, hat, hrd⟩ := SlRd.at h1782 (cond_t hg hel1828); have hrd : cs = [(.int .i64 el1827.Lo), (.int .i64 el1827.Hi)] := hrd; subst hrd; exact hat
                      refine TP_gp (v := (.pointer (some (elemAddr v1310 (x1788 : Int).toNat 2)))) ((!x1786) && (decide (el1822.Lo ≤ x1043))) rfl (wanted_gt rfl rfl rfl rfl) (fun w' hg => (yl_indexAddr Tryd.underlying29 sz36 h1782 (cond_t hg hel1828) (gd_true hg) (gd_true hg))) ?_
                      refine TP_gp (v := (.pointer (some (Addr.add (elemAddr v1310 (x1788 : Int).toNat 2) 1)))) ((!x1786) && (decide (el1822.Lo ≤ x1043))) rfl (wanted_gt rfl rfl rfl rfl) (fun w' hg => (yl_fa 1 Tryd.underlying36 rfl rfl ⟨0, sz3⟩ (gd_true hg) rfl)) ?_
                      refine TP_gq (v := (.int .i64 x1044)) ((!x1786) && (decide (el1822.Lo ≤ x1043))) rfl (wanted_gt rfl rfl rfl rfl) (fun w' hS hg => (yl_load sc3 (gd_true hg) (At.drop (Box.at (hB1791.ext ((he1820).trans hS))) 1))) ?_
                      refine TP_gq (v := (.int .i64 el1827.Hi)) ((!x1786) && (decide (el1822.Lo ≤ x1043))) rfl (wanted_gt rfl rfl rfl rfl) (fun w' hS hg => (yl_load sc3 (gd_true hg) (At.drop ((hat1830 hg).ext' ((he1820).trans hS)) 1))) ?_
                      refine TP_gp (v := (.bool (decide (x1044 ≤ el1827.Hi)))) ((!x1786) && (decide (el1822.Lo ≤ x1043))) rfl (wanted_gt rfl rfl rfl rfl) (fun w' hg => (yl_leq (gd_true hg) (gd_true hg))) ?_
                      refine TP_gp (v := (.bool ((decide (el1822.Lo ≤ x1043)) && (decide (x1044 ≤ el1827.Hi))))) (!x1786) rfl (wanted_f rfl rfl rfl rfl) (fun w' hg => (yl_and (gd_true hg) (fun hb => (gd_true (and_i hg hb))) rfl)) ?_
                      refine TP_p (v := (.bool (x1786 || ((decide (el1822.Lo ≤ x1043)) && (decide (x1044 ≤ el1827.Hi)))))) rfl rfl (fun w' => (yl_or rfl rfl (fun hb => (gd_true (not_t hb))))) ?_
                      refine TP_p (v := (.bool (x1786 || ((decide (el1822.Lo ≤ x1043)) && (decide (x1044 ≤ el1827.Hi)))))) rfl rfl (fun w' => (yl_assign rfl)) ?_
                      refine TP_done ?_
                      refine hK1818 _ _ ?_
                      refine WC_region ?_
                      refine T0_q (v := (.int .i64 x1788)) rfl (yl_move hs1789) ?_
                      refine T0_q (v := (.int .i64 (w64 (x1788 + 1)))) rfl (yl_add rfl rfl) ?_
                      refine T0_q (v := (.int .i64 (w64 (x1788 + 1)))) rfl (yl_assign rfl) ?_
                      refine T0_nil ?_
                      replace h := some_out h
                      subst h
                      refine hK1812 _ _ _ rfl ?_
                      exact ⟨(x1786 || ((decide (el1822.Lo ≤ x1043)) && (decide (x1044 ≤ el1827.Hi)))), w64 (x1788 + 1), rfl, hs1781, hs1783, hs1784, hs1785, rfl, rfl, (h1782.ext he1820), (hB1791.ext he1820), (hB1793.ext he1820), e1821⟩
                    · replace h := cond_f hb1817 h
                      refine WC_exit ?_
                      replace h := some_out h
                      subst h
                      have ho := hx1811 _ rfl
                      subst ho
                      refine hK1813 _ _ ?_
                      exact ⟨x1786, rfl, hs1781, hs1783, hs1784, hs1785, hs1787, h1782, hB1791, hB1793, e1780⟩
                  · rintro ρ wd1794 ⟨x1801, rfl, hs1796, hs1798, hs1799, hs1800, hs1802, h1797, hB1804, hB1806, e1795⟩
                    replace h := hn1809
                    refine hK1683 _ _ ?_
                    refine WC_seqK fun K1832 hK1832 => ?_
                    refine WC_region ?_
                    refine T0_q (v := (.bool x1801)) rfl (yl_move hs1802) ?_
                    refine T0_q (v := (.bool x1801)) rfl (yl_move rfl) ?_
                    refine T0_g (v := (.int .i64 x1496)) x1801 (wanted_t rfl rfl rfl rfl) (fun hg => (yl_move hs1800)) ?_
                    refine T0_g (v := (.bool (decide (x1496 = 29)))) x1801 (wanted_t rfl rfl rfl rfl) (fun hg => (yl_eql (gd_true hg) rfl)) ?_
                    refine T0_g (v := (.bool (decide (x1496 = 29)))) x1801 (wanted_t rfl rfl rfl rfl) (fun hg => (yl_move (gd_true hg))) ?_
                    refine T0_g (v := v1310) (x1801 && (decide (x1496 = 29))) (wanted_gt rfl rfl rfl rfl) (fun hg => (yl_move hs1798)) ?_
                    refine T0_g (v := (.int .i64 (r1306.1.length : Int))) (x1801 && (decide (x1496 = 29))) (wanted_gt rfl rfl rfl rfl) (fun hg => (yl_lenR rfl Tryd.underlying29 h1797 (gd_true hg))) ?_
                    refine T0_g (v := (.bool (decide (1 < (r1306.1.length : Int))))) (x1801 && (decide (x1496 = 29))) (wanted_gt rfl rfl rfl rfl) (fun hg => (yl_gtr (gd_true hg) rfl)) ?_
                    refine T0_g (v := (.bool ((decide (x1496 = 29)) && (decide (1 < (r1306.1.length : Int)))))) x1801 (wanted_t rfl rfl rfl rfl) (fun hg => (yl_and (gd_true hg) (fun hb => (gd_true (and_i hg hb))) rfl)) ?_
                    refine T0_g (v := (.bool ((decide (x1496 = 29)) && (decide (1 < (r1306.1.length : Int)))))) x1801 (wanted_t rfl rfl rfl rfl) (fun hg => (yl_move (gd_true hg))) ?_
                    refine T0_g (v := (.int .i64 x1496)) (x1801 && (!((decide (x1496 = 29)) && (decide (1 < (r1306.1.length : Int)))))) (wanted_gf rfl rfl rfl rfl) (fun hg => (yl_move hs1800)) ?_
                    refine T0_g (v := (.bool (decide (x1496 = 0)))) (x1801 && (!((decide (x1496 = 29)) && (decide (1 < (r1306.1.length : Int)))))) (wanted_gf rfl rfl rfl rfl) (fun hg => (yl_eql (gd_true hg) rfl)) ?_
                    refine T0_g (v := (.bool (decide (x1496 = 0)))) (x1801 && (!((decide (x1496 = 29)) && (decide (1 < (r1306.1.length : Int)))))) (wanted_gf rfl rfl rfl rfl) (fun hg => (yl_move (gd_true hg))) ?_
                    refine T0_g (v := (.pointer (some ⟨b1494, 0, none⟩))) ((x1801 && (!((decide (x1496 = 29)) && (decide (1 < (r1306.1.length : Int)))))) && (decide (x1496 = 0))) (wanted_gt rfl rfl rfl rfl) (fun hg => (yl_fa 0 Tryd.underlying36 rfl rfl ⟨0, sz3⟩ hs1799 rfl)) ?_
                    refine T0_g (v := (.int .i64 x1500)) ((x1801 && (!((decide (x1496 = 29)) && (decide (1 < (r1306.1.length : Int)))))) && (decide (x1496 = 0))) (wanted_gt rfl rfl rfl rfl) (fun hg => (yl_load sc3 (gd_true hg) (Box.at hB1806))) ?_
                    refine T0_g (v := (.pointer (some ⟨b1033, 0, none⟩))) ((x1801 && (!((decide (x1496 = 29)) && (decide (1 < (r1306.1.length : Int)))))) && (decide (x1496 = 0))) (wanted_gt rfl rfl rfl rfl) (fun hg => (yl_fa 0 Tryd.underlying36 rfl rfl ⟨0, sz3⟩ hs1796 rfl)) ?_
                    refine T0_g (v := (.int .i64 x1043)) ((x1801 && (!((decide (x1496 = 29)) && (decide (1 < (r1306.1.length : Int)))))) && (decide (x1496 = 0))) (wanted_gt rfl rfl rfl rfl) (fun hg => (yl_load sc3 (gd_true hg) (Box.at hB1804))) ?_
                    refine T0_g (v := (.bool (decide (x1500 ≤ x1043)))) ((x1801 && (!((decide (x1496 = 29)) && (decide (1 < (r1306.1.length : Int)))))) && (decide (x1496 = 0))) (wanted_gt rfl rfl rfl rfl) (fun hg => (yl_leq (gd_true hg) (gd_true hg))) ?_
                    refine T0_g (v := (.bool ((decide (x1496 = 0)) && (decide (x1500 ≤ x1043))))) (x1801 && (!((decide (x1496 = 29)) && (decide (1 < (r1306.1.length : Int)))))) (wanted_gf rfl rfl rfl rfl) (fun hg => (yl_and (gd_true hg) (fun hb => (gd_true (and_i hg hb))) rfl)) ?_
                    refine T0_g (v := (.bool ((decide (x1496 = 0)) && (decide (x1500 ≤ x1043))))) (x1801 && (!((decide (x1496 = 29)) && (decide (1 < (r1306.1.length : Int)))))) (wanted_gf rfl rfl rfl rfl) (fun hg => (yl_move (gd_true hg))) ?_
                    refine T0_g (v := (.pointer (some ⟨b1033, 1, none⟩))) ((x1801 && (!((decide (x1496 = 29)) && (decide (1 < (r1306.1.length : Int)))))) && ((decide (x1496 = 0)) && (decide (x1500 ≤ x1043)))) (wanted_gt rfl rfl rfl rfl) (fun hg => (yl_fa 1 Tryd.underlying36 rfl rfl ⟨0, sz3⟩ hs1796 rfl)) ?_
                    refine T0_g (v := (.int .i64 x1044)) ((x1801 && (!((decide (x1496 = 29)) && (decide (1 < (r1306.1.length : Int)))))) && ((decide (x1496 = 0)) && (decide (x1500 ≤ x1043)))) (wanted_gt rfl rfl rfl rfl) (fun hg => (yl_load sc3 (gd_true hg) (At.drop (Box.at hB1804) 1))) ?_
                    refine T0_g (v := (.pointer (some ⟨b1494, 1, none⟩))) ((x1801 && (!((decide (x1496 = 29)) && (decide (1 < (r1306.1.length : Int)))))) && ((decide (x1496 = 0)) && (decide (x1500 ≤ x1043)))) (wanted_gt rfl rfl rfl rfl) (fun hg => (yl_fa 1 Tryd.underlying36 rfl rfl ⟨0, sz3⟩ hs1799 rfl)) ?_
                    refine T0_g (v := (.int .i64 x1501)) ((x1801 && (!((decide (x1496 = 29)) && (decide (1 < (r1306.1.length : Int)))))) && ((decide (x1496 = 0)) && (decide (x1500 ≤ x1043)))) (wanted_gt rfl rfl rfl rfl) (fun hg => (yl_load sc3 (gd_true hg) (At.drop (Box.at hB1806) 1))) ?_
                    refine T0_g (v := (.bool (decide (x1044 ≤ x1501)))) ((x1801 && (!((decide (x1496 = 29)) && (decide (1 < (r1306.1.length : Int)))))) && ((decide (x1496 = 0)) && (decide (x1500 ≤ x1043)))) (wanted_gt rfl rfl rfl rfl) (fun hg => (yl_leq (gd_true hg) (gd_true hg))) ?_
                    refine T0_g (v := (.bool (((decide (x1496 = 0)) && (decide (x1500 ≤ x1043))) && (decide (x1044 ≤ x1501))))) (x1801 && (!((decide (x1496 = 29)) && (decide (1 < (r1306.1.length : Int)))))) (wanted_gf rfl rfl rfl rfl) (fun hg => (yl_and (gd_true hg) (fun hb => (gd_true (and_i hg hb))) rfl)) ?_
                    refine T0_g (v := (.bool (((decide (x1496 = 29)) && (decide (1 < (r1306.1.length : Int)))) || (((decide (x1496 = 0)) && (decide (x1500 ≤ x1043))) && (decide (x1044 ≤ x1501)))))) x1801 (wanted_t rfl rfl rfl rfl) (fun hg => (yl_or (gd_true hg) rfl (fun hb => (gd_true (and_i hg (not_t hb)))))) ?_
                    refine T0_q (v := (.bool (x1801 && (((decide (x1496 = 29)) && (decide (1 < (r1306.1.length : Int)))) || (((decide (x1496 = 0)) && (decide (x1500 ≤ x1043))) && (decide (x1044 ≤ x1501))))))) rfl (yl_and rfl (fun hb => (gd_true hb)) rfl) ?_
                    refine T0_q (v := (.bool (x1801 && (((decide (x1496 = 29)) && (decide (1 < (r1306.1.length : Int)))) || (((decide (x1496 = 0)) && (decide (x1500 ≤ x1043))) && (decide (x1044 ≤ x1501))))))) rfl (yl_assign rfl) ?_
                    refine T0_nil ?_
                    refine hK1832 _ _ ?_
                    refine WC_ret ?_
                    replace h := some_out h
                    subst h
                    exact ⟨[(.bool (x1801 && (((decide (x1496 = 29)) && (decide (1 < (r1306.1.length : Int)))) || (((decide (x1496 = 0)) && (decide (x1500 ≤ x1043))) && (decide (x1044 ≤ x1501))))))], ⟨rfl, trivial⟩, e1795, rfl⟩

end Go.Gw
