/- What functions come to, printed by a program of this work. No condition. -/
import Derived.Test.YtgpapebgdnimfaaDoorGwFnC
import Derived.Test.YtgpapebgdnimfaaDoorGwFxWin
import Derived.Test.YtgpapebgdnimfaaDoorGwLib11
set_option maxRecDepth 4096
set_option maxHeartbeats 1000000
set_option linter.unusedVariables false
namespace Go.Gw
open Go Go.Proofs
attribute [local irreducible] T0 TS TT TP Eff Stp WC Quiet gd
noncomputable def law04_Short_spec (p_t : LocateTrack) : Option Bool :=
  some ((decide ((p_t.Vanes.length : Int) ≤ 16)) || ((decide (40 < (p_t.Vanes.length : Int))) && (decide ((p_t.Vanes.length : Int) ≤ 42))))
theorem law04_Short_ok (L : List Value) (w : World) (hL : LtL L w) (cs_p_t : List Value) (p_t : LocateTrack) (h_p_t : Rep.rd L w cs_p_t p_t) (r : Bool) (h : law04_Short_spec p_t = some r) :
    CallsTo Tryd.prog 19 [(.agg cs_p_t.toArray)] w (fun v w' => Ext w w' ∧ (.bool r) = v) := by
  have e0 : Ext w w := Chg.refl _ _
  obtain ⟨v1, h2, rfl⟩ := h_p_t
  refine callsTo_of_WC (n := 19) (rs := [.tmp 2]) Tryd.func19 rfl rfl rfl rfl rfl ?_
  refine WC_seqK fun K4 hK4 => ?_
  refine WC_region ?_
  refine T0_e rfl (eff_boxC (cs := [v1, (.int .i64 p_t.Window), (.int .i64 p_t.Tooth), (.int .i64 p_t.PerVane), (.int .i64 p_t.First), (.int .i64 p_t.Modulus), (.int .i64 p_t.Slack), (.int .i64 p_t.Errors), (.bool p_t.Round)]) rfl rfl ?_)
  intro b5 wd6 hb7 he8 hB9
  have hbf10 := bfresh e0 hb7
  have e11 := e0.trans he8
  refine T0_q (v := (.bool false)) rfl (yl_assign rfl) ?_
  refine T0_nil ?_
  refine hK4 _ _ ?_
  refine WC_seqK fun K13 hK13 => ?_
  refine WC_region ?_
  refine T0_q (v := (.pointer (some ⟨b5, 0, none⟩))) rfl (yl_fa 0 Tryd.underlying24 rfl rfl ⟨0, sz22⟩ rfl rfl) ?_
  refine T0_q (v := v1) rfl (yl_load sc22 rfl (Box.at hB9)) ?_
  refine T0_q (v := (.int .i64 (p_t.Vanes.length : Int))) rfl (yl_lenR rfl Tryd.underlying22 h2 rfl) ?_
  refine T0_q (v := (.bool (decide ((p_t.Vanes.length : Int) ≤ 16)))) rfl (yl_leq rfl rfl) ?_
  refine T0_q (v := (.bool (decide ((p_t.Vanes.length : Int) ≤ 16)))) rfl (yl_move rfl) ?_
  refine T0_g (v := (.pointer (some ⟨b5, 0, none⟩))) (!(decide ((p_t.Vanes.length : Int) ≤ 16))) (wanted_f rfl rfl rfl rfl) (fun hg => (yl_fa 0 Tryd.underlying24 rfl rfl ⟨0, sz22⟩ rfl rfl)) ?_
  refine T0_g (v := v1) (!(decide ((p_t.Vanes.length : Int) ≤ 16))) (wanted_f rfl rfl rfl rfl) (fun hg => (yl_load sc22 (gd_true hg) (Box.at hB9))) ?_
  refine T0_g (v := (.int .i64 (p_t.Vanes.length : Int))) (!(decide ((p_t.Vanes.length : Int) ≤ 16))) (wanted_f rfl rfl rfl rfl) (fun hg => (yl_lenR rfl Tryd.underlying22 h2 (gd_true hg))) ?_
  refine T0_g (v := (.bool (decide (40 < (p_t.Vanes.length : Int))))) (!(decide ((p_t.Vanes.length : Int) ≤ 16))) (wanted_f rfl rfl rfl rfl) (fun hg => (yl_gtr (gd_true hg) rfl)) ?_
  refine T0_g (v := (.bool (decide (40 < (p_t.Vanes.length : Int))))) (!(decide ((p_t.Vanes.length : Int) ≤ 16))) (wanted_f rfl rfl rfl rfl) (fun hg => (yl_move (gd_true hg))) ?_
  refine T0_g (v := (.pointer (some ⟨b5, 0, none⟩))) ((!(decide ((p_t.Vanes.length : Int) ≤ 16))) && (decide (40 < (p_t.Vanes.length : Int)))) (wanted_gt rfl rfl rfl rfl) (fun hg => (yl_fa 0 Tryd.underlying24 rfl rfl ⟨0, sz22⟩ rfl rfl)) ?_
  refine T0_g (v := v1) ((!(decide ((p_t.Vanes.length : Int) ≤ 16))) && (decide (40 < (p_t.Vanes.length : Int)))) (wanted_gt rfl rfl rfl rfl) (fun hg => (yl_load sc22 (gd_true hg) (Box.at hB9))) ?_
  refine T0_g (v := (.int .i64 (p_t.Vanes.length : Int))) ((!(decide ((p_t.Vanes.length : Int) ≤ 16))) && (decide (40 < (p_t.Vanes.length : Int)))) (wanted_gt rfl rfl rfl rfl) (fun hg => (yl_lenR rfl Tryd.underlying22 h2 (gd_true hg))) ?_
  refine T0_g (v := (.bool (decide ((p_t.Vanes.length : Int) ≤ 42)))) ((!(decide ((p_t.Vanes.length : Int) ≤ 16))) && (decide (40 < (p_t.Vanes.length : Int)))) (wanted_gt rfl rfl rfl rfl) (fun hg => (yl_leq (gd_true hg) rfl)) ?_
  refine T0_g (v := (.bool ((decide (40 < (p_t.Vanes.length : Int))) && (decide ((p_t.Vanes.length : Int) ≤ 42))))) (!(decide ((p_t.Vanes.length : Int) ≤ 16))) (wanted_f rfl rfl rfl rfl) (fun hg => (yl_and (gd_true hg) (fun hb => (gd_true (and_i hg hb))) rfl)) ?_
  refine T0_q (v := (.bool ((decide ((p_t.Vanes.length : Int) ≤ 16)) || ((decide (40 < (p_t.Vanes.length : Int))) && (decide ((p_t.Vanes.length : Int) ≤ 42)))))) rfl (yl_or rfl rfl (fun hb => (gd_true (not_t hb)))) ?_
  refine T0_q (v := (.bool ((decide ((p_t.Vanes.length : Int) ≤ 16)) || ((decide (40 < (p_t.Vanes.length : Int))) && (decide ((p_t.Vanes.length : Int) ≤ 42)))))) rfl (yl_assign rfl) ?_
  refine T0_nil ?_
  refine hK13 _ _ ?_
  refine WC_ret ?_
  replace h := some_out h
  subst h
  exact ⟨[(.bool ((decide ((p_t.Vanes.length : Int) ≤ 16)) || ((decide (40 < (p_t.Vanes.length : Int))) && (decide ((p_t.Vanes.length : Int) ≤ 42)))))], ⟨rfl, trivial⟩, e11, rfl⟩

noncomputable def ref04_CopyReading_spec (p_x : LocateReading) : Option LocateReading :=
  (Option.bind (base_CopyInts_spec p_x.Seen) fun r28 =>
  some (LocateReading.mk r28 p_x.Count)
  )
theorem ref04_CopyReading_ok (L : List Value) (w : World) (hL : LtL L w) (cs_p_x : List Value) (p_x : LocateReading) (h_p_x : Rep.rd L w cs_p_x p_x) (r : LocateReading) (h : ref04_CopyReading_spec p_x = some r) :
    CallsTo Tryd.prog 22 [(.agg cs_p_x.toArray)] w (fun v w' => Ext w w' ∧ ∃ (cs0 : List Value), (.agg cs0.toArray) = v ∧ Rep.rd L w' cs0 r) := by
  have e0 : Ext w w := Chg.refl _ _
  obtain ⟨v1, h2, rfl⟩ := h_p_x
  refine callsTo_of_WC (n := 9) (rs := [.cell 2 26]) Tryd.func22 rfl rfl rfl rfl rfl ?_
  refine WC_seqK fun K4 hK4 => ?_
  refine WC_region ?_
  refine T0_e rfl (eff_boxC (cs := [v1, (.int .i64 p_x.Count)]) rfl rfl ?_)
  intro b5 wd6 hb7 he8 hB9
  have hbf10 := bfresh e0 hb7
  have e11 := e0.trans he8
  refine T0_e rfl (eff_allocZ zi26 ?_)
  intro b13 wd14 hb15 he16 hB17
  have hn18 : b13 ≠ b5 := box_ne hB9 hb15
  have hbf19 := bfresh e11 hb15
  have h20 := (h2.ext he8).step (add_box he16 hb15)
  have e21 := e11.trans he16
  refine T0_nil ?_
  refine hK4 _ _ ?_
  refine WC_seqK fun K23 hK23 => ?_
  refine WC_plan mixed (.p 0 (.p 3 (.q 1 (.q 4 (.e 2 (.p 5 (.b 6 .done))))))) (by kernel_rfl) ?_
  intro wd24 he25
  have e26 := he16.trans he25
  have e27 := e21.trans he25
  refine TP_p (v := (.pointer (some ⟨b5, 0, none⟩))) rfl rfl (fun w' => (yl_fa 0 Tryd.underlying26 rfl rfl ⟨0, sz22⟩ rfl rfl)) ?_
  refine TP_p (v := (.pointer (some ⟨b5, 1, none⟩))) rfl rfl (fun w' => (yl_fa 1 Tryd.underlying26 rfl rfl ⟨0, sz3⟩ rfl rfl)) ?_
  refine TP_q (v := v1) rfl rfl (fun w' hS => (yl_load sc22 rfl (Box.at (hB9.ext ((e26).trans hS))))) ?_
  refine TP_q (v := (.int .i64 p_x.Count)) rfl rfl (fun w' hS => (yl_load sc3 rfl (At.drop (Box.at (hB9.ext ((e26).trans hS))) 1))) ?_
  obtain ⟨r28, hr29, h⟩ := bind_elim h
  refine TP_e rfl rfl (eff_call Tryd.func30 nm30 rfl (ev1 rfl) (base_CopyInts_own ((.pointer (some ⟨b13, 0, none⟩)) :: L) _ (ltl_box (hL.chg e27) (hB17.ext he25)) v1 p_x.Seen (h20.ext he25) r28 hr29) ?_)
  rintro _ wd30 ⟨he31, v32, rfl, hf34, h33⟩
  have h35 := (h20.ext he25).step (Stepp.add v32 he31 hf34)
  have hn37 : blk v32 ≠ some b5 := fun e => by have := hf34 _ e; have := (hB9.ext e26).lt; omega
  have hn38 : blk v32 ≠ some b13 := fun e => by have := hf34 _ e; have := (hB17.ext he25).lt; omega
  have hf39 : ∀ b, blk v32 = some b → w.heap.size ≤ b := fun b hb => Nat.le_trans e27.size (hf34 b hb)
  have e40 := he25.trans he31
  have e41 := e26.trans he31
  have e42 := e27.trans he31
  refine ⟨he31, ?_⟩
  refine TP_p (v := (.agg (List.toArray [v32, (.int .i64 p_x.Count)]))) rfl rfl (fun w' => (yl_buildC (cells := [v32, (.int .i64 p_x.Count)]) bi26 (pc_cons rfl (cells_one h33.one1) (pc_cons rfl rfl pc_nil)) rfl)) ?_
  refine TP_b rfl rfl (eff_storeC (vs := [v32, (.int .i64 p_x.Count)]) (cs' := [v32, (.int .i64 p_x.Count)]) sz26 rfl rfl rfl rfl (hB17.ext e40) rfl (oc_cons h33.one1 (oc_cons rfl oc_nil)) rfl ?_)
  intro wd44 hc45 hB46
  have h47 := h35.step (Stepp.chg_mem hc45 (memS mem0))
  have h48 := (hB9.ext e41).chg hc45 (avoidb hn18)
  have h49 := h33.step (Stepp.chg_mem hc45 (memS mem0)) hc45 (av_box hn38)
  have e50 := chg_box e42 hc45 hbf19
  refine TP_done ?_
  refine hK23 _ _ ?_
  refine WC_ret ?_
  replace h := some_out h
  subst h
  exact ⟨[(.agg (List.toArray [v32, (.int .i64 p_x.Count)]))], ⟨⟨_, rfl, run_loadVarA (cs := [v32, (.int .i64 p_x.Count)]) ag26 (Box.at hB46)⟩, trivial⟩, e50, [v32, (.int .i64 p_x.Count)], rfl, ⟨v32, (h49.rdL (sub_skip (sub_skip (sub_refl _))) hL hf39), rfl⟩⟩
theorem ref04_CopyReading_own (L : List Value) (w : World) (hL : LtL L w) (cs_p_x : List Value) (p_x : LocateReading) (h_p_x : Rep.rd L w cs_p_x p_x) (r : LocateReading) (h : ref04_CopyReading_spec p_x = some r) :
    CallsTo Tryd.prog 22 [(.agg cs_p_x.toArray)] w (fun v w' => Ext w w' ∧ ∃ (v4 : Value), (.agg (List.toArray [v4, (.int .i64 r.Count)])) = v ∧ (∀ b, blk v4 = some b → w.heap.size ≤ b) ∧ Own 3 (v4 :: L) w' v4 r.Seen) := by
  have e0 : Ext w w := Chg.refl _ _
  obtain ⟨v1, h2, rfl⟩ := h_p_x
  refine callsTo_of_WC (n := 9) (rs := [.cell 2 26]) Tryd.func22 rfl rfl rfl rfl rfl ?_
  refine WC_seqK fun K6 hK6 => ?_
  refine WC_region ?_
  refine T0_e rfl (eff_boxC (cs := [v1, (.int .i64 p_x.Count)]) rfl rfl ?_)
  intro b7 wd8 hb9 he10 hB11
  have hbf12 := bfresh e0 hb9
  have e13 := e0.trans he10
  refine T0_e rfl (eff_allocZ zi26 ?_)
  intro b15 wd16 hb17 he18 hB19
  have hn20 : b15 ≠ b7 := box_ne hB11 hb17
  have hbf21 := bfresh e13 hb17
  have h22 := (h2.ext he10).step (add_box he18 hb17)
  have e23 := e13.trans he18
  refine T0_nil ?_
  refine hK6 _ _ ?_
  refine WC_seqK fun K25 hK25 => ?_
  refine WC_plan mixed (.p 0 (.p 3 (.q 1 (.q 4 (.e 2 (.p 5 (.b 6 .done))))))) (by kernel_rfl) ?_
  intro wd26 he27
  have e28 := he18.trans he27
  have e29 := e23.trans he27
  refine TP_p (v := (.pointer (some ⟨b7, 0, none⟩))) rfl rfl (fun w' => (yl_fa 0 Tryd.underlying26 rfl rfl ⟨0, sz22⟩ rfl rfl)) ?_
  refine TP_p (v := (.pointer (some ⟨b7, 1, none⟩))) rfl rfl (fun w' => (yl_fa 1 Tryd.underlying26 rfl rfl ⟨0, sz3⟩ rfl rfl)) ?_
  refine TP_q (v := v1) rfl rfl (fun w' hS => (yl_load sc22 rfl (Box.at (hB11.ext ((e28).trans hS))))) ?_
  refine TP_q (v := (.int .i64 p_x.Count)) rfl rfl (fun w' hS => (yl_load sc3 rfl (At.drop (Box.at (hB11.ext ((e28).trans hS))) 1))) ?_
  obtain ⟨r30, hr31, h⟩ := bind_elim h
  refine TP_e rfl rfl (eff_call Tryd.func30 nm30 rfl (ev1 rfl) (base_CopyInts_own ((.pointer (some ⟨b15, 0, none⟩)) :: L) _ (ltl_box (hL.chg e29) (hB19.ext he27)) v1 p_x.Seen (h22.ext he27) r30 hr31) ?_)
  rintro _ wd32 ⟨he33, v34, rfl, hf36, h35⟩
  have h37 := (h22.ext he27).step (Stepp.add v34 he33 hf36)
  have hn39 : blk v34 ≠ some b7 := fun e => by have := hf36 _ e; have := (hB11.ext e28).lt; omega
  have hn40 : blk v34 ≠ some b15 := fun e => by have := hf36 _ e; have := (hB19.ext he27).lt; omega
  have hf41 : ∀ b, blk v34 = some b → w.heap.size ≤ b := fun b hb => Nat.le_trans e29.size (hf36 b hb)
  have e42 := he27.trans he33
  have e43 := e28.trans he33
  have e44 := e29.trans he33
  refine ⟨he33, ?_⟩
  refine TP_p (v := (.agg (List.toArray [v34, (.int .i64 p_x.Count)]))) rfl rfl (fun w' => (yl_buildC (cells := [v34, (.int .i64 p_x.Count)]) bi26 (pc_cons rfl (cells_one h35.one1) (pc_cons rfl rfl pc_nil)) rfl)) ?_
  refine TP_b rfl rfl (eff_storeC (vs := [v34, (.int .i64 p_x.Count)]) (cs' := [v34, (.int .i64 p_x.Count)]) sz26 rfl rfl rfl rfl (hB19.ext e42) rfl (oc_cons h35.one1 (oc_cons rfl oc_nil)) rfl ?_)
  intro wd46 hc47 hB48
  have h49 := h37.step (Stepp.chg_mem hc47 (memS mem0))
  have h50 := (hB11.ext e43).chg hc47 (avoidb hn20)
  have h51 := h35.step (Stepp.chg_mem hc47 (memS mem0)) hc47 (av_box hn40)
  have e52 := chg_box e44 hc47 hbf21
  refine TP_done ?_
  refine hK25 _ _ ?_
  refine WC_ret ?_
  replace h := some_out h
  subst h
  exact ⟨[(.agg (List.toArray [v34, (.int .i64 p_x.Count)]))], ⟨⟨_, rfl, run_loadVarA (cs := [v34, (.int .i64 p_x.Count)]) ag26 (Box.at hB48)⟩, trivial⟩, e52, v34, rfl, hf41, (h51.sub (sub_cons mem0 (sub_skip (sub_skip (sub_refl _)))))⟩

noncomputable def ref04_ReadingErr_spec (p_t : LocateTrack) (p_x : LocateReading) : Option Int :=
  (Option.bind (ref04_SeenErr_spec p_t p_x.Seen) fun r28 =>
  (bif (!decide (r28 = 0)) then (
    some r28
  ) else (
    (Option.bind (base_Within_spec p_x.Count 0 (w64 (p_t.Modulus - 1))) fun r40 =>
    (bif (!r40) then (
      some 2
    ) else (
      some 0
    ))
    )
  ))
  )
theorem ref04_ReadingErr_ok (L : List Value) (w : World) (hL : LtL L w) (cs_p_t : List Value) (p_t : LocateTrack) (h_p_t : Rep.rd L w cs_p_t p_t) (cs_p_x : List Value) (p_x : LocateReading) (h_p_x : Rep.rd L w cs_p_x p_x) (r : Int) (h : ref04_ReadingErr_spec p_t p_x = some r) :
    CallsTo Tryd.prog 25 [(.agg cs_p_t.toArray), (.agg cs_p_x.toArray)] w (fun v w' => Ext w w' ∧ (.int .i64 r) = v) := by
  have e0 : Ext w w := Chg.refl _ _
  obtain ⟨v1, h2, rfl⟩ := h_p_t
  obtain ⟨v4, h5, rfl⟩ := h_p_x
  refine callsTo_of_WC (n := 20) (rs := [.tmp 4]) Tryd.func25 rfl rfl rfl rfl rfl ?_
  refine WC_seqK fun K7 hK7 => ?_
  refine WC_region ?_
  refine T0_e rfl (eff_boxC (cs := [v1, (.int .i64 p_t.Window), (.int .i64 p_t.Tooth), (.int .i64 p_t.PerVane), (.int .i64 p_t.First), (.int .i64 p_t.Modulus), (.int .i64 p_t.Slack), (.int .i64 p_t.Errors), (.bool p_t.Round)]) rfl rfl ?_)
  intro b8 wd9 hb10 he11 hB12
  have hbf13 := bfresh e0 hb10
  have e14 := e0.trans he11
  refine T0_e rfl (eff_boxC (cs := [v4, (.int .i64 p_x.Count)]) rfl rfl ?_)
  intro b16 wd17 hb18 he19 hB20
  have hn21 : b16 ≠ b8 := box_ne hB12 hb18
  have hbf22 := bfresh e14 hb18
  have e23 := he11.trans he19
  have e24 := e14.trans he19
  refine T0_q (v := (.int .i64 0)) rfl (yl_assign rfl) ?_
  refine T0_nil ?_
  refine hK7 _ _ ?_
  refine WC_seqK fun K26 hK26 => ?_
  refine WC_seqK fun K27 hK27 => ?_
  refine WC_region ?_
  refine T0_q (v := (.agg (List.toArray [v1, (.int .i64 p_t.Window), (.int .i64 p_t.Tooth), (.int .i64 p_t.PerVane), (.int .i64 p_t.First), (.int .i64 p_t.Modulus), (.int .i64 p_t.Slack), (.int .i64 p_t.Errors), (.bool p_t.Round)]))) rfl (yl_loadA (cs := [v1, (.int .i64 p_t.Window), (.int .i64 p_t.Tooth), (.int .i64 p_t.PerVane), (.int .i64 p_t.First), (.int .i64 p_t.Modulus), (.int .i64 p_t.Slack), (.int .i64 p_t.Errors), (.bool p_t.Round)]) ag24 rfl (Box.at (hB12.ext he19))) ?_
  refine T0_q (v := (.pointer (some ⟨b16, 0, none⟩))) rfl (yl_fa 0 Tryd.underlying26 rfl rfl ⟨0, sz22⟩ rfl rfl) ?_
  refine T0_q (v := v4) rfl (yl_load sc22 rfl (Box.at hB20)) ?_
  obtain ⟨r28, hr29, h⟩ := bind_elim h
  refine T0_e rfl (eff_call Tryd.func40 nm40 rfl (ev2 rfl rfl) (ref04_SeenErr_ok [] _ (LtL.nil _) [v1, (.int .i64 p_t.Window), (.int .i64 p_t.Tooth), (.int .i64 p_t.PerVane), (.int .i64 p_t.First), (.int .i64 p_t.Modulus), (.int .i64 p_t.Slack), (.int .i64 p_t.Errors), (.bool p_t.Round)] p_t ⟨v1, ((h2.ext e23).sub (fun _ h => by cases h)), rfl⟩ v4 p_x.Seen ((h5.ext e23).sub (fun _ h => by cases h)) r28 hr29) ?_)
  rintro _ wd30 ⟨he31, rfl⟩
  have e32 := e23.trans he31
  have e33 := he19.trans he31
  have e34 := e24.trans he31
  refine T0_q (v := (.int .i64 r28)) rfl (yl_assign rfl) ?_
  refine T0_nil ?_
  refine hK27 _ _ ?_
  refine WC_seqK fun K35 hK35 => ?_
  refine WC_region ?_
  refine T0_q (v := (.int .i64 r28)) rfl (yl_move rfl) ?_
  refine T0_q (v := (.bool (!decide (r28 = 0)))) rfl (yl_neq rfl rfl) ?_
  refine T0_nil ?_
  refine hK35 _ _ ?_
  refine WC_cond (b := (!decide (r28 = 0))) rfl (fun hb36 => ?_) (fun hb36 => ?_)
  · replace h := cond_t hb36 h
    refine WC_seqK fun K37 hK37 => ?_
    refine WC_region ?_
    refine T0_q (v := (.int .i64 r28)) rfl (yl_move rfl) ?_
    refine T0_q (v := (.int .i64 r28)) rfl (yl_assign rfl) ?_
    refine T0_nil ?_
    refine hK37 _ _ ?_
    refine WC_ret ?_
    replace h := some_out h
    subst h
    exact ⟨[(.int .i64 r28)], ⟨rfl, trivial⟩, e34, rfl⟩
  · replace h := cond_f hb36 h
    refine WC_skip ?_
    refine hK26 _ _ ?_
    refine WC_seqK fun K38 hK38 => ?_
    refine WC_seqK fun K39 hK39 => ?_
    refine WC_region ?_
    refine T0_q (v := (.pointer (some ⟨b16, 1, none⟩))) rfl (yl_fa 1 Tryd.underlying26 rfl rfl ⟨0, sz3⟩ rfl rfl) ?_
    refine T0_q (v := (.int .i64 p_x.Count)) rfl (yl_load sc3 rfl (At.drop (Box.at (hB20.ext he31)) 1)) ?_
    refine T0_q (v := (.pointer (some ⟨b8, 5, none⟩))) rfl (yl_fa 5 Tryd.underlying24 rfl rfl ⟨0, sz3⟩ rfl rfl) ?_
    refine T0_q (v := (.int .i64 p_t.Modulus)) rfl (yl_load sc3 rfl (At.drop (Box.at (hB12.ext e33)) 5)) ?_
    refine T0_q (v := (.int .i64 (w64 (p_t.Modulus - 1)))) rfl (yl_sub rfl rfl) ?_
    obtain ⟨r40, hr41, h⟩ := bind_elim h
    refine T0_e rfl (eff_call Tryd.func35 nm35 rfl (ev3 rfl rfl rfl) (base_Within_ok [] _ (LtL.nil _) p_x.Count 0 (w64 (p_t.Modulus - 1)) r40 hr41) ?_)
    rintro _ wd42 ⟨he43, rfl⟩
    have e44 := e32.trans he43
    have e45 := he31.trans he43
    have e46 := e33.trans he43
    have e47 := e34.trans he43
    refine T0_q (v := (.bool (!r40))) rfl (yl_not rfl) ?_
    refine T0_nil ?_
    refine hK39 _ _ ?_
    refine WC_cond (b := (!r40)) rfl (fun hb48 => ?_) (fun hb48 => ?_)
    · replace h := cond_t hb48 h
      refine WC_seqK fun K49 hK49 => ?_
      refine WC_region ?_
      refine T0_q (v := (.int .i64 2)) rfl (yl_assign rfl) ?_
      refine T0_nil ?_
      refine hK49 _ _ ?_
      refine WC_ret ?_
      replace h := some_out h
      subst h
      exact ⟨[(.int .i64 2)], ⟨rfl, trivial⟩, e47, rfl⟩
    · replace h := cond_f hb48 h
      refine WC_skip ?_
      refine hK38 _ _ ?_
      refine WC_seqK fun K50 hK50 => ?_
      refine WC_region ?_
      refine T0_q (v := (.int .i64 0)) rfl (yl_assign rfl) ?_
      refine T0_nil ?_
      refine hK50 _ _ ?_
      refine WC_ret ?_
      replace h := some_out h
      subst h
      exact ⟨[(.int .i64 0)], ⟨rfl, trivial⟩, e47, rfl⟩

noncomputable def law04_LocateMore_s0 (r403 : ((List Int) × Int)) (r504 : ((List Int) × Int)) : (Int) → Option ((Int) ⊕ (Bool ⊕ (Unit))) := fun x734 =>
  (bif (decide (x734 < (r403.1.length : Int))) then (
    (Option.bind (idx r403.1 x734) fun el755 =>
    (Option.bind (base_Has_spec r504.1 el755) fun r761 =>
    (bif (!r761) then (
      some (.inr (.inl false))
    ) else (
      some (.inl (w64 (x734 + 1)))
    ))
    )
    )
  ) else (
    some (.inr (.inr ()))
  ))
noncomputable def law04_LocateMore_s1 (r600 : ((List Range) × Int)) (r615 : ((List Range) × Int)) (x1330 : Int) : (Bool × Int) → Option ((Bool × Int) ⊕ (Bool)) := fun (x1468, x1470) =>
  (bif (decide (x1470 < (r615.1.length : Int))) then (
    (Option.bind ((bif (!x1468) then idx r615.1 x1470 else some default)) fun el1496 =>
    (Option.bind ((bif (!x1468) then idx r600.1 x1330 else some default)) fun el1501 =>
    (Option.bind ((bif ((!x1468) && (decide (el1496.Lo ≤ el1501.Lo))) then idx r600.1 x1330 else some default)) fun el1506 =>
    (Option.bind ((bif ((!x1468) && (decide (el1496.Lo ≤ el1501.Lo))) then idx r615.1 x1470 else some default)) fun el1511 =>
    some (.inl ((x1468 || ((decide (el1496.Lo ≤ el1501.Lo)) && (decide (el1506.Hi ≤ el1511.Hi)))), w64 (x1470 + 1)))
    )
    )
    )
    )
  ) else (
    some (.inr x1468)
  ))
noncomputable def law04_LocateMore_s2 (r600 : ((List Range) × Int)) (r615 : ((List Range) × Int)) : (Int) → Option ((Int) ⊕ (Bool ⊕ (Unit))) := fun x1330 =>
  (bif (decide (x1330 < (r600.1.length : Int))) then (
    (Option.bind (loop (law04_LocateMore_s1 r600 r615 x1330) (false, 0)) fun (x1479 : Bool) =>
    (bif (!x1479) then (
      some (.inr (.inl false))
    ) else (
      some (.inl (w64 (x1330 + 1)))
    ))
    )
  ) else (
    some (.inr (.inr ()))
  ))
noncomputable def law04_LocateMore_spec (p_Listappend : LocateTrack) (p_String : LocateReading) (p_ListappendStringtxntxnmorelessaebfugvhiifoundk : Arr3_Int) : Option Bool :=
  (Option.bind (law04_awake_spec) fun r40 =>
  (bif (!r40) then (
    some false
  ) else (
    (Option.bind (law04_Short_spec p_Listappend) fun r52 =>
    (Option.bind (bif (!((!r52) || (decide (14 < (p_String.Seen.length : Int))))) then ref04_TrackErr_spec p_Listappend else some default) fun r61 =>
    (Option.bind (bif (!(((!r52) || (decide (14 < (p_String.Seen.length : Int)))) || (!decide (r61 = 0)))) then ref04_ReadingErr_spec p_Listappend p_String else some default) fun r70 =>
    (bif ((((!r52) || (decide (14 < (p_String.Seen.length : Int)))) || (!decide (r61 = 0))) || (!decide (r70 = 0))) then (
      some true
    ) else (
      (Option.bind (ref04_Copy_spec p_Listappend) fun r82 =>
      (Option.bind (α := (Int × Int)) (
        some ((if p_Listappend.Slack < (if p_ListappendStringtxntxnmorelessaebfugvhiifoundk.e1 < p_Listappend.Modulus then p_ListappendStringtxntxnmorelessaebfugvhiifoundk.e1 else p_Listappend.Modulus) then (if p_ListappendStringtxntxnmorelessaebfugvhiifoundk.e1 < p_Listappend.Modulus then p_ListappendStringtxntxnmorelessaebfugvhiifoundk.e1 else p_Listappend.Modulus) else p_Listappend.Slack), (if p_Listappend.Errors < (if p_ListappendStringtxntxnmorelessaebfugvhiifoundk.e0 < p_Listappend.Window then p_ListappendStringtxntxnmorelessaebfugvhiifoundk.e0 else p_Listappend.Window) then (if p_ListappendStringtxntxnmorelessaebfugvhiifoundk.e0 < p_Listappend.Window then p_ListappendStringtxntxnmorelessaebfugvhiifoundk.e0 else p_Listappend.Window) else p_Listappend.Errors))
      ) fun ((x185, x186) : Int × Int) =>
      (Option.bind (ref04_CopyReading_spec p_String) fun r240 =>
      (Option.bind (base_Mod_spec p_ListappendStringtxntxnmorelessaebfugvhiifoundk.e2 p_Listappend.Window) fun r319 =>
      (Option.bind (idx r240.Seen r319) fun el325 =>
      (Option.bind (ref04_Copy_spec p_Listappend) fun r382 =>
      (Option.bind (base_CopyInts_spec p_String.Seen) fun r393 =>
      (Option.bind (locate_Near_spec r382 r393) fun r403 =>
      (Option.bind (ref04_Copy_spec (LocateTrack.mk r82.Vanes r82.Window r82.Tooth r82.PerVane r82.First r82.Modulus x185 x186 r82.Round)) fun r471 =>
      (Option.bind (base_CopyInts_spec (r240.Seen.set (r319 : Int).toNat 2)) fun r494 =>
      (Option.bind (locate_Near_spec r471 r494) fun r504 =>
      (Option.bind (ref04_Copy_spec p_Listappend) fun r571 =>
      (Option.bind (ref04_CopyReading_spec p_String) fun r585 =>
      (Option.bind (locate_Possible_spec r571 r585) fun r600 =>
      (Option.bind (locate_Possible_spec (LocateTrack.mk r82.Vanes r82.Window r82.Tooth r82.PerVane r82.First r82.Modulus x185 x186 r82.Round) (LocateReading.mk (r240.Seen.set (r319 : Int).toNat 2) r240.Count)) fun r615 =>
      (bif ((((!decide (r403.2 = 0)) || (!decide (r504.2 = 0))) || (!decide (r600.2 = 0))) || (!decide (r615.2 = 0))) then (
        some false
      ) else (
        (Option.bind (loop (law04_LocateMore_s0 r403 r504) 0) fun o742 => jn0 o742 fun (_ : Unit) =>
        (Option.bind (loop (law04_LocateMore_s2 r600 r615) 0) fun o1334 => jn0 o1334 fun (_ : Unit) =>
        some true
        )
        )
      ))
      )
      )
      )
      )
      )
      )
      )
      )
      )
      )
      )
      )
      )
      )
      )
    ))
    )
    )
    )
  ))
  )
theorem law04_LocateMore_ok (L : List Value) (w : World) (hL : LtL L w) (hg0 : At w ⟨0, 0, none⟩ [.int .i64 0, .int .i64 1, .int .i64 3, .int .i64 2]) (cs_p_Listappend : List Value) (p_Listappend : LocateTrack) (h_p_Listappend : Rep.rd L w cs_p_Listappend p_Listappend) (cs_p_String : List Value) (p_String : LocateReading) (h_p_String : Rep.rd L w cs_p_String p_String) (cs_p_ListappendStringtxntxnmorelessaebfugvhiifoundk : List Value) (p_ListappendStringtxntxnmorelessaebfugvhiifoundk : Arr3_Int) (h_p_ListappendStringtxntxnmorelessaebfugvhiifoundk : Rep.rd L w cs_p_ListappendStringtxntxnmorelessaebfugvhiifoundk p_ListappendStringtxntxnmorelessaebfugvhiifoundk) (r : Bool) (h : law04_LocateMore_spec p_Listappend p_String p_ListappendStringtxntxnmorelessaebfugvhiifoundk = some r) :
    CallsTo Tryd.prog 4 [(.agg cs_p_Listappend.toArray), (.agg cs_p_String.toArray), (.agg cs_p_ListappendStringtxntxnmorelessaebfugvhiifoundk.toArray)] w (fun v w' => Ext w w' ∧ (.bool r) = v) := by
  have e0 : Ext w w := Chg.refl _ _
  obtain ⟨v1, h2, rfl⟩ := h_p_Listappend
  obtain ⟨v4, h5, rfl⟩ := h_p_String
  have h_p_ListappendStringtxntxnmorelessaebfugvhiifoundk : cs_p_ListappendStringtxntxnmorelessaebfugvhiifoundk = [(.int .i64 p_ListappendStringtxntxnmorelessaebfugvhiifoundk.e0), (.int .i64 p_ListappendStringtxntxnmorelessaebfugvhiifoundk.e1), (.int .i64 p_ListappendStringtxntxnmorelessaebfugvhiifoundk.e2)] := h_p_ListappendStringtxntxnmorelessaebfugvhiifoundk
  subst h_p_ListappendStringtxntxnmorelessaebfugvhiifoundk
  refine callsTo_of_WC (n := 173) (rs := [.tmp 6]) Tryd.func4 rfl rfl rfl rfl rfl ?_
  refine WC_seqK fun K7 hK7 => ?_
  refine WC_region ?_
  refine T0_e rfl (eff_boxC (cs := [v1, (.int .i64 p_Listappend.Window), (.int .i64 p_Listappend.Tooth), (.int .i64 p_Listappend.PerVane), (.int .i64 p_Listappend.First), (.int .i64 p_Listappend.Modulus), (.int .i64 p_Listappend.Slack), (.int .i64 p_Listappend.Errors), (.bool p_Listappend.Round)]) rfl rfl ?_)
  intro b8 wd9 hb10 he11 hB12
  have hbf13 := bfresh e0 hb10
  have e14 := e0.trans he11
  refine T0_e rfl (eff_boxC (cs := [v4, (.int .i64 p_String.Count)]) rfl rfl ?_)
  intro b16 wd17 hb18 he19 hB20
  have hn21 : b16 ≠ b8 := box_ne hB12 hb18
  have hbf22 := bfresh e14 hb18
  have e23 := he11.trans he19
  have e24 := e14.trans he19
  refine T0_e rfl (eff_boxC (cs := [(.int .i64 p_ListappendStringtxntxnmorelessaebfugvhiifoundk.e0), (.int .i64 p_ListappendStringtxntxnmorelessaebfugvhiifoundk.e1), (.int .i64 p_ListappendStringtxntxnmorelessaebfugvhiifoundk.e2)]) rfl rfl ?_)
  intro b26 wd27 hb28 he29 hB30
  have hn31 : b26 ≠ b8 := box_ne (hB12.ext he19) hb28
  have hn32 : b26 ≠ b16 := box_ne hB20 hb28
  have hbf33 := bfresh e24 hb28
  have e34 := e23.trans he29
  have e35 := he19.trans he29
  have e36 := e24.trans he29
  refine T0_q (v := (.bool false)) rfl (yl_assign rfl) ?_
  refine T0_nil ?_
  refine hK7 _ _ ?_
  refine WC_seqK fun K38 hK38 => ?_
  refine WC_seqK fun K39 hK39 => ?_
  refine WC_region ?_
  obtain ⟨r40, hr41, h⟩ := bind_elim h
  refine T0_e rfl (eff_call Tryd.func18 nm18 rfl ev0 (law04_awake_ok [] _ (LtL.nil _) (hg0.ext e36)  r40 hr41) ?_)
  rintro _ wd42 ⟨he43, rfl⟩
  have e44 := e34.trans he43
  have e45 := he29.trans he43
  have e46 := e35.trans he43
  have e47 := e36.trans he43
  refine T0_q (v := (.bool (!r40))) rfl (yl_not rfl) ?_
  refine T0_nil ?_
  refine hK39 _ _ ?_
  refine WC_cond (b := (!r40)) rfl (fun hb48 => ?_) (fun hb48 => ?_)
  · replace h := cond_t hb48 h
    refine WC_seqK fun K49 hK49 => ?_
    refine WC_region ?_
    refine T0_q (v := (.bool false)) rfl (yl_assign rfl) ?_
    refine T0_nil ?_
    refine hK49 _ _ ?_
    refine WC_ret ?_
    replace h := some_out h
    subst h
    exact ⟨[(.bool false)], ⟨rfl, trivial⟩, e47, rfl⟩
  · replace h := cond_f hb48 h
    refine WC_skip ?_
    refine hK38 _ _ ?_
    refine WC_seqK fun K50 hK50 => ?_
    refine WC_seqK fun K51 hK51 => ?_
    refine WC_region ?_
    refine T0_q (v := (.agg (List.toArray [v1, (.int .i64 p_Listappend.Window), (.int .i64 p_Listappend.Tooth), (.int .i64 p_Listappend.PerVane), (.int .i64 p_Listappend.First), (.int .i64 p_Listappend.Modulus), (.int .i64 p_Listappend.Slack), (.int .i64 p_Listappend.Errors), (.bool p_Listappend.Round)]))) rfl (yl_loadA (cs := [v1, (.int .i64 p_Listappend.Window), (.int .i64 p_Listappend.Tooth), (.int .i64 p_Listappend.PerVane), (.int .i64 p_Listappend.First), (.int .i64 p_Listappend.Modulus), (.int .i64 p_Listappend.Slack), (.int .i64 p_Listappend.Errors), (.bool p_Listappend.Round)]) ag24 rfl (Box.at (hB12.ext e46))) ?_
    obtain ⟨r52, hr53, h⟩ := bind_elim h
    refine T0_e rfl (eff_call Tryd.func19 nm19 rfl (ev1 rfl) (law04_Short_ok [] _ (LtL.nil _) [v1, (.int .i64 p_Listappend.Window), (.int .i64 p_Listappend.Tooth), (.int .i64 p_Listappend.PerVane), (.int .i64 p_Listappend.First), (.int .i64 p_Listappend.Modulus), (.int .i64 p_Listappend.Slack), (.int .i64 p_Listappend.Errors), (.bool p_Listappend.Round)] p_Listappend ⟨v1, ((h2.ext e44).sub (fun _ h => by cases h)), rfl⟩ r52 hr53) ?_)
    rintro _ wd54 ⟨he55, rfl⟩
    have e56 := e44.trans he55
    have e57 := e45.trans he55
    have e58 := he43.trans he55
    have e59 := e46.trans he55
    have e60 := e47.trans he55
    refine T0_q (v := (.bool (!r52))) rfl (yl_not rfl) ?_
    refine T0_q (v := (.bool (!r52))) rfl (yl_move rfl) ?_
    refine T0_g (v := (.pointer (some ⟨b16, 0, none⟩))) (!(!r52)) (wanted_f rfl rfl rfl rfl) (fun hg => (yl_fa 0 Tryd.underlying26 rfl rfl ⟨0, sz22⟩ rfl rfl)) ?_
    refine T0_g (v := v4) (!(!r52)) (wanted_f rfl rfl rfl rfl) (fun hg => (yl_load sc22 (gd_true hg) (Box.at (hB20.ext e57)))) ?_
    refine T0_g (v := (.int .i64 (p_String.Seen.length : Int))) (!(!r52)) (wanted_f rfl rfl rfl rfl) (fun hg => (yl_lenR rfl Tryd.underlying22 h5 (gd_true hg))) ?_
    refine T0_g (v := (.bool (decide (14 < (p_String.Seen.length : Int))))) (!(!r52)) (wanted_f rfl rfl rfl rfl) (fun hg => (yl_gtr (gd_true hg) rfl)) ?_
    refine T0_q (v := (.bool ((!r52) || (decide (14 < (p_String.Seen.length : Int)))))) rfl (yl_or rfl rfl (fun hb => (gd_true (not_t hb)))) ?_
    refine T0_q (v := (.bool ((!r52) || (decide (14 < (p_String.Seen.length : Int)))))) rfl (yl_move rfl) ?_
    refine T0_g (v := (.agg (List.toArray [v1, (.int .i64 p_Listappend.Window), (.int .i64 p_Listappend.Tooth), (.int .i64 p_Listappend.PerVane), (.int .i64 p_Listappend.First), (.int .i64 p_Listappend.Modulus), (.int .i64 p_Listappend.Slack), (.int .i64 p_Listappend.Errors), (.bool p_Listappend.Round)]))) (!((!r52) || (decide (14 < (p_String.Seen.length : Int))))) (wanted_f rfl rfl rfl rfl) (fun hg => (yl_loadA (cs := [v1, (.int .i64 p_Listappend.Window), (.int .i64 p_Listappend.Tooth), (.int .i64 p_Listappend.PerVane), (.int .i64 p_Listappend.First), (.int .i64 p_Listappend.Modulus), (.int .i64 p_Listappend.Slack), (.int .i64 p_Listappend.Errors), (.bool p_Listappend.Round)]) ag24 rfl (Box.at (hB12.ext e59)))) ?_
    obtain ⟨r61, hr62, h⟩ := bind_elim h
    refine T0_ges (!((!r52) || (decide (14 < (p_String.Seen.length : Int))))) (.int .i64 r61) (wanted_f rfl rfl rfl rfl) (fun hg => eff_call Tryd.func24 nm24 rfl (ev1 (gd_true hg)) (ref04_TrackErr_ok [] _ (LtL.nil _) [v1, (.int .i64 p_Listappend.Window), (.int .i64 p_Listappend.Tooth), (.int .i64 p_Listappend.PerVane), (.int .i64 p_Listappend.First), (.int .i64 p_Listappend.Modulus), (.int .i64 p_Listappend.Slack), (.int .i64 p_Listappend.Errors), (.bool p_Listappend.Round)] p_Listappend ⟨v1, ((h2.ext e56).sub (fun _ h => by cases h)), rfl⟩ r61 (cond_t hg hr62)) (by rintro _ wd63 ⟨he64, rfl⟩; exact ⟨rfl, he64⟩)) ?_
    intro wd63 he64
    have e65 := e56.trans he64
    have e66 := e57.trans he64
    have e67 := e58.trans he64
    have e68 := e59.trans he64
    have e69 := e60.trans he64
    refine T0_g (v := (.bool (!decide (r61 = 0)))) (!((!r52) || (decide (14 < (p_String.Seen.length : Int))))) (wanted_f rfl rfl rfl rfl) (fun hg => (yl_neq (gd_true hg) rfl)) ?_
    refine T0_q (v := (.bool (((!r52) || (decide (14 < (p_String.Seen.length : Int)))) || (!decide (r61 = 0))))) rfl (yl_or rfl rfl (fun hb => (gd_true (not_t hb)))) ?_
    refine T0_q (v := (.bool (((!r52) || (decide (14 < (p_String.Seen.length : Int)))) || (!decide (r61 = 0))))) rfl (yl_move rfl) ?_
    refine T0_g (v := (.agg (List.toArray [v1, (.int .i64 p_Listappend.Window), (.int .i64 p_Listappend.Tooth), (.int .i64 p_Listappend.PerVane), (.int .i64 p_Listappend.First), (.int .i64 p_Listappend.Modulus), (.int .i64 p_Listappend.Slack), (.int .i64 p_Listappend.Errors), (.bool p_Listappend.Round)]))) (!(((!r52) || (decide (14 < (p_String.Seen.length : Int)))) || (!decide (r61 = 0)))) (wanted_f rfl rfl rfl rfl) (fun hg => (yl_loadA (cs := [v1, (.int .i64 p_Listappend.Window), (.int .i64 p_Listappend.Tooth), (.int .i64 p_Listappend.PerVane), (.int .i64 p_Listappend.First), (.int .i64 p_Listappend.Modulus), (.int .i64 p_Listappend.Slack), (.int .i64 p_Listappend.Errors), (.bool p_Listappend.Round)]) ag24 rfl (Box.at (hB12.ext e68)))) ?_
    refine T0_g (v := (.agg (List.toArray [v4, (.int .i64 p_String.Count)]))) (!(((!r52) || (decide (14 < (p_String.Seen.length : Int)))) || (!decide (r61 = 0)))) (wanted_f rfl rfl rfl rfl) (fun hg => (yl_loadA (cs := [v4, (.int .i64 p_String.Count)]) ag26 rfl (Box.at (hB20.ext e66)))) ?_
    obtain ⟨r70, hr71, h⟩ := bind_elim h
    refine T0_ges (!(((!r52) || (decide (14 < (p_String.Seen.length : Int)))) || (!decide (r61 = 0)))) (.int .i64 r70) (wanted_f rfl rfl rfl rfl) (fun hg => eff_call Tryd.func25 nm25 rfl (ev2 (gd_true hg) (gd_true hg)) (ref04_ReadingErr_ok [] _ (LtL.nil _) [v1, (.int .i64 p_Listappend.Window), (.int .i64 p_Listappend.Tooth), (.int .i64 p_Listappend.PerVane), (.int .i64 p_Listappend.First), (.int .i64 p_Listappend.Modulus), (.int .i64 p_Listappend.Slack), (.int .i64 p_Listappend.Errors), (.bool p_Listappend.Round)] p_Listappend ⟨v1, ((h2.ext e65).sub (fun _ h => by cases h)), rfl⟩ [v4, (.int .i64 p_String.Count)] p_String ⟨v4, ((h5.ext e65).sub (fun _ h => by cases h)), rfl⟩ r70 (cond_t hg hr71)) (by rintro _ wd72 ⟨he73, rfl⟩; exact ⟨rfl, he73⟩)) ?_
    intro wd72 he73
    have e74 := e65.trans he73
    have e75 := e66.trans he73
    have e76 := e67.trans he73
    have e77 := e68.trans he73
    have e78 := e69.trans he73
    refine T0_g (v := (.bool (!decide (r70 = 0)))) (!(((!r52) || (decide (14 < (p_String.Seen.length : Int)))) || (!decide (r61 = 0)))) (wanted_f rfl rfl rfl rfl) (fun hg => (yl_neq (gd_true hg) rfl)) ?_
    refine T0_q (v := (.bool ((((!r52) || (decide (14 < (p_String.Seen.length : Int)))) || (!decide (r61 = 0))) || (!decide (r70 = 0))))) rfl (yl_or rfl rfl (fun hb => (gd_true (not_t hb)))) ?_
    refine T0_nil ?_
    refine hK51 _ _ ?_
    refine WC_cond (b := ((((!r52) || (decide (14 < (p_String.Seen.length : Int)))) || (!decide (r61 = 0))) || (!decide (r70 = 0)))) rfl (fun hb79 => ?_) (fun hb79 => ?_)
    · replace h := cond_t hb79 h
      refine WC_seqK fun K80 hK80 => ?_
      refine WC_region ?_
      refine T0_q (v := (.bool true)) rfl (yl_assign rfl) ?_
      refine T0_nil ?_
      refine hK80 _ _ ?_
      refine WC_ret ?_
      replace h := some_out h
      subst h
      exact ⟨[(.bool true)], ⟨rfl, trivial⟩, e78, rfl⟩
    · replace h := cond_f hb79 h
      refine WC_skip ?_
      refine hK50 _ _ ?_
      refine WC_seqK fun K81 hK81 => ?_
      refine WC_region ?_
      refine T0_q (v := (.agg (List.toArray [v1, (.int .i64 p_Listappend.Window), (.int .i64 p_Listappend.Tooth), (.int .i64 p_Listappend.PerVane), (.int .i64 p_Listappend.First), (.int .i64 p_Listappend.Modulus), (.int .i64 p_Listappend.Slack), (.int .i64 p_Listappend.Errors), (.bool p_Listappend.Round)]))) rfl (yl_loadA (cs := [v1, (.int .i64 p_Listappend.Window), (.int .i64 p_Listappend.Tooth), (.int .i64 p_Listappend.PerVane), (.int .i64 p_Listappend.First), (.int .i64 p_Listappend.Modulus), (.int .i64 p_Listappend.Slack), (.int .i64 p_Listappend.Errors), (.bool p_Listappend.Round)]) ag24 rfl (Box.at (hB12.ext e77))) ?_
      obtain ⟨r82, hr83, h⟩ := bind_elim h
      refine T0_e rfl (eff_call Tryd.func21 nm21 rfl (ev1 rfl) (ref04_Copy_ok L _ (hL.chg e78) [v1, (.int .i64 p_Listappend.Window), (.int .i64 p_Listappend.Tooth), (.int .i64 p_Listappend.PerVane), (.int .i64 p_Listappend.First), (.int .i64 p_Listappend.Modulus), (.int .i64 p_Listappend.Slack), (.int .i64 p_Listappend.Errors), (.bool p_Listappend.Round)] p_Listappend ⟨v1, (h2.ext e74), rfl⟩ r82 hr83) ?_)
      rintro _ wd84 ⟨he85, cs88, rfl, hrd89⟩
      have e90 := e74.trans he85
      have e91 := e75.trans he85
      have e92 := e76.trans he85
      have e93 := e77.trans he85
      have e94 := e78.trans he85
      obtain ⟨v86, h87, rfl⟩ := hrd89
      refine T0_e rfl (eff_allocZ zi24 ?_)
      intro b96 wd97 hb98 he99 hB100
      have hn101 : b96 ≠ b8 := box_ne (hB12.ext e93) hb98
      have hn102 : b96 ≠ b16 := box_ne (hB20.ext e91) hb98
      have hn103 : b96 ≠ b26 := box_ne (hB30.ext e92) hb98
      have hbf104 := bfresh e94 hb98
      have h105 := (h2.ext e90).step (add_box he99 hb98)
      have h106 := (h5.ext e90).step (add_box he99 hb98)
      have h107 := h87.step (add_box he99 hb98)
      have e108 := e91.trans he99
      have e109 := e92.trans he99
      have e110 := e93.trans he99
      have e111 := e94.trans he99
      refine T0_e rfl (eff_storeC (vs := [v86, (.int .i64 r82.Window), (.int .i64 r82.Tooth), (.int .i64 r82.PerVane), (.int .i64 r82.First), (.int .i64 r82.Modulus), (.int .i64 r82.Slack), (.int .i64 r82.Errors), (.bool r82.Round)]) (cs' := [v86, (.int .i64 r82.Window), (.int .i64 r82.Tooth), (.int .i64 r82.PerVane), (.int .i64 r82.First), (.int .i64 r82.Modulus), (.int .i64 r82.Slack), (.int .i64 r82.Errors), (.bool r82.Round)]) sz24 rfl rfl rfl rfl hB100 rfl (oc_cons h107.one1 (oc_cons rfl (oc_cons rfl (oc_cons rfl (oc_cons rfl (oc_cons rfl (oc_cons rfl (oc_cons rfl (oc_cons rfl oc_nil))))))))) rfl ?_)
      intro wd113 hc114 hB115
      have h116 := h105.step (Stepp.chg_mem hc114 mem0)
      have h117 := h106.step (Stepp.chg_mem hc114 mem0)
      have h118 := (hB12.ext e110).chg hc114 (avoidb hn101)
      have h119 := (hB20.ext e108).chg hc114 (avoidb hn102)
      have h120 := (hB30.ext e109).chg hc114 (avoidb hn103)
      have h121 := h107.step (Stepp.chg_mem hc114 mem0)
      have e122 := chg_box e111 hc114 hbf104
      refine T0_nil ?_
      refine hK81 _ _ ?_
      refine WC_seqK fun K123 hK123 => ?_
      obtain ⟨o189, ho190, hn191⟩ := bind_elim h
      refine WC_post (fun (ρ : Env) (wd170 : World) => ∃ (x185 : Int) (x186 : Int), (x185, x186) = o189 ∧ ρ 3 = (.pointer (some ⟨b8, 0, none⟩)) ∧ ρ 4 = (.pointer (some ⟨b16, 0, none⟩)) ∧ ρ 5 = (.pointer (some ⟨b26, 0, none⟩)) ∧ ρ 7 = (.pointer (some ⟨b96, 0, none⟩)) ∧ SlRd ((.pointer (some ⟨b96, 0, none⟩)) :: L) wd170 v4 p_String.Seen ∧ SlRd ((.pointer (some ⟨b96, 0, none⟩)) :: L) wd170 v1 p_Listappend.Vanes ∧ SlRd ((.pointer (some ⟨b96, 0, none⟩)) :: L) wd170 v86 r82.Vanes ∧ Box wd170 b16 [v4, (.int .i64 p_String.Count)] 26 ∧ Box wd170 b26 [(.int .i64 p_ListappendStringtxntxnmorelessaebfugvhiifoundk.e0), (.int .i64 p_ListappendStringtxntxnmorelessaebfugvhiifoundk.e1), (.int .i64 p_ListappendStringtxntxnmorelessaebfugvhiifoundk.e2)] 44 ∧ Box wd170 b8 [v1, (.int .i64 p_Listappend.Window), (.int .i64 p_Listappend.Tooth), (.int .i64 p_Listappend.PerVane), (.int .i64 p_Listappend.First), (.int .i64 p_Listappend.Modulus), (.int .i64 p_Listappend.Slack), (.int .i64 p_Listappend.Errors), (.bool p_Listappend.Round)] 24 ∧ Box wd170 b96 [v86, (.int .i64 r82.Window), (.int .i64 r82.Tooth), (.int .i64 r82.PerVane), (.int .i64 r82.First), (.int .i64 r82.Modulus), (.int .i64 x185), (.int .i64 x186), (.bool r82.Round)] 24 ∧ Ext w wd170) ?_ ?_
      · intro K192 hK192
        replace h := ho190
        clear ho190
        refine WC_planH (H := [.pointer (some ⟨b96, 0, none⟩)]) mixed (.p 0 (.p 2 (.p 4 (.p 8 (.p 10 (.p 12 (.q 1 (.q 3 (.q 5 (.p 6 (.p 7 (.p 16 (.q 9 (.q 11 (.q 13 (.p 14 (.p 15 (.e 17 (.p 18 (.e 19 .done)))))))))))))))))))) (by kernel_rfl) ?_
        intro wd216 he217
        have e218 := e122.trans he217
        refine TP_p (v := (.pointer (some ⟨b8, 7, none⟩))) rfl rfl (fun w' => (yl_fa 7 Tryd.underlying24 rfl rfl ⟨0, sz3⟩ rfl rfl)) ?_
        refine TP_p (v := (.pointer (some ⟨b8, 1, none⟩))) rfl rfl (fun w' => (yl_fa 1 Tryd.underlying24 rfl rfl ⟨0, sz3⟩ rfl rfl)) ?_
        refine TP_p (v := (.pointer (some ⟨b26, 0, none⟩))) rfl rfl (fun w' => (yl_ixC (i := 0) Tryd.underlying44 sz3 (by decide) (by decide) rfl rfl rfl)) ?_
        refine TP_p (v := (.pointer (some ⟨b8, 6, none⟩))) rfl rfl (fun w' => (yl_fa 6 Tryd.underlying24 rfl rfl ⟨0, sz3⟩ rfl rfl)) ?_
        refine TP_p (v := (.pointer (some ⟨b8, 5, none⟩))) rfl rfl (fun w' => (yl_fa 5 Tryd.underlying24 rfl rfl ⟨0, sz3⟩ rfl rfl)) ?_
        refine TP_p (v := (.pointer (some ⟨b26, 1, none⟩))) rfl rfl (fun w' => (yl_ixC (i := 1) Tryd.underlying44 sz3 (by decide) (by decide) rfl rfl rfl)) ?_
        refine TP_q (v := (.int .i64 p_Listappend.Errors)) rfl rfl (fun w' hS => (yl_load sc3 rfl (At.drop (Box.at ((h118.ext he217).chg hS (avoidb hn101))) 7))) ?_
        refine TP_q (v := (.int .i64 p_Listappend.Window)) rfl rfl (fun w' hS => (yl_load sc3 rfl (At.drop (Box.at ((h118.ext he217).chg hS (avoidb hn101))) 1))) ?_
        refine TP_q (v := (.int .i64 p_ListappendStringtxntxnmorelessaebfugvhiifoundk.e0)) rfl rfl (fun w' hS => (yl_load sc3 rfl (Box.at ((h120.ext he217).chg hS (avoidb hn103))))) ?_
        refine TP_p (v := (.int .i64 (if p_ListappendStringtxntxnmorelessaebfugvhiifoundk.e0 < p_Listappend.Window then p_ListappendStringtxntxnmorelessaebfugvhiifoundk.e0 else p_Listappend.Window))) rfl rfl (fun w' => (yl_min rfl rfl)) ?_
        refine TP_p (v := (.int .i64 (if p_Listappend.Errors < (if p_ListappendStringtxntxnmorelessaebfugvhiifoundk.e0 < p_Listappend.Window then p_ListappendStringtxntxnmorelessaebfugvhiifoundk.e0 else p_Listappend.Window) then (if p_ListappendStringtxntxnmorelessaebfugvhiifoundk.e0 < p_Listappend.Window then p_ListappendStringtxntxnmorelessaebfugvhiifoundk.e0 else p_Listappend.Window) else p_Listappend.Errors))) rfl rfl (fun w' => (yl_max rfl rfl)) ?_
        refine TP_p (v := (.pointer (some ⟨b96, 7, none⟩))) rfl rfl (fun w' => (yl_fa 7 Tryd.underlying24 rfl rfl ⟨0, sz3⟩ rfl rfl)) ?_
        refine TP_q (v := (.int .i64 p_Listappend.Slack)) rfl rfl (fun w' hS => (yl_load sc3 rfl (At.drop (Box.at ((h118.ext he217).chg hS (avoidb hn101))) 6))) ?_
        refine TP_q (v := (.int .i64 p_Listappend.Modulus)) rfl rfl (fun w' hS => (yl_load sc3 rfl (At.drop (Box.at ((h118.ext he217).chg hS (avoidb hn101))) 5))) ?_
        refine TP_q (v := (.int .i64 p_ListappendStringtxntxnmorelessaebfugvhiifoundk.e1)) rfl rfl (fun w' hS => (yl_load sc3 rfl (At.drop (Box.at ((h120.ext he217).chg hS (avoidb hn103))) 1))) ?_
        refine TP_p (v := (.int .i64 (if p_ListappendStringtxntxnmorelessaebfugvhiifoundk.e1 < p_Listappend.Modulus then p_ListappendStringtxntxnmorelessaebfugvhiifoundk.e1 else p_Listappend.Modulus))) rfl rfl (fun w' => (yl_min rfl rfl)) ?_
        refine TP_p (v := (.int .i64 (if p_Listappend.Slack < (if p_ListappendStringtxntxnmorelessaebfugvhiifoundk.e1 < p_Listappend.Modulus then p_ListappendStringtxntxnmorelessaebfugvhiifoundk.e1 else p_Listappend.Modulus) then (if p_ListappendStringtxntxnmorelessaebfugvhiifoundk.e1 < p_Listappend.Modulus then p_ListappendStringtxntxnmorelessaebfugvhiifoundk.e1 else p_Listappend.Modulus) else p_Listappend.Slack))) rfl rfl (fun w' => (yl_max rfl rfl)) ?_
        refine TP_e rfl rfl (eff_storeC (vs := [(.int .i64 (if p_Listappend.Errors < (if p_ListappendStringtxntxnmorelessaebfugvhiifoundk.e0 < p_Listappend.Window then p_ListappendStringtxntxnmorelessaebfugvhiifoundk.e0 else p_Listappend.Window) then (if p_ListappendStringtxntxnmorelessaebfugvhiifoundk.e0 < p_Listappend.Window then p_ListappendStringtxntxnmorelessaebfugvhiifoundk.e0 else p_Listappend.Window) else p_Listappend.Errors))]) (cs' := [v86, (.int .i64 r82.Window), (.int .i64 r82.Tooth), (.int .i64 r82.PerVane), (.int .i64 r82.First), (.int .i64 r82.Modulus), (.int .i64 r82.Slack), (.int .i64 (if p_Listappend.Errors < (if p_ListappendStringtxntxnmorelessaebfugvhiifoundk.e0 < p_Listappend.Window then p_ListappendStringtxntxnmorelessaebfugvhiifoundk.e0 else p_Listappend.Window) then (if p_ListappendStringtxntxnmorelessaebfugvhiifoundk.e0 < p_Listappend.Window then p_ListappendStringtxntxnmorelessaebfugvhiifoundk.e0 else p_Listappend.Window) else p_Listappend.Errors)), (.bool r82.Round)]) sz3 rfl rfl rfl rfl (hB115.ext he217) rfl (oc_cons rfl oc_nil) rfl ?_)
        intro wd219 hc220 hB221
        have h222 := (h116.ext he217).step (Stepp.chg_mem hc220 mem0)
        have h223 := (h117.ext he217).step (Stepp.chg_mem hc220 mem0)
        have h224 := (h118.ext he217).chg hc220 (avoidb hn101)
        have h225 := (h119.ext he217).chg hc220 (avoidb hn102)
        have h226 := (h120.ext he217).chg hc220 (avoidb hn103)
        have h227 := (h121.ext he217).step (Stepp.chg_mem hc220 mem0)
        have e228 := chg_box e218 hc220 hbf104
        refine ⟨((Chg.refl _ _).trans hc220), ?_⟩
        refine TP_p (v := (.pointer (some ⟨b96, 6, none⟩))) rfl rfl (fun w' => (yl_fa 6 Tryd.underlying24 rfl rfl ⟨0, sz3⟩ rfl rfl)) ?_
        refine TP_e rfl rfl (eff_storeC (vs := [(.int .i64 (if p_Listappend.Slack < (if p_ListappendStringtxntxnmorelessaebfugvhiifoundk.e1 < p_Listappend.Modulus then p_ListappendStringtxntxnmorelessaebfugvhiifoundk.e1 else p_Listappend.Modulus) then (if p_ListappendStringtxntxnmorelessaebfugvhiifoundk.e1 < p_Listappend.Modulus then p_ListappendStringtxntxnmorelessaebfugvhiifoundk.e1 else p_Listappend.Modulus) else p_Listappend.Slack))]) (cs' := [v86, (.int .i64 r82.Window), (.int .i64 r82.Tooth), (.int .i64 r82.PerVane), (.int .i64 r82.First), (.int .i64 r82.Modulus), (.int .i64 (if p_Listappend.Slack < (if p_ListappendStringtxntxnmorelessaebfugvhiifoundk.e1 < p_Listappend.Modulus then p_ListappendStringtxntxnmorelessaebfugvhiifoundk.e1 else p_Listappend.Modulus) then (if p_ListappendStringtxntxnmorelessaebfugvhiifoundk.e1 < p_Listappend.Modulus then p_ListappendStringtxntxnmorelessaebfugvhiifoundk.e1 else p_Listappend.Modulus) else p_Listappend.Slack)), (.int .i64 (if p_Listappend.Errors < (if p_ListappendStringtxntxnmorelessaebfugvhiifoundk.e0 < p_Listappend.Window then p_ListappendStringtxntxnmorelessaebfugvhiifoundk.e0 else p_Listappend.Window) then (if p_ListappendStringtxntxnmorelessaebfugvhiifoundk.e0 < p_Listappend.Window then p_ListappendStringtxntxnmorelessaebfugvhiifoundk.e0 else p_Listappend.Window) else p_Listappend.Errors)), (.bool r82.Round)]) sz3 rfl rfl rfl rfl hB221 rfl (oc_cons rfl oc_nil) rfl ?_)
        intro wd229 hc230 hB231
        have h232 := h222.step (Stepp.chg_mem hc230 mem0)
        have h233 := h223.step (Stepp.chg_mem hc230 mem0)
        have h234 := h224.chg hc230 (avoidb hn101)
        have h235 := h225.chg hc230 (avoidb hn102)
        have h236 := h226.chg hc230 (avoidb hn103)
        have h237 := h227.step (Stepp.chg_mem hc230 mem0)
        have e238 := chg_box e228 hc230 hbf104
        refine ⟨(((Chg.refl _ _).trans hc220).trans hc230), ?_⟩
        refine TP_done ?_
        replace h := some_out h
        subst h
        refine hK192 _ _ ?_
        exact ⟨(if p_Listappend.Slack < (if p_ListappendStringtxntxnmorelessaebfugvhiifoundk.e1 < p_Listappend.Modulus then p_ListappendStringtxntxnmorelessaebfugvhiifoundk.e1 else p_Listappend.Modulus) then (if p_ListappendStringtxntxnmorelessaebfugvhiifoundk.e1 < p_Listappend.Modulus then p_ListappendStringtxntxnmorelessaebfugvhiifoundk.e1 else p_Listappend.Modulus) else p_Listappend.Slack), (if p_Listappend.Errors < (if p_ListappendStringtxntxnmorelessaebfugvhiifoundk.e0 < p_Listappend.Window then p_ListappendStringtxntxnmorelessaebfugvhiifoundk.e0 else p_Listappend.Window) then (if p_ListappendStringtxntxnmorelessaebfugvhiifoundk.e0 < p_Listappend.Window then p_ListappendStringtxntxnmorelessaebfugvhiifoundk.e0 else p_Listappend.Window) else p_Listappend.Errors), rfl, rfl, rfl, rfl, rfl, h233, h232, h237, h235, h236, h234, hB231, e238⟩
      · rintro ρ wd170 ⟨x185, x186, rfl, hs172, hs173, hs174, hs175, h176, h181, h184, hB178, hB180, hB183, hB188, e171⟩
        replace h := hn191
        refine hK123 _ _ ?_
        refine WC_seqK fun K239 hK239 => ?_
        refine WC_region ?_
        refine T0_q (v := (.agg (List.toArray [v4, (.int .i64 p_String.Count)]))) rfl (yl_loadA (cs := [v4, (.int .i64 p_String.Count)]) ag26 hs173 (Box.at hB178)) ?_
        obtain ⟨r240, hr241, h⟩ := bind_elim h
        refine T0_e rfl (eff_call Tryd.func22 nm22 rfl (ev1 rfl) (ref04_CopyReading_own ((.pointer (some ⟨b96, 0, none⟩)) :: L) _ (ltl_box (hL.chg e171) hB188) [v4, (.int .i64 p_String.Count)] p_String ⟨v4, h176, rfl⟩ r240 hr241) ?_)
        rintro _ wd242 ⟨he243, v244, rfl, hf246, h245⟩
        have h247 := h176.step (Stepp.add v244 he243 hf246)
        have h248 := h181.step (Stepp.add v244 he243 hf246)
        have h249 := h184.step (Stepp.add v244 he243 hf246)
        have hn251 : blk v244 ≠ some b16 := fun e => by have := hf246 _ e; have := hB178.lt; omega
        have hn252 : blk v244 ≠ some b26 := fun e => by have := hf246 _ e; have := hB180.lt; omega
        have hn253 : blk v244 ≠ some b8 := fun e => by have := hf246 _ e; have := hB183.lt; omega
        have hn254 : blk v244 ≠ some b96 := fun e => by have := hf246 _ e; have := hB188.lt; omega
        have hf255 : ∀ b, blk v244 = some b → w.heap.size ≤ b := fun b hb => Nat.le_trans e171.size (hf246 b hb)
        have e256 := e171.trans he243
        refine T0_e rfl (eff_allocZ zi26 ?_)
        intro b258 wd259 hb260 he261 hB262
        have hn263 : b258 ≠ b16 := box_ne (hB178.ext he243) hb260
        have hn264 : b258 ≠ b26 := box_ne (hB180.ext he243) hb260
        have hn265 : b258 ≠ b8 := box_ne (hB183.ext he243) hb260
        have hn266 : b258 ≠ b96 := box_ne (hB188.ext he243) hb260
        have hn267 : blk v244 ≠ some b258 := ne_new_box h245 hb260
        have hbf268 := bfresh e256 hb260
        have h269 := h247.step (add_box he261 hb260)
        have h270 := h248.step (add_box he261 hb260)
        have h271 := h249.step (add_box he261 hb260)
        have h272 := h245.step (add_box he261 hb260) he261 (fun _ _ => Avoids.nil _)
        have e273 := he243.trans he261
        have e274 := e256.trans he261
        refine T0_e rfl (eff_storeC (vs := [v244, (.int .i64 r240.Count)]) (cs' := [v244, (.int .i64 r240.Count)]) sz26 rfl rfl rfl rfl hB262 rfl (oc_cons h272.one1 (oc_cons rfl oc_nil)) rfl ?_)
        intro wd276 hc277 hB278
        have h279 := h269.step (Stepp.chg_mem hc277 mem0)
        have h280 := (hB178.ext e273).chg hc277 (avoidb hn263)
        have h281 := (hB180.ext e273).chg hc277 (avoidb hn264)
        have h282 := h270.step (Stepp.chg_mem hc277 mem0)
        have h283 := (hB183.ext e273).chg hc277 (avoidb hn265)
        have h284 := h271.step (Stepp.chg_mem hc277 mem0)
        have h285 := (hB188.ext e273).chg hc277 (avoidb hn266)
        have h286 := h272.step (Stepp.chg_mem hc277 mem0) hc277 (av_box hn267)
        have e287 := chg_box e274 hc277 hbf268
        refine T0_nil ?_
        refine hK239 _ _ ?_
        refine WC_seqK fun K288 hK288 => ?_
        refine WC_plan mixed (.p 0 (.p 2 (.p 4 (.q 1 (.q 3 (.q 5 (.e 6 (.p 7 (.b 8 .done))))))))) (by kernel_rfl) ?_
        intro wd316 he317
        have e318 := e287.trans he317
        refine TP_p (v := (.pointer (some ⟨b258, 0, none⟩))) rfl rfl (fun w' => (yl_fa 0 Tryd.underlying26 rfl rfl ⟨0, sz22⟩ rfl rfl)) ?_
        refine TP_p (v := (.pointer (some ⟨b26, 2, none⟩))) rfl rfl (fun w' => (yl_ixC (i := 2) Tryd.underlying44 sz3 (by decide) (by decide) hs174 rfl rfl)) ?_
        refine TP_p (v := (.pointer (some ⟨b8, 1, none⟩))) rfl rfl (fun w' => (yl_fa 1 Tryd.underlying24 rfl rfl ⟨0, sz3⟩ hs172 rfl)) ?_
        refine TP_q (v := v244) rfl rfl (fun w' hS => (yl_load sc22 rfl (Box.at (hB278.ext ((he317).trans hS))))) ?_
        refine TP_q (v := (.int .i64 p_ListappendStringtxntxnmorelessaebfugvhiifoundk.e2)) rfl rfl (fun w' hS => (yl_load sc3 rfl (At.drop (Box.at (h281.ext ((he317).trans hS))) 2))) ?_
        refine TP_q (v := (.int .i64 p_Listappend.Window)) rfl rfl (fun w' hS => (yl_load sc3 rfl (At.drop (Box.at (h283.ext ((he317).trans hS))) 1))) ?_
        obtain ⟨r319, hr320, h⟩ := bind_elim h
        refine TP_e rfl rfl (eff_call Tryd.func28 nm28 rfl (ev2 rfl rfl) (base_Mod_ok [] _ (LtL.nil _) p_ListappendStringtxntxnmorelessaebfugvhiifoundk.e2 p_Listappend.Window r319 hr320) ?_)
        rintro _ wd321 ⟨he322, rfl⟩
        have e323 := he317.trans he322
        have e324 := e318.trans he322
        refine ⟨he322, ?_⟩
        obtain ⟨el325, hel326, h⟩ := bind_elim h
        obtain ⟨cs327, hat328, hrd329⟩ := Own.at h286 hel326
        have hrd329 : cs327 = [(.int .i64 el325)] := hrd329
        subst hrd329
        refine TP_p (v := (.pointer (some (elemAddr v244 (r319 : Int).toNat 1)))) rfl rfl (fun w' => (yl_indexAddrO Tryd.underlying22 sz3 h286 hel326 rfl rfl)) ?_
        refine TP_b rfl rfl (eff_storeOC (vs := [(.int .i64 2)]) (off := 0) (y' := 2) sz3 rfl rfl (h286.ext e323) (memS mem0) hel326 rfl rfl rfl (oc_cons rfl oc_nil) (fun w' cs hcs => by have hcs : cs = [(.int .i64 el325)] := hcs; subst hcs; rfl) ?_)
        intro wd331 hc332 hB333
        have h334 := (h279.ext e323).step (Stepp.chg_mem hc332 (memS mem0))
        have h335 := (h280.ext e323).chg hc332 (avoid1 hn251)
        have h336 := (h281.ext e323).chg hc332 (avoid1 hn252)
        have h337 := (h282.ext e323).step (Stepp.chg_mem hc332 (memS mem0))
        have h338 := (h283.ext e323).chg hc332 (avoid1 hn253)
        have h339 := (h284.ext e323).step (Stepp.chg_mem hc332 (memS mem0))
        have h340 := (h285.ext e323).chg hc332 (avoid1 hn254)
        have h341 := (hB278.ext e323).chg hc332 (avoid1 hn267)
        have e342 := chg_own e324 hc332 hf255
        refine TP_done ?_
        refine hK288 _ _ ?_
        refine WC_seqK fun K343 hK343 => ?_
        refine WC_plan mixed (.p 2 (.q 0 (.q 3 (.e 1 (.e 4 (.e 5 (.p 6 (.p 7 (.p 8 (.p 9 (.p 10 .done))))))))))) (by kernel_rfl) ?_
        intro wd379 he380
        have e381 := e342.trans he380
        refine TP_p (v := (.pointer (some ⟨b16, 0, none⟩))) rfl rfl (fun w' => (yl_fa 0 Tryd.underlying26 rfl rfl ⟨0, sz22⟩ hs173 rfl)) ?_
        refine TP_q (v := (.agg (List.toArray [v1, (.int .i64 p_Listappend.Window), (.int .i64 p_Listappend.Tooth), (.int .i64 p_Listappend.PerVane), (.int .i64 p_Listappend.First), (.int .i64 p_Listappend.Modulus), (.int .i64 p_Listappend.Slack), (.int .i64 p_Listappend.Errors), (.bool p_Listappend.Round)]))) rfl rfl (fun w' hS => (yl_loadA (cs := [v1, (.int .i64 p_Listappend.Window), (.int .i64 p_Listappend.Tooth), (.int .i64 p_Listappend.PerVane), (.int .i64 p_Listappend.First), (.int .i64 p_Listappend.Modulus), (.int .i64 p_Listappend.Slack), (.int .i64 p_Listappend.Errors), (.bool p_Listappend.Round)]) ag24 hs172 (Box.at (h338.ext ((he380).trans hS))))) ?_
        refine TP_q (v := v4) rfl rfl (fun w' hS => (yl_load sc22 rfl (Box.at (h335.ext ((he380).trans hS))))) ?_
        obtain ⟨r382, hr383, h⟩ := bind_elim h
        refine TP_e rfl rfl (eff_call Tryd.func21 nm21 rfl (ev1 rfl) (ref04_Copy_ok ((.pointer (some ⟨b258, 0, none⟩)) :: v244 :: (.pointer (some ⟨b96, 0, none⟩)) :: L) _ (ltl_box (ltl_own (ltl_box (hL.chg e381) (h340.ext he380)) (hB333.ext he380)) (h341.ext he380)) [v1, (.int .i64 p_Listappend.Window), (.int .i64 p_Listappend.Tooth), (.int .i64 p_Listappend.PerVane), (.int .i64 p_Listappend.First), (.int .i64 p_Listappend.Modulus), (.int .i64 p_Listappend.Slack), (.int .i64 p_Listappend.Errors), (.bool p_Listappend.Round)] p_Listappend ⟨v1, (h337.ext he380), rfl⟩ r382 hr383) ?_)
        rintro _ wd384 ⟨he385, cs388, rfl, hrd389⟩
        have e390 := he380.trans he385
        have e391 := e381.trans he385
        obtain ⟨v386, h387, rfl⟩ := hrd389
        refine ⟨he385, ?_⟩
        obtain ⟨r393, hr394, h⟩ := bind_elim h
        refine TP_e rfl rfl (eff_call Tryd.func30 nm30 rfl (ev1 rfl) (base_CopyInts_ok ((.pointer (some ⟨b258, 0, none⟩)) :: v244 :: (.pointer (some ⟨b96, 0, none⟩)) :: L) _ (ltl_box (ltl_own (ltl_box (hL.chg e391) (h340.ext e390)) (hB333.ext e390)) (h341.ext e390)) v4 p_String.Seen (h334.ext e390) r393 hr394) ?_)
        rintro _ wd395 ⟨he396, v397, rfl, h398⟩
        have e399 := e390.trans he396
        have e400 := he385.trans he396
        have e401 := e391.trans he396
        refine ⟨e400, ?_⟩
        obtain ⟨r403, hr404, h⟩ := bind_elim h
        refine TP_e rfl rfl (eff_call Tryd.func29 nm29 rfl (ev2 rfl rfl) (locate_Near_ok ((.pointer (some ⟨b258, 0, none⟩)) :: v244 :: (.pointer (some ⟨b96, 0, none⟩)) :: L) _ (ltl_box (ltl_own (ltl_box (hL.chg e401) (h340.ext e399)) (hB333.ext e399)) (h341.ext e399)) [v386, (.int .i64 r382.Window), (.int .i64 r382.Tooth), (.int .i64 r382.PerVane), (.int .i64 r382.First), (.int .i64 r382.Modulus), (.int .i64 r382.Slack), (.int .i64 r382.Errors), (.bool r382.Round)] r382 ⟨v386, (h387.ext he396), rfl⟩ v397 r393 h398 r403 hr404) ?_)
        rintro _ wd405 ⟨he406, v407, rfl, h408⟩
        have e409 := e399.trans he406
        have e410 := he396.trans he406
        have e411 := e400.trans he406
        have e412 := e401.trans he406
        refine ⟨e411, ?_⟩
        refine TP_p (v := (.tuple #[v407, (.int .i64 r403.2)])) rfl rfl (fun w' => (yl_move rfl)) ?_
        refine TP_p (v := v407) rfl rfl (fun w' => (yl_extract rfl rfl)) ?_
        refine TP_p (v := (.int .i64 r403.2)) rfl rfl (fun w' => (yl_extract rfl rfl)) ?_
        refine TP_p (v := v407) rfl rfl (fun w' => (yl_assign rfl)) ?_
        refine TP_p (v := (.int .i64 r403.2)) rfl rfl (fun w' => (yl_assign rfl)) ?_
        refine TP_done ?_
        refine hK343 _ _ ?_
        refine WC_seqK fun K414 hK414 => ?_
        refine WC_plan mixed (.p 2 (.q 0 (.q 3 (.e 1 (.e 4 (.e 5 (.p 6 (.p 7 (.p 8 (.p 9 (.p 10 .done))))))))))) (by kernel_rfl) ?_
        intro wd465 he466
        have e467 := e409.trans he466
        have e468 := e410.trans he466
        have e469 := he406.trans he466
        have e470 := e412.trans he466
        refine TP_p (v := (.pointer (some ⟨b258, 0, none⟩))) rfl rfl (fun w' => (yl_fa 0 Tryd.underlying26 rfl rfl ⟨0, sz22⟩ rfl rfl)) ?_
        refine TP_q (v := (.agg (List.toArray [v86, (.int .i64 r82.Window), (.int .i64 r82.Tooth), (.int .i64 r82.PerVane), (.int .i64 r82.First), (.int .i64 r82.Modulus), (.int .i64 x185), (.int .i64 x186), (.bool r82.Round)]))) rfl rfl (fun w' hS => (yl_loadA (cs := [v86, (.int .i64 r82.Window), (.int .i64 r82.Tooth), (.int .i64 r82.PerVane), (.int .i64 r82.First), (.int .i64 r82.Modulus), (.int .i64 x185), (.int .i64 x186), (.bool r82.Round)]) ag24 hs175 (Box.at (h340.ext ((e467).trans hS))))) ?_
        refine TP_q (v := v244) rfl rfl (fun w' hS => (yl_load sc22 rfl (Box.at (h341.ext ((e467).trans hS))))) ?_
        obtain ⟨r471, hr472, h⟩ := bind_elim h
        refine TP_e rfl rfl (eff_call Tryd.func21 nm21 rfl (ev1 rfl) (ref04_Copy_ok ((.pointer (some ⟨b258, 0, none⟩)) :: v244 :: (.pointer (some ⟨b96, 0, none⟩)) :: L) _ (ltl_box (ltl_own (ltl_box (hL.chg e470) (h340.ext e467)) (hB333.ext e467)) (h341.ext e467)) [v86, (.int .i64 r82.Window), (.int .i64 r82.Tooth), (.int .i64 r82.PerVane), (.int .i64 r82.First), (.int .i64 r82.Modulus), (.int .i64 x185), (.int .i64 x186), (.bool r82.Round)] (LocateTrack.mk r82.Vanes r82.Window r82.Tooth r82.PerVane r82.First r82.Modulus x185 x186 r82.Round) ⟨v86, (h339.ext e467), rfl⟩ r471 hr472) ?_)
        rintro _ wd473 ⟨he474, cs477, rfl, hrd478⟩
        have e479 := e467.trans he474
        have e480 := e468.trans he474
        have e481 := e469.trans he474
        have e482 := he466.trans he474
        have e483 := e470.trans he474
        obtain ⟨v475, h476, rfl⟩ := hrd478
        refine ⟨he474, ?_⟩
        have h485 := ((hB333.ext e479).sub (sub_cons mem0 (sub_cons (memS (memS mem0)) (sub_skip (sub_skip (sub_skip (sub_refl _))))))).rd (fun b hb => (Avoids.cons (Avoids.cons (fun x hx e => by have := hL x hx b e; have := hf255 b hb; omega) (fun e => hn254 (hb.trans e.symm))) (fun e => hn267 (hb.trans e.symm))))
        have h486 := (h334.ext e479).sub (sub_cons mem0 (sub_cons (memS (memS mem0)) (sub_skip (sub_skip (sub_skip (sub_refl _))))))
        have h487 := (h337.ext e479).sub (sub_cons mem0 (sub_cons (memS (memS mem0)) (sub_skip (sub_skip (sub_skip (sub_refl _))))))
        have h488 := (h339.ext e479).sub (sub_cons mem0 (sub_cons (memS (memS mem0)) (sub_skip (sub_skip (sub_skip (sub_refl _))))))
        have h489 := (h387.ext e480).sub (sub_cons mem0 (sub_cons (memS (memS mem0)) (sub_skip (sub_skip (sub_skip (sub_refl _))))))
        have h490 := (h398.ext e481).sub (sub_cons mem0 (sub_cons (memS (memS mem0)) (sub_skip (sub_skip (sub_skip (sub_refl _))))))
        have h491 := (h408.ext e482).sub (sub_cons mem0 (sub_cons (memS (memS mem0)) (sub_skip (sub_skip (sub_skip (sub_refl _))))))
        have h492 := h476.sub (sub_cons mem0 (sub_cons (memS (memS mem0)) (sub_skip (sub_skip (sub_skip (sub_refl _))))))
        obtain ⟨r494, hr495, h⟩ := bind_elim h
        refine TP_e rfl rfl (eff_call Tryd.func30 nm30 rfl (ev1 rfl) (base_CopyInts_ok ((.pointer (some ⟨b258, 0, none⟩)) :: (.pointer (some ⟨b96, 0, none⟩)) :: L) _ (ltl_box (ltl_box (hL.chg e483) (h340.ext e479)) (h341.ext e479)) v244 (r240.Seen.set (r319 : Int).toNat 2) h485 r494 hr495) ?_)
        rintro _ wd496 ⟨he497, v498, rfl, h499⟩
        have e500 := e479.trans he497
        have e501 := he474.trans he497
        have e502 := e483.trans he497
        refine ⟨e501, ?_⟩
        obtain ⟨r504, hr505, h⟩ := bind_elim h
        refine TP_e rfl rfl (eff_call Tryd.func29 nm29 rfl (ev2 rfl rfl) (locate_Near_ok ((.pointer (some ⟨b258, 0, none⟩)) :: (.pointer (some ⟨b96, 0, none⟩)) :: L) _ (ltl_box (ltl_box (hL.chg e502) (h340.ext e500)) (h341.ext e500)) [v475, (.int .i64 r471.Window), (.int .i64 r471.Tooth), (.int .i64 r471.PerVane), (.int .i64 r471.First), (.int .i64 r471.Modulus), (.int .i64 r471.Slack), (.int .i64 r471.Errors), (.bool r471.Round)] r471 ⟨v475, (h492.ext he497), rfl⟩ v498 r494 h499 r504 hr505) ?_)
        rintro _ wd506 ⟨he507, v508, rfl, h509⟩
        have e510 := e500.trans he507
        have e511 := he497.trans he507
        have e512 := e501.trans he507
        have e513 := e502.trans he507
        refine ⟨e512, ?_⟩
        refine TP_p (v := (.tuple #[v508, (.int .i64 r504.2)])) rfl rfl (fun w' => (yl_move rfl)) ?_
        refine TP_p (v := v508) rfl rfl (fun w' => (yl_extract rfl rfl)) ?_
        refine TP_p (v := (.int .i64 r504.2)) rfl rfl (fun w' => (yl_extract rfl rfl)) ?_
        refine TP_p (v := v508) rfl rfl (fun w' => (yl_assign rfl)) ?_
        refine TP_p (v := (.int .i64 r504.2)) rfl rfl (fun w' => (yl_assign rfl)) ?_
        refine TP_done ?_
        refine hK414 _ _ ?_
        refine WC_seqK fun K515 hK515 => ?_
        refine WC_plan mixed (.q 0 (.q 2 (.e 1 (.e 3 (.e 4 (.p 5 (.p 6 (.p 7 (.p 8 (.p 9 .done)))))))))) (by kernel_rfl) ?_
        intro wd565 he566
        have e567 := e510.trans he566
        have e568 := e511.trans he566
        have e569 := he507.trans he566
        have e570 := e513.trans he566
        refine TP_q (v := (.agg (List.toArray [v1, (.int .i64 p_Listappend.Window), (.int .i64 p_Listappend.Tooth), (.int .i64 p_Listappend.PerVane), (.int .i64 p_Listappend.First), (.int .i64 p_Listappend.Modulus), (.int .i64 p_Listappend.Slack), (.int .i64 p_Listappend.Errors), (.bool p_Listappend.Round)]))) rfl rfl (fun w' hS => (yl_loadA (cs := [v1, (.int .i64 p_Listappend.Window), (.int .i64 p_Listappend.Tooth), (.int .i64 p_Listappend.PerVane), (.int .i64 p_Listappend.First), (.int .i64 p_Listappend.Modulus), (.int .i64 p_Listappend.Slack), (.int .i64 p_Listappend.Errors), (.bool p_Listappend.Round)]) ag24 hs172 (Box.at (h338.ext ((e567).trans hS))))) ?_
        refine TP_q (v := (.agg (List.toArray [v4, (.int .i64 p_String.Count)]))) rfl rfl (fun w' hS => (yl_loadA (cs := [v4, (.int .i64 p_String.Count)]) ag26 hs173 (Box.at (h335.ext ((e567).trans hS))))) ?_
        obtain ⟨r571, hr572, h⟩ := bind_elim h
        refine TP_e rfl rfl (eff_call Tryd.func21 nm21 rfl (ev1 rfl) (ref04_Copy_ok ((.pointer (some ⟨b258, 0, none⟩)) :: (.pointer (some ⟨b96, 0, none⟩)) :: L) _ (ltl_box (ltl_box (hL.chg e570) (h340.ext e567)) (h341.ext e567)) [v1, (.int .i64 p_Listappend.Window), (.int .i64 p_Listappend.Tooth), (.int .i64 p_Listappend.PerVane), (.int .i64 p_Listappend.First), (.int .i64 p_Listappend.Modulus), (.int .i64 p_Listappend.Slack), (.int .i64 p_Listappend.Errors), (.bool p_Listappend.Round)] p_Listappend ⟨v1, (h487.ext e568), rfl⟩ r571 hr572) ?_)
        rintro _ wd573 ⟨he574, cs577, rfl, hrd578⟩
        have e579 := e567.trans he574
        have e580 := e568.trans he574
        have e581 := e569.trans he574
        have e582 := he566.trans he574
        have e583 := e570.trans he574
        obtain ⟨v575, h576, rfl⟩ := hrd578
        refine ⟨he574, ?_⟩
        obtain ⟨r585, hr586, h⟩ := bind_elim h
        refine TP_e rfl rfl (eff_call Tryd.func22 nm22 rfl (ev1 rfl) (ref04_CopyReading_ok ((.pointer (some ⟨b258, 0, none⟩)) :: (.pointer (some ⟨b96, 0, none⟩)) :: L) _ (ltl_box (ltl_box (hL.chg e583) (h340.ext e579)) (h341.ext e579)) [v4, (.int .i64 p_String.Count)] p_String ⟨v4, (h486.ext e580), rfl⟩ r585 hr586) ?_)
        rintro _ wd587 ⟨he588, cs591, rfl, hrd592⟩
        have e593 := e579.trans he588
        have e594 := e580.trans he588
        have e595 := e581.trans he588
        have e596 := e582.trans he588
        have e597 := he574.trans he588
        have e598 := e583.trans he588
        obtain ⟨v589, h590, rfl⟩ := hrd592
        refine ⟨e597, ?_⟩
        obtain ⟨r600, hr601, h⟩ := bind_elim h
        refine TP_e rfl rfl (eff_call Tryd.func20 nm20 rfl (ev2 rfl rfl) (locate_Possible_ok ((.pointer (some ⟨b258, 0, none⟩)) :: (.pointer (some ⟨b96, 0, none⟩)) :: L) _ (ltl_box (ltl_box (hL.chg e598) (h340.ext e593)) (h341.ext e593)) [v575, (.int .i64 r571.Window), (.int .i64 r571.Tooth), (.int .i64 r571.PerVane), (.int .i64 r571.First), (.int .i64 r571.Modulus), (.int .i64 r571.Slack), (.int .i64 r571.Errors), (.bool r571.Round)] r571 ⟨v575, (h576.ext he588), rfl⟩ [v589, (.int .i64 r585.Count)] r585 ⟨v589, h590, rfl⟩ r600 hr601) ?_)
        rintro _ wd602 ⟨he603, v604, rfl, h605⟩
        have e606 := e593.trans he603
        have e607 := e594.trans he603
        have e608 := e595.trans he603
        have e609 := e596.trans he603
        have e610 := he588.trans he603
        have e611 := e597.trans he603
        have e612 := e598.trans he603
        refine ⟨e611, ?_⟩
        refine TP_p (v := (.tuple #[v604, (.int .i64 r600.2)])) rfl rfl (fun w' => (yl_move rfl)) ?_
        refine TP_p (v := v604) rfl rfl (fun w' => (yl_extract rfl rfl)) ?_
        refine TP_p (v := (.int .i64 r600.2)) rfl rfl (fun w' => (yl_extract rfl rfl)) ?_
        refine TP_p (v := v604) rfl rfl (fun w' => (yl_assign rfl)) ?_
        refine TP_p (v := (.int .i64 r600.2)) rfl rfl (fun w' => (yl_assign rfl)) ?_
        refine TP_done ?_
        refine hK515 _ _ ?_
        refine WC_seqK fun K614 hK614 => ?_
        refine WC_region ?_
        refine T0_q (v := (.agg (List.toArray [v86, (.int .i64 r82.Window), (.int .i64 r82.Tooth), (.int .i64 r82.PerVane), (.int .i64 r82.First), (.int .i64 r82.Modulus), (.int .i64 x185), (.int .i64 x186), (.bool r82.Round)]))) rfl (yl_loadA (cs := [v86, (.int .i64 r82.Window), (.int .i64 r82.Tooth), (.int .i64 r82.PerVane), (.int .i64 r82.First), (.int .i64 r82.Modulus), (.int .i64 x185), (.int .i64 x186), (.bool r82.Round)]) ag24 hs175 (Box.at (h340.ext e606))) ?_
        refine T0_q (v := (.agg (List.toArray [v244, (.int .i64 r240.Count)]))) rfl (yl_loadA (cs := [v244, (.int .i64 r240.Count)]) ag26 rfl (Box.at (h341.ext e606))) ?_
        obtain ⟨r615, hr616, h⟩ := bind_elim h
        refine T0_e rfl (eff_call Tryd.func20 nm20 rfl (ev2 rfl rfl) (locate_Possible_ok ((.pointer (some ⟨b258, 0, none⟩)) :: (.pointer (some ⟨b96, 0, none⟩)) :: L) _ (ltl_box (ltl_box (hL.chg e612) (h340.ext e606)) (h341.ext e606)) [v86, (.int .i64 r82.Window), (.int .i64 r82.Tooth), (.int .i64 r82.PerVane), (.int .i64 r82.First), (.int .i64 r82.Modulus), (.int .i64 x185), (.int .i64 x186), (.bool r82.Round)] (LocateTrack.mk r82.Vanes r82.Window r82.Tooth r82.PerVane r82.First r82.Modulus x185 x186 r82.Round) ⟨v86, (h488.ext e607), rfl⟩ [v244, (.int .i64 r240.Count)] (LocateReading.mk (r240.Seen.set (r319 : Int).toNat 2) r240.Count) ⟨v244, (h485.ext e607), rfl⟩ r615 hr616) ?_)
        rintro _ wd617 ⟨he618, v619, rfl, h620⟩
        have e621 := e606.trans he618
        have e622 := e607.trans he618
        have e623 := e608.trans he618
        have e624 := e609.trans he618
        have e625 := e610.trans he618
        have e626 := he603.trans he618
        have e627 := e612.trans he618
        refine T0_q (v := (.tuple #[v619, (.int .i64 r615.2)])) rfl (yl_move rfl) ?_
        refine T0_q (v := v619) rfl (yl_extract rfl rfl) ?_
        refine T0_q (v := (.int .i64 r615.2)) rfl (yl_extract rfl rfl) ?_
        refine T0_q (v := v619) rfl (yl_assign rfl) ?_
        refine T0_q (v := (.int .i64 r615.2)) rfl (yl_assign rfl) ?_
        refine T0_nil ?_
        refine hK614 _ _ ?_
        refine WC_seqK fun K629 hK629 => ?_
        refine WC_seqK fun K630 hK630 => ?_
        refine WC_region ?_
        refine T0_q (v := (.int .i64 r403.2)) rfl (yl_move rfl) ?_
        refine T0_q (v := (.bool (!decide (r403.2 = 0)))) rfl (yl_neq rfl rfl) ?_
        refine T0_q (v := (.bool (!decide (r403.2 = 0)))) rfl (yl_move rfl) ?_
        refine T0_g (v := (.int .i64 r504.2)) (!(!decide (r403.2 = 0))) (wanted_f rfl rfl rfl rfl) (fun hg => (yl_move rfl)) ?_
        refine T0_g (v := (.bool (!decide (r504.2 = 0)))) (!(!decide (r403.2 = 0))) (wanted_f rfl rfl rfl rfl) (fun hg => (yl_neq (gd_true hg) rfl)) ?_
        refine T0_q (v := (.bool ((!decide (r403.2 = 0)) || (!decide (r504.2 = 0))))) rfl (yl_or rfl rfl (fun hb => (gd_true (not_t hb)))) ?_
        refine T0_q (v := (.bool ((!decide (r403.2 = 0)) || (!decide (r504.2 = 0))))) rfl (yl_move rfl) ?_
        refine T0_g (v := (.int .i64 r600.2)) (!((!decide (r403.2 = 0)) || (!decide (r504.2 = 0)))) (wanted_f rfl rfl rfl rfl) (fun hg => (yl_move rfl)) ?_
        refine T0_g (v := (.bool (!decide (r600.2 = 0)))) (!((!decide (r403.2 = 0)) || (!decide (r504.2 = 0)))) (wanted_f rfl rfl rfl rfl) (fun hg => (yl_neq (gd_true hg) rfl)) ?_
        refine T0_q (v := (.bool (((!decide (r403.2 = 0)) || (!decide (r504.2 = 0))) || (!decide (r600.2 = 0))))) rfl (yl_or rfl rfl (fun hb => (gd_true (not_t hb)))) ?_
        refine T0_q (v := (.bool (((!decide (r403.2 = 0)) || (!decide (r504.2 = 0))) || (!decide (r600.2 = 0))))) rfl (yl_move rfl) ?_
        refine T0_g (v := (.int .i64 r615.2)) (!(((!decide (r403.2 = 0)) || (!decide (r504.2 = 0))) || (!decide (r600.2 = 0)))) (wanted_f rfl rfl rfl rfl) (fun hg => (yl_move rfl)) ?_
        refine T0_g (v := (.bool (!decide (r615.2 = 0)))) (!(((!decide (r403.2 = 0)) || (!decide (r504.2 = 0))) || (!decide (r600.2 = 0)))) (wanted_f rfl rfl rfl rfl) (fun hg => (yl_neq (gd_true hg) rfl)) ?_
        refine T0_q (v := (.bool ((((!decide (r403.2 = 0)) || (!decide (r504.2 = 0))) || (!decide (r600.2 = 0))) || (!decide (r615.2 = 0))))) rfl (yl_or rfl rfl (fun hb => (gd_true (not_t hb)))) ?_
        refine T0_nil ?_
        refine hK630 _ _ ?_
        refine WC_cond (b := ((((!decide (r403.2 = 0)) || (!decide (r504.2 = 0))) || (!decide (r600.2 = 0))) || (!decide (r615.2 = 0)))) rfl (fun hb631 => ?_) (fun hb631 => ?_)
        · replace h := cond_t hb631 h
          refine WC_seqK fun K632 hK632 => ?_
          refine WC_region ?_
          refine T0_q (v := (.bool false)) rfl (yl_assign rfl) ?_
          refine T0_nil ?_
          refine hK632 _ _ ?_
          refine WC_ret ?_
          replace h := some_out h
          subst h
          exact ⟨[(.bool false)], ⟨rfl, trivial⟩, e627, rfl⟩
        · replace h := cond_f hb631 h
          refine WC_skip ?_
          refine hK629 _ _ ?_
          refine WC_seqK fun K633 hK633 => ?_
          refine WC_seqK fun K634 hK634 => ?_
          refine WC_region ?_
          refine T0_q (v := (.int .i64 0)) rfl (yl_assign rfl) ?_
          refine T0_nil ?_
          refine hK634 _ _ ?_
          obtain ⟨o742, hl743, hn744⟩ := bind_elim h
          refine WC_post (fun (ρ : Env) (wd736 : World) => .inr () = o742 ∧ ρ 13 = v604 ∧ ρ 15 = v619 ∧ SlRd L wd736 v604 r600.1 ∧ SlRd L wd736 v619 r615.1 ∧ Ext w wd736) ?_ ?_
          · intro K748 hK748
            refine WC_block ?_
            refine WC_loopk (fun sv ρ wd724 => ∃ (x734 : Int), x734 = sv ∧ ρ 9 = v407 ∧ ρ 11 = v508 ∧ ρ 13 = v604 ∧ ρ 15 = v619 ∧ ρ 17 = (.int .i64 x734) ∧ SlRd L wd724 v407 r403.1 ∧ SlRd L wd724 v508 r504.1 ∧ SlRd L wd724 v604 r600.1 ∧ SlRd L wd724 v619 r615.1 ∧ Ext w wd724) hl743 ⟨0, rfl, rfl, rfl, rfl, rfl, rfl, ((h491.ext e622).sub (sub_skip (sub_skip (sub_refl _)))), ((h509.ext e624).sub (sub_skip (sub_skip (sub_refl _)))), ((h605.ext he618).sub (sub_skip (sub_skip (sub_refl _)))), (h620.sub (sub_skip (sub_skip (sub_refl _)))), e627⟩ ?_
            rintro _ ρ wd724 ⟨x734, rfl, hs727, hs729, hs731, hs733, hs735, h726, h728, h730, h732, e725⟩ x745 h hx746 K747 hK747
            refine WC_seqK fun K750 hK750 => ?_
            refine WC_seqK fun K751 hK751 => ?_
            refine WC_region ?_
            refine T0_q (v := (.int .i64 x734)) rfl (yl_move hs735) ?_
            refine T0_q (v := v407) rfl (yl_move hs727) ?_
            refine T0_q (v := (.int .i64 (r403.1.length : Int))) rfl (yl_lenR rfl Tryd.underlying22 h726 rfl) ?_
            refine T0_q (v := (.bool (decide (x734 < (r403.1.length : Int))))) rfl (yl_lss rfl rfl) ?_
            refine T0_nil ?_
            refine hK751 _ _ ?_
            refine WC_cond (b := (decide (x734 < (r403.1.length : Int)))) rfl (fun hb752 => ?_) (fun hb752 => ?_)
            · replace h := cond_t hb752 h
              refine WC_skip ?_
              refine hK750 _ _ ?_
              refine WC_seqK fun K753 hK753 => ?_
              refine WC_block ?_
              refine WC_seqK fun K754 hK754 => ?_
              refine WC_region ?_
              refine T0_q (v := v508) rfl (yl_move hs729) ?_
              refine T0_q (v := v407) rfl (yl_move hs727) ?_
              refine T0_q (v := (.int .i64 x734)) rfl (yl_move hs735) ?_
              obtain ⟨el755, hel756, h⟩ := bind_elim h
              obtain ⟨cs757, hat758, hrd759⟩ := SlRd.at h726 hel756
              have hrd759 : cs757 = [(.int .i64 el755)] := hrd759
              subst hrd759
              refine T0_q (v := (.pointer (some (elemAddr v407 (x734 : Int).toNat 1)))) rfl (yl_indexAddr Tryd.underlying22 sz3 h726 hel756 rfl rfl) ?_
              refine T0_q (v := (.int .i64 el755)) rfl (yl_load sc3 rfl hat758) ?_
              obtain ⟨r761, hr762, h⟩ := bind_elim h
              refine T0_e rfl (eff_call Tryd.func31 nm31 rfl (ev2 rfl rfl) (base_Has_ok [] _ (LtL.nil _) v508 r504.1 (h728.sub (fun _ h => by cases h)) el755 r761 hr762) ?_)
              rintro _ wd763 ⟨he764, rfl⟩
              have e765 := e725.trans he764
              refine T0_q (v := (.bool (!r761))) rfl (yl_not rfl) ?_
              refine T0_nil ?_
              refine hK754 _ _ ?_
              refine WC_cond (b := (!r761)) rfl (fun hb766 => ?_) (fun hb766 => ?_)
              · replace h := cond_t hb766 h
                refine WC_seqK fun K767 hK767 => ?_
                refine WC_region ?_
                refine T0_q (v := (.bool false)) rfl (yl_assign rfl) ?_
                refine T0_nil ?_
                refine hK767 _ _ ?_
                refine WC_ret ?_
                replace h := some_out h
                subst h
                have ho := hx746 _ rfl
                subst ho
                replace h := jn0_inl hn744
                replace h := some_out h
                subst h
                exact ⟨[(.bool false)], ⟨rfl, trivial⟩, e765, rfl⟩
              · replace h := cond_f hb766 h
                refine WC_skip ?_
                refine hK753 _ _ ?_
                refine WC_region ?_
                refine T0_q (v := (.int .i64 x734)) rfl (yl_move hs735) ?_
                refine T0_q (v := (.int .i64 (w64 (x734 + 1)))) rfl (yl_add rfl rfl) ?_
                refine T0_q (v := (.int .i64 (w64 (x734 + 1)))) rfl (yl_assign rfl) ?_
                refine T0_nil ?_
                replace h := some_out h
                subst h
                refine hK747 _ _ _ rfl ?_
                exact ⟨w64 (x734 + 1), rfl, hs727, hs729, hs731, hs733, rfl, (h726.ext he764), (h728.ext he764), (h730.ext he764), (h732.ext he764), e765⟩
            · replace h := cond_f hb752 h
              refine WC_exit ?_
              replace h := some_out h
              subst h
              have ho := hx746 _ rfl
              subst ho
              refine hK748 _ _ ?_
              exact ⟨rfl, hs731, hs733, h730, h732, e725⟩
          · rintro ρ wd736 ⟨rfl, hs739, hs741, h738, h740, e737⟩
            replace h := jn0_inr hn744
            refine hK633 _ _ ?_
            refine WC_seqK fun K768 hK768 => ?_
            refine WC_seqK fun K769 hK769 => ?_
            refine WC_region ?_
            refine T0_q (v := (.int .i64 0)) rfl (yl_assign rfl) ?_
            refine T0_nil ?_
            refine hK769 _ _ ?_
            obtain ⟨o1334, hl1335, hn1336⟩ := bind_elim h
            refine WC_post (fun (ρ : Env) (wd1332 : World) => .inr () = o1334 ∧ Ext w wd1332) ?_ ?_
            · intro K1340 hK1340
              refine WC_block ?_
              refine WC_loopk (fun sv ρ wd1324 => ∃ (x1330 : Int), x1330 = sv ∧ ρ 13 = v604 ∧ ρ 15 = v619 ∧ ρ 18 = (.int .i64 x1330) ∧ SlRd L wd1324 v604 r600.1 ∧ SlRd L wd1324 v619 r615.1 ∧ Ext w wd1324) hl1335 ⟨0, rfl, hs739, hs741, rfl, h738, h740, e737⟩ ?_
              rintro _ ρ wd1324 ⟨x1330, rfl, hs1327, hs1329, hs1331, h1326, h1328, e1325⟩ x1337 h hx1338 K1339 hK1339
              refine WC_seqK fun K1342 hK1342 => ?_
              refine WC_seqK fun K1343 hK1343 => ?_
              refine WC_region ?_
              refine T0_q (v := (.int .i64 x1330)) rfl (yl_move hs1331) ?_
              refine T0_q (v := v604) rfl (yl_move hs1327) ?_
              refine T0_q (v := (.int .i64 (r600.1.length : Int))) rfl (yl_lenR rfl Tryd.underlying29 h1326 rfl) ?_
              refine T0_q (v := (.bool (decide (x1330 < (r600.1.length : Int))))) rfl (yl_lss rfl rfl) ?_
              refine T0_nil ?_
              refine hK1343 _ _ ?_
              refine WC_cond (b := (decide (x1330 < (r600.1.length : Int)))) rfl (fun hb1344 => ?_) (fun hb1344 => ?_)
              · replace h := cond_t hb1344 h
                refine WC_skip ?_
                refine hK1342 _ _ ?_
                refine WC_seqK fun K1345 hK1345 => ?_
                refine WC_block ?_
                refine WC_seqK fun K1346 hK1346 => ?_
                refine WC_region ?_
                refine T0_q (v := (.bool false)) rfl (yl_assign rfl) ?_
                refine T0_nil ?_
                refine hK1346 _ _ ?_
                refine WC_seqK fun K1347 hK1347 => ?_
                refine WC_seqK fun K1348 hK1348 => ?_
                refine WC_region ?_
                refine T0_q (v := (.int .i64 0)) rfl (yl_assign rfl) ?_
                refine T0_nil ?_
                refine hK1348 _ _ ?_
                obtain ⟨o1481, hl1482, hn1483⟩ := bind_elim h
                refine WC_post (fun (ρ : Env) (wd1472 : World) => ∃ (x1479 : Bool), x1479 = o1481 ∧ ρ 13 = v604 ∧ ρ 15 = v619 ∧ ρ 18 = (.int .i64 x1330) ∧ ρ 19 = (.bool x1479) ∧ SlRd L wd1472 v604 r600.1 ∧ SlRd L wd1472 v619 r615.1 ∧ Ext w wd1472) ?_ ?_
                · intro K1487 hK1487
                  refine WC_block ?_
                  refine WC_loopk (fun sv ρ wd1461 => ∃ (x1468 : Bool) (x1470 : Int), (x1468, x1470) = sv ∧ ρ 13 = v604 ∧ ρ 15 = v619 ∧ ρ 18 = (.int .i64 x1330) ∧ ρ 19 = (.bool x1468) ∧ ρ 20 = (.int .i64 x1470) ∧ SlRd L wd1461 v604 r600.1 ∧ SlRd L wd1461 v619 r615.1 ∧ Ext w wd1461) hl1482 ⟨false, 0, rfl, hs1327, hs1329, hs1331, rfl, rfl, h1326, h1328, e1325⟩ ?_
                  rintro _ ρ wd1461 ⟨x1468, x1470, rfl, hs1464, hs1466, hs1467, hs1469, hs1471, h1463, h1465, e1462⟩ x1484 h hx1485 K1486 hK1486
                  refine WC_seqK fun K1489 hK1489 => ?_
                  refine WC_seqK fun K1490 hK1490 => ?_
                  refine WC_region ?_
                  refine T0_q (v := (.int .i64 x1470)) rfl (yl_move hs1471) ?_
                  refine T0_q (v := v619) rfl (yl_move hs1466) ?_
                  refine T0_q (v := (.int .i64 (r615.1.length : Int))) rfl (yl_lenR rfl Tryd.underlying29 h1465 rfl) ?_
                  refine T0_q (v := (.bool (decide (x1470 < (r615.1.length : Int))))) rfl (yl_lss rfl rfl) ?_
                  refine T0_nil ?_
                  refine hK1490 _ _ ?_
                  refine WC_cond (b := (decide (x1470 < (r615.1.length : Int)))) rfl (fun hb1491 => ?_) (fun hb1491 => ?_)
                  · replace h := cond_t hb1491 h
                    refine WC_skip ?_
                    refine hK1489 _ _ ?_
                    refine WC_seqK fun K1492 hK1492 => ?_
                    refine WC_block ?_
                    refine WC_plan mixed (.p 0 (.p 1 (.p 2 (.p 3 (.p 4 (.p 5 (.p 7 (.p 8 (.p 9 (.p 10 (.q 6 (.q 11 (.p 12 (.p 13 (.p 14 (.p 15 (.p 16 (.p 17 (.p 19 (.p 20 (.p 21 (.p 22 (.q 18 (.q 23 (.p 24 (.p 25 (.p 26 (.p 27 .done)))))))))))))))))))))))))))) (by kernel_rfl) ?_
                    intro wd1493 he1494
                    have e1495 := e1462.trans he1494
                    refine TP_p (v := (.bool x1468)) rfl rfl (fun w' => (yl_move hs1469)) ?_
                    refine TP_p (v := (.bool x1468)) rfl rfl (fun w' => (yl_move rfl)) ?_
                    refine TP_gp (v := v619) (!x1468) rfl (wanted_f rfl rfl rfl rfl) (fun w' hg => (yl_move hs1466)) ?_
                    refine TP_gp (v := (.int .i64 x1470)) (!x1468) rfl (wanted_f rfl rfl rfl rfl) (fun w' hg => (yl_move hs1471)) ?_
                    obtain ⟨el1496, hel1497, h⟩ := bind_elim h
                    have hat1499 : (!x1468) = true → At wd1461 (elemAddr v619 (x1470 : Int).toNat 2) [(.int .i64 el1496.Lo), (.int .i64 el1496.Hi)] := fun hg => by obtain ⟨cs, hat, hrd⟩ := SlRd.at h1465 (cond_t hg hel1497); have hrd : cs = [(.int .i64 el1496.Lo), (.int .i64 el1496.Hi)] := hrd; subst hrd; exact hat
                    refine TP_gp (v := (.pointer (some (elemAddr v619 (x1470 : Int).toNat 2)))) (!x1468) rfl (wanted_f rfl rfl rfl rfl) (fun w' hg => (yl_indexAddr Tryd.underlying29 sz36 h1465 (cond_t hg hel1497) (gd_true hg) (gd_true hg))) ?_
                    refine TP_gp (v := (.pointer (some (elemAddr v619 (x1470 : Int).toNat 2)))) (!x1468) rfl (wanted_f rfl rfl rfl rfl) (fun w' hg => (yl_fa 0 Tryd.underlying36 rfl rfl ⟨0, sz3⟩ (gd_true hg) rfl)) ?_
                    refine TP_gp (v := v604) (!x1468) rfl (wanted_f rfl rfl rfl rfl) (fun w' hg => (yl_move hs1464)) ?_
                    refine TP_gp (v := (.int .i64 x1330)) (!x1468) rfl (wanted_f rfl rfl rfl rfl) (fun w' hg => (yl_move hs1467)) ?_
                    obtain ⟨el1501, hel1502, h⟩ := bind_elim h
                    have hat1504 : (!x1468) = true → At wd1461 (elemAddr v604 (x1330 : Int).toNat 2) [(.int .i64 el1501.Lo), (.int .i64 el1501.Hi)] := fun hg => by obtain ⟨cs, hat, hrd⟩ := SlRd.at h1463 (cond_t hg hel1502); have hrd : cs = [(.int .i64 el1501.Lo), (.int .i64 el1501.Hi)] := hrd; subst hrd; exact hat
                    refine TP_gp (v := (.pointer (some (elemAddr v604 (x1330 : Int).toNat 2)))) (!x1468) rfl (wanted_f rfl rfl rfl rfl) (fun w' hg => (yl_indexAddr Tryd.underlying29 sz36 h1463 (cond_t hg hel1502) (gd_true hg) (gd_true hg))) ?_
                    refine TP_gp (v := (.pointer (some (elemAddr v604 (x1330 : Int).toNat 2)))) (!x1468) rfl (wanted_f rfl rfl rfl rfl) (fun w' hg => (yl_fa 0 Tryd.underlying36 rfl rfl ⟨0, sz3⟩ (gd_true hg) rfl)) ?_
                    refine TP_gq (v := (.int .i64 el1496.Lo)) (!x1468) rfl (wanted_f rfl rfl rfl rfl) (fun w' hS hg => (yl_load sc3 (gd_true hg) ((hat1499 hg).ext' ((he1494).trans hS)))) ?_
                    refine TP_gq (v := (.int .i64 el1501.Lo)) (!x1468) rfl (wanted_f rfl rfl rfl rfl) (fun w' hS hg => (yl_load sc3 (gd_true hg) ((hat1504 hg).ext' ((he1494).trans hS)))) ?_
                    refine TP_gp (v := (.bool (decide (el1496.Lo ≤ el1501.Lo)))) (!x1468) rfl (wanted_f rfl rfl rfl rfl) (fun w' hg => (yl_leq (gd_true hg) (gd_true hg))) ?_
                    refine TP_gp (v := (.bool (decide (el1496.Lo ≤ el1501.Lo)))) (!x1468) rfl (wanted_f rfl rfl rfl rfl) (fun w' hg => (yl_move (gd_true hg))) ?_
                    refine TP_gp (v := v604) ((!x1468) && (decide (el1496.Lo ≤ el1501.Lo))) rfl (wanted_gt rfl rfl rfl rfl) (fun w' hg => (yl_move hs1464)) ?_
                    refine TP_gp (v := (.int .i64 x1330)) ((!x1468) && (decide (el1496.Lo ≤ el1501.Lo))) rfl (wanted_gt rfl rfl rfl rfl) (fun w' hg => (yl_move hs1467)) ?_
                    obtain ⟨el1506, hel1507, h⟩ := bind_elim h
                    have hat1509 : ((!x1468) && (decide (el1496.Lo ≤ el1501.Lo))) = true → At wd1461 (elemAddr v604 (x1330 : Int).toNat 2) [(.int .i64 el1506.Lo), (.int .i64 el1506.Hi)] := fun hg => by obtain ⟨cs, hat, hrd⟩ := SlRd.at h1463 (cond_t hg hel1507); have hrd : cs = [(.int .i64 el1506.Lo), (.int .i64 el1506.Hi)] := hrd; subst hrd; exact hat
                    refine TP_gp (v := (.pointer (some (elemAddr v604 (x1330 : Int).toNat 2)))) ((!x1468) && (decide (el1496.Lo ≤ el1501.Lo))) rfl (wanted_gt rfl rfl rfl rfl) (fun w' hg => (yl_indexAddr Tryd.underlying29 sz36 h1463 (cond_t hg hel1507) (gd_true hg) (gd_true hg))) ?_
                    refine TP_gp (v := (.pointer (some (Addr.add (elemAddr v604 (x1330 : Int).toNat 2) 1)))) ((!x1468) && (decide (el1496.Lo ≤ el1501.Lo))) rfl (wanted_gt rfl rfl rfl rfl) (fun w' hg => (yl_fa 1 Tryd.underlying36 rfl rfl ⟨0, sz3⟩ (gd_true hg) rfl)) ?_
                    refine TP_gp (v := v619) ((!x1468) && (decide (el1496.Lo ≤ el1501.Lo))) rfl (wanted_gt rfl rfl rfl rfl) (fun w' hg => (yl_move hs1466)) ?_
                    refine TP_gp (v := (.int .i64 x1470)) ((!x1468) && (decide (el1496.Lo ≤ el1501.Lo))) rfl (wanted_gt rfl rfl rfl rfl) (fun w' hg => (yl_move hs1471)) ?_
                    obtain ⟨el1511, hel1512, h⟩ := bind_elim h
                    have hat1514 : ((!x1468) && (decide (el1496.Lo ≤ el1501.Lo))) = true → At wd1461 (elemAddr v619 (x1470 : Int).toNat 2) [(.int .i64 el1511.Lo), (.int .i64 el1511.Hi)] := fun hg => by obtain ⟨cs, hat, hrd⟩ := SlRd.at h1465 (cond_t hg hel1512); have hrd : cs = [(.int .i64 el1511.Lo), (.int .i64 el1511.Hi)] := hrd; subst hrd; exact hat
                    refine TP_gp (v := (.pointer (some (elemAddr v619 (x1470 : Int).toNat 2)))) ((!x1468) && (decide (el1496.Lo ≤ el1501.Lo))) rfl (wanted_gt rfl rfl rfl rfl) (fun w' hg => (yl_indexAddr Tryd.underlying29 sz36 h1465 (cond_t hg hel1512) (gd_true hg) (gd_true hg))) ?_
                    refine TP_gp (v := (.pointer (some (Addr.add (elemAddr v619 (x1470 : Int).toNat 2) 1)))) ((!x1468) && (decide (el1496.Lo ≤ el1501.Lo))) rfl (wanted_gt rfl rfl rfl rfl) (fun w' hg => (yl_fa 1 Tryd.underlying36 rfl rfl ⟨0, sz3⟩ (gd_true hg) rfl)) ?_
                    refine TP_gq (v := (.int .i64 el1506.Hi)) ((!x1468) && (decide (el1496.Lo ≤ el1501.Lo))) rfl (wanted_gt rfl rfl rfl rfl) (fun w' hS hg => (yl_load sc3 (gd_true hg) (At.drop ((hat1509 hg).ext' ((he1494).trans hS)) 1))) ?_
                    refine TP_gq (v := (.int .i64 el1511.Hi)) ((!x1468) && (decide (el1496.Lo ≤ el1501.Lo))) rfl (wanted_gt rfl rfl rfl rfl) (fun w' hS hg => (yl_load sc3 (gd_true hg) (At.drop ((hat1514 hg).ext' ((he1494).trans hS)) 1))) ?_
                    refine TP_gp (v := (.bool (decide (el1506.Hi ≤ el1511.Hi)))) ((!x1468) && (decide (el1496.Lo ≤ el1501.Lo))) rfl (wanted_gt rfl rfl rfl rfl) (fun w' hg => (yl_leq (gd_true hg) (gd_true hg))) ?_
                    refine TP_gp (v := (.bool ((decide (el1496.Lo ≤ el1501.Lo)) && (decide (el1506.Hi ≤ el1511.Hi))))) (!x1468) rfl (wanted_f rfl rfl rfl rfl) (fun w' hg => (yl_and (gd_true hg) (fun hb => (gd_true (and_i hg hb))) rfl)) ?_
                    refine TP_p (v := (.bool (x1468 || ((decide (el1496.Lo ≤ el1501.Lo)) && (decide (el1506.Hi ≤ el1511.Hi)))))) rfl rfl (fun w' => (yl_or rfl rfl (fun hb => (gd_true (not_t hb))))) ?_
                    refine TP_p (v := (.bool (x1468 || ((decide (el1496.Lo ≤ el1501.Lo)) && (decide (el1506.Hi ≤ el1511.Hi)))))) rfl rfl (fun w' => (yl_assign rfl)) ?_
                    refine TP_done ?_
                    refine hK1492 _ _ ?_
                    refine WC_region ?_
                    refine T0_q (v := (.int .i64 x1470)) rfl (yl_move hs1471) ?_
                    refine T0_q (v := (.int .i64 (w64 (x1470 + 1)))) rfl (yl_add rfl rfl) ?_
                    refine T0_q (v := (.int .i64 (w64 (x1470 + 1)))) rfl (yl_assign rfl) ?_
                    refine T0_nil ?_
                    replace h := some_out h
                    subst h
                    refine hK1486 _ _ _ rfl ?_
                    exact ⟨(x1468 || ((decide (el1496.Lo ≤ el1501.Lo)) && (decide (el1506.Hi ≤ el1511.Hi)))), w64 (x1470 + 1), rfl, hs1464, hs1466, hs1467, rfl, rfl, (h1463.ext he1494), (h1465.ext he1494), e1495⟩
                  · replace h := cond_f hb1491 h
                    refine WC_exit ?_
                    replace h := some_out h
                    subst h
                    have ho := hx1485 _ rfl
                    subst ho
                    refine hK1487 _ _ ?_
                    exact ⟨x1468, rfl, hs1464, hs1466, hs1467, hs1469, h1463, h1465, e1462⟩
                · rintro ρ wd1472 ⟨x1479, rfl, hs1475, hs1477, hs1478, hs1480, h1474, h1476, e1473⟩
                  replace h := hn1483
                  refine hK1347 _ _ ?_
                  refine WC_seqK fun K1516 hK1516 => ?_
                  refine WC_region ?_
                  refine T0_q (v := (.bool x1479)) rfl (yl_move hs1480) ?_
                  refine T0_q (v := (.bool (!x1479))) rfl (yl_not rfl) ?_
                  refine T0_nil ?_
                  refine hK1516 _ _ ?_
                  refine WC_cond (b := (!x1479)) rfl (fun hb1517 => ?_) (fun hb1517 => ?_)
                  · replace h := cond_t hb1517 h
                    refine WC_seqK fun K1518 hK1518 => ?_
                    refine WC_region ?_
                    refine T0_q (v := (.bool false)) rfl (yl_assign rfl) ?_
                    refine T0_nil ?_
                    refine hK1518 _ _ ?_
                    refine WC_ret ?_
                    replace h := some_out h
                    subst h
                    have ho := hx1338 _ rfl
                    subst ho
                    replace h := jn0_inl hn1336
                    replace h := some_out h
                    subst h
                    exact ⟨[(.bool false)], ⟨rfl, trivial⟩, e1473, rfl⟩
                  · replace h := cond_f hb1517 h
                    refine WC_skip ?_
                    refine hK1345 _ _ ?_
                    refine WC_region ?_
                    refine T0_q (v := (.int .i64 x1330)) rfl (yl_move hs1478) ?_
                    refine T0_q (v := (.int .i64 (w64 (x1330 + 1)))) rfl (yl_add rfl rfl) ?_
                    refine T0_q (v := (.int .i64 (w64 (x1330 + 1)))) rfl (yl_assign rfl) ?_
                    refine T0_nil ?_
                    replace h := some_out h
                    subst h
                    refine hK1339 _ _ _ rfl ?_
                    exact ⟨w64 (x1330 + 1), rfl, hs1475, hs1477, rfl, h1474, h1476, e1473⟩
              · replace h := cond_f hb1344 h
                refine WC_exit ?_
                replace h := some_out h
                subst h
                have ho := hx1338 _ rfl
                subst ho
                refine hK1340 _ _ ?_
                exact ⟨rfl, e1325⟩
            · rintro ρ wd1332 ⟨rfl, e1333⟩
              replace h := jn0_inr hn1336
              refine hK768 _ _ ?_
              refine WC_seqK fun K1519 hK1519 => ?_
              refine WC_region ?_
              refine T0_q (v := (.bool true)) rfl (yl_assign rfl) ?_
              refine T0_nil ?_
              refine hK1519 _ _ ?_
              refine WC_ret ?_
              replace h := some_out h
              subst h
              exact ⟨[(.bool true)], ⟨rfl, trivial⟩, e1333, rfl⟩

end Go.Gw
