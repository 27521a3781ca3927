/- What functions come to, printed by a program of this work. No condition. -/
import Derived.Test.YtgpapebgdnimfaaDoorGwFnC
set_option maxRecDepth 4096
set_option maxHeartbeats 1000000
set_option linter.unusedVariables false
namespace Go.Gw
open Go Go.Proofs
attribute [local irreducible] T0 TS TT TP Eff Stp WC Quiet gd
noncomputable def law04_Short_spec (p_t : LocateTrack) : Option Bool :=
  some ((decide ((p_t.Vanes.length : Int) ≤ 16)) || ((decide (40 < (p_t.Vanes.length : Int))) && (decide ((p_t.Vanes.length : Int) ≤ 42))))
theorem law04_Short_ok (L : List Value) (w : World) (hL : LtL L w) (cs_p_t : List Value) (p_t : LocateTrack) (h_p_t : Rep.rd L w cs_p_t p_t) (r : Bool) (h : law04_Short_spec p_t = some r) :
    CallsTo Tryd.prog 19 [(.agg cs_p_t.toArray)] w (fun v w' => Ext w w' ∧ (.bool r) = v) := by
  have e0 : Ext w w := Chg.refl _ _
  obtain ⟨v1, h2, rfl⟩ := h_p_t
  refine callsTo_of_WC (n := 19) (rs := [.tmp 2]) Tryd.func19 rfl rfl rfl rfl rfl ?_
  refine WC_seqK fun K4 hK4 => ?_
  refine WC_region ?_
  refine T0_e rfl (eff_boxC (cs := [v1, (.int .i64 p_t.Window), (.int .i64 p_t.Tooth), (.int .i64 p_t.PerVane), (.int .i64 p_t.First), (.int .i64 p_t.Modulus), (.int .i64 p_t.Slack), (.int .i64 p_t.Errors), (.bool p_t.Round)]) rfl rfl ?_)
  intro b5 wd6 hb7 he8 hB9
  have hbf10 := bfresh e0 hb7
  have e11 := e0.trans he8
  refine T0_q (v := (.bool false)) rfl (yl_assign rfl) ?_
  refine T0_nil ?_
  refine hK4 _ _ ?_
  refine WC_seqK fun K13 hK13 => ?_
  refine WC_region ?_
  refine T0_q (v := (.pointer (some ⟨b5, 0, none⟩))) rfl (yl_fa 0 Tryd.underlying24 rfl rfl ⟨0, sz22⟩ rfl rfl) ?_
  refine T0_q (v := v1) rfl (yl_load sc22 rfl (Box.at hB9)) ?_
  refine T0_q (v := (.int .i64 (p_t.Vanes.length : Int))) rfl (yl_lenR rfl Tryd.underlying22 h2 rfl) ?_
  refine T0_q (v := (.bool (decide ((p_t.Vanes.length : Int) ≤ 16)))) rfl (yl_leq rfl rfl) ?_
  refine T0_q (v := (.bool (decide ((p_t.Vanes.length : Int) ≤ 16)))) rfl (yl_move rfl) ?_
  refine T0_g (v := (.pointer (some ⟨b5, 0, none⟩))) (!(decide ((p_t.Vanes.length : Int) ≤ 16))) (wanted_f rfl rfl rfl rfl) (fun hg => (yl_fa 0 Tryd.underlying24 rfl rfl ⟨0, sz22⟩ rfl rfl)) ?_
  refine T0_g (v := v1) (!(decide ((p_t.Vanes.length : Int) ≤ 16))) (wanted_f rfl rfl rfl rfl) (fun hg => (yl_load sc22 (gd_true hg) (Box.at hB9))) ?_
  refine T0_g (v := (.int .i64 (p_t.Vanes.length : Int))) (!(decide ((p_t.Vanes.length : Int) ≤ 16))) (wanted_f rfl rfl rfl rfl) (fun hg => (yl_lenR rfl Tryd.underlying22 h2 (gd_true hg))) ?_
  refine T0_g (v := (.bool (decide (40 < (p_t.Vanes.length : Int))))) (!(decide ((p_t.Vanes.length : Int) ≤ 16))) (wanted_f rfl rfl rfl rfl) (fun hg => (yl_gtr (gd_true hg) rfl)) ?_
  refine T0_g (v := (.bool (decide (40 < (p_t.Vanes.length : Int))))) (!(decide ((p_t.Vanes.length : Int) ≤ 16))) (wanted_f rfl rfl rfl rfl) (fun hg => (yl_move (gd_true hg))) ?_
  refine T0_g (v := (.pointer (some ⟨b5, 0, none⟩))) ((!(decide ((p_t.Vanes.length : Int) ≤ 16))) && (decide (40 < (p_t.Vanes.length : Int)))) (wanted_gt rfl rfl rfl rfl) (fun hg => (yl_fa 0 Tryd.underlying24 rfl rfl ⟨0, sz22⟩ rfl rfl)) ?_
  refine T0_g (v := v1) ((!(decide ((p_t.Vanes.length : Int) ≤ 16))) && (decide (40 < (p_t.Vanes.length : Int)))) (wanted_gt rfl rfl rfl rfl) (fun hg => (yl_load sc22 (gd_true hg) (Box.at hB9))) ?_
  refine T0_g (v := (.int .i64 (p_t.Vanes.length : Int))) ((!(decide ((p_t.Vanes.length : Int) ≤ 16))) && (decide (40 < (p_t.Vanes.length : Int)))) (wanted_gt rfl rfl rfl rfl) (fun hg => (yl_lenR rfl Tryd.underlying22 h2 (gd_true hg))) ?_
  refine T0_g (v := (.bool (decide ((p_t.Vanes.length : Int) ≤ 42)))) ((!(decide ((p_t.Vanes.length : Int) ≤ 16))) && (decide (40 < (p_t.Vanes.length : Int)))) (wanted_gt rfl rfl rfl rfl) (fun hg => (yl_leq (gd_true hg) rfl)) ?_
  refine T0_g (v := (.bool ((decide (40 < (p_t.Vanes.length : Int))) && (decide ((p_t.Vanes.length : Int) ≤ 42))))) (!(decide ((p_t.Vanes.length : Int) ≤ 16))) (wanted_f rfl rfl rfl rfl) (fun hg => (yl_and (gd_true hg) (fun hb => (gd_true (and_i hg hb))) rfl)) ?_
  refine T0_q (v := (.bool ((decide ((p_t.Vanes.length : Int) ≤ 16)) || ((decide (40 < (p_t.Vanes.length : Int))) && (decide ((p_t.Vanes.length : Int) ≤ 42)))))) rfl (yl_or rfl rfl (fun hb => (gd_true (not_t hb)))) ?_
  refine T0_q (v := (.bool ((decide ((p_t.Vanes.length : Int) ≤ 16)) || ((decide (40 < (p_t.Vanes.length : Int))) && (decide ((p_t.Vanes.length : Int) ≤ 42)))))) rfl (yl_assign rfl) ?_
  refine T0_nil ?_
  refine hK13 _ _ ?_
  refine WC_ret ?_
  replace h := some_out h
  subst h
  exact ⟨[(.bool ((decide ((p_t.Vanes.length : Int) ≤ 16)) || ((decide (40 < (p_t.Vanes.length : Int))) && (decide ((p_t.Vanes.length : Int) ≤ 42)))))], ⟨rfl, trivial⟩, e11, rfl⟩

noncomputable def ref04_CopyReading_spec (p_x : LocateReading) : Option LocateReading :=
  (Option.bind (base_CopyInts_spec p_x.Seen) fun r28 =>
  some (LocateReading.mk r28 p_x.Count)
  )
theorem ref04_CopyReading_ok (L : List Value) (w : World) (hL : LtL L w) (cs_p_x : List Value) (p_x : LocateReading) (h_p_x : Rep.rd L w cs_p_x p_x) (r : LocateReading) (h : ref04_CopyReading_spec p_x = some r) :
    CallsTo Tryd.prog 22 [(.agg cs_p_x.toArray)] w (fun v w' => Ext w w' ∧ ∃ (cs0 : List Value), (.agg cs0.toArray) = v ∧ Rep.rd L w' cs0 r) := by
  have e0 : Ext w w := Chg.refl _ _
  obtain ⟨v1, h2, rfl⟩ := h_p_x
  refine callsTo_of_WC (n := 9) (rs := [.cell 2 26]) Tryd.func22 rfl rfl rfl rfl rfl ?_
  refine WC_seqK fun K4 hK4 => ?_
  refine WC_region ?_
  refine T0_e rfl (eff_boxC (cs := [v1, (.int .i64 p_x.Count)]) rfl rfl ?_)
  intro b5 wd6 hb7 he8 hB9
  have hbf10 := bfresh e0 hb7
  have e11 := e0.trans he8
  refine T0_e rfl (eff_allocZ zi26 ?_)
  intro b13 wd14 hb15 he16 hB17
  have hn18 : b13 ≠ b5 := box_ne hB9 hb15
  have hbf19 := bfresh e11 hb15
  have h20 := (h2.ext he8).step (add_box he16 hb15)
  have e21 := e11.trans he16
  refine T0_nil ?_
  refine hK4 _ _ ?_
  refine WC_seqK fun K23 hK23 => ?_
  refine WC_plan mixed (.p 0 (.p 3 (.q 1 (.q 4 (.e 2 (.p 5 (.b 6 .done))))))) (by kernel_rfl) ?_
  intro wd24 he25
  have e26 := he16.trans he25
  have e27 := e21.trans he25
  refine TP_p (v := (.pointer (some ⟨b5, 0, none⟩))) rfl rfl (fun w' => (yl_fa 0 Tryd.underlying26 rfl rfl ⟨0, sz22⟩ rfl rfl)) ?_
  refine TP_p (v := (.pointer (some ⟨b5, 1, none⟩))) rfl rfl (fun w' => (yl_fa 1 Tryd.underlying26 rfl rfl ⟨0, sz3⟩ rfl rfl)) ?_
  refine TP_q (v := v1) rfl rfl (fun w' hS => (yl_load sc22 rfl (Box.at (hB9.ext ((e26).trans hS))))) ?_
  refine TP_q (v := (.int .i64 p_x.Count)) rfl rfl (fun w' hS => (yl_load sc3 rfl (At.drop (Box.at (hB9.ext ((e26).trans hS))) 1))) ?_
  obtain ⟨r28, hr29, h⟩ := bind_elim h
  refine TP_e rfl rfl (eff_call Tryd.func30 nm30 rfl (ev1 rfl) (base_CopyInts_own ((.pointer (some ⟨b13, 0, none⟩)) :: L) _ (ltl_box (hL.chg e27) (hB17.ext he25)) v1 p_x.Seen (h20.ext he25) r28 hr29) ?_)
  rintro _ wd30 ⟨he31, v32, rfl, hf34, h33⟩
  have h35 := (h20.ext he25).step (Stepp.add v32 he31 hf34)
  have hn37 : blk v32 ≠ some b5 := fun e => by have := hf34 _ e; have := (hB9.ext e26).lt; omega
  have hn38 : blk v32 ≠ some b13 := fun e => by have := hf34 _ e; have := (hB17.ext he25).lt; omega
  have hf39 : ∀ b, blk v32 = some b → w.heap.size ≤ b := fun b hb => Nat.le_trans e27.size (hf34 b hb)
  have e40 := he25.trans he31
  have e41 := e26.trans he31
  have e42 := e27.trans he31
  refine ⟨he31, ?_⟩
  refine TP_p (v := (.agg (List.toArray [v32, (.int .i64 p_x.Count)]))) rfl rfl (fun w' => (yl_buildC (cells := [v32, (.int .i64 p_x.Count)]) bi26 (pc_cons rfl (cells_one h33.one1) (pc_cons rfl rfl pc_nil)) rfl)) ?_
  refine TP_b rfl rfl (eff_storeC (vs := [v32, (.int .i64 p_x.Count)]) (cs' := [v32, (.int .i64 p_x.Count)]) sz26 rfl rfl rfl rfl (hB17.ext e40) rfl (oc_cons h33.one1 (oc_cons rfl oc_nil)) rfl ?_)
  intro wd44 hc45 hB46
  have h47 := h35.step (Stepp.chg_mem hc45 (memS mem0))
  have h48 := (hB9.ext e41).chg hc45 (avoidb hn18)
  have h49 := h33.step (Stepp.chg_mem hc45 (memS mem0)) hc45 (av_box hn38)
  have e50 := chg_box e42 hc45 hbf19
  refine TP_done ?_
  refine hK23 _ _ ?_
  refine WC_ret ?_
  replace h := some_out h
  subst h
  exact ⟨[(.agg (List.toArray [v32, (.int .i64 p_x.Count)]))], ⟨⟨_, rfl, run_loadVarA (cs := [v32, (.int .i64 p_x.Count)]) ag26 (Box.at hB46)⟩, trivial⟩, e50, [v32, (.int .i64 p_x.Count)], rfl, ⟨v32, (h49.rdL (sub_skip (sub_skip (sub_refl _))) hL hf39), rfl⟩⟩
theorem ref04_CopyReading_own (L : List Value) (w : World) (hL : LtL L w) (cs_p_x : List Value) (p_x : LocateReading) (h_p_x : Rep.rd L w cs_p_x p_x) (r : LocateReading) (h : ref04_CopyReading_spec p_x = some r) :
    CallsTo Tryd.prog 22 [(.agg cs_p_x.toArray)] w (fun v w' => Ext w w' ∧ ∃ (v4 : Value), (.agg (List.toArray [v4, (.int .i64 r.Count)])) = v ∧ (∀ b, blk v4 = some b → w.heap.size ≤ b) ∧ Own 3 (v4 :: L) w' v4 r.Seen) := by
  have e0 : Ext w w := Chg.refl _ _
  obtain ⟨v1, h2, rfl⟩ := h_p_x
  refine callsTo_of_WC (n := 9) (rs := [.cell 2 26]) Tryd.func22 rfl rfl rfl rfl rfl ?_
  refine WC_seqK fun K6 hK6 => ?_
  refine WC_region ?_
  refine T0_e rfl (eff_boxC (cs := [v1, (.int .i64 p_x.Count)]) rfl rfl ?_)
  intro b7 wd8 hb9 he10 hB11
  have hbf12 := bfresh e0 hb9
  have e13 := e0.trans he10
  refine T0_e rfl (eff_allocZ zi26 ?_)
  intro b15 wd16 hb17 he18 hB19
  have hn20 : b15 ≠ b7 := box_ne hB11 hb17
  have hbf21 := bfresh e13 hb17
  have h22 := (h2.ext he10).step (add_box he18 hb17)
  have e23 := e13.trans he18
  refine T0_nil ?_
  refine hK6 _ _ ?_
  refine WC_seqK fun K25 hK25 => ?_
  refine WC_plan mixed (.p 0 (.p 3 (.q 1 (.q 4 (.e 2 (.p 5 (.b 6 .done))))))) (by kernel_rfl) ?_
  intro wd26 he27
  have e28 := he18.trans he27
  have e29 := e23.trans he27
  refine TP_p (v := (.pointer (some ⟨b7, 0, none⟩))) rfl rfl (fun w' => (yl_fa 0 Tryd.underlying26 rfl rfl ⟨0, sz22⟩ rfl rfl)) ?_
  refine TP_p (v := (.pointer (some ⟨b7, 1, none⟩))) rfl rfl (fun w' => (yl_fa 1 Tryd.underlying26 rfl rfl ⟨0, sz3⟩ rfl rfl)) ?_
  refine TP_q (v := v1) rfl rfl (fun w' hS => (yl_load sc22 rfl (Box.at (hB11.ext ((e28).trans hS))))) ?_
  refine TP_q (v := (.int .i64 p_x.Count)) rfl rfl (fun w' hS => (yl_load sc3 rfl (At.drop (Box.at (hB11.ext ((e28).trans hS))) 1))) ?_
  obtain ⟨r30, hr31, h⟩ := bind_elim h
  refine TP_e rfl rfl (eff_call Tryd.func30 nm30 rfl (ev1 rfl) (base_CopyInts_own ((.pointer (some ⟨b15, 0, none⟩)) :: L) _ (ltl_box (hL.chg e29) (hB19.ext he27)) v1 p_x.Seen (h22.ext he27) r30 hr31) ?_)
  rintro _ wd32 ⟨he33, v34, rfl, hf36, h35⟩
  have h37 := (h22.ext he27).step (Stepp.add v34 he33 hf36)
  have hn39 : blk v34 ≠ some b7 := fun e => by have := hf36 _ e; have := (hB11.ext e28).lt; omega
  have hn40 : blk v34 ≠ some b15 := fun e => by have := hf36 _ e; have := (hB19.ext he27).lt; omega
  have hf41 : ∀ b, blk v34 = some b → w.heap.size ≤ b := fun b hb => Nat.le_trans e29.size (hf36 b hb)
  have e42 := he27.trans he33
  have e43 := e28.trans he33
  have e44 := e29.trans he33
  refine ⟨he33, ?_⟩
  refine TP_p (v := (.agg (List.toArray [v34, (.int .i64 p_x.Count)]))) rfl rfl (fun w' => (yl_buildC (cells := [v34, (.int .i64 p_x.Count)]) bi26 (pc_cons rfl (cells_one h35.one1) (pc_cons rfl rfl pc_nil)) rfl)) ?_
  refine TP_b rfl rfl (eff_storeC (vs := [v34, (.int .i64 p_x.Count)]) (cs' := [v34, (.int .i64 p_x.Count)]) sz26 rfl rfl rfl rfl (hB19.ext e42) rfl (oc_cons h35.one1 (oc_cons rfl oc_nil)) rfl ?_)
  intro wd46 hc47 hB48
  have h49 := h37.step (Stepp.chg_mem hc47 (memS mem0))
  have h50 := (hB11.ext e43).chg hc47 (avoidb hn20)
  have h51 := h35.step (Stepp.chg_mem hc47 (memS mem0)) hc47 (av_box hn40)
  have e52 := chg_box e44 hc47 hbf21
  refine TP_done ?_
  refine hK25 _ _ ?_
  refine WC_ret ?_
  replace h := some_out h
  subst h
  exact ⟨[(.agg (List.toArray [v34, (.int .i64 p_x.Count)]))], ⟨⟨_, rfl, run_loadVarA (cs := [v34, (.int .i64 p_x.Count)]) ag26 (Box.at hB48)⟩, trivial⟩, e52, v34, rfl, hf41, (h51.sub (sub_cons mem0 (sub_skip (sub_skip (sub_refl _)))))⟩

noncomputable def ref04_ReadingErr_spec (p_t : LocateTrack) (p_x : LocateReading) : Option Int :=
  (Option.bind (ref04_SeenErr_spec p_t p_x.Seen) fun r28 =>
  (bif (!decide (r28 = 0)) then (
    some r28
  ) else (
    (Option.bind (base_Within_spec p_x.Count 0 (w64 (p_t.Modulus - 1))) fun r40 =>
    (bif (!r40) then (
      some 2
    ) else (
      some 0
    ))
    )
  ))
  )
theorem ref04_ReadingErr_ok (L : List Value) (w : World) (hL : LtL L w) (cs_p_t : List Value) (p_t : LocateTrack) (h_p_t : Rep.rd L w cs_p_t p_t) (cs_p_x : List Value) (p_x : LocateReading) (h_p_x : Rep.rd L w cs_p_x p_x) (r : Int) (h : ref04_ReadingErr_spec p_t p_x = some r) :
    CallsTo Tryd.prog 25 [(.agg cs_p_t.toArray), (.agg cs_p_x.toArray)] w (fun v w' => Ext w w' ∧ (.int .i64 r) = v) := by
  have e0 : Ext w w := Chg.refl _ _
  obtain ⟨v1, h2, rfl⟩ := h_p_t
  obtain ⟨v4, h5, rfl⟩ := h_p_x
  refine callsTo_of_WC (n := 20) (rs := [.tmp 4]) Tryd.func25 rfl rfl rfl rfl rfl ?_
  refine WC_seqK fun K7 hK7 => ?_
  refine WC_region ?_
  refine T0_e rfl (eff_boxC (cs := [v1, (.int .i64 p_t.Window), (.int .i64 p_t.Tooth), (.int .i64 p_t.PerVane), (.int .i64 p_t.First), (.int .i64 p_t.Modulus), (.int .i64 p_t.Slack), (.int .i64 p_t.Errors), (.bool p_t.Round)]) rfl rfl ?_)
  intro b8 wd9 hb10 he11 hB12
  have hbf13 := bfresh e0 hb10
  have e14 := e0.trans he11
  refine T0_e rfl (eff_boxC (cs := [v4, (.int .i64 p_x.Count)]) rfl rfl ?_)
  intro b16 wd17 hb18 he19 hB20
  have hn21 : b16 ≠ b8 := box_ne hB12 hb18
  have hbf22 := bfresh e14 hb18
  have e23 := he11.trans he19
  have e24 := e14.trans he19
  refine T0_q (v := (.int .i64 0)) rfl (yl_assign rfl) ?_
  refine T0_nil ?_
  refine hK7 _ _ ?_
  refine WC_seqK fun K26 hK26 => ?_
  refine WC_seqK fun K27 hK27 => ?_
  refine WC_region ?_
  refine T0_q (v := (.agg (List.toArray [v1, (.int .i64 p_t.Window), (.int .i64 p_t.Tooth), (.int .i64 p_t.PerVane), (.int .i64 p_t.First), (.int .i64 p_t.Modulus), (.int .i64 p_t.Slack), (.int .i64 p_t.Errors), (.bool p_t.Round)]))) rfl (yl_loadA (cs := [v1, (.int .i64 p_t.Window), (.int .i64 p_t.Tooth), (.int .i64 p_t.PerVane), (.int .i64 p_t.First), (.int .i64 p_t.Modulus), (.int .i64 p_t.Slack), (.int .i64 p_t.Errors), (.bool p_t.Round)]) ag24 rfl (Box.at (hB12.ext he19))) ?_
  refine T0_q (v := (.pointer (some ⟨b16, 0, none⟩))) rfl (yl_fa 0 Tryd.underlying26 rfl rfl ⟨0, sz22⟩ rfl rfl) ?_
  refine T0_q (v := v4) rfl (yl_load sc22 rfl (Box.at hB20)) ?_
  obtain ⟨r28, hr29, h⟩ := bind_elim h
  refine T0_e rfl (eff_call Tryd.func40 nm40 rfl (ev2 rfl rfl) (ref04_SeenErr_ok [] _ (LtL.nil _) [v1, (.int .i64 p_t.Window), (.int .i64 p_t.Tooth), (.int .i64 p_t.PerVane), (.int .i64 p_t.First), (.int .i64 p_t.Modulus), (.int .i64 p_t.Slack), (.int .i64 p_t.Errors), (.bool p_t.Round)] p_t ⟨v1, ((h2.ext e23).sub (fun _ h => by cases h)), rfl⟩ v4 p_x.Seen ((h5.ext e23).sub (fun _ h => by cases h)) r28 hr29) ?_)
  rintro _ wd30 ⟨he31, rfl⟩
  have e32 := e23.trans he31
  have e33 := he19.trans he31
  have e34 := e24.trans he31
  refine T0_q (v := (.int .i64 r28)) rfl (yl_assign rfl) ?_
  refine T0_nil ?_
  refine hK27 _ _ ?_
  refine WC_seqK fun K35 hK35 => ?_
  refine WC_region ?_
  refine T0_q (v := (.int .i64 r28)) rfl (yl_move rfl) ?_
  refine T0_q (v := (.bool (!decide (r28 = 0)))) rfl (yl_neq rfl rfl) ?_
  refine T0_nil ?_
  refine hK35 _ _ ?_
  refine WC_cond (b := (!decide (r28 = 0))) rfl (fun hb36 => ?_) (fun hb36 => ?_)
  · replace h := cond_t hb36 h
    refine WC_seqK fun K37 hK37 => ?_
    refine WC_region ?_
    refine T0_q (v := (.int .i64 r28)) rfl (yl_move rfl) ?_
    refine T0_q (v := (.int .i64 r28)) rfl (yl_assign rfl) ?_
    refine T0_nil ?_
    refine hK37 _ _ ?_
    refine WC_ret ?_
    replace h := some_out h
    subst h
    exact ⟨[(.int .i64 r28)], ⟨rfl, trivial⟩, e34, rfl⟩
  · replace h := cond_f hb36 h
    refine WC_skip ?_
    refine hK26 _ _ ?_
    refine WC_seqK fun K38 hK38 => ?_
    refine WC_seqK fun K39 hK39 => ?_
    refine WC_region ?_
    refine T0_q (v := (.pointer (some ⟨b16, 1, none⟩))) rfl (yl_fa 1 Tryd.underlying26 rfl rfl ⟨0, sz3⟩ rfl rfl) ?_
    refine T0_q (v := (.int .i64 p_x.Count)) rfl (yl_load sc3 rfl (At.drop (Box.at (hB20.ext he31)) 1)) ?_
    refine T0_q (v := (.pointer (some ⟨b8, 5, none⟩))) rfl (yl_fa 5 Tryd.underlying24 rfl rfl ⟨0, sz3⟩ rfl rfl) ?_
    refine T0_q (v := (.int .i64 p_t.Modulus)) rfl (yl_load sc3 rfl (At.drop (Box.at (hB12.ext e33)) 5)) ?_
    refine T0_q (v := (.int .i64 (w64 (p_t.Modulus - 1)))) rfl (yl_sub rfl rfl) ?_
    obtain ⟨r40, hr41, h⟩ := bind_elim h
    refine T0_e rfl (eff_call Tryd.func35 nm35 rfl (ev3 rfl rfl rfl) (base_Within_ok [] _ (LtL.nil _) p_x.Count 0 (w64 (p_t.Modulus - 1)) r40 hr41) ?_)
    rintro _ wd42 ⟨he43, rfl⟩
    have e44 := e32.trans he43
    have e45 := he31.trans he43
    have e46 := e33.trans he43
    have e47 := e34.trans he43
    refine T0_q (v := (.bool (!r40))) rfl (yl_not rfl) ?_
    refine T0_nil ?_
    refine hK39 _ _ ?_
    refine WC_cond (b := (!r40)) rfl (fun hb48 => ?_) (fun hb48 => ?_)
    · replace h := cond_t hb48 h
      refine WC_seqK fun K49 hK49 => ?_
      refine WC_region ?_
      refine T0_q (v := (.int .i64 2)) rfl (yl_assign rfl) ?_
      refine T0_nil ?_
      refine hK49 _ _ ?_
      refine WC_ret ?_
      replace h := some_out h
      subst h
      exact ⟨[(.int .i64 2)], ⟨rfl, trivial⟩, e47, rfl⟩
    · replace h := cond_f hb48 h
      refine WC_skip ?_
      refine hK38 _ _ ?_
      refine WC_seqK fun K50 hK50 => ?_
      refine WC_region ?_
      refine T0_q (v := (.int .i64 0)) rfl (yl_assign rfl) ?_
      refine T0_nil ?_
      refine hK50 _ _ ?_
      refine WC_ret ?_
      replace h := some_out h
      subst h
      exact ⟨[(.int .i64 0)], ⟨rfl, trivial⟩, e47, rfl⟩

noncomputable def law04_LocatePossibles_spec (p_Listappend : LocateTrack) (p_String : LocateReading) : Option Bool :=
  (Option.bind (law04_awake_spec) fun r28 =>
  (bif (!r28) then (
    some false
  ) else (
    (Option.bind (law04_Short_spec p_Listappend) fun r39 =>
    (bif ((!r39) || (decide (14 < (p_String.Seen.length : Int)))) then (
      some true
    ) else (
      (Option.bind (ref04_Copy_spec p_Listappend) fun r56 =>
      (Option.bind (ref04_CopyReading_spec p_String) fun r69 =>
      (Option.bind (locate_Possible_spec r56 r69) fun r83 =>
      (Option.bind (ref04_Copy_spec p_Listappend) fun r105 =>
      (Option.bind (ref04_CopyReading_spec p_String) fun r121 =>
      (Option.bind (locate_PlaceOf_spec r105 r121) fun r138 =>
      (Option.bind (ref04_TrackErr_spec p_Listappend) fun r187 =>
      (Option.bind (α := (Int)) (
        (bif (decide (r187 = 0)) then (
          (Option.bind (ref04_ReadingErr_spec p_Listappend p_String) fun r225 =>
          some r225
          )
        ) else (
          some r187
        ))
      ) fun (x210 : Int) =>
      (bif (!decide (x210 = 0)) then (
        some ((((decide (r83.2 = x210)) && (decide (r138.2 = x210))) && (decide ((r83.1.length : Int) = 0))) && (decide ((Range.mk r138.1.Lo r138.1.Hi) = (Range.mk 0 0))))
      ) else (
        (Option.bind (ref04_Possible_spec p_Listappend p_String) fun r236 =>
        (Option.bind (bif (!(!decide (r83.2 = 0))) then base_Ranges_spec r83.1 r236 else some default) fun r246 =>
        (bif ((!decide (r83.2 = 0)) || (!r246)) then (
          some false
        ) else (
          (bif (decide ((r236.length : Int) = 1)) then (
            (Option.bind ((bif (decide (r138.2 = 0)) then idx r236 0 else some default)) fun el263 =>
            some ((decide (r138.2 = 0)) && (decide ((Range.mk r138.1.Lo r138.1.Hi) = el263)))
            )
          ) else (
            some ((decide ((Range.mk r138.1.Lo r138.1.Hi) = (Range.mk 0 0))) && (((decide ((r236.length : Int) = 0)) && (decide (r138.2 = 12))) || ((decide (1 < (r236.length : Int))) && (decide (r138.2 = 29)))))
          ))
        ))
        )
        )
      ))
      )
      )
      )
      )
      )
      )
      )
      )
    ))
    )
  ))
  )
theorem law04_LocatePossibles_ok (L : List Value) (w : World) (hL : LtL L w) (hg0 : At w ⟨0, 0, none⟩ [.int .i64 0, .int .i64 1, .int .i64 3, .int .i64 2]) (cs_p_Listappend : List Value) (p_Listappend : LocateTrack) (h_p_Listappend : Rep.rd L w cs_p_Listappend p_Listappend) (cs_p_String : List Value) (p_String : LocateReading) (h_p_String : Rep.rd L w cs_p_String p_String) (r : Bool) (h : law04_LocatePossibles_spec p_Listappend p_String = some r) :
    CallsTo Tryd.prog 3 [(.agg cs_p_Listappend.toArray), (.agg cs_p_String.toArray)] w (fun v w' => Ext w w' ∧ (.bool r) = v) := by
  have e0 : Ext w w := Chg.refl _ _
  obtain ⟨v1, h2, rfl⟩ := h_p_Listappend
  obtain ⟨v4, h5, rfl⟩ := h_p_String
  refine callsTo_of_WC (n := 109) (rs := [.tmp 4]) Tryd.func3 rfl rfl rfl rfl rfl ?_
  refine WC_seqK fun K7 hK7 => ?_
  refine WC_region ?_
  refine T0_e rfl (eff_boxC (cs := [v1, (.int .i64 p_Listappend.Window), (.int .i64 p_Listappend.Tooth), (.int .i64 p_Listappend.PerVane), (.int .i64 p_Listappend.First), (.int .i64 p_Listappend.Modulus), (.int .i64 p_Listappend.Slack), (.int .i64 p_Listappend.Errors), (.bool p_Listappend.Round)]) rfl rfl ?_)
  intro b8 wd9 hb10 he11 hB12
  have hbf13 := bfresh e0 hb10
  have e14 := e0.trans he11
  refine T0_e rfl (eff_boxC (cs := [v4, (.int .i64 p_String.Count)]) rfl rfl ?_)
  intro b16 wd17 hb18 he19 hB20
  have hn21 : b16 ≠ b8 := box_ne hB12 hb18
  have hbf22 := bfresh e14 hb18
  have e23 := he11.trans he19
  have e24 := e14.trans he19
  refine T0_q (v := (.bool false)) rfl (yl_assign rfl) ?_
  refine T0_nil ?_
  refine hK7 _ _ ?_
  refine WC_seqK fun K26 hK26 => ?_
  refine WC_seqK fun K27 hK27 => ?_
  refine WC_region ?_
  obtain ⟨r28, hr29, h⟩ := bind_elim h
  refine T0_e rfl (eff_call Tryd.func18 nm18 rfl ev0 (law04_awake_ok [] _ (LtL.nil _) (hg0.ext e24)  r28 hr29) ?_)
  rintro _ wd30 ⟨he31, rfl⟩
  have e32 := e23.trans he31
  have e33 := he19.trans he31
  have e34 := e24.trans he31
  refine T0_q (v := (.bool (!r28))) rfl (yl_not rfl) ?_
  refine T0_nil ?_
  refine hK27 _ _ ?_
  refine WC_cond (b := (!r28)) rfl (fun hb35 => ?_) (fun hb35 => ?_)
  · replace h := cond_t hb35 h
    refine WC_seqK fun K36 hK36 => ?_
    refine WC_region ?_
    refine T0_q (v := (.bool false)) rfl (yl_assign rfl) ?_
    refine T0_nil ?_
    refine hK36 _ _ ?_
    refine WC_ret ?_
    replace h := some_out h
    subst h
    exact ⟨[(.bool false)], ⟨rfl, trivial⟩, e34, rfl⟩
  · replace h := cond_f hb35 h
    refine WC_skip ?_
    refine hK26 _ _ ?_
    refine WC_seqK fun K37 hK37 => ?_
    refine WC_seqK fun K38 hK38 => ?_
    refine WC_region ?_
    refine T0_q (v := (.agg (List.toArray [v1, (.int .i64 p_Listappend.Window), (.int .i64 p_Listappend.Tooth), (.int .i64 p_Listappend.PerVane), (.int .i64 p_Listappend.First), (.int .i64 p_Listappend.Modulus), (.int .i64 p_Listappend.Slack), (.int .i64 p_Listappend.Errors), (.bool p_Listappend.Round)]))) rfl (yl_loadA (cs := [v1, (.int .i64 p_Listappend.Window), (.int .i64 p_Listappend.Tooth), (.int .i64 p_Listappend.PerVane), (.int .i64 p_Listappend.First), (.int .i64 p_Listappend.Modulus), (.int .i64 p_Listappend.Slack), (.int .i64 p_Listappend.Errors), (.bool p_Listappend.Round)]) ag24 rfl (Box.at (hB12.ext e33))) ?_
    obtain ⟨r39, hr40, h⟩ := bind_elim h
    refine T0_e rfl (eff_call Tryd.func19 nm19 rfl (ev1 rfl) (law04_Short_ok [] _ (LtL.nil _) [v1, (.int .i64 p_Listappend.Window), (.int .i64 p_Listappend.Tooth), (.int .i64 p_Listappend.PerVane), (.int .i64 p_Listappend.First), (.int .i64 p_Listappend.Modulus), (.int .i64 p_Listappend.Slack), (.int .i64 p_Listappend.Errors), (.bool p_Listappend.Round)] p_Listappend ⟨v1, ((h2.ext e32).sub (fun _ h => by cases h)), rfl⟩ r39 hr40) ?_)
    rintro _ wd41 ⟨he42, rfl⟩
    have e43 := e32.trans he42
    have e44 := he31.trans he42
    have e45 := e33.trans he42
    have e46 := e34.trans he42
    refine T0_q (v := (.bool (!r39))) rfl (yl_not rfl) ?_
    refine T0_q (v := (.bool (!r39))) rfl (yl_move rfl) ?_
    refine T0_g (v := (.pointer (some ⟨b16, 0, none⟩))) (!(!r39)) (wanted_f rfl rfl rfl rfl) (fun hg => (yl_fa 0 Tryd.underlying26 rfl rfl ⟨0, sz22⟩ rfl rfl)) ?_
    refine T0_g (v := v4) (!(!r39)) (wanted_f rfl rfl rfl rfl) (fun hg => (yl_load sc22 (gd_true hg) (Box.at (hB20.ext e44)))) ?_
    refine T0_g (v := (.int .i64 (p_String.Seen.length : Int))) (!(!r39)) (wanted_f rfl rfl rfl rfl) (fun hg => (yl_lenR rfl Tryd.underlying22 h5 (gd_true hg))) ?_
    refine T0_g (v := (.bool (decide (14 < (p_String.Seen.length : Int))))) (!(!r39)) (wanted_f rfl rfl rfl rfl) (fun hg => (yl_gtr (gd_true hg) rfl)) ?_
    refine T0_q (v := (.bool ((!r39) || (decide (14 < (p_String.Seen.length : Int)))))) rfl (yl_or rfl rfl (fun hb => (gd_true (not_t hb)))) ?_
    refine T0_nil ?_
    refine hK38 _ _ ?_
    refine WC_cond (b := ((!r39) || (decide (14 < (p_String.Seen.length : Int))))) rfl (fun hb47 => ?_) (fun hb47 => ?_)
    · replace h := cond_t hb47 h
      refine WC_seqK fun K48 hK48 => ?_
      refine WC_region ?_
      refine T0_q (v := (.bool true)) rfl (yl_assign rfl) ?_
      refine T0_nil ?_
      refine hK48 _ _ ?_
      refine WC_ret ?_
      replace h := some_out h
      subst h
      exact ⟨[(.bool true)], ⟨rfl, trivial⟩, e46, rfl⟩
    · replace h := cond_f hb47 h
      refine WC_skip ?_
      refine hK37 _ _ ?_
      refine WC_seqK fun K49 hK49 => ?_
      refine WC_plan mixed (.q 0 (.q 2 (.e 1 (.e 3 (.e 4 (.p 5 (.p 6 (.p 7 (.p 8 (.p 9 .done)))))))))) (by kernel_rfl) ?_
      intro wd50 he51
      have e52 := e43.trans he51
      have e53 := e44.trans he51
      have e54 := e45.trans he51
      have e55 := e46.trans he51
      refine TP_q (v := (.agg (List.toArray [v1, (.int .i64 p_Listappend.Window), (.int .i64 p_Listappend.Tooth), (.int .i64 p_Listappend.PerVane), (.int .i64 p_Listappend.First), (.int .i64 p_Listappend.Modulus), (.int .i64 p_Listappend.Slack), (.int .i64 p_Listappend.Errors), (.bool p_Listappend.Round)]))) rfl rfl (fun w' hS => (yl_loadA (cs := [v1, (.int .i64 p_Listappend.Window), (.int .i64 p_Listappend.Tooth), (.int .i64 p_Listappend.PerVane), (.int .i64 p_Listappend.First), (.int .i64 p_Listappend.Modulus), (.int .i64 p_Listappend.Slack), (.int .i64 p_Listappend.Errors), (.bool p_Listappend.Round)]) ag24 rfl (Box.at (hB12.ext ((e54).trans hS))))) ?_
      refine TP_q (v := (.agg (List.toArray [v4, (.int .i64 p_String.Count)]))) rfl rfl (fun w' hS => (yl_loadA (cs := [v4, (.int .i64 p_String.Count)]) ag26 rfl (Box.at (hB20.ext ((e53).trans hS))))) ?_
      obtain ⟨r56, hr57, h⟩ := bind_elim h
      refine TP_e rfl rfl (eff_call Tryd.func21 nm21 rfl (ev1 rfl) (ref04_Copy_ok L _ (hL.chg e55) [v1, (.int .i64 p_Listappend.Window), (.int .i64 p_Listappend.Tooth), (.int .i64 p_Listappend.PerVane), (.int .i64 p_Listappend.First), (.int .i64 p_Listappend.Modulus), (.int .i64 p_Listappend.Slack), (.int .i64 p_Listappend.Errors), (.bool p_Listappend.Round)] p_Listappend ⟨v1, (h2.ext e52), rfl⟩ r56 hr57) ?_)
      rintro _ wd58 ⟨he59, cs62, rfl, hrd63⟩
      have e64 := e52.trans he59
      have e65 := e53.trans he59
      have e66 := e54.trans he59
      have e67 := e55.trans he59
      obtain ⟨v60, h61, rfl⟩ := hrd63
      refine ⟨he59, ?_⟩
      obtain ⟨r69, hr70, h⟩ := bind_elim h
      refine TP_e rfl rfl (eff_call Tryd.func22 nm22 rfl (ev1 rfl) (ref04_CopyReading_ok L _ (hL.chg e67) [v4, (.int .i64 p_String.Count)] p_String ⟨v4, (h5.ext e64), rfl⟩ r69 hr70) ?_)
      rintro _ wd71 ⟨he72, cs75, rfl, hrd76⟩
      have e77 := e64.trans he72
      have e78 := e65.trans he72
      have e79 := e66.trans he72
      have e80 := he59.trans he72
      have e81 := e67.trans he72
      obtain ⟨v73, h74, rfl⟩ := hrd76
      refine ⟨e80, ?_⟩
      obtain ⟨r83, hr84, h⟩ := bind_elim h
      refine TP_e rfl rfl (eff_call Tryd.func20 nm20 rfl (ev2 rfl rfl) (locate_Possible_ok L _ (hL.chg e81) [v60, (.int .i64 r56.Window), (.int .i64 r56.Tooth), (.int .i64 r56.PerVane), (.int .i64 r56.First), (.int .i64 r56.Modulus), (.int .i64 r56.Slack), (.int .i64 r56.Errors), (.bool r56.Round)] r56 ⟨v60, (h61.ext he72), rfl⟩ [v73, (.int .i64 r69.Count)] r69 ⟨v73, h74, rfl⟩ r83 hr84) ?_)
      rintro _ wd85 ⟨he86, v87, rfl, h88⟩
      have e89 := e77.trans he86
      have e90 := e78.trans he86
      have e91 := he72.trans he86
      have e92 := e79.trans he86
      have e93 := e80.trans he86
      have e94 := e81.trans he86
      refine ⟨e93, ?_⟩
      refine TP_p (v := (.tuple #[v87, (.int .i64 r83.2)])) rfl rfl (fun w' => (yl_move rfl)) ?_
      refine TP_p (v := v87) rfl rfl (fun w' => (yl_extract rfl rfl)) ?_
      refine TP_p (v := (.int .i64 r83.2)) rfl rfl (fun w' => (yl_extract rfl rfl)) ?_
      refine TP_p (v := v87) rfl rfl (fun w' => (yl_assign rfl)) ?_
      refine TP_p (v := (.int .i64 r83.2)) rfl rfl (fun w' => (yl_assign rfl)) ?_
      refine TP_done ?_
      refine hK49 _ _ ?_
      refine WC_seqK fun K96 hK96 => ?_
      refine WC_plan mixed (.q 0 (.q 2 (.f 1 (.f 3 (.f 4 (.p 5 (.p 6 (.p 7 (.e 8 (.b 9 (.p 10 .done)))))) 8 (.e 4 (.p 5 (.p 6 (.p 7 (.b 9 (.p 10 .done))))))) 8 (.e 3 (.e 4 (.p 5 (.p 6 (.p 7 (.b 9 (.p 10 .done)))))))) 8 (.e 1 (.e 3 (.e 4 (.p 5 (.p 6 (.p 7 (.b 9 (.p 10 .done))))))))))) (by kernel_rfl) ?_
      intro wd97 he98
      have e99 := e89.trans he98
      have e100 := e90.trans he98
      have e101 := e91.trans he98
      have e102 := he86.trans he98
      have e103 := e92.trans he98
      have e104 := e94.trans he98
      refine TP_q (v := (.agg (List.toArray [v1, (.int .i64 p_Listappend.Window), (.int .i64 p_Listappend.Tooth), (.int .i64 p_Listappend.PerVane), (.int .i64 p_Listappend.First), (.int .i64 p_Listappend.Modulus), (.int .i64 p_Listappend.Slack), (.int .i64 p_Listappend.Errors), (.bool p_Listappend.Round)]))) rfl rfl (fun w' hS => (yl_loadA (cs := [v1, (.int .i64 p_Listappend.Window), (.int .i64 p_Listappend.Tooth), (.int .i64 p_Listappend.PerVane), (.int .i64 p_Listappend.First), (.int .i64 p_Listappend.Modulus), (.int .i64 p_Listappend.Slack), (.int .i64 p_Listappend.Errors), (.bool p_Listappend.Round)]) ag24 rfl (Box.at (hB12.ext ((e103).trans hS))))) ?_
      refine TP_q (v := (.agg (List.toArray [v4, (.int .i64 p_String.Count)]))) rfl rfl (fun w' hS => (yl_loadA (cs := [v4, (.int .i64 p_String.Count)]) ag26 rfl (Box.at (hB20.ext ((e100).trans hS))))) ?_
      refine TP_f rfl rfl rfl rfl ?_ ?_
      · skip
        obtain ⟨r105, hr106, h⟩ := bind_elim h
        refine  (eff_call Tryd.func21 nm21 rfl (ev1 rfl) (ref04_Copy_ok L _ (hL.chg e104) [v1, (.int .i64 p_Listappend.Window), (.int .i64 p_Listappend.Tooth), (.int .i64 p_Listappend.PerVane), (.int .i64 p_Listappend.First), (.int .i64 p_Listappend.Modulus), (.int .i64 p_Listappend.Slack), (.int .i64 p_Listappend.Errors), (.bool p_Listappend.Round)] p_Listappend ⟨v1, (h2.ext e99), rfl⟩ r105 hr106) ?_)
        rintro _ wd107 ⟨he108, cs111, rfl, hrd112⟩
        have e113 := e99.trans he108
        have e114 := e100.trans he108
        have e115 := e101.trans he108
        have e116 := e102.trans he108
        have e117 := he98.trans he108
        have e118 := e103.trans he108
        have e119 := e104.trans he108
        obtain ⟨v109, h110, rfl⟩ := hrd112
        refine ⟨he108, ?_⟩
        refine TP_f rfl rfl rfl rfl ?_ ?_
        · skip
          obtain ⟨r121, hr122, h⟩ := bind_elim h
          refine  (eff_call Tryd.func22 nm22 rfl (ev1 rfl) (ref04_CopyReading_ok L _ (hL.chg e119) [v4, (.int .i64 p_String.Count)] p_String ⟨v4, (h5.ext e113), rfl⟩ r121 hr122) ?_)
          rintro _ wd123 ⟨he124, cs127, rfl, hrd128⟩
          have e129 := e113.trans he124
          have e130 := e114.trans he124
          have e131 := e115.trans he124
          have e132 := e116.trans he124
          have e133 := e117.trans he124
          have e134 := e118.trans he124
          have e135 := he108.trans he124
          have e136 := e119.trans he124
          obtain ⟨v125, h126, rfl⟩ := hrd128
          refine ⟨e135, ?_⟩
          refine TP_f rfl rfl rfl rfl ?_ ?_
          · skip
            obtain ⟨r138, hr139, h⟩ := bind_elim h
            refine  (eff_call Tryd.func23 nm23 rfl (ev2 rfl rfl) (locate_PlaceOf_ok [] _ (LtL.nil _) [v109, (.int .i64 r105.Window), (.int .i64 r105.Tooth), (.int .i64 r105.PerVane), (.int .i64 r105.First), (.int .i64 r105.Modulus), (.int .i64 r105.Slack), (.int .i64 r105.Errors), (.bool r105.Round)] r105 ⟨v109, ((h110.ext he124).sub (fun _ h => by cases h)), rfl⟩ [v125, (.int .i64 r121.Count)] r121 ⟨v125, (h126.sub (fun _ h => by cases h)), rfl⟩ r138 hr139) ?_)
            rintro _ wd140 ⟨he141, cs142, rfl, hrd143⟩
            have e144 := e129.trans he141
            have e145 := he124.trans he141
            have e146 := e130.trans he141
            have e147 := e131.trans he141
            have e148 := e132.trans he141
            have e149 := e133.trans he141
            have e150 := e134.trans he141
            have e151 := e135.trans he141
            have e152 := e136.trans he141
            have hrd143 : cs142 = [(.int .i64 r138.1.Lo), (.int .i64 r138.1.Hi)] := hrd143
            subst hrd143
            refine ⟨e151, ?_⟩
            refine TP_p (v := (.tuple #[(.agg (List.toArray [(.int .i64 r138.1.Lo), (.int .i64 r138.1.Hi)])), (.int .i64 r138.2)])) rfl rfl (fun w' => (yl_move rfl)) ?_
            refine TP_p (v := (.agg (List.toArray [(.int .i64 r138.1.Lo), (.int .i64 r138.1.Hi)]))) rfl rfl (fun w' => (yl_extract rfl rfl)) ?_
            refine TP_p (v := (.int .i64 r138.2)) rfl rfl (fun w' => (yl_extract rfl rfl)) ?_
            refine TP_e rfl rfl (eff_allocZ zi36 ?_)
            intro b153 wd154 hb155 he156 hB157
            have hn158 : b153 ≠ b8 := box_ne (hB12.ext e150) hb155
            have hn159 : b153 ≠ b16 := box_ne (hB20.ext e146) hb155
            have hbf160 := bfresh e152 hb155
            have h161 := (h2.ext e144).step (add_box he156 hb155)
            have h162 := (h5.ext e144).step (add_box he156 hb155)
            have h163 := (h61.ext e147).step (add_box he156 hb155)
            have h164 := (h74.ext e148).step (add_box he156 hb155)
            have h165 := (h88.ext e149).step (add_box he156 hb155)
            have h166 := (h110.ext e145).step (add_box he156 hb155)
            have h167 := (h126.ext he141).step (add_box he156 hb155)
            have e168 := e146.trans he156
            have e169 := e150.trans he156
            have e170 := e151.trans he156
            have e171 := e152.trans he156
            refine ⟨e170, ?_⟩
            refine TP_b rfl rfl (eff_storeC (vs := [(.int .i64 r138.1.Lo), (.int .i64 r138.1.Hi)]) (cs' := [(.int .i64 r138.1.Lo), (.int .i64 r138.1.Hi)]) sz36 rfl rfl rfl rfl hB157 rfl (oc_cons rfl (oc_cons rfl oc_nil)) rfl ?_)
            intro wd173 hc174 hB175
            have h176 := h161.step (Stepp.chg_mem hc174 mem0)
            have h177 := h162.step (Stepp.chg_mem hc174 mem0)
            have h178 := (hB12.ext e169).chg hc174 (avoidb hn158)
            have h179 := (hB20.ext e168).chg hc174 (avoidb hn159)
            have h180 := h163.step (Stepp.chg_mem hc174 mem0)
            have h181 := h164.step (Stepp.chg_mem hc174 mem0)
            have h182 := h165.step (Stepp.chg_mem hc174 mem0)
            have h183 := h166.step (Stepp.chg_mem hc174 mem0)
            have h184 := h167.step (Stepp.chg_mem hc174 mem0)
            have e185 := chg_box e171 hc174 hbf160
            refine TP_p (v := (.int .i64 r138.2)) rfl rfl (fun w' => (yl_assign rfl)) ?_
            refine TP_done ?_
            refine hK96 _ _ ?_
            refine WC_seqK fun K186 hK186 => ?_
            refine WC_region ?_
            refine T0_q (v := (.agg (List.toArray [v1, (.int .i64 p_Listappend.Window), (.int .i64 p_Listappend.Tooth), (.int .i64 p_Listappend.PerVane), (.int .i64 p_Listappend.First), (.int .i64 p_Listappend.Modulus), (.int .i64 p_Listappend.Slack), (.int .i64 p_Listappend.Errors), (.bool p_Listappend.Round)]))) rfl (yl_loadA (cs := [v1, (.int .i64 p_Listappend.Window), (.int .i64 p_Listappend.Tooth), (.int .i64 p_Listappend.PerVane), (.int .i64 p_Listappend.First), (.int .i64 p_Listappend.Modulus), (.int .i64 p_Listappend.Slack), (.int .i64 p_Listappend.Errors), (.bool p_Listappend.Round)]) ag24 rfl (Box.at h178)) ?_
            obtain ⟨r187, hr188, h⟩ := bind_elim h
            refine T0_e rfl (eff_call Tryd.func24 nm24 rfl (ev1 rfl) (ref04_TrackErr_ok [] _ (LtL.nil _) [v1, (.int .i64 p_Listappend.Window), (.int .i64 p_Listappend.Tooth), (.int .i64 p_Listappend.PerVane), (.int .i64 p_Listappend.First), (.int .i64 p_Listappend.Modulus), (.int .i64 p_Listappend.Slack), (.int .i64 p_Listappend.Errors), (.bool p_Listappend.Round)] p_Listappend ⟨v1, (h176.sub (fun _ h => by cases h)), rfl⟩ r187 hr188) ?_)
            rintro _ wd189 ⟨he190, rfl⟩
            have e191 := e185.trans he190
            refine T0_q (v := (.int .i64 r187)) rfl (yl_assign rfl) ?_
            refine T0_nil ?_
            refine hK186 _ _ ?_
            refine WC_seqK fun K192 hK192 => ?_
            refine WC_seqK fun K193 hK193 => ?_
            refine WC_region ?_
            refine T0_q (v := (.int .i64 r187)) rfl (yl_move rfl) ?_
            refine T0_q (v := (.bool (decide (r187 = 0)))) rfl (yl_eql rfl rfl) ?_
            refine T0_nil ?_
            refine hK193 _ _ ?_
            obtain ⟨o220, ho221, hn222⟩ := bind_elim h
            refine WC_post (fun (ρ : Env) (wd201 : World) => ∃ (x210 : Int), x210 = o220 ∧ ρ 2 = (.pointer (some ⟨b8, 0, none⟩)) ∧ ρ 3 = (.pointer (some ⟨b16, 0, none⟩)) ∧ ρ 5 = v87 ∧ ρ 6 = (.int .i64 r83.2) ∧ ρ 7 = (.pointer (some ⟨b153, 0, none⟩)) ∧ ρ 8 = (.int .i64 r138.2) ∧ ρ 9 = (.int .i64 x210) ∧ SlRd ((.pointer (some ⟨b153, 0, none⟩)) :: L) wd201 v87 r83.1 ∧ SlRd ((.pointer (some ⟨b153, 0, none⟩)) :: L) wd201 v4 p_String.Seen ∧ SlRd ((.pointer (some ⟨b153, 0, none⟩)) :: L) wd201 v1 p_Listappend.Vanes ∧ Box wd201 b153 [(.int .i64 r138.1.Lo), (.int .i64 r138.1.Hi)] 36 ∧ Box wd201 b16 [v4, (.int .i64 p_String.Count)] 26 ∧ Box wd201 b8 [v1, (.int .i64 p_Listappend.Window), (.int .i64 p_Listappend.Tooth), (.int .i64 p_Listappend.PerVane), (.int .i64 p_Listappend.First), (.int .i64 p_Listappend.Modulus), (.int .i64 p_Listappend.Slack), (.int .i64 p_Listappend.Errors), (.bool p_Listappend.Round)] 24 ∧ Ext w wd201) ?_ ?_
            · intro K223 hK223
              replace h := ho221
              clear ho221
              refine WC_cond (b := (decide (r187 = 0))) rfl (fun hb224 => ?_) (fun hb224 => ?_)
              · replace h := cond_t hb224 h
                refine WC_region ?_
                refine T0_q (v := (.agg (List.toArray [v1, (.int .i64 p_Listappend.Window), (.int .i64 p_Listappend.Tooth), (.int .i64 p_Listappend.PerVane), (.int .i64 p_Listappend.First), (.int .i64 p_Listappend.Modulus), (.int .i64 p_Listappend.Slack), (.int .i64 p_Listappend.Errors), (.bool p_Listappend.Round)]))) rfl (yl_loadA (cs := [v1, (.int .i64 p_Listappend.Window), (.int .i64 p_Listappend.Tooth), (.int .i64 p_Listappend.PerVane), (.int .i64 p_Listappend.First), (.int .i64 p_Listappend.Modulus), (.int .i64 p_Listappend.Slack), (.int .i64 p_Listappend.Errors), (.bool p_Listappend.Round)]) ag24 rfl (Box.at (h178.ext he190))) ?_
                refine T0_q (v := (.agg (List.toArray [v4, (.int .i64 p_String.Count)]))) rfl (yl_loadA (cs := [v4, (.int .i64 p_String.Count)]) ag26 rfl (Box.at (h179.ext he190))) ?_
                obtain ⟨r225, hr226, h⟩ := bind_elim h
                refine T0_e rfl (eff_call Tryd.func25 nm25 rfl (ev2 rfl rfl) (ref04_ReadingErr_ok [] _ (LtL.nil _) [v1, (.int .i64 p_Listappend.Window), (.int .i64 p_Listappend.Tooth), (.int .i64 p_Listappend.PerVane), (.int .i64 p_Listappend.First), (.int .i64 p_Listappend.Modulus), (.int .i64 p_Listappend.Slack), (.int .i64 p_Listappend.Errors), (.bool p_Listappend.Round)] p_Listappend ⟨v1, ((h176.ext he190).sub (fun _ h => by cases h)), rfl⟩ [v4, (.int .i64 p_String.Count)] p_String ⟨v4, ((h177.ext he190).sub (fun _ h => by cases h)), rfl⟩ r225 hr226) ?_)
                rintro _ wd227 ⟨he228, rfl⟩
                have e229 := he190.trans he228
                have e230 := e191.trans he228
                refine T0_q (v := (.int .i64 r225)) rfl (yl_assign rfl) ?_
                refine T0_nil ?_
                replace h := some_out h
                subst h
                refine hK223 _ _ ?_
                exact ⟨r225, rfl, rfl, rfl, rfl, rfl, rfl, rfl, rfl, (h182.ext e229), (h177.ext e229), (h176.ext e229), (hB175.ext e229), (h179.ext e229), (h178.ext e229), e230⟩
              · replace h := cond_f hb224 h
                refine WC_skip ?_
                replace h := some_out h
                subst h
                refine hK223 _ _ ?_
                exact ⟨r187, rfl, rfl, rfl, rfl, rfl, rfl, rfl, rfl, (h182.ext he190), (h177.ext he190), (h176.ext he190), (hB175.ext he190), (h179.ext he190), (h178.ext he190), e191⟩
            · rintro ρ wd201 ⟨x210, rfl, hs203, hs204, hs206, hs207, hs208, hs209, hs211, h205, h214, h217, hB213, hB216, hB219, e202⟩
              replace h := hn222
              refine hK192 _ _ ?_
              refine WC_seqK fun K231 hK231 => ?_
              refine WC_seqK fun K232 hK232 => ?_
              refine WC_region ?_
              refine T0_q (v := (.int .i64 x210)) rfl (yl_move hs211) ?_
              refine T0_q (v := (.bool (!decide (x210 = 0)))) rfl (yl_neq rfl rfl) ?_
              refine T0_nil ?_
              refine hK232 _ _ ?_
              refine WC_cond (b := (!decide (x210 = 0))) rfl (fun hb233 => ?_) (fun hb233 => ?_)
              · replace h := cond_t hb233 h
                refine WC_seqK fun K234 hK234 => ?_
                refine WC_region ?_
                refine T0_q (v := (.int .i64 r83.2)) rfl (yl_move hs207) ?_
                refine T0_q (v := (.int .i64 x210)) rfl (yl_move hs211) ?_
                refine T0_q (v := (.bool (decide (r83.2 = x210)))) rfl (yl_eql rfl rfl) ?_
                refine T0_q (v := (.bool (decide (r83.2 = x210)))) rfl (yl_move rfl) ?_
                refine T0_g (v := (.int .i64 r138.2)) (decide (r83.2 = x210)) (wanted_t rfl rfl rfl rfl) (fun hg => (yl_move hs209)) ?_
                refine T0_g (v := (.int .i64 x210)) (decide (r83.2 = x210)) (wanted_t rfl rfl rfl rfl) (fun hg => (yl_move hs211)) ?_
                refine T0_g (v := (.bool (decide (r138.2 = x210)))) (decide (r83.2 = x210)) (wanted_t rfl rfl rfl rfl) (fun hg => (yl_eql (gd_true hg) (gd_true hg))) ?_
                refine T0_q (v := (.bool ((decide (r83.2 = x210)) && (decide (r138.2 = x210))))) rfl (yl_and rfl (fun hb => (gd_true hb)) rfl) ?_
                refine T0_q (v := (.bool ((decide (r83.2 = x210)) && (decide (r138.2 = x210))))) rfl (yl_move rfl) ?_
                refine T0_g (v := v87) ((decide (r83.2 = x210)) && (decide (r138.2 = x210))) (wanted_t rfl rfl rfl rfl) (fun hg => (yl_move hs206)) ?_
                refine T0_g (v := (.int .i64 (r83.1.length : Int))) ((decide (r83.2 = x210)) && (decide (r138.2 = x210))) (wanted_t rfl rfl rfl rfl) (fun hg => (yl_lenR rfl Tryd.underlying29 h205 (gd_true hg))) ?_
                refine T0_g (v := (.bool (decide ((r83.1.length : Int) = 0)))) ((decide (r83.2 = x210)) && (decide (r138.2 = x210))) (wanted_t rfl rfl rfl rfl) (fun hg => (yl_eql (gd_true hg) rfl)) ?_
                refine T0_q (v := (.bool (((decide (r83.2 = x210)) && (decide (r138.2 = x210))) && (decide ((r83.1.length : Int) = 0))))) rfl (yl_and rfl (fun hb => (gd_true hb)) rfl) ?_
                refine T0_q (v := (.bool (((decide (r83.2 = x210)) && (decide (r138.2 = x210))) && (decide ((r83.1.length : Int) = 0))))) rfl (yl_move rfl) ?_
                refine T0_g (v := (.agg (List.toArray [(.int .i64 r138.1.Lo), (.int .i64 r138.1.Hi)]))) (((decide (r83.2 = x210)) && (decide (r138.2 = x210))) && (decide ((r83.1.length : Int) = 0))) (wanted_t rfl rfl rfl rfl) (fun hg => (yl_loadA (cs := [(.int .i64 r138.1.Lo), (.int .i64 r138.1.Hi)]) ag36 hs208 (Box.at hB213))) ?_
                refine T0_g (v := (.agg (List.toArray [(.int .i64 0), (.int .i64 0)]))) (((decide (r83.2 = x210)) && (decide (r138.2 = x210))) && (decide ((r83.1.length : Int) = 0))) (wanted_t rfl rfl rfl rfl) (fun hg => (yl_buildC (cells := [(.int .i64 0), (.int .i64 0)]) bi36 pc_nil rfl)) ?_
                refine T0_g (v := (.bool (decide ((Range.mk r138.1.Lo r138.1.Hi) = (Range.mk 0 0))))) (((decide (r83.2 = x210)) && (decide (r138.2 = x210))) && (decide ((r83.1.length : Int) = 0))) (wanted_t rfl rfl rfl rfl) (fun hg => (yl_eqlS eg36 (gd_true hg) (gd_true hg) (eqs36 (Range.mk r138.1.Lo r138.1.Hi) (Range.mk 0 0) _))) ?_
                refine T0_q (v := (.bool ((((decide (r83.2 = x210)) && (decide (r138.2 = x210))) && (decide ((r83.1.length : Int) = 0))) && (decide ((Range.mk r138.1.Lo r138.1.Hi) = (Range.mk 0 0)))))) rfl (yl_and rfl (fun hb => (gd_true hb)) rfl) ?_
                refine T0_q (v := (.bool ((((decide (r83.2 = x210)) && (decide (r138.2 = x210))) && (decide ((r83.1.length : Int) = 0))) && (decide ((Range.mk r138.1.Lo r138.1.Hi) = (Range.mk 0 0)))))) rfl (yl_assign rfl) ?_
                refine T0_nil ?_
                refine hK234 _ _ ?_
                refine WC_ret ?_
                replace h := some_out h
                subst h
                exact ⟨[(.bool ((((decide (r83.2 = x210)) && (decide (r138.2 = x210))) && (decide ((r83.1.length : Int) = 0))) && (decide ((Range.mk r138.1.Lo r138.1.Hi) = (Range.mk 0 0)))))], ⟨rfl, trivial⟩, e202, rfl⟩
              · replace h := cond_f hb233 h
                refine WC_skip ?_
                refine hK231 _ _ ?_
                refine WC_seqK fun K235 hK235 => ?_
                refine WC_region ?_
                refine T0_q (v := (.agg (List.toArray [v1, (.int .i64 p_Listappend.Window), (.int .i64 p_Listappend.Tooth), (.int .i64 p_Listappend.PerVane), (.int .i64 p_Listappend.First), (.int .i64 p_Listappend.Modulus), (.int .i64 p_Listappend.Slack), (.int .i64 p_Listappend.Errors), (.bool p_Listappend.Round)]))) rfl (yl_loadA (cs := [v1, (.int .i64 p_Listappend.Window), (.int .i64 p_Listappend.Tooth), (.int .i64 p_Listappend.PerVane), (.int .i64 p_Listappend.First), (.int .i64 p_Listappend.Modulus), (.int .i64 p_Listappend.Slack), (.int .i64 p_Listappend.Errors), (.bool p_Listappend.Round)]) ag24 hs203 (Box.at hB219)) ?_
                refine T0_q (v := (.agg (List.toArray [v4, (.int .i64 p_String.Count)]))) rfl (yl_loadA (cs := [v4, (.int .i64 p_String.Count)]) ag26 hs204 (Box.at hB216)) ?_
                obtain ⟨r236, hr237, h⟩ := bind_elim h
                refine T0_e rfl (eff_call Tryd.func26 nm26 rfl (ev2 rfl rfl) (ref04_Possible_ok ((.pointer (some ⟨b153, 0, none⟩)) :: L) _ (ltl_box (hL.chg e202) hB213) [v1, (.int .i64 p_Listappend.Window), (.int .i64 p_Listappend.Tooth), (.int .i64 p_Listappend.PerVane), (.int .i64 p_Listappend.First), (.int .i64 p_Listappend.Modulus), (.int .i64 p_Listappend.Slack), (.int .i64 p_Listappend.Errors), (.bool p_Listappend.Round)] p_Listappend ⟨v1, h217, rfl⟩ [v4, (.int .i64 p_String.Count)] p_String ⟨v4, h214, rfl⟩ r236 hr237) ?_)
                rintro _ wd238 ⟨he239, v240, rfl, h241⟩
                have e242 := e202.trans he239
                refine T0_q (v := v240) rfl (yl_assign rfl) ?_
                refine T0_nil ?_
                refine hK235 _ _ ?_
                refine WC_seqK fun K244 hK244 => ?_
                refine WC_seqK fun K245 hK245 => ?_
                refine WC_region ?_
                refine T0_q (v := (.int .i64 r83.2)) rfl (yl_move hs207) ?_
                refine T0_q (v := (.bool (!decide (r83.2 = 0)))) rfl (yl_neq rfl rfl) ?_
                refine T0_q (v := (.bool (!decide (r83.2 = 0)))) rfl (yl_move rfl) ?_
                refine T0_g (v := v87) (!(!decide (r83.2 = 0))) (wanted_f rfl rfl rfl rfl) (fun hg => (yl_move hs206)) ?_
                refine T0_g (v := v240) (!(!decide (r83.2 = 0))) (wanted_f rfl rfl rfl rfl) (fun hg => (yl_move rfl)) ?_
                obtain ⟨r246, hr247, h⟩ := bind_elim h
                refine T0_ges (!(!decide (r83.2 = 0))) (.bool r246) (wanted_f rfl rfl rfl rfl) (fun hg => eff_call Tryd.func27 nm27 rfl (ev2 (gd_true hg) (gd_true hg)) (base_Ranges_ok [] _ (LtL.nil _) v87 r83.1 ((h205.ext he239).sub (fun _ h => by cases h)) v240 r236 (h241.sub (fun _ h => by cases h)) r246 (cond_t hg hr247)) (by rintro _ wd248 ⟨he249, rfl⟩; exact ⟨rfl, he249⟩)) ?_
                intro wd248 he249
                have e250 := he239.trans he249
                have e251 := e242.trans he249
                refine T0_g (v := (.bool (!r246))) (!(!decide (r83.2 = 0))) (wanted_f rfl rfl rfl rfl) (fun hg => (yl_not (gd_true hg))) ?_
                refine T0_q (v := (.bool ((!decide (r83.2 = 0)) || (!r246)))) rfl (yl_or rfl rfl (fun hb => (gd_true (not_t hb)))) ?_
                refine T0_nil ?_
                refine hK245 _ _ ?_
                refine WC_cond (b := ((!decide (r83.2 = 0)) || (!r246))) rfl (fun hb252 => ?_) (fun hb252 => ?_)
                · replace h := cond_t hb252 h
                  refine WC_seqK fun K253 hK253 => ?_
                  refine WC_region ?_
                  refine T0_q (v := (.bool false)) rfl (yl_assign rfl) ?_
                  refine T0_nil ?_
                  refine hK253 _ _ ?_
                  refine WC_ret ?_
                  replace h := some_out h
                  subst h
                  exact ⟨[(.bool false)], ⟨rfl, trivial⟩, e251, rfl⟩
                · replace h := cond_f hb252 h
                  refine WC_skip ?_
                  refine hK244 _ _ ?_
                  refine WC_seqK fun K254 hK254 => ?_
                  refine WC_seqK fun K255 hK255 => ?_
                  refine WC_region ?_
                  refine T0_q (v := v240) rfl (yl_move rfl) ?_
                  refine T0_q (v := (.int .i64 (r236.length : Int))) rfl (yl_lenR rfl Tryd.underlying29 h241 rfl) ?_
                  refine T0_q (v := (.bool (decide ((r236.length : Int) = 1)))) rfl (yl_eql rfl rfl) ?_
                  refine T0_nil ?_
                  refine hK255 _ _ ?_
                  refine WC_cond (b := (decide ((r236.length : Int) = 1))) rfl (fun hb256 => ?_) (fun hb256 => ?_)
                  · replace h := cond_t hb256 h
                    refine WC_seqK fun K257 hK257 => ?_
                    refine WC_plan mixed (.p 0 (.p 1 (.p 2 (.p 4 (.p 5 (.q 3 (.q 6 (.p 7 (.p 8 (.p 9 .done)))))))))) (by kernel_rfl) ?_
                    intro wd258 he259
                    have e260 := e250.trans he259
                    have e261 := he249.trans he259
                    have e262 := e251.trans he259
                    refine TP_p (v := (.int .i64 r138.2)) rfl rfl (fun w' => (yl_move hs209)) ?_
                    refine TP_p (v := (.bool (decide (r138.2 = 0)))) rfl rfl (fun w' => (yl_eql rfl rfl)) ?_
                    refine TP_p (v := (.bool (decide (r138.2 = 0)))) rfl rfl (fun w' => (yl_move rfl)) ?_
                    refine TP_gp (v := v240) (decide (r138.2 = 0)) rfl (wanted_t rfl rfl rfl rfl) (fun w' hg => (yl_move rfl)) ?_
                    obtain ⟨el263, hel264, h⟩ := bind_elim h
                    have hat266 : (decide (r138.2 = 0)) = true → At wd238 (elemAddr v240 (0 : Int).toNat 2) [(.int .i64 el263.Lo), (.int .i64 el263.Hi)] := fun hg => by obtain ⟨cs, hat, hrd⟩ := SlRd.at h241 (cond_t hg hel264); have hrd : cs = [(.int .i64 el263.Lo), (.int .i64 el263.Hi)] := hrd; subst hrd; exact hat
                    refine TP_gp (v := (.pointer (some (elemAddr v240 (0 : Int).toNat 2)))) (decide (r138.2 = 0)) rfl (wanted_t rfl rfl rfl rfl) (fun w' hg => (yl_indexAddr Tryd.underlying29 sz36 h241 (cond_t hg hel264) (gd_true hg) rfl)) ?_
                    refine TP_gq (v := (.agg (List.toArray [(.int .i64 r138.1.Lo), (.int .i64 r138.1.Hi)]))) (decide (r138.2 = 0)) rfl (wanted_t rfl rfl rfl rfl) (fun w' hS hg => (yl_loadA (cs := [(.int .i64 r138.1.Lo), (.int .i64 r138.1.Hi)]) ag36 hs208 (Box.at (hB213.ext ((e260).trans hS))))) ?_
                    refine TP_gq (v := (.agg (List.toArray [(.int .i64 el263.Lo), (.int .i64 el263.Hi)]))) (decide (r138.2 = 0)) rfl (wanted_t rfl rfl rfl rfl) (fun w' hS hg => (yl_loadA (cs := [(.int .i64 el263.Lo), (.int .i64 el263.Hi)]) ag36 (gd_true hg) ((hat266 hg).ext' ((e261).trans hS)))) ?_
                    refine TP_gp (v := (.bool (decide ((Range.mk r138.1.Lo r138.1.Hi) = el263)))) (decide (r138.2 = 0)) rfl (wanted_t rfl rfl rfl rfl) (fun w' hg => (yl_eqlS eg36 (gd_true hg) (gd_true hg) (eqs36 (Range.mk r138.1.Lo r138.1.Hi) el263 _))) ?_
                    refine TP_p (v := (.bool ((decide (r138.2 = 0)) && (decide ((Range.mk r138.1.Lo r138.1.Hi) = el263))))) rfl rfl (fun w' => (yl_and rfl (fun hb => (gd_true hb)) rfl)) ?_
                    refine TP_p (v := (.bool ((decide (r138.2 = 0)) && (decide ((Range.mk r138.1.Lo r138.1.Hi) = el263))))) rfl rfl (fun w' => (yl_assign rfl)) ?_
                    refine TP_done ?_
                    refine hK257 _ _ ?_
                    refine WC_ret ?_
                    replace h := some_out h
                    subst h
                    exact ⟨[(.bool ((decide (r138.2 = 0)) && (decide ((Range.mk r138.1.Lo r138.1.Hi) = el263))))], ⟨rfl, trivial⟩, e262, rfl⟩
                  · replace h := cond_f hb256 h
                    refine WC_skip ?_
                    refine hK254 _ _ ?_
                    refine WC_seqK fun K268 hK268 => ?_
                    refine WC_region ?_
                    refine T0_q (v := (.agg (List.toArray [(.int .i64 r138.1.Lo), (.int .i64 r138.1.Hi)]))) rfl (yl_loadA (cs := [(.int .i64 r138.1.Lo), (.int .i64 r138.1.Hi)]) ag36 hs208 (Box.at (hB213.ext e250))) ?_
                    refine T0_q (v := (.agg (List.toArray [(.int .i64 0), (.int .i64 0)]))) rfl (yl_buildC (cells := [(.int .i64 0), (.int .i64 0)]) bi36 pc_nil rfl) ?_
                    refine T0_q (v := (.bool (decide ((Range.mk r138.1.Lo r138.1.Hi) = (Range.mk 0 0))))) rfl (yl_eqlS eg36 rfl rfl (eqs36 (Range.mk r138.1.Lo r138.1.Hi) (Range.mk 0 0) _)) ?_
                    refine T0_q (v := (.bool (decide ((Range.mk r138.1.Lo r138.1.Hi) = (Range.mk 0 0))))) rfl (yl_move rfl) ?_
                    refine T0_g (v := v240) (decide ((Range.mk r138.1.Lo r138.1.Hi) = (Range.mk 0 0))) (wanted_t rfl rfl rfl rfl) (fun hg => (yl_move rfl)) ?_
                    refine T0_g (v := (.int .i64 (r236.length : Int))) (decide ((Range.mk r138.1.Lo r138.1.Hi) = (Range.mk 0 0))) (wanted_t rfl rfl rfl rfl) (fun hg => (yl_lenR rfl Tryd.underlying29 h241 (gd_true hg))) ?_
                    refine T0_g (v := (.bool (decide ((r236.length : Int) = 0)))) (decide ((Range.mk r138.1.Lo r138.1.Hi) = (Range.mk 0 0))) (wanted_t rfl rfl rfl rfl) (fun hg => (yl_eql (gd_true hg) rfl)) ?_
                    refine T0_g (v := (.bool (decide ((r236.length : Int) = 0)))) (decide ((Range.mk r138.1.Lo r138.1.Hi) = (Range.mk 0 0))) (wanted_t rfl rfl rfl rfl) (fun hg => (yl_move (gd_true hg))) ?_
                    refine T0_g (v := (.int .i64 r138.2)) ((decide ((Range.mk r138.1.Lo r138.1.Hi) = (Range.mk 0 0))) && (decide ((r236.length : Int) = 0))) (wanted_gt rfl rfl rfl rfl) (fun hg => (yl_move hs209)) ?_
                    refine T0_g (v := (.bool (decide (r138.2 = 12)))) ((decide ((Range.mk r138.1.Lo r138.1.Hi) = (Range.mk 0 0))) && (decide ((r236.length : Int) = 0))) (wanted_gt rfl rfl rfl rfl) (fun hg => (yl_eql (gd_true hg) rfl)) ?_
                    refine T0_g (v := (.bool ((decide ((r236.length : Int) = 0)) && (decide (r138.2 = 12))))) (decide ((Range.mk r138.1.Lo r138.1.Hi) = (Range.mk 0 0))) (wanted_t rfl rfl rfl rfl) (fun hg => (yl_and (gd_true hg) (fun hb => (gd_true (and_i hg hb))) rfl)) ?_
                    refine T0_g (v := (.bool ((decide ((r236.length : Int) = 0)) && (decide (r138.2 = 12))))) (decide ((Range.mk r138.1.Lo r138.1.Hi) = (Range.mk 0 0))) (wanted_t rfl rfl rfl rfl) (fun hg => (yl_move (gd_true hg))) ?_
                    refine T0_g (v := v240) ((decide ((Range.mk r138.1.Lo r138.1.Hi) = (Range.mk 0 0))) && (!((decide ((r236.length : Int) = 0)) && (decide (r138.2 = 12))))) (wanted_gf rfl rfl rfl rfl) (fun hg => (yl_move rfl)) ?_
                    refine T0_g (v := (.int .i64 (r236.length : Int))) ((decide ((Range.mk r138.1.Lo r138.1.Hi) = (Range.mk 0 0))) && (!((decide ((r236.length : Int) = 0)) && (decide (r138.2 = 12))))) (wanted_gf rfl rfl rfl rfl) (fun hg => (yl_lenR rfl Tryd.underlying29 h241 (gd_true hg))) ?_
                    refine T0_g (v := (.bool (decide (1 < (r236.length : Int))))) ((decide ((Range.mk r138.1.Lo r138.1.Hi) = (Range.mk 0 0))) && (!((decide ((r236.length : Int) = 0)) && (decide (r138.2 = 12))))) (wanted_gf rfl rfl rfl rfl) (fun hg => (yl_gtr (gd_true hg) rfl)) ?_
                    refine T0_g (v := (.bool (decide (1 < (r236.length : Int))))) ((decide ((Range.mk r138.1.Lo r138.1.Hi) = (Range.mk 0 0))) && (!((decide ((r236.length : Int) = 0)) && (decide (r138.2 = 12))))) (wanted_gf rfl rfl rfl rfl) (fun hg => (yl_move (gd_true hg))) ?_
                    refine T0_g (v := (.int .i64 r138.2)) (((decide ((Range.mk r138.1.Lo r138.1.Hi) = (Range.mk 0 0))) && (!((decide ((r236.length : Int) = 0)) && (decide (r138.2 = 12))))) && (decide (1 < (r236.length : Int)))) (wanted_gt rfl rfl rfl rfl) (fun hg => (yl_move hs209)) ?_
                    refine T0_g (v := (.bool (decide (r138.2 = 29)))) (((decide ((Range.mk r138.1.Lo r138.1.Hi) = (Range.mk 0 0))) && (!((decide ((r236.length : Int) = 0)) && (decide (r138.2 = 12))))) && (decide (1 < (r236.length : Int)))) (wanted_gt rfl rfl rfl rfl) (fun hg => (yl_eql (gd_true hg) rfl)) ?_
                    refine T0_g (v := (.bool ((decide (1 < (r236.length : Int))) && (decide (r138.2 = 29))))) ((decide ((Range.mk r138.1.Lo r138.1.Hi) = (Range.mk 0 0))) && (!((decide ((r236.length : Int) = 0)) && (decide (r138.2 = 12))))) (wanted_gf rfl rfl rfl rfl) (fun hg => (yl_and (gd_true hg) (fun hb => (gd_true (and_i hg hb))) rfl)) ?_
                    refine T0_g (v := (.bool (((decide ((r236.length : Int) = 0)) && (decide (r138.2 = 12))) || ((decide (1 < (r236.length : Int))) && (decide (r138.2 = 29)))))) (decide ((Range.mk r138.1.Lo r138.1.Hi) = (Range.mk 0 0))) (wanted_t rfl rfl rfl rfl) (fun hg => (yl_or (gd_true hg) rfl (fun hb => (gd_true (and_i hg (not_t hb)))))) ?_
                    refine T0_q (v := (.bool ((decide ((Range.mk r138.1.Lo r138.1.Hi) = (Range.mk 0 0))) && (((decide ((r236.length : Int) = 0)) && (decide (r138.2 = 12))) || ((decide (1 < (r236.length : Int))) && (decide (r138.2 = 29))))))) rfl (yl_and rfl (fun hb => (gd_true hb)) rfl) ?_
                    refine T0_q (v := (.bool ((decide ((Range.mk r138.1.Lo r138.1.Hi) = (Range.mk 0 0))) && (((decide ((r236.length : Int) = 0)) && (decide (r138.2 = 12))) || ((decide (1 < (r236.length : Int))) && (decide (r138.2 = 29))))))) rfl (yl_assign rfl) ?_
                    refine T0_nil ?_
                    refine hK268 _ _ ?_
                    refine WC_ret ?_
                    replace h := some_out h
                    subst h
                    exact ⟨[(.bool ((decide ((Range.mk r138.1.Lo r138.1.Hi) = (Range.mk 0 0))) && (((decide ((r236.length : Int) = 0)) && (decide (r138.2 = 12))) || ((decide (1 < (r236.length : Int))) && (decide (r138.2 = 29))))))], ⟨rfl, trivial⟩, e251, rfl⟩
          · skip
            refine  (eff_allocZ zi36 ?_)
            intro b269 wd270 hb271 he272 hB273
            have hn274 : b269 ≠ b8 := box_ne (hB12.ext e134) hb271
            have hn275 : b269 ≠ b16 := box_ne (hB20.ext e130) hb271
            have hbf276 := bfresh e136 hb271
            have h277 := (h2.ext e129).step (add_box he272 hb271)
            have h278 := (h5.ext e129).step (add_box he272 hb271)
            have h279 := (h61.ext e131).step (add_box he272 hb271)
            have h280 := (h74.ext e132).step (add_box he272 hb271)
            have h281 := (h88.ext e133).step (add_box he272 hb271)
            have h282 := (h110.ext he124).step (add_box he272 hb271)
            have h283 := h126.step (add_box he272 hb271)
            have e284 := e130.trans he272
            have e285 := e134.trans he272
            have e286 := e135.trans he272
            have e287 := e136.trans he272
            refine ⟨e286, ?_⟩
            obtain ⟨r289, hr290, h⟩ := bind_elim h
            refine TP_e rfl rfl (eff_call Tryd.func23 nm23 rfl (ev2 rfl rfl) (locate_PlaceOf_ok [] _ (LtL.nil _) [v109, (.int .i64 r105.Window), (.int .i64 r105.Tooth), (.int .i64 r105.PerVane), (.int .i64 r105.First), (.int .i64 r105.Modulus), (.int .i64 r105.Slack), (.int .i64 r105.Errors), (.bool r105.Round)] r105 ⟨v109, (h282.sub (fun _ h => by cases h)), rfl⟩ [v125, (.int .i64 r121.Count)] r121 ⟨v125, (h283.sub (fun _ h => by cases h)), rfl⟩ r289 hr290) ?_)
            rintro _ wd291 ⟨he292, cs293, rfl, hrd294⟩
            have e295 := e284.trans he292
            have e296 := e285.trans he292
            have e297 := e286.trans he292
            have e298 := e287.trans he292
            have hrd294 : cs293 = [(.int .i64 r289.1.Lo), (.int .i64 r289.1.Hi)] := hrd294
            subst hrd294
            refine ⟨e297, ?_⟩
            refine TP_p (v := (.tuple #[(.agg (List.toArray [(.int .i64 r289.1.Lo), (.int .i64 r289.1.Hi)])), (.int .i64 r289.2)])) rfl rfl (fun w' => (yl_move rfl)) ?_
            refine TP_p (v := (.agg (List.toArray [(.int .i64 r289.1.Lo), (.int .i64 r289.1.Hi)]))) rfl rfl (fun w' => (yl_extract rfl rfl)) ?_
            refine TP_p (v := (.int .i64 r289.2)) rfl rfl (fun w' => (yl_extract rfl rfl)) ?_
            refine TP_b rfl rfl (eff_storeC (vs := [(.int .i64 r289.1.Lo), (.int .i64 r289.1.Hi)]) (cs' := [(.int .i64 r289.1.Lo), (.int .i64 r289.1.Hi)]) sz36 rfl rfl rfl rfl (hB273.ext he292) rfl (oc_cons rfl (oc_cons rfl oc_nil)) rfl ?_)
            intro wd299 hc300 hB301
            have h302 := (h277.ext he292).step (Stepp.chg_mem hc300 mem0)
            have h303 := (h278.ext he292).step (Stepp.chg_mem hc300 mem0)
            have h304 := (hB12.ext e296).chg hc300 (avoidb hn274)
            have h305 := (hB20.ext e295).chg hc300 (avoidb hn275)
            have h306 := (h279.ext he292).step (Stepp.chg_mem hc300 mem0)
            have h307 := (h280.ext he292).step (Stepp.chg_mem hc300 mem0)
            have h308 := (h281.ext he292).step (Stepp.chg_mem hc300 mem0)
            have h309 := (h282.ext he292).step (Stepp.chg_mem hc300 mem0)
            have h310 := (h283.ext he292).step (Stepp.chg_mem hc300 mem0)
            have e311 := chg_box e298 hc300 hbf276
            refine TP_p (v := (.int .i64 r289.2)) rfl rfl (fun w' => (yl_assign rfl)) ?_
            refine TP_done ?_
            refine hK96 _ _ ?_
            refine WC_seqK fun K312 hK312 => ?_
            refine WC_region ?_
            refine T0_q (v := (.agg (List.toArray [v1, (.int .i64 p_Listappend.Window), (.int .i64 p_Listappend.Tooth), (.int .i64 p_Listappend.PerVane), (.int .i64 p_Listappend.First), (.int .i64 p_Listappend.Modulus), (.int .i64 p_Listappend.Slack), (.int .i64 p_Listappend.Errors), (.bool p_Listappend.Round)]))) rfl (yl_loadA (cs := [v1, (.int .i64 p_Listappend.Window), (.int .i64 p_Listappend.Tooth), (.int .i64 p_Listappend.PerVane), (.int .i64 p_Listappend.First), (.int .i64 p_Listappend.Modulus), (.int .i64 p_Listappend.Slack), (.int .i64 p_Listappend.Errors), (.bool p_Listappend.Round)]) ag24 rfl (Box.at h304)) ?_
            obtain ⟨r313, hr314, h⟩ := bind_elim h
            refine T0_e rfl (eff_call Tryd.func24 nm24 rfl (ev1 rfl) (ref04_TrackErr_ok [] _ (LtL.nil _) [v1, (.int .i64 p_Listappend.Window), (.int .i64 p_Listappend.Tooth), (.int .i64 p_Listappend.PerVane), (.int .i64 p_Listappend.First), (.int .i64 p_Listappend.Modulus), (.int .i64 p_Listappend.Slack), (.int .i64 p_Listappend.Errors), (.bool p_Listappend.Round)] p_Listappend ⟨v1, (h302.sub (fun _ h => by cases h)), rfl⟩ r313 hr314) ?_)
            rintro _ wd315 ⟨he316, rfl⟩
            have e317 := e311.trans he316
            refine T0_q (v := (.int .i64 r313)) rfl (yl_assign rfl) ?_
            refine T0_nil ?_
            refine hK312 _ _ ?_
            refine WC_seqK fun K318 hK318 => ?_
            refine WC_seqK fun K319 hK319 => ?_
            refine WC_region ?_
            refine T0_q (v := (.int .i64 r313)) rfl (yl_move rfl) ?_
            refine T0_q (v := (.bool (decide (r313 = 0)))) rfl (yl_eql rfl rfl) ?_
            refine T0_nil ?_
            refine hK319 _ _ ?_
            obtain ⟨o346, ho347, hn348⟩ := bind_elim h
            refine WC_post (fun (ρ : Env) (wd327 : World) => ∃ (x336 : Int), x336 = o346 ∧ ρ 2 = (.pointer (some ⟨b8, 0, none⟩)) ∧ ρ 3 = (.pointer (some ⟨b16, 0, none⟩)) ∧ ρ 5 = v87 ∧ ρ 6 = (.int .i64 r83.2) ∧ ρ 7 = (.pointer (some ⟨b269, 0, none⟩)) ∧ ρ 8 = (.int .i64 r289.2) ∧ ρ 9 = (.int .i64 x336) ∧ SlRd ((.pointer (some ⟨b269, 0, none⟩)) :: L) wd327 v87 r83.1 ∧ SlRd ((.pointer (some ⟨b269, 0, none⟩)) :: L) wd327 v4 p_String.Seen ∧ SlRd ((.pointer (some ⟨b269, 0, none⟩)) :: L) wd327 v1 p_Listappend.Vanes ∧ Box wd327 b16 [v4, (.int .i64 p_String.Count)] 26 ∧ Box wd327 b269 [(.int .i64 r289.1.Lo), (.int .i64 r289.1.Hi)] 36 ∧ Box wd327 b8 [v1, (.int .i64 p_Listappend.Window), (.int .i64 p_Listappend.Tooth), (.int .i64 p_Listappend.PerVane), (.int .i64 p_Listappend.First), (.int .i64 p_Listappend.Modulus), (.int .i64 p_Listappend.Slack), (.int .i64 p_Listappend.Errors), (.bool p_Listappend.Round)] 24 ∧ Ext w wd327) ?_ ?_
            · intro K349 hK349
              replace h := ho347
              clear ho347
              refine WC_cond (b := (decide (r313 = 0))) rfl (fun hb350 => ?_) (fun hb350 => ?_)
              · replace h := cond_t hb350 h
                refine WC_region ?_
                refine T0_q (v := (.agg (List.toArray [v1, (.int .i64 p_Listappend.Window), (.int .i64 p_Listappend.Tooth), (.int .i64 p_Listappend.PerVane), (.int .i64 p_Listappend.First), (.int .i64 p_Listappend.Modulus), (.int .i64 p_Listappend.Slack), (.int .i64 p_Listappend.Errors), (.bool p_Listappend.Round)]))) rfl (yl_loadA (cs := [v1, (.int .i64 p_Listappend.Window), (.int .i64 p_Listappend.Tooth), (.int .i64 p_Listappend.PerVane), (.int .i64 p_Listappend.First), (.int .i64 p_Listappend.Modulus), (.int .i64 p_Listappend.Slack), (.int .i64 p_Listappend.Errors), (.bool p_Listappend.Round)]) ag24 rfl (Box.at (h304.ext he316))) ?_
                refine T0_q (v := (.agg (List.toArray [v4, (.int .i64 p_String.Count)]))) rfl (yl_loadA (cs := [v4, (.int .i64 p_String.Count)]) ag26 rfl (Box.at (h305.ext he316))) ?_
                obtain ⟨r351, hr352, h⟩ := bind_elim h
                refine T0_e rfl (eff_call Tryd.func25 nm25 rfl (ev2 rfl rfl) (ref04_ReadingErr_ok [] _ (LtL.nil _) [v1, (.int .i64 p_Listappend.Window), (.int .i64 p_Listappend.Tooth), (.int .i64 p_Listappend.PerVane), (.int .i64 p_Listappend.First), (.int .i64 p_Listappend.Modulus), (.int .i64 p_Listappend.Slack), (.int .i64 p_Listappend.Errors), (.bool p_Listappend.Round)] p_Listappend ⟨v1, ((h302.ext he316).sub (fun _ h => by cases h)), rfl⟩ [v4, (.int .i64 p_String.Count)] p_String ⟨v4, ((h303.ext he316).sub (fun _ h => by cases h)), rfl⟩ r351 hr352) ?_)
                rintro _ wd353 ⟨he354, rfl⟩
                have e355 := he316.trans he354
                have e356 := e317.trans he354
                refine T0_q (v := (.int .i64 r351)) rfl (yl_assign rfl) ?_
                refine T0_nil ?_
                replace h := some_out h
                subst h
                refine hK349 _ _ ?_
                exact ⟨r351, rfl, rfl, rfl, rfl, rfl, rfl, rfl, rfl, (h308.ext e355), (h303.ext e355), (h302.ext e355), (h305.ext e355), (hB301.ext e355), (h304.ext e355), e356⟩
              · replace h := cond_f hb350 h
                refine WC_skip ?_
                replace h := some_out h
                subst h
                refine hK349 _ _ ?_
                exact ⟨r313, rfl, rfl, rfl, rfl, rfl, rfl, rfl, rfl, (h308.ext he316), (h303.ext he316), (h302.ext he316), (h305.ext he316), (hB301.ext he316), (h304.ext he316), e317⟩
            · rintro ρ wd327 ⟨x336, rfl, hs329, hs330, hs332, hs333, hs334, hs335, hs337, h331, h338, h343, hB340, hB342, hB345, e328⟩
              replace h := hn348
              refine hK318 _ _ ?_
              refine WC_seqK fun K357 hK357 => ?_
              refine WC_seqK fun K358 hK358 => ?_
              refine WC_region ?_
              refine T0_q (v := (.int .i64 x336)) rfl (yl_move hs337) ?_
              refine T0_q (v := (.bool (!decide (x336 = 0)))) rfl (yl_neq rfl rfl) ?_
              refine T0_nil ?_
              refine hK358 _ _ ?_
              refine WC_cond (b := (!decide (x336 = 0))) rfl (fun hb359 => ?_) (fun hb359 => ?_)
              · replace h := cond_t hb359 h
                refine WC_seqK fun K360 hK360 => ?_
                refine WC_region ?_
                refine T0_q (v := (.int .i64 r83.2)) rfl (yl_move hs333) ?_
                refine T0_q (v := (.int .i64 x336)) rfl (yl_move hs337) ?_
                refine T0_q (v := (.bool (decide (r83.2 = x336)))) rfl (yl_eql rfl rfl) ?_
                refine T0_q (v := (.bool (decide (r83.2 = x336)))) rfl (yl_move rfl) ?_
                refine T0_g (v := (.int .i64 r289.2)) (decide (r83.2 = x336)) (wanted_t rfl rfl rfl rfl) (fun hg => (yl_move hs335)) ?_
                refine T0_g (v := (.int .i64 x336)) (decide (r83.2 = x336)) (wanted_t rfl rfl rfl rfl) (fun hg => (yl_move hs337)) ?_
                refine T0_g (v := (.bool (decide (r289.2 = x336)))) (decide (r83.2 = x336)) (wanted_t rfl rfl rfl rfl) (fun hg => (yl_eql (gd_true hg) (gd_true hg))) ?_
                refine T0_q (v := (.bool ((decide (r83.2 = x336)) && (decide (r289.2 = x336))))) rfl (yl_and rfl (fun hb => (gd_true hb)) rfl) ?_
                refine T0_q (v := (.bool ((decide (r83.2 = x336)) && (decide (r289.2 = x336))))) rfl (yl_move rfl) ?_
                refine T0_g (v := v87) ((decide (r83.2 = x336)) && (decide (r289.2 = x336))) (wanted_t rfl rfl rfl rfl) (fun hg => (yl_move hs332)) ?_
                refine T0_g (v := (.int .i64 (r83.1.length : Int))) ((decide (r83.2 = x336)) && (decide (r289.2 = x336))) (wanted_t rfl rfl rfl rfl) (fun hg => (yl_lenR rfl Tryd.underlying29 h331 (gd_true hg))) ?_
                refine T0_g (v := (.bool (decide ((r83.1.length : Int) = 0)))) ((decide (r83.2 = x336)) && (decide (r289.2 = x336))) (wanted_t rfl rfl rfl rfl) (fun hg => (yl_eql (gd_true hg) rfl)) ?_
                refine T0_q (v := (.bool (((decide (r83.2 = x336)) && (decide (r289.2 = x336))) && (decide ((r83.1.length : Int) = 0))))) rfl (yl_and rfl (fun hb => (gd_true hb)) rfl) ?_
                refine T0_q (v := (.bool (((decide (r83.2 = x336)) && (decide (r289.2 = x336))) && (decide ((r83.1.length : Int) = 0))))) rfl (yl_move rfl) ?_
                refine T0_g (v := (.agg (List.toArray [(.int .i64 r289.1.Lo), (.int .i64 r289.1.Hi)]))) (((decide (r83.2 = x336)) && (decide (r289.2 = x336))) && (decide ((r83.1.length : Int) = 0))) (wanted_t rfl rfl rfl rfl) (fun hg => (yl_loadA (cs := [(.int .i64 r289.1.Lo), (.int .i64 r289.1.Hi)]) ag36 hs334 (Box.at hB342))) ?_
                refine T0_g (v := (.agg (List.toArray [(.int .i64 0), (.int .i64 0)]))) (((decide (r83.2 = x336)) && (decide (r289.2 = x336))) && (decide ((r83.1.length : Int) = 0))) (wanted_t rfl rfl rfl rfl) (fun hg => (yl_buildC (cells := [(.int .i64 0), (.int .i64 0)]) bi36 pc_nil rfl)) ?_
                refine T0_g (v := (.bool (decide ((Range.mk r289.1.Lo r289.1.Hi) = (Range.mk 0 0))))) (((decide (r83.2 = x336)) && (decide (r289.2 = x336))) && (decide ((r83.1.length : Int) = 0))) (wanted_t rfl rfl rfl rfl) (fun hg => (yl_eqlS eg36 (gd_true hg) (gd_true hg) (eqs36 (Range.mk r289.1.Lo r289.1.Hi) (Range.mk 0 0) _))) ?_
                refine T0_q (v := (.bool ((((decide (r83.2 = x336)) && (decide (r289.2 = x336))) && (decide ((r83.1.length : Int) = 0))) && (decide ((Range.mk r289.1.Lo r289.1.Hi) = (Range.mk 0 0)))))) rfl (yl_and rfl (fun hb => (gd_true hb)) rfl) ?_
                refine T0_q (v := (.bool ((((decide (r83.2 = x336)) && (decide (r289.2 = x336))) && (decide ((r83.1.length : Int) = 0))) && (decide ((Range.mk r289.1.Lo r289.1.Hi) = (Range.mk 0 0)))))) rfl (yl_assign rfl) ?_
                refine T0_nil ?_
                refine hK360 _ _ ?_
                refine WC_ret ?_
                replace h := some_out h
                subst h
                exact ⟨[(.bool ((((decide (r83.2 = x336)) && (decide (r289.2 = x336))) && (decide ((r83.1.length : Int) = 0))) && (decide ((Range.mk r289.1.Lo r289.1.Hi) = (Range.mk 0 0)))))], ⟨rfl, trivial⟩, e328, rfl⟩
              · replace h := cond_f hb359 h
                refine WC_skip ?_
                refine hK357 _ _ ?_
                refine WC_seqK fun K361 hK361 => ?_
                refine WC_region ?_
                refine T0_q (v := (.agg (List.toArray [v1, (.int .i64 p_Listappend.Window), (.int .i64 p_Listappend.Tooth), (.int .i64 p_Listappend.PerVane), (.int .i64 p_Listappend.First), (.int .i64 p_Listappend.Modulus), (.int .i64 p_Listappend.Slack), (.int .i64 p_Listappend.Errors), (.bool p_Listappend.Round)]))) rfl (yl_loadA (cs := [v1, (.int .i64 p_Listappend.Window), (.int .i64 p_Listappend.Tooth), (.int .i64 p_Listappend.PerVane), (.int .i64 p_Listappend.First), (.int .i64 p_Listappend.Modulus), (.int .i64 p_Listappend.Slack), (.int .i64 p_Listappend.Errors), (.bool p_Listappend.Round)]) ag24 hs329 (Box.at hB345)) ?_
                refine T0_q (v := (.agg (List.toArray [v4, (.int .i64 p_String.Count)]))) rfl (yl_loadA (cs := [v4, (.int .i64 p_String.Count)]) ag26 hs330 (Box.at hB340)) ?_
                obtain ⟨r362, hr363, h⟩ := bind_elim h
                refine T0_e rfl (eff_call Tryd.func26 nm26 rfl (ev2 rfl rfl) (ref04_Possible_ok ((.pointer (some ⟨b269, 0, none⟩)) :: L) _ (ltl_box (hL.chg e328) hB342) [v1, (.int .i64 p_Listappend.Window), (.int .i64 p_Listappend.Tooth), (.int .i64 p_Listappend.PerVane), (.int .i64 p_Listappend.First), (.int .i64 p_Listappend.Modulus), (.int .i64 p_Listappend.Slack), (.int .i64 p_Listappend.Errors), (.bool p_Listappend.Round)] p_Listappend ⟨v1, h343, rfl⟩ [v4, (.int .i64 p_String.Count)] p_String ⟨v4, h338, rfl⟩ r362 hr363) ?_)
                rintro _ wd364 ⟨he365, v366, rfl, h367⟩
                have e368 := e328.trans he365
                refine T0_q (v := v366) rfl (yl_assign rfl) ?_
                refine T0_nil ?_
                refine hK361 _ _ ?_
                refine WC_seqK fun K370 hK370 => ?_
                refine WC_seqK fun K371 hK371 => ?_
                refine WC_region ?_
                refine T0_q (v := (.int .i64 r83.2)) rfl (yl_move hs333) ?_
                refine T0_q (v := (.bool (!decide (r83.2 = 0)))) rfl (yl_neq rfl rfl) ?_
                refine T0_q (v := (.bool (!decide (r83.2 = 0)))) rfl (yl_move rfl) ?_
                refine T0_g (v := v87) (!(!decide (r83.2 = 0))) (wanted_f rfl rfl rfl rfl) (fun hg => (yl_move hs332)) ?_
                refine T0_g (v := v366) (!(!decide (r83.2 = 0))) (wanted_f rfl rfl rfl rfl) (fun hg => (yl_move rfl)) ?_
                obtain ⟨r372, hr373, h⟩ := bind_elim h
                refine T0_ges (!(!decide (r83.2 = 0))) (.bool r372) (wanted_f rfl rfl rfl rfl) (fun hg => eff_call Tryd.func27 nm27 rfl (ev2 (gd_true hg) (gd_true hg)) (base_Ranges_ok [] _ (LtL.nil _) v87 r83.1 ((h331.ext he365).sub (fun _ h => by cases h)) v366 r362 (h367.sub (fun _ h => by cases h)) r372 (cond_t hg hr373)) (by rintro _ wd374 ⟨he375, rfl⟩; exact ⟨rfl, he375⟩)) ?_
                intro wd374 he375
                have e376 := he365.trans he375
                have e377 := e368.trans he375
                refine T0_g (v := (.bool (!r372))) (!(!decide (r83.2 = 0))) (wanted_f rfl rfl rfl rfl) (fun hg => (yl_not (gd_true hg))) ?_
                refine T0_q (v := (.bool ((!decide (r83.2 = 0)) || (!r372)))) rfl (yl_or rfl rfl (fun hb => (gd_true (not_t hb)))) ?_
                refine T0_nil ?_
                refine hK371 _ _ ?_
                refine WC_cond (b := ((!decide (r83.2 = 0)) || (!r372))) rfl (fun hb378 => ?_) (fun hb378 => ?_)
                · replace h := cond_t hb378 h
                  refine WC_seqK fun K379 hK379 => ?_
                  refine WC_region ?_
                  refine T0_q (v := (.bool false)) rfl (yl_assign rfl) ?_
                  refine T0_nil ?_
                  refine hK379 _ _ ?_
                  refine WC_ret ?_
                  replace h := some_out h
                  subst h
                  exact ⟨[(.bool false)], ⟨rfl, trivial⟩, e377, rfl⟩
                · replace h := cond_f hb378 h
                  refine WC_skip ?_
                  refine hK370 _ _ ?_
                  refine WC_seqK fun K380 hK380 => ?_
                  refine WC_seqK fun K381 hK381 => ?_
                  refine WC_region ?_
                  refine T0_q (v := v366) rfl (yl_move rfl) ?_
                  refine T0_q (v := (.int .i64 (r362.length : Int))) rfl (yl_lenR rfl Tryd.underlying29 h367 rfl) ?_
                  refine T0_q (v := (.bool (decide ((r362.length : Int) = 1)))) rfl (yl_eql rfl rfl) ?_
                  refine T0_nil ?_
                  refine hK381 _ _ ?_
                  refine WC_cond (b := (decide ((r362.length : Int) = 1))) rfl (fun hb382 => ?_) (fun hb382 => ?_)
                  · replace h := cond_t hb382 h
                    refine WC_seqK fun K383 hK383 => ?_
                    refine WC_plan mixed (.p 0 (.p 1 (.p 2 (.p 4 (.p 5 (.q 3 (.q 6 (.p 7 (.p 8 (.p 9 .done)))))))))) (by kernel_rfl) ?_
                    intro wd384 he385
                    have e386 := e376.trans he385
                    have e387 := he375.trans he385
                    have e388 := e377.trans he385
                    refine TP_p (v := (.int .i64 r289.2)) rfl rfl (fun w' => (yl_move hs335)) ?_
                    refine TP_p (v := (.bool (decide (r289.2 = 0)))) rfl rfl (fun w' => (yl_eql rfl rfl)) ?_
                    refine TP_p (v := (.bool (decide (r289.2 = 0)))) rfl rfl (fun w' => (yl_move rfl)) ?_
                    refine TP_gp (v := v366) (decide (r289.2 = 0)) rfl (wanted_t rfl rfl rfl rfl) (fun w' hg => (yl_move rfl)) ?_
                    obtain ⟨el389, hel390, h⟩ := bind_elim h
                    have hat392 : (decide (r289.2 = 0)) = true → At wd364 (elemAddr v366 (0 : Int).toNat 2) [(.int .i64 el389.Lo), (.int .i64 el389.Hi)] := fun hg => by obtain ⟨cs, hat, hrd⟩ := SlRd.at h367 (cond_t hg hel390); have hrd : cs = [(.int .i64 el389.Lo), (.int .i64 el389.Hi)] := hrd; subst hrd; exact hat
                    refine TP_gp (v := (.pointer (some (elemAddr v366 (0 : Int).toNat 2)))) (decide (r289.2 = 0)) rfl (wanted_t rfl rfl rfl rfl) (fun w' hg => (yl_indexAddr Tryd.underlying29 sz36 h367 (cond_t hg hel390) (gd_true hg) rfl)) ?_
                    refine TP_gq (v := (.agg (List.toArray [(.int .i64 r289.1.Lo), (.int .i64 r289.1.Hi)]))) (decide (r289.2 = 0)) rfl (wanted_t rfl rfl rfl rfl) (fun w' hS hg => (yl_loadA (cs := [(.int .i64 r289.1.Lo), (.int .i64 r289.1.Hi)]) ag36 hs334 (Box.at (hB342.ext ((e386).trans hS))))) ?_
                    refine TP_gq (v := (.agg (List.toArray [(.int .i64 el389.Lo), (.int .i64 el389.Hi)]))) (decide (r289.2 = 0)) rfl (wanted_t rfl rfl rfl rfl) (fun w' hS hg => (yl_loadA (cs := [(.int .i64 el389.Lo), (.int .i64 el389.Hi)]) ag36 (gd_true hg) ((hat392 hg).ext' ((e387).trans hS)))) ?_
                    refine TP_gp (v := (.bool (decide ((Range.mk r289.1.Lo r289.1.Hi) = el389)))) (decide (r289.2 = 0)) rfl (wanted_t rfl rfl rfl rfl) (fun w' hg => (yl_eqlS eg36 (gd_true hg) (gd_true hg) (eqs36 (Range.mk r289.1.Lo r289.1.Hi) el389 _))) ?_
                    refine TP_p (v := (.bool ((decide (r289.2 = 0)) && (decide ((Range.mk r289.1.Lo r289.1.Hi) = el389))))) rfl rfl (fun w' => (yl_and rfl (fun hb => (gd_true hb)) rfl)) ?_
                    refine TP_p (v := (.bool ((decide (r289.2 = 0)) && (decide ((Range.mk r289.1.Lo r289.1.Hi) = el389))))) rfl rfl (fun w' => (yl_assign rfl)) ?_
                    refine TP_done ?_
                    refine hK383 _ _ ?_
                    refine WC_ret ?_
                    replace h := some_out h
                    subst h
                    exact ⟨[(.bool ((decide (r289.2 = 0)) && (decide ((Range.mk r289.1.Lo r289.1.Hi) = el389))))], ⟨rfl, trivial⟩, e388, rfl⟩
                  · replace h := cond_f hb382 h
                    refine WC_skip ?_
                    refine hK380 _ _ ?_
                    refine WC_seqK fun K394 hK394 => ?_
                    refine WC_region ?_
                    refine T0_q (v := (.agg (List.toArray [(.int .i64 r289.1.Lo), (.int .i64 r289.1.Hi)]))) rfl (yl_loadA (cs := [(.int .i64 r289.1.Lo), (.int .i64 r289.1.Hi)]) ag36 hs334 (Box.at (hB342.ext e376))) ?_
                    refine T0_q (v := (.agg (List.toArray [(.int .i64 0), (.int .i64 0)]))) rfl (yl_buildC (cells := [(.int .i64 0), (.int .i64 0)]) bi36 pc_nil rfl) ?_
                    refine T0_q (v := (.bool (decide ((Range.mk r289.1.Lo r289.1.Hi) = (Range.mk 0 0))))) rfl (yl_eqlS eg36 rfl rfl (eqs36 (Range.mk r289.1.Lo r289.1.Hi) (Range.mk 0 0) _)) ?_
                    refine T0_q (v := (.bool (decide ((Range.mk r289.1.Lo r289.1.Hi) = (Range.mk 0 0))))) rfl (yl_move rfl) ?_
                    refine T0_g (v := v366) (decide ((Range.mk r289.1.Lo r289.1.Hi) = (Range.mk 0 0))) (wanted_t rfl rfl rfl rfl) (fun hg => (yl_move rfl)) ?_
                    refine T0_g (v := (.int .i64 (r362.length : Int))) (decide ((Range.mk r289.1.Lo r289.1.Hi) = (Range.mk 0 0))) (wanted_t rfl rfl rfl rfl) (fun hg => (yl_lenR rfl Tryd.underlying29 h367 (gd_true hg))) ?_
                    refine T0_g (v := (.bool (decide ((r362.length : Int) = 0)))) (decide ((Range.mk r289.1.Lo r289.1.Hi) = (Range.mk 0 0))) (wanted_t rfl rfl rfl rfl) (fun hg => (yl_eql (gd_true hg) rfl)) ?_
                    refine T0_g (v := (.bool (decide ((r362.length : Int) = 0)))) (decide ((Range.mk r289.1.Lo r289.1.Hi) = (Range.mk 0 0))) (wanted_t rfl rfl rfl rfl) (fun hg => (yl_move (gd_true hg))) ?_
                    refine T0_g (v := (.int .i64 r289.2)) ((decide ((Range.mk r289.1.Lo r289.1.Hi) = (Range.mk 0 0))) && (decide ((r362.length : Int) = 0))) (wanted_gt rfl rfl rfl rfl) (fun hg => (yl_move hs335)) ?_
                    refine T0_g (v := (.bool (decide (r289.2 = 12)))) ((decide ((Range.mk r289.1.Lo r289.1.Hi) = (Range.mk 0 0))) && (decide ((r362.length : Int) = 0))) (wanted_gt rfl rfl rfl rfl) (fun hg => (yl_eql (gd_true hg) rfl)) ?_
                    refine T0_g (v := (.bool ((decide ((r362.length : Int) = 0)) && (decide (r289.2 = 12))))) (decide ((Range.mk r289.1.Lo r289.1.Hi) = (Range.mk 0 0))) (wanted_t rfl rfl rfl rfl) (fun hg => (yl_and (gd_true hg) (fun hb => (gd_true (and_i hg hb))) rfl)) ?_
                    refine T0_g (v := (.bool ((decide ((r362.length : Int) = 0)) && (decide (r289.2 = 12))))) (decide ((Range.mk r289.1.Lo r289.1.Hi) = (Range.mk 0 0))) (wanted_t rfl rfl rfl rfl) (fun hg => (yl_move (gd_true hg))) ?_
                    refine T0_g (v := v366) ((decide ((Range.mk r289.1.Lo r289.1.Hi) = (Range.mk 0 0))) && (!((decide ((r362.length : Int) = 0)) && (decide (r289.2 = 12))))) (wanted_gf rfl rfl rfl rfl) (fun hg => (yl_move rfl)) ?_
                    refine T0_g (v := (.int .i64 (r362.length : Int))) ((decide ((Range.mk r289.1.Lo r289.1.Hi) = (Range.mk 0 0))) && (!((decide ((r362.length : Int) = 0)) && (decide (r289.2 = 12))))) (wanted_gf rfl rfl rfl rfl) (fun hg => (yl_lenR rfl Tryd.underlying29 h367 (gd_true hg))) ?_
                    refine T0_g (v := (.bool (decide (1 < (r362.length : Int))))) ((decide ((Range.mk r289.1.Lo r289.1.Hi) = (Range.mk 0 0))) && (!((decide ((r362.length : Int) = 0)) && (decide (r289.2 = 12))))) (wanted_gf rfl rfl rfl rfl) (fun hg => (yl_gtr (gd_true hg) rfl)) ?_
                    refine T0_g (v := (.bool (decide (1 < (r362.length : Int))))) ((decide ((Range.mk r289.1.Lo r289.1.Hi) = (Range.mk 0 0))) && (!((decide ((r362.length : Int) = 0)) && (decide (r289.2 = 12))))) (wanted_gf rfl rfl rfl rfl) (fun hg => (yl_move (gd_true hg))) ?_
                    refine T0_g (v := (.int .i64 r289.2)) (((decide ((Range.mk r289.1.Lo r289.1.Hi) = (Range.mk 0 0))) && (!((decide ((r362.length : Int) = 0)) && (decide (r289.2 = 12))))) && (decide (1 < (r362.length : Int)))) (wanted_gt rfl rfl rfl rfl) (fun hg => (yl_move hs335)) ?_
                    refine T0_g (v := (.bool (decide (r289.2 = 29)))) (((decide ((Range.mk r289.1.Lo r289.1.Hi) = (Range.mk 0 0))) && (!((decide ((r362.length : Int) = 0)) && (decide (r289.2 = 12))))) && (decide (1 < (r362.length : Int)))) (wanted_gt rfl rfl rfl rfl) (fun hg => (yl_eql (gd_true hg) rfl)) ?_
                    refine T0_g (v := (.bool ((decide (1 < (r362.length : Int))) && (decide (r289.2 = 29))))) ((decide ((Range.mk r289.1.Lo r289.1.Hi) = (Range.mk 0 0))) && (!((decide ((r362.length : Int) = 0)) && (decide (r289.2 = 12))))) (wanted_gf rfl rfl rfl rfl) (fun hg => (yl_and (gd_true hg) (fun hb => (gd_true (and_i hg hb))) rfl)) ?_
                    refine T0_g (v := (.bool (((decide ((r362.length : Int) = 0)) && (decide (r289.2 = 12))) || ((decide (1 < (r362.length : Int))) && (decide (r289.2 = 29)))))) (decide ((Range.mk r289.1.Lo r289.1.Hi) = (Range.mk 0 0))) (wanted_t rfl rfl rfl rfl) (fun hg => (yl_or (gd_true hg) rfl (fun hb => (gd_true (and_i hg (not_t hb)))))) ?_
                    refine T0_q (v := (.bool ((decide ((Range.mk r289.1.Lo r289.1.Hi) = (Range.mk 0 0))) && (((decide ((r362.length : Int) = 0)) && (decide (r289.2 = 12))) || ((decide (1 < (r362.length : Int))) && (decide (r289.2 = 29))))))) rfl (yl_and rfl (fun hb => (gd_true hb)) rfl) ?_
                    refine T0_q (v := (.bool ((decide ((Range.mk r289.1.Lo r289.1.Hi) = (Range.mk 0 0))) && (((decide ((r362.length : Int) = 0)) && (decide (r289.2 = 12))) || ((decide (1 < (r362.length : Int))) && (decide (r289.2 = 29))))))) rfl (yl_assign rfl) ?_
                    refine T0_nil ?_
                    refine hK394 _ _ ?_
                    refine WC_ret ?_
                    replace h := some_out h
                    subst h
                    exact ⟨[(.bool ((decide ((Range.mk r289.1.Lo r289.1.Hi) = (Range.mk 0 0))) && (((decide ((r362.length : Int) = 0)) && (decide (r289.2 = 12))) || ((decide (1 < (r362.length : Int))) && (decide (r289.2 = 29))))))], ⟨rfl, trivial⟩, e377, rfl⟩
        · skip
          refine  (eff_allocZ zi36 ?_)
          intro b395 wd396 hb397 he398 hB399
          have hn400 : b395 ≠ b8 := box_ne (hB12.ext e118) hb397
          have hn401 : b395 ≠ b16 := box_ne (hB20.ext e114) hb397
          have hbf402 := bfresh e119 hb397
          have h403 := (h2.ext e113).step (add_box he398 hb397)
          have h404 := (h5.ext e113).step (add_box he398 hb397)
          have h405 := (h61.ext e115).step (add_box he398 hb397)
          have h406 := (h74.ext e116).step (add_box he398 hb397)
          have h407 := (h88.ext e117).step (add_box he398 hb397)
          have h408 := h110.step (add_box he398 hb397)
          have e409 := e114.trans he398
          have e410 := e118.trans he398
          have e411 := he108.trans he398
          have e412 := e119.trans he398
          refine ⟨e411, ?_⟩
          obtain ⟨r414, hr415, h⟩ := bind_elim h
          refine TP_e rfl rfl (eff_call Tryd.func22 nm22 rfl (ev1 rfl) (ref04_CopyReading_ok ((.pointer (some ⟨b395, 0, none⟩)) :: L) _ (ltl_box (hL.chg e412) hB399) [v4, (.int .i64 p_String.Count)] p_String ⟨v4, h404, rfl⟩ r414 hr415) ?_)
          rintro _ wd416 ⟨he417, cs420, rfl, hrd421⟩
          have e422 := e409.trans he417
          have e423 := e410.trans he417
          have e424 := e411.trans he417
          have e425 := e412.trans he417
          obtain ⟨v418, h419, rfl⟩ := hrd421
          refine ⟨e424, ?_⟩
          obtain ⟨r427, hr428, h⟩ := bind_elim h
          refine TP_e rfl rfl (eff_call Tryd.func23 nm23 rfl (ev2 rfl rfl) (locate_PlaceOf_ok [] _ (LtL.nil _) [v109, (.int .i64 r105.Window), (.int .i64 r105.Tooth), (.int .i64 r105.PerVane), (.int .i64 r105.First), (.int .i64 r105.Modulus), (.int .i64 r105.Slack), (.int .i64 r105.Errors), (.bool r105.Round)] r105 ⟨v109, ((h408.ext he417).sub (fun _ h => by cases h)), rfl⟩ [v418, (.int .i64 r414.Count)] r414 ⟨v418, (h419.sub (fun _ h => by cases h)), rfl⟩ r427 hr428) ?_)
          rintro _ wd429 ⟨he430, cs431, rfl, hrd432⟩
          have e433 := e422.trans he430
          have e434 := he417.trans he430
          have e435 := e423.trans he430
          have e436 := e424.trans he430
          have e437 := e425.trans he430
          have hrd432 : cs431 = [(.int .i64 r427.1.Lo), (.int .i64 r427.1.Hi)] := hrd432
          subst hrd432
          refine ⟨e436, ?_⟩
          refine TP_p (v := (.tuple #[(.agg (List.toArray [(.int .i64 r427.1.Lo), (.int .i64 r427.1.Hi)])), (.int .i64 r427.2)])) rfl rfl (fun w' => (yl_move rfl)) ?_
          refine TP_p (v := (.agg (List.toArray [(.int .i64 r427.1.Lo), (.int .i64 r427.1.Hi)]))) rfl rfl (fun w' => (yl_extract rfl rfl)) ?_
          refine TP_p (v := (.int .i64 r427.2)) rfl rfl (fun w' => (yl_extract rfl rfl)) ?_
          refine TP_b rfl rfl (eff_storeC (vs := [(.int .i64 r427.1.Lo), (.int .i64 r427.1.Hi)]) (cs' := [(.int .i64 r427.1.Lo), (.int .i64 r427.1.Hi)]) sz36 rfl rfl rfl rfl (hB399.ext e434) rfl (oc_cons rfl (oc_cons rfl oc_nil)) rfl ?_)
          intro wd438 hc439 hB440
          have h441 := (h403.ext e434).step (Stepp.chg_mem hc439 mem0)
          have h442 := (h404.ext e434).step (Stepp.chg_mem hc439 mem0)
          have h443 := (hB12.ext e435).chg hc439 (avoidb hn400)
          have h444 := (hB20.ext e433).chg hc439 (avoidb hn401)
          have h445 := (h405.ext e434).step (Stepp.chg_mem hc439 mem0)
          have h446 := (h406.ext e434).step (Stepp.chg_mem hc439 mem0)
          have h447 := (h407.ext e434).step (Stepp.chg_mem hc439 mem0)
          have h448 := (h408.ext e434).step (Stepp.chg_mem hc439 mem0)
          have h449 := (h419.ext he430).step (Stepp.chg_mem hc439 mem0)
          have e450 := chg_box e437 hc439 hbf402
          refine TP_p (v := (.int .i64 r427.2)) rfl rfl (fun w' => (yl_assign rfl)) ?_
          refine TP_done ?_
          refine hK96 _ _ ?_
          refine WC_seqK fun K451 hK451 => ?_
          refine WC_region ?_
          refine T0_q (v := (.agg (List.toArray [v1, (.int .i64 p_Listappend.Window), (.int .i64 p_Listappend.Tooth), (.int .i64 p_Listappend.PerVane), (.int .i64 p_Listappend.First), (.int .i64 p_Listappend.Modulus), (.int .i64 p_Listappend.Slack), (.int .i64 p_Listappend.Errors), (.bool p_Listappend.Round)]))) rfl (yl_loadA (cs := [v1, (.int .i64 p_Listappend.Window), (.int .i64 p_Listappend.Tooth), (.int .i64 p_Listappend.PerVane), (.int .i64 p_Listappend.First), (.int .i64 p_Listappend.Modulus), (.int .i64 p_Listappend.Slack), (.int .i64 p_Listappend.Errors), (.bool p_Listappend.Round)]) ag24 rfl (Box.at h443)) ?_
          obtain ⟨r452, hr453, h⟩ := bind_elim h
          refine T0_e rfl (eff_call Tryd.func24 nm24 rfl (ev1 rfl) (ref04_TrackErr_ok [] _ (LtL.nil _) [v1, (.int .i64 p_Listappend.Window), (.int .i64 p_Listappend.Tooth), (.int .i64 p_Listappend.PerVane), (.int .i64 p_Listappend.First), (.int .i64 p_Listappend.Modulus), (.int .i64 p_Listappend.Slack), (.int .i64 p_Listappend.Errors), (.bool p_Listappend.Round)] p_Listappend ⟨v1, (h441.sub (fun _ h => by cases h)), rfl⟩ r452 hr453) ?_)
          rintro _ wd454 ⟨he455, rfl⟩
          have e456 := e450.trans he455
          refine T0_q (v := (.int .i64 r452)) rfl (yl_assign rfl) ?_
          refine T0_nil ?_
          refine hK451 _ _ ?_
          refine WC_seqK fun K457 hK457 => ?_
          refine WC_seqK fun K458 hK458 => ?_
          refine WC_region ?_
          refine T0_q (v := (.int .i64 r452)) rfl (yl_move rfl) ?_
          refine T0_q (v := (.bool (decide (r452 = 0)))) rfl (yl_eql rfl rfl) ?_
          refine T0_nil ?_
          refine hK458 _ _ ?_
          obtain ⟨o485, ho486, hn487⟩ := bind_elim h
          refine WC_post (fun (ρ : Env) (wd466 : World) => ∃ (x475 : Int), x475 = o485 ∧ ρ 2 = (.pointer (some ⟨b8, 0, none⟩)) ∧ ρ 3 = (.pointer (some ⟨b16, 0, none⟩)) ∧ ρ 5 = v87 ∧ ρ 6 = (.int .i64 r83.2) ∧ ρ 7 = (.pointer (some ⟨b395, 0, none⟩)) ∧ ρ 8 = (.int .i64 r427.2) ∧ ρ 9 = (.int .i64 x475) ∧ SlRd ((.pointer (some ⟨b395, 0, none⟩)) :: L) wd466 v87 r83.1 ∧ SlRd ((.pointer (some ⟨b395, 0, none⟩)) :: L) wd466 v4 p_String.Seen ∧ SlRd ((.pointer (some ⟨b395, 0, none⟩)) :: L) wd466 v1 p_Listappend.Vanes ∧ Box wd466 b16 [v4, (.int .i64 p_String.Count)] 26 ∧ Box wd466 b395 [(.int .i64 r427.1.Lo), (.int .i64 r427.1.Hi)] 36 ∧ Box wd466 b8 [v1, (.int .i64 p_Listappend.Window), (.int .i64 p_Listappend.Tooth), (.int .i64 p_Listappend.PerVane), (.int .i64 p_Listappend.First), (.int .i64 p_Listappend.Modulus), (.int .i64 p_Listappend.Slack), (.int .i64 p_Listappend.Errors), (.bool p_Listappend.Round)] 24 ∧ Ext w wd466) ?_ ?_
          · intro K488 hK488
            replace h := ho486
            clear ho486
            refine WC_cond (b := (decide (r452 = 0))) rfl (fun hb489 => ?_) (fun hb489 => ?_)
            · replace h := cond_t hb489 h
              refine WC_region ?_
              refine T0_q (v := (.agg (List.toArray [v1, (.int .i64 p_Listappend.Window), (.int .i64 p_Listappend.Tooth), (.int .i64 p_Listappend.PerVane), (.int .i64 p_Listappend.First), (.int .i64 p_Listappend.Modulus), (.int .i64 p_Listappend.Slack), (.int .i64 p_Listappend.Errors), (.bool p_Listappend.Round)]))) rfl (yl_loadA (cs := [v1, (.int .i64 p_Listappend.Window), (.int .i64 p_Listappend.Tooth), (.int .i64 p_Listappend.PerVane), (.int .i64 p_Listappend.First), (.int .i64 p_Listappend.Modulus), (.int .i64 p_Listappend.Slack), (.int .i64 p_Listappend.Errors), (.bool p_Listappend.Round)]) ag24 rfl (Box.at (h443.ext he455))) ?_
              refine T0_q (v := (.agg (List.toArray [v4, (.int .i64 p_String.Count)]))) rfl (yl_loadA (cs := [v4, (.int .i64 p_String.Count)]) ag26 rfl (Box.at (h444.ext he455))) ?_
              obtain ⟨r490, hr491, h⟩ := bind_elim h
              refine T0_e rfl (eff_call Tryd.func25 nm25 rfl (ev2 rfl rfl) (ref04_ReadingErr_ok [] _ (LtL.nil _) [v1, (.int .i64 p_Listappend.Window), (.int .i64 p_Listappend.Tooth), (.int .i64 p_Listappend.PerVane), (.int .i64 p_Listappend.First), (.int .i64 p_Listappend.Modulus), (.int .i64 p_Listappend.Slack), (.int .i64 p_Listappend.Errors), (.bool p_Listappend.Round)] p_Listappend ⟨v1, ((h441.ext he455).sub (fun _ h => by cases h)), rfl⟩ [v4, (.int .i64 p_String.Count)] p_String ⟨v4, ((h442.ext he455).sub (fun _ h => by cases h)), rfl⟩ r490 hr491) ?_)
              rintro _ wd492 ⟨he493, rfl⟩
              have e494 := he455.trans he493
              have e495 := e456.trans he493
              refine T0_q (v := (.int .i64 r490)) rfl (yl_assign rfl) ?_
              refine T0_nil ?_
              replace h := some_out h
              subst h
              refine hK488 _ _ ?_
              exact ⟨r490, rfl, rfl, rfl, rfl, rfl, rfl, rfl, rfl, (h447.ext e494), (h442.ext e494), (h441.ext e494), (h444.ext e494), (hB440.ext e494), (h443.ext e494), e495⟩
            · replace h := cond_f hb489 h
              refine WC_skip ?_
              replace h := some_out h
              subst h
              refine hK488 _ _ ?_
              exact ⟨r452, rfl, rfl, rfl, rfl, rfl, rfl, rfl, rfl, (h447.ext he455), (h442.ext he455), (h441.ext he455), (h444.ext he455), (hB440.ext he455), (h443.ext he455), e456⟩
          · rintro ρ wd466 ⟨x475, rfl, hs468, hs469, hs471, hs472, hs473, hs474, hs476, h470, h477, h482, hB479, hB481, hB484, e467⟩
            replace h := hn487
            refine hK457 _ _ ?_
            refine WC_seqK fun K496 hK496 => ?_
            refine WC_seqK fun K497 hK497 => ?_
            refine WC_region ?_
            refine T0_q (v := (.int .i64 x475)) rfl (yl_move hs476) ?_
            refine T0_q (v := (.bool (!decide (x475 = 0)))) rfl (yl_neq rfl rfl) ?_
            refine T0_nil ?_
            refine hK497 _ _ ?_
            refine WC_cond (b := (!decide (x475 = 0))) rfl (fun hb498 => ?_) (fun hb498 => ?_)
            · replace h := cond_t hb498 h
              refine WC_seqK fun K499 hK499 => ?_
              refine WC_region ?_
              refine T0_q (v := (.int .i64 r83.2)) rfl (yl_move hs472) ?_
              refine T0_q (v := (.int .i64 x475)) rfl (yl_move hs476) ?_
              refine T0_q (v := (.bool (decide (r83.2 = x475)))) rfl (yl_eql rfl rfl) ?_
              refine T0_q (v := (.bool (decide (r83.2 = x475)))) rfl (yl_move rfl) ?_
              refine T0_g (v := (.int .i64 r427.2)) (decide (r83.2 = x475)) (wanted_t rfl rfl rfl rfl) (fun hg => (yl_move hs474)) ?_
              refine T0_g (v := (.int .i64 x475)) (decide (r83.2 = x475)) (wanted_t rfl rfl rfl rfl) (fun hg => (yl_move hs476)) ?_
              refine T0_g (v := (.bool (decide (r427.2 = x475)))) (decide (r83.2 = x475)) (wanted_t rfl rfl rfl rfl) (fun hg => (yl_eql (gd_true hg) (gd_true hg))) ?_
              refine T0_q (v := (.bool ((decide (r83.2 = x475)) && (decide (r427.2 = x475))))) rfl (yl_and rfl (fun hb => (gd_true hb)) rfl) ?_
              refine T0_q (v := (.bool ((decide (r83.2 = x475)) && (decide (r427.2 = x475))))) rfl (yl_move rfl) ?_
              refine T0_g (v := v87) ((decide (r83.2 = x475)) && (decide (r427.2 = x475))) (wanted_t rfl rfl rfl rfl) (fun hg => (yl_move hs471)) ?_
              refine T0_g (v := (.int .i64 (r83.1.length : Int))) ((decide (r83.2 = x475)) && (decide (r427.2 = x475))) (wanted_t rfl rfl rfl rfl) (fun hg => (yl_lenR rfl Tryd.underlying29 h470 (gd_true hg))) ?_
              refine T0_g (v := (.bool (decide ((r83.1.length : Int) = 0)))) ((decide (r83.2 = x475)) && (decide (r427.2 = x475))) (wanted_t rfl rfl rfl rfl) (fun hg => (yl_eql (gd_true hg) rfl)) ?_
              refine T0_q (v := (.bool (((decide (r83.2 = x475)) && (decide (r427.2 = x475))) && (decide ((r83.1.length : Int) = 0))))) rfl (yl_and rfl (fun hb => (gd_true hb)) rfl) ?_
              refine T0_q (v := (.bool (((decide (r83.2 = x475)) && (decide (r427.2 = x475))) && (decide ((r83.1.length : Int) = 0))))) rfl (yl_move rfl) ?_
              refine T0_g (v := (.agg (List.toArray [(.int .i64 r427.1.Lo), (.int .i64 r427.1.Hi)]))) (((decide (r83.2 = x475)) && (decide (r427.2 = x475))) && (decide ((r83.1.length : Int) = 0))) (wanted_t rfl rfl rfl rfl) (fun hg => (yl_loadA (cs := [(.int .i64 r427.1.Lo), (.int .i64 r427.1.Hi)]) ag36 hs473 (Box.at hB481))) ?_
              refine T0_g (v := (.agg (List.toArray [(.int .i64 0), (.int .i64 0)]))) (((decide (r83.2 = x475)) && (decide (r427.2 = x475))) && (decide ((r83.1.length : Int) = 0))) (wanted_t rfl rfl rfl rfl) (fun hg => (yl_buildC (cells := [(.int .i64 0), (.int .i64 0)]) bi36 pc_nil rfl)) ?_
              refine T0_g (v := (.bool (decide ((Range.mk r427.1.Lo r427.1.Hi) = (Range.mk 0 0))))) (((decide (r83.2 = x475)) && (decide (r427.2 = x475))) && (decide ((r83.1.length : Int) = 0))) (wanted_t rfl rfl rfl rfl) (fun hg => (yl_eqlS eg36 (gd_true hg) (gd_true hg) (eqs36 (Range.mk r427.1.Lo r427.1.Hi) (Range.mk 0 0) _))) ?_
              refine T0_q (v := (.bool ((((decide (r83.2 = x475)) && (decide (r427.2 = x475))) && (decide ((r83.1.length : Int) = 0))) && (decide ((Range.mk r427.1.Lo r427.1.Hi) = (Range.mk 0 0)))))) rfl (yl_and rfl (fun hb => (gd_true hb)) rfl) ?_
              refine T0_q (v := (.bool ((((decide (r83.2 = x475)) && (decide (r427.2 = x475))) && (decide ((r83.1.length : Int) = 0))) && (decide ((Range.mk r427.1.Lo r427.1.Hi) = (Range.mk 0 0)))))) rfl (yl_assign rfl) ?_
              refine T0_nil ?_
              refine hK499 _ _ ?_
              refine WC_ret ?_
              replace h := some_out h
              subst h
              exact ⟨[(.bool ((((decide (r83.2 = x475)) && (decide (r427.2 = x475))) && (decide ((r83.1.length : Int) = 0))) && (decide ((Range.mk r427.1.Lo r427.1.Hi) = (Range.mk 0 0)))))], ⟨rfl, trivial⟩, e467, rfl⟩
            · replace h := cond_f hb498 h
              refine WC_skip ?_
              refine hK496 _ _ ?_
              refine WC_seqK fun K500 hK500 => ?_
              refine WC_region ?_
              refine T0_q (v := (.agg (List.toArray [v1, (.int .i64 p_Listappend.Window), (.int .i64 p_Listappend.Tooth), (.int .i64 p_Listappend.PerVane), (.int .i64 p_Listappend.First), (.int .i64 p_Listappend.Modulus), (.int .i64 p_Listappend.Slack), (.int .i64 p_Listappend.Errors), (.bool p_Listappend.Round)]))) rfl (yl_loadA (cs := [v1, (.int .i64 p_Listappend.Window), (.int .i64 p_Listappend.Tooth), (.int .i64 p_Listappend.PerVane), (.int .i64 p_Listappend.First), (.int .i64 p_Listappend.Modulus), (.int .i64 p_Listappend.Slack), (.int .i64 p_Listappend.Errors), (.bool p_Listappend.Round)]) ag24 hs468 (Box.at hB484)) ?_
              refine T0_q (v := (.agg (List.toArray [v4, (.int .i64 p_String.Count)]))) rfl (yl_loadA (cs := [v4, (.int .i64 p_String.Count)]) ag26 hs469 (Box.at hB479)) ?_
              obtain ⟨r501, hr502, h⟩ := bind_elim h
              refine T0_e rfl (eff_call Tryd.func26 nm26 rfl (ev2 rfl rfl) (ref04_Possible_ok ((.pointer (some ⟨b395, 0, none⟩)) :: L) _ (ltl_box (hL.chg e467) hB481) [v1, (.int .i64 p_Listappend.Window), (.int .i64 p_Listappend.Tooth), (.int .i64 p_Listappend.PerVane), (.int .i64 p_Listappend.First), (.int .i64 p_Listappend.Modulus), (.int .i64 p_Listappend.Slack), (.int .i64 p_Listappend.Errors), (.bool p_Listappend.Round)] p_Listappend ⟨v1, h482, rfl⟩ [v4, (.int .i64 p_String.Count)] p_String ⟨v4, h477, rfl⟩ r501 hr502) ?_)
              rintro _ wd503 ⟨he504, v505, rfl, h506⟩
              have e507 := e467.trans he504
              refine T0_q (v := v505) rfl (yl_assign rfl) ?_
              refine T0_nil ?_
              refine hK500 _ _ ?_
              refine WC_seqK fun K509 hK509 => ?_
              refine WC_seqK fun K510 hK510 => ?_
              refine WC_region ?_
              refine T0_q (v := (.int .i64 r83.2)) rfl (yl_move hs472) ?_
              refine T0_q (v := (.bool (!decide (r83.2 = 0)))) rfl (yl_neq rfl rfl) ?_
              refine T0_q (v := (.bool (!decide (r83.2 = 0)))) rfl (yl_move rfl) ?_
              refine T0_g (v := v87) (!(!decide (r83.2 = 0))) (wanted_f rfl rfl rfl rfl) (fun hg => (yl_move hs471)) ?_
              refine T0_g (v := v505) (!(!decide (r83.2 = 0))) (wanted_f rfl rfl rfl rfl) (fun hg => (yl_move rfl)) ?_
              obtain ⟨r511, hr512, h⟩ := bind_elim h
              refine T0_ges (!(!decide (r83.2 = 0))) (.bool r511) (wanted_f rfl rfl rfl rfl) (fun hg => eff_call Tryd.func27 nm27 rfl (ev2 (gd_true hg) (gd_true hg)) (base_Ranges_ok [] _ (LtL.nil _) v87 r83.1 ((h470.ext he504).sub (fun _ h => by cases h)) v505 r501 (h506.sub (fun _ h => by cases h)) r511 (cond_t hg hr512)) (by rintro _ wd513 ⟨he514, rfl⟩; exact ⟨rfl, he514⟩)) ?_
              intro wd513 he514
              have e515 := he504.trans he514
              have e516 := e507.trans he514
              refine T0_g (v := (.bool (!r511))) (!(!decide (r83.2 = 0))) (wanted_f rfl rfl rfl rfl) (fun hg => (yl_not (gd_true hg))) ?_
              refine T0_q (v := (.bool ((!decide (r83.2 = 0)) || (!r511)))) rfl (yl_or rfl rfl (fun hb => (gd_true (not_t hb)))) ?_
              refine T0_nil ?_
              refine hK510 _ _ ?_
              refine WC_cond (b := ((!decide (r83.2 = 0)) || (!r511))) rfl (fun hb517 => ?_) (fun hb517 => ?_)
              · replace h := cond_t hb517 h
                refine WC_seqK fun K518 hK518 => ?_
                refine WC_region ?_
                refine T0_q (v := (.bool false)) rfl (yl_assign rfl) ?_
                refine T0_nil ?_
                refine hK518 _ _ ?_
                refine WC_ret ?_
                replace h := some_out h
                subst h
                exact ⟨[(.bool false)], ⟨rfl, trivial⟩, e516, rfl⟩
              · replace h := cond_f hb517 h
                refine WC_skip ?_
                refine hK509 _ _ ?_
                refine WC_seqK fun K519 hK519 => ?_
                refine WC_seqK fun K520 hK520 => ?_
                refine WC_region ?_
                refine T0_q (v := v505) rfl (yl_move rfl) ?_
                refine T0_q (v := (.int .i64 (r501.length : Int))) rfl (yl_lenR rfl Tryd.underlying29 h506 rfl) ?_
                refine T0_q (v := (.bool (decide ((r501.length : Int) = 1)))) rfl (yl_eql rfl rfl) ?_
                refine T0_nil ?_
                refine hK520 _ _ ?_
                refine WC_cond (b := (decide ((r501.length : Int) = 1))) rfl (fun hb521 => ?_) (fun hb521 => ?_)
                · replace h := cond_t hb521 h
                  refine WC_seqK fun K522 hK522 => ?_
                  refine WC_plan mixed (.p 0 (.p 1 (.p 2 (.p 4 (.p 5 (.q 3 (.q 6 (.p 7 (.p 8 (.p 9 .done)))))))))) (by kernel_rfl) ?_
                  intro wd523 he524
                  have e525 := e515.trans he524
                  have e526 := he514.trans he524
                  have e527 := e516.trans he524
                  refine TP_p (v := (.int .i64 r427.2)) rfl rfl (fun w' => (yl_move hs474)) ?_
                  refine TP_p (v := (.bool (decide (r427.2 = 0)))) rfl rfl (fun w' => (yl_eql rfl rfl)) ?_
                  refine TP_p (v := (.bool (decide (r427.2 = 0)))) rfl rfl (fun w' => (yl_move rfl)) ?_
                  refine TP_gp (v := v505) (decide (r427.2 = 0)) rfl (wanted_t rfl rfl rfl rfl) (fun w' hg => (yl_move rfl)) ?_
                  obtain ⟨el528, hel529, h⟩ := bind_elim h
                  have hat531 : (decide (r427.2 = 0)) = true → At wd503 (elemAddr v505 (0 : Int).toNat 2) [(.int .i64 el528.Lo), (.int .i64 el528.Hi)] := fun hg => by obtain ⟨cs, hat, hrd⟩ := SlRd.at h506 (cond_t hg hel529); have hrd : cs = [(.int .i64 el528.Lo), (.int .i64 el528.Hi)] := hrd; subst hrd; exact hat
                  refine TP_gp (v := (.pointer (some (elemAddr v505 (0 : Int).toNat 2)))) (decide (r427.2 = 0)) rfl (wanted_t rfl rfl rfl rfl) (fun w' hg => (yl_indexAddr Tryd.underlying29 sz36 h506 (cond_t hg hel529) (gd_true hg) rfl)) ?_
                  refine TP_gq (v := (.agg (List.toArray [(.int .i64 r427.1.Lo), (.int .i64 r427.1.Hi)]))) (decide (r427.2 = 0)) rfl (wanted_t rfl rfl rfl rfl) (fun w' hS hg => (yl_loadA (cs := [(.int .i64 r427.1.Lo), (.int .i64 r427.1.Hi)]) ag36 hs473 (Box.at (hB481.ext ((e525).trans hS))))) ?_
                  refine TP_gq (v := (.agg (List.toArray [(.int .i64 el528.Lo), (.int .i64 el528.Hi)]))) (decide (r427.2 = 0)) rfl (wanted_t rfl rfl rfl rfl) (fun w' hS hg => (yl_loadA (cs := [(.int .i64 el528.Lo), (.int .i64 el528.Hi)]) ag36 (gd_true hg) ((hat531 hg).ext' ((e526).trans hS)))) ?_
                  refine TP_gp (v := (.bool (decide ((Range.mk r427.1.Lo r427.1.Hi) = el528)))) (decide (r427.2 = 0)) rfl (wanted_t rfl rfl rfl rfl) (fun w' hg => (yl_eqlS eg36 (gd_true hg) (gd_true hg) (eqs36 (Range.mk r427.1.Lo r427.1.Hi) el528 _))) ?_
                  refine TP_p (v := (.bool ((decide (r427.2 = 0)) && (decide ((Range.mk r427.1.Lo r427.1.Hi) = el528))))) rfl rfl (fun w' => (yl_and rfl (fun hb => (gd_true hb)) rfl)) ?_
                  refine TP_p (v := (.bool ((decide (r427.2 = 0)) && (decide ((Range.mk r427.1.Lo r427.1.Hi) = el528))))) rfl rfl (fun w' => (yl_assign rfl)) ?_
                  refine TP_done ?_
                  refine hK522 _ _ ?_
                  refine WC_ret ?_
                  replace h := some_out h
                  subst h
                  exact ⟨[(.bool ((decide (r427.2 = 0)) && (decide ((Range.mk r427.1.Lo r427.1.Hi) = el528))))], ⟨rfl, trivial⟩, e527, rfl⟩
                · replace h := cond_f hb521 h
                  refine WC_skip ?_
                  refine hK519 _ _ ?_
                  refine WC_seqK fun K533 hK533 => ?_
                  refine WC_region ?_
                  refine T0_q (v := (.agg (List.toArray [(.int .i64 r427.1.Lo), (.int .i64 r427.1.Hi)]))) rfl (yl_loadA (cs := [(.int .i64 r427.1.Lo), (.int .i64 r427.1.Hi)]) ag36 hs473 (Box.at (hB481.ext e515))) ?_
                  refine T0_q (v := (.agg (List.toArray [(.int .i64 0), (.int .i64 0)]))) rfl (yl_buildC (cells := [(.int .i64 0), (.int .i64 0)]) bi36 pc_nil rfl) ?_
                  refine T0_q (v := (.bool (decide ((Range.mk r427.1.Lo r427.1.Hi) = (Range.mk 0 0))))) rfl (yl_eqlS eg36 rfl rfl (eqs36 (Range.mk r427.1.Lo r427.1.Hi) (Range.mk 0 0) _)) ?_
                  refine T0_q (v := (.bool (decide ((Range.mk r427.1.Lo r427.1.Hi) = (Range.mk 0 0))))) rfl (yl_move rfl) ?_
                  refine T0_g (v := v505) (decide ((Range.mk r427.1.Lo r427.1.Hi) = (Range.mk 0 0))) (wanted_t rfl rfl rfl rfl) (fun hg => (yl_move rfl)) ?_
                  refine T0_g (v := (.int .i64 (r501.length : Int))) (decide ((Range.mk r427.1.Lo r427.1.Hi) = (Range.mk 0 0))) (wanted_t rfl rfl rfl rfl) (fun hg => (yl_lenR rfl Tryd.underlying29 h506 (gd_true hg))) ?_
                  refine T0_g (v := (.bool (decide ((r501.length : Int) = 0)))) (decide ((Range.mk r427.1.Lo r427.1.Hi) = (Range.mk 0 0))) (wanted_t rfl rfl rfl rfl) (fun hg => (yl_eql (gd_true hg) rfl)) ?_
                  refine T0_g (v := (.bool (decide ((r501.length : Int) = 0)))) (decide ((Range.mk r427.1.Lo r427.1.Hi) = (Range.mk 0 0))) (wanted_t rfl rfl rfl rfl) (fun hg => (yl_move (gd_true hg))) ?_
                  refine T0_g (v := (.int .i64 r427.2)) ((decide ((Range.mk r427.1.Lo r427.1.Hi) = (Range.mk 0 0))) && (decide ((r501.length : Int) = 0))) (wanted_gt rfl rfl rfl rfl) (fun hg => (yl_move hs474)) ?_
                  refine T0_g (v := (.bool (decide (r427.2 = 12)))) ((decide ((Range.mk r427.1.Lo r427.1.Hi) = (Range.mk 0 0))) && (decide ((r501.length : Int) = 0))) (wanted_gt rfl rfl rfl rfl) (fun hg => (yl_eql (gd_true hg) rfl)) ?_
                  refine T0_g (v := (.bool ((decide ((r501.length : Int) = 0)) && (decide (r427.2 = 12))))) (decide ((Range.mk r427.1.Lo r427.1.Hi) = (Range.mk 0 0))) (wanted_t rfl rfl rfl rfl) (fun hg => (yl_and (gd_true hg) (fun hb => (gd_true (and_i hg hb))) rfl)) ?_
                  refine T0_g (v := (.bool ((decide ((r501.length : Int) = 0)) && (decide (r427.2 = 12))))) (decide ((Range.mk r427.1.Lo r427.1.Hi) = (Range.mk 0 0))) (wanted_t rfl rfl rfl rfl) (fun hg => (yl_move (gd_true hg))) ?_
                  refine T0_g (v := v505) ((decide ((Range.mk r427.1.Lo r427.1.Hi) = (Range.mk 0 0))) && (!((decide ((r501.length : Int) = 0)) && (decide (r427.2 = 12))))) (wanted_gf rfl rfl rfl rfl) (fun hg => (yl_move rfl)) ?_
                  refine T0_g (v := (.int .i64 (r501.length : Int))) ((decide ((Range.mk r427.1.Lo r427.1.Hi) = (Range.mk 0 0))) && (!((decide ((r501.length : Int) = 0)) && (decide (r427.2 = 12))))) (wanted_gf rfl rfl rfl rfl) (fun hg => (yl_lenR rfl Tryd.underlying29 h506 (gd_true hg))) ?_
                  refine T0_g (v := (.bool (decide (1 < (r501.length : Int))))) ((decide ((Range.mk r427.1.Lo r427.1.Hi) = (Range.mk 0 0))) && (!((decide ((r501.length : Int) = 0)) && (decide (r427.2 = 12))))) (wanted_gf rfl rfl rfl rfl) (fun hg => (yl_gtr (gd_true hg) rfl)) ?_
                  refine T0_g (v := (.bool (decide (1 < (r501.length : Int))))) ((decide ((Range.mk r427.1.Lo r427.1.Hi) = (Range.mk 0 0))) && (!((decide ((r501.length : Int) = 0)) && (decide (r427.2 = 12))))) (wanted_gf rfl rfl rfl rfl) (fun hg => (yl_move (gd_true hg))) ?_
                  refine T0_g (v := (.int .i64 r427.2)) (((decide ((Range.mk r427.1.Lo r427.1.Hi) = (Range.mk 0 0))) && (!((decide ((r501.length : Int) = 0)) && (decide (r427.2 = 12))))) && (decide (1 < (r501.length : Int)))) (wanted_gt rfl rfl rfl rfl) (fun hg => (yl_move hs474)) ?_
                  refine T0_g (v := (.bool (decide (r427.2 = 29)))) (((decide ((Range.mk r427.1.Lo r427.1.Hi) = (Range.mk 0 0))) && (!((decide ((r501.length : Int) = 0)) && (decide (r427.2 = 12))))) && (decide (1 < (r501.length : Int)))) (wanted_gt rfl rfl rfl rfl) (fun hg => (yl_eql (gd_true hg) rfl)) ?_
                  refine T0_g (v := (.bool ((decide (1 < (r501.length : Int))) && (decide (r427.2 = 29))))) ((decide ((Range.mk r427.1.Lo r427.1.Hi) = (Range.mk 0 0))) && (!((decide ((r501.length : Int) = 0)) && (decide (r427.2 = 12))))) (wanted_gf rfl rfl rfl rfl) (fun hg => (yl_and (gd_true hg) (fun hb => (gd_true (and_i hg hb))) rfl)) ?_
                  refine T0_g (v := (.bool (((decide ((r501.length : Int) = 0)) && (decide (r427.2 = 12))) || ((decide (1 < (r501.length : Int))) && (decide (r427.2 = 29)))))) (decide ((Range.mk r427.1.Lo r427.1.Hi) = (Range.mk 0 0))) (wanted_t rfl rfl rfl rfl) (fun hg => (yl_or (gd_true hg) rfl (fun hb => (gd_true (and_i hg (not_t hb)))))) ?_
                  refine T0_q (v := (.bool ((decide ((Range.mk r427.1.Lo r427.1.Hi) = (Range.mk 0 0))) && (((decide ((r501.length : Int) = 0)) && (decide (r427.2 = 12))) || ((decide (1 < (r501.length : Int))) && (decide (r427.2 = 29))))))) rfl (yl_and rfl (fun hb => (gd_true hb)) rfl) ?_
                  refine T0_q (v := (.bool ((decide ((Range.mk r427.1.Lo r427.1.Hi) = (Range.mk 0 0))) && (((decide ((r501.length : Int) = 0)) && (decide (r427.2 = 12))) || ((decide (1 < (r501.length : Int))) && (decide (r427.2 = 29))))))) rfl (yl_assign rfl) ?_
                  refine T0_nil ?_
                  refine hK533 _ _ ?_
                  refine WC_ret ?_
                  replace h := some_out h
                  subst h
                  exact ⟨[(.bool ((decide ((Range.mk r427.1.Lo r427.1.Hi) = (Range.mk 0 0))) && (((decide ((r501.length : Int) = 0)) && (decide (r427.2 = 12))) || ((decide (1 < (r501.length : Int))) && (decide (r427.2 = 29))))))], ⟨rfl, trivial⟩, e516, rfl⟩
      · skip
        refine  (eff_allocZ zi36 ?_)
        intro b534 wd535 hb536 he537 hB538
        have hn539 : b534 ≠ b8 := box_ne (hB12.ext e103) hb536
        have hn540 : b534 ≠ b16 := box_ne (hB20.ext e100) hb536
        have hbf541 := bfresh e104 hb536
        have h542 := (h2.ext e99).step (add_box he537 hb536)
        have h543 := (h5.ext e99).step (add_box he537 hb536)
        have h544 := (h61.ext e101).step (add_box he537 hb536)
        have h545 := (h74.ext e102).step (add_box he537 hb536)
        have h546 := (h88.ext he98).step (add_box he537 hb536)
        have e547 := e100.trans he537
        have e548 := e103.trans he537
        have e549 := e104.trans he537
        refine ⟨he537, ?_⟩
        obtain ⟨r551, hr552, h⟩ := bind_elim h
        refine TP_e rfl rfl (eff_call Tryd.func21 nm21 rfl (ev1 rfl) (ref04_Copy_ok ((.pointer (some ⟨b534, 0, none⟩)) :: L) _ (ltl_box (hL.chg e549) hB538) [v1, (.int .i64 p_Listappend.Window), (.int .i64 p_Listappend.Tooth), (.int .i64 p_Listappend.PerVane), (.int .i64 p_Listappend.First), (.int .i64 p_Listappend.Modulus), (.int .i64 p_Listappend.Slack), (.int .i64 p_Listappend.Errors), (.bool p_Listappend.Round)] p_Listappend ⟨v1, h542, rfl⟩ r551 hr552) ?_)
        rintro _ wd553 ⟨he554, cs557, rfl, hrd558⟩
        have e559 := e547.trans he554
        have e560 := e548.trans he554
        have e561 := he537.trans he554
        have e562 := e549.trans he554
        obtain ⟨v555, h556, rfl⟩ := hrd558
        refine ⟨e561, ?_⟩
        obtain ⟨r564, hr565, h⟩ := bind_elim h
        refine TP_e rfl rfl (eff_call Tryd.func22 nm22 rfl (ev1 rfl) (ref04_CopyReading_ok ((.pointer (some ⟨b534, 0, none⟩)) :: L) _ (ltl_box (hL.chg e562) (hB538.ext he554)) [v4, (.int .i64 p_String.Count)] p_String ⟨v4, (h543.ext he554), rfl⟩ r564 hr565) ?_)
        rintro _ wd566 ⟨he567, cs570, rfl, hrd571⟩
        have e572 := e559.trans he567
        have e573 := he554.trans he567
        have e574 := e560.trans he567
        have e575 := e561.trans he567
        have e576 := e562.trans he567
        obtain ⟨v568, h569, rfl⟩ := hrd571
        refine ⟨e575, ?_⟩
        obtain ⟨r578, hr579, h⟩ := bind_elim h
        refine TP_e rfl rfl (eff_call Tryd.func23 nm23 rfl (ev2 rfl rfl) (locate_PlaceOf_ok [] _ (LtL.nil _) [v555, (.int .i64 r551.Window), (.int .i64 r551.Tooth), (.int .i64 r551.PerVane), (.int .i64 r551.First), (.int .i64 r551.Modulus), (.int .i64 r551.Slack), (.int .i64 r551.Errors), (.bool r551.Round)] r551 ⟨v555, ((h556.ext he567).sub (fun _ h => by cases h)), rfl⟩ [v568, (.int .i64 r564.Count)] r564 ⟨v568, (h569.sub (fun _ h => by cases h)), rfl⟩ r578 hr579) ?_)
        rintro _ wd580 ⟨he581, cs582, rfl, hrd583⟩
        have e584 := e572.trans he581
        have e585 := e573.trans he581
        have e586 := he567.trans he581
        have e587 := e574.trans he581
        have e588 := e575.trans he581
        have e589 := e576.trans he581
        have hrd583 : cs582 = [(.int .i64 r578.1.Lo), (.int .i64 r578.1.Hi)] := hrd583
        subst hrd583
        refine ⟨e588, ?_⟩
        refine TP_p (v := (.tuple #[(.agg (List.toArray [(.int .i64 r578.1.Lo), (.int .i64 r578.1.Hi)])), (.int .i64 r578.2)])) rfl rfl (fun w' => (yl_move rfl)) ?_
        refine TP_p (v := (.agg (List.toArray [(.int .i64 r578.1.Lo), (.int .i64 r578.1.Hi)]))) rfl rfl (fun w' => (yl_extract rfl rfl)) ?_
        refine TP_p (v := (.int .i64 r578.2)) rfl rfl (fun w' => (yl_extract rfl rfl)) ?_
        refine TP_b rfl rfl (eff_storeC (vs := [(.int .i64 r578.1.Lo), (.int .i64 r578.1.Hi)]) (cs' := [(.int .i64 r578.1.Lo), (.int .i64 r578.1.Hi)]) sz36 rfl rfl rfl rfl (hB538.ext e585) rfl (oc_cons rfl (oc_cons rfl oc_nil)) rfl ?_)
        intro wd590 hc591 hB592
        have h593 := (h542.ext e585).step (Stepp.chg_mem hc591 mem0)
        have h594 := (h543.ext e585).step (Stepp.chg_mem hc591 mem0)
        have h595 := (hB12.ext e587).chg hc591 (avoidb hn539)
        have h596 := (hB20.ext e584).chg hc591 (avoidb hn540)
        have h597 := (h544.ext e585).step (Stepp.chg_mem hc591 mem0)
        have h598 := (h545.ext e585).step (Stepp.chg_mem hc591 mem0)
        have h599 := (h546.ext e585).step (Stepp.chg_mem hc591 mem0)
        have h600 := (h556.ext e586).step (Stepp.chg_mem hc591 mem0)
        have h601 := (h569.ext he581).step (Stepp.chg_mem hc591 mem0)
        have e602 := chg_box e589 hc591 hbf541
        refine TP_p (v := (.int .i64 r578.2)) rfl rfl (fun w' => (yl_assign rfl)) ?_
        refine TP_done ?_
        refine hK96 _ _ ?_
        refine WC_seqK fun K603 hK603 => ?_
        refine WC_region ?_
        refine T0_q (v := (.agg (List.toArray [v1, (.int .i64 p_Listappend.Window), (.int .i64 p_Listappend.Tooth), (.int .i64 p_Listappend.PerVane), (.int .i64 p_Listappend.First), (.int .i64 p_Listappend.Modulus), (.int .i64 p_Listappend.Slack), (.int .i64 p_Listappend.Errors), (.bool p_Listappend.Round)]))) rfl (yl_loadA (cs := [v1, (.int .i64 p_Listappend.Window), (.int .i64 p_Listappend.Tooth), (.int .i64 p_Listappend.PerVane), (.int .i64 p_Listappend.First), (.int .i64 p_Listappend.Modulus), (.int .i64 p_Listappend.Slack), (.int .i64 p_Listappend.Errors), (.bool p_Listappend.Round)]) ag24 rfl (Box.at h595)) ?_
        obtain ⟨r604, hr605, h⟩ := bind_elim h
        refine T0_e rfl (eff_call Tryd.func24 nm24 rfl (ev1 rfl) (ref04_TrackErr_ok [] _ (LtL.nil _) [v1, (.int .i64 p_Listappend.Window), (.int .i64 p_Listappend.Tooth), (.int .i64 p_Listappend.PerVane), (.int .i64 p_Listappend.First), (.int .i64 p_Listappend.Modulus), (.int .i64 p_Listappend.Slack), (.int .i64 p_Listappend.Errors), (.bool p_Listappend.Round)] p_Listappend ⟨v1, (h593.sub (fun _ h => by cases h)), rfl⟩ r604 hr605) ?_)
        rintro _ wd606 ⟨he607, rfl⟩
        have e608 := e602.trans he607
        refine T0_q (v := (.int .i64 r604)) rfl (yl_assign rfl) ?_
        refine T0_nil ?_
        refine hK603 _ _ ?_
        refine WC_seqK fun K609 hK609 => ?_
        refine WC_seqK fun K610 hK610 => ?_
        refine WC_region ?_
        refine T0_q (v := (.int .i64 r604)) rfl (yl_move rfl) ?_
        refine T0_q (v := (.bool (decide (r604 = 0)))) rfl (yl_eql rfl rfl) ?_
        refine T0_nil ?_
        refine hK610 _ _ ?_
        obtain ⟨o637, ho638, hn639⟩ := bind_elim h
        refine WC_post (fun (ρ : Env) (wd618 : World) => ∃ (x627 : Int), x627 = o637 ∧ ρ 2 = (.pointer (some ⟨b8, 0, none⟩)) ∧ ρ 3 = (.pointer (some ⟨b16, 0, none⟩)) ∧ ρ 5 = v87 ∧ ρ 6 = (.int .i64 r83.2) ∧ ρ 7 = (.pointer (some ⟨b534, 0, none⟩)) ∧ ρ 8 = (.int .i64 r578.2) ∧ ρ 9 = (.int .i64 x627) ∧ SlRd ((.pointer (some ⟨b534, 0, none⟩)) :: L) wd618 v87 r83.1 ∧ SlRd ((.pointer (some ⟨b534, 0, none⟩)) :: L) wd618 v4 p_String.Seen ∧ SlRd ((.pointer (some ⟨b534, 0, none⟩)) :: L) wd618 v1 p_Listappend.Vanes ∧ Box wd618 b16 [v4, (.int .i64 p_String.Count)] 26 ∧ Box wd618 b534 [(.int .i64 r578.1.Lo), (.int .i64 r578.1.Hi)] 36 ∧ Box wd618 b8 [v1, (.int .i64 p_Listappend.Window), (.int .i64 p_Listappend.Tooth), (.int .i64 p_Listappend.PerVane), (.int .i64 p_Listappend.First), (.int .i64 p_Listappend.Modulus), (.int .i64 p_Listappend.Slack), (.int .i64 p_Listappend.Errors), (.bool p_Listappend.Round)] 24 ∧ Ext w wd618) ?_ ?_
        · intro K640 hK640
          replace h := ho638
          clear ho638
          refine WC_cond (b := (decide (r604 = 0))) rfl (fun hb641 => ?_) (fun hb641 => ?_)
          · replace h := cond_t hb641 h
            refine WC_region ?_
            refine T0_q (v := (.agg (List.toArray [v1, (.int .i64 p_Listappend.Window), (.int .i64 p_Listappend.Tooth), (.int .i64 p_Listappend.PerVane), (.int .i64 p_Listappend.First), (.int .i64 p_Listappend.Modulus), (.int .i64 p_Listappend.Slack), (.int .i64 p_Listappend.Errors), (.bool p_Listappend.Round)]))) rfl (yl_loadA (cs := [v1, (.int .i64 p_Listappend.Window), (.int .i64 p_Listappend.Tooth), (.int .i64 p_Listappend.PerVane), (.int .i64 p_Listappend.First), (.int .i64 p_Listappend.Modulus), (.int .i64 p_Listappend.Slack), (.int .i64 p_Listappend.Errors), (.bool p_Listappend.Round)]) ag24 rfl (Box.at (h595.ext he607))) ?_
            refine T0_q (v := (.agg (List.toArray [v4, (.int .i64 p_String.Count)]))) rfl (yl_loadA (cs := [v4, (.int .i64 p_String.Count)]) ag26 rfl (Box.at (h596.ext he607))) ?_
            obtain ⟨r642, hr643, h⟩ := bind_elim h
            refine T0_e rfl (eff_call Tryd.func25 nm25 rfl (ev2 rfl rfl) (ref04_ReadingErr_ok [] _ (LtL.nil _) [v1, (.int .i64 p_Listappend.Window), (.int .i64 p_Listappend.Tooth), (.int .i64 p_Listappend.PerVane), (.int .i64 p_Listappend.First), (.int .i64 p_Listappend.Modulus), (.int .i64 p_Listappend.Slack), (.int .i64 p_Listappend.Errors), (.bool p_Listappend.Round)] p_Listappend ⟨v1, ((h593.ext he607).sub (fun _ h => by cases h)), rfl⟩ [v4, (.int .i64 p_String.Count)] p_String ⟨v4, ((h594.ext he607).sub (fun _ h => by cases h)), rfl⟩ r642 hr643) ?_)
            rintro _ wd644 ⟨he645, rfl⟩
            have e646 := he607.trans he645
            have e647 := e608.trans he645
            refine T0_q (v := (.int .i64 r642)) rfl (yl_assign rfl) ?_
            refine T0_nil ?_
            replace h := some_out h
            subst h
            refine hK640 _ _ ?_
            exact ⟨r642, rfl, rfl, rfl, rfl, rfl, rfl, rfl, rfl, (h599.ext e646), (h594.ext e646), (h593.ext e646), (h596.ext e646), (hB592.ext e646), (h595.ext e646), e647⟩
          · replace h := cond_f hb641 h
            refine WC_skip ?_
            replace h := some_out h
            subst h
            refine hK640 _ _ ?_
            exact ⟨r604, rfl, rfl, rfl, rfl, rfl, rfl, rfl, rfl, (h599.ext he607), (h594.ext he607), (h593.ext he607), (h596.ext he607), (hB592.ext he607), (h595.ext he607), e608⟩
        · rintro ρ wd618 ⟨x627, rfl, hs620, hs621, hs623, hs624, hs625, hs626, hs628, h622, h629, h634, hB631, hB633, hB636, e619⟩
          replace h := hn639
          refine hK609 _ _ ?_
          refine WC_seqK fun K648 hK648 => ?_
          refine WC_seqK fun K649 hK649 => ?_
          refine WC_region ?_
          refine T0_q (v := (.int .i64 x627)) rfl (yl_move hs628) ?_
          refine T0_q (v := (.bool (!decide (x627 = 0)))) rfl (yl_neq rfl rfl) ?_
          refine T0_nil ?_
          refine hK649 _ _ ?_
          refine WC_cond (b := (!decide (x627 = 0))) rfl (fun hb650 => ?_) (fun hb650 => ?_)
          · replace h := cond_t hb650 h
            refine WC_seqK fun K651 hK651 => ?_
            refine WC_region ?_
            refine T0_q (v := (.int .i64 r83.2)) rfl (yl_move hs624) ?_
            refine T0_q (v := (.int .i64 x627)) rfl (yl_move hs628) ?_
            refine T0_q (v := (.bool (decide (r83.2 = x627)))) rfl (yl_eql rfl rfl) ?_
            refine T0_q (v := (.bool (decide (r83.2 = x627)))) rfl (yl_move rfl) ?_
            refine T0_g (v := (.int .i64 r578.2)) (decide (r83.2 = x627)) (wanted_t rfl rfl rfl rfl) (fun hg => (yl_move hs626)) ?_
            refine T0_g (v := (.int .i64 x627)) (decide (r83.2 = x627)) (wanted_t rfl rfl rfl rfl) (fun hg => (yl_move hs628)) ?_
            refine T0_g (v := (.bool (decide (r578.2 = x627)))) (decide (r83.2 = x627)) (wanted_t rfl rfl rfl rfl) (fun hg => (yl_eql (gd_true hg) (gd_true hg))) ?_
            refine T0_q (v := (.bool ((decide (r83.2 = x627)) && (decide (r578.2 = x627))))) rfl (yl_and rfl (fun hb => (gd_true hb)) rfl) ?_
            refine T0_q (v := (.bool ((decide (r83.2 = x627)) && (decide (r578.2 = x627))))) rfl (yl_move rfl) ?_
            refine T0_g (v := v87) ((decide (r83.2 = x627)) && (decide (r578.2 = x627))) (wanted_t rfl rfl rfl rfl) (fun hg => (yl_move hs623)) ?_
            refine T0_g (v := (.int .i64 (r83.1.length : Int))) ((decide (r83.2 = x627)) && (decide (r578.2 = x627))) (wanted_t rfl rfl rfl rfl) (fun hg => (yl_lenR rfl Tryd.underlying29 h622 (gd_true hg))) ?_
            refine T0_g (v := (.bool (decide ((r83.1.length : Int) = 0)))) ((decide (r83.2 = x627)) && (decide (r578.2 = x627))) (wanted_t rfl rfl rfl rfl) (fun hg => (yl_eql (gd_true hg) rfl)) ?_
            refine T0_q (v := (.bool (((decide (r83.2 = x627)) && (decide (r578.2 = x627))) && (decide ((r83.1.length : Int) = 0))))) rfl (yl_and rfl (fun hb => (gd_true hb)) rfl) ?_
            refine T0_q (v := (.bool (((decide (r83.2 = x627)) && (decide (r578.2 = x627))) && (decide ((r83.1.length : Int) = 0))))) rfl (yl_move rfl) ?_
            refine T0_g (v := (.agg (List.toArray [(.int .i64 r578.1.Lo), (.int .i64 r578.1.Hi)]))) (((decide (r83.2 = x627)) && (decide (r578.2 = x627))) && (decide ((r83.1.length : Int) = 0))) (wanted_t rfl rfl rfl rfl) (fun hg => (yl_loadA (cs := [(.int .i64 r578.1.Lo), (.int .i64 r578.1.Hi)]) ag36 hs625 (Box.at hB633))) ?_
            refine T0_g (v := (.agg (List.toArray [(.int .i64 0), (.int .i64 0)]))) (((decide (r83.2 = x627)) && (decide (r578.2 = x627))) && (decide ((r83.1.length : Int) = 0))) (wanted_t rfl rfl rfl rfl) (fun hg => (yl_buildC (cells := [(.int .i64 0), (.int .i64 0)]) bi36 pc_nil rfl)) ?_
            refine T0_g (v := (.bool (decide ((Range.mk r578.1.Lo r578.1.Hi) = (Range.mk 0 0))))) (((decide (r83.2 = x627)) && (decide (r578.2 = x627))) && (decide ((r83.1.length : Int) = 0))) (wanted_t rfl rfl rfl rfl) (fun hg => (yl_eqlS eg36 (gd_true hg) (gd_true hg) (eqs36 (Range.mk r578.1.Lo r578.1.Hi) (Range.mk 0 0) _))) ?_
            refine T0_q (v := (.bool ((((decide (r83.2 = x627)) && (decide (r578.2 = x627))) && (decide ((r83.1.length : Int) = 0))) && (decide ((Range.mk r578.1.Lo r578.1.Hi) = (Range.mk 0 0)))))) rfl (yl_and rfl (fun hb => (gd_true hb)) rfl) ?_
            refine T0_q (v := (.bool ((((decide (r83.2 = x627)) && (decide (r578.2 = x627))) && (decide ((r83.1.length : Int) = 0))) && (decide ((Range.mk r578.1.Lo r578.1.Hi) = (Range.mk 0 0)))))) rfl (yl_assign rfl) ?_
            refine T0_nil ?_
            refine hK651 _ _ ?_
            refine WC_ret ?_
            replace h := some_out h
            subst h
            exact ⟨[(.bool ((((decide (r83.2 = x627)) && (decide (r578.2 = x627))) && (decide ((r83.1.length : Int) = 0))) && (decide ((Range.mk r578.1.Lo r578.1.Hi) = (Range.mk 0 0)))))], ⟨rfl, trivial⟩, e619, rfl⟩
          · replace h := cond_f hb650 h
            refine WC_skip ?_
            refine hK648 _ _ ?_
            refine WC_seqK fun K652 hK652 => ?_
            refine WC_region ?_
            refine T0_q (v := (.agg (List.toArray [v1, (.int .i64 p_Listappend.Window), (.int .i64 p_Listappend.Tooth), (.int .i64 p_Listappend.PerVane), (.int .i64 p_Listappend.First), (.int .i64 p_Listappend.Modulus), (.int .i64 p_Listappend.Slack), (.int .i64 p_Listappend.Errors), (.bool p_Listappend.Round)]))) rfl (yl_loadA (cs := [v1, (.int .i64 p_Listappend.Window), (.int .i64 p_Listappend.Tooth), (.int .i64 p_Listappend.PerVane), (.int .i64 p_Listappend.First), (.int .i64 p_Listappend.Modulus), (.int .i64 p_Listappend.Slack), (.int .i64 p_Listappend.Errors), (.bool p_Listappend.Round)]) ag24 hs620 (Box.at hB636)) ?_
            refine T0_q (v := (.agg (List.toArray [v4, (.int .i64 p_String.Count)]))) rfl (yl_loadA (cs := [v4, (.int .i64 p_String.Count)]) ag26 hs621 (Box.at hB631)) ?_
            obtain ⟨r653, hr654, h⟩ := bind_elim h
            refine T0_e rfl (eff_call Tryd.func26 nm26 rfl (ev2 rfl rfl) (ref04_Possible_ok ((.pointer (some ⟨b534, 0, none⟩)) :: L) _ (ltl_box (hL.chg e619) hB633) [v1, (.int .i64 p_Listappend.Window), (.int .i64 p_Listappend.Tooth), (.int .i64 p_Listappend.PerVane), (.int .i64 p_Listappend.First), (.int .i64 p_Listappend.Modulus), (.int .i64 p_Listappend.Slack), (.int .i64 p_Listappend.Errors), (.bool p_Listappend.Round)] p_Listappend ⟨v1, h634, rfl⟩ [v4, (.int .i64 p_String.Count)] p_String ⟨v4, h629, rfl⟩ r653 hr654) ?_)
            rintro _ wd655 ⟨he656, v657, rfl, h658⟩
            have e659 := e619.trans he656
            refine T0_q (v := v657) rfl (yl_assign rfl) ?_
            refine T0_nil ?_
            refine hK652 _ _ ?_
            refine WC_seqK fun K661 hK661 => ?_
            refine WC_seqK fun K662 hK662 => ?_
            refine WC_region ?_
            refine T0_q (v := (.int .i64 r83.2)) rfl (yl_move hs624) ?_
            refine T0_q (v := (.bool (!decide (r83.2 = 0)))) rfl (yl_neq rfl rfl) ?_
            refine T0_q (v := (.bool (!decide (r83.2 = 0)))) rfl (yl_move rfl) ?_
            refine T0_g (v := v87) (!(!decide (r83.2 = 0))) (wanted_f rfl rfl rfl rfl) (fun hg => (yl_move hs623)) ?_
            refine T0_g (v := v657) (!(!decide (r83.2 = 0))) (wanted_f rfl rfl rfl rfl) (fun hg => (yl_move rfl)) ?_
            obtain ⟨r663, hr664, h⟩ := bind_elim h
            refine T0_ges (!(!decide (r83.2 = 0))) (.bool r663) (wanted_f rfl rfl rfl rfl) (fun hg => eff_call Tryd.func27 nm27 rfl (ev2 (gd_true hg) (gd_true hg)) (base_Ranges_ok [] _ (LtL.nil _) v87 r83.1 ((h622.ext he656).sub (fun _ h => by cases h)) v657 r653 (h658.sub (fun _ h => by cases h)) r663 (cond_t hg hr664)) (by rintro _ wd665 ⟨he666, rfl⟩; exact ⟨rfl, he666⟩)) ?_
            intro wd665 he666
            have e667 := he656.trans he666
            have e668 := e659.trans he666
            refine T0_g (v := (.bool (!r663))) (!(!decide (r83.2 = 0))) (wanted_f rfl rfl rfl rfl) (fun hg => (yl_not (gd_true hg))) ?_
            refine T0_q (v := (.bool ((!decide (r83.2 = 0)) || (!r663)))) rfl (yl_or rfl rfl (fun hb => (gd_true (not_t hb)))) ?_
            refine T0_nil ?_
            refine hK662 _ _ ?_
            refine WC_cond (b := ((!decide (r83.2 = 0)) || (!r663))) rfl (fun hb669 => ?_) (fun hb669 => ?_)
            · replace h := cond_t hb669 h
              refine WC_seqK fun K670 hK670 => ?_
              refine WC_region ?_
              refine T0_q (v := (.bool false)) rfl (yl_assign rfl) ?_
              refine T0_nil ?_
              refine hK670 _ _ ?_
              refine WC_ret ?_
              replace h := some_out h
              subst h
              exact ⟨[(.bool false)], ⟨rfl, trivial⟩, e668, rfl⟩
            · replace h := cond_f hb669 h
              refine WC_skip ?_
              refine hK661 _ _ ?_
              refine WC_seqK fun K671 hK671 => ?_
              refine WC_seqK fun K672 hK672 => ?_
              refine WC_region ?_
              refine T0_q (v := v657) rfl (yl_move rfl) ?_
              refine T0_q (v := (.int .i64 (r653.length : Int))) rfl (yl_lenR rfl Tryd.underlying29 h658 rfl) ?_
              refine T0_q (v := (.bool (decide ((r653.length : Int) = 1)))) rfl (yl_eql rfl rfl) ?_
              refine T0_nil ?_
              refine hK672 _ _ ?_
              refine WC_cond (b := (decide ((r653.length : Int) = 1))) rfl (fun hb673 => ?_) (fun hb673 => ?_)
              · replace h := cond_t hb673 h
                refine WC_seqK fun K674 hK674 => ?_
                refine WC_plan mixed (.p 0 (.p 1 (.p 2 (.p 4 (.p 5 (.q 3 (.q 6 (.p 7 (.p 8 (.p 9 .done)))))))))) (by kernel_rfl) ?_
                intro wd675 he676
                have e677 := e667.trans he676
                have e678 := he666.trans he676
                have e679 := e668.trans he676
                refine TP_p (v := (.int .i64 r578.2)) rfl rfl (fun w' => (yl_move hs626)) ?_
                refine TP_p (v := (.bool (decide (r578.2 = 0)))) rfl rfl (fun w' => (yl_eql rfl rfl)) ?_
                refine TP_p (v := (.bool (decide (r578.2 = 0)))) rfl rfl (fun w' => (yl_move rfl)) ?_
                refine TP_gp (v := v657) (decide (r578.2 = 0)) rfl (wanted_t rfl rfl rfl rfl) (fun w' hg => (yl_move rfl)) ?_
                obtain ⟨el680, hel681, h⟩ := bind_elim h
                have hat683 : (decide (r578.2 = 0)) = true → At wd655 (elemAddr v657 (0 : Int).toNat 2) [(.int .i64 el680.Lo), (.int .i64 el680.Hi)] := fun hg => by obtain ⟨cs, hat, hrd⟩ := SlRd.at h658 (cond_t hg hel681); have hrd : cs = [(.int .i64 el680.Lo), (.int .i64 el680.Hi)] := hrd; subst hrd; exact hat
                refine TP_gp (v := (.pointer (some (elemAddr v657 (0 : Int).toNat 2)))) (decide (r578.2 = 0)) rfl (wanted_t rfl rfl rfl rfl) (fun w' hg => (yl_indexAddr Tryd.underlying29 sz36 h658 (cond_t hg hel681) (gd_true hg) rfl)) ?_
                refine TP_gq (v := (.agg (List.toArray [(.int .i64 r578.1.Lo), (.int .i64 r578.1.Hi)]))) (decide (r578.2 = 0)) rfl (wanted_t rfl rfl rfl rfl) (fun w' hS hg => (yl_loadA (cs := [(.int .i64 r578.1.Lo), (.int .i64 r578.1.Hi)]) ag36 hs625 (Box.at (hB633.ext ((e677).trans hS))))) ?_
                refine TP_gq (v := (.agg (List.toArray [(.int .i64 el680.Lo), (.int .i64 el680.Hi)]))) (decide (r578.2 = 0)) rfl (wanted_t rfl rfl rfl rfl) (fun w' hS hg => (yl_loadA (cs := [(.int .i64 el680.Lo), (.int .i64 el680.Hi)]) ag36 (gd_true hg) ((hat683 hg).ext' ((e678).trans hS)))) ?_
                refine TP_gp (v := (.bool (decide ((Range.mk r578.1.Lo r578.1.Hi) = el680)))) (decide (r578.2 = 0)) rfl (wanted_t rfl rfl rfl rfl) (fun w' hg => (yl_eqlS eg36 (gd_true hg) (gd_true hg) (eqs36 (Range.mk r578.1.Lo r578.1.Hi) el680 _))) ?_
                refine TP_p (v := (.bool ((decide (r578.2 = 0)) && (decide ((Range.mk r578.1.Lo r578.1.Hi) = el680))))) rfl rfl (fun w' => (yl_and rfl (fun hb => (gd_true hb)) rfl)) ?_
                refine TP_p (v := (.bool ((decide (r578.2 = 0)) && (decide ((Range.mk r578.1.Lo r578.1.Hi) = el680))))) rfl rfl (fun w' => (yl_assign rfl)) ?_
                refine TP_done ?_
                refine hK674 _ _ ?_
                refine WC_ret ?_
                replace h := some_out h
                subst h
                exact ⟨[(.bool ((decide (r578.2 = 0)) && (decide ((Range.mk r578.1.Lo r578.1.Hi) = el680))))], ⟨rfl, trivial⟩, e679, rfl⟩
              · replace h := cond_f hb673 h
                refine WC_skip ?_
                refine hK671 _ _ ?_
                refine WC_seqK fun K685 hK685 => ?_
                refine WC_region ?_
                refine T0_q (v := (.agg (List.toArray [(.int .i64 r578.1.Lo), (.int .i64 r578.1.Hi)]))) rfl (yl_loadA (cs := [(.int .i64 r578.1.Lo), (.int .i64 r578.1.Hi)]) ag36 hs625 (Box.at (hB633.ext e667))) ?_
                refine T0_q (v := (.agg (List.toArray [(.int .i64 0), (.int .i64 0)]))) rfl (yl_buildC (cells := [(.int .i64 0), (.int .i64 0)]) bi36 pc_nil rfl) ?_
                refine T0_q (v := (.bool (decide ((Range.mk r578.1.Lo r578.1.Hi) = (Range.mk 0 0))))) rfl (yl_eqlS eg36 rfl rfl (eqs36 (Range.mk r578.1.Lo r578.1.Hi) (Range.mk 0 0) _)) ?_
                refine T0_q (v := (.bool (decide ((Range.mk r578.1.Lo r578.1.Hi) = (Range.mk 0 0))))) rfl (yl_move rfl) ?_
                refine T0_g (v := v657) (decide ((Range.mk r578.1.Lo r578.1.Hi) = (Range.mk 0 0))) (wanted_t rfl rfl rfl rfl) (fun hg => (yl_move rfl)) ?_
                refine T0_g (v := (.int .i64 (r653.length : Int))) (decide ((Range.mk r578.1.Lo r578.1.Hi) = (Range.mk 0 0))) (wanted_t rfl rfl rfl rfl) (fun hg => (yl_lenR rfl Tryd.underlying29 h658 (gd_true hg))) ?_
                refine T0_g (v := (.bool (decide ((r653.length : Int) = 0)))) (decide ((Range.mk r578.1.Lo r578.1.Hi) = (Range.mk 0 0))) (wanted_t rfl rfl rfl rfl) (fun hg => (yl_eql (gd_true hg) rfl)) ?_
                refine T0_g (v := (.bool (decide ((r653.length : Int) = 0)))) (decide ((Range.mk r578.1.Lo r578.1.Hi) = (Range.mk 0 0))) (wanted_t rfl rfl rfl rfl) (fun hg => (yl_move (gd_true hg))) ?_
                refine T0_g (v := (.int .i64 r578.2)) ((decide ((Range.mk r578.1.Lo r578.1.Hi) = (Range.mk 0 0))) && (decide ((r653.length : Int) = 0))) (wanted_gt rfl rfl rfl rfl) (fun hg => (yl_move hs626)) ?_
                refine T0_g (v := (.bool (decide (r578.2 = 12)))) ((decide ((Range.mk r578.1.Lo r578.1.Hi) = (Range.mk 0 0))) && (decide ((r653.length : Int) = 0))) (wanted_gt rfl rfl rfl rfl) (fun hg => (yl_eql (gd_true hg) rfl)) ?_
                refine T0_g (v := (.bool ((decide ((r653.length : Int) = 0)) && (decide (r578.2 = 12))))) (decide ((Range.mk r578.1.Lo r578.1.Hi) = (Range.mk 0 0))) (wanted_t rfl rfl rfl rfl) (fun hg => (yl_and (gd_true hg) (fun hb => (gd_true (and_i hg hb))) rfl)) ?_
                refine T0_g (v := (.bool ((decide ((r653.length : Int) = 0)) && (decide (r578.2 = 12))))) (decide ((Range.mk r578.1.Lo r578.1.Hi) = (Range.mk 0 0))) (wanted_t rfl rfl rfl rfl) (fun hg => (yl_move (gd_true hg))) ?_
                refine T0_g (v := v657) ((decide ((Range.mk r578.1.Lo r578.1.Hi) = (Range.mk 0 0))) && (!((decide ((r653.length : Int) = 0)) && (decide (r578.2 = 12))))) (wanted_gf rfl rfl rfl rfl) (fun hg => (yl_move rfl)) ?_
                refine T0_g (v := (.int .i64 (r653.length : Int))) ((decide ((Range.mk r578.1.Lo r578.1.Hi) = (Range.mk 0 0))) && (!((decide ((r653.length : Int) = 0)) && (decide (r578.2 = 12))))) (wanted_gf rfl rfl rfl rfl) (fun hg => (yl_lenR rfl Tryd.underlying29 h658 (gd_true hg))) ?_
                refine T0_g (v := (.bool (decide (1 < (r653.length : Int))))) ((decide ((Range.mk r578.1.Lo r578.1.Hi) = (Range.mk 0 0))) && (!((decide ((r653.length : Int) = 0)) && (decide (r578.2 = 12))))) (wanted_gf rfl rfl rfl rfl) (fun hg => (yl_gtr (gd_true hg) rfl)) ?_
                refine T0_g (v := (.bool (decide (1 < (r653.length : Int))))) ((decide ((Range.mk r578.1.Lo r578.1.Hi) = (Range.mk 0 0))) && (!((decide ((r653.length : Int) = 0)) && (decide (r578.2 = 12))))) (wanted_gf rfl rfl rfl rfl) (fun hg => (yl_move (gd_true hg))) ?_
                refine T0_g (v := (.int .i64 r578.2)) (((decide ((Range.mk r578.1.Lo r578.1.Hi) = (Range.mk 0 0))) && (!((decide ((r653.length : Int) = 0)) && (decide (r578.2 = 12))))) && (decide (1 < (r653.length : Int)))) (wanted_gt rfl rfl rfl rfl) (fun hg => (yl_move hs626)) ?_
                refine T0_g (v := (.bool (decide (r578.2 = 29)))) (((decide ((Range.mk r578.1.Lo r578.1.Hi) = (Range.mk 0 0))) && (!((decide ((r653.length : Int) = 0)) && (decide (r578.2 = 12))))) && (decide (1 < (r653.length : Int)))) (wanted_gt rfl rfl rfl rfl) (fun hg => (yl_eql (gd_true hg) rfl)) ?_
                refine T0_g (v := (.bool ((decide (1 < (r653.length : Int))) && (decide (r578.2 = 29))))) ((decide ((Range.mk r578.1.Lo r578.1.Hi) = (Range.mk 0 0))) && (!((decide ((r653.length : Int) = 0)) && (decide (r578.2 = 12))))) (wanted_gf rfl rfl rfl rfl) (fun hg => (yl_and (gd_true hg) (fun hb => (gd_true (and_i hg hb))) rfl)) ?_
                refine T0_g (v := (.bool (((decide ((r653.length : Int) = 0)) && (decide (r578.2 = 12))) || ((decide (1 < (r653.length : Int))) && (decide (r578.2 = 29)))))) (decide ((Range.mk r578.1.Lo r578.1.Hi) = (Range.mk 0 0))) (wanted_t rfl rfl rfl rfl) (fun hg => (yl_or (gd_true hg) rfl (fun hb => (gd_true (and_i hg (not_t hb)))))) ?_
                refine T0_q (v := (.bool ((decide ((Range.mk r578.1.Lo r578.1.Hi) = (Range.mk 0 0))) && (((decide ((r653.length : Int) = 0)) && (decide (r578.2 = 12))) || ((decide (1 < (r653.length : Int))) && (decide (r578.2 = 29))))))) rfl (yl_and rfl (fun hb => (gd_true hb)) rfl) ?_
                refine T0_q (v := (.bool ((decide ((Range.mk r578.1.Lo r578.1.Hi) = (Range.mk 0 0))) && (((decide ((r653.length : Int) = 0)) && (decide (r578.2 = 12))) || ((decide (1 < (r653.length : Int))) && (decide (r578.2 = 29))))))) rfl (yl_assign rfl) ?_
                refine T0_nil ?_
                refine hK685 _ _ ?_
                refine WC_ret ?_
                replace h := some_out h
                subst h
                exact ⟨[(.bool ((decide ((Range.mk r578.1.Lo r578.1.Hi) = (Range.mk 0 0))) && (((decide ((r653.length : Int) = 0)) && (decide (r578.2 = 12))) || ((decide (1 < (r653.length : Int))) && (decide (r578.2 = 29))))))], ⟨rfl, trivial⟩, e668, rfl⟩

end Go.Gw
