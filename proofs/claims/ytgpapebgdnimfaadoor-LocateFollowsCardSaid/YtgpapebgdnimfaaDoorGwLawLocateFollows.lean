/- What functions come to, printed by a program of this work. No condition. -/
import Derived.Test.YtgpapebgdnimfaaDoorGwFnC
import Derived.Test.YtgpapebgdnimfaaDoorGwFxFol
set_option maxRecDepth 4096
set_option maxHeartbeats 1000000
set_option linter.unusedVariables false
namespace Go.Gw
open Go Go.Proofs
attribute [local irreducible] T0 TS TT TP Eff Stp WC Quiet gd
noncomputable def law04_LocateFollows_spec (p_speed : Range) (p_l : (List LocateFix)) : Option Bool :=
  (Option.bind (law04_awake_spec) fun r13 =>
  (bif (!r13) then (
    some false
  ) else (
    (bif (decide (42 < (p_l.length : Int))) then (
      some true
    ) else (
      (Option.bind (ref04_CopyFixes_spec p_l) fun r31 =>
      (Option.bind (locate_Follow_spec p_speed r31) fun r41 =>
      (Option.bind (ref04_Follow_spec p_speed p_l) fun r72 =>
      some (((decide (r41.2.2 = r72.2.2)) && (decide (r41.2.1 = r72.2.1))) && (decide ((Range.mk r41.1.Lo r41.1.Hi) = (Range.mk r72.1.Lo r72.1.Hi))))
      )
      )
      )
    ))
  ))
  )
theorem law04_LocateFollows_ok (L : List Value) (w : World) (hL : LtL L w) (hg0 : At w ⟨0, 0, none⟩ [.int .i64 0, .int .i64 1, .int .i64 3, .int .i64 2]) (cs_p_speed : List Value) (p_speed : Range) (h_p_speed : Rep.rd L w cs_p_speed p_speed) (v_p_l : Value) (p_l : (List LocateFix)) (h_p_l : SlRd L w v_p_l p_l) (r : Bool) (h : law04_LocateFollows_spec p_speed p_l = some r) :
    CallsTo Tryd.prog 12 [(.agg cs_p_speed.toArray), v_p_l] w (fun v w' => Ext w w' ∧ (.bool r) = v) := by
  have e0 : Ext w w := Chg.refl _ _
  have h_p_speed : cs_p_speed = [(.int .i64 p_speed.Lo), (.int .i64 p_speed.Hi)] := h_p_speed
  subst h_p_speed
  refine callsTo_of_WC (n := 44) (rs := [.tmp 4]) Tryd.func12 rfl rfl rfl rfl rfl ?_
  refine WC_seqK fun K2 hK2 => ?_
  refine WC_region ?_
  refine T0_e rfl (eff_boxC (cs := [(.int .i64 p_speed.Lo), (.int .i64 p_speed.Hi)]) rfl rfl ?_)
  intro b3 wd4 hb5 he6 hB7
  have hbf8 := bfresh e0 hb5
  have e9 := e0.trans he6
  refine T0_q (v := (.bool false)) rfl (yl_assign rfl) ?_
  refine T0_nil ?_
  refine hK2 _ _ ?_
  refine WC_seqK fun K11 hK11 => ?_
  refine WC_seqK fun K12 hK12 => ?_
  refine WC_region ?_
  obtain ⟨r13, hr14, h⟩ := bind_elim h
  refine T0_e rfl (eff_call Tryd.func18 nm18 rfl ev0 (law04_awake_ok [] _ (LtL.nil _) (hg0.ext e9)  r13 hr14) ?_)
  rintro _ wd15 ⟨he16, rfl⟩
  have e17 := he6.trans he16
  have e18 := e9.trans he16
  refine T0_q (v := (.bool (!r13))) rfl (yl_not rfl) ?_
  refine T0_nil ?_
  refine hK12 _ _ ?_
  refine WC_cond (b := (!r13)) rfl (fun hb19 => ?_) (fun hb19 => ?_)
  · replace h := cond_t hb19 h
    refine WC_seqK fun K20 hK20 => ?_
    refine WC_region ?_
    refine T0_q (v := (.bool false)) rfl (yl_assign rfl) ?_
    refine T0_nil ?_
    refine hK20 _ _ ?_
    refine WC_ret ?_
    replace h := some_out h
    subst h
    exact ⟨[(.bool false)], ⟨rfl, trivial⟩, e18, rfl⟩
  · replace h := cond_f hb19 h
    refine WC_skip ?_
    refine hK11 _ _ ?_
    refine WC_seqK fun K21 hK21 => ?_
    refine WC_seqK fun K22 hK22 => ?_
    refine WC_region ?_
    refine T0_q (v := v_p_l) rfl (yl_move rfl) ?_
    refine T0_q (v := (.int .i64 (p_l.length : Int))) rfl (yl_lenR rfl Tryd.underlying99 h_p_l rfl) ?_
    refine T0_q (v := (.bool (decide (42 < (p_l.length : Int))))) rfl (yl_gtr rfl rfl) ?_
    refine T0_nil ?_
    refine hK22 _ _ ?_
    refine WC_cond (b := (decide (42 < (p_l.length : Int)))) rfl (fun hb23 => ?_) (fun hb23 => ?_)
    · replace h := cond_t hb23 h
      refine WC_seqK fun K24 hK24 => ?_
      refine WC_region ?_
      refine T0_q (v := (.bool true)) rfl (yl_assign rfl) ?_
      refine T0_nil ?_
      refine hK24 _ _ ?_
      refine WC_ret ?_
      replace h := some_out h
      subst h
      exact ⟨[(.bool true)], ⟨rfl, trivial⟩, e18, rfl⟩
    · replace h := cond_f hb23 h
      refine WC_skip ?_
      refine hK21 _ _ ?_
      refine WC_seqK fun K25 hK25 => ?_
      refine WC_plan mixed (.p 1 (.q 0 (.f 2 (.f 3 (.p 4 (.p 5 (.p 6 (.p 7 (.e 8 (.b 9 (.p 10 (.p 11 .done)))))))) 8 (.e 3 (.p 4 (.p 5 (.p 6 (.p 7 (.b 9 (.p 10 (.p 11 .done))))))))) 8 (.e 2 (.e 3 (.p 4 (.p 5 (.p 6 (.p 7 (.b 9 (.p 10 (.p 11 .done)))))))))))) (by kernel_rfl) ?_
      intro wd26 he27
      have e28 := e17.trans he27
      have e29 := he16.trans he27
      have e30 := e18.trans he27
      refine TP_p (v := v_p_l) rfl rfl (fun w' => (yl_move rfl)) ?_
      refine TP_q (v := (.agg (List.toArray [(.int .i64 p_speed.Lo), (.int .i64 p_speed.Hi)]))) rfl rfl (fun w' hS => (yl_loadA (cs := [(.int .i64 p_speed.Lo), (.int .i64 p_speed.Hi)]) ag36 rfl (Box.at (hB7.ext ((e29).trans hS))))) ?_
      refine TP_f rfl rfl rfl rfl ?_ ?_
      · skip
        obtain ⟨r31, hr32, h⟩ := bind_elim h
        refine  (eff_call Tryd.func68 nm68 rfl (ev1 rfl) (ref04_CopyFixes_ok L _ (hL.chg e30) v_p_l p_l (h_p_l.ext e28) r31 hr32) ?_)
        rintro _ wd33 ⟨he34, v35, rfl, h36⟩
        have e37 := e28.trans he34
        have e38 := e29.trans he34
        have e39 := e30.trans he34
        refine ⟨he34, ?_⟩
        refine TP_f rfl rfl rfl rfl ?_ ?_
        · skip
          obtain ⟨r41, hr42, h⟩ := bind_elim h
          refine  (eff_call Tryd.func67 nm67 rfl (ev2 rfl rfl) (locate_Follow_ok [] _ (LtL.nil _) [(.int .i64 p_speed.Lo), (.int .i64 p_speed.Hi)] p_speed rfl v35 r31 (h36.sub (fun _ h => by cases h)) r41 hr42) ?_)
          rintro _ wd43 ⟨he44, cs45, rfl, hrd46⟩
          have e47 := e37.trans he44
          have e48 := e38.trans he44
          have e49 := he34.trans he44
          have e50 := e39.trans he44
          have hrd46 : cs45 = [(.int .i64 r41.1.Lo), (.int .i64 r41.1.Hi)] := hrd46
          subst hrd46
          refine ⟨e49, ?_⟩
          refine TP_p (v := (.tuple #[(.agg (List.toArray [(.int .i64 r41.1.Lo), (.int .i64 r41.1.Hi)])), (.int .i64 r41.2.1), (.int .i64 r41.2.2)])) rfl rfl (fun w' => (yl_move rfl)) ?_
          refine TP_p (v := (.agg (List.toArray [(.int .i64 r41.1.Lo), (.int .i64 r41.1.Hi)]))) rfl rfl (fun w' => (yl_extract rfl rfl)) ?_
          refine TP_p (v := (.int .i64 r41.2.1)) rfl rfl (fun w' => (yl_extract rfl rfl)) ?_
          refine TP_p (v := (.int .i64 r41.2.2)) rfl rfl (fun w' => (yl_extract rfl rfl)) ?_
          refine TP_e rfl rfl (eff_allocZ zi36 ?_)
          intro b51 wd52 hb53 he54 hB55
          have hn56 : b51 ≠ b3 := box_ne (hB7.ext e48) hb53
          have hbf57 := bfresh e50 hb53
          have h58 := (h_p_l.ext e47).step (add_box he54 hb53)
          have h59 := (h36.ext he44).step (add_box he54 hb53)
          have e60 := e48.trans he54
          have e61 := e49.trans he54
          have e62 := e50.trans he54
          refine ⟨e61, ?_⟩
          refine TP_b rfl rfl (eff_storeC (vs := [(.int .i64 r41.1.Lo), (.int .i64 r41.1.Hi)]) (cs' := [(.int .i64 r41.1.Lo), (.int .i64 r41.1.Hi)]) sz36 rfl rfl rfl rfl hB55 rfl (oc_cons rfl (oc_cons rfl oc_nil)) rfl ?_)
          intro wd64 hc65 hB66
          have h67 := h58.step (Stepp.chg_mem hc65 mem0)
          have h68 := (hB7.ext e60).chg hc65 (avoidb hn56)
          have h69 := h59.step (Stepp.chg_mem hc65 mem0)
          have e70 := chg_box e62 hc65 hbf57
          refine TP_p (v := (.int .i64 r41.2.1)) rfl rfl (fun w' => (yl_assign rfl)) ?_
          refine TP_p (v := (.int .i64 r41.2.2)) rfl rfl (fun w' => (yl_assign rfl)) ?_
          refine TP_done ?_
          refine hK25 _ _ ?_
          refine WC_seqK fun K71 hK71 => ?_
          refine WC_region ?_
          refine T0_q (v := (.agg (List.toArray [(.int .i64 p_speed.Lo), (.int .i64 p_speed.Hi)]))) rfl (yl_loadA (cs := [(.int .i64 p_speed.Lo), (.int .i64 p_speed.Hi)]) ag36 rfl (Box.at h68)) ?_
          refine T0_q (v := v_p_l) rfl (yl_move rfl) ?_
          obtain ⟨r72, hr73, h⟩ := bind_elim h
          refine T0_e rfl (eff_call Tryd.func69 nm69 rfl (ev2 rfl rfl) (ref04_Follow_ok [] _ (LtL.nil _) [(.int .i64 p_speed.Lo), (.int .i64 p_speed.Hi)] p_speed rfl v_p_l p_l (h67.sub (fun _ h => by cases h)) r72 hr73) ?_)
          rintro _ wd74 ⟨he75, cs76, rfl, hrd77⟩
          have e78 := e70.trans he75
          have hrd77 : cs76 = [(.int .i64 r72.1.Lo), (.int .i64 r72.1.Hi)] := hrd77
          subst hrd77
          refine T0_q (v := (.tuple #[(.agg (List.toArray [(.int .i64 r72.1.Lo), (.int .i64 r72.1.Hi)])), (.int .i64 r72.2.1), (.int .i64 r72.2.2)])) rfl (yl_move rfl) ?_
          refine T0_q (v := (.agg (List.toArray [(.int .i64 r72.1.Lo), (.int .i64 r72.1.Hi)]))) rfl (yl_extract rfl rfl) ?_
          refine T0_q (v := (.int .i64 r72.2.1)) rfl (yl_extract rfl rfl) ?_
          refine T0_q (v := (.int .i64 r72.2.2)) rfl (yl_extract rfl rfl) ?_
          refine T0_e rfl (eff_allocZ zi36 ?_)
          intro b79 wd80 hb81 he82 hB83
          have hn84 : b79 ≠ b3 := box_ne (h68.ext he75) hb81
          have hn85 : b79 ≠ b51 := box_ne (hB66.ext he75) hb81
          have hbf86 := bfresh e78 hb81
          have h87 := (h67.ext he75).step (add_box he82 hb81)
          have h88 := (h69.ext he75).step (add_box he82 hb81)
          have e89 := he75.trans he82
          have e90 := e78.trans he82
          refine T0_e rfl (eff_storeC (vs := [(.int .i64 r72.1.Lo), (.int .i64 r72.1.Hi)]) (cs' := [(.int .i64 r72.1.Lo), (.int .i64 r72.1.Hi)]) sz36 rfl rfl rfl rfl hB83 rfl (oc_cons rfl (oc_cons rfl oc_nil)) rfl ?_)
          intro wd92 hc93 hB94
          have h95 := h87.step (Stepp.chg_mem hc93 mem0)
          have h96 := (h68.ext e89).chg hc93 (avoidb hn84)
          have h97 := h88.step (Stepp.chg_mem hc93 mem0)
          have h98 := (hB66.ext e89).chg hc93 (avoidb hn85)
          have e99 := chg_box e90 hc93 hbf86
          refine T0_q (v := (.int .i64 r72.2.1)) rfl (yl_assign rfl) ?_
          refine T0_q (v := (.int .i64 r72.2.2)) rfl (yl_assign rfl) ?_
          refine T0_nil ?_
          refine hK71 _ _ ?_
          refine WC_seqK fun K100 hK100 => ?_
          refine WC_region ?_
          refine T0_q (v := (.int .i64 r41.2.2)) rfl (yl_move rfl) ?_
          refine T0_q (v := (.int .i64 r72.2.2)) rfl (yl_move rfl) ?_
          refine T0_q (v := (.bool (decide (r41.2.2 = r72.2.2)))) rfl (yl_eql rfl rfl) ?_
          refine T0_q (v := (.bool (decide (r41.2.2 = r72.2.2)))) rfl (yl_move rfl) ?_
          refine T0_g (v := (.int .i64 r41.2.1)) (decide (r41.2.2 = r72.2.2)) (wanted_t rfl rfl rfl rfl) (fun hg => (yl_move rfl)) ?_
          refine T0_g (v := (.int .i64 r72.2.1)) (decide (r41.2.2 = r72.2.2)) (wanted_t rfl rfl rfl rfl) (fun hg => (yl_move rfl)) ?_
          refine T0_g (v := (.bool (decide (r41.2.1 = r72.2.1)))) (decide (r41.2.2 = r72.2.2)) (wanted_t rfl rfl rfl rfl) (fun hg => (yl_eql (gd_true hg) (gd_true hg))) ?_
          refine T0_q (v := (.bool ((decide (r41.2.2 = r72.2.2)) && (decide (r41.2.1 = r72.2.1))))) rfl (yl_and rfl (fun hb => (gd_true hb)) rfl) ?_
          refine T0_q (v := (.bool ((decide (r41.2.2 = r72.2.2)) && (decide (r41.2.1 = r72.2.1))))) rfl (yl_move rfl) ?_
          refine T0_g (v := (.agg (List.toArray [(.int .i64 r41.1.Lo), (.int .i64 r41.1.Hi)]))) ((decide (r41.2.2 = r72.2.2)) && (decide (r41.2.1 = r72.2.1))) (wanted_t rfl rfl rfl rfl) (fun hg => (yl_loadA (cs := [(.int .i64 r41.1.Lo), (.int .i64 r41.1.Hi)]) ag36 rfl (Box.at h98))) ?_
          refine T0_g (v := (.agg (List.toArray [(.int .i64 r72.1.Lo), (.int .i64 r72.1.Hi)]))) ((decide (r41.2.2 = r72.2.2)) && (decide (r41.2.1 = r72.2.1))) (wanted_t rfl rfl rfl rfl) (fun hg => (yl_loadA (cs := [(.int .i64 r72.1.Lo), (.int .i64 r72.1.Hi)]) ag36 rfl (Box.at hB94))) ?_
          refine T0_g (v := (.bool (decide ((Range.mk r41.1.Lo r41.1.Hi) = (Range.mk r72.1.Lo r72.1.Hi))))) ((decide (r41.2.2 = r72.2.2)) && (decide (r41.2.1 = r72.2.1))) (wanted_t rfl rfl rfl rfl) (fun hg => (yl_eqlS eg36 (gd_true hg) (gd_true hg) (eqs36 (Range.mk r41.1.Lo r41.1.Hi) (Range.mk r72.1.Lo r72.1.Hi) _))) ?_
          refine T0_q (v := (.bool (((decide (r41.2.2 = r72.2.2)) && (decide (r41.2.1 = r72.2.1))) && (decide ((Range.mk r41.1.Lo r41.1.Hi) = (Range.mk r72.1.Lo r72.1.Hi)))))) rfl (yl_and rfl (fun hb => (gd_true hb)) rfl) ?_
          refine T0_q (v := (.bool (((decide (r41.2.2 = r72.2.2)) && (decide (r41.2.1 = r72.2.1))) && (decide ((Range.mk r41.1.Lo r41.1.Hi) = (Range.mk r72.1.Lo r72.1.Hi)))))) rfl (yl_assign rfl) ?_
          refine T0_nil ?_
          refine hK100 _ _ ?_
          refine WC_ret ?_
          replace h := some_out h
          subst h
          exact ⟨[(.bool (((decide (r41.2.2 = r72.2.2)) && (decide (r41.2.1 = r72.2.1))) && (decide ((Range.mk r41.1.Lo r41.1.Hi) = (Range.mk r72.1.Lo r72.1.Hi)))))], ⟨rfl, trivial⟩, e99, rfl⟩
        · skip
          refine  (eff_allocZ zi36 ?_)
          intro b101 wd102 hb103 he104 hB105
          have hn106 : b101 ≠ b3 := box_ne (hB7.ext e38) hb103
          have hbf107 := bfresh e39 hb103
          have h108 := (h_p_l.ext e37).step (add_box he104 hb103)
          have h109 := h36.step (add_box he104 hb103)
          have e110 := e38.trans he104
          have e111 := he34.trans he104
          have e112 := e39.trans he104
          refine ⟨e111, ?_⟩
          obtain ⟨r114, hr115, h⟩ := bind_elim h
          refine TP_e rfl rfl (eff_call Tryd.func67 nm67 rfl (ev2 rfl rfl) (locate_Follow_ok [] _ (LtL.nil _) [(.int .i64 p_speed.Lo), (.int .i64 p_speed.Hi)] p_speed rfl v35 r31 (h109.sub (fun _ h => by cases h)) r114 hr115) ?_)
          rintro _ wd116 ⟨he117, cs118, rfl, hrd119⟩
          have e120 := e110.trans he117
          have e121 := e111.trans he117
          have e122 := e112.trans he117
          have hrd119 : cs118 = [(.int .i64 r114.1.Lo), (.int .i64 r114.1.Hi)] := hrd119
          subst hrd119
          refine ⟨e121, ?_⟩
          refine TP_p (v := (.tuple #[(.agg (List.toArray [(.int .i64 r114.1.Lo), (.int .i64 r114.1.Hi)])), (.int .i64 r114.2.1), (.int .i64 r114.2.2)])) rfl rfl (fun w' => (yl_move rfl)) ?_
          refine TP_p (v := (.agg (List.toArray [(.int .i64 r114.1.Lo), (.int .i64 r114.1.Hi)]))) rfl rfl (fun w' => (yl_extract rfl rfl)) ?_
          refine TP_p (v := (.int .i64 r114.2.1)) rfl rfl (fun w' => (yl_extract rfl rfl)) ?_
          refine TP_p (v := (.int .i64 r114.2.2)) rfl rfl (fun w' => (yl_extract rfl rfl)) ?_
          refine TP_b rfl rfl (eff_storeC (vs := [(.int .i64 r114.1.Lo), (.int .i64 r114.1.Hi)]) (cs' := [(.int .i64 r114.1.Lo), (.int .i64 r114.1.Hi)]) sz36 rfl rfl rfl rfl (hB105.ext he117) rfl (oc_cons rfl (oc_cons rfl oc_nil)) rfl ?_)
          intro wd123 hc124 hB125
          have h126 := (h108.ext he117).step (Stepp.chg_mem hc124 mem0)
          have h127 := (hB7.ext e120).chg hc124 (avoidb hn106)
          have h128 := (h109.ext he117).step (Stepp.chg_mem hc124 mem0)
          have e129 := chg_box e122 hc124 hbf107
          refine TP_p (v := (.int .i64 r114.2.1)) rfl rfl (fun w' => (yl_assign rfl)) ?_
          refine TP_p (v := (.int .i64 r114.2.2)) rfl rfl (fun w' => (yl_assign rfl)) ?_
          refine TP_done ?_
          refine hK25 _ _ ?_
          refine WC_seqK fun K130 hK130 => ?_
          refine WC_region ?_
          refine T0_q (v := (.agg (List.toArray [(.int .i64 p_speed.Lo), (.int .i64 p_speed.Hi)]))) rfl (yl_loadA (cs := [(.int .i64 p_speed.Lo), (.int .i64 p_speed.Hi)]) ag36 rfl (Box.at h127)) ?_
          refine T0_q (v := v_p_l) rfl (yl_move rfl) ?_
          obtain ⟨r131, hr132, h⟩ := bind_elim h
          refine T0_e rfl (eff_call Tryd.func69 nm69 rfl (ev2 rfl rfl) (ref04_Follow_ok [] _ (LtL.nil _) [(.int .i64 p_speed.Lo), (.int .i64 p_speed.Hi)] p_speed rfl v_p_l p_l (h126.sub (fun _ h => by cases h)) r131 hr132) ?_)
          rintro _ wd133 ⟨he134, cs135, rfl, hrd136⟩
          have e137 := e129.trans he134
          have hrd136 : cs135 = [(.int .i64 r131.1.Lo), (.int .i64 r131.1.Hi)] := hrd136
          subst hrd136
          refine T0_q (v := (.tuple #[(.agg (List.toArray [(.int .i64 r131.1.Lo), (.int .i64 r131.1.Hi)])), (.int .i64 r131.2.1), (.int .i64 r131.2.2)])) rfl (yl_move rfl) ?_
          refine T0_q (v := (.agg (List.toArray [(.int .i64 r131.1.Lo), (.int .i64 r131.1.Hi)]))) rfl (yl_extract rfl rfl) ?_
          refine T0_q (v := (.int .i64 r131.2.1)) rfl (yl_extract rfl rfl) ?_
          refine T0_q (v := (.int .i64 r131.2.2)) rfl (yl_extract rfl rfl) ?_
          refine T0_e rfl (eff_allocZ zi36 ?_)
          intro b138 wd139 hb140 he141 hB142
          have hn143 : b138 ≠ b3 := box_ne (h127.ext he134) hb140
          have hn144 : b138 ≠ b101 := box_ne (hB125.ext he134) hb140
          have hbf145 := bfresh e137 hb140
          have h146 := (h126.ext he134).step (add_box he141 hb140)
          have h147 := (h128.ext he134).step (add_box he141 hb140)
          have e148 := he134.trans he141
          have e149 := e137.trans he141
          refine T0_e rfl (eff_storeC (vs := [(.int .i64 r131.1.Lo), (.int .i64 r131.1.Hi)]) (cs' := [(.int .i64 r131.1.Lo), (.int .i64 r131.1.Hi)]) sz36 rfl rfl rfl rfl hB142 rfl (oc_cons rfl (oc_cons rfl oc_nil)) rfl ?_)
          intro wd151 hc152 hB153
          have h154 := h146.step (Stepp.chg_mem hc152 mem0)
          have h155 := (h127.ext e148).chg hc152 (avoidb hn143)
          have h156 := h147.step (Stepp.chg_mem hc152 mem0)
          have h157 := (hB125.ext e148).chg hc152 (avoidb hn144)
          have e158 := chg_box e149 hc152 hbf145
          refine T0_q (v := (.int .i64 r131.2.1)) rfl (yl_assign rfl) ?_
          refine T0_q (v := (.int .i64 r131.2.2)) rfl (yl_assign rfl) ?_
          refine T0_nil ?_
          refine hK130 _ _ ?_
          refine WC_seqK fun K159 hK159 => ?_
          refine WC_region ?_
          refine T0_q (v := (.int .i64 r114.2.2)) rfl (yl_move rfl) ?_
          refine T0_q (v := (.int .i64 r131.2.2)) rfl (yl_move rfl) ?_
          refine T0_q (v := (.bool (decide (r114.2.2 = r131.2.2)))) rfl (yl_eql rfl rfl) ?_
          refine T0_q (v := (.bool (decide (r114.2.2 = r131.2.2)))) rfl (yl_move rfl) ?_
          refine T0_g (v := (.int .i64 r114.2.1)) (decide (r114.2.2 = r131.2.2)) (wanted_t rfl rfl rfl rfl) (fun hg => (yl_move rfl)) ?_
          refine T0_g (v := (.int .i64 r131.2.1)) (decide (r114.2.2 = r131.2.2)) (wanted_t rfl rfl rfl rfl) (fun hg => (yl_move rfl)) ?_
          refine T0_g (v := (.bool (decide (r114.2.1 = r131.2.1)))) (decide (r114.2.2 = r131.2.2)) (wanted_t rfl rfl rfl rfl) (fun hg => (yl_eql (gd_true hg) (gd_true hg))) ?_
          refine T0_q (v := (.bool ((decide (r114.2.2 = r131.2.2)) && (decide (r114.2.1 = r131.2.1))))) rfl (yl_and rfl (fun hb => (gd_true hb)) rfl) ?_
          refine T0_q (v := (.bool ((decide (r114.2.2 = r131.2.2)) && (decide (r114.2.1 = r131.2.1))))) rfl (yl_move rfl) ?_
          refine T0_g (v := (.agg (List.toArray [(.int .i64 r114.1.Lo), (.int .i64 r114.1.Hi)]))) ((decide (r114.2.2 = r131.2.2)) && (decide (r114.2.1 = r131.2.1))) (wanted_t rfl rfl rfl rfl) (fun hg => (yl_loadA (cs := [(.int .i64 r114.1.Lo), (.int .i64 r114.1.Hi)]) ag36 rfl (Box.at h157))) ?_
          refine T0_g (v := (.agg (List.toArray [(.int .i64 r131.1.Lo), (.int .i64 r131.1.Hi)]))) ((decide (r114.2.2 = r131.2.2)) && (decide (r114.2.1 = r131.2.1))) (wanted_t rfl rfl rfl rfl) (fun hg => (yl_loadA (cs := [(.int .i64 r131.1.Lo), (.int .i64 r131.1.Hi)]) ag36 rfl (Box.at hB153))) ?_
          refine T0_g (v := (.bool (decide ((Range.mk r114.1.Lo r114.1.Hi) = (Range.mk r131.1.Lo r131.1.Hi))))) ((decide (r114.2.2 = r131.2.2)) && (decide (r114.2.1 = r131.2.1))) (wanted_t rfl rfl rfl rfl) (fun hg => (yl_eqlS eg36 (gd_true hg) (gd_true hg) (eqs36 (Range.mk r114.1.Lo r114.1.Hi) (Range.mk r131.1.Lo r131.1.Hi) _))) ?_
          refine T0_q (v := (.bool (((decide (r114.2.2 = r131.2.2)) && (decide (r114.2.1 = r131.2.1))) && (decide ((Range.mk r114.1.Lo r114.1.Hi) = (Range.mk r131.1.Lo r131.1.Hi)))))) rfl (yl_and rfl (fun hb => (gd_true hb)) rfl) ?_
          refine T0_q (v := (.bool (((decide (r114.2.2 = r131.2.2)) && (decide (r114.2.1 = r131.2.1))) && (decide ((Range.mk r114.1.Lo r114.1.Hi) = (Range.mk r131.1.Lo r131.1.Hi)))))) rfl (yl_assign rfl) ?_
          refine T0_nil ?_
          refine hK159 _ _ ?_
          refine WC_ret ?_
          replace h := some_out h
          subst h
          exact ⟨[(.bool (((decide (r114.2.2 = r131.2.2)) && (decide (r114.2.1 = r131.2.1))) && (decide ((Range.mk r114.1.Lo r114.1.Hi) = (Range.mk r131.1.Lo r131.1.Hi)))))], ⟨rfl, trivial⟩, e158, rfl⟩
      · skip
        refine  (eff_allocZ zi36 ?_)
        intro b160 wd161 hb162 he163 hB164
        have hn165 : b160 ≠ b3 := box_ne (hB7.ext e29) hb162
        have hbf166 := bfresh e30 hb162
        have h167 := (h_p_l.ext e28).step (add_box he163 hb162)
        have e168 := e29.trans he163
        have e169 := e30.trans he163
        refine ⟨he163, ?_⟩
        obtain ⟨r171, hr172, h⟩ := bind_elim h
        refine TP_e rfl rfl (eff_call Tryd.func68 nm68 rfl (ev1 rfl) (ref04_CopyFixes_ok ((.pointer (some ⟨b160, 0, none⟩)) :: L) _ (ltl_box (hL.chg e169) hB164) v_p_l p_l h167 r171 hr172) ?_)
        rintro _ wd173 ⟨he174, v175, rfl, h176⟩
        have e177 := e168.trans he174
        have e178 := he163.trans he174
        have e179 := e169.trans he174
        refine ⟨e178, ?_⟩
        obtain ⟨r181, hr182, h⟩ := bind_elim h
        refine TP_e rfl rfl (eff_call Tryd.func67 nm67 rfl (ev2 rfl rfl) (locate_Follow_ok [] _ (LtL.nil _) [(.int .i64 p_speed.Lo), (.int .i64 p_speed.Hi)] p_speed rfl v175 r171 (h176.sub (fun _ h => by cases h)) r181 hr182) ?_)
        rintro _ wd183 ⟨he184, cs185, rfl, hrd186⟩
        have e187 := he174.trans he184
        have e188 := e177.trans he184
        have e189 := e178.trans he184
        have e190 := e179.trans he184
        have hrd186 : cs185 = [(.int .i64 r181.1.Lo), (.int .i64 r181.1.Hi)] := hrd186
        subst hrd186
        refine ⟨e189, ?_⟩
        refine TP_p (v := (.tuple #[(.agg (List.toArray [(.int .i64 r181.1.Lo), (.int .i64 r181.1.Hi)])), (.int .i64 r181.2.1), (.int .i64 r181.2.2)])) rfl rfl (fun w' => (yl_move rfl)) ?_
        refine TP_p (v := (.agg (List.toArray [(.int .i64 r181.1.Lo), (.int .i64 r181.1.Hi)]))) rfl rfl (fun w' => (yl_extract rfl rfl)) ?_
        refine TP_p (v := (.int .i64 r181.2.1)) rfl rfl (fun w' => (yl_extract rfl rfl)) ?_
        refine TP_p (v := (.int .i64 r181.2.2)) rfl rfl (fun w' => (yl_extract rfl rfl)) ?_
        refine TP_b rfl rfl (eff_storeC (vs := [(.int .i64 r181.1.Lo), (.int .i64 r181.1.Hi)]) (cs' := [(.int .i64 r181.1.Lo), (.int .i64 r181.1.Hi)]) sz36 rfl rfl rfl rfl (hB164.ext e187) rfl (oc_cons rfl (oc_cons rfl oc_nil)) rfl ?_)
        intro wd191 hc192 hB193
        have h194 := (h167.ext e187).step (Stepp.chg_mem hc192 mem0)
        have h195 := (hB7.ext e188).chg hc192 (avoidb hn165)
        have h196 := (h176.ext he184).step (Stepp.chg_mem hc192 mem0)
        have e197 := chg_box e190 hc192 hbf166
        refine TP_p (v := (.int .i64 r181.2.1)) rfl rfl (fun w' => (yl_assign rfl)) ?_
        refine TP_p (v := (.int .i64 r181.2.2)) rfl rfl (fun w' => (yl_assign rfl)) ?_
        refine TP_done ?_
        refine hK25 _ _ ?_
        refine WC_seqK fun K198 hK198 => ?_
        refine WC_region ?_
        refine T0_q (v := (.agg (List.toArray [(.int .i64 p_speed.Lo), (.int .i64 p_speed.Hi)]))) rfl (yl_loadA (cs := [(.int .i64 p_speed.Lo), (.int .i64 p_speed.Hi)]) ag36 rfl (Box.at h195)) ?_
        refine T0_q (v := v_p_l) rfl (yl_move rfl) ?_
        obtain ⟨r199, hr200, h⟩ := bind_elim h
        refine T0_e rfl (eff_call Tryd.func69 nm69 rfl (ev2 rfl rfl) (ref04_Follow_ok [] _ (LtL.nil _) [(.int .i64 p_speed.Lo), (.int .i64 p_speed.Hi)] p_speed rfl v_p_l p_l (h194.sub (fun _ h => by cases h)) r199 hr200) ?_)
        rintro _ wd201 ⟨he202, cs203, rfl, hrd204⟩
        have e205 := e197.trans he202
        have hrd204 : cs203 = [(.int .i64 r199.1.Lo), (.int .i64 r199.1.Hi)] := hrd204
        subst hrd204
        refine T0_q (v := (.tuple #[(.agg (List.toArray [(.int .i64 r199.1.Lo), (.int .i64 r199.1.Hi)])), (.int .i64 r199.2.1), (.int .i64 r199.2.2)])) rfl (yl_move rfl) ?_
        refine T0_q (v := (.agg (List.toArray [(.int .i64 r199.1.Lo), (.int .i64 r199.1.Hi)]))) rfl (yl_extract rfl rfl) ?_
        refine T0_q (v := (.int .i64 r199.2.1)) rfl (yl_extract rfl rfl) ?_
        refine T0_q (v := (.int .i64 r199.2.2)) rfl (yl_extract rfl rfl) ?_
        refine T0_e rfl (eff_allocZ zi36 ?_)
        intro b206 wd207 hb208 he209 hB210
        have hn211 : b206 ≠ b3 := box_ne (h195.ext he202) hb208
        have hn212 : b206 ≠ b160 := box_ne (hB193.ext he202) hb208
        have hbf213 := bfresh e205 hb208
        have h214 := (h194.ext he202).step (add_box he209 hb208)
        have h215 := (h196.ext he202).step (add_box he209 hb208)
        have e216 := he202.trans he209
        have e217 := e205.trans he209
        refine T0_e rfl (eff_storeC (vs := [(.int .i64 r199.1.Lo), (.int .i64 r199.1.Hi)]) (cs' := [(.int .i64 r199.1.Lo), (.int .i64 r199.1.Hi)]) sz36 rfl rfl rfl rfl hB210 rfl (oc_cons rfl (oc_cons rfl oc_nil)) rfl ?_)
        intro wd219 hc220 hB221
        have h222 := h214.step (Stepp.chg_mem hc220 mem0)
        have h223 := (h195.ext e216).chg hc220 (avoidb hn211)
        have h224 := (hB193.ext e216).chg hc220 (avoidb hn212)
        have h225 := h215.step (Stepp.chg_mem hc220 mem0)
        have e226 := chg_box e217 hc220 hbf213
        refine T0_q (v := (.int .i64 r199.2.1)) rfl (yl_assign rfl) ?_
        refine T0_q (v := (.int .i64 r199.2.2)) rfl (yl_assign rfl) ?_
        refine T0_nil ?_
        refine hK198 _ _ ?_
        refine WC_seqK fun K227 hK227 => ?_
        refine WC_region ?_
        refine T0_q (v := (.int .i64 r181.2.2)) rfl (yl_move rfl) ?_
        refine T0_q (v := (.int .i64 r199.2.2)) rfl (yl_move rfl) ?_
        refine T0_q (v := (.bool (decide (r181.2.2 = r199.2.2)))) rfl (yl_eql rfl rfl) ?_
        refine T0_q (v := (.bool (decide (r181.2.2 = r199.2.2)))) rfl (yl_move rfl) ?_
        refine T0_g (v := (.int .i64 r181.2.1)) (decide (r181.2.2 = r199.2.2)) (wanted_t rfl rfl rfl rfl) (fun hg => (yl_move rfl)) ?_
        refine T0_g (v := (.int .i64 r199.2.1)) (decide (r181.2.2 = r199.2.2)) (wanted_t rfl rfl rfl rfl) (fun hg => (yl_move rfl)) ?_
        refine T0_g (v := (.bool (decide (r181.2.1 = r199.2.1)))) (decide (r181.2.2 = r199.2.2)) (wanted_t rfl rfl rfl rfl) (fun hg => (yl_eql (gd_true hg) (gd_true hg))) ?_
        refine T0_q (v := (.bool ((decide (r181.2.2 = r199.2.2)) && (decide (r181.2.1 = r199.2.1))))) rfl (yl_and rfl (fun hb => (gd_true hb)) rfl) ?_
        refine T0_q (v := (.bool ((decide (r181.2.2 = r199.2.2)) && (decide (r181.2.1 = r199.2.1))))) rfl (yl_move rfl) ?_
        refine T0_g (v := (.agg (List.toArray [(.int .i64 r181.1.Lo), (.int .i64 r181.1.Hi)]))) ((decide (r181.2.2 = r199.2.2)) && (decide (r181.2.1 = r199.2.1))) (wanted_t rfl rfl rfl rfl) (fun hg => (yl_loadA (cs := [(.int .i64 r181.1.Lo), (.int .i64 r181.1.Hi)]) ag36 rfl (Box.at h224))) ?_
        refine T0_g (v := (.agg (List.toArray [(.int .i64 r199.1.Lo), (.int .i64 r199.1.Hi)]))) ((decide (r181.2.2 = r199.2.2)) && (decide (r181.2.1 = r199.2.1))) (wanted_t rfl rfl rfl rfl) (fun hg => (yl_loadA (cs := [(.int .i64 r199.1.Lo), (.int .i64 r199.1.Hi)]) ag36 rfl (Box.at hB221))) ?_
        refine T0_g (v := (.bool (decide ((Range.mk r181.1.Lo r181.1.Hi) = (Range.mk r199.1.Lo r199.1.Hi))))) ((decide (r181.2.2 = r199.2.2)) && (decide (r181.2.1 = r199.2.1))) (wanted_t rfl rfl rfl rfl) (fun hg => (yl_eqlS eg36 (gd_true hg) (gd_true hg) (eqs36 (Range.mk r181.1.Lo r181.1.Hi) (Range.mk r199.1.Lo r199.1.Hi) _))) ?_
        refine T0_q (v := (.bool (((decide (r181.2.2 = r199.2.2)) && (decide (r181.2.1 = r199.2.1))) && (decide ((Range.mk r181.1.Lo r181.1.Hi) = (Range.mk r199.1.Lo r199.1.Hi)))))) rfl (yl_and rfl (fun hb => (gd_true hb)) rfl) ?_
        refine T0_q (v := (.bool (((decide (r181.2.2 = r199.2.2)) && (decide (r181.2.1 = r199.2.1))) && (decide ((Range.mk r181.1.Lo r181.1.Hi) = (Range.mk r199.1.Lo r199.1.Hi)))))) rfl (yl_assign rfl) ?_
        refine T0_nil ?_
        refine hK227 _ _ ?_
        refine WC_ret ?_
        replace h := some_out h
        subst h
        exact ⟨[(.bool (((decide (r181.2.2 = r199.2.2)) && (decide (r181.2.1 = r199.2.1))) && (decide ((Range.mk r181.1.Lo r181.1.Hi) = (Range.mk r199.1.Lo r199.1.Hi)))))], ⟨rfl, trivial⟩, e226, rfl⟩

end Go.Gw
