/- What functions come to, printed by a program of this work. No condition. -/
import Derived.Test.YtgpapebgdnimfaaDoorGwFnC
import Derived.Test.YtgpapebgdnimfaaDoorGwFxDist
set_option maxRecDepth 4096
set_option maxHeartbeats 1000000
set_option linter.unusedVariables false
namespace Go.Gw
open Go Go.Proofs
attribute [local irreducible] T0 TS TT TP Eff Stp WC Quiet gd
noncomputable def law04_Short_spec (p_t : LocateTrack) : Option Bool :=
  some ((decide ((p_t.Vanes.length : Int) ≤ 16)) || ((decide (40 < (p_t.Vanes.length : Int))) && (decide ((p_t.Vanes.length : Int) ≤ 42))))
theorem law04_Short_ok (L : List Value) (w : World) (hL : LtL L w) (cs_p_t : List Value) (p_t : LocateTrack) (h_p_t : Rep.rd L w cs_p_t p_t) (r : Bool) (h : law04_Short_spec p_t = some r) :
    CallsTo Tryd.prog 19 [(.agg cs_p_t.toArray)] w (fun v w' => Ext w w' ∧ (.bool r) = v) := by
  have e0 : Ext w w := Chg.refl _ _
  obtain ⟨v1, h2, rfl⟩ := h_p_t
  refine callsTo_of_WC (n := 19) (rs := [.tmp 2]) Tryd.func19 rfl rfl rfl rfl rfl ?_
  refine WC_seqK fun K4 hK4 => ?_
  refine WC_region ?_
  refine T0_e rfl (eff_boxC (cs := [v1, (.int .i64 p_t.Window), (.int .i64 p_t.Tooth), (.int .i64 p_t.PerVane), (.int .i64 p_t.First), (.int .i64 p_t.Modulus), (.int .i64 p_t.Slack), (.int .i64 p_t.Errors), (.bool p_t.Round)]) rfl rfl ?_)
  intro b5 wd6 hb7 he8 hB9
  have hbf10 := bfresh e0 hb7
  have e11 := e0.trans he8
  refine T0_q (v := (.bool false)) rfl (yl_assign rfl) ?_
  refine T0_nil ?_
  refine hK4 _ _ ?_
  refine WC_seqK fun K13 hK13 => ?_
  refine WC_region ?_
  refine T0_q (v := (.pointer (some ⟨b5, 0, none⟩))) rfl (yl_fa 0 Tryd.underlying24 rfl rfl ⟨0, sz22⟩ rfl rfl) ?_
  refine T0_q (v := v1) rfl (yl_load sc22 rfl (Box.at hB9)) ?_
  refine T0_q (v := (.int .i64 (p_t.Vanes.length : Int))) rfl (yl_lenR rfl Tryd.underlying22 h2 rfl) ?_
  refine T0_q (v := (.bool (decide ((p_t.Vanes.length : Int) ≤ 16)))) rfl (yl_leq rfl rfl) ?_
  refine T0_q (v := (.bool (decide ((p_t.Vanes.length : Int) ≤ 16)))) rfl (yl_move rfl) ?_
  refine T0_g (v := (.pointer (some ⟨b5, 0, none⟩))) (!(decide ((p_t.Vanes.length : Int) ≤ 16))) (wanted_f rfl rfl rfl rfl) (fun hg => (yl_fa 0 Tryd.underlying24 rfl rfl ⟨0, sz22⟩ rfl rfl)) ?_
  refine T0_g (v := v1) (!(decide ((p_t.Vanes.length : Int) ≤ 16))) (wanted_f rfl rfl rfl rfl) (fun hg => (yl_load sc22 (gd_true hg) (Box.at hB9))) ?_
  refine T0_g (v := (.int .i64 (p_t.Vanes.length : Int))) (!(decide ((p_t.Vanes.length : Int) ≤ 16))) (wanted_f rfl rfl rfl rfl) (fun hg => (yl_lenR rfl Tryd.underlying22 h2 (gd_true hg))) ?_
  refine T0_g (v := (.bool (decide (40 < (p_t.Vanes.length : Int))))) (!(decide ((p_t.Vanes.length : Int) ≤ 16))) (wanted_f rfl rfl rfl rfl) (fun hg => (yl_gtr (gd_true hg) rfl)) ?_
  refine T0_g (v := (.bool (decide (40 < (p_t.Vanes.length : Int))))) (!(decide ((p_t.Vanes.length : Int) ≤ 16))) (wanted_f rfl rfl rfl rfl) (fun hg => (yl_move (gd_true hg))) ?_
  refine T0_g (v := (.pointer (some ⟨b5, 0, none⟩))) ((!(decide ((p_t.Vanes.length : Int) ≤ 16))) && (decide (40 < (p_t.Vanes.length : Int)))) (wanted_gt rfl rfl rfl rfl) (fun hg => (yl_fa 0 Tryd.underlying24 rfl rfl ⟨0, sz22⟩ rfl rfl)) ?_
  refine T0_g (v := v1) ((!(decide ((p_t.Vanes.length : Int) ≤ 16))) && (decide (40 < (p_t.Vanes.length : Int)))) (wanted_gt rfl rfl rfl rfl) (fun hg => (yl_load sc22 (gd_true hg) (Box.at hB9))) ?_
  refine T0_g (v := (.int .i64 (p_t.Vanes.length : Int))) ((!(decide ((p_t.Vanes.length : Int) ≤ 16))) && (decide (40 < (p_t.Vanes.length : Int)))) (wanted_gt rfl rfl rfl rfl) (fun hg => (yl_lenR rfl Tryd.underlying22 h2 (gd_true hg))) ?_
  refine T0_g (v := (.bool (decide ((p_t.Vanes.length : Int) ≤ 42)))) ((!(decide ((p_t.Vanes.length : Int) ≤ 16))) && (decide (40 < (p_t.Vanes.length : Int)))) (wanted_gt rfl rfl rfl rfl) (fun hg => (yl_leq (gd_true hg) rfl)) ?_
  refine T0_g (v := (.bool ((decide (40 < (p_t.Vanes.length : Int))) && (decide ((p_t.Vanes.length : Int) ≤ 42))))) (!(decide ((p_t.Vanes.length : Int) ≤ 16))) (wanted_f rfl rfl rfl rfl) (fun hg => (yl_and (gd_true hg) (fun hb => (gd_true (and_i hg hb))) rfl)) ?_
  refine T0_q (v := (.bool ((decide ((p_t.Vanes.length : Int) ≤ 16)) || ((decide (40 < (p_t.Vanes.length : Int))) && (decide ((p_t.Vanes.length : Int) ≤ 42)))))) rfl (yl_or rfl rfl (fun hb => (gd_true (not_t hb)))) ?_
  refine T0_q (v := (.bool ((decide ((p_t.Vanes.length : Int) ≤ 16)) || ((decide (40 < (p_t.Vanes.length : Int))) && (decide ((p_t.Vanes.length : Int) ≤ 42)))))) rfl (yl_assign rfl) ?_
  refine T0_nil ?_
  refine hK13 _ _ ?_
  refine WC_ret ?_
  replace h := some_out h
  subst h
  exact ⟨[(.bool ((decide ((p_t.Vanes.length : Int) ≤ 16)) || ((decide (40 < (p_t.Vanes.length : Int))) && (decide ((p_t.Vanes.length : Int) ≤ 42)))))], ⟨rfl, trivial⟩, e11, rfl⟩

noncomputable def law04_LocateDistances_spec (p_Listappend : LocateTrack) (p_String : (List Int)) (p_ListappendStringtabtabnekpairfddwantfirstsome : (List Int)) : Option Bool :=
  (Option.bind (law04_awake_spec) fun r17 =>
  (bif (!r17) then (
    some false
  ) else (
    (Option.bind (law04_Short_spec p_Listappend) fun r27 =>
    (bif ((((!r27) || ((decide (16 < (p_String.length : Int))) && (decide ((p_String.length : Int) ≤ 40)))) || (decide (42 < (p_String.length : Int)))) || (decide (42 < (p_ListappendStringtabtabnekpairfddwantfirstsome.length : Int)))) then (
      some true
    ) else (
      (Option.bind (base_CopyInts_spec p_String) fun r37 =>
      (Option.bind (base_CopyInts_spec p_ListappendStringtabtabnekpairfddwantfirstsome) fun r47 =>
      (Option.bind (locate_Differ_spec r37 r47) fun r57 =>
      (Option.bind (ref04_Copy_spec p_Listappend) fun r66 =>
      (Option.bind (locate_DistanceOf_spec r66) fun r80 =>
      (Option.bind (ref04_DifferErr_spec p_String p_ListappendStringtabtabnekpairfddwantfirstsome) fun r120 =>
      (Option.bind (bif (((!((!decide (r120 = 0)) && ((!decide (r57.2 = r120)) || (!decide (r57.1 = 0))))) && (decide (r120 = 0))) && (!(!decide (r57.2 = 0)))) then ref04_Differ_spec p_String p_ListappendStringtabtabnekpairfddwantfirstsome else some default) fun r126 =>
      (bif (((!decide (r120 = 0)) && ((!decide (r57.2 = r120)) || (!decide (r57.1 = 0)))) || ((decide (r120 = 0)) && ((!decide (r57.2 = 0)) || (!decide (r57.1 = r126))))) then (
        some false
      ) else (
        (Option.bind (ref04_TrackErr_spec p_Listappend) fun r136 =>
        (bif (!decide (r136 = 0)) then (
          some (((decide (r80.2.2 = r136)) && (decide (r80.1 = 0))) && (decide ((Arr2_Int.mk r80.2.1.e0 r80.2.1.e1) = (Arr2_Int.mk 0 0))))
        ) else (
          (Option.bind (ref04_DistanceOf_spec p_Listappend) fun r146 =>
          some ((((r146.2.2 && (decide (r80.2.2 = 0))) && (decide (r80.1 = r146.1))) && (decide ((Arr2_Int.mk r80.2.1.e0 r80.2.1.e1) = (Arr2_Int.mk r146.2.1.e0 r146.2.1.e1)))) || ((((!r146.2.2) && (decide (r80.2.2 = 12))) && (decide (r80.1 = 0))) && (decide ((Arr2_Int.mk r80.2.1.e0 r80.2.1.e1) = (Arr2_Int.mk 0 0)))))
          )
        ))
        )
      ))
      )
      )
      )
      )
      )
      )
      )
    ))
    )
  ))
  )
theorem law04_LocateDistances_ok (L : List Value) (w : World) (hL : LtL L w) (hg0 : At w ⟨0, 0, none⟩ [.int .i64 0, .int .i64 1, .int .i64 3, .int .i64 2]) (cs_p_Listappend : List Value) (p_Listappend : LocateTrack) (h_p_Listappend : Rep.rd L w cs_p_Listappend p_Listappend) (v_p_String : Value) (p_String : (List Int)) (h_p_String : SlRd L w v_p_String p_String) (v_p_ListappendStringtabtabnekpairfddwantfirstsome : Value) (p_ListappendStringtabtabnekpairfddwantfirstsome : (List Int)) (h_p_ListappendStringtabtabnekpairfddwantfirstsome : SlRd L w v_p_ListappendStringtabtabnekpairfddwantfirstsome p_ListappendStringtabtabnekpairfddwantfirstsome) (r : Bool) (h : law04_LocateDistances_spec p_Listappend p_String p_ListappendStringtabtabnekpairfddwantfirstsome = some r) :
    CallsTo Tryd.prog 14 [(.agg cs_p_Listappend.toArray), v_p_String, v_p_ListappendStringtabtabnekpairfddwantfirstsome] w (fun v w' => Ext w w' ∧ (.bool r) = v) := by
  have e0 : Ext w w := Chg.refl _ _
  obtain ⟨v1, h2, rfl⟩ := h_p_Listappend
  refine callsTo_of_WC (n := 140) (rs := [.tmp 6]) Tryd.func14 rfl rfl rfl rfl rfl ?_
  refine WC_seqK fun K6 hK6 => ?_
  refine WC_region ?_
  refine T0_e rfl (eff_boxC (cs := [v1, (.int .i64 p_Listappend.Window), (.int .i64 p_Listappend.Tooth), (.int .i64 p_Listappend.PerVane), (.int .i64 p_Listappend.First), (.int .i64 p_Listappend.Modulus), (.int .i64 p_Listappend.Slack), (.int .i64 p_Listappend.Errors), (.bool p_Listappend.Round)]) rfl rfl ?_)
  intro b7 wd8 hb9 he10 hB11
  have hbf12 := bfresh e0 hb9
  have e13 := e0.trans he10
  refine T0_q (v := (.bool false)) rfl (yl_assign rfl) ?_
  refine T0_nil ?_
  refine hK6 _ _ ?_
  refine WC_seqK fun K15 hK15 => ?_
  refine WC_seqK fun K16 hK16 => ?_
  refine WC_region ?_
  obtain ⟨r17, hr18, h⟩ := bind_elim h
  refine T0_e rfl (eff_call Tryd.func18 nm18 rfl ev0 (law04_awake_ok [] _ (LtL.nil _) (hg0.ext e13)  r17 hr18) ?_)
  rintro _ wd19 ⟨he20, rfl⟩
  have e21 := he10.trans he20
  have e22 := e13.trans he20
  refine T0_q (v := (.bool (!r17))) rfl (yl_not rfl) ?_
  refine T0_nil ?_
  refine hK16 _ _ ?_
  refine WC_cond (b := (!r17)) rfl (fun hb23 => ?_) (fun hb23 => ?_)
  · replace h := cond_t hb23 h
    refine WC_seqK fun K24 hK24 => ?_
    refine WC_region ?_
    refine T0_q (v := (.bool false)) rfl (yl_assign rfl) ?_
    refine T0_nil ?_
    refine hK24 _ _ ?_
    refine WC_ret ?_
    replace h := some_out h
    subst h
    exact ⟨[(.bool false)], ⟨rfl, trivial⟩, e22, rfl⟩
  · replace h := cond_f hb23 h
    refine WC_skip ?_
    refine hK15 _ _ ?_
    refine WC_seqK fun K25 hK25 => ?_
    refine WC_seqK fun K26 hK26 => ?_
    refine WC_region ?_
    refine T0_q (v := (.agg (List.toArray [v1, (.int .i64 p_Listappend.Window), (.int .i64 p_Listappend.Tooth), (.int .i64 p_Listappend.PerVane), (.int .i64 p_Listappend.First), (.int .i64 p_Listappend.Modulus), (.int .i64 p_Listappend.Slack), (.int .i64 p_Listappend.Errors), (.bool p_Listappend.Round)]))) rfl (yl_loadA (cs := [v1, (.int .i64 p_Listappend.Window), (.int .i64 p_Listappend.Tooth), (.int .i64 p_Listappend.PerVane), (.int .i64 p_Listappend.First), (.int .i64 p_Listappend.Modulus), (.int .i64 p_Listappend.Slack), (.int .i64 p_Listappend.Errors), (.bool p_Listappend.Round)]) ag24 rfl (Box.at (hB11.ext he20))) ?_
    obtain ⟨r27, hr28, h⟩ := bind_elim h
    refine T0_e rfl (eff_call Tryd.func19 nm19 rfl (ev1 rfl) (law04_Short_ok [] _ (LtL.nil _) [v1, (.int .i64 p_Listappend.Window), (.int .i64 p_Listappend.Tooth), (.int .i64 p_Listappend.PerVane), (.int .i64 p_Listappend.First), (.int .i64 p_Listappend.Modulus), (.int .i64 p_Listappend.Slack), (.int .i64 p_Listappend.Errors), (.bool p_Listappend.Round)] p_Listappend ⟨v1, ((h2.ext e21).sub (fun _ h => by cases h)), rfl⟩ r27 hr28) ?_)
    rintro _ wd29 ⟨he30, rfl⟩
    have e31 := e21.trans he30
    have e32 := he20.trans he30
    have e33 := e22.trans he30
    refine T0_q (v := (.bool (!r27))) rfl (yl_not rfl) ?_
    refine T0_q (v := (.bool (!r27))) rfl (yl_move rfl) ?_
    refine T0_g (v := v_p_String) (!(!r27)) (wanted_f rfl rfl rfl rfl) (fun hg => (yl_move rfl)) ?_
    refine T0_g (v := (.int .i64 (p_String.length : Int))) (!(!r27)) (wanted_f rfl rfl rfl rfl) (fun hg => (yl_lenR rfl Tryd.underlying22 h_p_String (gd_true hg))) ?_
    refine T0_g (v := (.bool (decide (16 < (p_String.length : Int))))) (!(!r27)) (wanted_f rfl rfl rfl rfl) (fun hg => (yl_gtr (gd_true hg) rfl)) ?_
    refine T0_g (v := (.bool (decide (16 < (p_String.length : Int))))) (!(!r27)) (wanted_f rfl rfl rfl rfl) (fun hg => (yl_move (gd_true hg))) ?_
    refine T0_g (v := v_p_String) ((!(!r27)) && (decide (16 < (p_String.length : Int)))) (wanted_gt rfl rfl rfl rfl) (fun hg => (yl_move rfl)) ?_
    refine T0_g (v := (.int .i64 (p_String.length : Int))) ((!(!r27)) && (decide (16 < (p_String.length : Int)))) (wanted_gt rfl rfl rfl rfl) (fun hg => (yl_lenR rfl Tryd.underlying22 h_p_String (gd_true hg))) ?_
    refine T0_g (v := (.bool (decide ((p_String.length : Int) ≤ 40)))) ((!(!r27)) && (decide (16 < (p_String.length : Int)))) (wanted_gt rfl rfl rfl rfl) (fun hg => (yl_leq (gd_true hg) rfl)) ?_
    refine T0_g (v := (.bool ((decide (16 < (p_String.length : Int))) && (decide ((p_String.length : Int) ≤ 40))))) (!(!r27)) (wanted_f rfl rfl rfl rfl) (fun hg => (yl_and (gd_true hg) (fun hb => (gd_true (and_i hg hb))) rfl)) ?_
    refine T0_q (v := (.bool ((!r27) || ((decide (16 < (p_String.length : Int))) && (decide ((p_String.length : Int) ≤ 40)))))) rfl (yl_or rfl rfl (fun hb => (gd_true (not_t hb)))) ?_
    refine T0_q (v := (.bool ((!r27) || ((decide (16 < (p_String.length : Int))) && (decide ((p_String.length : Int) ≤ 40)))))) rfl (yl_move rfl) ?_
    refine T0_g (v := v_p_String) (!((!r27) || ((decide (16 < (p_String.length : Int))) && (decide ((p_String.length : Int) ≤ 40))))) (wanted_f rfl rfl rfl rfl) (fun hg => (yl_move rfl)) ?_
    refine T0_g (v := (.int .i64 (p_String.length : Int))) (!((!r27) || ((decide (16 < (p_String.length : Int))) && (decide ((p_String.length : Int) ≤ 40))))) (wanted_f rfl rfl rfl rfl) (fun hg => (yl_lenR rfl Tryd.underlying22 h_p_String (gd_true hg))) ?_
    refine T0_g (v := (.bool (decide (42 < (p_String.length : Int))))) (!((!r27) || ((decide (16 < (p_String.length : Int))) && (decide ((p_String.length : Int) ≤ 40))))) (wanted_f rfl rfl rfl rfl) (fun hg => (yl_gtr (gd_true hg) rfl)) ?_
    refine T0_q (v := (.bool (((!r27) || ((decide (16 < (p_String.length : Int))) && (decide ((p_String.length : Int) ≤ 40)))) || (decide (42 < (p_String.length : Int)))))) rfl (yl_or rfl rfl (fun hb => (gd_true (not_t hb)))) ?_
    refine T0_q (v := (.bool (((!r27) || ((decide (16 < (p_String.length : Int))) && (decide ((p_String.length : Int) ≤ 40)))) || (decide (42 < (p_String.length : Int)))))) rfl (yl_move rfl) ?_
    refine T0_g (v := v_p_ListappendStringtabtabnekpairfddwantfirstsome) (!(((!r27) || ((decide (16 < (p_String.length : Int))) && (decide ((p_String.length : Int) ≤ 40)))) || (decide (42 < (p_String.length : Int))))) (wanted_f rfl rfl rfl rfl) (fun hg => (yl_move rfl)) ?_
    refine T0_g (v := (.int .i64 (p_ListappendStringtabtabnekpairfddwantfirstsome.length : Int))) (!(((!r27) || ((decide (16 < (p_String.length : Int))) && (decide ((p_String.length : Int) ≤ 40)))) || (decide (42 < (p_String.length : Int))))) (wanted_f rfl rfl rfl rfl) (fun hg => (yl_lenR rfl Tryd.underlying22 h_p_ListappendStringtabtabnekpairfddwantfirstsome (gd_true hg))) ?_
    refine T0_g (v := (.bool (decide (42 < (p_ListappendStringtabtabnekpairfddwantfirstsome.length : Int))))) (!(((!r27) || ((decide (16 < (p_String.length : Int))) && (decide ((p_String.length : Int) ≤ 40)))) || (decide (42 < (p_String.length : Int))))) (wanted_f rfl rfl rfl rfl) (fun hg => (yl_gtr (gd_true hg) rfl)) ?_
    refine T0_q (v := (.bool ((((!r27) || ((decide (16 < (p_String.length : Int))) && (decide ((p_String.length : Int) ≤ 40)))) || (decide (42 < (p_String.length : Int)))) || (decide (42 < (p_ListappendStringtabtabnekpairfddwantfirstsome.length : Int)))))) rfl (yl_or rfl rfl (fun hb => (gd_true (not_t hb)))) ?_
    refine T0_nil ?_
    refine hK26 _ _ ?_
    refine WC_cond (b := ((((!r27) || ((decide (16 < (p_String.length : Int))) && (decide ((p_String.length : Int) ≤ 40)))) || (decide (42 < (p_String.length : Int)))) || (decide (42 < (p_ListappendStringtabtabnekpairfddwantfirstsome.length : Int))))) rfl (fun hb34 => ?_) (fun hb34 => ?_)
    · replace h := cond_t hb34 h
      refine WC_seqK fun K35 hK35 => ?_
      refine WC_region ?_
      refine T0_q (v := (.bool true)) rfl (yl_assign rfl) ?_
      refine T0_nil ?_
      refine hK35 _ _ ?_
      refine WC_ret ?_
      replace h := some_out h
      subst h
      exact ⟨[(.bool true)], ⟨rfl, trivial⟩, e33, rfl⟩
    · replace h := cond_f hb34 h
      refine WC_skip ?_
      refine hK25 _ _ ?_
      refine WC_seqK fun K36 hK36 => ?_
      refine WC_region ?_
      refine T0_q (v := v_p_String) rfl (yl_move rfl) ?_
      obtain ⟨r37, hr38, h⟩ := bind_elim h
      refine T0_e rfl (eff_call Tryd.func30 nm30 rfl (ev1 rfl) (base_CopyInts_ok L _ (hL.chg e33) v_p_String p_String (h_p_String.ext e31) r37 hr38) ?_)
      rintro _ wd39 ⟨he40, v41, rfl, h42⟩
      have e43 := e31.trans he40
      have e44 := e32.trans he40
      have e45 := e33.trans he40
      refine T0_q (v := v_p_ListappendStringtabtabnekpairfddwantfirstsome) rfl (yl_move rfl) ?_
      obtain ⟨r47, hr48, h⟩ := bind_elim h
      refine T0_e rfl (eff_call Tryd.func30 nm30 rfl (ev1 rfl) (base_CopyInts_ok L _ (hL.chg e45) v_p_ListappendStringtabtabnekpairfddwantfirstsome p_ListappendStringtabtabnekpairfddwantfirstsome (h_p_ListappendStringtabtabnekpairfddwantfirstsome.ext e43) r47 hr48) ?_)
      rintro _ wd49 ⟨he50, v51, rfl, h52⟩
      have e53 := e43.trans he50
      have e54 := e44.trans he50
      have e55 := e45.trans he50
      obtain ⟨r57, hr58, h⟩ := bind_elim h
      refine T0_e rfl (eff_call Tryd.func70 nm70 rfl (ev2 rfl rfl) (locate_Differ_ok [] _ (LtL.nil _) v41 r37 ((h42.ext he50).sub (fun _ h => by cases h)) v51 r47 (h52.sub (fun _ h => by cases h)) r57 hr58) ?_)
      rintro _ wd59 ⟨he60, rfl⟩
      have e61 := e53.trans he60
      have e62 := he50.trans he60
      have e63 := e54.trans he60
      have e64 := e55.trans he60
      refine T0_q (v := (.tuple #[(.int .i64 r57.1), (.int .i64 r57.2)])) rfl (yl_move rfl) ?_
      refine T0_q (v := (.int .i64 r57.1)) rfl (yl_extract rfl rfl) ?_
      refine T0_q (v := (.int .i64 r57.2)) rfl (yl_extract rfl rfl) ?_
      refine T0_q (v := (.int .i64 r57.1)) rfl (yl_assign rfl) ?_
      refine T0_q (v := (.int .i64 r57.2)) rfl (yl_assign rfl) ?_
      refine T0_nil ?_
      refine hK36 _ _ ?_
      refine WC_seqK fun K65 hK65 => ?_
      refine WC_region ?_
      refine T0_q (v := (.agg (List.toArray [v1, (.int .i64 p_Listappend.Window), (.int .i64 p_Listappend.Tooth), (.int .i64 p_Listappend.PerVane), (.int .i64 p_Listappend.First), (.int .i64 p_Listappend.Modulus), (.int .i64 p_Listappend.Slack), (.int .i64 p_Listappend.Errors), (.bool p_Listappend.Round)]))) rfl (yl_loadA (cs := [v1, (.int .i64 p_Listappend.Window), (.int .i64 p_Listappend.Tooth), (.int .i64 p_Listappend.PerVane), (.int .i64 p_Listappend.First), (.int .i64 p_Listappend.Modulus), (.int .i64 p_Listappend.Slack), (.int .i64 p_Listappend.Errors), (.bool p_Listappend.Round)]) ag24 rfl (Box.at (hB11.ext e63))) ?_
      obtain ⟨r66, hr67, h⟩ := bind_elim h
      refine T0_e rfl (eff_call Tryd.func21 nm21 rfl (ev1 rfl) (ref04_Copy_ok L _ (hL.chg e64) [v1, (.int .i64 p_Listappend.Window), (.int .i64 p_Listappend.Tooth), (.int .i64 p_Listappend.PerVane), (.int .i64 p_Listappend.First), (.int .i64 p_Listappend.Modulus), (.int .i64 p_Listappend.Slack), (.int .i64 p_Listappend.Errors), (.bool p_Listappend.Round)] p_Listappend ⟨v1, (h2.ext e61), rfl⟩ r66 hr67) ?_)
      rintro _ wd68 ⟨he69, cs72, rfl, hrd73⟩
      have e74 := e61.trans he69
      have e75 := e62.trans he69
      have e76 := he60.trans he69
      have e77 := e63.trans he69
      have e78 := e64.trans he69
      obtain ⟨v70, h71, rfl⟩ := hrd73
      obtain ⟨r80, hr81, h⟩ := bind_elim h
      refine T0_e rfl (eff_call Tryd.func71 nm71 rfl (ev1 rfl) (locate_DistanceOf_ok [] _ (LtL.nil _) [v70, (.int .i64 r66.Window), (.int .i64 r66.Tooth), (.int .i64 r66.PerVane), (.int .i64 r66.First), (.int .i64 r66.Modulus), (.int .i64 r66.Slack), (.int .i64 r66.Errors), (.bool r66.Round)] r66 ⟨v70, (h71.sub (fun _ h => by cases h)), rfl⟩ r80 hr81) ?_)
      rintro _ wd82 ⟨he83, cs84, rfl, hrd85⟩
      have e86 := e74.trans he83
      have e87 := e75.trans he83
      have e88 := e76.trans he83
      have e89 := e77.trans he83
      have e90 := e78.trans he83
      have hrd85 : cs84 = [(.int .i64 r80.2.1.e0), (.int .i64 r80.2.1.e1)] := hrd85
      subst hrd85
      refine T0_q (v := (.tuple #[(.int .i64 r80.1), (.agg (List.toArray [(.int .i64 r80.2.1.e0), (.int .i64 r80.2.1.e1)])), (.int .i64 r80.2.2)])) rfl (yl_move rfl) ?_
      refine T0_q (v := (.int .i64 r80.1)) rfl (yl_extract rfl rfl) ?_
      refine T0_q (v := (.agg (List.toArray [(.int .i64 r80.2.1.e0), (.int .i64 r80.2.1.e1)]))) rfl (yl_extract rfl rfl) ?_
      refine T0_q (v := (.int .i64 r80.2.2)) rfl (yl_extract rfl rfl) ?_
      refine T0_e rfl (eff_allocZ zi115 ?_)
      intro b91 wd92 hb93 he94 hB95
      have hn96 : b91 ≠ b7 := box_ne (hB11.ext e89) hb93
      have hbf97 := bfresh e90 hb93
      have h98 := (h2.ext e86).step (add_box he94 hb93)
      have h99 := (h_p_String.ext e86).step (add_box he94 hb93)
      have h100 := (h_p_ListappendStringtabtabnekpairfddwantfirstsome.ext e86).step (add_box he94 hb93)
      have h101 := (h42.ext e87).step (add_box he94 hb93)
      have h102 := (h52.ext e88).step (add_box he94 hb93)
      have h103 := (h71.ext he83).step (add_box he94 hb93)
      have e104 := e89.trans he94
      have e105 := e90.trans he94
      refine T0_q (v := (.int .i64 r80.1)) rfl (yl_assign rfl) ?_
      refine T0_e rfl (eff_storeC (vs := [(.int .i64 r80.2.1.e0), (.int .i64 r80.2.1.e1)]) (cs' := [(.int .i64 r80.2.1.e0), (.int .i64 r80.2.1.e1)]) sz115 rfl rfl rfl rfl hB95 rfl (oc_cons rfl (oc_cons rfl oc_nil)) rfl ?_)
      intro wd107 hc108 hB109
      have h110 := h98.step (Stepp.chg_mem hc108 mem0)
      have h111 := h99.step (Stepp.chg_mem hc108 mem0)
      have h112 := h100.step (Stepp.chg_mem hc108 mem0)
      have h113 := (hB11.ext e104).chg hc108 (avoidb hn96)
      have h114 := h101.step (Stepp.chg_mem hc108 mem0)
      have h115 := h102.step (Stepp.chg_mem hc108 mem0)
      have h116 := h103.step (Stepp.chg_mem hc108 mem0)
      have e117 := chg_box e105 hc108 hbf97
      refine T0_q (v := (.int .i64 r80.2.2)) rfl (yl_assign rfl) ?_
      refine T0_nil ?_
      refine hK65 _ _ ?_
      refine WC_seqK fun K118 hK118 => ?_
      refine WC_seqK fun K119 hK119 => ?_
      refine WC_region ?_
      refine T0_q (v := v_p_String) rfl (yl_move rfl) ?_
      refine T0_q (v := v_p_ListappendStringtabtabnekpairfddwantfirstsome) rfl (yl_move rfl) ?_
      obtain ⟨r120, hr121, h⟩ := bind_elim h
      refine T0_e rfl (eff_call Tryd.func72 nm72 rfl (ev2 rfl rfl) (ref04_DifferErr_ok [] _ (LtL.nil _) v_p_String p_String (h111.sub (fun _ h => by cases h)) v_p_ListappendStringtabtabnekpairfddwantfirstsome p_ListappendStringtabtabnekpairfddwantfirstsome (h112.sub (fun _ h => by cases h)) r120 hr121) ?_)
      rintro _ wd122 ⟨he123, rfl⟩
      have e124 := e117.trans he123
      refine T0_q (v := (.int .i64 r120)) rfl (yl_assign rfl) ?_
      refine T0_nil ?_
      refine hK119 _ _ ?_
      refine WC_seqK fun K125 hK125 => ?_
      refine WC_region ?_
      refine T0_q (v := (.int .i64 r120)) rfl (yl_move rfl) ?_
      refine T0_q (v := (.bool (!decide (r120 = 0)))) rfl (yl_neq rfl rfl) ?_
      refine T0_q (v := (.bool (!decide (r120 = 0)))) rfl (yl_move rfl) ?_
      refine T0_g (v := (.int .i64 r57.2)) (!decide (r120 = 0)) (wanted_t rfl rfl rfl rfl) (fun hg => (yl_move rfl)) ?_
      refine T0_g (v := (.int .i64 r120)) (!decide (r120 = 0)) (wanted_t rfl rfl rfl rfl) (fun hg => (yl_move rfl)) ?_
      refine T0_g (v := (.bool (!decide (r57.2 = r120)))) (!decide (r120 = 0)) (wanted_t rfl rfl rfl rfl) (fun hg => (yl_neq (gd_true hg) (gd_true hg))) ?_
      refine T0_g (v := (.bool (!decide (r57.2 = r120)))) (!decide (r120 = 0)) (wanted_t rfl rfl rfl rfl) (fun hg => (yl_move (gd_true hg))) ?_
      refine T0_g (v := (.int .i64 r57.1)) ((!decide (r120 = 0)) && (!(!decide (r57.2 = r120)))) (wanted_gf rfl rfl rfl rfl) (fun hg => (yl_move rfl)) ?_
      refine T0_g (v := (.bool (!decide (r57.1 = 0)))) ((!decide (r120 = 0)) && (!(!decide (r57.2 = r120)))) (wanted_gf rfl rfl rfl rfl) (fun hg => (yl_neq (gd_true hg) rfl)) ?_
      refine T0_g (v := (.bool ((!decide (r57.2 = r120)) || (!decide (r57.1 = 0))))) (!decide (r120 = 0)) (wanted_t rfl rfl rfl rfl) (fun hg => (yl_or (gd_true hg) rfl (fun hb => (gd_true (and_i hg (not_t hb)))))) ?_
      refine T0_q (v := (.bool ((!decide (r120 = 0)) && ((!decide (r57.2 = r120)) || (!decide (r57.1 = 0)))))) rfl (yl_and rfl (fun hb => (gd_true hb)) rfl) ?_
      refine T0_q (v := (.bool ((!decide (r120 = 0)) && ((!decide (r57.2 = r120)) || (!decide (r57.1 = 0)))))) rfl (yl_move rfl) ?_
      refine T0_g (v := (.int .i64 r120)) (!((!decide (r120 = 0)) && ((!decide (r57.2 = r120)) || (!decide (r57.1 = 0))))) (wanted_f rfl rfl rfl rfl) (fun hg => (yl_move rfl)) ?_
      refine T0_g (v := (.bool (decide (r120 = 0)))) (!((!decide (r120 = 0)) && ((!decide (r57.2 = r120)) || (!decide (r57.1 = 0))))) (wanted_f rfl rfl rfl rfl) (fun hg => (yl_eql (gd_true hg) rfl)) ?_
      refine T0_g (v := (.bool (decide (r120 = 0)))) (!((!decide (r120 = 0)) && ((!decide (r57.2 = r120)) || (!decide (r57.1 = 0))))) (wanted_f rfl rfl rfl rfl) (fun hg => (yl_move (gd_true hg))) ?_
      refine T0_g (v := (.int .i64 r57.2)) ((!((!decide (r120 = 0)) && ((!decide (r57.2 = r120)) || (!decide (r57.1 = 0))))) && (decide (r120 = 0))) (wanted_gt rfl rfl rfl rfl) (fun hg => (yl_move rfl)) ?_
      refine T0_g (v := (.bool (!decide (r57.2 = 0)))) ((!((!decide (r120 = 0)) && ((!decide (r57.2 = r120)) || (!decide (r57.1 = 0))))) && (decide (r120 = 0))) (wanted_gt rfl rfl rfl rfl) (fun hg => (yl_neq (gd_true hg) rfl)) ?_
      refine T0_g (v := (.bool (!decide (r57.2 = 0)))) ((!((!decide (r120 = 0)) && ((!decide (r57.2 = r120)) || (!decide (r57.1 = 0))))) && (decide (r120 = 0))) (wanted_gt rfl rfl rfl rfl) (fun hg => (yl_move (gd_true hg))) ?_
      refine T0_g (v := (.int .i64 r57.1)) (((!((!decide (r120 = 0)) && ((!decide (r57.2 = r120)) || (!decide (r57.1 = 0))))) && (decide (r120 = 0))) && (!(!decide (r57.2 = 0)))) (wanted_gf rfl rfl rfl rfl) (fun hg => (yl_move rfl)) ?_
      refine T0_g (v := v_p_String) (((!((!decide (r120 = 0)) && ((!decide (r57.2 = r120)) || (!decide (r57.1 = 0))))) && (decide (r120 = 0))) && (!(!decide (r57.2 = 0)))) (wanted_gf rfl rfl rfl rfl) (fun hg => (yl_move rfl)) ?_
      refine T0_g (v := v_p_ListappendStringtabtabnekpairfddwantfirstsome) (((!((!decide (r120 = 0)) && ((!decide (r57.2 = r120)) || (!decide (r57.1 = 0))))) && (decide (r120 = 0))) && (!(!decide (r57.2 = 0)))) (wanted_gf rfl rfl rfl rfl) (fun hg => (yl_move rfl)) ?_
      obtain ⟨r126, hr127, h⟩ := bind_elim h
      refine T0_ges (((!((!decide (r120 = 0)) && ((!decide (r57.2 = r120)) || (!decide (r57.1 = 0))))) && (decide (r120 = 0))) && (!(!decide (r57.2 = 0)))) (.int .i64 r126) (wanted_gf rfl rfl rfl rfl) (fun hg => eff_call Tryd.func73 nm73 rfl (ev2 (gd_true hg) (gd_true hg)) (ref04_Differ_ok [] _ (LtL.nil _) v_p_String p_String ((h111.ext he123).sub (fun _ h => by cases h)) v_p_ListappendStringtabtabnekpairfddwantfirstsome p_ListappendStringtabtabnekpairfddwantfirstsome ((h112.ext he123).sub (fun _ h => by cases h)) r126 (cond_t hg hr127)) (by rintro _ wd128 ⟨he129, rfl⟩; exact ⟨rfl, he129⟩)) ?_
      intro wd128 he129
      have e130 := he123.trans he129
      have e131 := e124.trans he129
      refine T0_g (v := (.bool (!decide (r57.1 = r126)))) (((!((!decide (r120 = 0)) && ((!decide (r57.2 = r120)) || (!decide (r57.1 = 0))))) && (decide (r120 = 0))) && (!(!decide (r57.2 = 0)))) (wanted_gf rfl rfl rfl rfl) (fun hg => (yl_neq (gd_true hg) (gd_true hg))) ?_
      refine T0_g (v := (.bool ((!decide (r57.2 = 0)) || (!decide (r57.1 = r126))))) ((!((!decide (r120 = 0)) && ((!decide (r57.2 = r120)) || (!decide (r57.1 = 0))))) && (decide (r120 = 0))) (wanted_gt rfl rfl rfl rfl) (fun hg => (yl_or (gd_true hg) rfl (fun hb => (gd_true (and_i hg (not_t hb)))))) ?_
      refine T0_g (v := (.bool ((decide (r120 = 0)) && ((!decide (r57.2 = 0)) || (!decide (r57.1 = r126)))))) (!((!decide (r120 = 0)) && ((!decide (r57.2 = r120)) || (!decide (r57.1 = 0))))) (wanted_f rfl rfl rfl rfl) (fun hg => (yl_and (gd_true hg) (fun hb => (gd_true (and_i hg hb))) rfl)) ?_
      refine T0_q (v := (.bool (((!decide (r120 = 0)) && ((!decide (r57.2 = r120)) || (!decide (r57.1 = 0)))) || ((decide (r120 = 0)) && ((!decide (r57.2 = 0)) || (!decide (r57.1 = r126))))))) rfl (yl_or rfl rfl (fun hb => (gd_true (not_t hb)))) ?_
      refine T0_nil ?_
      refine hK125 _ _ ?_
      refine WC_cond (b := (((!decide (r120 = 0)) && ((!decide (r57.2 = r120)) || (!decide (r57.1 = 0)))) || ((decide (r120 = 0)) && ((!decide (r57.2 = 0)) || (!decide (r57.1 = r126)))))) rfl (fun hb132 => ?_) (fun hb132 => ?_)
      · replace h := cond_t hb132 h
        refine WC_seqK fun K133 hK133 => ?_
        refine WC_region ?_
        refine T0_q (v := (.bool false)) rfl (yl_assign rfl) ?_
        refine T0_nil ?_
        refine hK133 _ _ ?_
        refine WC_ret ?_
        replace h := some_out h
        subst h
        exact ⟨[(.bool false)], ⟨rfl, trivial⟩, e131, rfl⟩
      · replace h := cond_f hb132 h
        refine WC_skip ?_
        refine hK118 _ _ ?_
        refine WC_seqK fun K134 hK134 => ?_
        refine WC_seqK fun K135 hK135 => ?_
        refine WC_region ?_
        refine T0_q (v := (.agg (List.toArray [v1, (.int .i64 p_Listappend.Window), (.int .i64 p_Listappend.Tooth), (.int .i64 p_Listappend.PerVane), (.int .i64 p_Listappend.First), (.int .i64 p_Listappend.Modulus), (.int .i64 p_Listappend.Slack), (.int .i64 p_Listappend.Errors), (.bool p_Listappend.Round)]))) rfl (yl_loadA (cs := [v1, (.int .i64 p_Listappend.Window), (.int .i64 p_Listappend.Tooth), (.int .i64 p_Listappend.PerVane), (.int .i64 p_Listappend.First), (.int .i64 p_Listappend.Modulus), (.int .i64 p_Listappend.Slack), (.int .i64 p_Listappend.Errors), (.bool p_Listappend.Round)]) ag24 rfl (Box.at (h113.ext e130))) ?_
        obtain ⟨r136, hr137, h⟩ := bind_elim h
        refine T0_e rfl (eff_call Tryd.func24 nm24 rfl (ev1 rfl) (ref04_TrackErr_ok [] _ (LtL.nil _) [v1, (.int .i64 p_Listappend.Window), (.int .i64 p_Listappend.Tooth), (.int .i64 p_Listappend.PerVane), (.int .i64 p_Listappend.First), (.int .i64 p_Listappend.Modulus), (.int .i64 p_Listappend.Slack), (.int .i64 p_Listappend.Errors), (.bool p_Listappend.Round)] p_Listappend ⟨v1, ((h110.ext e130).sub (fun _ h => by cases h)), rfl⟩ r136 hr137) ?_)
        rintro _ wd138 ⟨he139, rfl⟩
        have e140 := e130.trans he139
        have e141 := e131.trans he139
        refine T0_q (v := (.int .i64 r136)) rfl (yl_assign rfl) ?_
        refine T0_nil ?_
        refine hK135 _ _ ?_
        refine WC_seqK fun K142 hK142 => ?_
        refine WC_region ?_
        refine T0_q (v := (.int .i64 r136)) rfl (yl_move rfl) ?_
        refine T0_q (v := (.bool (!decide (r136 = 0)))) rfl (yl_neq rfl rfl) ?_
        refine T0_nil ?_
        refine hK142 _ _ ?_
        refine WC_cond (b := (!decide (r136 = 0))) rfl (fun hb143 => ?_) (fun hb143 => ?_)
        · replace h := cond_t hb143 h
          refine WC_seqK fun K144 hK144 => ?_
          refine WC_region ?_
          refine T0_q (v := (.int .i64 r80.2.2)) rfl (yl_move rfl) ?_
          refine T0_q (v := (.int .i64 r136)) rfl (yl_move rfl) ?_
          refine T0_q (v := (.bool (decide (r80.2.2 = r136)))) rfl (yl_eql rfl rfl) ?_
          refine T0_q (v := (.bool (decide (r80.2.2 = r136)))) rfl (yl_move rfl) ?_
          refine T0_g (v := (.int .i64 r80.1)) (decide (r80.2.2 = r136)) (wanted_t rfl rfl rfl rfl) (fun hg => (yl_move rfl)) ?_
          refine T0_g (v := (.bool (decide (r80.1 = 0)))) (decide (r80.2.2 = r136)) (wanted_t rfl rfl rfl rfl) (fun hg => (yl_eql (gd_true hg) rfl)) ?_
          refine T0_q (v := (.bool ((decide (r80.2.2 = r136)) && (decide (r80.1 = 0))))) rfl (yl_and rfl (fun hb => (gd_true hb)) rfl) ?_
          refine T0_q (v := (.bool ((decide (r80.2.2 = r136)) && (decide (r80.1 = 0))))) rfl (yl_move rfl) ?_
          refine T0_g (v := (.agg (List.toArray [(.int .i64 r80.2.1.e0), (.int .i64 r80.2.1.e1)]))) ((decide (r80.2.2 = r136)) && (decide (r80.1 = 0))) (wanted_t rfl rfl rfl rfl) (fun hg => (yl_loadA (cs := [(.int .i64 r80.2.1.e0), (.int .i64 r80.2.1.e1)]) ag115 rfl (Box.at (hB109.ext e140)))) ?_
          refine T0_g (v := (.agg (List.toArray [(.int .i64 0), (.int .i64 0)]))) ((decide (r80.2.2 = r136)) && (decide (r80.1 = 0))) (wanted_t rfl rfl rfl rfl) (fun hg => (yl_buildA (cells := [(.int .i64 0), (.int .i64 0)]) Tryd.underlying115 sz3 zi115 pc_nil rfl)) ?_
          refine T0_g (v := (.bool (decide ((Arr2_Int.mk r80.2.1.e0 r80.2.1.e1) = (Arr2_Int.mk 0 0))))) ((decide (r80.2.2 = r136)) && (decide (r80.1 = 0))) (wanted_t rfl rfl rfl rfl) (fun hg => (yl_eqlS eg115 (gd_true hg) (gd_true hg) (eqs115 (Arr2_Int.mk r80.2.1.e0 r80.2.1.e1) (Arr2_Int.mk 0 0) _))) ?_
          refine T0_q (v := (.bool (((decide (r80.2.2 = r136)) && (decide (r80.1 = 0))) && (decide ((Arr2_Int.mk r80.2.1.e0 r80.2.1.e1) = (Arr2_Int.mk 0 0)))))) rfl (yl_and rfl (fun hb => (gd_true hb)) rfl) ?_
          refine T0_q (v := (.bool (((decide (r80.2.2 = r136)) && (decide (r80.1 = 0))) && (decide ((Arr2_Int.mk r80.2.1.e0 r80.2.1.e1) = (Arr2_Int.mk 0 0)))))) rfl (yl_assign rfl) ?_
          refine T0_nil ?_
          refine hK144 _ _ ?_
          refine WC_ret ?_
          replace h := some_out h
          subst h
          exact ⟨[(.bool (((decide (r80.2.2 = r136)) && (decide (r80.1 = 0))) && (decide ((Arr2_Int.mk r80.2.1.e0 r80.2.1.e1) = (Arr2_Int.mk 0 0)))))], ⟨rfl, trivial⟩, e141, rfl⟩
        · replace h := cond_f hb143 h
          refine WC_skip ?_
          refine hK134 _ _ ?_
          refine WC_seqK fun K145 hK145 => ?_
          refine WC_region ?_
          refine T0_q (v := (.agg (List.toArray [v1, (.int .i64 p_Listappend.Window), (.int .i64 p_Listappend.Tooth), (.int .i64 p_Listappend.PerVane), (.int .i64 p_Listappend.First), (.int .i64 p_Listappend.Modulus), (.int .i64 p_Listappend.Slack), (.int .i64 p_Listappend.Errors), (.bool p_Listappend.Round)]))) rfl (yl_loadA (cs := [v1, (.int .i64 p_Listappend.Window), (.int .i64 p_Listappend.Tooth), (.int .i64 p_Listappend.PerVane), (.int .i64 p_Listappend.First), (.int .i64 p_Listappend.Modulus), (.int .i64 p_Listappend.Slack), (.int .i64 p_Listappend.Errors), (.bool p_Listappend.Round)]) ag24 rfl (Box.at (h113.ext e140))) ?_
          obtain ⟨r146, hr147, h⟩ := bind_elim h
          refine T0_e rfl (eff_call Tryd.func74 nm74 rfl (ev1 rfl) (ref04_DistanceOf_ok [] _ (LtL.nil _) [v1, (.int .i64 p_Listappend.Window), (.int .i64 p_Listappend.Tooth), (.int .i64 p_Listappend.PerVane), (.int .i64 p_Listappend.First), (.int .i64 p_Listappend.Modulus), (.int .i64 p_Listappend.Slack), (.int .i64 p_Listappend.Errors), (.bool p_Listappend.Round)] p_Listappend ⟨v1, ((h110.ext e140).sub (fun _ h => by cases h)), rfl⟩ r146 hr147) ?_)
          rintro _ wd148 ⟨he149, cs150, rfl, hrd151⟩
          have e152 := e140.trans he149
          have e153 := e141.trans he149
          have hrd151 : cs150 = [(.int .i64 r146.2.1.e0), (.int .i64 r146.2.1.e1)] := hrd151
          subst hrd151
          refine T0_q (v := (.tuple #[(.int .i64 r146.1), (.agg (List.toArray [(.int .i64 r146.2.1.e0), (.int .i64 r146.2.1.e1)])), (.bool r146.2.2)])) rfl (yl_move rfl) ?_
          refine T0_q (v := (.int .i64 r146.1)) rfl (yl_extract rfl rfl) ?_
          refine T0_q (v := (.agg (List.toArray [(.int .i64 r146.2.1.e0), (.int .i64 r146.2.1.e1)]))) rfl (yl_extract rfl rfl) ?_
          refine T0_q (v := (.bool r146.2.2)) rfl (yl_extract rfl rfl) ?_
          refine T0_e rfl (eff_allocZ zi115 ?_)
          intro b154 wd155 hb156 he157 hB158
          have hn159 : b154 ≠ b7 := box_ne (h113.ext e152) hb156
          have hn160 : b154 ≠ b91 := box_ne (hB109.ext e152) hb156
          have hbf161 := bfresh e153 hb156
          have h162 := (h110.ext e152).step (add_box he157 hb156)
          have h163 := (h111.ext e152).step (add_box he157 hb156)
          have h164 := (h112.ext e152).step (add_box he157 hb156)
          have h165 := (h114.ext e152).step (add_box he157 hb156)
          have h166 := (h115.ext e152).step (add_box he157 hb156)
          have h167 := (h116.ext e152).step (add_box he157 hb156)
          have e168 := e152.trans he157
          have e169 := e153.trans he157
          refine T0_q (v := (.int .i64 r146.1)) rfl (yl_assign rfl) ?_
          refine T0_e rfl (eff_storeC (vs := [(.int .i64 r146.2.1.e0), (.int .i64 r146.2.1.e1)]) (cs' := [(.int .i64 r146.2.1.e0), (.int .i64 r146.2.1.e1)]) sz115 rfl rfl rfl rfl hB158 rfl (oc_cons rfl (oc_cons rfl oc_nil)) rfl ?_)
          intro wd171 hc172 hB173
          have h174 := h162.step (Stepp.chg_mem hc172 mem0)
          have h175 := h163.step (Stepp.chg_mem hc172 mem0)
          have h176 := h164.step (Stepp.chg_mem hc172 mem0)
          have h177 := (h113.ext e168).chg hc172 (avoidb hn159)
          have h178 := h165.step (Stepp.chg_mem hc172 mem0)
          have h179 := h166.step (Stepp.chg_mem hc172 mem0)
          have h180 := h167.step (Stepp.chg_mem hc172 mem0)
          have h181 := (hB109.ext e168).chg hc172 (avoidb hn160)
          have e182 := chg_box e169 hc172 hbf161
          refine T0_q (v := (.bool r146.2.2)) rfl (yl_assign rfl) ?_
          refine T0_nil ?_
          refine hK145 _ _ ?_
          refine WC_seqK fun K183 hK183 => ?_
          refine WC_region ?_
          refine T0_q (v := (.bool r146.2.2)) rfl (yl_move rfl) ?_
          refine T0_q (v := (.bool r146.2.2)) rfl (yl_move rfl) ?_
          refine T0_g (v := (.int .i64 r80.2.2)) r146.2.2 (wanted_t rfl rfl rfl rfl) (fun hg => (yl_move rfl)) ?_
          refine T0_g (v := (.bool (decide (r80.2.2 = 0)))) r146.2.2 (wanted_t rfl rfl rfl rfl) (fun hg => (yl_eql (gd_true hg) rfl)) ?_
          refine T0_q (v := (.bool (r146.2.2 && (decide (r80.2.2 = 0))))) rfl (yl_and rfl (fun hb => (gd_true hb)) rfl) ?_
          refine T0_q (v := (.bool (r146.2.2 && (decide (r80.2.2 = 0))))) rfl (yl_move rfl) ?_
          refine T0_g (v := (.int .i64 r80.1)) (r146.2.2 && (decide (r80.2.2 = 0))) (wanted_t rfl rfl rfl rfl) (fun hg => (yl_move rfl)) ?_
          refine T0_g (v := (.int .i64 r146.1)) (r146.2.2 && (decide (r80.2.2 = 0))) (wanted_t rfl rfl rfl rfl) (fun hg => (yl_move rfl)) ?_
          refine T0_g (v := (.bool (decide (r80.1 = r146.1)))) (r146.2.2 && (decide (r80.2.2 = 0))) (wanted_t rfl rfl rfl rfl) (fun hg => (yl_eql (gd_true hg) (gd_true hg))) ?_
          refine T0_q (v := (.bool ((r146.2.2 && (decide (r80.2.2 = 0))) && (decide (r80.1 = r146.1))))) rfl (yl_and rfl (fun hb => (gd_true hb)) rfl) ?_
          refine T0_q (v := (.bool ((r146.2.2 && (decide (r80.2.2 = 0))) && (decide (r80.1 = r146.1))))) rfl (yl_move rfl) ?_
          refine T0_g (v := (.agg (List.toArray [(.int .i64 r80.2.1.e0), (.int .i64 r80.2.1.e1)]))) ((r146.2.2 && (decide (r80.2.2 = 0))) && (decide (r80.1 = r146.1))) (wanted_t rfl rfl rfl rfl) (fun hg => (yl_loadA (cs := [(.int .i64 r80.2.1.e0), (.int .i64 r80.2.1.e1)]) ag115 rfl (Box.at h181))) ?_
          refine T0_g (v := (.agg (List.toArray [(.int .i64 r146.2.1.e0), (.int .i64 r146.2.1.e1)]))) ((r146.2.2 && (decide (r80.2.2 = 0))) && (decide (r80.1 = r146.1))) (wanted_t rfl rfl rfl rfl) (fun hg => (yl_loadA (cs := [(.int .i64 r146.2.1.e0), (.int .i64 r146.2.1.e1)]) ag115 rfl (Box.at hB173))) ?_
          refine T0_g (v := (.bool (decide ((Arr2_Int.mk r80.2.1.e0 r80.2.1.e1) = (Arr2_Int.mk r146.2.1.e0 r146.2.1.e1))))) ((r146.2.2 && (decide (r80.2.2 = 0))) && (decide (r80.1 = r146.1))) (wanted_t rfl rfl rfl rfl) (fun hg => (yl_eqlS eg115 (gd_true hg) (gd_true hg) (eqs115 (Arr2_Int.mk r80.2.1.e0 r80.2.1.e1) (Arr2_Int.mk r146.2.1.e0 r146.2.1.e1) _))) ?_
          refine T0_q (v := (.bool (((r146.2.2 && (decide (r80.2.2 = 0))) && (decide (r80.1 = r146.1))) && (decide ((Arr2_Int.mk r80.2.1.e0 r80.2.1.e1) = (Arr2_Int.mk r146.2.1.e0 r146.2.1.e1)))))) rfl (yl_and rfl (fun hb => (gd_true hb)) rfl) ?_
          refine T0_q (v := (.bool (((r146.2.2 && (decide (r80.2.2 = 0))) && (decide (r80.1 = r146.1))) && (decide ((Arr2_Int.mk r80.2.1.e0 r80.2.1.e1) = (Arr2_Int.mk r146.2.1.e0 r146.2.1.e1)))))) rfl (yl_move rfl) ?_
          refine T0_g (v := (.bool r146.2.2)) (!(((r146.2.2 && (decide (r80.2.2 = 0))) && (decide (r80.1 = r146.1))) && (decide ((Arr2_Int.mk r80.2.1.e0 r80.2.1.e1) = (Arr2_Int.mk r146.2.1.e0 r146.2.1.e1))))) (wanted_f rfl rfl rfl rfl) (fun hg => (yl_move rfl)) ?_
          refine T0_g (v := (.bool (!r146.2.2))) (!(((r146.2.2 && (decide (r80.2.2 = 0))) && (decide (r80.1 = r146.1))) && (decide ((Arr2_Int.mk r80.2.1.e0 r80.2.1.e1) = (Arr2_Int.mk r146.2.1.e0 r146.2.1.e1))))) (wanted_f rfl rfl rfl rfl) (fun hg => (yl_not (gd_true hg))) ?_
          refine T0_g (v := (.bool (!r146.2.2))) (!(((r146.2.2 && (decide (r80.2.2 = 0))) && (decide (r80.1 = r146.1))) && (decide ((Arr2_Int.mk r80.2.1.e0 r80.2.1.e1) = (Arr2_Int.mk r146.2.1.e0 r146.2.1.e1))))) (wanted_f rfl rfl rfl rfl) (fun hg => (yl_move (gd_true hg))) ?_
          refine T0_g (v := (.int .i64 r80.2.2)) ((!(((r146.2.2 && (decide (r80.2.2 = 0))) && (decide (r80.1 = r146.1))) && (decide ((Arr2_Int.mk r80.2.1.e0 r80.2.1.e1) = (Arr2_Int.mk r146.2.1.e0 r146.2.1.e1))))) && (!r146.2.2)) (wanted_gt rfl rfl rfl rfl) (fun hg => (yl_move rfl)) ?_
          refine T0_g (v := (.bool (decide (r80.2.2 = 12)))) ((!(((r146.2.2 && (decide (r80.2.2 = 0))) && (decide (r80.1 = r146.1))) && (decide ((Arr2_Int.mk r80.2.1.e0 r80.2.1.e1) = (Arr2_Int.mk r146.2.1.e0 r146.2.1.e1))))) && (!r146.2.2)) (wanted_gt rfl rfl rfl rfl) (fun hg => (yl_eql (gd_true hg) rfl)) ?_
          refine T0_g (v := (.bool ((!r146.2.2) && (decide (r80.2.2 = 12))))) (!(((r146.2.2 && (decide (r80.2.2 = 0))) && (decide (r80.1 = r146.1))) && (decide ((Arr2_Int.mk r80.2.1.e0 r80.2.1.e1) = (Arr2_Int.mk r146.2.1.e0 r146.2.1.e1))))) (wanted_f rfl rfl rfl rfl) (fun hg => (yl_and (gd_true hg) (fun hb => (gd_true (and_i hg hb))) rfl)) ?_
          refine T0_g (v := (.bool ((!r146.2.2) && (decide (r80.2.2 = 12))))) (!(((r146.2.2 && (decide (r80.2.2 = 0))) && (decide (r80.1 = r146.1))) && (decide ((Arr2_Int.mk r80.2.1.e0 r80.2.1.e1) = (Arr2_Int.mk r146.2.1.e0 r146.2.1.e1))))) (wanted_f rfl rfl rfl rfl) (fun hg => (yl_move (gd_true hg))) ?_
          refine T0_g (v := (.int .i64 r80.1)) ((!(((r146.2.2 && (decide (r80.2.2 = 0))) && (decide (r80.1 = r146.1))) && (decide ((Arr2_Int.mk r80.2.1.e0 r80.2.1.e1) = (Arr2_Int.mk r146.2.1.e0 r146.2.1.e1))))) && ((!r146.2.2) && (decide (r80.2.2 = 12)))) (wanted_gt rfl rfl rfl rfl) (fun hg => (yl_move rfl)) ?_
          refine T0_g (v := (.bool (decide (r80.1 = 0)))) ((!(((r146.2.2 && (decide (r80.2.2 = 0))) && (decide (r80.1 = r146.1))) && (decide ((Arr2_Int.mk r80.2.1.e0 r80.2.1.e1) = (Arr2_Int.mk r146.2.1.e0 r146.2.1.e1))))) && ((!r146.2.2) && (decide (r80.2.2 = 12)))) (wanted_gt rfl rfl rfl rfl) (fun hg => (yl_eql (gd_true hg) rfl)) ?_
          refine T0_g (v := (.bool (((!r146.2.2) && (decide (r80.2.2 = 12))) && (decide (r80.1 = 0))))) (!(((r146.2.2 && (decide (r80.2.2 = 0))) && (decide (r80.1 = r146.1))) && (decide ((Arr2_Int.mk r80.2.1.e0 r80.2.1.e1) = (Arr2_Int.mk r146.2.1.e0 r146.2.1.e1))))) (wanted_f rfl rfl rfl rfl) (fun hg => (yl_and (gd_true hg) (fun hb => (gd_true (and_i hg hb))) rfl)) ?_
          refine T0_g (v := (.bool (((!r146.2.2) && (decide (r80.2.2 = 12))) && (decide (r80.1 = 0))))) (!(((r146.2.2 && (decide (r80.2.2 = 0))) && (decide (r80.1 = r146.1))) && (decide ((Arr2_Int.mk r80.2.1.e0 r80.2.1.e1) = (Arr2_Int.mk r146.2.1.e0 r146.2.1.e1))))) (wanted_f rfl rfl rfl rfl) (fun hg => (yl_move (gd_true hg))) ?_
          refine T0_g (v := (.agg (List.toArray [(.int .i64 r80.2.1.e0), (.int .i64 r80.2.1.e1)]))) ((!(((r146.2.2 && (decide (r80.2.2 = 0))) && (decide (r80.1 = r146.1))) && (decide ((Arr2_Int.mk r80.2.1.e0 r80.2.1.e1) = (Arr2_Int.mk r146.2.1.e0 r146.2.1.e1))))) && (((!r146.2.2) && (decide (r80.2.2 = 12))) && (decide (r80.1 = 0)))) (wanted_gt rfl rfl rfl rfl) (fun hg => (yl_loadA (cs := [(.int .i64 r80.2.1.e0), (.int .i64 r80.2.1.e1)]) ag115 rfl (Box.at h181))) ?_
          refine T0_g (v := (.agg (List.toArray [(.int .i64 0), (.int .i64 0)]))) ((!(((r146.2.2 && (decide (r80.2.2 = 0))) && (decide (r80.1 = r146.1))) && (decide ((Arr2_Int.mk r80.2.1.e0 r80.2.1.e1) = (Arr2_Int.mk r146.2.1.e0 r146.2.1.e1))))) && (((!r146.2.2) && (decide (r80.2.2 = 12))) && (decide (r80.1 = 0)))) (wanted_gt rfl rfl rfl rfl) (fun hg => (yl_buildA (cells := [(.int .i64 0), (.int .i64 0)]) Tryd.underlying115 sz3 zi115 pc_nil rfl)) ?_
          refine T0_g (v := (.bool (decide ((Arr2_Int.mk r80.2.1.e0 r80.2.1.e1) = (Arr2_Int.mk 0 0))))) ((!(((r146.2.2 && (decide (r80.2.2 = 0))) && (decide (r80.1 = r146.1))) && (decide ((Arr2_Int.mk r80.2.1.e0 r80.2.1.e1) = (Arr2_Int.mk r146.2.1.e0 r146.2.1.e1))))) && (((!r146.2.2) && (decide (r80.2.2 = 12))) && (decide (r80.1 = 0)))) (wanted_gt rfl rfl rfl rfl) (fun hg => (yl_eqlS eg115 (gd_true hg) (gd_true hg) (eqs115 (Arr2_Int.mk r80.2.1.e0 r80.2.1.e1) (Arr2_Int.mk 0 0) _))) ?_
          refine T0_g (v := (.bool ((((!r146.2.2) && (decide (r80.2.2 = 12))) && (decide (r80.1 = 0))) && (decide ((Arr2_Int.mk r80.2.1.e0 r80.2.1.e1) = (Arr2_Int.mk 0 0)))))) (!(((r146.2.2 && (decide (r80.2.2 = 0))) && (decide (r80.1 = r146.1))) && (decide ((Arr2_Int.mk r80.2.1.e0 r80.2.1.e1) = (Arr2_Int.mk r146.2.1.e0 r146.2.1.e1))))) (wanted_f rfl rfl rfl rfl) (fun hg => (yl_and (gd_true hg) (fun hb => (gd_true (and_i hg hb))) rfl)) ?_
          refine T0_q (v := (.bool ((((r146.2.2 && (decide (r80.2.2 = 0))) && (decide (r80.1 = r146.1))) && (decide ((Arr2_Int.mk r80.2.1.e0 r80.2.1.e1) = (Arr2_Int.mk r146.2.1.e0 r146.2.1.e1)))) || ((((!r146.2.2) && (decide (r80.2.2 = 12))) && (decide (r80.1 = 0))) && (decide ((Arr2_Int.mk r80.2.1.e0 r80.2.1.e1) = (Arr2_Int.mk 0 0))))))) rfl (yl_or rfl rfl (fun hb => (gd_true (not_t hb)))) ?_
          refine T0_q (v := (.bool ((((r146.2.2 && (decide (r80.2.2 = 0))) && (decide (r80.1 = r146.1))) && (decide ((Arr2_Int.mk r80.2.1.e0 r80.2.1.e1) = (Arr2_Int.mk r146.2.1.e0 r146.2.1.e1)))) || ((((!r146.2.2) && (decide (r80.2.2 = 12))) && (decide (r80.1 = 0))) && (decide ((Arr2_Int.mk r80.2.1.e0 r80.2.1.e1) = (Arr2_Int.mk 0 0))))))) rfl (yl_assign rfl) ?_
          refine T0_nil ?_
          refine hK183 _ _ ?_
          refine WC_ret ?_
          replace h := some_out h
          subst h
          exact ⟨[(.bool ((((r146.2.2 && (decide (r80.2.2 = 0))) && (decide (r80.1 = r146.1))) && (decide ((Arr2_Int.mk r80.2.1.e0 r80.2.1.e1) = (Arr2_Int.mk r146.2.1.e0 r146.2.1.e1)))) || ((((!r146.2.2) && (decide (r80.2.2 = 12))) && (decide (r80.1 = 0))) && (decide ((Arr2_Int.mk r80.2.1.e0 r80.2.1.e1) = (Arr2_Int.mk 0 0))))))], ⟨rfl, trivial⟩, e182, rfl⟩

end Go.Gw
