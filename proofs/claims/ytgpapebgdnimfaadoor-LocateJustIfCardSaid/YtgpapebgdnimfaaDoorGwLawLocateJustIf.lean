/- What functions come to, printed by a program of this work. No condition. -/
import Derived.Test.YtgpapebgdnimfaaDoorGwFnC
import Derived.Test.YtgpapebgdnimfaaDoorGwFxWin
import Derived.Test.YtgpapebgdnimfaaDoorGwFxDist
set_option maxRecDepth 4096
set_option maxHeartbeats 1000000
set_option linter.unusedVariables false
namespace Go.Gw
open Go Go.Proofs
attribute [local irreducible] T0 TS TT TP Eff Stp WC Quiet gd
noncomputable def law04_Short_spec (p_t : LocateTrack) : Option Bool :=
  some ((decide ((p_t.Vanes.length : Int) ≤ 16)) || ((decide (40 < (p_t.Vanes.length : Int))) && (decide ((p_t.Vanes.length : Int) ≤ 42))))
theorem law04_Short_ok (L : List Value) (w : World) (hL : LtL L w) (cs_p_t : List Value) (p_t : LocateTrack) (h_p_t : Rep.rd L w cs_p_t p_t) (r : Bool) (h : law04_Short_spec p_t = some r) :
    CallsTo Tryd.prog 19 [(.agg cs_p_t.toArray)] w (fun v w' => Ext w w' ∧ (.bool r) = v) := by
  have e0 : Ext w w := Chg.refl _ _
  obtain ⟨v1, h2, rfl⟩ := h_p_t
  refine callsTo_of_WC (n := 19) (rs := [.tmp 2]) Tryd.func19 rfl rfl rfl rfl rfl ?_
  refine WC_seqK fun K4 hK4 => ?_
  refine WC_region ?_
  refine T0_e rfl (eff_boxC (cs := [v1, (.int .i64 p_t.Window), (.int .i64 p_t.Tooth), (.int .i64 p_t.PerVane), (.int .i64 p_t.First), (.int .i64 p_t.Modulus), (.int .i64 p_t.Slack), (.int .i64 p_t.Errors), (.bool p_t.Round)]) rfl rfl ?_)
  intro b5 wd6 hb7 he8 hB9
  have hbf10 := bfresh e0 hb7
  have e11 := e0.trans he8
  refine T0_q (v := (.bool false)) rfl (yl_assign rfl) ?_
  refine T0_nil ?_
  refine hK4 _ _ ?_
  refine WC_seqK fun K13 hK13 => ?_
  refine WC_region ?_
  refine T0_q (v := (.pointer (some ⟨b5, 0, none⟩))) rfl (yl_fa 0 Tryd.underlying24 rfl rfl ⟨0, sz22⟩ rfl rfl) ?_
  refine T0_q (v := v1) rfl (yl_load sc22 rfl (Box.at hB9)) ?_
  refine T0_q (v := (.int .i64 (p_t.Vanes.length : Int))) rfl (yl_lenR rfl Tryd.underlying22 h2 rfl) ?_
  refine T0_q (v := (.bool (decide ((p_t.Vanes.length : Int) ≤ 16)))) rfl (yl_leq rfl rfl) ?_
  refine T0_q (v := (.bool (decide ((p_t.Vanes.length : Int) ≤ 16)))) rfl (yl_move rfl) ?_
  refine T0_g (v := (.pointer (some ⟨b5, 0, none⟩))) (!(decide ((p_t.Vanes.length : Int) ≤ 16))) (wanted_f rfl rfl rfl rfl) (fun hg => (yl_fa 0 Tryd.underlying24 rfl rfl ⟨0, sz22⟩ rfl rfl)) ?_
  refine T0_g (v := v1) (!(decide ((p_t.Vanes.length : Int) ≤ 16))) (wanted_f rfl rfl rfl rfl) (fun hg => (yl_load sc22 (gd_true hg) (Box.at hB9))) ?_
  refine T0_g (v := (.int .i64 (p_t.Vanes.length : Int))) (!(decide ((p_t.Vanes.length : Int) ≤ 16))) (wanted_f rfl rfl rfl rfl) (fun hg => (yl_lenR rfl Tryd.underlying22 h2 (gd_true hg))) ?_
  refine T0_g (v := (.bool (decide (40 < (p_t.Vanes.length : Int))))) (!(decide ((p_t.Vanes.length : Int) ≤ 16))) (wanted_f rfl rfl rfl rfl) (fun hg => (yl_gtr (gd_true hg) rfl)) ?_
  refine T0_g (v := (.bool (decide (40 < (p_t.Vanes.length : Int))))) (!(decide ((p_t.Vanes.length : Int) ≤ 16))) (wanted_f rfl rfl rfl rfl) (fun hg => (yl_move (gd_true hg))) ?_
  refine T0_g (v := (.pointer (some ⟨b5, 0, none⟩))) ((!(decide ((p_t.Vanes.length : Int) ≤ 16))) && (decide (40 < (p_t.Vanes.length : Int)))) (wanted_gt rfl rfl rfl rfl) (fun hg => (yl_fa 0 Tryd.underlying24 rfl rfl ⟨0, sz22⟩ rfl rfl)) ?_
  refine T0_g (v := v1) ((!(decide ((p_t.Vanes.length : Int) ≤ 16))) && (decide (40 < (p_t.Vanes.length : Int)))) (wanted_gt rfl rfl rfl rfl) (fun hg => (yl_load sc22 (gd_true hg) (Box.at hB9))) ?_
  refine T0_g (v := (.int .i64 (p_t.Vanes.length : Int))) ((!(decide ((p_t.Vanes.length : Int) ≤ 16))) && (decide (40 < (p_t.Vanes.length : Int)))) (wanted_gt rfl rfl rfl rfl) (fun hg => (yl_lenR rfl Tryd.underlying22 h2 (gd_true hg))) ?_
  refine T0_g (v := (.bool (decide ((p_t.Vanes.length : Int) ≤ 42)))) ((!(decide ((p_t.Vanes.length : Int) ≤ 16))) && (decide (40 < (p_t.Vanes.length : Int)))) (wanted_gt rfl rfl rfl rfl) (fun hg => (yl_leq (gd_true hg) rfl)) ?_
  refine T0_g (v := (.bool ((decide (40 < (p_t.Vanes.length : Int))) && (decide ((p_t.Vanes.length : Int) ≤ 42))))) (!(decide ((p_t.Vanes.length : Int) ≤ 16))) (wanted_f rfl rfl rfl rfl) (fun hg => (yl_and (gd_true hg) (fun hb => (gd_true (and_i hg hb))) rfl)) ?_
  refine T0_q (v := (.bool ((decide ((p_t.Vanes.length : Int) ≤ 16)) || ((decide (40 < (p_t.Vanes.length : Int))) && (decide ((p_t.Vanes.length : Int) ≤ 42)))))) rfl (yl_or rfl rfl (fun hb => (gd_true (not_t hb)))) ?_
  refine T0_q (v := (.bool ((decide ((p_t.Vanes.length : Int) ≤ 16)) || ((decide (40 < (p_t.Vanes.length : Int))) && (decide ((p_t.Vanes.length : Int) ≤ 42)))))) rfl (yl_assign rfl) ?_
  refine T0_nil ?_
  refine hK13 _ _ ?_
  refine WC_ret ?_
  replace h := some_out h
  subst h
  exact ⟨[(.bool ((decide ((p_t.Vanes.length : Int) ≤ 16)) || ((decide (40 < (p_t.Vanes.length : Int))) && (decide ((p_t.Vanes.length : Int) ≤ 42)))))], ⟨rfl, trivial⟩, e11, rfl⟩

noncomputable def law04_LocateJustIf_s0 (p_Listappend : LocateTrack) (r183 : (List Int)) : ((List Int) × Int × Int) → Option (((List Int) × Int × Int) ⊕ ((List Int))) := fun (x396, x403, x405) =>
  (bif ((decide (x405 < p_Listappend.Window)) && (decide (0 < x403))) then (
    (Option.bind (idx x396 x405) fun el448 =>
    (Option.bind (idx r183 x405) fun el454 =>
    (bif (!decide (el448 = el454)) then (
      (Option.bind (idx r183 x405) fun el461 =>
      (Option.bind (idx x396 x405) fun el467 =>
      some (.inl ((x396.set (x405 : Int).toNat el461), w64 (x403 - 1), w64 (x405 + 1)))
      )
      )
    ) else (
      some (.inl (x396, x403, w64 (x405 + 1)))
    ))
    )
    )
  ) else (
    some (.inr x396)
  ))
noncomputable def law04_LocateJustIf_s1 (p_Listappend : LocateTrack) (p_String : guidewaylaw04_Spoilt) : ((List Int) × Int) → Option (((List Int) × Int) ⊕ ((List Int))) := fun (x791, x796) =>
  (bif (decide (x796 < (p_String.Wrong.length : Int))) then (
    (Option.bind (idx p_String.Wrong x796) fun el844 =>
    (Option.bind (base_Mod_spec el844 p_Listappend.Window) fun r850 =>
    (Option.bind (idx x791 r850) fun el856 =>
    (Option.bind (idx x791 r850) fun el862 =>
    some (.inl ((x791.set (r850 : Int).toNat (w64 (1 - el856))), w64 (x796 + 1)))
    )
    )
    )
    )
  ) else (
    some (.inr x791)
  ))
noncomputable def law04_LocateJustIf_s2 (p_Listappend : LocateTrack) (p_String : guidewaylaw04_Spoilt) : ((List Int) × Int) → Option (((List Int) × Int) ⊕ ((List Int))) := fun (x1050, x1055) =>
  (bif (decide (x1055 < (p_String.Unread.length : Int))) then (
    (Option.bind (idx p_String.Unread x1055) fun el1096 =>
    (Option.bind (base_Mod_spec el1096 p_Listappend.Window) fun r1102 =>
    (Option.bind (idx x1050 r1102) fun el1108 =>
    some (.inl ((x1050.set (r1102 : Int).toNat 2), w64 (x1055 + 1)))
    )
    )
    )
  ) else (
    some (.inr x1050)
  ))
noncomputable def law04_LocateJustIf_spec (p_Listappend : LocateTrack) (p_String : guidewaylaw04_Spoilt) : Option Bool :=
  (Option.bind (law04_awake_spec) fun r31 =>
  (bif (!r31) then (
    some false
  ) else (
    (Option.bind (law04_Short_spec p_Listappend) fun r42 =>
    (Option.bind (bif (!(!r42)) then ref04_TrackErr_spec p_Listappend else some default) fun r50 =>
    (bif ((!r42) || (!decide (r50 = 0))) then (
      some true
    ) else (
      (Option.bind (ref04_Copy_spec p_Listappend) fun r61 =>
      (Option.bind (locate_Always_spec r61) fun r74 =>
      (bif (!decide (r74.2 = 0)) then (
        some false
      ) else (
        (bif (!r74.1) then (
          (Option.bind (ref04_Copy_spec p_Listappend) fun r90 =>
          (Option.bind (locate_DistanceOf_spec r90) fun r104 =>
          (Option.bind (bif (!(!decide (r104.2.2 = 0))) then ref04_WindowErr_spec p_Listappend r104.2.1.e0 else some default) fun r145 =>
          (Option.bind (bif (!((!decide (r104.2.2 = 0)) || (!decide (r145 = 0)))) then ref04_WindowErr_spec p_Listappend r104.2.1.e1 else some default) fun r150 =>
          (bif ((((!decide (r104.2.2 = 0)) || (!decide (r145 = 0))) || (!decide (r150 = 0))) || (decide (r104.2.1.e0 = r104.2.1.e1))) then (
            some false
          ) else (
            (Option.bind (ref04_WindowAt_spec p_Listappend r104.2.1.e0) fun r163 =>
            (Option.bind (ref04_WindowAt_spec p_Listappend r104.2.1.e1) fun r183 =>
            (Option.bind (ref04_Differ_spec r163 r183) fun r194 =>
            (Option.bind (loop (law04_LocateJustIf_s0 p_Listappend r183) (r163, w64 (Int.tdiv (w64 (r194 + 1)) 2), 0)) fun (x420 : (List Int)) =>
            (Option.bind (ref04_Copy_spec p_Listappend) fun r482 =>
            (Option.bind (locate_Near_spec r482 x420) fun r496 =>
            (Option.bind (bif (decide (r496.2 = 0)) then base_Has_spec r496.1 r104.2.1.e0 else some default) fun r506 =>
            (Option.bind (bif ((decide (r496.2 = 0)) && r506) then base_Has_spec r496.1 r104.2.1.e1 else some default) fun r513 =>
            some (((decide (r496.2 = 0)) && r506) && r513)
            )
            )
            )
            )
            )
            )
            )
            )
          ))
          )
          )
          )
          )
        ) else (
          (Option.bind (ref04_Copy_spec p_Listappend) fun r522 =>
          (Option.bind (locate_MostUnread_spec r522) fun r536 =>
          (Option.bind (bif (!(!decide (r536.2 = 0))) then base_Within_spec r536.1 0 p_Listappend.Window else some default) fun r547 =>
          (bif ((!decide (r536.2 = 0)) || (!r547)) then (
            some false
          ) else (
            (Option.bind (ref04_ToothErr_spec p_Listappend p_String.Tooth) fun r561 =>
            (bif (((!decide (r561 = 0)) || (decide (p_Listappend.Errors < (p_String.Wrong.length : Int)))) || (decide (r536.1 < (p_String.Unread.length : Int)))) then (
              some true
            ) else (
              (Option.bind (quo p_String.Tooth p_Listappend.PerVane) fun q574 =>
              (Option.bind (ref04_WindowAt_spec p_Listappend q574) fun r577 =>
              (Option.bind (loop (law04_LocateJustIf_s1 p_Listappend p_String) (r577, 0)) fun (x814 : (List Int)) =>
              (Option.bind (loop (law04_LocateJustIf_s2 p_Listappend p_String) (x814, 0)) fun (x1072 : (List Int)) =>
              (Option.bind (ref04_Copy_spec p_Listappend) fun r1124 =>
              (Option.bind (locate_Told_spec r1124 x1072) fun r1134 =>
              some ((decide (r1134.2 = 0)) && (decide (r1134.1 = q574)))
              )
              )
              )
              )
              )
              )
            ))
            )
          ))
          )
          )
          )
        ))
      ))
      )
      )
    ))
    )
    )
  ))
  )
theorem law04_LocateJustIf_ok (L : List Value) (w : World) (hL : LtL L w) (hg0 : At w ⟨0, 0, none⟩ [.int .i64 0, .int .i64 1, .int .i64 3, .int .i64 2]) (cs_p_Listappend : List Value) (p_Listappend : LocateTrack) (h_p_Listappend : Rep.rd L w cs_p_Listappend p_Listappend) (cs_p_String : List Value) (p_String : guidewaylaw04_Spoilt) (h_p_String : Rep.rd L w cs_p_String p_String) (r : Bool) (h : law04_LocateJustIf_spec p_Listappend p_String = some r) :
    CallsTo Tryd.prog 16 [(.agg cs_p_Listappend.toArray), (.agg cs_p_String.toArray)] w (fun v w' => Ext w w' ∧ (.bool r) = v) := by
  have e0 : Ext w w := Chg.refl _ _
  obtain ⟨v1, h2, rfl⟩ := h_p_Listappend
  obtain ⟨v4, v6, h5, h7, rfl⟩ := h_p_String
  refine callsTo_of_WC (n := 234) (rs := [.tmp 4]) Tryd.func16 rfl rfl rfl rfl rfl ?_
  refine WC_seqK fun K10 hK10 => ?_
  refine WC_region ?_
  refine T0_e rfl (eff_boxC (cs := [v1, (.int .i64 p_Listappend.Window), (.int .i64 p_Listappend.Tooth), (.int .i64 p_Listappend.PerVane), (.int .i64 p_Listappend.First), (.int .i64 p_Listappend.Modulus), (.int .i64 p_Listappend.Slack), (.int .i64 p_Listappend.Errors), (.bool p_Listappend.Round)]) rfl rfl ?_)
  intro b11 wd12 hb13 he14 hB15
  have hbf16 := bfresh e0 hb13
  have e17 := e0.trans he14
  refine T0_e rfl (eff_boxC (cs := [(.int .i64 p_String.Tooth), v4, v6, (.int .i64 p_String.Off)]) rfl rfl ?_)
  intro b19 wd20 hb21 he22 hB23
  have hn24 : b19 ≠ b11 := box_ne hB15 hb21
  have hbf25 := bfresh e17 hb21
  have e26 := he14.trans he22
  have e27 := e17.trans he22
  refine T0_q (v := (.bool false)) rfl (yl_assign rfl) ?_
  refine T0_nil ?_
  refine hK10 _ _ ?_
  refine WC_seqK fun K29 hK29 => ?_
  refine WC_seqK fun K30 hK30 => ?_
  refine WC_region ?_
  obtain ⟨r31, hr32, h⟩ := bind_elim h
  refine T0_e rfl (eff_call Tryd.func18 nm18 rfl ev0 (law04_awake_ok [] _ (LtL.nil _) (hg0.ext e27)  r31 hr32) ?_)
  rintro _ wd33 ⟨he34, rfl⟩
  have e35 := e26.trans he34
  have e36 := he22.trans he34
  have e37 := e27.trans he34
  refine T0_q (v := (.bool (!r31))) rfl (yl_not rfl) ?_
  refine T0_nil ?_
  refine hK30 _ _ ?_
  refine WC_cond (b := (!r31)) rfl (fun hb38 => ?_) (fun hb38 => ?_)
  · replace h := cond_t hb38 h
    refine WC_seqK fun K39 hK39 => ?_
    refine WC_region ?_
    refine T0_q (v := (.bool false)) rfl (yl_assign rfl) ?_
    refine T0_nil ?_
    refine hK39 _ _ ?_
    refine WC_ret ?_
    replace h := some_out h
    subst h
    exact ⟨[(.bool false)], ⟨rfl, trivial⟩, e37, rfl⟩
  · replace h := cond_f hb38 h
    refine WC_skip ?_
    refine hK29 _ _ ?_
    refine WC_seqK fun K40 hK40 => ?_
    refine WC_seqK fun K41 hK41 => ?_
    refine WC_region ?_
    refine T0_q (v := (.agg (List.toArray [v1, (.int .i64 p_Listappend.Window), (.int .i64 p_Listappend.Tooth), (.int .i64 p_Listappend.PerVane), (.int .i64 p_Listappend.First), (.int .i64 p_Listappend.Modulus), (.int .i64 p_Listappend.Slack), (.int .i64 p_Listappend.Errors), (.bool p_Listappend.Round)]))) rfl (yl_loadA (cs := [v1, (.int .i64 p_Listappend.Window), (.int .i64 p_Listappend.Tooth), (.int .i64 p_Listappend.PerVane), (.int .i64 p_Listappend.First), (.int .i64 p_Listappend.Modulus), (.int .i64 p_Listappend.Slack), (.int .i64 p_Listappend.Errors), (.bool p_Listappend.Round)]) ag24 rfl (Box.at (hB15.ext e36))) ?_
    obtain ⟨r42, hr43, h⟩ := bind_elim h
    refine T0_e rfl (eff_call Tryd.func19 nm19 rfl (ev1 rfl) (law04_Short_ok [] _ (LtL.nil _) [v1, (.int .i64 p_Listappend.Window), (.int .i64 p_Listappend.Tooth), (.int .i64 p_Listappend.PerVane), (.int .i64 p_Listappend.First), (.int .i64 p_Listappend.Modulus), (.int .i64 p_Listappend.Slack), (.int .i64 p_Listappend.Errors), (.bool p_Listappend.Round)] p_Listappend ⟨v1, ((h2.ext e35).sub (fun _ h => by cases h)), rfl⟩ r42 hr43) ?_)
    rintro _ wd44 ⟨he45, rfl⟩
    have e46 := e35.trans he45
    have e47 := e36.trans he45
    have e48 := he34.trans he45
    have e49 := e37.trans he45
    refine T0_q (v := (.bool (!r42))) rfl (yl_not rfl) ?_
    refine T0_q (v := (.bool (!r42))) rfl (yl_move rfl) ?_
    refine T0_g (v := (.agg (List.toArray [v1, (.int .i64 p_Listappend.Window), (.int .i64 p_Listappend.Tooth), (.int .i64 p_Listappend.PerVane), (.int .i64 p_Listappend.First), (.int .i64 p_Listappend.Modulus), (.int .i64 p_Listappend.Slack), (.int .i64 p_Listappend.Errors), (.bool p_Listappend.Round)]))) (!(!r42)) (wanted_f rfl rfl rfl rfl) (fun hg => (yl_loadA (cs := [v1, (.int .i64 p_Listappend.Window), (.int .i64 p_Listappend.Tooth), (.int .i64 p_Listappend.PerVane), (.int .i64 p_Listappend.First), (.int .i64 p_Listappend.Modulus), (.int .i64 p_Listappend.Slack), (.int .i64 p_Listappend.Errors), (.bool p_Listappend.Round)]) ag24 rfl (Box.at (hB15.ext e47)))) ?_
    obtain ⟨r50, hr51, h⟩ := bind_elim h
    refine T0_ges (!(!r42)) (.int .i64 r50) (wanted_f rfl rfl rfl rfl) (fun hg => eff_call Tryd.func24 nm24 rfl (ev1 (gd_true hg)) (ref04_TrackErr_ok [] _ (LtL.nil _) [v1, (.int .i64 p_Listappend.Window), (.int .i64 p_Listappend.Tooth), (.int .i64 p_Listappend.PerVane), (.int .i64 p_Listappend.First), (.int .i64 p_Listappend.Modulus), (.int .i64 p_Listappend.Slack), (.int .i64 p_Listappend.Errors), (.bool p_Listappend.Round)] p_Listappend ⟨v1, ((h2.ext e46).sub (fun _ h => by cases h)), rfl⟩ r50 (cond_t hg hr51)) (by rintro _ wd52 ⟨he53, rfl⟩; exact ⟨rfl, he53⟩)) ?_
    intro wd52 he53
    have e54 := e46.trans he53
    have e55 := e47.trans he53
    have e56 := e48.trans he53
    have e57 := e49.trans he53
    refine T0_g (v := (.bool (!decide (r50 = 0)))) (!(!r42)) (wanted_f rfl rfl rfl rfl) (fun hg => (yl_neq (gd_true hg) rfl)) ?_
    refine T0_q (v := (.bool ((!r42) || (!decide (r50 = 0))))) rfl (yl_or rfl rfl (fun hb => (gd_true (not_t hb)))) ?_
    refine T0_nil ?_
    refine hK41 _ _ ?_
    refine WC_cond (b := ((!r42) || (!decide (r50 = 0)))) rfl (fun hb58 => ?_) (fun hb58 => ?_)
    · replace h := cond_t hb58 h
      refine WC_seqK fun K59 hK59 => ?_
      refine WC_region ?_
      refine T0_q (v := (.bool true)) rfl (yl_assign rfl) ?_
      refine T0_nil ?_
      refine hK59 _ _ ?_
      refine WC_ret ?_
      replace h := some_out h
      subst h
      exact ⟨[(.bool true)], ⟨rfl, trivial⟩, e57, rfl⟩
    · replace h := cond_f hb58 h
      refine WC_skip ?_
      refine hK40 _ _ ?_
      refine WC_seqK fun K60 hK60 => ?_
      refine WC_region ?_
      refine T0_q (v := (.agg (List.toArray [v1, (.int .i64 p_Listappend.Window), (.int .i64 p_Listappend.Tooth), (.int .i64 p_Listappend.PerVane), (.int .i64 p_Listappend.First), (.int .i64 p_Listappend.Modulus), (.int .i64 p_Listappend.Slack), (.int .i64 p_Listappend.Errors), (.bool p_Listappend.Round)]))) rfl (yl_loadA (cs := [v1, (.int .i64 p_Listappend.Window), (.int .i64 p_Listappend.Tooth), (.int .i64 p_Listappend.PerVane), (.int .i64 p_Listappend.First), (.int .i64 p_Listappend.Modulus), (.int .i64 p_Listappend.Slack), (.int .i64 p_Listappend.Errors), (.bool p_Listappend.Round)]) ag24 rfl (Box.at (hB15.ext e55))) ?_
      obtain ⟨r61, hr62, h⟩ := bind_elim h
      refine T0_e rfl (eff_call Tryd.func21 nm21 rfl (ev1 rfl) (ref04_Copy_ok L _ (hL.chg e57) [v1, (.int .i64 p_Listappend.Window), (.int .i64 p_Listappend.Tooth), (.int .i64 p_Listappend.PerVane), (.int .i64 p_Listappend.First), (.int .i64 p_Listappend.Modulus), (.int .i64 p_Listappend.Slack), (.int .i64 p_Listappend.Errors), (.bool p_Listappend.Round)] p_Listappend ⟨v1, (h2.ext e54), rfl⟩ r61 hr62) ?_)
      rintro _ wd63 ⟨he64, cs67, rfl, hrd68⟩
      have e69 := e54.trans he64
      have e70 := e55.trans he64
      have e71 := e56.trans he64
      have e72 := e57.trans he64
      obtain ⟨v65, h66, rfl⟩ := hrd68
      obtain ⟨r74, hr75, h⟩ := bind_elim h
      refine T0_e rfl (eff_call Tryd.func75 nm75 rfl (ev1 rfl) (locate_Always_ok [] _ (LtL.nil _) [v65, (.int .i64 r61.Window), (.int .i64 r61.Tooth), (.int .i64 r61.PerVane), (.int .i64 r61.First), (.int .i64 r61.Modulus), (.int .i64 r61.Slack), (.int .i64 r61.Errors), (.bool r61.Round)] r61 ⟨v65, (h66.sub (fun _ h => by cases h)), rfl⟩ r74 hr75) ?_)
      rintro _ wd76 ⟨he77, rfl⟩
      have e78 := e69.trans he77
      have e79 := e70.trans he77
      have e80 := e71.trans he77
      have e81 := e72.trans he77
      refine T0_q (v := (.tuple #[(.bool r74.1), (.int .i64 r74.2)])) rfl (yl_move rfl) ?_
      refine T0_q (v := (.bool r74.1)) rfl (yl_extract rfl rfl) ?_
      refine T0_q (v := (.int .i64 r74.2)) rfl (yl_extract rfl rfl) ?_
      refine T0_q (v := (.bool r74.1)) rfl (yl_assign rfl) ?_
      refine T0_q (v := (.int .i64 r74.2)) rfl (yl_assign rfl) ?_
      refine T0_nil ?_
      refine hK60 _ _ ?_
      refine WC_seqK fun K82 hK82 => ?_
      refine WC_seqK fun K83 hK83 => ?_
      refine WC_region ?_
      refine T0_q (v := (.int .i64 r74.2)) rfl (yl_move rfl) ?_
      refine T0_q (v := (.bool (!decide (r74.2 = 0)))) rfl (yl_neq rfl rfl) ?_
      refine T0_nil ?_
      refine hK83 _ _ ?_
      refine WC_cond (b := (!decide (r74.2 = 0))) rfl (fun hb84 => ?_) (fun hb84 => ?_)
      · replace h := cond_t hb84 h
        refine WC_seqK fun K85 hK85 => ?_
        refine WC_region ?_
        refine T0_q (v := (.bool false)) rfl (yl_assign rfl) ?_
        refine T0_nil ?_
        refine hK85 _ _ ?_
        refine WC_ret ?_
        replace h := some_out h
        subst h
        exact ⟨[(.bool false)], ⟨rfl, trivial⟩, e81, rfl⟩
      · replace h := cond_f hb84 h
        refine WC_skip ?_
        refine hK82 _ _ ?_
        refine WC_seqK fun K86 hK86 => ?_
        refine WC_seqK fun K87 hK87 => ?_
        refine WC_region ?_
        refine T0_q (v := (.bool r74.1)) rfl (yl_move rfl) ?_
        refine T0_q (v := (.bool (!r74.1))) rfl (yl_not rfl) ?_
        refine T0_nil ?_
        refine hK87 _ _ ?_
        refine WC_cond (b := (!r74.1)) rfl (fun hb88 => ?_) (fun hb88 => ?_)
        · replace h := cond_t hb88 h
          refine WC_seqK fun K89 hK89 => ?_
          refine WC_region ?_
          refine T0_q (v := (.agg (List.toArray [v1, (.int .i64 p_Listappend.Window), (.int .i64 p_Listappend.Tooth), (.int .i64 p_Listappend.PerVane), (.int .i64 p_Listappend.First), (.int .i64 p_Listappend.Modulus), (.int .i64 p_Listappend.Slack), (.int .i64 p_Listappend.Errors), (.bool p_Listappend.Round)]))) rfl (yl_loadA (cs := [v1, (.int .i64 p_Listappend.Window), (.int .i64 p_Listappend.Tooth), (.int .i64 p_Listappend.PerVane), (.int .i64 p_Listappend.First), (.int .i64 p_Listappend.Modulus), (.int .i64 p_Listappend.Slack), (.int .i64 p_Listappend.Errors), (.bool p_Listappend.Round)]) ag24 rfl (Box.at (hB15.ext e79))) ?_
          obtain ⟨r90, hr91, h⟩ := bind_elim h
          refine T0_e rfl (eff_call Tryd.func21 nm21 rfl (ev1 rfl) (ref04_Copy_ok L _ (hL.chg e81) [v1, (.int .i64 p_Listappend.Window), (.int .i64 p_Listappend.Tooth), (.int .i64 p_Listappend.PerVane), (.int .i64 p_Listappend.First), (.int .i64 p_Listappend.Modulus), (.int .i64 p_Listappend.Slack), (.int .i64 p_Listappend.Errors), (.bool p_Listappend.Round)] p_Listappend ⟨v1, (h2.ext e78), rfl⟩ r90 hr91) ?_)
          rintro _ wd92 ⟨he93, cs96, rfl, hrd97⟩
          have e98 := e78.trans he93
          have e99 := e79.trans he93
          have e100 := e80.trans he93
          have e101 := he77.trans he93
          have e102 := e81.trans he93
          obtain ⟨v94, h95, rfl⟩ := hrd97
          obtain ⟨r104, hr105, h⟩ := bind_elim h
          refine T0_e rfl (eff_call Tryd.func71 nm71 rfl (ev1 rfl) (locate_DistanceOf_ok [] _ (LtL.nil _) [v94, (.int .i64 r90.Window), (.int .i64 r90.Tooth), (.int .i64 r90.PerVane), (.int .i64 r90.First), (.int .i64 r90.Modulus), (.int .i64 r90.Slack), (.int .i64 r90.Errors), (.bool r90.Round)] r90 ⟨v94, (h95.sub (fun _ h => by cases h)), rfl⟩ r104 hr105) ?_)
          rintro _ wd106 ⟨he107, cs108, rfl, hrd109⟩
          have e110 := e98.trans he107
          have e111 := e99.trans he107
          have e112 := e100.trans he107
          have e113 := e101.trans he107
          have e114 := e102.trans he107
          have hrd109 : cs108 = [(.int .i64 r104.2.1.e0), (.int .i64 r104.2.1.e1)] := hrd109
          subst hrd109
          refine T0_q (v := (.tuple #[(.int .i64 r104.1), (.agg (List.toArray [(.int .i64 r104.2.1.e0), (.int .i64 r104.2.1.e1)])), (.int .i64 r104.2.2)])) rfl (yl_move rfl) ?_
          refine T0_q (v := (.int .i64 r104.1)) rfl (yl_extract rfl rfl) ?_
          refine T0_q (v := (.agg (List.toArray [(.int .i64 r104.2.1.e0), (.int .i64 r104.2.1.e1)]))) rfl (yl_extract rfl rfl) ?_
          refine T0_q (v := (.int .i64 r104.2.2)) rfl (yl_extract rfl rfl) ?_
          refine T0_e rfl (eff_allocZ zi115 ?_)
          intro b115 wd116 hb117 he118 hB119
          have hn120 : b115 ≠ b11 := box_ne (hB15.ext e111) hb117
          have hn121 : b115 ≠ b19 := box_ne (hB23.ext e112) hb117
          have hbf122 := bfresh e114 hb117
          have h123 := (h2.ext e110).step (add_box he118 hb117)
          have h124 := (h5.ext e110).step (add_box he118 hb117)
          have h125 := (h7.ext e110).step (add_box he118 hb117)
          have h126 := (h66.ext e113).step (add_box he118 hb117)
          have h127 := (h95.ext he107).step (add_box he118 hb117)
          have e128 := e111.trans he118
          have e129 := e112.trans he118
          have e130 := e114.trans he118
          refine T0_q (v := (.int .i64 r104.1)) rfl (yl_assign rfl) ?_
          refine T0_e rfl (eff_storeC (vs := [(.int .i64 r104.2.1.e0), (.int .i64 r104.2.1.e1)]) (cs' := [(.int .i64 r104.2.1.e0), (.int .i64 r104.2.1.e1)]) sz115 rfl rfl rfl rfl hB119 rfl (oc_cons rfl (oc_cons rfl oc_nil)) rfl ?_)
          intro wd132 hc133 hB134
          have h135 := h123.step (Stepp.chg_mem hc133 mem0)
          have h136 := h124.step (Stepp.chg_mem hc133 mem0)
          have h137 := h125.step (Stepp.chg_mem hc133 mem0)
          have h138 := (hB15.ext e128).chg hc133 (avoidb hn120)
          have h139 := (hB23.ext e129).chg hc133 (avoidb hn121)
          have h140 := h126.step (Stepp.chg_mem hc133 mem0)
          have h141 := h127.step (Stepp.chg_mem hc133 mem0)
          have e142 := chg_box e130 hc133 hbf122
          refine T0_q (v := (.int .i64 r104.2.2)) rfl (yl_assign rfl) ?_
          refine T0_nil ?_
          refine hK89 _ _ ?_
          refine WC_seqK fun K143 hK143 => ?_
          refine WC_seqK fun K144 hK144 => ?_
          refine WC_region ?_
          refine T0_q (v := (.int .i64 r104.2.2)) rfl (yl_move rfl) ?_
          refine T0_q (v := (.bool (!decide (r104.2.2 = 0)))) rfl (yl_neq rfl rfl) ?_
          refine T0_q (v := (.bool (!decide (r104.2.2 = 0)))) rfl (yl_move rfl) ?_
          refine T0_g (v := (.agg (List.toArray [v1, (.int .i64 p_Listappend.Window), (.int .i64 p_Listappend.Tooth), (.int .i64 p_Listappend.PerVane), (.int .i64 p_Listappend.First), (.int .i64 p_Listappend.Modulus), (.int .i64 p_Listappend.Slack), (.int .i64 p_Listappend.Errors), (.bool p_Listappend.Round)]))) (!(!decide (r104.2.2 = 0))) (wanted_f rfl rfl rfl rfl) (fun hg => (yl_loadA (cs := [v1, (.int .i64 p_Listappend.Window), (.int .i64 p_Listappend.Tooth), (.int .i64 p_Listappend.PerVane), (.int .i64 p_Listappend.First), (.int .i64 p_Listappend.Modulus), (.int .i64 p_Listappend.Slack), (.int .i64 p_Listappend.Errors), (.bool p_Listappend.Round)]) ag24 rfl (Box.at h138))) ?_
          refine T0_g (v := (.pointer (some ⟨b115, 0, none⟩))) (!(!decide (r104.2.2 = 0))) (wanted_f rfl rfl rfl rfl) (fun hg => (yl_ixC (i := 0) Tryd.underlying115 sz3 (by decide) (by decide) rfl rfl rfl)) ?_
          refine T0_g (v := (.int .i64 r104.2.1.e0)) (!(!decide (r104.2.2 = 0))) (wanted_f rfl rfl rfl rfl) (fun hg => (yl_load sc3 (gd_true hg) (Box.at hB134))) ?_
          obtain ⟨r145, hr146, h⟩ := bind_elim h
          refine T0_ges (!(!decide (r104.2.2 = 0))) (.int .i64 r145) (wanted_f rfl rfl rfl rfl) (fun hg => eff_call Tryd.func50 nm50 rfl (ev2 (gd_true hg) (gd_true hg)) (ref04_WindowErr_ok [] _ (LtL.nil _) [v1, (.int .i64 p_Listappend.Window), (.int .i64 p_Listappend.Tooth), (.int .i64 p_Listappend.PerVane), (.int .i64 p_Listappend.First), (.int .i64 p_Listappend.Modulus), (.int .i64 p_Listappend.Slack), (.int .i64 p_Listappend.Errors), (.bool p_Listappend.Round)] p_Listappend ⟨v1, (h135.sub (fun _ h => by cases h)), rfl⟩ r104.2.1.e0 r145 (cond_t hg hr146)) (by rintro _ wd147 ⟨he148, rfl⟩; exact ⟨rfl, he148⟩)) ?_
          intro wd147 he148
          have e149 := e142.trans he148
          refine T0_g (v := (.bool (!decide (r145 = 0)))) (!(!decide (r104.2.2 = 0))) (wanted_f rfl rfl rfl rfl) (fun hg => (yl_neq (gd_true hg) rfl)) ?_
          refine T0_q (v := (.bool ((!decide (r104.2.2 = 0)) || (!decide (r145 = 0))))) rfl (yl_or rfl rfl (fun hb => (gd_true (not_t hb)))) ?_
          refine T0_q (v := (.bool ((!decide (r104.2.2 = 0)) || (!decide (r145 = 0))))) rfl (yl_move rfl) ?_
          refine T0_g (v := (.agg (List.toArray [v1, (.int .i64 p_Listappend.Window), (.int .i64 p_Listappend.Tooth), (.int .i64 p_Listappend.PerVane), (.int .i64 p_Listappend.First), (.int .i64 p_Listappend.Modulus), (.int .i64 p_Listappend.Slack), (.int .i64 p_Listappend.Errors), (.bool p_Listappend.Round)]))) (!((!decide (r104.2.2 = 0)) || (!decide (r145 = 0)))) (wanted_f rfl rfl rfl rfl) (fun hg => (yl_loadA (cs := [v1, (.int .i64 p_Listappend.Window), (.int .i64 p_Listappend.Tooth), (.int .i64 p_Listappend.PerVane), (.int .i64 p_Listappend.First), (.int .i64 p_Listappend.Modulus), (.int .i64 p_Listappend.Slack), (.int .i64 p_Listappend.Errors), (.bool p_Listappend.Round)]) ag24 rfl (Box.at (h138.ext he148)))) ?_
          refine T0_g (v := (.pointer (some ⟨b115, 1, none⟩))) (!((!decide (r104.2.2 = 0)) || (!decide (r145 = 0)))) (wanted_f rfl rfl rfl rfl) (fun hg => (yl_ixC (i := 1) Tryd.underlying115 sz3 (by decide) (by decide) rfl rfl rfl)) ?_
          refine T0_g (v := (.int .i64 r104.2.1.e1)) (!((!decide (r104.2.2 = 0)) || (!decide (r145 = 0)))) (wanted_f rfl rfl rfl rfl) (fun hg => (yl_load sc3 (gd_true hg) (At.drop (Box.at (hB134.ext he148)) 1))) ?_
          obtain ⟨r150, hr151, h⟩ := bind_elim h
          refine T0_ges (!((!decide (r104.2.2 = 0)) || (!decide (r145 = 0)))) (.int .i64 r150) (wanted_f rfl rfl rfl rfl) (fun hg => eff_call Tryd.func50 nm50 rfl (ev2 (gd_true hg) (gd_true hg)) (ref04_WindowErr_ok [] _ (LtL.nil _) [v1, (.int .i64 p_Listappend.Window), (.int .i64 p_Listappend.Tooth), (.int .i64 p_Listappend.PerVane), (.int .i64 p_Listappend.First), (.int .i64 p_Listappend.Modulus), (.int .i64 p_Listappend.Slack), (.int .i64 p_Listappend.Errors), (.bool p_Listappend.Round)] p_Listappend ⟨v1, ((h135.ext he148).sub (fun _ h => by cases h)), rfl⟩ r104.2.1.e1 r150 (cond_t hg hr151)) (by rintro _ wd152 ⟨he153, rfl⟩; exact ⟨rfl, he153⟩)) ?_
          intro wd152 he153
          have e154 := he148.trans he153
          have e155 := e149.trans he153
          refine T0_g (v := (.bool (!decide (r150 = 0)))) (!((!decide (r104.2.2 = 0)) || (!decide (r145 = 0)))) (wanted_f rfl rfl rfl rfl) (fun hg => (yl_neq (gd_true hg) rfl)) ?_
          refine T0_q (v := (.bool (((!decide (r104.2.2 = 0)) || (!decide (r145 = 0))) || (!decide (r150 = 0))))) rfl (yl_or rfl rfl (fun hb => (gd_true (not_t hb)))) ?_
          refine T0_q (v := (.bool (((!decide (r104.2.2 = 0)) || (!decide (r145 = 0))) || (!decide (r150 = 0))))) rfl (yl_move rfl) ?_
          refine T0_g (v := (.pointer (some ⟨b115, 0, none⟩))) (!(((!decide (r104.2.2 = 0)) || (!decide (r145 = 0))) || (!decide (r150 = 0)))) (wanted_f rfl rfl rfl rfl) (fun hg => (yl_ixC (i := 0) Tryd.underlying115 sz3 (by decide) (by decide) rfl rfl rfl)) ?_
          refine T0_g (v := (.int .i64 r104.2.1.e0)) (!(((!decide (r104.2.2 = 0)) || (!decide (r145 = 0))) || (!decide (r150 = 0)))) (wanted_f rfl rfl rfl rfl) (fun hg => (yl_load sc3 (gd_true hg) (Box.at (hB134.ext e154)))) ?_
          refine T0_g (v := (.pointer (some ⟨b115, 1, none⟩))) (!(((!decide (r104.2.2 = 0)) || (!decide (r145 = 0))) || (!decide (r150 = 0)))) (wanted_f rfl rfl rfl rfl) (fun hg => (yl_ixC (i := 1) Tryd.underlying115 sz3 (by decide) (by decide) rfl rfl rfl)) ?_
          refine T0_g (v := (.int .i64 r104.2.1.e1)) (!(((!decide (r104.2.2 = 0)) || (!decide (r145 = 0))) || (!decide (r150 = 0)))) (wanted_f rfl rfl rfl rfl) (fun hg => (yl_load sc3 (gd_true hg) (At.drop (Box.at (hB134.ext e154)) 1))) ?_
          refine T0_g (v := (.bool (decide (r104.2.1.e0 = r104.2.1.e1)))) (!(((!decide (r104.2.2 = 0)) || (!decide (r145 = 0))) || (!decide (r150 = 0)))) (wanted_f rfl rfl rfl rfl) (fun hg => (yl_eql (gd_true hg) (gd_true hg))) ?_
          refine T0_q (v := (.bool ((((!decide (r104.2.2 = 0)) || (!decide (r145 = 0))) || (!decide (r150 = 0))) || (decide (r104.2.1.e0 = r104.2.1.e1))))) rfl (yl_or rfl rfl (fun hb => (gd_true (not_t hb)))) ?_
          refine T0_nil ?_
          refine hK144 _ _ ?_
          refine WC_cond (b := ((((!decide (r104.2.2 = 0)) || (!decide (r145 = 0))) || (!decide (r150 = 0))) || (decide (r104.2.1.e0 = r104.2.1.e1)))) rfl (fun hb156 => ?_) (fun hb156 => ?_)
          · replace h := cond_t hb156 h
            refine WC_seqK fun K157 hK157 => ?_
            refine WC_region ?_
            refine T0_q (v := (.bool false)) rfl (yl_assign rfl) ?_
            refine T0_nil ?_
            refine hK157 _ _ ?_
            refine WC_ret ?_
            replace h := some_out h
            subst h
            exact ⟨[(.bool false)], ⟨rfl, trivial⟩, e155, rfl⟩
          · replace h := cond_f hb156 h
            refine WC_skip ?_
            refine hK143 _ _ ?_
            refine WC_seqK fun K158 hK158 => ?_
            refine WC_plan mixed (.p 1 (.p 5 (.q 0 (.q 2 (.q 4 (.q 6 (.e 3 (.e 7 (.p 8 (.p 9 .done)))))))))) (by kernel_rfl) ?_
            intro wd159 he160
            have e161 := e154.trans he160
            have e162 := e155.trans he160
            refine TP_p (v := (.pointer (some ⟨b115, 0, none⟩))) rfl rfl (fun w' => (yl_ixC (i := 0) Tryd.underlying115 sz3 (by decide) (by decide) rfl rfl rfl)) ?_
            refine TP_p (v := (.pointer (some ⟨b115, 1, none⟩))) rfl rfl (fun w' => (yl_ixC (i := 1) Tryd.underlying115 sz3 (by decide) (by decide) rfl rfl rfl)) ?_
            refine TP_q (v := (.agg (List.toArray [v1, (.int .i64 p_Listappend.Window), (.int .i64 p_Listappend.Tooth), (.int .i64 p_Listappend.PerVane), (.int .i64 p_Listappend.First), (.int .i64 p_Listappend.Modulus), (.int .i64 p_Listappend.Slack), (.int .i64 p_Listappend.Errors), (.bool p_Listappend.Round)]))) rfl rfl (fun w' hS => (yl_loadA (cs := [v1, (.int .i64 p_Listappend.Window), (.int .i64 p_Listappend.Tooth), (.int .i64 p_Listappend.PerVane), (.int .i64 p_Listappend.First), (.int .i64 p_Listappend.Modulus), (.int .i64 p_Listappend.Slack), (.int .i64 p_Listappend.Errors), (.bool p_Listappend.Round)]) ag24 rfl (Box.at (h138.ext ((e161).trans hS))))) ?_
            refine TP_q (v := (.int .i64 r104.2.1.e0)) rfl rfl (fun w' hS => (yl_load sc3 rfl (Box.at (hB134.ext ((e161).trans hS))))) ?_
            refine TP_q (v := (.agg (List.toArray [v1, (.int .i64 p_Listappend.Window), (.int .i64 p_Listappend.Tooth), (.int .i64 p_Listappend.PerVane), (.int .i64 p_Listappend.First), (.int .i64 p_Listappend.Modulus), (.int .i64 p_Listappend.Slack), (.int .i64 p_Listappend.Errors), (.bool p_Listappend.Round)]))) rfl rfl (fun w' hS => (yl_loadA (cs := [v1, (.int .i64 p_Listappend.Window), (.int .i64 p_Listappend.Tooth), (.int .i64 p_Listappend.PerVane), (.int .i64 p_Listappend.First), (.int .i64 p_Listappend.Modulus), (.int .i64 p_Listappend.Slack), (.int .i64 p_Listappend.Errors), (.bool p_Listappend.Round)]) ag24 rfl (Box.at (h138.ext ((e161).trans hS))))) ?_
            refine TP_q (v := (.int .i64 r104.2.1.e1)) rfl rfl (fun w' hS => (yl_load sc3 rfl (At.drop (Box.at (hB134.ext ((e161).trans hS))) 1))) ?_
            obtain ⟨r163, hr164, h⟩ := bind_elim h
            refine TP_e rfl rfl (eff_call Tryd.func51 nm51 rfl (ev2 rfl rfl) (ref04_WindowAt_own ((.pointer (some ⟨b115, 0, none⟩)) :: L) _ (ltl_box (hL.chg e162) (hB134.ext e161)) [v1, (.int .i64 p_Listappend.Window), (.int .i64 p_Listappend.Tooth), (.int .i64 p_Listappend.PerVane), (.int .i64 p_Listappend.First), (.int .i64 p_Listappend.Modulus), (.int .i64 p_Listappend.Slack), (.int .i64 p_Listappend.Errors), (.bool p_Listappend.Round)] p_Listappend ⟨v1, (h135.ext e161), rfl⟩ r104.2.1.e0 r163 hr164) ?_)
            rintro _ wd165 ⟨he166, v167, rfl, hf169, h168⟩
            have h170 := (h135.ext e161).step (Stepp.add v167 he166 hf169)
            have h171 := (h136.ext e161).step (Stepp.add v167 he166 hf169)
            have h172 := (h137.ext e161).step (Stepp.add v167 he166 hf169)
            have h173 := (h140.ext e161).step (Stepp.add v167 he166 hf169)
            have h174 := (h141.ext e161).step (Stepp.add v167 he166 hf169)
            have hn176 : blk v167 ≠ some b11 := fun e => by have := hf169 _ e; have := (h138.ext e161).lt; omega
            have hn177 : blk v167 ≠ some b19 := fun e => by have := hf169 _ e; have := (h139.ext e161).lt; omega
            have hn178 : blk v167 ≠ some b115 := fun e => by have := hf169 _ e; have := (hB134.ext e161).lt; omega
            have hf179 : ∀ b, blk v167 = some b → w.heap.size ≤ b := fun b hb => Nat.le_trans e162.size (hf169 b hb)
            have e180 := e161.trans he166
            have e181 := e162.trans he166
            refine ⟨he166, ?_⟩
            obtain ⟨r183, hr184, h⟩ := bind_elim h
            refine TP_e rfl rfl (eff_call Tryd.func51 nm51 rfl (ev2 rfl rfl) (ref04_WindowAt_ok (v167 :: (.pointer (some ⟨b115, 0, none⟩)) :: L) _ (ltl_own (ltl_box (hL.chg e181) (hB134.ext e180)) h168) [v1, (.int .i64 p_Listappend.Window), (.int .i64 p_Listappend.Tooth), (.int .i64 p_Listappend.PerVane), (.int .i64 p_Listappend.First), (.int .i64 p_Listappend.Modulus), (.int .i64 p_Listappend.Slack), (.int .i64 p_Listappend.Errors), (.bool p_Listappend.Round)] p_Listappend ⟨v1, h170, rfl⟩ r104.2.1.e1 r183 hr184) ?_)
            rintro _ wd185 ⟨he186, v187, rfl, h188⟩
            have e189 := e180.trans he186
            have e190 := he166.trans he186
            have e191 := e181.trans he186
            refine ⟨e190, ?_⟩
            refine TP_p (v := v167) rfl rfl (fun w' => (yl_assign rfl)) ?_
            refine TP_p (v := v187) rfl rfl (fun w' => (yl_assign rfl)) ?_
            refine TP_done ?_
            refine hK158 _ _ ?_
            refine WC_seqK fun K193 hK193 => ?_
            refine WC_region ?_
            refine T0_q (v := v167) rfl (yl_move rfl) ?_
            refine T0_q (v := v187) rfl (yl_move rfl) ?_
            obtain ⟨r194, hr195, h⟩ := bind_elim h
            refine T0_e rfl (eff_call Tryd.func73 nm73 rfl (ev2 rfl rfl) (ref04_Differ_ok [] _ (LtL.nil _) v167 r163 ((h168.ext he186).rdL (fun _ h => by cases h) (LtL.nil w) hf179) v187 r183 (h188.sub (fun _ h => by cases h)) r194 hr195) ?_)
            rintro _ wd196 ⟨he197, rfl⟩
            have e198 := e189.trans he197
            have e199 := he186.trans he197
            have e200 := e191.trans he197
            refine T0_q (v := (.int .i64 (w64 (r194 + 1)))) rfl (yl_add rfl rfl) ?_
            refine T0_q (v := (.int .i64 (w64 (Int.tdiv (w64 (r194 + 1)) 2)))) rfl (yl_quo (by decide) rfl rfl) ?_
            refine T0_q (v := (.int .i64 (w64 (Int.tdiv (w64 (r194 + 1)) 2)))) rfl (yl_assign rfl) ?_
            refine T0_nil ?_
            refine hK193 _ _ ?_
            refine WC_seqK fun K201 hK201 => ?_
            refine WC_seqK fun K202 hK202 => ?_
            refine WC_region ?_
            refine T0_q (v := (.int .i64 0)) rfl (yl_assign rfl) ?_
            refine T0_nil ?_
            refine hK202 _ _ ?_
            obtain ⟨o432, hl433, hn434⟩ := bind_elim h
            refine WC_post (fun (ρ : Env) (wd414 : World) => ∃ (x420 : (List Int)) (v419 : Value), x420 = o432 ∧ ρ 2 = (.pointer (some ⟨b11, 0, none⟩)) ∧ ρ 8 = (.pointer (some ⟨b115, 0, none⟩)) ∧ ρ 10 = v419 ∧ SlRd (v419 :: (.pointer (some ⟨b115, 0, none⟩)) :: L) wd414 v1 p_Listappend.Vanes ∧ Box wd414 b11 [v1, (.int .i64 p_Listappend.Window), (.int .i64 p_Listappend.Tooth), (.int .i64 p_Listappend.PerVane), (.int .i64 p_Listappend.First), (.int .i64 p_Listappend.Modulus), (.int .i64 p_Listappend.Slack), (.int .i64 p_Listappend.Errors), (.bool p_Listappend.Round)] 24 ∧ Box wd414 b115 [(.int .i64 r104.2.1.e0), (.int .i64 r104.2.1.e1)] 115 ∧ Own 3 (v419 :: (.pointer (some ⟨b115, 0, none⟩)) :: L) wd414 v419 x420 ∧ (∀ b, blk v419 = some b → w.heap.size ≤ b) ∧ (blk v419 ≠ some b11) ∧ (blk v419 ≠ some b115) ∧ Ext w wd414) ?_ ?_
            · intro K438 hK438
              refine WC_block ?_
              refine WC_loopk (fun sv ρ wd390 => ∃ (x396 : (List Int)) (x403 : Int) (x405 : Int) (v395 : Value), (x396, x403, x405) = sv ∧ ρ 2 = (.pointer (some ⟨b11, 0, none⟩)) ∧ ρ 8 = (.pointer (some ⟨b115, 0, none⟩)) ∧ ρ 10 = v395 ∧ ρ 11 = v187 ∧ ρ 12 = (.int .i64 x403) ∧ ρ 13 = (.int .i64 x405) ∧ SlRd (v395 :: (.pointer (some ⟨b115, 0, none⟩)) :: L) wd390 v187 r183 ∧ SlRd (v395 :: (.pointer (some ⟨b115, 0, none⟩)) :: L) wd390 v1 p_Listappend.Vanes ∧ Box wd390 b11 [v1, (.int .i64 p_Listappend.Window), (.int .i64 p_Listappend.Tooth), (.int .i64 p_Listappend.PerVane), (.int .i64 p_Listappend.First), (.int .i64 p_Listappend.Modulus), (.int .i64 p_Listappend.Slack), (.int .i64 p_Listappend.Errors), (.bool p_Listappend.Round)] 24 ∧ Box wd390 b115 [(.int .i64 r104.2.1.e0), (.int .i64 r104.2.1.e1)] 115 ∧ Own 3 (v395 :: (.pointer (some ⟨b115, 0, none⟩)) :: L) wd390 v395 x396 ∧ (∀ b, blk v395 = some b → w.heap.size ≤ b) ∧ (blk v395 ≠ some b11) ∧ (blk v395 ≠ some b115) ∧ Ext w wd390) hl433 ⟨r163, w64 (Int.tdiv (w64 (r194 + 1)) 2), 0, v167, rfl, rfl, rfl, rfl, rfl, rfl, rfl, (h188.ext he197), (h170.ext e199), (h138.ext e198), (hB134.ext e198), (h168.ext e199), hf179, hn176, hn178, e200⟩ ?_
              rintro _ ρ wd390 ⟨x396, x403, x405, v395, rfl, hs392, hs393, hs400, hs402, hs404, hs406, h401, h407, hB409, hB411, h398, hf399, hn412, hn413, e391⟩ x435 h hx436 K437 hK437
              refine WC_seqK fun K440 hK440 => ?_
              refine WC_seqK fun K441 hK441 => ?_
              refine WC_region ?_
              refine T0_q (v := (.int .i64 x405)) rfl (yl_move hs406) ?_
              refine T0_q (v := (.pointer (some ⟨b11, 1, none⟩))) rfl (yl_fa 1 Tryd.underlying24 rfl rfl ⟨0, sz3⟩ hs392 rfl) ?_
              refine T0_q (v := (.int .i64 p_Listappend.Window)) rfl (yl_load sc3 rfl (At.drop (Box.at hB409) 1)) ?_
              refine T0_q (v := (.bool (decide (x405 < p_Listappend.Window)))) rfl (yl_lss rfl rfl) ?_
              refine T0_q (v := (.bool (decide (x405 < p_Listappend.Window)))) rfl (yl_move rfl) ?_
              refine T0_g (v := (.int .i64 x403)) (decide (x405 < p_Listappend.Window)) (wanted_t rfl rfl rfl rfl) (fun hg => (yl_move hs404)) ?_
              refine T0_g (v := (.bool (decide (0 < x403)))) (decide (x405 < p_Listappend.Window)) (wanted_t rfl rfl rfl rfl) (fun hg => (yl_gtr (gd_true hg) rfl)) ?_
              refine T0_q (v := (.bool ((decide (x405 < p_Listappend.Window)) && (decide (0 < x403))))) rfl (yl_and rfl (fun hb => (gd_true hb)) rfl) ?_
              refine T0_nil ?_
              refine hK441 _ _ ?_
              refine WC_cond (b := ((decide (x405 < p_Listappend.Window)) && (decide (0 < x403)))) rfl (fun hb442 => ?_) (fun hb442 => ?_)
              · replace h := cond_t hb442 h
                refine WC_skip ?_
                refine hK440 _ _ ?_
                refine WC_seqK fun K443 hK443 => ?_
                refine WC_block ?_
                refine WC_seqK fun K444 hK444 => ?_
                refine WC_plan mixed (.p 0 (.p 1 (.p 2 (.p 4 (.p 5 (.p 6 (.q 3 (.q 7 (.p 8 .done))))))))) (by kernel_rfl) ?_
                intro wd445 he446
                have e447 := e391.trans he446
                refine TP_p (v := v395) rfl rfl (fun w' => (yl_move hs400)) ?_
                refine TP_p (v := (.int .i64 x405)) rfl rfl (fun w' => (yl_move hs406)) ?_
                obtain ⟨el448, hel449, h⟩ := bind_elim h
                obtain ⟨cs450, hat451, hrd452⟩ := Own.at h398 hel449
                have hrd452 : cs450 = [(.int .i64 el448)] := hrd452
                subst hrd452
                refine TP_p (v := (.pointer (some (elemAddr v395 (x405 : Int).toNat 1)))) rfl rfl (fun w' => (yl_indexAddrO Tryd.underlying22 sz3 h398 hel449 rfl rfl)) ?_
                refine TP_p (v := v187) rfl rfl (fun w' => (yl_move hs402)) ?_
                refine TP_p (v := (.int .i64 x405)) rfl rfl (fun w' => (yl_move hs406)) ?_
                obtain ⟨el454, hel455, h⟩ := bind_elim h
                obtain ⟨cs456, hat457, hrd458⟩ := SlRd.at h401 hel455
                have hrd458 : cs456 = [(.int .i64 el454)] := hrd458
                subst hrd458
                refine TP_p (v := (.pointer (some (elemAddr v187 (x405 : Int).toNat 1)))) rfl rfl (fun w' => (yl_indexAddr Tryd.underlying22 sz3 h401 hel455 rfl rfl)) ?_
                refine TP_q (v := (.int .i64 el448)) rfl rfl (fun w' hS => (yl_load sc3 rfl (hat451.ext' ((he446).trans hS)))) ?_
                refine TP_q (v := (.int .i64 el454)) rfl rfl (fun w' hS => (yl_load sc3 rfl (hat457.ext' ((he446).trans hS)))) ?_
                refine TP_p (v := (.bool (!decide (el448 = el454)))) rfl rfl (fun w' => (yl_neq rfl rfl)) ?_
                refine TP_done ?_
                refine hK444 _ _ ?_
                refine WC_cond (b := (!decide (el448 = el454))) rfl (fun hb460 => ?_) (fun hb460 => ?_)
                · replace h := cond_t hb460 h
                  refine WC_region ?_
                  refine T0_q (v := v395) rfl (yl_move hs400) ?_
                  refine T0_q (v := (.int .i64 x405)) rfl (yl_move hs406) ?_
                  refine T0_q (v := v187) rfl (yl_move hs402) ?_
                  refine T0_q (v := (.int .i64 x405)) rfl (yl_move hs406) ?_
                  obtain ⟨el461, hel462, h⟩ := bind_elim h
                  obtain ⟨cs463, hat464, hrd465⟩ := SlRd.at h401 hel462
                  have hrd465 : cs463 = [(.int .i64 el461)] := hrd465
                  subst hrd465
                  refine T0_q (v := (.pointer (some (elemAddr v187 (x405 : Int).toNat 1)))) rfl (yl_indexAddr Tryd.underlying22 sz3 h401 hel462 rfl rfl) ?_
                  refine T0_q (v := (.int .i64 el461)) rfl (yl_load sc3 rfl (hat464.ext' he446)) ?_
                  refine T0_q (v := (.int .i64 x403)) rfl (yl_move hs404) ?_
                  refine T0_q (v := (.int .i64 (w64 (x403 - 1)))) rfl (yl_sub rfl rfl) ?_
                  obtain ⟨el467, hel468, h⟩ := bind_elim h
                  obtain ⟨cs469, hat470, hrd471⟩ := Own.at h398 hel468
                  have hrd471 : cs469 = [(.int .i64 el467)] := hrd471
                  subst hrd471
                  refine T0_q (v := (.pointer (some (elemAddr v395 (x405 : Int).toNat 1)))) rfl (yl_indexAddrO Tryd.underlying22 sz3 h398 hel468 rfl rfl) ?_
                  refine T0_e rfl (eff_storeOC (vs := [(.int .i64 el461)]) (off := 0) (y' := el461) sz3 rfl rfl (h398.ext he446) mem0 hel468 rfl rfl rfl (oc_cons rfl oc_nil) (fun w' cs hcs => by have hcs : cs = [(.int .i64 el467)] := hcs; subst hcs; rfl) ?_)
                  intro wd473 hc474 hB475
                  have h476 := (h401.ext he446).step (Stepp.chg_mem hc474 mem0)
                  have h477 := (h407.ext he446).step (Stepp.chg_mem hc474 mem0)
                  have h478 := (hB409.ext he446).chg hc474 (avoid1 hn412)
                  have h479 := (hB411.ext he446).chg hc474 (avoid1 hn413)
                  have e480 := chg_own e447 hc474 hf399
                  refine T0_q (v := (.int .i64 (w64 (x403 - 1)))) rfl (yl_assign rfl) ?_
                  refine T0_nil ?_
                  refine hK443 _ _ ?_
                  refine WC_region ?_
                  refine T0_q (v := (.int .i64 x405)) rfl (yl_move hs406) ?_
                  refine T0_q (v := (.int .i64 (w64 (x405 + 1)))) rfl (yl_add rfl rfl) ?_
                  refine T0_q (v := (.int .i64 (w64 (x405 + 1)))) rfl (yl_assign rfl) ?_
                  refine T0_nil ?_
                  replace h := some_out h
                  subst h
                  refine hK437 _ _ _ rfl ?_
                  exact ⟨(x396.set (x405 : Int).toNat el461), w64 (x403 - 1), w64 (x405 + 1), v395, rfl, hs392, hs393, hs400, hs402, rfl, rfl, h476, h477, h478, h479, hB475, hf399, hn412, hn413, e480⟩
                · replace h := cond_f hb460 h
                  refine WC_skip ?_
                  refine hK443 _ _ ?_
                  refine WC_region ?_
                  refine T0_q (v := (.int .i64 x405)) rfl (yl_move hs406) ?_
                  refine T0_q (v := (.int .i64 (w64 (x405 + 1)))) rfl (yl_add rfl rfl) ?_
                  refine T0_q (v := (.int .i64 (w64 (x405 + 1)))) rfl (yl_assign rfl) ?_
                  refine T0_nil ?_
                  replace h := some_out h
                  subst h
                  refine hK437 _ _ _ rfl ?_
                  exact ⟨x396, x403, w64 (x405 + 1), v395, rfl, hs392, hs393, hs400, hs402, hs404, rfl, (h401.ext he446), (h407.ext he446), (hB409.ext he446), (hB411.ext he446), (h398.ext he446), hf399, hn412, hn413, e447⟩
              · replace h := cond_f hb442 h
                refine WC_exit ?_
                replace h := some_out h
                subst h
                have ho := hx436 _ rfl
                subst ho
                refine hK438 _ _ ?_
                exact ⟨x396, v395, rfl, hs392, hs393, hs400, h407, hB409, hB411, h398, hf399, hn412, hn413, e391⟩
            · rintro ρ wd414 ⟨x420, v419, rfl, hs416, hs417, hs424, h425, hB427, hB429, h422, hf423, hn430, hn431, e415⟩
              replace h := hn434
              refine hK201 _ _ ?_
              refine WC_seqK fun K481 hK481 => ?_
              refine WC_region ?_
              refine T0_q (v := (.agg (List.toArray [v1, (.int .i64 p_Listappend.Window), (.int .i64 p_Listappend.Tooth), (.int .i64 p_Listappend.PerVane), (.int .i64 p_Listappend.First), (.int .i64 p_Listappend.Modulus), (.int .i64 p_Listappend.Slack), (.int .i64 p_Listappend.Errors), (.bool p_Listappend.Round)]))) rfl (yl_loadA (cs := [v1, (.int .i64 p_Listappend.Window), (.int .i64 p_Listappend.Tooth), (.int .i64 p_Listappend.PerVane), (.int .i64 p_Listappend.First), (.int .i64 p_Listappend.Modulus), (.int .i64 p_Listappend.Slack), (.int .i64 p_Listappend.Errors), (.bool p_Listappend.Round)]) ag24 hs416 (Box.at hB427)) ?_
              obtain ⟨r482, hr483, h⟩ := bind_elim h
              refine T0_e rfl (eff_call Tryd.func21 nm21 rfl (ev1 rfl) (ref04_Copy_ok (v419 :: (.pointer (some ⟨b115, 0, none⟩)) :: L) _ (ltl_own (ltl_box (hL.chg e415) hB429) h422) [v1, (.int .i64 p_Listappend.Window), (.int .i64 p_Listappend.Tooth), (.int .i64 p_Listappend.PerVane), (.int .i64 p_Listappend.First), (.int .i64 p_Listappend.Modulus), (.int .i64 p_Listappend.Slack), (.int .i64 p_Listappend.Errors), (.bool p_Listappend.Round)] p_Listappend ⟨v1, h425, rfl⟩ r482 hr483) ?_)
              rintro _ wd484 ⟨he485, cs488, rfl, hrd489⟩
              have e490 := e415.trans he485
              obtain ⟨v486, h487, rfl⟩ := hrd489
              refine T0_q (v := v419) rfl (yl_move hs424) ?_
              have h492 := ((h422.ext he485).sub (sub_cons (memS mem0) (sub_skip (sub_skip (sub_refl _))))).rd (fun b hb => (Avoids.cons (fun x hx e => by have := hL x hx b e; have := hf423 b hb; omega) (fun e => hn431 (hb.trans e.symm))))
              have h493 := (h425.ext he485).sub (sub_cons (memS mem0) (sub_skip (sub_skip (sub_refl _))))
              have h494 := h487.sub (sub_cons (memS mem0) (sub_skip (sub_skip (sub_refl _))))
              obtain ⟨r496, hr497, h⟩ := bind_elim h
              refine T0_e rfl (eff_call Tryd.func29 nm29 rfl (ev2 rfl rfl) (locate_Near_ok ((.pointer (some ⟨b115, 0, none⟩)) :: L) _ (ltl_box (hL.chg e490) (hB429.ext he485)) [v486, (.int .i64 r482.Window), (.int .i64 r482.Tooth), (.int .i64 r482.PerVane), (.int .i64 r482.First), (.int .i64 r482.Modulus), (.int .i64 r482.Slack), (.int .i64 r482.Errors), (.bool r482.Round)] r482 ⟨v486, h494, rfl⟩ v419 x420 h492 r496 hr497) ?_)
              rintro _ wd498 ⟨he499, v500, rfl, h501⟩
              have e502 := he485.trans he499
              have e503 := e490.trans he499
              refine T0_q (v := (.tuple #[v500, (.int .i64 r496.2)])) rfl (yl_move rfl) ?_
              refine T0_q (v := v500) rfl (yl_extract rfl rfl) ?_
              refine T0_q (v := (.int .i64 r496.2)) rfl (yl_extract rfl rfl) ?_
              refine T0_q (v := v500) rfl (yl_assign rfl) ?_
              refine T0_q (v := (.int .i64 r496.2)) rfl (yl_assign rfl) ?_
              refine T0_nil ?_
              refine hK481 _ _ ?_
              refine WC_seqK fun K505 hK505 => ?_
              refine WC_region ?_
              refine T0_q (v := (.int .i64 r496.2)) rfl (yl_move rfl) ?_
              refine T0_q (v := (.bool (decide (r496.2 = 0)))) rfl (yl_eql rfl rfl) ?_
              refine T0_q (v := (.bool (decide (r496.2 = 0)))) rfl (yl_move rfl) ?_
              refine T0_g (v := v500) (decide (r496.2 = 0)) (wanted_t rfl rfl rfl rfl) (fun hg => (yl_move rfl)) ?_
              refine T0_g (v := (.pointer (some ⟨b115, 0, none⟩))) (decide (r496.2 = 0)) (wanted_t rfl rfl rfl rfl) (fun hg => (yl_ixC (i := 0) Tryd.underlying115 sz3 (by decide) (by decide) hs417 rfl rfl)) ?_
              refine T0_g (v := (.int .i64 r104.2.1.e0)) (decide (r496.2 = 0)) (wanted_t rfl rfl rfl rfl) (fun hg => (yl_load sc3 (gd_true hg) (Box.at (hB429.ext e502)))) ?_
              obtain ⟨r506, hr507, h⟩ := bind_elim h
              refine T0_ges (decide (r496.2 = 0)) (.bool r506) (wanted_t rfl rfl rfl rfl) (fun hg => eff_call Tryd.func31 nm31 rfl (ev2 (gd_true hg) (gd_true hg)) (base_Has_ok [] _ (LtL.nil _) v500 r496.1 (h501.sub (fun _ h => by cases h)) r104.2.1.e0 r506 (cond_t hg hr507)) (by rintro _ wd508 ⟨he509, rfl⟩; exact ⟨rfl, he509⟩)) ?_
              intro wd508 he509
              have e510 := e502.trans he509
              have e511 := he499.trans he509
              have e512 := e503.trans he509
              refine T0_q (v := (.bool ((decide (r496.2 = 0)) && r506))) rfl (yl_and rfl (fun hb => (gd_true hb)) rfl) ?_
              refine T0_q (v := (.bool ((decide (r496.2 = 0)) && r506))) rfl (yl_move rfl) ?_
              refine T0_g (v := v500) ((decide (r496.2 = 0)) && r506) (wanted_t rfl rfl rfl rfl) (fun hg => (yl_move rfl)) ?_
              refine T0_g (v := (.pointer (some ⟨b115, 1, none⟩))) ((decide (r496.2 = 0)) && r506) (wanted_t rfl rfl rfl rfl) (fun hg => (yl_ixC (i := 1) Tryd.underlying115 sz3 (by decide) (by decide) hs417 rfl rfl)) ?_
              refine T0_g (v := (.int .i64 r104.2.1.e1)) ((decide (r496.2 = 0)) && r506) (wanted_t rfl rfl rfl rfl) (fun hg => (yl_load sc3 (gd_true hg) (At.drop (Box.at (hB429.ext e510)) 1))) ?_
              obtain ⟨r513, hr514, h⟩ := bind_elim h
              refine T0_ges ((decide (r496.2 = 0)) && r506) (.bool r513) (wanted_t rfl rfl rfl rfl) (fun hg => eff_call Tryd.func31 nm31 rfl (ev2 (gd_true hg) (gd_true hg)) (base_Has_ok [] _ (LtL.nil _) v500 r496.1 ((h501.ext he509).sub (fun _ h => by cases h)) r104.2.1.e1 r513 (cond_t hg hr514)) (by rintro _ wd515 ⟨he516, rfl⟩; exact ⟨rfl, he516⟩)) ?_
              intro wd515 he516
              have e517 := e510.trans he516
              have e518 := e511.trans he516
              have e519 := he509.trans he516
              have e520 := e512.trans he516
              refine T0_q (v := (.bool (((decide (r496.2 = 0)) && r506) && r513))) rfl (yl_and rfl (fun hb => (gd_true hb)) rfl) ?_
              refine T0_q (v := (.bool (((decide (r496.2 = 0)) && r506) && r513))) rfl (yl_assign rfl) ?_
              refine T0_nil ?_
              refine hK505 _ _ ?_
              refine WC_ret ?_
              replace h := some_out h
              subst h
              exact ⟨[(.bool (((decide (r496.2 = 0)) && r506) && r513))], ⟨rfl, trivial⟩, e520, rfl⟩
        · replace h := cond_f hb88 h
          refine WC_skip ?_
          refine hK86 _ _ ?_
          refine WC_seqK fun K521 hK521 => ?_
          refine WC_region ?_
          refine T0_q (v := (.agg (List.toArray [v1, (.int .i64 p_Listappend.Window), (.int .i64 p_Listappend.Tooth), (.int .i64 p_Listappend.PerVane), (.int .i64 p_Listappend.First), (.int .i64 p_Listappend.Modulus), (.int .i64 p_Listappend.Slack), (.int .i64 p_Listappend.Errors), (.bool p_Listappend.Round)]))) rfl (yl_loadA (cs := [v1, (.int .i64 p_Listappend.Window), (.int .i64 p_Listappend.Tooth), (.int .i64 p_Listappend.PerVane), (.int .i64 p_Listappend.First), (.int .i64 p_Listappend.Modulus), (.int .i64 p_Listappend.Slack), (.int .i64 p_Listappend.Errors), (.bool p_Listappend.Round)]) ag24 rfl (Box.at (hB15.ext e79))) ?_
          obtain ⟨r522, hr523, h⟩ := bind_elim h
          refine T0_e rfl (eff_call Tryd.func21 nm21 rfl (ev1 rfl) (ref04_Copy_ok L _ (hL.chg e81) [v1, (.int .i64 p_Listappend.Window), (.int .i64 p_Listappend.Tooth), (.int .i64 p_Listappend.PerVane), (.int .i64 p_Listappend.First), (.int .i64 p_Listappend.Modulus), (.int .i64 p_Listappend.Slack), (.int .i64 p_Listappend.Errors), (.bool p_Listappend.Round)] p_Listappend ⟨v1, (h2.ext e78), rfl⟩ r522 hr523) ?_)
          rintro _ wd524 ⟨he525, cs528, rfl, hrd529⟩
          have e530 := e78.trans he525
          have e531 := e79.trans he525
          have e532 := e80.trans he525
          have e533 := he77.trans he525
          have e534 := e81.trans he525
          obtain ⟨v526, h527, rfl⟩ := hrd529
          obtain ⟨r536, hr537, h⟩ := bind_elim h
          refine T0_e rfl (eff_call Tryd.func76 nm76 rfl (ev1 rfl) (locate_MostUnread_ok [] _ (LtL.nil _) [v526, (.int .i64 r522.Window), (.int .i64 r522.Tooth), (.int .i64 r522.PerVane), (.int .i64 r522.First), (.int .i64 r522.Modulus), (.int .i64 r522.Slack), (.int .i64 r522.Errors), (.bool r522.Round)] r522 ⟨v526, (h527.sub (fun _ h => by cases h)), rfl⟩ r536 hr537) ?_)
          rintro _ wd538 ⟨he539, rfl⟩
          have e540 := e530.trans he539
          have e541 := e531.trans he539
          have e542 := e532.trans he539
          have e543 := e533.trans he539
          have e544 := e534.trans he539
          refine T0_q (v := (.tuple #[(.int .i64 r536.1), (.int .i64 r536.2)])) rfl (yl_move rfl) ?_
          refine T0_q (v := (.int .i64 r536.1)) rfl (yl_extract rfl rfl) ?_
          refine T0_q (v := (.int .i64 r536.2)) rfl (yl_extract rfl rfl) ?_
          refine T0_q (v := (.int .i64 r536.1)) rfl (yl_assign rfl) ?_
          refine T0_q (v := (.int .i64 r536.2)) rfl (yl_assign rfl) ?_
          refine T0_nil ?_
          refine hK521 _ _ ?_
          refine WC_seqK fun K545 hK545 => ?_
          refine WC_seqK fun K546 hK546 => ?_
          refine WC_region ?_
          refine T0_q (v := (.int .i64 r536.2)) rfl (yl_move rfl) ?_
          refine T0_q (v := (.bool (!decide (r536.2 = 0)))) rfl (yl_neq rfl rfl) ?_
          refine T0_q (v := (.bool (!decide (r536.2 = 0)))) rfl (yl_move rfl) ?_
          refine T0_g (v := (.int .i64 r536.1)) (!(!decide (r536.2 = 0))) (wanted_f rfl rfl rfl rfl) (fun hg => (yl_move rfl)) ?_
          refine T0_g (v := (.pointer (some ⟨b11, 1, none⟩))) (!(!decide (r536.2 = 0))) (wanted_f rfl rfl rfl rfl) (fun hg => (yl_fa 1 Tryd.underlying24 rfl rfl ⟨0, sz3⟩ rfl rfl)) ?_
          refine T0_g (v := (.int .i64 p_Listappend.Window)) (!(!decide (r536.2 = 0))) (wanted_f rfl rfl rfl rfl) (fun hg => (yl_load sc3 (gd_true hg) (At.drop (Box.at (hB15.ext e541)) 1))) ?_
          obtain ⟨r547, hr548, h⟩ := bind_elim h
          refine T0_ges (!(!decide (r536.2 = 0))) (.bool r547) (wanted_f rfl rfl rfl rfl) (fun hg => eff_call Tryd.func35 nm35 rfl (ev3 (gd_true hg) rfl (gd_true hg)) (base_Within_ok [] _ (LtL.nil _) r536.1 0 p_Listappend.Window r547 (cond_t hg hr548)) (by rintro _ wd549 ⟨he550, rfl⟩; exact ⟨rfl, he550⟩)) ?_
          intro wd549 he550
          have e551 := e540.trans he550
          have e552 := e541.trans he550
          have e553 := e542.trans he550
          have e554 := he539.trans he550
          have e555 := e543.trans he550
          have e556 := e544.trans he550
          refine T0_g (v := (.bool (!r547))) (!(!decide (r536.2 = 0))) (wanted_f rfl rfl rfl rfl) (fun hg => (yl_not (gd_true hg))) ?_
          refine T0_q (v := (.bool ((!decide (r536.2 = 0)) || (!r547)))) rfl (yl_or rfl rfl (fun hb => (gd_true (not_t hb)))) ?_
          refine T0_nil ?_
          refine hK546 _ _ ?_
          refine WC_cond (b := ((!decide (r536.2 = 0)) || (!r547))) rfl (fun hb557 => ?_) (fun hb557 => ?_)
          · replace h := cond_t hb557 h
            refine WC_seqK fun K558 hK558 => ?_
            refine WC_region ?_
            refine T0_q (v := (.bool false)) rfl (yl_assign rfl) ?_
            refine T0_nil ?_
            refine hK558 _ _ ?_
            refine WC_ret ?_
            replace h := some_out h
            subst h
            exact ⟨[(.bool false)], ⟨rfl, trivial⟩, e556, rfl⟩
          · replace h := cond_f hb557 h
            refine WC_skip ?_
            refine hK545 _ _ ?_
            refine WC_seqK fun K559 hK559 => ?_
            refine WC_seqK fun K560 hK560 => ?_
            refine WC_region ?_
            refine T0_q (v := (.agg (List.toArray [v1, (.int .i64 p_Listappend.Window), (.int .i64 p_Listappend.Tooth), (.int .i64 p_Listappend.PerVane), (.int .i64 p_Listappend.First), (.int .i64 p_Listappend.Modulus), (.int .i64 p_Listappend.Slack), (.int .i64 p_Listappend.Errors), (.bool p_Listappend.Round)]))) rfl (yl_loadA (cs := [v1, (.int .i64 p_Listappend.Window), (.int .i64 p_Listappend.Tooth), (.int .i64 p_Listappend.PerVane), (.int .i64 p_Listappend.First), (.int .i64 p_Listappend.Modulus), (.int .i64 p_Listappend.Slack), (.int .i64 p_Listappend.Errors), (.bool p_Listappend.Round)]) ag24 rfl (Box.at (hB15.ext e552))) ?_
            refine T0_q (v := (.pointer (some ⟨b19, 0, none⟩))) rfl (yl_fa 0 Tryd.underlying96 rfl rfl ⟨0, sz3⟩ rfl rfl) ?_
            refine T0_q (v := (.int .i64 p_String.Tooth)) rfl (yl_load sc3 rfl (Box.at (hB23.ext e553))) ?_
            obtain ⟨r561, hr562, h⟩ := bind_elim h
            refine T0_e rfl (eff_call Tryd.func55 nm55 rfl (ev2 rfl rfl) (ref04_ToothErr_ok [] _ (LtL.nil _) [v1, (.int .i64 p_Listappend.Window), (.int .i64 p_Listappend.Tooth), (.int .i64 p_Listappend.PerVane), (.int .i64 p_Listappend.First), (.int .i64 p_Listappend.Modulus), (.int .i64 p_Listappend.Slack), (.int .i64 p_Listappend.Errors), (.bool p_Listappend.Round)] p_Listappend ⟨v1, ((h2.ext e551).sub (fun _ h => by cases h)), rfl⟩ p_String.Tooth r561 hr562) ?_)
            rintro _ wd563 ⟨he564, rfl⟩
            have e565 := e551.trans he564
            have e566 := e552.trans he564
            have e567 := e553.trans he564
            have e568 := e554.trans he564
            have e569 := e555.trans he564
            have e570 := e556.trans he564
            refine T0_q (v := (.bool (!decide (r561 = 0)))) rfl (yl_neq rfl rfl) ?_
            refine T0_q (v := (.bool (!decide (r561 = 0)))) rfl (yl_move rfl) ?_
            refine T0_g (v := (.pointer (some ⟨b19, 1, none⟩))) (!(!decide (r561 = 0))) (wanted_f rfl rfl rfl rfl) (fun hg => (yl_fa 1 Tryd.underlying96 rfl rfl ⟨0, sz22⟩ rfl rfl)) ?_
            refine T0_g (v := v4) (!(!decide (r561 = 0))) (wanted_f rfl rfl rfl rfl) (fun hg => (yl_load sc22 (gd_true hg) (At.drop (Box.at (hB23.ext e567)) 1))) ?_
            refine T0_g (v := (.int .i64 (p_String.Wrong.length : Int))) (!(!decide (r561 = 0))) (wanted_f rfl rfl rfl rfl) (fun hg => (yl_lenR rfl Tryd.underlying22 h5 (gd_true hg))) ?_
            refine T0_g (v := (.pointer (some ⟨b11, 7, none⟩))) (!(!decide (r561 = 0))) (wanted_f rfl rfl rfl rfl) (fun hg => (yl_fa 7 Tryd.underlying24 rfl rfl ⟨0, sz3⟩ rfl rfl)) ?_
            refine T0_g (v := (.int .i64 p_Listappend.Errors)) (!(!decide (r561 = 0))) (wanted_f rfl rfl rfl rfl) (fun hg => (yl_load sc3 (gd_true hg) (At.drop (Box.at (hB15.ext e566)) 7))) ?_
            refine T0_g (v := (.bool (decide (p_Listappend.Errors < (p_String.Wrong.length : Int))))) (!(!decide (r561 = 0))) (wanted_f rfl rfl rfl rfl) (fun hg => (yl_gtr (gd_true hg) (gd_true hg))) ?_
            refine T0_q (v := (.bool ((!decide (r561 = 0)) || (decide (p_Listappend.Errors < (p_String.Wrong.length : Int)))))) rfl (yl_or rfl rfl (fun hb => (gd_true (not_t hb)))) ?_
            refine T0_q (v := (.bool ((!decide (r561 = 0)) || (decide (p_Listappend.Errors < (p_String.Wrong.length : Int)))))) rfl (yl_move rfl) ?_
            refine T0_g (v := (.pointer (some ⟨b19, 2, none⟩))) (!((!decide (r561 = 0)) || (decide (p_Listappend.Errors < (p_String.Wrong.length : Int))))) (wanted_f rfl rfl rfl rfl) (fun hg => (yl_fa 2 Tryd.underlying96 rfl rfl ⟨0, sz22⟩ rfl rfl)) ?_
            refine T0_g (v := v6) (!((!decide (r561 = 0)) || (decide (p_Listappend.Errors < (p_String.Wrong.length : Int))))) (wanted_f rfl rfl rfl rfl) (fun hg => (yl_load sc22 (gd_true hg) (At.drop (Box.at (hB23.ext e567)) 2))) ?_
            refine T0_g (v := (.int .i64 (p_String.Unread.length : Int))) (!((!decide (r561 = 0)) || (decide (p_Listappend.Errors < (p_String.Wrong.length : Int))))) (wanted_f rfl rfl rfl rfl) (fun hg => (yl_lenR rfl Tryd.underlying22 h7 (gd_true hg))) ?_
            refine T0_g (v := (.int .i64 r536.1)) (!((!decide (r561 = 0)) || (decide (p_Listappend.Errors < (p_String.Wrong.length : Int))))) (wanted_f rfl rfl rfl rfl) (fun hg => (yl_move rfl)) ?_
            refine T0_g (v := (.bool (decide (r536.1 < (p_String.Unread.length : Int))))) (!((!decide (r561 = 0)) || (decide (p_Listappend.Errors < (p_String.Wrong.length : Int))))) (wanted_f rfl rfl rfl rfl) (fun hg => (yl_gtr (gd_true hg) (gd_true hg))) ?_
            refine T0_q (v := (.bool (((!decide (r561 = 0)) || (decide (p_Listappend.Errors < (p_String.Wrong.length : Int)))) || (decide (r536.1 < (p_String.Unread.length : Int)))))) rfl (yl_or rfl rfl (fun hb => (gd_true (not_t hb)))) ?_
            refine T0_nil ?_
            refine hK560 _ _ ?_
            refine WC_cond (b := (((!decide (r561 = 0)) || (decide (p_Listappend.Errors < (p_String.Wrong.length : Int)))) || (decide (r536.1 < (p_String.Unread.length : Int))))) rfl (fun hb571 => ?_) (fun hb571 => ?_)
            · replace h := cond_t hb571 h
              refine WC_seqK fun K572 hK572 => ?_
              refine WC_region ?_
              refine T0_q (v := (.bool true)) rfl (yl_assign rfl) ?_
              refine T0_nil ?_
              refine hK572 _ _ ?_
              refine WC_ret ?_
              replace h := some_out h
              subst h
              exact ⟨[(.bool true)], ⟨rfl, trivial⟩, e570, rfl⟩
            · replace h := cond_f hb571 h
              refine WC_skip ?_
              refine hK559 _ _ ?_
              refine WC_seqK fun K573 hK573 => ?_
              refine WC_region ?_
              refine T0_q (v := (.pointer (some ⟨b19, 0, none⟩))) rfl (yl_fa 0 Tryd.underlying96 rfl rfl ⟨0, sz3⟩ rfl rfl) ?_
              refine T0_q (v := (.int .i64 p_String.Tooth)) rfl (yl_load sc3 rfl (Box.at (hB23.ext e567))) ?_
              refine T0_q (v := (.pointer (some ⟨b11, 3, none⟩))) rfl (yl_fa 3 Tryd.underlying24 rfl rfl ⟨0, sz3⟩ rfl rfl) ?_
              refine T0_q (v := (.int .i64 p_Listappend.PerVane)) rfl (yl_load sc3 rfl (At.drop (Box.at (hB15.ext e566)) 3)) ?_
              obtain ⟨q574, hq575, h⟩ := bind_elim h
              refine T0_q (v := (.int .i64 q574)) rfl (yl_quo' hq575 rfl rfl) ?_
              refine T0_q (v := (.int .i64 q574)) rfl (yl_assign rfl) ?_
              refine T0_nil ?_
              refine hK573 _ _ ?_
              refine WC_seqK fun K576 hK576 => ?_
              refine WC_region ?_
              refine T0_q (v := (.agg (List.toArray [v1, (.int .i64 p_Listappend.Window), (.int .i64 p_Listappend.Tooth), (.int .i64 p_Listappend.PerVane), (.int .i64 p_Listappend.First), (.int .i64 p_Listappend.Modulus), (.int .i64 p_Listappend.Slack), (.int .i64 p_Listappend.Errors), (.bool p_Listappend.Round)]))) rfl (yl_loadA (cs := [v1, (.int .i64 p_Listappend.Window), (.int .i64 p_Listappend.Tooth), (.int .i64 p_Listappend.PerVane), (.int .i64 p_Listappend.First), (.int .i64 p_Listappend.Modulus), (.int .i64 p_Listappend.Slack), (.int .i64 p_Listappend.Errors), (.bool p_Listappend.Round)]) ag24 rfl (Box.at (hB15.ext e566))) ?_
              refine T0_q (v := (.int .i64 q574)) rfl (yl_move rfl) ?_
              obtain ⟨r577, hr578, h⟩ := bind_elim h
              refine T0_e rfl (eff_call Tryd.func51 nm51 rfl (ev2 rfl rfl) (ref04_WindowAt_own L _ (hL.chg e570) [v1, (.int .i64 p_Listappend.Window), (.int .i64 p_Listappend.Tooth), (.int .i64 p_Listappend.PerVane), (.int .i64 p_Listappend.First), (.int .i64 p_Listappend.Modulus), (.int .i64 p_Listappend.Slack), (.int .i64 p_Listappend.Errors), (.bool p_Listappend.Round)] p_Listappend ⟨v1, (h2.ext e565), rfl⟩ q574 r577 hr578) ?_)
              rintro _ wd579 ⟨he580, v581, rfl, hf583, h582⟩
              have h584 := (h2.ext e565).step (Stepp.add v581 he580 hf583)
              have h585 := (h5.ext e565).step (Stepp.add v581 he580 hf583)
              have h586 := (h7.ext e565).step (Stepp.add v581 he580 hf583)
              have h587 := (h66.ext e569).step (Stepp.add v581 he580 hf583)
              have h588 := (h527.ext e568).step (Stepp.add v581 he580 hf583)
              have hn590 : blk v581 ≠ some b11 := fun e => by have := hf583 _ e; have := (hB15.ext e566).lt; omega
              have hn591 : blk v581 ≠ some b19 := fun e => by have := hf583 _ e; have := (hB23.ext e567).lt; omega
              have hf592 : ∀ b, blk v581 = some b → w.heap.size ≤ b := fun b hb => Nat.le_trans e570.size (hf583 b hb)
              have e593 := e566.trans he580
              have e594 := e567.trans he580
              have e595 := e570.trans he580
              refine T0_q (v := v581) rfl (yl_assign rfl) ?_
              refine T0_nil ?_
              refine hK576 _ _ ?_
              refine WC_seqK fun K597 hK597 => ?_
              refine WC_seqK fun K598 hK598 => ?_
              refine WC_region ?_
              refine T0_q (v := (.int .i64 0)) rfl (yl_assign rfl) ?_
              refine T0_nil ?_
              refine hK598 _ _ ?_
              obtain ⟨o828, hl829, hn830⟩ := bind_elim h
              refine WC_post (fun (ρ : Env) (wd807 : World) => ∃ (x814 : (List Int)) (v813 : Value), x814 = o828 ∧ ρ 2 = (.pointer (some ⟨b11, 0, none⟩)) ∧ ρ 3 = (.pointer (some ⟨b19, 0, none⟩)) ∧ ρ 18 = (.int .i64 q574) ∧ ρ 19 = v813 ∧ SlRd (v813 :: L) wd807 v1 p_Listappend.Vanes ∧ SlRd (v813 :: L) wd807 v4 p_String.Wrong ∧ SlRd (v813 :: L) wd807 v6 p_String.Unread ∧ Box wd807 b11 [v1, (.int .i64 p_Listappend.Window), (.int .i64 p_Listappend.Tooth), (.int .i64 p_Listappend.PerVane), (.int .i64 p_Listappend.First), (.int .i64 p_Listappend.Modulus), (.int .i64 p_Listappend.Slack), (.int .i64 p_Listappend.Errors), (.bool p_Listappend.Round)] 24 ∧ Box wd807 b19 [(.int .i64 p_String.Tooth), v4, v6, (.int .i64 p_String.Off)] 96 ∧ Own 3 (v813 :: L) wd807 v813 x814 ∧ (∀ b, blk v813 = some b → w.heap.size ≤ b) ∧ (blk v813 ≠ some b11) ∧ (blk v813 ≠ some b19) ∧ Ext w wd807) ?_ ?_
              · intro K834 hK834
                refine WC_block ?_
                refine WC_loopk (fun sv ρ wd784 => ∃ (x791 : (List Int)) (x796 : Int) (v790 : Value), (x791, x796) = sv ∧ ρ 2 = (.pointer (some ⟨b11, 0, none⟩)) ∧ ρ 3 = (.pointer (some ⟨b19, 0, none⟩)) ∧ ρ 18 = (.int .i64 q574) ∧ ρ 19 = v790 ∧ ρ 20 = (.int .i64 x796) ∧ SlRd (v790 :: L) wd784 v1 p_Listappend.Vanes ∧ SlRd (v790 :: L) wd784 v4 p_String.Wrong ∧ SlRd (v790 :: L) wd784 v6 p_String.Unread ∧ Box wd784 b11 [v1, (.int .i64 p_Listappend.Window), (.int .i64 p_Listappend.Tooth), (.int .i64 p_Listappend.PerVane), (.int .i64 p_Listappend.First), (.int .i64 p_Listappend.Modulus), (.int .i64 p_Listappend.Slack), (.int .i64 p_Listappend.Errors), (.bool p_Listappend.Round)] 24 ∧ Box wd784 b19 [(.int .i64 p_String.Tooth), v4, v6, (.int .i64 p_String.Off)] 96 ∧ Own 3 (v790 :: L) wd784 v790 x791 ∧ (∀ b, blk v790 = some b → w.heap.size ≤ b) ∧ (blk v790 ≠ some b11) ∧ (blk v790 ≠ some b19) ∧ Ext w wd784) hl829 ⟨r577, 0, v581, rfl, rfl, rfl, rfl, rfl, rfl, h584, h585, h586, (hB15.ext e593), (hB23.ext e594), h582, hf592, hn590, hn591, e595⟩ ?_
                rintro _ ρ wd784 ⟨x791, x796, v790, rfl, hs786, hs787, hs788, hs795, hs797, h798, h801, h802, hB800, hB804, h793, hf794, hn805, hn806, e785⟩ x831 h hx832 K833 hK833
                refine WC_seqK fun K836 hK836 => ?_
                refine WC_seqK fun K837 hK837 => ?_
                refine WC_region ?_
                refine T0_q (v := (.int .i64 x796)) rfl (yl_move hs797) ?_
                refine T0_q (v := (.pointer (some ⟨b19, 1, none⟩))) rfl (yl_fa 1 Tryd.underlying96 rfl rfl ⟨0, sz22⟩ hs787 rfl) ?_
                refine T0_q (v := v4) rfl (yl_load sc22 rfl (At.drop (Box.at hB804) 1)) ?_
                refine T0_q (v := (.int .i64 (p_String.Wrong.length : Int))) rfl (yl_lenR rfl Tryd.underlying22 h801 rfl) ?_
                refine T0_q (v := (.bool (decide (x796 < (p_String.Wrong.length : Int))))) rfl (yl_lss rfl rfl) ?_
                refine T0_nil ?_
                refine hK837 _ _ ?_
                refine WC_cond (b := (decide (x796 < (p_String.Wrong.length : Int)))) rfl (fun hb838 => ?_) (fun hb838 => ?_)
                · replace h := cond_t hb838 h
                  refine WC_skip ?_
                  refine hK836 _ _ ?_
                  refine WC_seqK fun K839 hK839 => ?_
                  refine WC_block ?_
                  refine WC_seqK fun K840 hK840 => ?_
                  refine WC_plan mixed (.p 0 (.p 2 (.p 5 (.q 1 (.p 3 (.q 4 (.q 6 (.e 7 (.p 8 .done))))))))) (by kernel_rfl) ?_
                  intro wd841 he842
                  have e843 := e785.trans he842
                  refine TP_p (v := (.pointer (some ⟨b19, 1, none⟩))) rfl rfl (fun w' => (yl_fa 1 Tryd.underlying96 rfl rfl ⟨0, sz22⟩ hs787 rfl)) ?_
                  refine TP_p (v := (.int .i64 x796)) rfl rfl (fun w' => (yl_move hs797)) ?_
                  refine TP_p (v := (.pointer (some ⟨b11, 1, none⟩))) rfl rfl (fun w' => (yl_fa 1 Tryd.underlying24 rfl rfl ⟨0, sz3⟩ hs786 rfl)) ?_
                  refine TP_q (v := v4) rfl rfl (fun w' hS => (yl_load sc22 rfl (At.drop (Box.at (hB804.ext ((he842).trans hS))) 1))) ?_
                  obtain ⟨el844, hel845, h⟩ := bind_elim h
                  obtain ⟨cs846, hat847, hrd848⟩ := SlRd.at h801 hel845
                  have hrd848 : cs846 = [(.int .i64 el844)] := hrd848
                  subst hrd848
                  refine TP_p (v := (.pointer (some (elemAddr v4 (x796 : Int).toNat 1)))) rfl rfl (fun w' => (yl_indexAddr Tryd.underlying22 sz3 h801 hel845 rfl rfl)) ?_
                  refine TP_q (v := (.int .i64 el844)) rfl rfl (fun w' hS => (yl_load sc3 rfl (hat847.ext' ((he842).trans hS)))) ?_
                  refine TP_q (v := (.int .i64 p_Listappend.Window)) rfl rfl (fun w' hS => (yl_load sc3 rfl (At.drop (Box.at (hB800.ext ((he842).trans hS))) 1))) ?_
                  obtain ⟨r850, hr851, h⟩ := bind_elim h
                  refine TP_e rfl rfl (eff_call Tryd.func28 nm28 rfl (ev2 rfl rfl) (base_Mod_ok [] _ (LtL.nil _) el844 p_Listappend.Window r850 hr851) ?_)
                  rintro _ wd852 ⟨he853, rfl⟩
                  have e854 := he842.trans he853
                  have e855 := e843.trans he853
                  refine ⟨he853, ?_⟩
                  refine TP_p (v := (.int .i64 r850)) rfl rfl (fun w' => (yl_assign rfl)) ?_
                  refine TP_done ?_
                  refine hK840 _ _ ?_
                  refine WC_region ?_
                  refine T0_q (v := v790) rfl (yl_move hs795) ?_
                  refine T0_q (v := (.int .i64 r850)) rfl (yl_move rfl) ?_
                  refine T0_q (v := v790) rfl (yl_move hs795) ?_
                  refine T0_q (v := (.int .i64 r850)) rfl (yl_move rfl) ?_
                  obtain ⟨el856, hel857, h⟩ := bind_elim h
                  obtain ⟨cs858, hat859, hrd860⟩ := Own.at h793 hel857
                  have hrd860 : cs858 = [(.int .i64 el856)] := hrd860
                  subst hrd860
                  refine T0_q (v := (.pointer (some (elemAddr v790 (r850 : Int).toNat 1)))) rfl (yl_indexAddrO Tryd.underlying22 sz3 h793 hel857 rfl rfl) ?_
                  refine T0_q (v := (.int .i64 el856)) rfl (yl_load sc3 rfl (hat859.ext' e854)) ?_
                  refine T0_q (v := (.int .i64 (w64 (1 - el856)))) rfl (yl_sub rfl rfl) ?_
                  obtain ⟨el862, hel863, h⟩ := bind_elim h
                  obtain ⟨cs864, hat865, hrd866⟩ := Own.at h793 hel863
                  have hrd866 : cs864 = [(.int .i64 el862)] := hrd866
                  subst hrd866
                  refine T0_q (v := (.pointer (some (elemAddr v790 (r850 : Int).toNat 1)))) rfl (yl_indexAddrO Tryd.underlying22 sz3 h793 hel863 rfl rfl) ?_
                  refine T0_e rfl (eff_storeOC (vs := [(.int .i64 (w64 (1 - el856)))]) (off := 0) (y' := w64 (1 - el856)) sz3 rfl rfl (h793.ext e854) mem0 hel863 rfl rfl rfl (oc_cons rfl oc_nil) (fun w' cs hcs => by have hcs : cs = [(.int .i64 el862)] := hcs; subst hcs; rfl) ?_)
                  intro wd868 hc869 hB870
                  have h871 := (h798.ext e854).step (Stepp.chg_mem hc869 mem0)
                  have h872 := (hB800.ext e854).chg hc869 (avoid1 hn805)
                  have h873 := (h801.ext e854).step (Stepp.chg_mem hc869 mem0)
                  have h874 := (h802.ext e854).step (Stepp.chg_mem hc869 mem0)
                  have h875 := (hB804.ext e854).chg hc869 (avoid1 hn806)
                  have e876 := chg_own e855 hc869 hf794
                  refine T0_nil ?_
                  refine hK839 _ _ ?_
                  refine WC_region ?_
                  refine T0_q (v := (.int .i64 x796)) rfl (yl_move hs797) ?_
                  refine T0_q (v := (.int .i64 (w64 (x796 + 1)))) rfl (yl_add rfl rfl) ?_
                  refine T0_q (v := (.int .i64 (w64 (x796 + 1)))) rfl (yl_assign rfl) ?_
                  refine T0_nil ?_
                  replace h := some_out h
                  subst h
                  refine hK833 _ _ _ rfl ?_
                  exact ⟨(x791.set (r850 : Int).toNat (w64 (1 - el856))), w64 (x796 + 1), v790, rfl, hs786, hs787, hs788, hs795, rfl, h871, h873, h874, h872, h875, hB870, hf794, hn805, hn806, e876⟩
                · replace h := cond_f hb838 h
                  refine WC_exit ?_
                  replace h := some_out h
                  subst h
                  have ho := hx832 _ rfl
                  subst ho
                  refine hK834 _ _ ?_
                  exact ⟨x791, v790, rfl, hs786, hs787, hs788, hs795, h798, h801, h802, hB800, hB804, h793, hf794, hn805, hn806, e785⟩
              · rintro ρ wd807 ⟨x814, v813, rfl, hs809, hs810, hs811, hs818, h819, h822, h823, hB821, hB825, h816, hf817, hn826, hn827, e808⟩
                replace h := hn830
                refine hK597 _ _ ?_
                refine WC_seqK fun K877 hK877 => ?_
                refine WC_seqK fun K878 hK878 => ?_
                refine WC_region ?_
                refine T0_q (v := (.int .i64 0)) rfl (yl_assign rfl) ?_
                refine T0_nil ?_
                refine hK878 _ _ ?_
                obtain ⟨o1081, hl1082, hn1083⟩ := bind_elim h
                refine WC_post (fun (ρ : Env) (wd1066 : World) => ∃ (x1072 : (List Int)) (v1071 : Value), x1072 = o1081 ∧ ρ 2 = (.pointer (some ⟨b11, 0, none⟩)) ∧ ρ 18 = (.int .i64 q574) ∧ ρ 19 = v1071 ∧ SlRd (v1071 :: L) wd1066 v1 p_Listappend.Vanes ∧ Box wd1066 b11 [v1, (.int .i64 p_Listappend.Window), (.int .i64 p_Listappend.Tooth), (.int .i64 p_Listappend.PerVane), (.int .i64 p_Listappend.First), (.int .i64 p_Listappend.Modulus), (.int .i64 p_Listappend.Slack), (.int .i64 p_Listappend.Errors), (.bool p_Listappend.Round)] 24 ∧ Own 3 (v1071 :: L) wd1066 v1071 x1072 ∧ (∀ b, blk v1071 = some b → w.heap.size ≤ b) ∧ (blk v1071 ≠ some b11) ∧ Ext w wd1066) ?_ ?_
                · intro K1087 hK1087
                  refine WC_block ?_
                  refine WC_loopk (fun sv ρ wd1043 => ∃ (x1050 : (List Int)) (x1055 : Int) (v1049 : Value), (x1050, x1055) = sv ∧ ρ 2 = (.pointer (some ⟨b11, 0, none⟩)) ∧ ρ 3 = (.pointer (some ⟨b19, 0, none⟩)) ∧ ρ 18 = (.int .i64 q574) ∧ ρ 19 = v1049 ∧ ρ 22 = (.int .i64 x1055) ∧ SlRd (v1049 :: L) wd1043 v1 p_Listappend.Vanes ∧ SlRd (v1049 :: L) wd1043 v4 p_String.Wrong ∧ SlRd (v1049 :: L) wd1043 v6 p_String.Unread ∧ Box wd1043 b11 [v1, (.int .i64 p_Listappend.Window), (.int .i64 p_Listappend.Tooth), (.int .i64 p_Listappend.PerVane), (.int .i64 p_Listappend.First), (.int .i64 p_Listappend.Modulus), (.int .i64 p_Listappend.Slack), (.int .i64 p_Listappend.Errors), (.bool p_Listappend.Round)] 24 ∧ Box wd1043 b19 [(.int .i64 p_String.Tooth), v4, v6, (.int .i64 p_String.Off)] 96 ∧ Own 3 (v1049 :: L) wd1043 v1049 x1050 ∧ (∀ b, blk v1049 = some b → w.heap.size ≤ b) ∧ (blk v1049 ≠ some b11) ∧ (blk v1049 ≠ some b19) ∧ Ext w wd1043) hl1082 ⟨x814, 0, v813, rfl, hs809, hs810, hs811, hs818, rfl, h819, h822, h823, hB821, hB825, h816, hf817, hn826, hn827, e808⟩ ?_
                  rintro _ ρ wd1043 ⟨x1050, x1055, v1049, rfl, hs1045, hs1046, hs1047, hs1054, hs1056, h1057, h1060, h1061, hB1059, hB1063, h1052, hf1053, hn1064, hn1065, e1044⟩ x1084 h hx1085 K1086 hK1086
                  refine WC_seqK fun K1089 hK1089 => ?_
                  refine WC_seqK fun K1090 hK1090 => ?_
                  refine WC_region ?_
                  refine T0_q (v := (.int .i64 x1055)) rfl (yl_move hs1056) ?_
                  refine T0_q (v := (.pointer (some ⟨b19, 2, none⟩))) rfl (yl_fa 2 Tryd.underlying96 rfl rfl ⟨0, sz22⟩ hs1046 rfl) ?_
                  refine T0_q (v := v6) rfl (yl_load sc22 rfl (At.drop (Box.at hB1063) 2)) ?_
                  refine T0_q (v := (.int .i64 (p_String.Unread.length : Int))) rfl (yl_lenR rfl Tryd.underlying22 h1061 rfl) ?_
                  refine T0_q (v := (.bool (decide (x1055 < (p_String.Unread.length : Int))))) rfl (yl_lss rfl rfl) ?_
                  refine T0_nil ?_
                  refine hK1090 _ _ ?_
                  refine WC_cond (b := (decide (x1055 < (p_String.Unread.length : Int)))) rfl (fun hb1091 => ?_) (fun hb1091 => ?_)
                  · replace h := cond_t hb1091 h
                    refine WC_skip ?_
                    refine hK1089 _ _ ?_
                    refine WC_seqK fun K1092 hK1092 => ?_
                    refine WC_block ?_
                    refine WC_plan mixed (.p 0 (.p 1 (.p 3 (.p 6 (.q 2 (.p 4 (.q 5 (.q 7 (.e 8 (.p 9 (.b 10 .done))))))))))) (by kernel_rfl) ?_
                    intro wd1093 he1094
                    have e1095 := e1044.trans he1094
                    refine TP_p (v := v1049) rfl rfl (fun w' => (yl_move hs1054)) ?_
                    refine TP_p (v := (.pointer (some ⟨b19, 2, none⟩))) rfl rfl (fun w' => (yl_fa 2 Tryd.underlying96 rfl rfl ⟨0, sz22⟩ hs1046 rfl)) ?_
                    refine TP_p (v := (.int .i64 x1055)) rfl rfl (fun w' => (yl_move hs1056)) ?_
                    refine TP_p (v := (.pointer (some ⟨b11, 1, none⟩))) rfl rfl (fun w' => (yl_fa 1 Tryd.underlying24 rfl rfl ⟨0, sz3⟩ hs1045 rfl)) ?_
                    refine TP_q (v := v6) rfl rfl (fun w' hS => (yl_load sc22 rfl (At.drop (Box.at (hB1063.ext ((he1094).trans hS))) 2))) ?_
                    obtain ⟨el1096, hel1097, h⟩ := bind_elim h
                    obtain ⟨cs1098, hat1099, hrd1100⟩ := SlRd.at h1061 hel1097
                    have hrd1100 : cs1098 = [(.int .i64 el1096)] := hrd1100
                    subst hrd1100
                    refine TP_p (v := (.pointer (some (elemAddr v6 (x1055 : Int).toNat 1)))) rfl rfl (fun w' => (yl_indexAddr Tryd.underlying22 sz3 h1061 hel1097 rfl rfl)) ?_
                    refine TP_q (v := (.int .i64 el1096)) rfl rfl (fun w' hS => (yl_load sc3 rfl (hat1099.ext' ((he1094).trans hS)))) ?_
                    refine TP_q (v := (.int .i64 p_Listappend.Window)) rfl rfl (fun w' hS => (yl_load sc3 rfl (At.drop (Box.at (hB1059.ext ((he1094).trans hS))) 1))) ?_
                    obtain ⟨r1102, hr1103, h⟩ := bind_elim h
                    refine TP_e rfl rfl (eff_call Tryd.func28 nm28 rfl (ev2 rfl rfl) (base_Mod_ok [] _ (LtL.nil _) el1096 p_Listappend.Window r1102 hr1103) ?_)
                    rintro _ wd1104 ⟨he1105, rfl⟩
                    have e1106 := he1094.trans he1105
                    have e1107 := e1095.trans he1105
                    refine ⟨he1105, ?_⟩
                    obtain ⟨el1108, hel1109, h⟩ := bind_elim h
                    obtain ⟨cs1110, hat1111, hrd1112⟩ := Own.at h1052 hel1109
                    have hrd1112 : cs1110 = [(.int .i64 el1108)] := hrd1112
                    subst hrd1112
                    refine TP_p (v := (.pointer (some (elemAddr v1049 (r1102 : Int).toNat 1)))) rfl rfl (fun w' => (yl_indexAddrO Tryd.underlying22 sz3 h1052 hel1109 rfl rfl)) ?_
                    refine TP_b rfl rfl (eff_storeOC (vs := [(.int .i64 2)]) (off := 0) (y' := 2) sz3 rfl rfl (h1052.ext e1106) mem0 hel1109 rfl rfl rfl (oc_cons rfl oc_nil) (fun w' cs hcs => by have hcs : cs = [(.int .i64 el1108)] := hcs; subst hcs; rfl) ?_)
                    intro wd1114 hc1115 hB1116
                    have h1117 := (h1057.ext e1106).step (Stepp.chg_mem hc1115 mem0)
                    have h1118 := (hB1059.ext e1106).chg hc1115 (avoid1 hn1064)
                    have h1119 := (h1060.ext e1106).step (Stepp.chg_mem hc1115 mem0)
                    have h1120 := (h1061.ext e1106).step (Stepp.chg_mem hc1115 mem0)
                    have h1121 := (hB1063.ext e1106).chg hc1115 (avoid1 hn1065)
                    have e1122 := chg_own e1107 hc1115 hf1053
                    refine TP_done ?_
                    refine hK1092 _ _ ?_
                    refine WC_region ?_
                    refine T0_q (v := (.int .i64 x1055)) rfl (yl_move hs1056) ?_
                    refine T0_q (v := (.int .i64 (w64 (x1055 + 1)))) rfl (yl_add rfl rfl) ?_
                    refine T0_q (v := (.int .i64 (w64 (x1055 + 1)))) rfl (yl_assign rfl) ?_
                    refine T0_nil ?_
                    replace h := some_out h
                    subst h
                    refine hK1086 _ _ _ rfl ?_
                    exact ⟨(x1050.set (r1102 : Int).toNat 2), w64 (x1055 + 1), v1049, rfl, hs1045, hs1046, hs1047, hs1054, rfl, h1117, h1119, h1120, h1118, h1121, hB1116, hf1053, hn1064, hn1065, e1122⟩
                  · replace h := cond_f hb1091 h
                    refine WC_exit ?_
                    replace h := some_out h
                    subst h
                    have ho := hx1085 _ rfl
                    subst ho
                    refine hK1087 _ _ ?_
                    exact ⟨x1050, v1049, rfl, hs1045, hs1047, hs1054, h1057, hB1059, h1052, hf1053, hn1064, e1044⟩
                · rintro ρ wd1066 ⟨x1072, v1071, rfl, hs1068, hs1069, hs1076, h1077, hB1079, h1074, hf1075, hn1080, e1067⟩
                  replace h := hn1083
                  refine hK877 _ _ ?_
                  refine WC_seqK fun K1123 hK1123 => ?_
                  refine WC_region ?_
                  refine T0_q (v := (.agg (List.toArray [v1, (.int .i64 p_Listappend.Window), (.int .i64 p_Listappend.Tooth), (.int .i64 p_Listappend.PerVane), (.int .i64 p_Listappend.First), (.int .i64 p_Listappend.Modulus), (.int .i64 p_Listappend.Slack), (.int .i64 p_Listappend.Errors), (.bool p_Listappend.Round)]))) rfl (yl_loadA (cs := [v1, (.int .i64 p_Listappend.Window), (.int .i64 p_Listappend.Tooth), (.int .i64 p_Listappend.PerVane), (.int .i64 p_Listappend.First), (.int .i64 p_Listappend.Modulus), (.int .i64 p_Listappend.Slack), (.int .i64 p_Listappend.Errors), (.bool p_Listappend.Round)]) ag24 hs1068 (Box.at hB1079)) ?_
                  obtain ⟨r1124, hr1125, h⟩ := bind_elim h
                  refine T0_e rfl (eff_call Tryd.func21 nm21 rfl (ev1 rfl) (ref04_Copy_ok (v1071 :: L) _ (ltl_own (hL.chg e1067) h1074) [v1, (.int .i64 p_Listappend.Window), (.int .i64 p_Listappend.Tooth), (.int .i64 p_Listappend.PerVane), (.int .i64 p_Listappend.First), (.int .i64 p_Listappend.Modulus), (.int .i64 p_Listappend.Slack), (.int .i64 p_Listappend.Errors), (.bool p_Listappend.Round)] p_Listappend ⟨v1, h1077, rfl⟩ r1124 hr1125) ?_)
                  rintro _ wd1126 ⟨he1127, cs1130, rfl, hrd1131⟩
                  have e1132 := e1067.trans he1127
                  obtain ⟨v1128, h1129, rfl⟩ := hrd1131
                  refine T0_q (v := v1071) rfl (yl_move hs1076) ?_
                  obtain ⟨r1134, hr1135, h⟩ := bind_elim h
                  refine T0_e rfl (eff_call Tryd.func39 nm39 rfl (ev2 rfl rfl) (locate_Told_ok [] _ (LtL.nil _) [v1128, (.int .i64 r1124.Window), (.int .i64 r1124.Tooth), (.int .i64 r1124.PerVane), (.int .i64 r1124.First), (.int .i64 r1124.Modulus), (.int .i64 r1124.Slack), (.int .i64 r1124.Errors), (.bool r1124.Round)] r1124 ⟨v1128, (h1129.sub (fun _ h => by cases h)), rfl⟩ v1071 x1072 ((h1074.ext he1127).rdL (fun _ h => by cases h) (LtL.nil w) hf1075) r1134 hr1135) ?_)
                  rintro _ wd1136 ⟨he1137, rfl⟩
                  have e1138 := he1127.trans he1137
                  have e1139 := e1132.trans he1137
                  refine T0_q (v := (.tuple #[(.int .i64 r1134.1), (.int .i64 r1134.2)])) rfl (yl_move rfl) ?_
                  refine T0_q (v := (.int .i64 r1134.1)) rfl (yl_extract rfl rfl) ?_
                  refine T0_q (v := (.int .i64 r1134.2)) rfl (yl_extract rfl rfl) ?_
                  refine T0_q (v := (.int .i64 r1134.1)) rfl (yl_assign rfl) ?_
                  refine T0_q (v := (.int .i64 r1134.2)) rfl (yl_assign rfl) ?_
                  refine T0_nil ?_
                  refine hK1123 _ _ ?_
                  refine WC_seqK fun K1140 hK1140 => ?_
                  refine WC_region ?_
                  refine T0_q (v := (.int .i64 r1134.2)) rfl (yl_move rfl) ?_
                  refine T0_q (v := (.bool (decide (r1134.2 = 0)))) rfl (yl_eql rfl rfl) ?_
                  refine T0_q (v := (.bool (decide (r1134.2 = 0)))) rfl (yl_move rfl) ?_
                  refine T0_g (v := (.int .i64 r1134.1)) (decide (r1134.2 = 0)) (wanted_t rfl rfl rfl rfl) (fun hg => (yl_move rfl)) ?_
                  refine T0_g (v := (.int .i64 q574)) (decide (r1134.2 = 0)) (wanted_t rfl rfl rfl rfl) (fun hg => (yl_move hs1069)) ?_
                  refine T0_g (v := (.bool (decide (r1134.1 = q574)))) (decide (r1134.2 = 0)) (wanted_t rfl rfl rfl rfl) (fun hg => (yl_eql (gd_true hg) (gd_true hg))) ?_
                  refine T0_q (v := (.bool ((decide (r1134.2 = 0)) && (decide (r1134.1 = q574))))) rfl (yl_and rfl (fun hb => (gd_true hb)) rfl) ?_
                  refine T0_q (v := (.bool ((decide (r1134.2 = 0)) && (decide (r1134.1 = q574))))) rfl (yl_assign rfl) ?_
                  refine T0_nil ?_
                  refine hK1140 _ _ ?_
                  refine WC_ret ?_
                  replace h := some_out h
                  subst h
                  exact ⟨[(.bool ((decide (r1134.2 = 0)) && (decide (r1134.1 = q574))))], ⟨rfl, trivial⟩, e1139, rfl⟩

end Go.Gw
