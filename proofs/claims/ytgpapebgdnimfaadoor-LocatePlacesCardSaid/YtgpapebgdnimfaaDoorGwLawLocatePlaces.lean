/- What functions come to, printed by a program of this work. No condition. -/
import Derived.Test.YtgpapebgdnimfaaDoorGwFnC
import Derived.Test.YtgpapebgdnimfaaDoorGwFxWin
set_option maxRecDepth 4096
set_option maxHeartbeats 1000000
set_option linter.unusedVariables false
namespace Go.Gw
open Go Go.Proofs
attribute [local irreducible] T0 TS TT TP Eff Stp WC Quiet gd
noncomputable def law04_Short_spec (p_t : LocateTrack) : Option Bool :=
  some ((decide ((p_t.Vanes.length : Int) ≤ 16)) || ((decide (40 < (p_t.Vanes.length : Int))) && (decide ((p_t.Vanes.length : Int) ≤ 42))))
theorem law04_Short_ok (L : List Value) (w : World) (hL : LtL L w) (cs_p_t : List Value) (p_t : LocateTrack) (h_p_t : Rep.rd L w cs_p_t p_t) (r : Bool) (h : law04_Short_spec p_t = some r) :
    CallsTo Tryd.prog 19 [(.agg cs_p_t.toArray)] w (fun v w' => Ext w w' ∧ (.bool r) = v) := by
  have e0 : Ext w w := Chg.refl _ _
  obtain ⟨v1, h2, rfl⟩ := h_p_t
  refine callsTo_of_WC (n := 19) (rs := [.tmp 2]) Tryd.func19 rfl rfl rfl rfl rfl ?_
  refine WC_seqK fun K4 hK4 => ?_
  refine WC_region ?_
  refine T0_e rfl (eff_boxC (cs := [v1, (.int .i64 p_t.Window), (.int .i64 p_t.Tooth), (.int .i64 p_t.PerVane), (.int .i64 p_t.First), (.int .i64 p_t.Modulus), (.int .i64 p_t.Slack), (.int .i64 p_t.Errors), (.bool p_t.Round)]) rfl rfl ?_)
  intro b5 wd6 hb7 he8 hB9
  have hbf10 := bfresh e0 hb7
  have e11 := e0.trans he8
  refine T0_q (v := (.bool false)) rfl (yl_assign rfl) ?_
  refine T0_nil ?_
  refine hK4 _ _ ?_
  refine WC_seqK fun K13 hK13 => ?_
  refine WC_region ?_
  refine T0_q (v := (.pointer (some ⟨b5, 0, none⟩))) rfl (yl_fa 0 Tryd.underlying24 rfl rfl ⟨0, sz22⟩ rfl rfl) ?_
  refine T0_q (v := v1) rfl (yl_load sc22 rfl (Box.at hB9)) ?_
  refine T0_q (v := (.int .i64 (p_t.Vanes.length : Int))) rfl (yl_lenR rfl Tryd.underlying22 h2 rfl) ?_
  refine T0_q (v := (.bool (decide ((p_t.Vanes.length : Int) ≤ 16)))) rfl (yl_leq rfl rfl) ?_
  refine T0_q (v := (.bool (decide ((p_t.Vanes.length : Int) ≤ 16)))) rfl (yl_move rfl) ?_
  refine T0_g (v := (.pointer (some ⟨b5, 0, none⟩))) (!(decide ((p_t.Vanes.length : Int) ≤ 16))) (wanted_f rfl rfl rfl rfl) (fun hg => (yl_fa 0 Tryd.underlying24 rfl rfl ⟨0, sz22⟩ rfl rfl)) ?_
  refine T0_g (v := v1) (!(decide ((p_t.Vanes.length : Int) ≤ 16))) (wanted_f rfl rfl rfl rfl) (fun hg => (yl_load sc22 (gd_true hg) (Box.at hB9))) ?_
  refine T0_g (v := (.int .i64 (p_t.Vanes.length : Int))) (!(decide ((p_t.Vanes.length : Int) ≤ 16))) (wanted_f rfl rfl rfl rfl) (fun hg => (yl_lenR rfl Tryd.underlying22 h2 (gd_true hg))) ?_
  refine T0_g (v := (.bool (decide (40 < (p_t.Vanes.length : Int))))) (!(decide ((p_t.Vanes.length : Int) ≤ 16))) (wanted_f rfl rfl rfl rfl) (fun hg => (yl_gtr (gd_true hg) rfl)) ?_
  refine T0_g (v := (.bool (decide (40 < (p_t.Vanes.length : Int))))) (!(decide ((p_t.Vanes.length : Int) ≤ 16))) (wanted_f rfl rfl rfl rfl) (fun hg => (yl_move (gd_true hg))) ?_
  refine T0_g (v := (.pointer (some ⟨b5, 0, none⟩))) ((!(decide ((p_t.Vanes.length : Int) ≤ 16))) && (decide (40 < (p_t.Vanes.length : Int)))) (wanted_gt rfl rfl rfl rfl) (fun hg => (yl_fa 0 Tryd.underlying24 rfl rfl ⟨0, sz22⟩ rfl rfl)) ?_
  refine T0_g (v := v1) ((!(decide ((p_t.Vanes.length : Int) ≤ 16))) && (decide (40 < (p_t.Vanes.length : Int)))) (wanted_gt rfl rfl rfl rfl) (fun hg => (yl_load sc22 (gd_true hg) (Box.at hB9))) ?_
  refine T0_g (v := (.int .i64 (p_t.Vanes.length : Int))) ((!(decide ((p_t.Vanes.length : Int) ≤ 16))) && (decide (40 < (p_t.Vanes.length : Int)))) (wanted_gt rfl rfl rfl rfl) (fun hg => (yl_lenR rfl Tryd.underlying22 h2 (gd_true hg))) ?_
  refine T0_g (v := (.bool (decide ((p_t.Vanes.length : Int) ≤ 42)))) ((!(decide ((p_t.Vanes.length : Int) ≤ 16))) && (decide (40 < (p_t.Vanes.length : Int)))) (wanted_gt rfl rfl rfl rfl) (fun hg => (yl_leq (gd_true hg) rfl)) ?_
  refine T0_g (v := (.bool ((decide (40 < (p_t.Vanes.length : Int))) && (decide ((p_t.Vanes.length : Int) ≤ 42))))) (!(decide ((p_t.Vanes.length : Int) ≤ 16))) (wanted_f rfl rfl rfl rfl) (fun hg => (yl_and (gd_true hg) (fun hb => (gd_true (and_i hg hb))) rfl)) ?_
  refine T0_q (v := (.bool ((decide ((p_t.Vanes.length : Int) ≤ 16)) || ((decide (40 < (p_t.Vanes.length : Int))) && (decide ((p_t.Vanes.length : Int) ≤ 42)))))) rfl (yl_or rfl rfl (fun hb => (gd_true (not_t hb)))) ?_
  refine T0_q (v := (.bool ((decide ((p_t.Vanes.length : Int) ≤ 16)) || ((decide (40 < (p_t.Vanes.length : Int))) && (decide ((p_t.Vanes.length : Int) ≤ 42)))))) rfl (yl_assign rfl) ?_
  refine T0_nil ?_
  refine hK13 _ _ ?_
  refine WC_ret ?_
  replace h := some_out h
  subst h
  exact ⟨[(.bool ((decide ((p_t.Vanes.length : Int) ≤ 16)) || ((decide (40 < (p_t.Vanes.length : Int))) && (decide ((p_t.Vanes.length : Int) ≤ 42)))))], ⟨rfl, trivial⟩, e11, rfl⟩

noncomputable def law04_LocatePlaces_spec (p_Listappend : LocateTrack) (p_String : Int) (p_tplacetoothtplacetoothnerfdk : Int) : Option Bool :=
  (Option.bind (law04_awake_spec) fun r15 =>
  (bif (!r15) then (
    some false
  ) else (
    (Option.bind (law04_Short_spec p_Listappend) fun r25 =>
    (bif (!r25) then (
      some true
    ) else (
      (Option.bind (ref04_Copy_spec p_Listappend) fun r35 =>
      (Option.bind (locate_ToothAt_spec r35 p_String) fun r47 =>
      (Option.bind (ref04_Copy_spec p_Listappend) fun r55 =>
      (Option.bind (locate_PlacesOf_spec r55 p_tplacetoothtplacetoothnerfdk) fun r68 =>
      (Option.bind (ref04_TrackErr_spec p_Listappend) fun r100 =>
      (bif (!decide (r100 = 0)) then (
        some ((((decide (r47.2 = r100)) && (decide (r68.2 = r100))) && (decide (r47.1 = 0))) && (decide ((Range.mk r68.1.Lo r68.1.Hi) = (Range.mk 0 0))))
      ) else (
        (Option.bind (ref04_ToothAt_spec p_Listappend p_String) fun r111 =>
        (bif (((decide (0 ≤ r111)) && ((!decide (r47.2 = 0)) || (!decide (r47.1 = r111)))) || ((decide (r111 < 0)) && ((!decide (r47.2 = 6)) || (!decide (r47.1 = 0))))) then (
          some false
        ) else (
          (Option.bind (ref04_ToothErr_spec p_Listappend p_tplacetoothtplacetoothnerfdk) fun r122 =>
          (bif (!decide (r122 = 0)) then (
            some ((decide (r68.2 = r122)) && (decide ((Range.mk r68.1.Lo r68.1.Hi) = (Range.mk 0 0))))
          ) else (
            (Option.bind (bif (decide (r68.2 = 0)) then ref04_PlacesOf_spec p_Listappend p_tplacetoothtplacetoothnerfdk else some default) fun r136 =>
            some ((decide (r68.2 = 0)) && (decide ((Range.mk r68.1.Lo r68.1.Hi) = r136)))
            )
          ))
          )
        ))
        )
      ))
      )
      )
      )
      )
      )
    ))
    )
  ))
  )
theorem law04_LocatePlaces_ok (L : List Value) (w : World) (hL : LtL L w) (hg0 : At w ⟨0, 0, none⟩ [.int .i64 0, .int .i64 1, .int .i64 3, .int .i64 2]) (cs_p_Listappend : List Value) (p_Listappend : LocateTrack) (h_p_Listappend : Rep.rd L w cs_p_Listappend p_Listappend) (p_String : Int) (p_tplacetoothtplacetoothnerfdk : Int) (r : Bool) (h : law04_LocatePlaces_spec p_Listappend p_String p_tplacetoothtplacetoothnerfdk = some r) :
    CallsTo Tryd.prog 9 [(.agg cs_p_Listappend.toArray), (.int .i64 p_String), (.int .i64 p_tplacetoothtplacetoothnerfdk)] w (fun v w' => Ext w w' ∧ (.bool r) = v) := by
  have e0 : Ext w w := Chg.refl _ _
  obtain ⟨v1, h2, rfl⟩ := h_p_Listappend
  refine callsTo_of_WC (n := 101) (rs := [.tmp 6]) Tryd.func9 rfl rfl rfl rfl rfl ?_
  refine WC_seqK fun K4 hK4 => ?_
  refine WC_region ?_
  refine T0_e rfl (eff_boxC (cs := [v1, (.int .i64 p_Listappend.Window), (.int .i64 p_Listappend.Tooth), (.int .i64 p_Listappend.PerVane), (.int .i64 p_Listappend.First), (.int .i64 p_Listappend.Modulus), (.int .i64 p_Listappend.Slack), (.int .i64 p_Listappend.Errors), (.bool p_Listappend.Round)]) rfl rfl ?_)
  intro b5 wd6 hb7 he8 hB9
  have hbf10 := bfresh e0 hb7
  have e11 := e0.trans he8
  refine T0_q (v := (.bool false)) rfl (yl_assign rfl) ?_
  refine T0_nil ?_
  refine hK4 _ _ ?_
  refine WC_seqK fun K13 hK13 => ?_
  refine WC_seqK fun K14 hK14 => ?_
  refine WC_region ?_
  obtain ⟨r15, hr16, h⟩ := bind_elim h
  refine T0_e rfl (eff_call Tryd.func18 nm18 rfl ev0 (law04_awake_ok [] _ (LtL.nil _) (hg0.ext e11)  r15 hr16) ?_)
  rintro _ wd17 ⟨he18, rfl⟩
  have e19 := he8.trans he18
  have e20 := e11.trans he18
  refine T0_q (v := (.bool (!r15))) rfl (yl_not rfl) ?_
  refine T0_nil ?_
  refine hK14 _ _ ?_
  refine WC_cond (b := (!r15)) rfl (fun hb21 => ?_) (fun hb21 => ?_)
  · replace h := cond_t hb21 h
    refine WC_seqK fun K22 hK22 => ?_
    refine WC_region ?_
    refine T0_q (v := (.bool false)) rfl (yl_assign rfl) ?_
    refine T0_nil ?_
    refine hK22 _ _ ?_
    refine WC_ret ?_
    replace h := some_out h
    subst h
    exact ⟨[(.bool false)], ⟨rfl, trivial⟩, e20, rfl⟩
  · replace h := cond_f hb21 h
    refine WC_skip ?_
    refine hK13 _ _ ?_
    refine WC_seqK fun K23 hK23 => ?_
    refine WC_seqK fun K24 hK24 => ?_
    refine WC_region ?_
    refine T0_q (v := (.agg (List.toArray [v1, (.int .i64 p_Listappend.Window), (.int .i64 p_Listappend.Tooth), (.int .i64 p_Listappend.PerVane), (.int .i64 p_Listappend.First), (.int .i64 p_Listappend.Modulus), (.int .i64 p_Listappend.Slack), (.int .i64 p_Listappend.Errors), (.bool p_Listappend.Round)]))) rfl (yl_loadA (cs := [v1, (.int .i64 p_Listappend.Window), (.int .i64 p_Listappend.Tooth), (.int .i64 p_Listappend.PerVane), (.int .i64 p_Listappend.First), (.int .i64 p_Listappend.Modulus), (.int .i64 p_Listappend.Slack), (.int .i64 p_Listappend.Errors), (.bool p_Listappend.Round)]) ag24 rfl (Box.at (hB9.ext he18))) ?_
    obtain ⟨r25, hr26, h⟩ := bind_elim h
    refine T0_e rfl (eff_call Tryd.func19 nm19 rfl (ev1 rfl) (law04_Short_ok [] _ (LtL.nil _) [v1, (.int .i64 p_Listappend.Window), (.int .i64 p_Listappend.Tooth), (.int .i64 p_Listappend.PerVane), (.int .i64 p_Listappend.First), (.int .i64 p_Listappend.Modulus), (.int .i64 p_Listappend.Slack), (.int .i64 p_Listappend.Errors), (.bool p_Listappend.Round)] p_Listappend ⟨v1, ((h2.ext e19).sub (fun _ h => by cases h)), rfl⟩ r25 hr26) ?_)
    rintro _ wd27 ⟨he28, rfl⟩
    have e29 := e19.trans he28
    have e30 := he18.trans he28
    have e31 := e20.trans he28
    refine T0_q (v := (.bool (!r25))) rfl (yl_not rfl) ?_
    refine T0_nil ?_
    refine hK24 _ _ ?_
    refine WC_cond (b := (!r25)) rfl (fun hb32 => ?_) (fun hb32 => ?_)
    · replace h := cond_t hb32 h
      refine WC_seqK fun K33 hK33 => ?_
      refine WC_region ?_
      refine T0_q (v := (.bool true)) rfl (yl_assign rfl) ?_
      refine T0_nil ?_
      refine hK33 _ _ ?_
      refine WC_ret ?_
      replace h := some_out h
      subst h
      exact ⟨[(.bool true)], ⟨rfl, trivial⟩, e31, rfl⟩
    · replace h := cond_f hb32 h
      refine WC_skip ?_
      refine hK23 _ _ ?_
      refine WC_seqK fun K34 hK34 => ?_
      refine WC_region ?_
      refine T0_q (v := (.agg (List.toArray [v1, (.int .i64 p_Listappend.Window), (.int .i64 p_Listappend.Tooth), (.int .i64 p_Listappend.PerVane), (.int .i64 p_Listappend.First), (.int .i64 p_Listappend.Modulus), (.int .i64 p_Listappend.Slack), (.int .i64 p_Listappend.Errors), (.bool p_Listappend.Round)]))) rfl (yl_loadA (cs := [v1, (.int .i64 p_Listappend.Window), (.int .i64 p_Listappend.Tooth), (.int .i64 p_Listappend.PerVane), (.int .i64 p_Listappend.First), (.int .i64 p_Listappend.Modulus), (.int .i64 p_Listappend.Slack), (.int .i64 p_Listappend.Errors), (.bool p_Listappend.Round)]) ag24 rfl (Box.at (hB9.ext e30))) ?_
      obtain ⟨r35, hr36, h⟩ := bind_elim h
      refine T0_e rfl (eff_call Tryd.func21 nm21 rfl (ev1 rfl) (ref04_Copy_ok L _ (hL.chg e31) [v1, (.int .i64 p_Listappend.Window), (.int .i64 p_Listappend.Tooth), (.int .i64 p_Listappend.PerVane), (.int .i64 p_Listappend.First), (.int .i64 p_Listappend.Modulus), (.int .i64 p_Listappend.Slack), (.int .i64 p_Listappend.Errors), (.bool p_Listappend.Round)] p_Listappend ⟨v1, (h2.ext e29), rfl⟩ r35 hr36) ?_)
      rintro _ wd37 ⟨he38, cs41, rfl, hrd42⟩
      have e43 := e29.trans he38
      have e44 := e30.trans he38
      have e45 := e31.trans he38
      obtain ⟨v39, h40, rfl⟩ := hrd42
      refine T0_q (v := (.int .i64 p_String)) rfl (yl_move rfl) ?_
      obtain ⟨r47, hr48, h⟩ := bind_elim h
      refine T0_e rfl (eff_call Tryd.func52 nm52 rfl (ev2 rfl rfl) (locate_ToothAt_ok [] _ (LtL.nil _) [v39, (.int .i64 r35.Window), (.int .i64 r35.Tooth), (.int .i64 r35.PerVane), (.int .i64 r35.First), (.int .i64 r35.Modulus), (.int .i64 r35.Slack), (.int .i64 r35.Errors), (.bool r35.Round)] r35 ⟨v39, (h40.sub (fun _ h => by cases h)), rfl⟩ p_String r47 hr48) ?_)
      rintro _ wd49 ⟨he50, rfl⟩
      have e51 := e43.trans he50
      have e52 := e44.trans he50
      have e53 := e45.trans he50
      refine T0_q (v := (.tuple #[(.int .i64 r47.1), (.int .i64 r47.2)])) rfl (yl_move rfl) ?_
      refine T0_q (v := (.int .i64 r47.1)) rfl (yl_extract rfl rfl) ?_
      refine T0_q (v := (.int .i64 r47.2)) rfl (yl_extract rfl rfl) ?_
      refine T0_q (v := (.int .i64 r47.1)) rfl (yl_assign rfl) ?_
      refine T0_q (v := (.int .i64 r47.2)) rfl (yl_assign rfl) ?_
      refine T0_nil ?_
      refine hK34 _ _ ?_
      refine WC_seqK fun K54 hK54 => ?_
      refine WC_region ?_
      refine T0_q (v := (.agg (List.toArray [v1, (.int .i64 p_Listappend.Window), (.int .i64 p_Listappend.Tooth), (.int .i64 p_Listappend.PerVane), (.int .i64 p_Listappend.First), (.int .i64 p_Listappend.Modulus), (.int .i64 p_Listappend.Slack), (.int .i64 p_Listappend.Errors), (.bool p_Listappend.Round)]))) rfl (yl_loadA (cs := [v1, (.int .i64 p_Listappend.Window), (.int .i64 p_Listappend.Tooth), (.int .i64 p_Listappend.PerVane), (.int .i64 p_Listappend.First), (.int .i64 p_Listappend.Modulus), (.int .i64 p_Listappend.Slack), (.int .i64 p_Listappend.Errors), (.bool p_Listappend.Round)]) ag24 rfl (Box.at (hB9.ext e52))) ?_
      obtain ⟨r55, hr56, h⟩ := bind_elim h
      refine T0_e rfl (eff_call Tryd.func21 nm21 rfl (ev1 rfl) (ref04_Copy_ok L _ (hL.chg e53) [v1, (.int .i64 p_Listappend.Window), (.int .i64 p_Listappend.Tooth), (.int .i64 p_Listappend.PerVane), (.int .i64 p_Listappend.First), (.int .i64 p_Listappend.Modulus), (.int .i64 p_Listappend.Slack), (.int .i64 p_Listappend.Errors), (.bool p_Listappend.Round)] p_Listappend ⟨v1, (h2.ext e51), rfl⟩ r55 hr56) ?_)
      rintro _ wd57 ⟨he58, cs61, rfl, hrd62⟩
      have e63 := e51.trans he58
      have e64 := he50.trans he58
      have e65 := e52.trans he58
      have e66 := e53.trans he58
      obtain ⟨v59, h60, rfl⟩ := hrd62
      refine T0_q (v := (.int .i64 p_tplacetoothtplacetoothnerfdk)) rfl (yl_move rfl) ?_
      obtain ⟨r68, hr69, h⟩ := bind_elim h
      refine T0_e rfl (eff_call Tryd.func53 nm53 rfl (ev2 rfl rfl) (locate_PlacesOf_ok [] _ (LtL.nil _) [v59, (.int .i64 r55.Window), (.int .i64 r55.Tooth), (.int .i64 r55.PerVane), (.int .i64 r55.First), (.int .i64 r55.Modulus), (.int .i64 r55.Slack), (.int .i64 r55.Errors), (.bool r55.Round)] r55 ⟨v59, (h60.sub (fun _ h => by cases h)), rfl⟩ p_tplacetoothtplacetoothnerfdk r68 hr69) ?_)
      rintro _ wd70 ⟨he71, cs72, rfl, hrd73⟩
      have e74 := e63.trans he71
      have e75 := e64.trans he71
      have e76 := e65.trans he71
      have e77 := e66.trans he71
      have hrd73 : cs72 = [(.int .i64 r68.1.Lo), (.int .i64 r68.1.Hi)] := hrd73
      subst hrd73
      refine T0_q (v := (.tuple #[(.agg (List.toArray [(.int .i64 r68.1.Lo), (.int .i64 r68.1.Hi)])), (.int .i64 r68.2)])) rfl (yl_move rfl) ?_
      refine T0_q (v := (.agg (List.toArray [(.int .i64 r68.1.Lo), (.int .i64 r68.1.Hi)]))) rfl (yl_extract rfl rfl) ?_
      refine T0_q (v := (.int .i64 r68.2)) rfl (yl_extract rfl rfl) ?_
      refine T0_e rfl (eff_allocZ zi36 ?_)
      intro b78 wd79 hb80 he81 hB82
      have hn83 : b78 ≠ b5 := box_ne (hB9.ext e76) hb80
      have hbf84 := bfresh e77 hb80
      have h85 := (h2.ext e74).step (add_box he81 hb80)
      have h86 := (h40.ext e75).step (add_box he81 hb80)
      have h87 := (h60.ext he71).step (add_box he81 hb80)
      have e88 := e76.trans he81
      have e89 := e77.trans he81
      refine T0_e rfl (eff_storeC (vs := [(.int .i64 r68.1.Lo), (.int .i64 r68.1.Hi)]) (cs' := [(.int .i64 r68.1.Lo), (.int .i64 r68.1.Hi)]) sz36 rfl rfl rfl rfl hB82 rfl (oc_cons rfl (oc_cons rfl oc_nil)) rfl ?_)
      intro wd91 hc92 hB93
      have h94 := h85.step (Stepp.chg_mem hc92 mem0)
      have h95 := (hB9.ext e88).chg hc92 (avoidb hn83)
      have h96 := h86.step (Stepp.chg_mem hc92 mem0)
      have h97 := h87.step (Stepp.chg_mem hc92 mem0)
      have e98 := chg_box e89 hc92 hbf84
      refine T0_q (v := (.int .i64 r68.2)) rfl (yl_assign rfl) ?_
      refine T0_nil ?_
      refine hK54 _ _ ?_
      refine WC_seqK fun K99 hK99 => ?_
      refine WC_region ?_
      refine T0_q (v := (.agg (List.toArray [v1, (.int .i64 p_Listappend.Window), (.int .i64 p_Listappend.Tooth), (.int .i64 p_Listappend.PerVane), (.int .i64 p_Listappend.First), (.int .i64 p_Listappend.Modulus), (.int .i64 p_Listappend.Slack), (.int .i64 p_Listappend.Errors), (.bool p_Listappend.Round)]))) rfl (yl_loadA (cs := [v1, (.int .i64 p_Listappend.Window), (.int .i64 p_Listappend.Tooth), (.int .i64 p_Listappend.PerVane), (.int .i64 p_Listappend.First), (.int .i64 p_Listappend.Modulus), (.int .i64 p_Listappend.Slack), (.int .i64 p_Listappend.Errors), (.bool p_Listappend.Round)]) ag24 rfl (Box.at h95)) ?_
      obtain ⟨r100, hr101, h⟩ := bind_elim h
      refine T0_e rfl (eff_call Tryd.func24 nm24 rfl (ev1 rfl) (ref04_TrackErr_ok [] _ (LtL.nil _) [v1, (.int .i64 p_Listappend.Window), (.int .i64 p_Listappend.Tooth), (.int .i64 p_Listappend.PerVane), (.int .i64 p_Listappend.First), (.int .i64 p_Listappend.Modulus), (.int .i64 p_Listappend.Slack), (.int .i64 p_Listappend.Errors), (.bool p_Listappend.Round)] p_Listappend ⟨v1, (h94.sub (fun _ h => by cases h)), rfl⟩ r100 hr101) ?_)
      rintro _ wd102 ⟨he103, rfl⟩
      have e104 := e98.trans he103
      refine T0_q (v := (.int .i64 r100)) rfl (yl_assign rfl) ?_
      refine T0_nil ?_
      refine hK99 _ _ ?_
      refine WC_seqK fun K105 hK105 => ?_
      refine WC_seqK fun K106 hK106 => ?_
      refine WC_region ?_
      refine T0_q (v := (.int .i64 r100)) rfl (yl_move rfl) ?_
      refine T0_q (v := (.bool (!decide (r100 = 0)))) rfl (yl_neq rfl rfl) ?_
      refine T0_nil ?_
      refine hK106 _ _ ?_
      refine WC_cond (b := (!decide (r100 = 0))) rfl (fun hb107 => ?_) (fun hb107 => ?_)
      · replace h := cond_t hb107 h
        refine WC_seqK fun K108 hK108 => ?_
        refine WC_region ?_
        refine T0_q (v := (.int .i64 r47.2)) rfl (yl_move rfl) ?_
        refine T0_q (v := (.int .i64 r100)) rfl (yl_move rfl) ?_
        refine T0_q (v := (.bool (decide (r47.2 = r100)))) rfl (yl_eql rfl rfl) ?_
        refine T0_q (v := (.bool (decide (r47.2 = r100)))) rfl (yl_move rfl) ?_
        refine T0_g (v := (.int .i64 r68.2)) (decide (r47.2 = r100)) (wanted_t rfl rfl rfl rfl) (fun hg => (yl_move rfl)) ?_
        refine T0_g (v := (.int .i64 r100)) (decide (r47.2 = r100)) (wanted_t rfl rfl rfl rfl) (fun hg => (yl_move rfl)) ?_
        refine T0_g (v := (.bool (decide (r68.2 = r100)))) (decide (r47.2 = r100)) (wanted_t rfl rfl rfl rfl) (fun hg => (yl_eql (gd_true hg) (gd_true hg))) ?_
        refine T0_q (v := (.bool ((decide (r47.2 = r100)) && (decide (r68.2 = r100))))) rfl (yl_and rfl (fun hb => (gd_true hb)) rfl) ?_
        refine T0_q (v := (.bool ((decide (r47.2 = r100)) && (decide (r68.2 = r100))))) rfl (yl_move rfl) ?_
        refine T0_g (v := (.int .i64 r47.1)) ((decide (r47.2 = r100)) && (decide (r68.2 = r100))) (wanted_t rfl rfl rfl rfl) (fun hg => (yl_move rfl)) ?_
        refine T0_g (v := (.bool (decide (r47.1 = 0)))) ((decide (r47.2 = r100)) && (decide (r68.2 = r100))) (wanted_t rfl rfl rfl rfl) (fun hg => (yl_eql (gd_true hg) rfl)) ?_
        refine T0_q (v := (.bool (((decide (r47.2 = r100)) && (decide (r68.2 = r100))) && (decide (r47.1 = 0))))) rfl (yl_and rfl (fun hb => (gd_true hb)) rfl) ?_
        refine T0_q (v := (.bool (((decide (r47.2 = r100)) && (decide (r68.2 = r100))) && (decide (r47.1 = 0))))) rfl (yl_move rfl) ?_
        refine T0_g (v := (.agg (List.toArray [(.int .i64 r68.1.Lo), (.int .i64 r68.1.Hi)]))) (((decide (r47.2 = r100)) && (decide (r68.2 = r100))) && (decide (r47.1 = 0))) (wanted_t rfl rfl rfl rfl) (fun hg => (yl_loadA (cs := [(.int .i64 r68.1.Lo), (.int .i64 r68.1.Hi)]) ag36 rfl (Box.at (hB93.ext he103)))) ?_
        refine T0_g (v := (.agg (List.toArray [(.int .i64 0), (.int .i64 0)]))) (((decide (r47.2 = r100)) && (decide (r68.2 = r100))) && (decide (r47.1 = 0))) (wanted_t rfl rfl rfl rfl) (fun hg => (yl_buildC (cells := [(.int .i64 0), (.int .i64 0)]) bi36 pc_nil rfl)) ?_
        refine T0_g (v := (.bool (decide ((Range.mk r68.1.Lo r68.1.Hi) = (Range.mk 0 0))))) (((decide (r47.2 = r100)) && (decide (r68.2 = r100))) && (decide (r47.1 = 0))) (wanted_t rfl rfl rfl rfl) (fun hg => (yl_eqlS eg36 (gd_true hg) (gd_true hg) (eqs36 (Range.mk r68.1.Lo r68.1.Hi) (Range.mk 0 0) _))) ?_
        refine T0_q (v := (.bool ((((decide (r47.2 = r100)) && (decide (r68.2 = r100))) && (decide (r47.1 = 0))) && (decide ((Range.mk r68.1.Lo r68.1.Hi) = (Range.mk 0 0)))))) rfl (yl_and rfl (fun hb => (gd_true hb)) rfl) ?_
        refine T0_q (v := (.bool ((((decide (r47.2 = r100)) && (decide (r68.2 = r100))) && (decide (r47.1 = 0))) && (decide ((Range.mk r68.1.Lo r68.1.Hi) = (Range.mk 0 0)))))) rfl (yl_assign rfl) ?_
        refine T0_nil ?_
        refine hK108 _ _ ?_
        refine WC_ret ?_
        replace h := some_out h
        subst h
        exact ⟨[(.bool ((((decide (r47.2 = r100)) && (decide (r68.2 = r100))) && (decide (r47.1 = 0))) && (decide ((Range.mk r68.1.Lo r68.1.Hi) = (Range.mk 0 0)))))], ⟨rfl, trivial⟩, e104, rfl⟩
      · replace h := cond_f hb107 h
        refine WC_skip ?_
        refine hK105 _ _ ?_
        refine WC_seqK fun K109 hK109 => ?_
        refine WC_seqK fun K110 hK110 => ?_
        refine WC_region ?_
        refine T0_q (v := (.agg (List.toArray [v1, (.int .i64 p_Listappend.Window), (.int .i64 p_Listappend.Tooth), (.int .i64 p_Listappend.PerVane), (.int .i64 p_Listappend.First), (.int .i64 p_Listappend.Modulus), (.int .i64 p_Listappend.Slack), (.int .i64 p_Listappend.Errors), (.bool p_Listappend.Round)]))) rfl (yl_loadA (cs := [v1, (.int .i64 p_Listappend.Window), (.int .i64 p_Listappend.Tooth), (.int .i64 p_Listappend.PerVane), (.int .i64 p_Listappend.First), (.int .i64 p_Listappend.Modulus), (.int .i64 p_Listappend.Slack), (.int .i64 p_Listappend.Errors), (.bool p_Listappend.Round)]) ag24 rfl (Box.at (h95.ext he103))) ?_
        refine T0_q (v := (.int .i64 p_String)) rfl (yl_move rfl) ?_
        obtain ⟨r111, hr112, h⟩ := bind_elim h
        refine T0_e rfl (eff_call Tryd.func54 nm54 rfl (ev2 rfl rfl) (ref04_ToothAt_ok [] _ (LtL.nil _) [v1, (.int .i64 p_Listappend.Window), (.int .i64 p_Listappend.Tooth), (.int .i64 p_Listappend.PerVane), (.int .i64 p_Listappend.First), (.int .i64 p_Listappend.Modulus), (.int .i64 p_Listappend.Slack), (.int .i64 p_Listappend.Errors), (.bool p_Listappend.Round)] p_Listappend ⟨v1, ((h94.ext he103).sub (fun _ h => by cases h)), rfl⟩ p_String r111 hr112) ?_)
        rintro _ wd113 ⟨he114, rfl⟩
        have e115 := he103.trans he114
        have e116 := e104.trans he114
        refine T0_q (v := (.int .i64 r111)) rfl (yl_assign rfl) ?_
        refine T0_nil ?_
        refine hK110 _ _ ?_
        refine WC_seqK fun K117 hK117 => ?_
        refine WC_region ?_
        refine T0_q (v := (.int .i64 r111)) rfl (yl_move rfl) ?_
        refine T0_q (v := (.bool (decide (0 ≤ r111)))) rfl (yl_geq rfl rfl) ?_
        refine T0_q (v := (.bool (decide (0 ≤ r111)))) rfl (yl_move rfl) ?_
        refine T0_g (v := (.int .i64 r47.2)) (decide (0 ≤ r111)) (wanted_t rfl rfl rfl rfl) (fun hg => (yl_move rfl)) ?_
        refine T0_g (v := (.bool (!decide (r47.2 = 0)))) (decide (0 ≤ r111)) (wanted_t rfl rfl rfl rfl) (fun hg => (yl_neq (gd_true hg) rfl)) ?_
        refine T0_g (v := (.bool (!decide (r47.2 = 0)))) (decide (0 ≤ r111)) (wanted_t rfl rfl rfl rfl) (fun hg => (yl_move (gd_true hg))) ?_
        refine T0_g (v := (.int .i64 r47.1)) ((decide (0 ≤ r111)) && (!(!decide (r47.2 = 0)))) (wanted_gf rfl rfl rfl rfl) (fun hg => (yl_move rfl)) ?_
        refine T0_g (v := (.int .i64 r111)) ((decide (0 ≤ r111)) && (!(!decide (r47.2 = 0)))) (wanted_gf rfl rfl rfl rfl) (fun hg => (yl_move rfl)) ?_
        refine T0_g (v := (.bool (!decide (r47.1 = r111)))) ((decide (0 ≤ r111)) && (!(!decide (r47.2 = 0)))) (wanted_gf rfl rfl rfl rfl) (fun hg => (yl_neq (gd_true hg) (gd_true hg))) ?_
        refine T0_g (v := (.bool ((!decide (r47.2 = 0)) || (!decide (r47.1 = r111))))) (decide (0 ≤ r111)) (wanted_t rfl rfl rfl rfl) (fun hg => (yl_or (gd_true hg) rfl (fun hb => (gd_true (and_i hg (not_t hb)))))) ?_
        refine T0_q (v := (.bool ((decide (0 ≤ r111)) && ((!decide (r47.2 = 0)) || (!decide (r47.1 = r111)))))) rfl (yl_and rfl (fun hb => (gd_true hb)) rfl) ?_
        refine T0_q (v := (.bool ((decide (0 ≤ r111)) && ((!decide (r47.2 = 0)) || (!decide (r47.1 = r111)))))) rfl (yl_move rfl) ?_
        refine T0_g (v := (.int .i64 r111)) (!((decide (0 ≤ r111)) && ((!decide (r47.2 = 0)) || (!decide (r47.1 = r111))))) (wanted_f rfl rfl rfl rfl) (fun hg => (yl_move rfl)) ?_
        refine T0_g (v := (.bool (decide (r111 < 0)))) (!((decide (0 ≤ r111)) && ((!decide (r47.2 = 0)) || (!decide (r47.1 = r111))))) (wanted_f rfl rfl rfl rfl) (fun hg => (yl_lss (gd_true hg) rfl)) ?_
        refine T0_g (v := (.bool (decide (r111 < 0)))) (!((decide (0 ≤ r111)) && ((!decide (r47.2 = 0)) || (!decide (r47.1 = r111))))) (wanted_f rfl rfl rfl rfl) (fun hg => (yl_move (gd_true hg))) ?_
        refine T0_g (v := (.int .i64 r47.2)) ((!((decide (0 ≤ r111)) && ((!decide (r47.2 = 0)) || (!decide (r47.1 = r111))))) && (decide (r111 < 0))) (wanted_gt rfl rfl rfl rfl) (fun hg => (yl_move rfl)) ?_
        refine T0_g (v := (.bool (!decide (r47.2 = 6)))) ((!((decide (0 ≤ r111)) && ((!decide (r47.2 = 0)) || (!decide (r47.1 = r111))))) && (decide (r111 < 0))) (wanted_gt rfl rfl rfl rfl) (fun hg => (yl_neq (gd_true hg) rfl)) ?_
        refine T0_g (v := (.bool (!decide (r47.2 = 6)))) ((!((decide (0 ≤ r111)) && ((!decide (r47.2 = 0)) || (!decide (r47.1 = r111))))) && (decide (r111 < 0))) (wanted_gt rfl rfl rfl rfl) (fun hg => (yl_move (gd_true hg))) ?_
        refine T0_g (v := (.int .i64 r47.1)) (((!((decide (0 ≤ r111)) && ((!decide (r47.2 = 0)) || (!decide (r47.1 = r111))))) && (decide (r111 < 0))) && (!(!decide (r47.2 = 6)))) (wanted_gf rfl rfl rfl rfl) (fun hg => (yl_move rfl)) ?_
        refine T0_g (v := (.bool (!decide (r47.1 = 0)))) (((!((decide (0 ≤ r111)) && ((!decide (r47.2 = 0)) || (!decide (r47.1 = r111))))) && (decide (r111 < 0))) && (!(!decide (r47.2 = 6)))) (wanted_gf rfl rfl rfl rfl) (fun hg => (yl_neq (gd_true hg) rfl)) ?_
        refine T0_g (v := (.bool ((!decide (r47.2 = 6)) || (!decide (r47.1 = 0))))) ((!((decide (0 ≤ r111)) && ((!decide (r47.2 = 0)) || (!decide (r47.1 = r111))))) && (decide (r111 < 0))) (wanted_gt rfl rfl rfl rfl) (fun hg => (yl_or (gd_true hg) rfl (fun hb => (gd_true (and_i hg (not_t hb)))))) ?_
        refine T0_g (v := (.bool ((decide (r111 < 0)) && ((!decide (r47.2 = 6)) || (!decide (r47.1 = 0)))))) (!((decide (0 ≤ r111)) && ((!decide (r47.2 = 0)) || (!decide (r47.1 = r111))))) (wanted_f rfl rfl rfl rfl) (fun hg => (yl_and (gd_true hg) (fun hb => (gd_true (and_i hg hb))) rfl)) ?_
        refine T0_q (v := (.bool (((decide (0 ≤ r111)) && ((!decide (r47.2 = 0)) || (!decide (r47.1 = r111)))) || ((decide (r111 < 0)) && ((!decide (r47.2 = 6)) || (!decide (r47.1 = 0))))))) rfl (yl_or rfl rfl (fun hb => (gd_true (not_t hb)))) ?_
        refine T0_nil ?_
        refine hK117 _ _ ?_
        refine WC_cond (b := (((decide (0 ≤ r111)) && ((!decide (r47.2 = 0)) || (!decide (r47.1 = r111)))) || ((decide (r111 < 0)) && ((!decide (r47.2 = 6)) || (!decide (r47.1 = 0)))))) rfl (fun hb118 => ?_) (fun hb118 => ?_)
        · replace h := cond_t hb118 h
          refine WC_seqK fun K119 hK119 => ?_
          refine WC_region ?_
          refine T0_q (v := (.bool false)) rfl (yl_assign rfl) ?_
          refine T0_nil ?_
          refine hK119 _ _ ?_
          refine WC_ret ?_
          replace h := some_out h
          subst h
          exact ⟨[(.bool false)], ⟨rfl, trivial⟩, e116, rfl⟩
        · replace h := cond_f hb118 h
          refine WC_skip ?_
          refine hK109 _ _ ?_
          refine WC_seqK fun K120 hK120 => ?_
          refine WC_seqK fun K121 hK121 => ?_
          refine WC_region ?_
          refine T0_q (v := (.agg (List.toArray [v1, (.int .i64 p_Listappend.Window), (.int .i64 p_Listappend.Tooth), (.int .i64 p_Listappend.PerVane), (.int .i64 p_Listappend.First), (.int .i64 p_Listappend.Modulus), (.int .i64 p_Listappend.Slack), (.int .i64 p_Listappend.Errors), (.bool p_Listappend.Round)]))) rfl (yl_loadA (cs := [v1, (.int .i64 p_Listappend.Window), (.int .i64 p_Listappend.Tooth), (.int .i64 p_Listappend.PerVane), (.int .i64 p_Listappend.First), (.int .i64 p_Listappend.Modulus), (.int .i64 p_Listappend.Slack), (.int .i64 p_Listappend.Errors), (.bool p_Listappend.Round)]) ag24 rfl (Box.at (h95.ext e115))) ?_
          refine T0_q (v := (.int .i64 p_tplacetoothtplacetoothnerfdk)) rfl (yl_move rfl) ?_
          obtain ⟨r122, hr123, h⟩ := bind_elim h
          refine T0_e rfl (eff_call Tryd.func55 nm55 rfl (ev2 rfl rfl) (ref04_ToothErr_ok [] _ (LtL.nil _) [v1, (.int .i64 p_Listappend.Window), (.int .i64 p_Listappend.Tooth), (.int .i64 p_Listappend.PerVane), (.int .i64 p_Listappend.First), (.int .i64 p_Listappend.Modulus), (.int .i64 p_Listappend.Slack), (.int .i64 p_Listappend.Errors), (.bool p_Listappend.Round)] p_Listappend ⟨v1, ((h94.ext e115).sub (fun _ h => by cases h)), rfl⟩ p_tplacetoothtplacetoothnerfdk r122 hr123) ?_)
          rintro _ wd124 ⟨he125, rfl⟩
          have e126 := e115.trans he125
          have e127 := e116.trans he125
          refine T0_q (v := (.int .i64 r122)) rfl (yl_assign rfl) ?_
          refine T0_nil ?_
          refine hK121 _ _ ?_
          refine WC_seqK fun K128 hK128 => ?_
          refine WC_region ?_
          refine T0_q (v := (.int .i64 r122)) rfl (yl_move rfl) ?_
          refine T0_q (v := (.bool (!decide (r122 = 0)))) rfl (yl_neq rfl rfl) ?_
          refine T0_nil ?_
          refine hK128 _ _ ?_
          refine WC_cond (b := (!decide (r122 = 0))) rfl (fun hb129 => ?_) (fun hb129 => ?_)
          · replace h := cond_t hb129 h
            refine WC_seqK fun K130 hK130 => ?_
            refine WC_region ?_
            refine T0_q (v := (.int .i64 r68.2)) rfl (yl_move rfl) ?_
            refine T0_q (v := (.int .i64 r122)) rfl (yl_move rfl) ?_
            refine T0_q (v := (.bool (decide (r68.2 = r122)))) rfl (yl_eql rfl rfl) ?_
            refine T0_q (v := (.bool (decide (r68.2 = r122)))) rfl (yl_move rfl) ?_
            refine T0_g (v := (.agg (List.toArray [(.int .i64 r68.1.Lo), (.int .i64 r68.1.Hi)]))) (decide (r68.2 = r122)) (wanted_t rfl rfl rfl rfl) (fun hg => (yl_loadA (cs := [(.int .i64 r68.1.Lo), (.int .i64 r68.1.Hi)]) ag36 rfl (Box.at (hB93.ext e126)))) ?_
            refine T0_g (v := (.agg (List.toArray [(.int .i64 0), (.int .i64 0)]))) (decide (r68.2 = r122)) (wanted_t rfl rfl rfl rfl) (fun hg => (yl_buildC (cells := [(.int .i64 0), (.int .i64 0)]) bi36 pc_nil rfl)) ?_
            refine T0_g (v := (.bool (decide ((Range.mk r68.1.Lo r68.1.Hi) = (Range.mk 0 0))))) (decide (r68.2 = r122)) (wanted_t rfl rfl rfl rfl) (fun hg => (yl_eqlS eg36 (gd_true hg) (gd_true hg) (eqs36 (Range.mk r68.1.Lo r68.1.Hi) (Range.mk 0 0) _))) ?_
            refine T0_q (v := (.bool ((decide (r68.2 = r122)) && (decide ((Range.mk r68.1.Lo r68.1.Hi) = (Range.mk 0 0)))))) rfl (yl_and rfl (fun hb => (gd_true hb)) rfl) ?_
            refine T0_q (v := (.bool ((decide (r68.2 = r122)) && (decide ((Range.mk r68.1.Lo r68.1.Hi) = (Range.mk 0 0)))))) rfl (yl_assign rfl) ?_
            refine T0_nil ?_
            refine hK130 _ _ ?_
            refine WC_ret ?_
            replace h := some_out h
            subst h
            exact ⟨[(.bool ((decide (r68.2 = r122)) && (decide ((Range.mk r68.1.Lo r68.1.Hi) = (Range.mk 0 0)))))], ⟨rfl, trivial⟩, e127, rfl⟩
          · replace h := cond_f hb129 h
            refine WC_skip ?_
            refine hK120 _ _ ?_
            refine WC_seqK fun K131 hK131 => ?_
            refine WC_plan mixed (.p 0 (.p 1 (.p 2 (.p 5 (.q 3 (.q 4 (.e 6 (.p 7 (.p 8 (.p 9 .done)))))))))) (by kernel_rfl) ?_
            intro wd132 he133
            have e134 := e126.trans he133
            have e135 := e127.trans he133
            refine TP_p (v := (.int .i64 r68.2)) rfl rfl (fun w' => (yl_move rfl)) ?_
            refine TP_p (v := (.bool (decide (r68.2 = 0)))) rfl rfl (fun w' => (yl_eql rfl rfl)) ?_
            refine TP_p (v := (.bool (decide (r68.2 = 0)))) rfl rfl (fun w' => (yl_move rfl)) ?_
            refine TP_gp (v := (.int .i64 p_tplacetoothtplacetoothnerfdk)) (decide (r68.2 = 0)) rfl (wanted_t rfl rfl rfl rfl) (fun w' hg => (yl_move rfl)) ?_
            refine TP_gq (v := (.agg (List.toArray [(.int .i64 r68.1.Lo), (.int .i64 r68.1.Hi)]))) (decide (r68.2 = 0)) rfl (wanted_t rfl rfl rfl rfl) (fun w' hS hg => (yl_loadA (cs := [(.int .i64 r68.1.Lo), (.int .i64 r68.1.Hi)]) ag36 rfl (Box.at (hB93.ext ((e134).trans hS))))) ?_
            refine TP_gq (v := (.agg (List.toArray [v1, (.int .i64 p_Listappend.Window), (.int .i64 p_Listappend.Tooth), (.int .i64 p_Listappend.PerVane), (.int .i64 p_Listappend.First), (.int .i64 p_Listappend.Modulus), (.int .i64 p_Listappend.Slack), (.int .i64 p_Listappend.Errors), (.bool p_Listappend.Round)]))) (decide (r68.2 = 0)) rfl (wanted_t rfl rfl rfl rfl) (fun w' hS hg => (yl_loadA (cs := [v1, (.int .i64 p_Listappend.Window), (.int .i64 p_Listappend.Tooth), (.int .i64 p_Listappend.PerVane), (.int .i64 p_Listappend.First), (.int .i64 p_Listappend.Modulus), (.int .i64 p_Listappend.Slack), (.int .i64 p_Listappend.Errors), (.bool p_Listappend.Round)]) ag24 rfl (Box.at (h95.ext ((e134).trans hS))))) ?_
            obtain ⟨r136, hr137, h⟩ := bind_elim h
            refine TP_ges (decide (r68.2 = 0)) (.agg (List.toArray [(.int .i64 r136.Lo), (.int .i64 r136.Hi)])) rfl (wanted_t rfl rfl rfl rfl) (fun hg => eff_call Tryd.func56 nm56 rfl (ev2 (gd_true hg) (gd_true hg)) (ref04_PlacesOf_ok [] _ (LtL.nil _) [v1, (.int .i64 p_Listappend.Window), (.int .i64 p_Listappend.Tooth), (.int .i64 p_Listappend.PerVane), (.int .i64 p_Listappend.First), (.int .i64 p_Listappend.Modulus), (.int .i64 p_Listappend.Slack), (.int .i64 p_Listappend.Errors), (.bool p_Listappend.Round)] p_Listappend ⟨v1, ((h94.ext e134).sub (fun _ h => by cases h)), rfl⟩ p_tplacetoothtplacetoothnerfdk r136 (cond_t hg hr137)) (by rintro _ wd138 ⟨he139, cs140, rfl, hrd141⟩; have hrd141 : cs140 = [(.int .i64 r136.Lo), (.int .i64 r136.Hi)] := hrd141; subst hrd141; exact ⟨rfl, he139⟩)) ?_
            intro wd138 he139
            have e142 := e134.trans he139
            have e143 := e135.trans he139
            refine ⟨he139, ?_⟩
            refine TP_gp (v := (.bool (decide ((Range.mk r68.1.Lo r68.1.Hi) = r136)))) (decide (r68.2 = 0)) rfl (wanted_t rfl rfl rfl rfl) (fun w' hg => (yl_eqlS eg36 (gd_true hg) (gd_true hg) (eqs36 (Range.mk r68.1.Lo r68.1.Hi) r136 _))) ?_
            refine TP_p (v := (.bool ((decide (r68.2 = 0)) && (decide ((Range.mk r68.1.Lo r68.1.Hi) = r136))))) rfl rfl (fun w' => (yl_and rfl (fun hb => (gd_true hb)) rfl)) ?_
            refine TP_p (v := (.bool ((decide (r68.2 = 0)) && (decide ((Range.mk r68.1.Lo r68.1.Hi) = r136))))) rfl rfl (fun w' => (yl_assign rfl)) ?_
            refine TP_done ?_
            refine hK131 _ _ ?_
            refine WC_ret ?_
            replace h := some_out h
            subst h
            exact ⟨[(.bool ((decide (r68.2 = 0)) && (decide ((Range.mk r68.1.Lo r68.1.Hi) = r136))))], ⟨rfl, trivial⟩, e143, rfl⟩

end Go.Gw
