/- What functions come to, printed by a program of this work. No condition. -/
import Derived.Test.YtgpapebgdnimfaaDoorGwFnC
import Derived.Test.YtgpapebgdnimfaaDoorGwFxWin
set_option maxRecDepth 4096
set_option maxHeartbeats 1000000
set_option linter.unusedVariables false
namespace Go.Gw
open Go Go.Proofs
attribute [local irreducible] T0 TS TT TP Eff Stp WC Quiet gd
noncomputable def law04_Short_spec (p_t : LocateTrack) : Option Bool :=
  some ((decide ((p_t.Vanes.length : Int) ≤ 16)) || ((decide (40 < (p_t.Vanes.length : Int))) && (decide ((p_t.Vanes.length : Int) ≤ 42))))
theorem law04_Short_ok (L : List Value) (w : World) (hL : LtL L w) (cs_p_t : List Value) (p_t : LocateTrack) (h_p_t : Rep.rd L w cs_p_t p_t) (r : Bool) (h : law04_Short_spec p_t = some r) :
    CallsTo Tryd.prog 19 [(.agg cs_p_t.toArray)] w (fun v w' => Ext w w' ∧ (.bool r) = v) := by
  have e0 : Ext w w := Chg.refl _ _
  obtain ⟨v1, h2, rfl⟩ := h_p_t
  refine callsTo_of_WC (n := 19) (rs := [.tmp 2]) Tryd.func19 rfl rfl rfl rfl rfl ?_
  refine WC_seqK fun K4 hK4 => ?_
  refine WC_region ?_
  refine T0_e rfl (eff_boxC (cs := [v1, (.int .i64 p_t.Window), (.int .i64 p_t.Tooth), (.int .i64 p_t.PerVane), (.int .i64 p_t.First), (.int .i64 p_t.Modulus), (.int .i64 p_t.Slack), (.int .i64 p_t.Errors), (.bool p_t.Round)]) rfl rfl ?_)
  intro b5 wd6 hb7 he8 hB9
  have hbf10 := bfresh e0 hb7
  have e11 := e0.trans he8
  refine T0_q (v := (.bool false)) rfl (yl_assign rfl) ?_
  refine T0_nil ?_
  refine hK4 _ _ ?_
  refine WC_seqK fun K13 hK13 => ?_
  refine WC_region ?_
  refine T0_q (v := (.pointer (some ⟨b5, 0, none⟩))) rfl (yl_fa 0 Tryd.underlying24 rfl rfl ⟨0, sz22⟩ rfl rfl) ?_
  refine T0_q (v := v1) rfl (yl_load sc22 rfl (Box.at hB9)) ?_
  refine T0_q (v := (.int .i64 (p_t.Vanes.length : Int))) rfl (yl_lenR rfl Tryd.underlying22 h2 rfl) ?_
  refine T0_q (v := (.bool (decide ((p_t.Vanes.length : Int) ≤ 16)))) rfl (yl_leq rfl rfl) ?_
  refine T0_q (v := (.bool (decide ((p_t.Vanes.length : Int) ≤ 16)))) rfl (yl_move rfl) ?_
  refine T0_g (v := (.pointer (some ⟨b5, 0, none⟩))) (!(decide ((p_t.Vanes.length : Int) ≤ 16))) (wanted_f rfl rfl rfl rfl) (fun hg => (yl_fa 0 Tryd.underlying24 rfl rfl ⟨0, sz22⟩ rfl rfl)) ?_
  refine T0_g (v := v1) (!(decide ((p_t.Vanes.length : Int) ≤ 16))) (wanted_f rfl rfl rfl rfl) (fun hg => (yl_load sc22 (gd_true hg) (Box.at hB9))) ?_
  refine T0_g (v := (.int .i64 (p_t.Vanes.length : Int))) (!(decide ((p_t.Vanes.length : Int) ≤ 16))) (wanted_f rfl rfl rfl rfl) (fun hg => (yl_lenR rfl Tryd.underlying22 h2 (gd_true hg))) ?_
  refine T0_g (v := (.bool (decide (40 < (p_t.Vanes.length : Int))))) (!(decide ((p_t.Vanes.length : Int) ≤ 16))) (wanted_f rfl rfl rfl rfl) (fun hg => (yl_gtr (gd_true hg) rfl)) ?_
  refine T0_g (v := (.bool (decide (40 < (p_t.Vanes.length : Int))))) (!(decide ((p_t.Vanes.length : Int) ≤ 16))) (wanted_f rfl rfl rfl rfl) (fun hg => (yl_move (gd_true hg))) ?_
  refine T0_g (v := (.pointer (some ⟨b5, 0, none⟩))) ((!(decide ((p_t.Vanes.length : Int) ≤ 16))) && (decide (40 < (p_t.Vanes.length : Int)))) (wanted_gt rfl rfl rfl rfl) (fun hg => (yl_fa 0 Tryd.underlying24 rfl rfl ⟨0, sz22⟩ rfl rfl)) ?_
  refine T0_g (v := v1) ((!(decide ((p_t.Vanes.length : Int) ≤ 16))) && (decide (40 < (p_t.Vanes.length : Int)))) (wanted_gt rfl rfl rfl rfl) (fun hg => (yl_load sc22 (gd_true hg) (Box.at hB9))) ?_
  refine T0_g (v := (.int .i64 (p_t.Vanes.length : Int))) ((!(decide ((p_t.Vanes.length : Int) ≤ 16))) && (decide (40 < (p_t.Vanes.length : Int)))) (wanted_gt rfl rfl rfl rfl) (fun hg => (yl_lenR rfl Tryd.underlying22 h2 (gd_true hg))) ?_
  refine T0_g (v := (.bool (decide ((p_t.Vanes.length : Int) ≤ 42)))) ((!(decide ((p_t.Vanes.length : Int) ≤ 16))) && (decide (40 < (p_t.Vanes.length : Int)))) (wanted_gt rfl rfl rfl rfl) (fun hg => (yl_leq (gd_true hg) rfl)) ?_
  refine T0_g (v := (.bool ((decide (40 < (p_t.Vanes.length : Int))) && (decide ((p_t.Vanes.length : Int) ≤ 42))))) (!(decide ((p_t.Vanes.length : Int) ≤ 16))) (wanted_f rfl rfl rfl rfl) (fun hg => (yl_and (gd_true hg) (fun hb => (gd_true (and_i hg hb))) rfl)) ?_
  refine T0_q (v := (.bool ((decide ((p_t.Vanes.length : Int) ≤ 16)) || ((decide (40 < (p_t.Vanes.length : Int))) && (decide ((p_t.Vanes.length : Int) ≤ 42)))))) rfl (yl_or rfl rfl (fun hb => (gd_true (not_t hb)))) ?_
  refine T0_q (v := (.bool ((decide ((p_t.Vanes.length : Int) ≤ 16)) || ((decide (40 < (p_t.Vanes.length : Int))) && (decide ((p_t.Vanes.length : Int) ≤ 42)))))) rfl (yl_assign rfl) ?_
  refine T0_nil ?_
  refine hK13 _ _ ?_
  refine WC_ret ?_
  replace h := some_out h
  subst h
  exact ⟨[(.bool ((decide ((p_t.Vanes.length : Int) ≤ 16)) || ((decide (40 < (p_t.Vanes.length : Int))) && (decide ((p_t.Vanes.length : Int) ≤ 42)))))], ⟨rfl, trivial⟩, e11, rfl⟩

noncomputable def law04_LocateTracks_spec (p_Listappend : LocateTrack) (p_String : Int) : Option Bool :=
  (Option.bind (law04_awake_spec) fun r15 =>
  (bif (!r15) then (
    some false
  ) else (
    (Option.bind (law04_Short_spec p_Listappend) fun r25 =>
    (bif (!r25) then (
      some true
    ) else (
      (Option.bind (ref04_Copy_spec p_Listappend) fun r35 =>
      (Option.bind (locate_CheckTrack_spec r35) fun r47 =>
      (Option.bind (ref04_Copy_spec p_Listappend) fun r55 =>
      (Option.bind (locate_WindowsOf_spec r55) fun r68 =>
      (Option.bind (ref04_Copy_spec p_Listappend) fun r77 =>
      (Option.bind (locate_TeethOf_spec r77) fun r91 =>
      (Option.bind (ref04_Copy_spec p_Listappend) fun r101 =>
      (Option.bind (locate_WindowAt_spec r101 p_String) fun r116 =>
      (Option.bind (ref04_CheckTrack_spec p_Listappend) fun r130 =>
      (bif ((!decide (r47.2 = r130.2)) || (!decide (r47.1 = r130.1))) then (
        some false
      ) else (
        (bif (!decide (r130.2 = 0)) then (
          some ((((((decide (r68.2 = r130.2)) && (decide (r91.2 = r130.2))) && (decide (r116.2 = r130.2))) && (decide (r68.1 = 0))) && (decide (r91.1 = 0))) && (decide ((r116.1.length : Int) = 0)))
        ) else (
          (Option.bind (bif (!(!decide (r68.2 = 0))) then ref04_WindowsOf_spec p_Listappend else some default) fun r151 =>
          (Option.bind (bif (!(((!decide (r68.2 = 0)) || (!decide (r68.1 = r151))) || (!decide (r91.2 = 0)))) then ref04_TeethOf_spec p_Listappend else some default) fun r163 =>
          (bif ((((!decide (r68.2 = 0)) || (!decide (r68.1 = r151))) || (!decide (r91.2 = 0))) || (!decide (r91.1 = r163))) then (
            some false
          ) else (
            (Option.bind (ref04_WindowErr_spec p_Listappend p_String) fun r179 =>
            (bif (!decide (r179 = 0)) then (
              some ((decide (r116.2 = r179)) && (decide ((r116.1.length : Int) = 0)))
            ) else (
              (Option.bind (bif (decide (r116.2 = 0)) then ref04_WindowAt_spec p_Listappend p_String else some default) fun r195 =>
              (Option.bind (bif (decide (r116.2 = 0)) then base_Ints_spec r116.1 r195 else some default) fun r213 =>
              some ((decide (r116.2 = 0)) && r213)
              )
              )
            ))
            )
          ))
          )
          )
        ))
      ))
      )
      )
      )
      )
      )
      )
      )
      )
      )
    ))
    )
  ))
  )
theorem law04_LocateTracks_ok (L : List Value) (w : World) (hL : LtL L w) (hg0 : At w ⟨0, 0, none⟩ [.int .i64 0, .int .i64 1, .int .i64 3, .int .i64 2]) (cs_p_Listappend : List Value) (p_Listappend : LocateTrack) (h_p_Listappend : Rep.rd L w cs_p_Listappend p_Listappend) (p_String : Int) (r : Bool) (h : law04_LocateTracks_spec p_Listappend p_String = some r) :
    CallsTo Tryd.prog 8 [(.agg cs_p_Listappend.toArray), (.int .i64 p_String)] w (fun v w' => Ext w w' ∧ (.bool r) = v) := by
  have e0 : Ext w w := Chg.refl _ _
  obtain ⟨v1, h2, rfl⟩ := h_p_Listappend
  refine callsTo_of_WC (n := 126) (rs := [.tmp 4]) Tryd.func8 rfl rfl rfl rfl rfl ?_
  refine WC_seqK fun K4 hK4 => ?_
  refine WC_region ?_
  refine T0_e rfl (eff_boxC (cs := [v1, (.int .i64 p_Listappend.Window), (.int .i64 p_Listappend.Tooth), (.int .i64 p_Listappend.PerVane), (.int .i64 p_Listappend.First), (.int .i64 p_Listappend.Modulus), (.int .i64 p_Listappend.Slack), (.int .i64 p_Listappend.Errors), (.bool p_Listappend.Round)]) rfl rfl ?_)
  intro b5 wd6 hb7 he8 hB9
  have hbf10 := bfresh e0 hb7
  have e11 := e0.trans he8
  refine T0_q (v := (.bool false)) rfl (yl_assign rfl) ?_
  refine T0_nil ?_
  refine hK4 _ _ ?_
  refine WC_seqK fun K13 hK13 => ?_
  refine WC_seqK fun K14 hK14 => ?_
  refine WC_region ?_
  obtain ⟨r15, hr16, h⟩ := bind_elim h
  refine T0_e rfl (eff_call Tryd.func18 nm18 rfl ev0 (law04_awake_ok [] _ (LtL.nil _) (hg0.ext e11)  r15 hr16) ?_)
  rintro _ wd17 ⟨he18, rfl⟩
  have e19 := he8.trans he18
  have e20 := e11.trans he18
  refine T0_q (v := (.bool (!r15))) rfl (yl_not rfl) ?_
  refine T0_nil ?_
  refine hK14 _ _ ?_
  refine WC_cond (b := (!r15)) rfl (fun hb21 => ?_) (fun hb21 => ?_)
  · replace h := cond_t hb21 h
    refine WC_seqK fun K22 hK22 => ?_
    refine WC_region ?_
    refine T0_q (v := (.bool false)) rfl (yl_assign rfl) ?_
    refine T0_nil ?_
    refine hK22 _ _ ?_
    refine WC_ret ?_
    replace h := some_out h
    subst h
    exact ⟨[(.bool false)], ⟨rfl, trivial⟩, e20, rfl⟩
  · replace h := cond_f hb21 h
    refine WC_skip ?_
    refine hK13 _ _ ?_
    refine WC_seqK fun K23 hK23 => ?_
    refine WC_seqK fun K24 hK24 => ?_
    refine WC_region ?_
    refine T0_q (v := (.agg (List.toArray [v1, (.int .i64 p_Listappend.Window), (.int .i64 p_Listappend.Tooth), (.int .i64 p_Listappend.PerVane), (.int .i64 p_Listappend.First), (.int .i64 p_Listappend.Modulus), (.int .i64 p_Listappend.Slack), (.int .i64 p_Listappend.Errors), (.bool p_Listappend.Round)]))) rfl (yl_loadA (cs := [v1, (.int .i64 p_Listappend.Window), (.int .i64 p_Listappend.Tooth), (.int .i64 p_Listappend.PerVane), (.int .i64 p_Listappend.First), (.int .i64 p_Listappend.Modulus), (.int .i64 p_Listappend.Slack), (.int .i64 p_Listappend.Errors), (.bool p_Listappend.Round)]) ag24 rfl (Box.at (hB9.ext he18))) ?_
    obtain ⟨r25, hr26, h⟩ := bind_elim h
    refine T0_e rfl (eff_call Tryd.func19 nm19 rfl (ev1 rfl) (law04_Short_ok [] _ (LtL.nil _) [v1, (.int .i64 p_Listappend.Window), (.int .i64 p_Listappend.Tooth), (.int .i64 p_Listappend.PerVane), (.int .i64 p_Listappend.First), (.int .i64 p_Listappend.Modulus), (.int .i64 p_Listappend.Slack), (.int .i64 p_Listappend.Errors), (.bool p_Listappend.Round)] p_Listappend ⟨v1, ((h2.ext e19).sub (fun _ h => by cases h)), rfl⟩ r25 hr26) ?_)
    rintro _ wd27 ⟨he28, rfl⟩
    have e29 := e19.trans he28
    have e30 := he18.trans he28
    have e31 := e20.trans he28
    refine T0_q (v := (.bool (!r25))) rfl (yl_not rfl) ?_
    refine T0_nil ?_
    refine hK24 _ _ ?_
    refine WC_cond (b := (!r25)) rfl (fun hb32 => ?_) (fun hb32 => ?_)
    · replace h := cond_t hb32 h
      refine WC_seqK fun K33 hK33 => ?_
      refine WC_region ?_
      refine T0_q (v := (.bool true)) rfl (yl_assign rfl) ?_
      refine T0_nil ?_
      refine hK33 _ _ ?_
      refine WC_ret ?_
      replace h := some_out h
      subst h
      exact ⟨[(.bool true)], ⟨rfl, trivial⟩, e31, rfl⟩
    · replace h := cond_f hb32 h
      refine WC_skip ?_
      refine hK23 _ _ ?_
      refine WC_seqK fun K34 hK34 => ?_
      refine WC_region ?_
      refine T0_q (v := (.agg (List.toArray [v1, (.int .i64 p_Listappend.Window), (.int .i64 p_Listappend.Tooth), (.int .i64 p_Listappend.PerVane), (.int .i64 p_Listappend.First), (.int .i64 p_Listappend.Modulus), (.int .i64 p_Listappend.Slack), (.int .i64 p_Listappend.Errors), (.bool p_Listappend.Round)]))) rfl (yl_loadA (cs := [v1, (.int .i64 p_Listappend.Window), (.int .i64 p_Listappend.Tooth), (.int .i64 p_Listappend.PerVane), (.int .i64 p_Listappend.First), (.int .i64 p_Listappend.Modulus), (.int .i64 p_Listappend.Slack), (.int .i64 p_Listappend.Errors), (.bool p_Listappend.Round)]) ag24 rfl (Box.at (hB9.ext e30))) ?_
      obtain ⟨r35, hr36, h⟩ := bind_elim h
      refine T0_e rfl (eff_call Tryd.func21 nm21 rfl (ev1 rfl) (ref04_Copy_ok L _ (hL.chg e31) [v1, (.int .i64 p_Listappend.Window), (.int .i64 p_Listappend.Tooth), (.int .i64 p_Listappend.PerVane), (.int .i64 p_Listappend.First), (.int .i64 p_Listappend.Modulus), (.int .i64 p_Listappend.Slack), (.int .i64 p_Listappend.Errors), (.bool p_Listappend.Round)] p_Listappend ⟨v1, (h2.ext e29), rfl⟩ r35 hr36) ?_)
      rintro _ wd37 ⟨he38, cs41, rfl, hrd42⟩
      have e43 := e29.trans he38
      have e44 := e30.trans he38
      have e45 := e31.trans he38
      obtain ⟨v39, h40, rfl⟩ := hrd42
      obtain ⟨r47, hr48, h⟩ := bind_elim h
      refine T0_e rfl (eff_call Tryd.func43 nm43 rfl (ev1 rfl) (locate_CheckTrack_ok [] _ (LtL.nil _) [v39, (.int .i64 r35.Window), (.int .i64 r35.Tooth), (.int .i64 r35.PerVane), (.int .i64 r35.First), (.int .i64 r35.Modulus), (.int .i64 r35.Slack), (.int .i64 r35.Errors), (.bool r35.Round)] r35 ⟨v39, (h40.sub (fun _ h => by cases h)), rfl⟩ r47 hr48) ?_)
      rintro _ wd49 ⟨he50, rfl⟩
      have e51 := e43.trans he50
      have e52 := e44.trans he50
      have e53 := e45.trans he50
      refine T0_q (v := (.tuple #[(.int .i64 r47.1), (.int .i64 r47.2)])) rfl (yl_move rfl) ?_
      refine T0_q (v := (.int .i64 r47.1)) rfl (yl_extract rfl rfl) ?_
      refine T0_q (v := (.int .i64 r47.2)) rfl (yl_extract rfl rfl) ?_
      refine T0_q (v := (.int .i64 r47.1)) rfl (yl_assign rfl) ?_
      refine T0_q (v := (.int .i64 r47.2)) rfl (yl_assign rfl) ?_
      refine T0_nil ?_
      refine hK34 _ _ ?_
      refine WC_seqK fun K54 hK54 => ?_
      refine WC_region ?_
      refine T0_q (v := (.agg (List.toArray [v1, (.int .i64 p_Listappend.Window), (.int .i64 p_Listappend.Tooth), (.int .i64 p_Listappend.PerVane), (.int .i64 p_Listappend.First), (.int .i64 p_Listappend.Modulus), (.int .i64 p_Listappend.Slack), (.int .i64 p_Listappend.Errors), (.bool p_Listappend.Round)]))) rfl (yl_loadA (cs := [v1, (.int .i64 p_Listappend.Window), (.int .i64 p_Listappend.Tooth), (.int .i64 p_Listappend.PerVane), (.int .i64 p_Listappend.First), (.int .i64 p_Listappend.Modulus), (.int .i64 p_Listappend.Slack), (.int .i64 p_Listappend.Errors), (.bool p_Listappend.Round)]) ag24 rfl (Box.at (hB9.ext e52))) ?_
      obtain ⟨r55, hr56, h⟩ := bind_elim h
      refine T0_e rfl (eff_call Tryd.func21 nm21 rfl (ev1 rfl) (ref04_Copy_ok L _ (hL.chg e53) [v1, (.int .i64 p_Listappend.Window), (.int .i64 p_Listappend.Tooth), (.int .i64 p_Listappend.PerVane), (.int .i64 p_Listappend.First), (.int .i64 p_Listappend.Modulus), (.int .i64 p_Listappend.Slack), (.int .i64 p_Listappend.Errors), (.bool p_Listappend.Round)] p_Listappend ⟨v1, (h2.ext e51), rfl⟩ r55 hr56) ?_)
      rintro _ wd57 ⟨he58, cs61, rfl, hrd62⟩
      have e63 := e51.trans he58
      have e64 := he50.trans he58
      have e65 := e52.trans he58
      have e66 := e53.trans he58
      obtain ⟨v59, h60, rfl⟩ := hrd62
      obtain ⟨r68, hr69, h⟩ := bind_elim h
      refine T0_e rfl (eff_call Tryd.func44 nm44 rfl (ev1 rfl) (locate_WindowsOf_ok [] _ (LtL.nil _) [v59, (.int .i64 r55.Window), (.int .i64 r55.Tooth), (.int .i64 r55.PerVane), (.int .i64 r55.First), (.int .i64 r55.Modulus), (.int .i64 r55.Slack), (.int .i64 r55.Errors), (.bool r55.Round)] r55 ⟨v59, (h60.sub (fun _ h => by cases h)), rfl⟩ r68 hr69) ?_)
      rintro _ wd70 ⟨he71, rfl⟩
      have e72 := e63.trans he71
      have e73 := e64.trans he71
      have e74 := e65.trans he71
      have e75 := e66.trans he71
      refine T0_q (v := (.tuple #[(.int .i64 r68.1), (.int .i64 r68.2)])) rfl (yl_move rfl) ?_
      refine T0_q (v := (.int .i64 r68.1)) rfl (yl_extract rfl rfl) ?_
      refine T0_q (v := (.int .i64 r68.2)) rfl (yl_extract rfl rfl) ?_
      refine T0_q (v := (.int .i64 r68.1)) rfl (yl_assign rfl) ?_
      refine T0_q (v := (.int .i64 r68.2)) rfl (yl_assign rfl) ?_
      refine T0_nil ?_
      refine hK54 _ _ ?_
      refine WC_seqK fun K76 hK76 => ?_
      refine WC_region ?_
      refine T0_q (v := (.agg (List.toArray [v1, (.int .i64 p_Listappend.Window), (.int .i64 p_Listappend.Tooth), (.int .i64 p_Listappend.PerVane), (.int .i64 p_Listappend.First), (.int .i64 p_Listappend.Modulus), (.int .i64 p_Listappend.Slack), (.int .i64 p_Listappend.Errors), (.bool p_Listappend.Round)]))) rfl (yl_loadA (cs := [v1, (.int .i64 p_Listappend.Window), (.int .i64 p_Listappend.Tooth), (.int .i64 p_Listappend.PerVane), (.int .i64 p_Listappend.First), (.int .i64 p_Listappend.Modulus), (.int .i64 p_Listappend.Slack), (.int .i64 p_Listappend.Errors), (.bool p_Listappend.Round)]) ag24 rfl (Box.at (hB9.ext e74))) ?_
      obtain ⟨r77, hr78, h⟩ := bind_elim h
      refine T0_e rfl (eff_call Tryd.func21 nm21 rfl (ev1 rfl) (ref04_Copy_ok L _ (hL.chg e75) [v1, (.int .i64 p_Listappend.Window), (.int .i64 p_Listappend.Tooth), (.int .i64 p_Listappend.PerVane), (.int .i64 p_Listappend.First), (.int .i64 p_Listappend.Modulus), (.int .i64 p_Listappend.Slack), (.int .i64 p_Listappend.Errors), (.bool p_Listappend.Round)] p_Listappend ⟨v1, (h2.ext e72), rfl⟩ r77 hr78) ?_)
      rintro _ wd79 ⟨he80, cs83, rfl, hrd84⟩
      have e85 := e72.trans he80
      have e86 := e73.trans he80
      have e87 := he71.trans he80
      have e88 := e74.trans he80
      have e89 := e75.trans he80
      obtain ⟨v81, h82, rfl⟩ := hrd84
      obtain ⟨r91, hr92, h⟩ := bind_elim h
      refine T0_e rfl (eff_call Tryd.func45 nm45 rfl (ev1 rfl) (locate_TeethOf_ok [] _ (LtL.nil _) [v81, (.int .i64 r77.Window), (.int .i64 r77.Tooth), (.int .i64 r77.PerVane), (.int .i64 r77.First), (.int .i64 r77.Modulus), (.int .i64 r77.Slack), (.int .i64 r77.Errors), (.bool r77.Round)] r77 ⟨v81, (h82.sub (fun _ h => by cases h)), rfl⟩ r91 hr92) ?_)
      rintro _ wd93 ⟨he94, rfl⟩
      have e95 := e85.trans he94
      have e96 := e86.trans he94
      have e97 := e87.trans he94
      have e98 := e88.trans he94
      have e99 := e89.trans he94
      refine T0_q (v := (.tuple #[(.int .i64 r91.1), (.int .i64 r91.2)])) rfl (yl_move rfl) ?_
      refine T0_q (v := (.int .i64 r91.1)) rfl (yl_extract rfl rfl) ?_
      refine T0_q (v := (.int .i64 r91.2)) rfl (yl_extract rfl rfl) ?_
      refine T0_q (v := (.int .i64 r91.1)) rfl (yl_assign rfl) ?_
      refine T0_q (v := (.int .i64 r91.2)) rfl (yl_assign rfl) ?_
      refine T0_nil ?_
      refine hK76 _ _ ?_
      refine WC_seqK fun K100 hK100 => ?_
      refine WC_region ?_
      refine T0_q (v := (.agg (List.toArray [v1, (.int .i64 p_Listappend.Window), (.int .i64 p_Listappend.Tooth), (.int .i64 p_Listappend.PerVane), (.int .i64 p_Listappend.First), (.int .i64 p_Listappend.Modulus), (.int .i64 p_Listappend.Slack), (.int .i64 p_Listappend.Errors), (.bool p_Listappend.Round)]))) rfl (yl_loadA (cs := [v1, (.int .i64 p_Listappend.Window), (.int .i64 p_Listappend.Tooth), (.int .i64 p_Listappend.PerVane), (.int .i64 p_Listappend.First), (.int .i64 p_Listappend.Modulus), (.int .i64 p_Listappend.Slack), (.int .i64 p_Listappend.Errors), (.bool p_Listappend.Round)]) ag24 rfl (Box.at (hB9.ext e98))) ?_
      obtain ⟨r101, hr102, h⟩ := bind_elim h
      refine T0_e rfl (eff_call Tryd.func21 nm21 rfl (ev1 rfl) (ref04_Copy_ok L _ (hL.chg e99) [v1, (.int .i64 p_Listappend.Window), (.int .i64 p_Listappend.Tooth), (.int .i64 p_Listappend.PerVane), (.int .i64 p_Listappend.First), (.int .i64 p_Listappend.Modulus), (.int .i64 p_Listappend.Slack), (.int .i64 p_Listappend.Errors), (.bool p_Listappend.Round)] p_Listappend ⟨v1, (h2.ext e95), rfl⟩ r101 hr102) ?_)
      rintro _ wd103 ⟨he104, cs107, rfl, hrd108⟩
      have e109 := e95.trans he104
      have e110 := e96.trans he104
      have e111 := e97.trans he104
      have e112 := e98.trans he104
      have e113 := he94.trans he104
      have e114 := e99.trans he104
      obtain ⟨v105, h106, rfl⟩ := hrd108
      refine T0_q (v := (.int .i64 p_String)) rfl (yl_move rfl) ?_
      obtain ⟨r116, hr117, h⟩ := bind_elim h
      refine T0_e rfl (eff_call Tryd.func46 nm46 rfl (ev2 rfl rfl) (locate_WindowAt_ok L _ (hL.chg e114) [v105, (.int .i64 r101.Window), (.int .i64 r101.Tooth), (.int .i64 r101.PerVane), (.int .i64 r101.First), (.int .i64 r101.Modulus), (.int .i64 r101.Slack), (.int .i64 r101.Errors), (.bool r101.Round)] r101 ⟨v105, h106, rfl⟩ p_String r116 hr117) ?_)
      rintro _ wd118 ⟨he119, v120, rfl, h121⟩
      have e122 := e109.trans he119
      have e123 := e110.trans he119
      have e124 := e111.trans he119
      have e125 := e112.trans he119
      have e126 := e113.trans he119
      have e127 := e114.trans he119
      refine T0_q (v := (.tuple #[v120, (.int .i64 r116.2)])) rfl (yl_move rfl) ?_
      refine T0_q (v := v120) rfl (yl_extract rfl rfl) ?_
      refine T0_q (v := (.int .i64 r116.2)) rfl (yl_extract rfl rfl) ?_
      refine T0_q (v := v120) rfl (yl_assign rfl) ?_
      refine T0_q (v := (.int .i64 r116.2)) rfl (yl_assign rfl) ?_
      refine T0_nil ?_
      refine hK100 _ _ ?_
      refine WC_seqK fun K129 hK129 => ?_
      refine WC_region ?_
      refine T0_q (v := (.agg (List.toArray [v1, (.int .i64 p_Listappend.Window), (.int .i64 p_Listappend.Tooth), (.int .i64 p_Listappend.PerVane), (.int .i64 p_Listappend.First), (.int .i64 p_Listappend.Modulus), (.int .i64 p_Listappend.Slack), (.int .i64 p_Listappend.Errors), (.bool p_Listappend.Round)]))) rfl (yl_loadA (cs := [v1, (.int .i64 p_Listappend.Window), (.int .i64 p_Listappend.Tooth), (.int .i64 p_Listappend.PerVane), (.int .i64 p_Listappend.First), (.int .i64 p_Listappend.Modulus), (.int .i64 p_Listappend.Slack), (.int .i64 p_Listappend.Errors), (.bool p_Listappend.Round)]) ag24 rfl (Box.at (hB9.ext e125))) ?_
      obtain ⟨r130, hr131, h⟩ := bind_elim h
      refine T0_e rfl (eff_call Tryd.func47 nm47 rfl (ev1 rfl) (ref04_CheckTrack_ok [] _ (LtL.nil _) [v1, (.int .i64 p_Listappend.Window), (.int .i64 p_Listappend.Tooth), (.int .i64 p_Listappend.PerVane), (.int .i64 p_Listappend.First), (.int .i64 p_Listappend.Modulus), (.int .i64 p_Listappend.Slack), (.int .i64 p_Listappend.Errors), (.bool p_Listappend.Round)] p_Listappend ⟨v1, ((h2.ext e122).sub (fun _ h => by cases h)), rfl⟩ r130 hr131) ?_)
      rintro _ wd132 ⟨he133, rfl⟩
      have e134 := e122.trans he133
      have e135 := he119.trans he133
      have e136 := e123.trans he133
      have e137 := e124.trans he133
      have e138 := e125.trans he133
      have e139 := e126.trans he133
      have e140 := e127.trans he133
      refine T0_q (v := (.tuple #[(.int .i64 r130.1), (.int .i64 r130.2)])) rfl (yl_move rfl) ?_
      refine T0_q (v := (.int .i64 r130.1)) rfl (yl_extract rfl rfl) ?_
      refine T0_q (v := (.int .i64 r130.2)) rfl (yl_extract rfl rfl) ?_
      refine T0_q (v := (.int .i64 r130.1)) rfl (yl_assign rfl) ?_
      refine T0_q (v := (.int .i64 r130.2)) rfl (yl_assign rfl) ?_
      refine T0_nil ?_
      refine hK129 _ _ ?_
      refine WC_seqK fun K141 hK141 => ?_
      refine WC_seqK fun K142 hK142 => ?_
      refine WC_region ?_
      refine T0_q (v := (.int .i64 r47.2)) rfl (yl_move rfl) ?_
      refine T0_q (v := (.int .i64 r130.2)) rfl (yl_move rfl) ?_
      refine T0_q (v := (.bool (!decide (r47.2 = r130.2)))) rfl (yl_neq rfl rfl) ?_
      refine T0_q (v := (.bool (!decide (r47.2 = r130.2)))) rfl (yl_move rfl) ?_
      refine T0_g (v := (.int .i64 r47.1)) (!(!decide (r47.2 = r130.2))) (wanted_f rfl rfl rfl rfl) (fun hg => (yl_move rfl)) ?_
      refine T0_g (v := (.int .i64 r130.1)) (!(!decide (r47.2 = r130.2))) (wanted_f rfl rfl rfl rfl) (fun hg => (yl_move rfl)) ?_
      refine T0_g (v := (.bool (!decide (r47.1 = r130.1)))) (!(!decide (r47.2 = r130.2))) (wanted_f rfl rfl rfl rfl) (fun hg => (yl_neq (gd_true hg) (gd_true hg))) ?_
      refine T0_q (v := (.bool ((!decide (r47.2 = r130.2)) || (!decide (r47.1 = r130.1))))) rfl (yl_or rfl rfl (fun hb => (gd_true (not_t hb)))) ?_
      refine T0_nil ?_
      refine hK142 _ _ ?_
      refine WC_cond (b := ((!decide (r47.2 = r130.2)) || (!decide (r47.1 = r130.1)))) rfl (fun hb143 => ?_) (fun hb143 => ?_)
      · replace h := cond_t hb143 h
        refine WC_seqK fun K144 hK144 => ?_
        refine WC_region ?_
        refine T0_q (v := (.bool false)) rfl (yl_assign rfl) ?_
        refine T0_nil ?_
        refine hK144 _ _ ?_
        refine WC_ret ?_
        replace h := some_out h
        subst h
        exact ⟨[(.bool false)], ⟨rfl, trivial⟩, e140, rfl⟩
      · replace h := cond_f hb143 h
        refine WC_skip ?_
        refine hK141 _ _ ?_
        refine WC_seqK fun K145 hK145 => ?_
        refine WC_seqK fun K146 hK146 => ?_
        refine WC_region ?_
        refine T0_q (v := (.int .i64 r130.2)) rfl (yl_move rfl) ?_
        refine T0_q (v := (.bool (!decide (r130.2 = 0)))) rfl (yl_neq rfl rfl) ?_
        refine T0_nil ?_
        refine hK146 _ _ ?_
        refine WC_cond (b := (!decide (r130.2 = 0))) rfl (fun hb147 => ?_) (fun hb147 => ?_)
        · replace h := cond_t hb147 h
          refine WC_seqK fun K148 hK148 => ?_
          refine WC_region ?_
          refine T0_q (v := (.int .i64 r68.2)) rfl (yl_move rfl) ?_
          refine T0_q (v := (.int .i64 r130.2)) rfl (yl_move rfl) ?_
          refine T0_q (v := (.bool (decide (r68.2 = r130.2)))) rfl (yl_eql rfl rfl) ?_
          refine T0_q (v := (.bool (decide (r68.2 = r130.2)))) rfl (yl_move rfl) ?_
          refine T0_g (v := (.int .i64 r91.2)) (decide (r68.2 = r130.2)) (wanted_t rfl rfl rfl rfl) (fun hg => (yl_move rfl)) ?_
          refine T0_g (v := (.int .i64 r130.2)) (decide (r68.2 = r130.2)) (wanted_t rfl rfl rfl rfl) (fun hg => (yl_move rfl)) ?_
          refine T0_g (v := (.bool (decide (r91.2 = r130.2)))) (decide (r68.2 = r130.2)) (wanted_t rfl rfl rfl rfl) (fun hg => (yl_eql (gd_true hg) (gd_true hg))) ?_
          refine T0_q (v := (.bool ((decide (r68.2 = r130.2)) && (decide (r91.2 = r130.2))))) rfl (yl_and rfl (fun hb => (gd_true hb)) rfl) ?_
          refine T0_q (v := (.bool ((decide (r68.2 = r130.2)) && (decide (r91.2 = r130.2))))) rfl (yl_move rfl) ?_
          refine T0_g (v := (.int .i64 r116.2)) ((decide (r68.2 = r130.2)) && (decide (r91.2 = r130.2))) (wanted_t rfl rfl rfl rfl) (fun hg => (yl_move rfl)) ?_
          refine T0_g (v := (.int .i64 r130.2)) ((decide (r68.2 = r130.2)) && (decide (r91.2 = r130.2))) (wanted_t rfl rfl rfl rfl) (fun hg => (yl_move rfl)) ?_
          refine T0_g (v := (.bool (decide (r116.2 = r130.2)))) ((decide (r68.2 = r130.2)) && (decide (r91.2 = r130.2))) (wanted_t rfl rfl rfl rfl) (fun hg => (yl_eql (gd_true hg) (gd_true hg))) ?_
          refine T0_q (v := (.bool (((decide (r68.2 = r130.2)) && (decide (r91.2 = r130.2))) && (decide (r116.2 = r130.2))))) rfl (yl_and rfl (fun hb => (gd_true hb)) rfl) ?_
          refine T0_q (v := (.bool (((decide (r68.2 = r130.2)) && (decide (r91.2 = r130.2))) && (decide (r116.2 = r130.2))))) rfl (yl_move rfl) ?_
          refine T0_g (v := (.int .i64 r68.1)) (((decide (r68.2 = r130.2)) && (decide (r91.2 = r130.2))) && (decide (r116.2 = r130.2))) (wanted_t rfl rfl rfl rfl) (fun hg => (yl_move rfl)) ?_
          refine T0_g (v := (.bool (decide (r68.1 = 0)))) (((decide (r68.2 = r130.2)) && (decide (r91.2 = r130.2))) && (decide (r116.2 = r130.2))) (wanted_t rfl rfl rfl rfl) (fun hg => (yl_eql (gd_true hg) rfl)) ?_
          refine T0_q (v := (.bool ((((decide (r68.2 = r130.2)) && (decide (r91.2 = r130.2))) && (decide (r116.2 = r130.2))) && (decide (r68.1 = 0))))) rfl (yl_and rfl (fun hb => (gd_true hb)) rfl) ?_
          refine T0_q (v := (.bool ((((decide (r68.2 = r130.2)) && (decide (r91.2 = r130.2))) && (decide (r116.2 = r130.2))) && (decide (r68.1 = 0))))) rfl (yl_move rfl) ?_
          refine T0_g (v := (.int .i64 r91.1)) ((((decide (r68.2 = r130.2)) && (decide (r91.2 = r130.2))) && (decide (r116.2 = r130.2))) && (decide (r68.1 = 0))) (wanted_t rfl rfl rfl rfl) (fun hg => (yl_move rfl)) ?_
          refine T0_g (v := (.bool (decide (r91.1 = 0)))) ((((decide (r68.2 = r130.2)) && (decide (r91.2 = r130.2))) && (decide (r116.2 = r130.2))) && (decide (r68.1 = 0))) (wanted_t rfl rfl rfl rfl) (fun hg => (yl_eql (gd_true hg) rfl)) ?_
          refine T0_q (v := (.bool (((((decide (r68.2 = r130.2)) && (decide (r91.2 = r130.2))) && (decide (r116.2 = r130.2))) && (decide (r68.1 = 0))) && (decide (r91.1 = 0))))) rfl (yl_and rfl (fun hb => (gd_true hb)) rfl) ?_
          refine T0_q (v := (.bool (((((decide (r68.2 = r130.2)) && (decide (r91.2 = r130.2))) && (decide (r116.2 = r130.2))) && (decide (r68.1 = 0))) && (decide (r91.1 = 0))))) rfl (yl_move rfl) ?_
          refine T0_g (v := v120) (((((decide (r68.2 = r130.2)) && (decide (r91.2 = r130.2))) && (decide (r116.2 = r130.2))) && (decide (r68.1 = 0))) && (decide (r91.1 = 0))) (wanted_t rfl rfl rfl rfl) (fun hg => (yl_move rfl)) ?_
          refine T0_g (v := (.int .i64 (r116.1.length : Int))) (((((decide (r68.2 = r130.2)) && (decide (r91.2 = r130.2))) && (decide (r116.2 = r130.2))) && (decide (r68.1 = 0))) && (decide (r91.1 = 0))) (wanted_t rfl rfl rfl rfl) (fun hg => (yl_lenR rfl Tryd.underlying22 h121 (gd_true hg))) ?_
          refine T0_g (v := (.bool (decide ((r116.1.length : Int) = 0)))) (((((decide (r68.2 = r130.2)) && (decide (r91.2 = r130.2))) && (decide (r116.2 = r130.2))) && (decide (r68.1 = 0))) && (decide (r91.1 = 0))) (wanted_t rfl rfl rfl rfl) (fun hg => (yl_eql (gd_true hg) rfl)) ?_
          refine T0_q (v := (.bool ((((((decide (r68.2 = r130.2)) && (decide (r91.2 = r130.2))) && (decide (r116.2 = r130.2))) && (decide (r68.1 = 0))) && (decide (r91.1 = 0))) && (decide ((r116.1.length : Int) = 0))))) rfl (yl_and rfl (fun hb => (gd_true hb)) rfl) ?_
          refine T0_q (v := (.bool ((((((decide (r68.2 = r130.2)) && (decide (r91.2 = r130.2))) && (decide (r116.2 = r130.2))) && (decide (r68.1 = 0))) && (decide (r91.1 = 0))) && (decide ((r116.1.length : Int) = 0))))) rfl (yl_assign rfl) ?_
          refine T0_nil ?_
          refine hK148 _ _ ?_
          refine WC_ret ?_
          replace h := some_out h
          subst h
          exact ⟨[(.bool ((((((decide (r68.2 = r130.2)) && (decide (r91.2 = r130.2))) && (decide (r116.2 = r130.2))) && (decide (r68.1 = 0))) && (decide (r91.1 = 0))) && (decide ((r116.1.length : Int) = 0))))], ⟨rfl, trivial⟩, e140, rfl⟩
        · replace h := cond_f hb147 h
          refine WC_skip ?_
          refine hK145 _ _ ?_
          refine WC_seqK fun K149 hK149 => ?_
          refine WC_seqK fun K150 hK150 => ?_
          refine WC_region ?_
          refine T0_q (v := (.int .i64 r68.2)) rfl (yl_move rfl) ?_
          refine T0_q (v := (.bool (!decide (r68.2 = 0)))) rfl (yl_neq rfl rfl) ?_
          refine T0_q (v := (.bool (!decide (r68.2 = 0)))) rfl (yl_move rfl) ?_
          refine T0_g (v := (.int .i64 r68.1)) (!(!decide (r68.2 = 0))) (wanted_f rfl rfl rfl rfl) (fun hg => (yl_move rfl)) ?_
          refine T0_g (v := (.agg (List.toArray [v1, (.int .i64 p_Listappend.Window), (.int .i64 p_Listappend.Tooth), (.int .i64 p_Listappend.PerVane), (.int .i64 p_Listappend.First), (.int .i64 p_Listappend.Modulus), (.int .i64 p_Listappend.Slack), (.int .i64 p_Listappend.Errors), (.bool p_Listappend.Round)]))) (!(!decide (r68.2 = 0))) (wanted_f rfl rfl rfl rfl) (fun hg => (yl_loadA (cs := [v1, (.int .i64 p_Listappend.Window), (.int .i64 p_Listappend.Tooth), (.int .i64 p_Listappend.PerVane), (.int .i64 p_Listappend.First), (.int .i64 p_Listappend.Modulus), (.int .i64 p_Listappend.Slack), (.int .i64 p_Listappend.Errors), (.bool p_Listappend.Round)]) ag24 rfl (Box.at (hB9.ext e138)))) ?_
          obtain ⟨r151, hr152, h⟩ := bind_elim h
          refine T0_ges (!(!decide (r68.2 = 0))) (.int .i64 r151) (wanted_f rfl rfl rfl rfl) (fun hg => eff_call Tryd.func48 nm48 rfl (ev1 (gd_true hg)) (ref04_WindowsOf_ok [] _ (LtL.nil _) [v1, (.int .i64 p_Listappend.Window), (.int .i64 p_Listappend.Tooth), (.int .i64 p_Listappend.PerVane), (.int .i64 p_Listappend.First), (.int .i64 p_Listappend.Modulus), (.int .i64 p_Listappend.Slack), (.int .i64 p_Listappend.Errors), (.bool p_Listappend.Round)] p_Listappend ⟨v1, ((h2.ext e134).sub (fun _ h => by cases h)), rfl⟩ r151 (cond_t hg hr152)) (by rintro _ wd153 ⟨he154, rfl⟩; exact ⟨rfl, he154⟩)) ?_
          intro wd153 he154
          have e155 := e134.trans he154
          have e156 := e135.trans he154
          have e157 := he133.trans he154
          have e158 := e136.trans he154
          have e159 := e137.trans he154
          have e160 := e138.trans he154
          have e161 := e139.trans he154
          have e162 := e140.trans he154
          refine T0_g (v := (.bool (!decide (r68.1 = r151)))) (!(!decide (r68.2 = 0))) (wanted_f rfl rfl rfl rfl) (fun hg => (yl_neq (gd_true hg) (gd_true hg))) ?_
          refine T0_q (v := (.bool ((!decide (r68.2 = 0)) || (!decide (r68.1 = r151))))) rfl (yl_or rfl rfl (fun hb => (gd_true (not_t hb)))) ?_
          refine T0_q (v := (.bool ((!decide (r68.2 = 0)) || (!decide (r68.1 = r151))))) rfl (yl_move rfl) ?_
          refine T0_g (v := (.int .i64 r91.2)) (!((!decide (r68.2 = 0)) || (!decide (r68.1 = r151)))) (wanted_f rfl rfl rfl rfl) (fun hg => (yl_move rfl)) ?_
          refine T0_g (v := (.bool (!decide (r91.2 = 0)))) (!((!decide (r68.2 = 0)) || (!decide (r68.1 = r151)))) (wanted_f rfl rfl rfl rfl) (fun hg => (yl_neq (gd_true hg) rfl)) ?_
          refine T0_q (v := (.bool (((!decide (r68.2 = 0)) || (!decide (r68.1 = r151))) || (!decide (r91.2 = 0))))) rfl (yl_or rfl rfl (fun hb => (gd_true (not_t hb)))) ?_
          refine T0_q (v := (.bool (((!decide (r68.2 = 0)) || (!decide (r68.1 = r151))) || (!decide (r91.2 = 0))))) rfl (yl_move rfl) ?_
          refine T0_g (v := (.int .i64 r91.1)) (!(((!decide (r68.2 = 0)) || (!decide (r68.1 = r151))) || (!decide (r91.2 = 0)))) (wanted_f rfl rfl rfl rfl) (fun hg => (yl_move rfl)) ?_
          refine T0_g (v := (.agg (List.toArray [v1, (.int .i64 p_Listappend.Window), (.int .i64 p_Listappend.Tooth), (.int .i64 p_Listappend.PerVane), (.int .i64 p_Listappend.First), (.int .i64 p_Listappend.Modulus), (.int .i64 p_Listappend.Slack), (.int .i64 p_Listappend.Errors), (.bool p_Listappend.Round)]))) (!(((!decide (r68.2 = 0)) || (!decide (r68.1 = r151))) || (!decide (r91.2 = 0)))) (wanted_f rfl rfl rfl rfl) (fun hg => (yl_loadA (cs := [v1, (.int .i64 p_Listappend.Window), (.int .i64 p_Listappend.Tooth), (.int .i64 p_Listappend.PerVane), (.int .i64 p_Listappend.First), (.int .i64 p_Listappend.Modulus), (.int .i64 p_Listappend.Slack), (.int .i64 p_Listappend.Errors), (.bool p_Listappend.Round)]) ag24 rfl (Box.at (hB9.ext e160)))) ?_
          obtain ⟨r163, hr164, h⟩ := bind_elim h
          refine T0_ges (!(((!decide (r68.2 = 0)) || (!decide (r68.1 = r151))) || (!decide (r91.2 = 0)))) (.int .i64 r163) (wanted_f rfl rfl rfl rfl) (fun hg => eff_call Tryd.func49 nm49 rfl (ev1 (gd_true hg)) (ref04_TeethOf_ok [] _ (LtL.nil _) [v1, (.int .i64 p_Listappend.Window), (.int .i64 p_Listappend.Tooth), (.int .i64 p_Listappend.PerVane), (.int .i64 p_Listappend.First), (.int .i64 p_Listappend.Modulus), (.int .i64 p_Listappend.Slack), (.int .i64 p_Listappend.Errors), (.bool p_Listappend.Round)] p_Listappend ⟨v1, ((h2.ext e155).sub (fun _ h => by cases h)), rfl⟩ r163 (cond_t hg hr164)) (by rintro _ wd165 ⟨he166, rfl⟩; exact ⟨rfl, he166⟩)) ?_
          intro wd165 he166
          have e167 := e155.trans he166
          have e168 := e156.trans he166
          have e169 := e157.trans he166
          have e170 := e158.trans he166
          have e171 := e159.trans he166
          have e172 := e160.trans he166
          have e173 := e161.trans he166
          have e174 := e162.trans he166
          refine T0_g (v := (.bool (!decide (r91.1 = r163)))) (!(((!decide (r68.2 = 0)) || (!decide (r68.1 = r151))) || (!decide (r91.2 = 0)))) (wanted_f rfl rfl rfl rfl) (fun hg => (yl_neq (gd_true hg) (gd_true hg))) ?_
          refine T0_q (v := (.bool ((((!decide (r68.2 = 0)) || (!decide (r68.1 = r151))) || (!decide (r91.2 = 0))) || (!decide (r91.1 = r163))))) rfl (yl_or rfl rfl (fun hb => (gd_true (not_t hb)))) ?_
          refine T0_nil ?_
          refine hK150 _ _ ?_
          refine WC_cond (b := ((((!decide (r68.2 = 0)) || (!decide (r68.1 = r151))) || (!decide (r91.2 = 0))) || (!decide (r91.1 = r163)))) rfl (fun hb175 => ?_) (fun hb175 => ?_)
          · replace h := cond_t hb175 h
            refine WC_seqK fun K176 hK176 => ?_
            refine WC_region ?_
            refine T0_q (v := (.bool false)) rfl (yl_assign rfl) ?_
            refine T0_nil ?_
            refine hK176 _ _ ?_
            refine WC_ret ?_
            replace h := some_out h
            subst h
            exact ⟨[(.bool false)], ⟨rfl, trivial⟩, e174, rfl⟩
          · replace h := cond_f hb175 h
            refine WC_skip ?_
            refine hK149 _ _ ?_
            refine WC_seqK fun K177 hK177 => ?_
            refine WC_seqK fun K178 hK178 => ?_
            refine WC_region ?_
            refine T0_q (v := (.agg (List.toArray [v1, (.int .i64 p_Listappend.Window), (.int .i64 p_Listappend.Tooth), (.int .i64 p_Listappend.PerVane), (.int .i64 p_Listappend.First), (.int .i64 p_Listappend.Modulus), (.int .i64 p_Listappend.Slack), (.int .i64 p_Listappend.Errors), (.bool p_Listappend.Round)]))) rfl (yl_loadA (cs := [v1, (.int .i64 p_Listappend.Window), (.int .i64 p_Listappend.Tooth), (.int .i64 p_Listappend.PerVane), (.int .i64 p_Listappend.First), (.int .i64 p_Listappend.Modulus), (.int .i64 p_Listappend.Slack), (.int .i64 p_Listappend.Errors), (.bool p_Listappend.Round)]) ag24 rfl (Box.at (hB9.ext e172))) ?_
            refine T0_q (v := (.int .i64 p_String)) rfl (yl_move rfl) ?_
            obtain ⟨r179, hr180, h⟩ := bind_elim h
            refine T0_e rfl (eff_call Tryd.func50 nm50 rfl (ev2 rfl rfl) (ref04_WindowErr_ok [] _ (LtL.nil _) [v1, (.int .i64 p_Listappend.Window), (.int .i64 p_Listappend.Tooth), (.int .i64 p_Listappend.PerVane), (.int .i64 p_Listappend.First), (.int .i64 p_Listappend.Modulus), (.int .i64 p_Listappend.Slack), (.int .i64 p_Listappend.Errors), (.bool p_Listappend.Round)] p_Listappend ⟨v1, ((h2.ext e167).sub (fun _ h => by cases h)), rfl⟩ p_String r179 hr180) ?_)
            rintro _ wd181 ⟨he182, rfl⟩
            have e183 := e167.trans he182
            have e184 := e168.trans he182
            have e185 := e169.trans he182
            have e186 := e170.trans he182
            have e187 := e171.trans he182
            have e188 := e172.trans he182
            have e189 := e173.trans he182
            have e190 := e174.trans he182
            refine T0_q (v := (.int .i64 r179)) rfl (yl_assign rfl) ?_
            refine T0_nil ?_
            refine hK178 _ _ ?_
            refine WC_seqK fun K191 hK191 => ?_
            refine WC_region ?_
            refine T0_q (v := (.int .i64 r179)) rfl (yl_move rfl) ?_
            refine T0_q (v := (.bool (!decide (r179 = 0)))) rfl (yl_neq rfl rfl) ?_
            refine T0_nil ?_
            refine hK191 _ _ ?_
            refine WC_cond (b := (!decide (r179 = 0))) rfl (fun hb192 => ?_) (fun hb192 => ?_)
            · replace h := cond_t hb192 h
              refine WC_seqK fun K193 hK193 => ?_
              refine WC_region ?_
              refine T0_q (v := (.int .i64 r116.2)) rfl (yl_move rfl) ?_
              refine T0_q (v := (.int .i64 r179)) rfl (yl_move rfl) ?_
              refine T0_q (v := (.bool (decide (r116.2 = r179)))) rfl (yl_eql rfl rfl) ?_
              refine T0_q (v := (.bool (decide (r116.2 = r179)))) rfl (yl_move rfl) ?_
              refine T0_g (v := v120) (decide (r116.2 = r179)) (wanted_t rfl rfl rfl rfl) (fun hg => (yl_move rfl)) ?_
              refine T0_g (v := (.int .i64 (r116.1.length : Int))) (decide (r116.2 = r179)) (wanted_t rfl rfl rfl rfl) (fun hg => (yl_lenR rfl Tryd.underlying22 h121 (gd_true hg))) ?_
              refine T0_g (v := (.bool (decide ((r116.1.length : Int) = 0)))) (decide (r116.2 = r179)) (wanted_t rfl rfl rfl rfl) (fun hg => (yl_eql (gd_true hg) rfl)) ?_
              refine T0_q (v := (.bool ((decide (r116.2 = r179)) && (decide ((r116.1.length : Int) = 0))))) rfl (yl_and rfl (fun hb => (gd_true hb)) rfl) ?_
              refine T0_q (v := (.bool ((decide (r116.2 = r179)) && (decide ((r116.1.length : Int) = 0))))) rfl (yl_assign rfl) ?_
              refine T0_nil ?_
              refine hK193 _ _ ?_
              refine WC_ret ?_
              replace h := some_out h
              subst h
              exact ⟨[(.bool ((decide (r116.2 = r179)) && (decide ((r116.1.length : Int) = 0))))], ⟨rfl, trivial⟩, e190, rfl⟩
            · replace h := cond_f hb192 h
              refine WC_skip ?_
              refine hK177 _ _ ?_
              refine WC_seqK fun K194 hK194 => ?_
              refine WC_region ?_
              refine T0_q (v := (.int .i64 r116.2)) rfl (yl_move rfl) ?_
              refine T0_q (v := (.bool (decide (r116.2 = 0)))) rfl (yl_eql rfl rfl) ?_
              refine T0_q (v := (.bool (decide (r116.2 = 0)))) rfl (yl_move rfl) ?_
              refine T0_g (v := v120) (decide (r116.2 = 0)) (wanted_t rfl rfl rfl rfl) (fun hg => (yl_move rfl)) ?_
              refine T0_g (v := (.agg (List.toArray [v1, (.int .i64 p_Listappend.Window), (.int .i64 p_Listappend.Tooth), (.int .i64 p_Listappend.PerVane), (.int .i64 p_Listappend.First), (.int .i64 p_Listappend.Modulus), (.int .i64 p_Listappend.Slack), (.int .i64 p_Listappend.Errors), (.bool p_Listappend.Round)]))) (decide (r116.2 = 0)) (wanted_t rfl rfl rfl rfl) (fun hg => (yl_loadA (cs := [v1, (.int .i64 p_Listappend.Window), (.int .i64 p_Listappend.Tooth), (.int .i64 p_Listappend.PerVane), (.int .i64 p_Listappend.First), (.int .i64 p_Listappend.Modulus), (.int .i64 p_Listappend.Slack), (.int .i64 p_Listappend.Errors), (.bool p_Listappend.Round)]) ag24 rfl (Box.at (hB9.ext e188)))) ?_
              refine T0_g (v := (.int .i64 p_String)) (decide (r116.2 = 0)) (wanted_t rfl rfl rfl rfl) (fun hg => (yl_move rfl)) ?_
              obtain ⟨r195, hr196, h⟩ := bind_elim h
              refine T0_gx (fun v w' => SlRd L w' v r195) (decide (r116.2 = 0)) (wanted_t rfl rfl rfl rfl) (fun hg => eff_call Tryd.func51 nm51 rfl (ev2 (gd_true hg) (gd_true hg)) (ref04_WindowAt_ok L _ (hL.chg e190) [v1, (.int .i64 p_Listappend.Window), (.int .i64 p_Listappend.Tooth), (.int .i64 p_Listappend.PerVane), (.int .i64 p_Listappend.First), (.int .i64 p_Listappend.Modulus), (.int .i64 p_Listappend.Slack), (.int .i64 p_Listappend.Errors), (.bool p_Listappend.Round)] p_Listappend ⟨v1, (h2.ext e183), rfl⟩ p_String r195 (cond_t hg hr196)) (by rintro _ wd197 ⟨he198, v199, rfl, h200⟩; exact ⟨he198, h200⟩)) ?_
              intro v201 wd197 he198 h202
              have e203 := e183.trans he198
              have e204 := e184.trans he198
              have e205 := e185.trans he198
              have e206 := e186.trans he198
              have e207 := e187.trans he198
              have e208 := e188.trans he198
              have e209 := e189.trans he198
              have e210 := e190.trans he198
              obtain ⟨r213, hr214, h⟩ := bind_elim h
              refine T0_ges (decide (r116.2 = 0)) (.bool r213) (wanted_t rfl rfl rfl rfl) (fun hg => eff_call Tryd.func42 nm42 rfl (ev2 (gd_true hg) (gd_true hg)) (base_Ints_ok [] _ (LtL.nil _) v120 r116.1 ((h121.ext e205).sub (fun _ h => by cases h)) v201 r195 ((h202 hg).sub (fun _ h => by cases h)) r213 (cond_t hg hr214)) (by rintro _ wd215 ⟨he216, rfl⟩; exact ⟨rfl, he216⟩)) ?_
              intro wd215 he216
              have e217 := e203.trans he216
              have e218 := e204.trans he216
              have e219 := e205.trans he216
              have e220 := e206.trans he216
              have e221 := e207.trans he216
              have e222 := e208.trans he216
              have e223 := e209.trans he216
              have e224 := e210.trans he216
              refine T0_q (v := (.bool ((decide (r116.2 = 0)) && r213))) rfl (yl_and rfl (fun hb => (gd_true hb)) rfl) ?_
              refine T0_q (v := (.bool ((decide (r116.2 = 0)) && r213))) rfl (yl_assign rfl) ?_
              refine T0_nil ?_
              refine hK194 _ _ ?_
              refine WC_ret ?_
              replace h := some_out h
              subst h
              exact ⟨[(.bool ((decide (r116.2 = 0)) && r213))], ⟨rfl, trivial⟩, e224, rfl⟩

end Go.Gw
