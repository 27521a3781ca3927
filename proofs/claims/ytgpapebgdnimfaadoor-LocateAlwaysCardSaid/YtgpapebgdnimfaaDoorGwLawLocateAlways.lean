/- What functions come to, printed by a program of this work. No condition. -/
import Derived.Test.YtgpapebgdnimfaaDoorGwFnC
import Derived.Test.YtgpapebgdnimfaaDoorGwFxDist
set_option maxRecDepth 4096
set_option maxHeartbeats 1000000
set_option linter.unusedVariables false
namespace Go.Gw
open Go Go.Proofs
attribute [local irreducible] T0 TS TT TP Eff Stp WC Quiet gd
noncomputable def law04_Short_spec (p_t : LocateTrack) : Option Bool :=
  some ((decide ((p_t.Vanes.length : Int) ≤ 16)) || ((decide (40 < (p_t.Vanes.length : Int))) && (decide ((p_t.Vanes.length : Int) ≤ 42))))
theorem law04_Short_ok (L : List Value) (w : World) (hL : LtL L w) (cs_p_t : List Value) (p_t : LocateTrack) (h_p_t : Rep.rd L w cs_p_t p_t) (r : Bool) (h : law04_Short_spec p_t = some r) :
    CallsTo Tryd.prog 19 [(.agg cs_p_t.toArray)] w (fun v w' => Ext w w' ∧ (.bool r) = v) := by
  have e0 : Ext w w := Chg.refl _ _
  obtain ⟨v1, h2, rfl⟩ := h_p_t
  refine callsTo_of_WC (n := 19) (rs := [.tmp 2]) Tryd.func19 rfl rfl rfl rfl rfl ?_
  refine WC_seqK fun K4 hK4 => ?_
  refine WC_region ?_
  refine T0_e rfl (eff_boxC (cs := [v1, (.int .i64 p_t.Window), (.int .i64 p_t.Tooth), (.int .i64 p_t.PerVane), (.int .i64 p_t.First), (.int .i64 p_t.Modulus), (.int .i64 p_t.Slack), (.int .i64 p_t.Errors), (.bool p_t.Round)]) rfl rfl ?_)
  intro b5 wd6 hb7 he8 hB9
  have hbf10 := bfresh e0 hb7
  have e11 := e0.trans he8
  refine T0_q (v := (.bool false)) rfl (yl_assign rfl) ?_
  refine T0_nil ?_
  refine hK4 _ _ ?_
  refine WC_seqK fun K13 hK13 => ?_
  refine WC_region ?_
  refine T0_q (v := (.pointer (some ⟨b5, 0, none⟩))) rfl (yl_fa 0 Tryd.underlying24 rfl rfl ⟨0, sz22⟩ rfl rfl) ?_
  refine T0_q (v := v1) rfl (yl_load sc22 rfl (Box.at hB9)) ?_
  refine T0_q (v := (.int .i64 (p_t.Vanes.length : Int))) rfl (yl_lenR rfl Tryd.underlying22 h2 rfl) ?_
  refine T0_q (v := (.bool (decide ((p_t.Vanes.length : Int) ≤ 16)))) rfl (yl_leq rfl rfl) ?_
  refine T0_q (v := (.bool (decide ((p_t.Vanes.length : Int) ≤ 16)))) rfl (yl_move rfl) ?_
  refine T0_g (v := (.pointer (some ⟨b5, 0, none⟩))) (!(decide ((p_t.Vanes.length : Int) ≤ 16))) (wanted_f rfl rfl rfl rfl) (fun hg => (yl_fa 0 Tryd.underlying24 rfl rfl ⟨0, sz22⟩ rfl rfl)) ?_
  refine T0_g (v := v1) (!(decide ((p_t.Vanes.length : Int) ≤ 16))) (wanted_f rfl rfl rfl rfl) (fun hg => (yl_load sc22 (gd_true hg) (Box.at hB9))) ?_
  refine T0_g (v := (.int .i64 (p_t.Vanes.length : Int))) (!(decide ((p_t.Vanes.length : Int) ≤ 16))) (wanted_f rfl rfl rfl rfl) (fun hg => (yl_lenR rfl Tryd.underlying22 h2 (gd_true hg))) ?_
  refine T0_g (v := (.bool (decide (40 < (p_t.Vanes.length : Int))))) (!(decide ((p_t.Vanes.length : Int) ≤ 16))) (wanted_f rfl rfl rfl rfl) (fun hg => (yl_gtr (gd_true hg) rfl)) ?_
  refine T0_g (v := (.bool (decide (40 < (p_t.Vanes.length : Int))))) (!(decide ((p_t.Vanes.length : Int) ≤ 16))) (wanted_f rfl rfl rfl rfl) (fun hg => (yl_move (gd_true hg))) ?_
  refine T0_g (v := (.pointer (some ⟨b5, 0, none⟩))) ((!(decide ((p_t.Vanes.length : Int) ≤ 16))) && (decide (40 < (p_t.Vanes.length : Int)))) (wanted_gt rfl rfl rfl rfl) (fun hg => (yl_fa 0 Tryd.underlying24 rfl rfl ⟨0, sz22⟩ rfl rfl)) ?_
  refine T0_g (v := v1) ((!(decide ((p_t.Vanes.length : Int) ≤ 16))) && (decide (40 < (p_t.Vanes.length : Int)))) (wanted_gt rfl rfl rfl rfl) (fun hg => (yl_load sc22 (gd_true hg) (Box.at hB9))) ?_
  refine T0_g (v := (.int .i64 (p_t.Vanes.length : Int))) ((!(decide ((p_t.Vanes.length : Int) ≤ 16))) && (decide (40 < (p_t.Vanes.length : Int)))) (wanted_gt rfl rfl rfl rfl) (fun hg => (yl_lenR rfl Tryd.underlying22 h2 (gd_true hg))) ?_
  refine T0_g (v := (.bool (decide ((p_t.Vanes.length : Int) ≤ 42)))) ((!(decide ((p_t.Vanes.length : Int) ≤ 16))) && (decide (40 < (p_t.Vanes.length : Int)))) (wanted_gt rfl rfl rfl rfl) (fun hg => (yl_leq (gd_true hg) rfl)) ?_
  refine T0_g (v := (.bool ((decide (40 < (p_t.Vanes.length : Int))) && (decide ((p_t.Vanes.length : Int) ≤ 42))))) (!(decide ((p_t.Vanes.length : Int) ≤ 16))) (wanted_f rfl rfl rfl rfl) (fun hg => (yl_and (gd_true hg) (fun hb => (gd_true (and_i hg hb))) rfl)) ?_
  refine T0_q (v := (.bool ((decide ((p_t.Vanes.length : Int) ≤ 16)) || ((decide (40 < (p_t.Vanes.length : Int))) && (decide ((p_t.Vanes.length : Int) ≤ 42)))))) rfl (yl_or rfl rfl (fun hb => (gd_true (not_t hb)))) ?_
  refine T0_q (v := (.bool ((decide ((p_t.Vanes.length : Int) ≤ 16)) || ((decide (40 < (p_t.Vanes.length : Int))) && (decide ((p_t.Vanes.length : Int) ≤ 42)))))) rfl (yl_assign rfl) ?_
  refine T0_nil ?_
  refine hK13 _ _ ?_
  refine WC_ret ?_
  replace h := some_out h
  subst h
  exact ⟨[(.bool ((decide ((p_t.Vanes.length : Int) ≤ 16)) || ((decide (40 < (p_t.Vanes.length : Int))) && (decide ((p_t.Vanes.length : Int) ≤ 42)))))], ⟨rfl, trivial⟩, e11, rfl⟩

noncomputable def law04_LocateAlways_spec (p_Listappend : LocateTrack) : Option Bool :=
  (Option.bind (law04_awake_spec) fun r15 =>
  (bif (!r15) then (
    some false
  ) else (
    (Option.bind (law04_Short_spec p_Listappend) fun r25 =>
    (bif (!r25) then (
      some true
    ) else (
      (Option.bind (ref04_Copy_spec p_Listappend) fun r35 =>
      (Option.bind (locate_Always_spec r35) fun r47 =>
      (Option.bind (ref04_Copy_spec p_Listappend) fun r55 =>
      (Option.bind (locate_MostUnread_spec r55) fun r68 =>
      (Option.bind (ref04_TrackErr_spec p_Listappend) fun r78 =>
      (bif (!decide (r78 = 0)) then (
        some ((((decide (r47.2 = r78)) && (decide (r68.2 = r78))) && (!r47.1)) && (decide (r68.1 = 0)))
      ) else (
        (Option.bind (bif (!(!decide (r47.2 = 0))) then ref04_Always_spec p_Listappend else some default) fun r92 =>
        (bif ((!decide (r47.2 = 0)) || (!(r47.1 == r92))) then (
          some false
        ) else (
          (Option.bind (bif (r47.1 && (decide (r68.2 = 0))) then ref04_MostUnread_spec p_Listappend else some default) fun r104 =>
          some (((r47.1 && (decide (r68.2 = 0))) && (decide (r68.1 = r104))) || (((!r47.1) && (decide (r68.2 = 12))) && (decide (r68.1 = 0))))
          )
        ))
        )
      ))
      )
      )
      )
      )
      )
    ))
    )
  ))
  )
theorem law04_LocateAlways_ok (L : List Value) (w : World) (hL : LtL L w) (hg0 : At w ⟨0, 0, none⟩ [.int .i64 0, .int .i64 1, .int .i64 3, .int .i64 2]) (cs_p_Listappend : List Value) (p_Listappend : LocateTrack) (h_p_Listappend : Rep.rd L w cs_p_Listappend p_Listappend) (r : Bool) (h : law04_LocateAlways_spec p_Listappend = some r) :
    CallsTo Tryd.prog 15 [(.agg cs_p_Listappend.toArray)] w (fun v w' => Ext w w' ∧ (.bool r) = v) := by
  have e0 : Ext w w := Chg.refl _ _
  obtain ⟨v1, h2, rfl⟩ := h_p_Listappend
  refine callsTo_of_WC (n := 76) (rs := [.tmp 2]) Tryd.func15 rfl rfl rfl rfl rfl ?_
  refine WC_seqK fun K4 hK4 => ?_
  refine WC_region ?_
  refine T0_e rfl (eff_boxC (cs := [v1, (.int .i64 p_Listappend.Window), (.int .i64 p_Listappend.Tooth), (.int .i64 p_Listappend.PerVane), (.int .i64 p_Listappend.First), (.int .i64 p_Listappend.Modulus), (.int .i64 p_Listappend.Slack), (.int .i64 p_Listappend.Errors), (.bool p_Listappend.Round)]) rfl rfl ?_)
  intro b5 wd6 hb7 he8 hB9
  have hbf10 := bfresh e0 hb7
  have e11 := e0.trans he8
  refine T0_q (v := (.bool false)) rfl (yl_assign rfl) ?_
  refine T0_nil ?_
  refine hK4 _ _ ?_
  refine WC_seqK fun K13 hK13 => ?_
  refine WC_seqK fun K14 hK14 => ?_
  refine WC_region ?_
  obtain ⟨r15, hr16, h⟩ := bind_elim h
  refine T0_e rfl (eff_call Tryd.func18 nm18 rfl ev0 (law04_awake_ok [] _ (LtL.nil _) (hg0.ext e11)  r15 hr16) ?_)
  rintro _ wd17 ⟨he18, rfl⟩
  have e19 := he8.trans he18
  have e20 := e11.trans he18
  refine T0_q (v := (.bool (!r15))) rfl (yl_not rfl) ?_
  refine T0_nil ?_
  refine hK14 _ _ ?_
  refine WC_cond (b := (!r15)) rfl (fun hb21 => ?_) (fun hb21 => ?_)
  · replace h := cond_t hb21 h
    refine WC_seqK fun K22 hK22 => ?_
    refine WC_region ?_
    refine T0_q (v := (.bool false)) rfl (yl_assign rfl) ?_
    refine T0_nil ?_
    refine hK22 _ _ ?_
    refine WC_ret ?_
    replace h := some_out h
    subst h
    exact ⟨[(.bool false)], ⟨rfl, trivial⟩, e20, rfl⟩
  · replace h := cond_f hb21 h
    refine WC_skip ?_
    refine hK13 _ _ ?_
    refine WC_seqK fun K23 hK23 => ?_
    refine WC_seqK fun K24 hK24 => ?_
    refine WC_region ?_
    refine T0_q (v := (.agg (List.toArray [v1, (.int .i64 p_Listappend.Window), (.int .i64 p_Listappend.Tooth), (.int .i64 p_Listappend.PerVane), (.int .i64 p_Listappend.First), (.int .i64 p_Listappend.Modulus), (.int .i64 p_Listappend.Slack), (.int .i64 p_Listappend.Errors), (.bool p_Listappend.Round)]))) rfl (yl_loadA (cs := [v1, (.int .i64 p_Listappend.Window), (.int .i64 p_Listappend.Tooth), (.int .i64 p_Listappend.PerVane), (.int .i64 p_Listappend.First), (.int .i64 p_Listappend.Modulus), (.int .i64 p_Listappend.Slack), (.int .i64 p_Listappend.Errors), (.bool p_Listappend.Round)]) ag24 rfl (Box.at (hB9.ext he18))) ?_
    obtain ⟨r25, hr26, h⟩ := bind_elim h
    refine T0_e rfl (eff_call Tryd.func19 nm19 rfl (ev1 rfl) (law04_Short_ok [] _ (LtL.nil _) [v1, (.int .i64 p_Listappend.Window), (.int .i64 p_Listappend.Tooth), (.int .i64 p_Listappend.PerVane), (.int .i64 p_Listappend.First), (.int .i64 p_Listappend.Modulus), (.int .i64 p_Listappend.Slack), (.int .i64 p_Listappend.Errors), (.bool p_Listappend.Round)] p_Listappend ⟨v1, ((h2.ext e19).sub (fun _ h => by cases h)), rfl⟩ r25 hr26) ?_)
    rintro _ wd27 ⟨he28, rfl⟩
    have e29 := e19.trans he28
    have e30 := he18.trans he28
    have e31 := e20.trans he28
    refine T0_q (v := (.bool (!r25))) rfl (yl_not rfl) ?_
    refine T0_nil ?_
    refine hK24 _ _ ?_
    refine WC_cond (b := (!r25)) rfl (fun hb32 => ?_) (fun hb32 => ?_)
    · replace h := cond_t hb32 h
      refine WC_seqK fun K33 hK33 => ?_
      refine WC_region ?_
      refine T0_q (v := (.bool true)) rfl (yl_assign rfl) ?_
      refine T0_nil ?_
      refine hK33 _ _ ?_
      refine WC_ret ?_
      replace h := some_out h
      subst h
      exact ⟨[(.bool true)], ⟨rfl, trivial⟩, e31, rfl⟩
    · replace h := cond_f hb32 h
      refine WC_skip ?_
      refine hK23 _ _ ?_
      refine WC_seqK fun K34 hK34 => ?_
      refine WC_region ?_
      refine T0_q (v := (.agg (List.toArray [v1, (.int .i64 p_Listappend.Window), (.int .i64 p_Listappend.Tooth), (.int .i64 p_Listappend.PerVane), (.int .i64 p_Listappend.First), (.int .i64 p_Listappend.Modulus), (.int .i64 p_Listappend.Slack), (.int .i64 p_Listappend.Errors), (.bool p_Listappend.Round)]))) rfl (yl_loadA (cs := [v1, (.int .i64 p_Listappend.Window), (.int .i64 p_Listappend.Tooth), (.int .i64 p_Listappend.PerVane), (.int .i64 p_Listappend.First), (.int .i64 p_Listappend.Modulus), (.int .i64 p_Listappend.Slack), (.int .i64 p_Listappend.Errors), (.bool p_Listappend.Round)]) ag24 rfl (Box.at (hB9.ext e30))) ?_
      obtain ⟨r35, hr36, h⟩ := bind_elim h
      refine T0_e rfl (eff_call Tryd.func21 nm21 rfl (ev1 rfl) (ref04_Copy_ok L _ (hL.chg e31) [v1, (.int .i64 p_Listappend.Window), (.int .i64 p_Listappend.Tooth), (.int .i64 p_Listappend.PerVane), (.int .i64 p_Listappend.First), (.int .i64 p_Listappend.Modulus), (.int .i64 p_Listappend.Slack), (.int .i64 p_Listappend.Errors), (.bool p_Listappend.Round)] p_Listappend ⟨v1, (h2.ext e29), rfl⟩ r35 hr36) ?_)
      rintro _ wd37 ⟨he38, cs41, rfl, hrd42⟩
      have e43 := e29.trans he38
      have e44 := e30.trans he38
      have e45 := e31.trans he38
      obtain ⟨v39, h40, rfl⟩ := hrd42
      obtain ⟨r47, hr48, h⟩ := bind_elim h
      refine T0_e rfl (eff_call Tryd.func75 nm75 rfl (ev1 rfl) (locate_Always_ok [] _ (LtL.nil _) [v39, (.int .i64 r35.Window), (.int .i64 r35.Tooth), (.int .i64 r35.PerVane), (.int .i64 r35.First), (.int .i64 r35.Modulus), (.int .i64 r35.Slack), (.int .i64 r35.Errors), (.bool r35.Round)] r35 ⟨v39, (h40.sub (fun _ h => by cases h)), rfl⟩ r47 hr48) ?_)
      rintro _ wd49 ⟨he50, rfl⟩
      have e51 := e43.trans he50
      have e52 := e44.trans he50
      have e53 := e45.trans he50
      refine T0_q (v := (.tuple #[(.bool r47.1), (.int .i64 r47.2)])) rfl (yl_move rfl) ?_
      refine T0_q (v := (.bool r47.1)) rfl (yl_extract rfl rfl) ?_
      refine T0_q (v := (.int .i64 r47.2)) rfl (yl_extract rfl rfl) ?_
      refine T0_q (v := (.bool r47.1)) rfl (yl_assign rfl) ?_
      refine T0_q (v := (.int .i64 r47.2)) rfl (yl_assign rfl) ?_
      refine T0_nil ?_
      refine hK34 _ _ ?_
      refine WC_seqK fun K54 hK54 => ?_
      refine WC_region ?_
      refine T0_q (v := (.agg (List.toArray [v1, (.int .i64 p_Listappend.Window), (.int .i64 p_Listappend.Tooth), (.int .i64 p_Listappend.PerVane), (.int .i64 p_Listappend.First), (.int .i64 p_Listappend.Modulus), (.int .i64 p_Listappend.Slack), (.int .i64 p_Listappend.Errors), (.bool p_Listappend.Round)]))) rfl (yl_loadA (cs := [v1, (.int .i64 p_Listappend.Window), (.int .i64 p_Listappend.Tooth), (.int .i64 p_Listappend.PerVane), (.int .i64 p_Listappend.First), (.int .i64 p_Listappend.Modulus), (.int .i64 p_Listappend.Slack), (.int .i64 p_Listappend.Errors), (.bool p_Listappend.Round)]) ag24 rfl (Box.at (hB9.ext e52))) ?_
      obtain ⟨r55, hr56, h⟩ := bind_elim h
      refine T0_e rfl (eff_call Tryd.func21 nm21 rfl (ev1 rfl) (ref04_Copy_ok L _ (hL.chg e53) [v1, (.int .i64 p_Listappend.Window), (.int .i64 p_Listappend.Tooth), (.int .i64 p_Listappend.PerVane), (.int .i64 p_Listappend.First), (.int .i64 p_Listappend.Modulus), (.int .i64 p_Listappend.Slack), (.int .i64 p_Listappend.Errors), (.bool p_Listappend.Round)] p_Listappend ⟨v1, (h2.ext e51), rfl⟩ r55 hr56) ?_)
      rintro _ wd57 ⟨he58, cs61, rfl, hrd62⟩
      have e63 := e51.trans he58
      have e64 := he50.trans he58
      have e65 := e52.trans he58
      have e66 := e53.trans he58
      obtain ⟨v59, h60, rfl⟩ := hrd62
      obtain ⟨r68, hr69, h⟩ := bind_elim h
      refine T0_e rfl (eff_call Tryd.func76 nm76 rfl (ev1 rfl) (locate_MostUnread_ok [] _ (LtL.nil _) [v59, (.int .i64 r55.Window), (.int .i64 r55.Tooth), (.int .i64 r55.PerVane), (.int .i64 r55.First), (.int .i64 r55.Modulus), (.int .i64 r55.Slack), (.int .i64 r55.Errors), (.bool r55.Round)] r55 ⟨v59, (h60.sub (fun _ h => by cases h)), rfl⟩ r68 hr69) ?_)
      rintro _ wd70 ⟨he71, rfl⟩
      have e72 := e63.trans he71
      have e73 := e64.trans he71
      have e74 := e65.trans he71
      have e75 := e66.trans he71
      refine T0_q (v := (.tuple #[(.int .i64 r68.1), (.int .i64 r68.2)])) rfl (yl_move rfl) ?_
      refine T0_q (v := (.int .i64 r68.1)) rfl (yl_extract rfl rfl) ?_
      refine T0_q (v := (.int .i64 r68.2)) rfl (yl_extract rfl rfl) ?_
      refine T0_q (v := (.int .i64 r68.1)) rfl (yl_assign rfl) ?_
      refine T0_q (v := (.int .i64 r68.2)) rfl (yl_assign rfl) ?_
      refine T0_nil ?_
      refine hK54 _ _ ?_
      refine WC_seqK fun K76 hK76 => ?_
      refine WC_seqK fun K77 hK77 => ?_
      refine WC_region ?_
      refine T0_q (v := (.agg (List.toArray [v1, (.int .i64 p_Listappend.Window), (.int .i64 p_Listappend.Tooth), (.int .i64 p_Listappend.PerVane), (.int .i64 p_Listappend.First), (.int .i64 p_Listappend.Modulus), (.int .i64 p_Listappend.Slack), (.int .i64 p_Listappend.Errors), (.bool p_Listappend.Round)]))) rfl (yl_loadA (cs := [v1, (.int .i64 p_Listappend.Window), (.int .i64 p_Listappend.Tooth), (.int .i64 p_Listappend.PerVane), (.int .i64 p_Listappend.First), (.int .i64 p_Listappend.Modulus), (.int .i64 p_Listappend.Slack), (.int .i64 p_Listappend.Errors), (.bool p_Listappend.Round)]) ag24 rfl (Box.at (hB9.ext e74))) ?_
      obtain ⟨r78, hr79, h⟩ := bind_elim h
      refine T0_e rfl (eff_call Tryd.func24 nm24 rfl (ev1 rfl) (ref04_TrackErr_ok [] _ (LtL.nil _) [v1, (.int .i64 p_Listappend.Window), (.int .i64 p_Listappend.Tooth), (.int .i64 p_Listappend.PerVane), (.int .i64 p_Listappend.First), (.int .i64 p_Listappend.Modulus), (.int .i64 p_Listappend.Slack), (.int .i64 p_Listappend.Errors), (.bool p_Listappend.Round)] p_Listappend ⟨v1, ((h2.ext e72).sub (fun _ h => by cases h)), rfl⟩ r78 hr79) ?_)
      rintro _ wd80 ⟨he81, rfl⟩
      have e82 := e72.trans he81
      have e83 := e73.trans he81
      have e84 := he71.trans he81
      have e85 := e74.trans he81
      have e86 := e75.trans he81
      refine T0_q (v := (.int .i64 r78)) rfl (yl_assign rfl) ?_
      refine T0_nil ?_
      refine hK77 _ _ ?_
      refine WC_seqK fun K87 hK87 => ?_
      refine WC_region ?_
      refine T0_q (v := (.int .i64 r78)) rfl (yl_move rfl) ?_
      refine T0_q (v := (.bool (!decide (r78 = 0)))) rfl (yl_neq rfl rfl) ?_
      refine T0_nil ?_
      refine hK87 _ _ ?_
      refine WC_cond (b := (!decide (r78 = 0))) rfl (fun hb88 => ?_) (fun hb88 => ?_)
      · replace h := cond_t hb88 h
        refine WC_seqK fun K89 hK89 => ?_
        refine WC_region ?_
        refine T0_q (v := (.int .i64 r47.2)) rfl (yl_move rfl) ?_
        refine T0_q (v := (.int .i64 r78)) rfl (yl_move rfl) ?_
        refine T0_q (v := (.bool (decide (r47.2 = r78)))) rfl (yl_eql rfl rfl) ?_
        refine T0_q (v := (.bool (decide (r47.2 = r78)))) rfl (yl_move rfl) ?_
        refine T0_g (v := (.int .i64 r68.2)) (decide (r47.2 = r78)) (wanted_t rfl rfl rfl rfl) (fun hg => (yl_move rfl)) ?_
        refine T0_g (v := (.int .i64 r78)) (decide (r47.2 = r78)) (wanted_t rfl rfl rfl rfl) (fun hg => (yl_move rfl)) ?_
        refine T0_g (v := (.bool (decide (r68.2 = r78)))) (decide (r47.2 = r78)) (wanted_t rfl rfl rfl rfl) (fun hg => (yl_eql (gd_true hg) (gd_true hg))) ?_
        refine T0_q (v := (.bool ((decide (r47.2 = r78)) && (decide (r68.2 = r78))))) rfl (yl_and rfl (fun hb => (gd_true hb)) rfl) ?_
        refine T0_q (v := (.bool ((decide (r47.2 = r78)) && (decide (r68.2 = r78))))) rfl (yl_move rfl) ?_
        refine T0_g (v := (.bool r47.1)) ((decide (r47.2 = r78)) && (decide (r68.2 = r78))) (wanted_t rfl rfl rfl rfl) (fun hg => (yl_move rfl)) ?_
        refine T0_g (v := (.bool (!r47.1))) ((decide (r47.2 = r78)) && (decide (r68.2 = r78))) (wanted_t rfl rfl rfl rfl) (fun hg => (yl_not (gd_true hg))) ?_
        refine T0_q (v := (.bool (((decide (r47.2 = r78)) && (decide (r68.2 = r78))) && (!r47.1)))) rfl (yl_and rfl (fun hb => (gd_true hb)) rfl) ?_
        refine T0_q (v := (.bool (((decide (r47.2 = r78)) && (decide (r68.2 = r78))) && (!r47.1)))) rfl (yl_move rfl) ?_
        refine T0_g (v := (.int .i64 r68.1)) (((decide (r47.2 = r78)) && (decide (r68.2 = r78))) && (!r47.1)) (wanted_t rfl rfl rfl rfl) (fun hg => (yl_move rfl)) ?_
        refine T0_g (v := (.bool (decide (r68.1 = 0)))) (((decide (r47.2 = r78)) && (decide (r68.2 = r78))) && (!r47.1)) (wanted_t rfl rfl rfl rfl) (fun hg => (yl_eql (gd_true hg) rfl)) ?_
        refine T0_q (v := (.bool ((((decide (r47.2 = r78)) && (decide (r68.2 = r78))) && (!r47.1)) && (decide (r68.1 = 0))))) rfl (yl_and rfl (fun hb => (gd_true hb)) rfl) ?_
        refine T0_q (v := (.bool ((((decide (r47.2 = r78)) && (decide (r68.2 = r78))) && (!r47.1)) && (decide (r68.1 = 0))))) rfl (yl_assign rfl) ?_
        refine T0_nil ?_
        refine hK89 _ _ ?_
        refine WC_ret ?_
        replace h := some_out h
        subst h
        exact ⟨[(.bool ((((decide (r47.2 = r78)) && (decide (r68.2 = r78))) && (!r47.1)) && (decide (r68.1 = 0))))], ⟨rfl, trivial⟩, e86, rfl⟩
      · replace h := cond_f hb88 h
        refine WC_skip ?_
        refine hK76 _ _ ?_
        refine WC_seqK fun K90 hK90 => ?_
        refine WC_seqK fun K91 hK91 => ?_
        refine WC_region ?_
        refine T0_q (v := (.int .i64 r47.2)) rfl (yl_move rfl) ?_
        refine T0_q (v := (.bool (!decide (r47.2 = 0)))) rfl (yl_neq rfl rfl) ?_
        refine T0_q (v := (.bool (!decide (r47.2 = 0)))) rfl (yl_move rfl) ?_
        refine T0_g (v := (.bool r47.1)) (!(!decide (r47.2 = 0))) (wanted_f rfl rfl rfl rfl) (fun hg => (yl_move rfl)) ?_
        refine T0_g (v := (.agg (List.toArray [v1, (.int .i64 p_Listappend.Window), (.int .i64 p_Listappend.Tooth), (.int .i64 p_Listappend.PerVane), (.int .i64 p_Listappend.First), (.int .i64 p_Listappend.Modulus), (.int .i64 p_Listappend.Slack), (.int .i64 p_Listappend.Errors), (.bool p_Listappend.Round)]))) (!(!decide (r47.2 = 0))) (wanted_f rfl rfl rfl rfl) (fun hg => (yl_loadA (cs := [v1, (.int .i64 p_Listappend.Window), (.int .i64 p_Listappend.Tooth), (.int .i64 p_Listappend.PerVane), (.int .i64 p_Listappend.First), (.int .i64 p_Listappend.Modulus), (.int .i64 p_Listappend.Slack), (.int .i64 p_Listappend.Errors), (.bool p_Listappend.Round)]) ag24 rfl (Box.at (hB9.ext e85)))) ?_
        obtain ⟨r92, hr93, h⟩ := bind_elim h
        refine T0_ges (!(!decide (r47.2 = 0))) (.bool r92) (wanted_f rfl rfl rfl rfl) (fun hg => eff_call Tryd.func77 nm77 rfl (ev1 (gd_true hg)) (ref04_Always_ok [] _ (LtL.nil _) [v1, (.int .i64 p_Listappend.Window), (.int .i64 p_Listappend.Tooth), (.int .i64 p_Listappend.PerVane), (.int .i64 p_Listappend.First), (.int .i64 p_Listappend.Modulus), (.int .i64 p_Listappend.Slack), (.int .i64 p_Listappend.Errors), (.bool p_Listappend.Round)] p_Listappend ⟨v1, ((h2.ext e82).sub (fun _ h => by cases h)), rfl⟩ r92 (cond_t hg hr93)) (by rintro _ wd94 ⟨he95, rfl⟩; exact ⟨rfl, he95⟩)) ?_
        intro wd94 he95
        have e96 := e82.trans he95
        have e97 := e83.trans he95
        have e98 := e84.trans he95
        have e99 := e85.trans he95
        have e100 := e86.trans he95
        refine T0_g (v := (.bool (!(r47.1 == r92)))) (!(!decide (r47.2 = 0))) (wanted_f rfl rfl rfl rfl) (fun hg => (yl_neqB Tryd.underlying4 (gd_true hg) (gd_true hg))) ?_
        refine T0_q (v := (.bool ((!decide (r47.2 = 0)) || (!(r47.1 == r92))))) rfl (yl_or rfl rfl (fun hb => (gd_true (not_t hb)))) ?_
        refine T0_nil ?_
        refine hK91 _ _ ?_
        refine WC_cond (b := ((!decide (r47.2 = 0)) || (!(r47.1 == r92)))) rfl (fun hb101 => ?_) (fun hb101 => ?_)
        · replace h := cond_t hb101 h
          refine WC_seqK fun K102 hK102 => ?_
          refine WC_region ?_
          refine T0_q (v := (.bool false)) rfl (yl_assign rfl) ?_
          refine T0_nil ?_
          refine hK102 _ _ ?_
          refine WC_ret ?_
          replace h := some_out h
          subst h
          exact ⟨[(.bool false)], ⟨rfl, trivial⟩, e100, rfl⟩
        · replace h := cond_f hb101 h
          refine WC_skip ?_
          refine hK90 _ _ ?_
          refine WC_seqK fun K103 hK103 => ?_
          refine WC_region ?_
          refine T0_q (v := (.bool r47.1)) rfl (yl_move rfl) ?_
          refine T0_q (v := (.bool r47.1)) rfl (yl_move rfl) ?_
          refine T0_g (v := (.int .i64 r68.2)) r47.1 (wanted_t rfl rfl rfl rfl) (fun hg => (yl_move rfl)) ?_
          refine T0_g (v := (.bool (decide (r68.2 = 0)))) r47.1 (wanted_t rfl rfl rfl rfl) (fun hg => (yl_eql (gd_true hg) rfl)) ?_
          refine T0_q (v := (.bool (r47.1 && (decide (r68.2 = 0))))) rfl (yl_and rfl (fun hb => (gd_true hb)) rfl) ?_
          refine T0_q (v := (.bool (r47.1 && (decide (r68.2 = 0))))) rfl (yl_move rfl) ?_
          refine T0_g (v := (.int .i64 r68.1)) (r47.1 && (decide (r68.2 = 0))) (wanted_t rfl rfl rfl rfl) (fun hg => (yl_move rfl)) ?_
          refine T0_g (v := (.agg (List.toArray [v1, (.int .i64 p_Listappend.Window), (.int .i64 p_Listappend.Tooth), (.int .i64 p_Listappend.PerVane), (.int .i64 p_Listappend.First), (.int .i64 p_Listappend.Modulus), (.int .i64 p_Listappend.Slack), (.int .i64 p_Listappend.Errors), (.bool p_Listappend.Round)]))) (r47.1 && (decide (r68.2 = 0))) (wanted_t rfl rfl rfl rfl) (fun hg => (yl_loadA (cs := [v1, (.int .i64 p_Listappend.Window), (.int .i64 p_Listappend.Tooth), (.int .i64 p_Listappend.PerVane), (.int .i64 p_Listappend.First), (.int .i64 p_Listappend.Modulus), (.int .i64 p_Listappend.Slack), (.int .i64 p_Listappend.Errors), (.bool p_Listappend.Round)]) ag24 rfl (Box.at (hB9.ext e99)))) ?_
          obtain ⟨r104, hr105, h⟩ := bind_elim h
          refine T0_ges (r47.1 && (decide (r68.2 = 0))) (.int .i64 r104) (wanted_t rfl rfl rfl rfl) (fun hg => eff_call Tryd.func78 nm78 rfl (ev1 (gd_true hg)) (ref04_MostUnread_ok [] _ (LtL.nil _) [v1, (.int .i64 p_Listappend.Window), (.int .i64 p_Listappend.Tooth), (.int .i64 p_Listappend.PerVane), (.int .i64 p_Listappend.First), (.int .i64 p_Listappend.Modulus), (.int .i64 p_Listappend.Slack), (.int .i64 p_Listappend.Errors), (.bool p_Listappend.Round)] p_Listappend ⟨v1, ((h2.ext e96).sub (fun _ h => by cases h)), rfl⟩ r104 (cond_t hg hr105)) (by rintro _ wd106 ⟨he107, rfl⟩; exact ⟨rfl, he107⟩)) ?_
          intro wd106 he107
          have e108 := e96.trans he107
          have e109 := e97.trans he107
          have e110 := e98.trans he107
          have e111 := e99.trans he107
          have e112 := e100.trans he107
          refine T0_g (v := (.bool (decide (r68.1 = r104)))) (r47.1 && (decide (r68.2 = 0))) (wanted_t rfl rfl rfl rfl) (fun hg => (yl_eql (gd_true hg) (gd_true hg))) ?_
          refine T0_q (v := (.bool ((r47.1 && (decide (r68.2 = 0))) && (decide (r68.1 = r104))))) rfl (yl_and rfl (fun hb => (gd_true hb)) rfl) ?_
          refine T0_q (v := (.bool ((r47.1 && (decide (r68.2 = 0))) && (decide (r68.1 = r104))))) rfl (yl_move rfl) ?_
          refine T0_g (v := (.bool r47.1)) (!((r47.1 && (decide (r68.2 = 0))) && (decide (r68.1 = r104)))) (wanted_f rfl rfl rfl rfl) (fun hg => (yl_move rfl)) ?_
          refine T0_g (v := (.bool (!r47.1))) (!((r47.1 && (decide (r68.2 = 0))) && (decide (r68.1 = r104)))) (wanted_f rfl rfl rfl rfl) (fun hg => (yl_not (gd_true hg))) ?_
          refine T0_g (v := (.bool (!r47.1))) (!((r47.1 && (decide (r68.2 = 0))) && (decide (r68.1 = r104)))) (wanted_f rfl rfl rfl rfl) (fun hg => (yl_move (gd_true hg))) ?_
          refine T0_g (v := (.int .i64 r68.2)) ((!((r47.1 && (decide (r68.2 = 0))) && (decide (r68.1 = r104)))) && (!r47.1)) (wanted_gt rfl rfl rfl rfl) (fun hg => (yl_move rfl)) ?_
          refine T0_g (v := (.bool (decide (r68.2 = 12)))) ((!((r47.1 && (decide (r68.2 = 0))) && (decide (r68.1 = r104)))) && (!r47.1)) (wanted_gt rfl rfl rfl rfl) (fun hg => (yl_eql (gd_true hg) rfl)) ?_
          refine T0_g (v := (.bool ((!r47.1) && (decide (r68.2 = 12))))) (!((r47.1 && (decide (r68.2 = 0))) && (decide (r68.1 = r104)))) (wanted_f rfl rfl rfl rfl) (fun hg => (yl_and (gd_true hg) (fun hb => (gd_true (and_i hg hb))) rfl)) ?_
          refine T0_g (v := (.bool ((!r47.1) && (decide (r68.2 = 12))))) (!((r47.1 && (decide (r68.2 = 0))) && (decide (r68.1 = r104)))) (wanted_f rfl rfl rfl rfl) (fun hg => (yl_move (gd_true hg))) ?_
          refine T0_g (v := (.int .i64 r68.1)) ((!((r47.1 && (decide (r68.2 = 0))) && (decide (r68.1 = r104)))) && ((!r47.1) && (decide (r68.2 = 12)))) (wanted_gt rfl rfl rfl rfl) (fun hg => (yl_move rfl)) ?_
          refine T0_g (v := (.bool (decide (r68.1 = 0)))) ((!((r47.1 && (decide (r68.2 = 0))) && (decide (r68.1 = r104)))) && ((!r47.1) && (decide (r68.2 = 12)))) (wanted_gt rfl rfl rfl rfl) (fun hg => (yl_eql (gd_true hg) rfl)) ?_
          refine T0_g (v := (.bool (((!r47.1) && (decide (r68.2 = 12))) && (decide (r68.1 = 0))))) (!((r47.1 && (decide (r68.2 = 0))) && (decide (r68.1 = r104)))) (wanted_f rfl rfl rfl rfl) (fun hg => (yl_and (gd_true hg) (fun hb => (gd_true (and_i hg hb))) rfl)) ?_
          refine T0_q (v := (.bool (((r47.1 && (decide (r68.2 = 0))) && (decide (r68.1 = r104))) || (((!r47.1) && (decide (r68.2 = 12))) && (decide (r68.1 = 0)))))) rfl (yl_or rfl rfl (fun hb => (gd_true (not_t hb)))) ?_
          refine T0_q (v := (.bool (((r47.1 && (decide (r68.2 = 0))) && (decide (r68.1 = r104))) || (((!r47.1) && (decide (r68.2 = 12))) && (decide (r68.1 = 0)))))) rfl (yl_assign rfl) ?_
          refine T0_nil ?_
          refine hK103 _ _ ?_
          refine WC_ret ?_
          replace h := some_out h
          subst h
          exact ⟨[(.bool (((r47.1 && (decide (r68.2 = 0))) && (decide (r68.1 = r104))) || (((!r47.1) && (decide (r68.2 = 12))) && (decide (r68.1 = 0)))))], ⟨rfl, trivial⟩, e112, rfl⟩

end Go.Gw
