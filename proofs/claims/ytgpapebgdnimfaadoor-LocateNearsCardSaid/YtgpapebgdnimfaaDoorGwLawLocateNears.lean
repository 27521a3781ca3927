/- What functions come to, printed by a program of this work. No condition. -/
import Derived.Test.YtgpapebgdnimfaaDoorGwFnC
set_option maxRecDepth 4096
set_option maxHeartbeats 1000000
set_option linter.unusedVariables false
namespace Go.Gw
open Go Go.Proofs
attribute [local irreducible] T0 TS TT TP Eff Stp WC Quiet gd
noncomputable def law04_Short_spec (p_t : LocateTrack) : Option Bool :=
  some ((decide ((p_t.Vanes.length : Int) ≤ 16)) || ((decide (40 < (p_t.Vanes.length : Int))) && (decide ((p_t.Vanes.length : Int) ≤ 42))))
theorem law04_Short_ok (L : List Value) (w : World) (hL : LtL L w) (cs_p_t : List Value) (p_t : LocateTrack) (h_p_t : Rep.rd L w cs_p_t p_t) (r : Bool) (h : law04_Short_spec p_t = some r) :
    CallsTo Tryd.prog 19 [(.agg cs_p_t.toArray)] w (fun v w' => Ext w w' ∧ (.bool r) = v) := by
  have e0 : Ext w w := Chg.refl _ _
  obtain ⟨v1, h2, rfl⟩ := h_p_t
  refine callsTo_of_WC (n := 19) (rs := [.tmp 2]) Tryd.func19 rfl rfl rfl rfl rfl ?_
  refine WC_seqK fun K4 hK4 => ?_
  refine WC_region ?_
  refine T0_e rfl (eff_boxC (cs := [v1, (.int .i64 p_t.Window), (.int .i64 p_t.Tooth), (.int .i64 p_t.PerVane), (.int .i64 p_t.First), (.int .i64 p_t.Modulus), (.int .i64 p_t.Slack), (.int .i64 p_t.Errors), (.bool p_t.Round)]) rfl rfl ?_)
  intro b5 wd6 hb7 he8 hB9
  have hbf10 := bfresh e0 hb7
  have e11 := e0.trans he8
  refine T0_q (v := (.bool false)) rfl (yl_assign rfl) ?_
  refine T0_nil ?_
  refine hK4 _ _ ?_
  refine WC_seqK fun K13 hK13 => ?_
  refine WC_region ?_
  refine T0_q (v := (.pointer (some ⟨b5, 0, none⟩))) rfl (yl_fa 0 Tryd.underlying24 rfl rfl ⟨0, sz22⟩ rfl rfl) ?_
  refine T0_q (v := v1) rfl (yl_load sc22 rfl (Box.at hB9)) ?_
  refine T0_q (v := (.int .i64 (p_t.Vanes.length : Int))) rfl (yl_lenR rfl Tryd.underlying22 h2 rfl) ?_
  refine T0_q (v := (.bool (decide ((p_t.Vanes.length : Int) ≤ 16)))) rfl (yl_leq rfl rfl) ?_
  refine T0_q (v := (.bool (decide ((p_t.Vanes.length : Int) ≤ 16)))) rfl (yl_move rfl) ?_
  refine T0_g (v := (.pointer (some ⟨b5, 0, none⟩))) (!(decide ((p_t.Vanes.length : Int) ≤ 16))) (wanted_f rfl rfl rfl rfl) (fun hg => (yl_fa 0 Tryd.underlying24 rfl rfl ⟨0, sz22⟩ rfl rfl)) ?_
  refine T0_g (v := v1) (!(decide ((p_t.Vanes.length : Int) ≤ 16))) (wanted_f rfl rfl rfl rfl) (fun hg => (yl_load sc22 (gd_true hg) (Box.at hB9))) ?_
  refine T0_g (v := (.int .i64 (p_t.Vanes.length : Int))) (!(decide ((p_t.Vanes.length : Int) ≤ 16))) (wanted_f rfl rfl rfl rfl) (fun hg => (yl_lenR rfl Tryd.underlying22 h2 (gd_true hg))) ?_
  refine T0_g (v := (.bool (decide (40 < (p_t.Vanes.length : Int))))) (!(decide ((p_t.Vanes.length : Int) ≤ 16))) (wanted_f rfl rfl rfl rfl) (fun hg => (yl_gtr (gd_true hg) rfl)) ?_
  refine T0_g (v := (.bool (decide (40 < (p_t.Vanes.length : Int))))) (!(decide ((p_t.Vanes.length : Int) ≤ 16))) (wanted_f rfl rfl rfl rfl) (fun hg => (yl_move (gd_true hg))) ?_
  refine T0_g (v := (.pointer (some ⟨b5, 0, none⟩))) ((!(decide ((p_t.Vanes.length : Int) ≤ 16))) && (decide (40 < (p_t.Vanes.length : Int)))) (wanted_gt rfl rfl rfl rfl) (fun hg => (yl_fa 0 Tryd.underlying24 rfl rfl ⟨0, sz22⟩ rfl rfl)) ?_
  refine T0_g (v := v1) ((!(decide ((p_t.Vanes.length : Int) ≤ 16))) && (decide (40 < (p_t.Vanes.length : Int)))) (wanted_gt rfl rfl rfl rfl) (fun hg => (yl_load sc22 (gd_true hg) (Box.at hB9))) ?_
  refine T0_g (v := (.int .i64 (p_t.Vanes.length : Int))) ((!(decide ((p_t.Vanes.length : Int) ≤ 16))) && (decide (40 < (p_t.Vanes.length : Int)))) (wanted_gt rfl rfl rfl rfl) (fun hg => (yl_lenR rfl Tryd.underlying22 h2 (gd_true hg))) ?_
  refine T0_g (v := (.bool (decide ((p_t.Vanes.length : Int) ≤ 42)))) ((!(decide ((p_t.Vanes.length : Int) ≤ 16))) && (decide (40 < (p_t.Vanes.length : Int)))) (wanted_gt rfl rfl rfl rfl) (fun hg => (yl_leq (gd_true hg) rfl)) ?_
  refine T0_g (v := (.bool ((decide (40 < (p_t.Vanes.length : Int))) && (decide ((p_t.Vanes.length : Int) ≤ 42))))) (!(decide ((p_t.Vanes.length : Int) ≤ 16))) (wanted_f rfl rfl rfl rfl) (fun hg => (yl_and (gd_true hg) (fun hb => (gd_true (and_i hg hb))) rfl)) ?_
  refine T0_q (v := (.bool ((decide ((p_t.Vanes.length : Int) ≤ 16)) || ((decide (40 < (p_t.Vanes.length : Int))) && (decide ((p_t.Vanes.length : Int) ≤ 42)))))) rfl (yl_or rfl rfl (fun hb => (gd_true (not_t hb)))) ?_
  refine T0_q (v := (.bool ((decide ((p_t.Vanes.length : Int) ≤ 16)) || ((decide (40 < (p_t.Vanes.length : Int))) && (decide ((p_t.Vanes.length : Int) ≤ 42)))))) rfl (yl_assign rfl) ?_
  refine T0_nil ?_
  refine hK13 _ _ ?_
  refine WC_ret ?_
  replace h := some_out h
  subst h
  exact ⟨[(.bool ((decide ((p_t.Vanes.length : Int) ≤ 16)) || ((decide (40 < (p_t.Vanes.length : Int))) && (decide ((p_t.Vanes.length : Int) ≤ 42)))))], ⟨rfl, trivial⟩, e11, rfl⟩

noncomputable def law04_LocateNears_spec (p_Listappend : LocateTrack) (p_String : (List Int)) : Option Bool :=
  (Option.bind (law04_awake_spec) fun r16 =>
  (bif (!r16) then (
    some false
  ) else (
    (Option.bind (law04_Short_spec p_Listappend) fun r26 =>
    (bif ((!r26) || (decide (14 < (p_String.length : Int)))) then (
      some true
    ) else (
      (Option.bind (ref04_Copy_spec p_Listappend) fun r36 =>
      (Option.bind (base_CopyInts_spec p_String) fun r48 =>
      (Option.bind (locate_Near_spec r36 r48) fun r58 =>
      (Option.bind (ref04_Copy_spec p_Listappend) fun r70 =>
      (Option.bind (base_CopyInts_spec p_String) fun r84 =>
      (Option.bind (locate_Told_spec r70 r84) fun r97 =>
      (Option.bind (ref04_TrackErr_spec p_Listappend) fun r109 =>
      (Option.bind (α := (Int)) (
        (bif (decide (r109 = 0)) then (
          (Option.bind (ref04_SeenErr_spec p_Listappend p_String) fun r156 =>
          some r156
          )
        ) else (
          some r109
        ))
      ) fun (x146 : Int) =>
      (bif (!decide (x146 = 0)) then (
        some ((((decide (r58.2 = x146)) && (decide (r97.2 = x146))) && (decide ((r58.1.length : Int) = 0))) && (decide (r97.1 = 0)))
      ) else (
        (Option.bind (ref04_Near_spec p_Listappend p_String) fun r173 =>
        (Option.bind (bif (!(!decide (r58.2 = 0))) then base_Ints_spec r58.1 r173 else some default) fun r183 =>
        (bif ((!decide (r58.2 = 0)) || (!r183)) then (
          some false
        ) else (
          (bif (decide ((r173.length : Int) = 1)) then (
            (Option.bind ((bif (decide (r97.2 = 0)) then idx r173 0 else some default)) fun el195 =>
            some ((decide (r97.2 = 0)) && (decide (r97.1 = el195)))
            )
          ) else (
            some ((decide (r97.1 = 0)) && (((decide ((r173.length : Int) = 0)) && (decide (r97.2 = 12))) || ((decide (1 < (r173.length : Int))) && (decide (r97.2 = 29)))))
          ))
        ))
        )
        )
      ))
      )
      )
      )
      )
      )
      )
      )
      )
    ))
    )
  ))
  )
theorem law04_LocateNears_ok (L : List Value) (w : World) (hL : LtL L w) (hg0 : At w ⟨0, 0, none⟩ [.int .i64 0, .int .i64 1, .int .i64 3, .int .i64 2]) (cs_p_Listappend : List Value) (p_Listappend : LocateTrack) (h_p_Listappend : Rep.rd L w cs_p_Listappend p_Listappend) (v_p_String : Value) (p_String : (List Int)) (h_p_String : SlRd L w v_p_String p_String) (r : Bool) (h : law04_LocateNears_spec p_Listappend p_String = some r) :
    CallsTo Tryd.prog 7 [(.agg cs_p_Listappend.toArray), v_p_String] w (fun v w' => Ext w w' ∧ (.bool r) = v) := by
  have e0 : Ext w w := Chg.refl _ _
  obtain ⟨v1, h2, rfl⟩ := h_p_Listappend
  refine callsTo_of_WC (n := 106) (rs := [.tmp 4]) Tryd.func7 rfl rfl rfl rfl rfl ?_
  refine WC_seqK fun K5 hK5 => ?_
  refine WC_region ?_
  refine T0_e rfl (eff_boxC (cs := [v1, (.int .i64 p_Listappend.Window), (.int .i64 p_Listappend.Tooth), (.int .i64 p_Listappend.PerVane), (.int .i64 p_Listappend.First), (.int .i64 p_Listappend.Modulus), (.int .i64 p_Listappend.Slack), (.int .i64 p_Listappend.Errors), (.bool p_Listappend.Round)]) rfl rfl ?_)
  intro b6 wd7 hb8 he9 hB10
  have hbf11 := bfresh e0 hb8
  have e12 := e0.trans he9
  refine T0_q (v := (.bool false)) rfl (yl_assign rfl) ?_
  refine T0_nil ?_
  refine hK5 _ _ ?_
  refine WC_seqK fun K14 hK14 => ?_
  refine WC_seqK fun K15 hK15 => ?_
  refine WC_region ?_
  obtain ⟨r16, hr17, h⟩ := bind_elim h
  refine T0_e rfl (eff_call Tryd.func18 nm18 rfl ev0 (law04_awake_ok [] _ (LtL.nil _) (hg0.ext e12)  r16 hr17) ?_)
  rintro _ wd18 ⟨he19, rfl⟩
  have e20 := he9.trans he19
  have e21 := e12.trans he19
  refine T0_q (v := (.bool (!r16))) rfl (yl_not rfl) ?_
  refine T0_nil ?_
  refine hK15 _ _ ?_
  refine WC_cond (b := (!r16)) rfl (fun hb22 => ?_) (fun hb22 => ?_)
  · replace h := cond_t hb22 h
    refine WC_seqK fun K23 hK23 => ?_
    refine WC_region ?_
    refine T0_q (v := (.bool false)) rfl (yl_assign rfl) ?_
    refine T0_nil ?_
    refine hK23 _ _ ?_
    refine WC_ret ?_
    replace h := some_out h
    subst h
    exact ⟨[(.bool false)], ⟨rfl, trivial⟩, e21, rfl⟩
  · replace h := cond_f hb22 h
    refine WC_skip ?_
    refine hK14 _ _ ?_
    refine WC_seqK fun K24 hK24 => ?_
    refine WC_seqK fun K25 hK25 => ?_
    refine WC_region ?_
    refine T0_q (v := (.agg (List.toArray [v1, (.int .i64 p_Listappend.Window), (.int .i64 p_Listappend.Tooth), (.int .i64 p_Listappend.PerVane), (.int .i64 p_Listappend.First), (.int .i64 p_Listappend.Modulus), (.int .i64 p_Listappend.Slack), (.int .i64 p_Listappend.Errors), (.bool p_Listappend.Round)]))) rfl (yl_loadA (cs := [v1, (.int .i64 p_Listappend.Window), (.int .i64 p_Listappend.Tooth), (.int .i64 p_Listappend.PerVane), (.int .i64 p_Listappend.First), (.int .i64 p_Listappend.Modulus), (.int .i64 p_Listappend.Slack), (.int .i64 p_Listappend.Errors), (.bool p_Listappend.Round)]) ag24 rfl (Box.at (hB10.ext he19))) ?_
    obtain ⟨r26, hr27, h⟩ := bind_elim h
    refine T0_e rfl (eff_call Tryd.func19 nm19 rfl (ev1 rfl) (law04_Short_ok [] _ (LtL.nil _) [v1, (.int .i64 p_Listappend.Window), (.int .i64 p_Listappend.Tooth), (.int .i64 p_Listappend.PerVane), (.int .i64 p_Listappend.First), (.int .i64 p_Listappend.Modulus), (.int .i64 p_Listappend.Slack), (.int .i64 p_Listappend.Errors), (.bool p_Listappend.Round)] p_Listappend ⟨v1, ((h2.ext e20).sub (fun _ h => by cases h)), rfl⟩ r26 hr27) ?_)
    rintro _ wd28 ⟨he29, rfl⟩
    have e30 := e20.trans he29
    have e31 := he19.trans he29
    have e32 := e21.trans he29
    refine T0_q (v := (.bool (!r26))) rfl (yl_not rfl) ?_
    refine T0_q (v := (.bool (!r26))) rfl (yl_move rfl) ?_
    refine T0_g (v := v_p_String) (!(!r26)) (wanted_f rfl rfl rfl rfl) (fun hg => (yl_move rfl)) ?_
    refine T0_g (v := (.int .i64 (p_String.length : Int))) (!(!r26)) (wanted_f rfl rfl rfl rfl) (fun hg => (yl_lenR rfl Tryd.underlying22 h_p_String (gd_true hg))) ?_
    refine T0_g (v := (.bool (decide (14 < (p_String.length : Int))))) (!(!r26)) (wanted_f rfl rfl rfl rfl) (fun hg => (yl_gtr (gd_true hg) rfl)) ?_
    refine T0_q (v := (.bool ((!r26) || (decide (14 < (p_String.length : Int)))))) rfl (yl_or rfl rfl (fun hb => (gd_true (not_t hb)))) ?_
    refine T0_nil ?_
    refine hK25 _ _ ?_
    refine WC_cond (b := ((!r26) || (decide (14 < (p_String.length : Int))))) rfl (fun hb33 => ?_) (fun hb33 => ?_)
    · replace h := cond_t hb33 h
      refine WC_seqK fun K34 hK34 => ?_
      refine WC_region ?_
      refine T0_q (v := (.bool true)) rfl (yl_assign rfl) ?_
      refine T0_nil ?_
      refine hK34 _ _ ?_
      refine WC_ret ?_
      replace h := some_out h
      subst h
      exact ⟨[(.bool true)], ⟨rfl, trivial⟩, e32, rfl⟩
    · replace h := cond_f hb33 h
      refine WC_skip ?_
      refine hK24 _ _ ?_
      refine WC_seqK fun K35 hK35 => ?_
      refine WC_region ?_
      refine T0_q (v := (.agg (List.toArray [v1, (.int .i64 p_Listappend.Window), (.int .i64 p_Listappend.Tooth), (.int .i64 p_Listappend.PerVane), (.int .i64 p_Listappend.First), (.int .i64 p_Listappend.Modulus), (.int .i64 p_Listappend.Slack), (.int .i64 p_Listappend.Errors), (.bool p_Listappend.Round)]))) rfl (yl_loadA (cs := [v1, (.int .i64 p_Listappend.Window), (.int .i64 p_Listappend.Tooth), (.int .i64 p_Listappend.PerVane), (.int .i64 p_Listappend.First), (.int .i64 p_Listappend.Modulus), (.int .i64 p_Listappend.Slack), (.int .i64 p_Listappend.Errors), (.bool p_Listappend.Round)]) ag24 rfl (Box.at (hB10.ext e31))) ?_
      obtain ⟨r36, hr37, h⟩ := bind_elim h
      refine T0_e rfl (eff_call Tryd.func21 nm21 rfl (ev1 rfl) (ref04_Copy_ok L _ (hL.chg e32) [v1, (.int .i64 p_Listappend.Window), (.int .i64 p_Listappend.Tooth), (.int .i64 p_Listappend.PerVane), (.int .i64 p_Listappend.First), (.int .i64 p_Listappend.Modulus), (.int .i64 p_Listappend.Slack), (.int .i64 p_Listappend.Errors), (.bool p_Listappend.Round)] p_Listappend ⟨v1, (h2.ext e30), rfl⟩ r36 hr37) ?_)
      rintro _ wd38 ⟨he39, cs42, rfl, hrd43⟩
      have e44 := e30.trans he39
      have e45 := e31.trans he39
      have e46 := e32.trans he39
      obtain ⟨v40, h41, rfl⟩ := hrd43
      refine T0_q (v := v_p_String) rfl (yl_move rfl) ?_
      obtain ⟨r48, hr49, h⟩ := bind_elim h
      refine T0_e rfl (eff_call Tryd.func30 nm30 rfl (ev1 rfl) (base_CopyInts_ok L _ (hL.chg e46) v_p_String p_String (h_p_String.ext e44) r48 hr49) ?_)
      rintro _ wd50 ⟨he51, v52, rfl, h53⟩
      have e54 := e44.trans he51
      have e55 := e45.trans he51
      have e56 := e46.trans he51
      obtain ⟨r58, hr59, h⟩ := bind_elim h
      refine T0_e rfl (eff_call Tryd.func29 nm29 rfl (ev2 rfl rfl) (locate_Near_ok L _ (hL.chg e56) [v40, (.int .i64 r36.Window), (.int .i64 r36.Tooth), (.int .i64 r36.PerVane), (.int .i64 r36.First), (.int .i64 r36.Modulus), (.int .i64 r36.Slack), (.int .i64 r36.Errors), (.bool r36.Round)] r36 ⟨v40, (h41.ext he51), rfl⟩ v52 r48 h53 r58 hr59) ?_)
      rintro _ wd60 ⟨he61, v62, rfl, h63⟩
      have e64 := e54.trans he61
      have e65 := he51.trans he61
      have e66 := e55.trans he61
      have e67 := e56.trans he61
      refine T0_q (v := (.tuple #[v62, (.int .i64 r58.2)])) rfl (yl_move rfl) ?_
      refine T0_q (v := v62) rfl (yl_extract rfl rfl) ?_
      refine T0_q (v := (.int .i64 r58.2)) rfl (yl_extract rfl rfl) ?_
      refine T0_q (v := v62) rfl (yl_assign rfl) ?_
      refine T0_q (v := (.int .i64 r58.2)) rfl (yl_assign rfl) ?_
      refine T0_nil ?_
      refine hK35 _ _ ?_
      refine WC_seqK fun K69 hK69 => ?_
      refine WC_region ?_
      refine T0_q (v := (.agg (List.toArray [v1, (.int .i64 p_Listappend.Window), (.int .i64 p_Listappend.Tooth), (.int .i64 p_Listappend.PerVane), (.int .i64 p_Listappend.First), (.int .i64 p_Listappend.Modulus), (.int .i64 p_Listappend.Slack), (.int .i64 p_Listappend.Errors), (.bool p_Listappend.Round)]))) rfl (yl_loadA (cs := [v1, (.int .i64 p_Listappend.Window), (.int .i64 p_Listappend.Tooth), (.int .i64 p_Listappend.PerVane), (.int .i64 p_Listappend.First), (.int .i64 p_Listappend.Modulus), (.int .i64 p_Listappend.Slack), (.int .i64 p_Listappend.Errors), (.bool p_Listappend.Round)]) ag24 rfl (Box.at (hB10.ext e66))) ?_
      obtain ⟨r70, hr71, h⟩ := bind_elim h
      refine T0_e rfl (eff_call Tryd.func21 nm21 rfl (ev1 rfl) (ref04_Copy_ok L _ (hL.chg e67) [v1, (.int .i64 p_Listappend.Window), (.int .i64 p_Listappend.Tooth), (.int .i64 p_Listappend.PerVane), (.int .i64 p_Listappend.First), (.int .i64 p_Listappend.Modulus), (.int .i64 p_Listappend.Slack), (.int .i64 p_Listappend.Errors), (.bool p_Listappend.Round)] p_Listappend ⟨v1, (h2.ext e64), rfl⟩ r70 hr71) ?_)
      rintro _ wd72 ⟨he73, cs76, rfl, hrd77⟩
      have e78 := e64.trans he73
      have e79 := e65.trans he73
      have e80 := he61.trans he73
      have e81 := e66.trans he73
      have e82 := e67.trans he73
      obtain ⟨v74, h75, rfl⟩ := hrd77
      refine T0_q (v := v_p_String) rfl (yl_move rfl) ?_
      obtain ⟨r84, hr85, h⟩ := bind_elim h
      refine T0_e rfl (eff_call Tryd.func30 nm30 rfl (ev1 rfl) (base_CopyInts_ok L _ (hL.chg e82) v_p_String p_String (h_p_String.ext e78) r84 hr85) ?_)
      rintro _ wd86 ⟨he87, v88, rfl, h89⟩
      have e90 := e78.trans he87
      have e91 := e79.trans he87
      have e92 := e80.trans he87
      have e93 := he73.trans he87
      have e94 := e81.trans he87
      have e95 := e82.trans he87
      obtain ⟨r97, hr98, h⟩ := bind_elim h
      refine T0_e rfl (eff_call Tryd.func39 nm39 rfl (ev2 rfl rfl) (locate_Told_ok [] _ (LtL.nil _) [v74, (.int .i64 r70.Window), (.int .i64 r70.Tooth), (.int .i64 r70.PerVane), (.int .i64 r70.First), (.int .i64 r70.Modulus), (.int .i64 r70.Slack), (.int .i64 r70.Errors), (.bool r70.Round)] r70 ⟨v74, ((h75.ext he87).sub (fun _ h => by cases h)), rfl⟩ v88 r84 (h89.sub (fun _ h => by cases h)) r97 hr98) ?_)
      rintro _ wd99 ⟨he100, rfl⟩
      have e101 := e90.trans he100
      have e102 := e91.trans he100
      have e103 := e92.trans he100
      have e104 := e93.trans he100
      have e105 := e94.trans he100
      have e106 := he87.trans he100
      have e107 := e95.trans he100
      refine T0_q (v := (.tuple #[(.int .i64 r97.1), (.int .i64 r97.2)])) rfl (yl_move rfl) ?_
      refine T0_q (v := (.int .i64 r97.1)) rfl (yl_extract rfl rfl) ?_
      refine T0_q (v := (.int .i64 r97.2)) rfl (yl_extract rfl rfl) ?_
      refine T0_q (v := (.int .i64 r97.1)) rfl (yl_assign rfl) ?_
      refine T0_q (v := (.int .i64 r97.2)) rfl (yl_assign rfl) ?_
      refine T0_nil ?_
      refine hK69 _ _ ?_
      refine WC_seqK fun K108 hK108 => ?_
      refine WC_region ?_
      refine T0_q (v := (.agg (List.toArray [v1, (.int .i64 p_Listappend.Window), (.int .i64 p_Listappend.Tooth), (.int .i64 p_Listappend.PerVane), (.int .i64 p_Listappend.First), (.int .i64 p_Listappend.Modulus), (.int .i64 p_Listappend.Slack), (.int .i64 p_Listappend.Errors), (.bool p_Listappend.Round)]))) rfl (yl_loadA (cs := [v1, (.int .i64 p_Listappend.Window), (.int .i64 p_Listappend.Tooth), (.int .i64 p_Listappend.PerVane), (.int .i64 p_Listappend.First), (.int .i64 p_Listappend.Modulus), (.int .i64 p_Listappend.Slack), (.int .i64 p_Listappend.Errors), (.bool p_Listappend.Round)]) ag24 rfl (Box.at (hB10.ext e105))) ?_
      obtain ⟨r109, hr110, h⟩ := bind_elim h
      refine T0_e rfl (eff_call Tryd.func24 nm24 rfl (ev1 rfl) (ref04_TrackErr_ok [] _ (LtL.nil _) [v1, (.int .i64 p_Listappend.Window), (.int .i64 p_Listappend.Tooth), (.int .i64 p_Listappend.PerVane), (.int .i64 p_Listappend.First), (.int .i64 p_Listappend.Modulus), (.int .i64 p_Listappend.Slack), (.int .i64 p_Listappend.Errors), (.bool p_Listappend.Round)] p_Listappend ⟨v1, ((h2.ext e101).sub (fun _ h => by cases h)), rfl⟩ r109 hr110) ?_)
      rintro _ wd111 ⟨he112, rfl⟩
      have e113 := e101.trans he112
      have e114 := e102.trans he112
      have e115 := e103.trans he112
      have e116 := e104.trans he112
      have e117 := e105.trans he112
      have e118 := e106.trans he112
      have e119 := he100.trans he112
      have e120 := e107.trans he112
      refine T0_q (v := (.int .i64 r109)) rfl (yl_assign rfl) ?_
      refine T0_nil ?_
      refine hK108 _ _ ?_
      refine WC_seqK fun K121 hK121 => ?_
      refine WC_seqK fun K122 hK122 => ?_
      refine WC_region ?_
      refine T0_q (v := (.int .i64 r109)) rfl (yl_move rfl) ?_
      refine T0_q (v := (.bool (decide (r109 = 0)))) rfl (yl_eql rfl rfl) ?_
      refine T0_nil ?_
      refine hK122 _ _ ?_
      obtain ⟨o151, ho152, hn153⟩ := bind_elim h
      refine WC_post (fun (ρ : Env) (wd136 : World) => ∃ (x146 : Int), x146 = o151 ∧ ρ 1 = v_p_String ∧ ρ 2 = (.pointer (some ⟨b6, 0, none⟩)) ∧ ρ 5 = v62 ∧ ρ 6 = (.int .i64 r58.2) ∧ ρ 7 = (.int .i64 r97.1) ∧ ρ 8 = (.int .i64 r97.2) ∧ ρ 9 = (.int .i64 x146) ∧ SlRd L wd136 v_p_String p_String ∧ SlRd L wd136 v62 r58.1 ∧ SlRd L wd136 v1 p_Listappend.Vanes ∧ Box wd136 b6 [v1, (.int .i64 p_Listappend.Window), (.int .i64 p_Listappend.Tooth), (.int .i64 p_Listappend.PerVane), (.int .i64 p_Listappend.First), (.int .i64 p_Listappend.Modulus), (.int .i64 p_Listappend.Slack), (.int .i64 p_Listappend.Errors), (.bool p_Listappend.Round)] 24 ∧ Ext w wd136) ?_ ?_
      · intro K154 hK154
        replace h := ho152
        clear ho152
        refine WC_cond (b := (decide (r109 = 0))) rfl (fun hb155 => ?_) (fun hb155 => ?_)
        · replace h := cond_t hb155 h
          refine WC_region ?_
          refine T0_q (v := (.agg (List.toArray [v1, (.int .i64 p_Listappend.Window), (.int .i64 p_Listappend.Tooth), (.int .i64 p_Listappend.PerVane), (.int .i64 p_Listappend.First), (.int .i64 p_Listappend.Modulus), (.int .i64 p_Listappend.Slack), (.int .i64 p_Listappend.Errors), (.bool p_Listappend.Round)]))) rfl (yl_loadA (cs := [v1, (.int .i64 p_Listappend.Window), (.int .i64 p_Listappend.Tooth), (.int .i64 p_Listappend.PerVane), (.int .i64 p_Listappend.First), (.int .i64 p_Listappend.Modulus), (.int .i64 p_Listappend.Slack), (.int .i64 p_Listappend.Errors), (.bool p_Listappend.Round)]) ag24 rfl (Box.at (hB10.ext e117))) ?_
          refine T0_q (v := v_p_String) rfl (yl_move rfl) ?_
          obtain ⟨r156, hr157, h⟩ := bind_elim h
          refine T0_e rfl (eff_call Tryd.func40 nm40 rfl (ev2 rfl rfl) (ref04_SeenErr_ok [] _ (LtL.nil _) [v1, (.int .i64 p_Listappend.Window), (.int .i64 p_Listappend.Tooth), (.int .i64 p_Listappend.PerVane), (.int .i64 p_Listappend.First), (.int .i64 p_Listappend.Modulus), (.int .i64 p_Listappend.Slack), (.int .i64 p_Listappend.Errors), (.bool p_Listappend.Round)] p_Listappend ⟨v1, ((h2.ext e113).sub (fun _ h => by cases h)), rfl⟩ v_p_String p_String ((h_p_String.ext e113).sub (fun _ h => by cases h)) r156 hr157) ?_)
          rintro _ wd158 ⟨he159, rfl⟩
          have e160 := e113.trans he159
          have e161 := e114.trans he159
          have e162 := e115.trans he159
          have e163 := e116.trans he159
          have e164 := e117.trans he159
          have e165 := e118.trans he159
          have e166 := e119.trans he159
          have e167 := e120.trans he159
          refine T0_q (v := (.int .i64 r156)) rfl (yl_assign rfl) ?_
          refine T0_nil ?_
          replace h := some_out h
          subst h
          refine hK154 _ _ ?_
          exact ⟨r156, rfl, rfl, rfl, rfl, rfl, rfl, rfl, rfl, (h_p_String.ext e160), (h63.ext e163), (h2.ext e160), (hB10.ext e164), e167⟩
        · replace h := cond_f hb155 h
          refine WC_skip ?_
          replace h := some_out h
          subst h
          refine hK154 _ _ ?_
          exact ⟨r109, rfl, rfl, rfl, rfl, rfl, rfl, rfl, rfl, (h_p_String.ext e113), (h63.ext e116), (h2.ext e113), (hB10.ext e117), e120⟩
      · rintro ρ wd136 ⟨x146, rfl, hs139, hs140, hs142, hs143, hs144, hs145, hs147, h138, h141, h148, hB150, e137⟩
        replace h := hn153
        refine hK121 _ _ ?_
        refine WC_seqK fun K168 hK168 => ?_
        refine WC_seqK fun K169 hK169 => ?_
        refine WC_region ?_
        refine T0_q (v := (.int .i64 x146)) rfl (yl_move hs147) ?_
        refine T0_q (v := (.bool (!decide (x146 = 0)))) rfl (yl_neq rfl rfl) ?_
        refine T0_nil ?_
        refine hK169 _ _ ?_
        refine WC_cond (b := (!decide (x146 = 0))) rfl (fun hb170 => ?_) (fun hb170 => ?_)
        · replace h := cond_t hb170 h
          refine WC_seqK fun K171 hK171 => ?_
          refine WC_region ?_
          refine T0_q (v := (.int .i64 r58.2)) rfl (yl_move hs143) ?_
          refine T0_q (v := (.int .i64 x146)) rfl (yl_move hs147) ?_
          refine T0_q (v := (.bool (decide (r58.2 = x146)))) rfl (yl_eql rfl rfl) ?_
          refine T0_q (v := (.bool (decide (r58.2 = x146)))) rfl (yl_move rfl) ?_
          refine T0_g (v := (.int .i64 r97.2)) (decide (r58.2 = x146)) (wanted_t rfl rfl rfl rfl) (fun hg => (yl_move hs145)) ?_
          refine T0_g (v := (.int .i64 x146)) (decide (r58.2 = x146)) (wanted_t rfl rfl rfl rfl) (fun hg => (yl_move hs147)) ?_
          refine T0_g (v := (.bool (decide (r97.2 = x146)))) (decide (r58.2 = x146)) (wanted_t rfl rfl rfl rfl) (fun hg => (yl_eql (gd_true hg) (gd_true hg))) ?_
          refine T0_q (v := (.bool ((decide (r58.2 = x146)) && (decide (r97.2 = x146))))) rfl (yl_and rfl (fun hb => (gd_true hb)) rfl) ?_
          refine T0_q (v := (.bool ((decide (r58.2 = x146)) && (decide (r97.2 = x146))))) rfl (yl_move rfl) ?_
          refine T0_g (v := v62) ((decide (r58.2 = x146)) && (decide (r97.2 = x146))) (wanted_t rfl rfl rfl rfl) (fun hg => (yl_move hs142)) ?_
          refine T0_g (v := (.int .i64 (r58.1.length : Int))) ((decide (r58.2 = x146)) && (decide (r97.2 = x146))) (wanted_t rfl rfl rfl rfl) (fun hg => (yl_lenR rfl Tryd.underlying22 h141 (gd_true hg))) ?_
          refine T0_g (v := (.bool (decide ((r58.1.length : Int) = 0)))) ((decide (r58.2 = x146)) && (decide (r97.2 = x146))) (wanted_t rfl rfl rfl rfl) (fun hg => (yl_eql (gd_true hg) rfl)) ?_
          refine T0_q (v := (.bool (((decide (r58.2 = x146)) && (decide (r97.2 = x146))) && (decide ((r58.1.length : Int) = 0))))) rfl (yl_and rfl (fun hb => (gd_true hb)) rfl) ?_
          refine T0_q (v := (.bool (((decide (r58.2 = x146)) && (decide (r97.2 = x146))) && (decide ((r58.1.length : Int) = 0))))) rfl (yl_move rfl) ?_
          refine T0_g (v := (.int .i64 r97.1)) (((decide (r58.2 = x146)) && (decide (r97.2 = x146))) && (decide ((r58.1.length : Int) = 0))) (wanted_t rfl rfl rfl rfl) (fun hg => (yl_move hs144)) ?_
          refine T0_g (v := (.bool (decide (r97.1 = 0)))) (((decide (r58.2 = x146)) && (decide (r97.2 = x146))) && (decide ((r58.1.length : Int) = 0))) (wanted_t rfl rfl rfl rfl) (fun hg => (yl_eql (gd_true hg) rfl)) ?_
          refine T0_q (v := (.bool ((((decide (r58.2 = x146)) && (decide (r97.2 = x146))) && (decide ((r58.1.length : Int) = 0))) && (decide (r97.1 = 0))))) rfl (yl_and rfl (fun hb => (gd_true hb)) rfl) ?_
          refine T0_q (v := (.bool ((((decide (r58.2 = x146)) && (decide (r97.2 = x146))) && (decide ((r58.1.length : Int) = 0))) && (decide (r97.1 = 0))))) rfl (yl_assign rfl) ?_
          refine T0_nil ?_
          refine hK171 _ _ ?_
          refine WC_ret ?_
          replace h := some_out h
          subst h
          exact ⟨[(.bool ((((decide (r58.2 = x146)) && (decide (r97.2 = x146))) && (decide ((r58.1.length : Int) = 0))) && (decide (r97.1 = 0))))], ⟨rfl, trivial⟩, e137, rfl⟩
        · replace h := cond_f hb170 h
          refine WC_skip ?_
          refine hK168 _ _ ?_
          refine WC_seqK fun K172 hK172 => ?_
          refine WC_region ?_
          refine T0_q (v := (.agg (List.toArray [v1, (.int .i64 p_Listappend.Window), (.int .i64 p_Listappend.Tooth), (.int .i64 p_Listappend.PerVane), (.int .i64 p_Listappend.First), (.int .i64 p_Listappend.Modulus), (.int .i64 p_Listappend.Slack), (.int .i64 p_Listappend.Errors), (.bool p_Listappend.Round)]))) rfl (yl_loadA (cs := [v1, (.int .i64 p_Listappend.Window), (.int .i64 p_Listappend.Tooth), (.int .i64 p_Listappend.PerVane), (.int .i64 p_Listappend.First), (.int .i64 p_Listappend.Modulus), (.int .i64 p_Listappend.Slack), (.int .i64 p_Listappend.Errors), (.bool p_Listappend.Round)]) ag24 hs140 (Box.at hB150)) ?_
          refine T0_q (v := v_p_String) rfl (yl_move hs139) ?_
          obtain ⟨r173, hr174, h⟩ := bind_elim h
          refine T0_e rfl (eff_call Tryd.func41 nm41 rfl (ev2 rfl rfl) (ref04_Near_ok L _ (hL.chg e137) [v1, (.int .i64 p_Listappend.Window), (.int .i64 p_Listappend.Tooth), (.int .i64 p_Listappend.PerVane), (.int .i64 p_Listappend.First), (.int .i64 p_Listappend.Modulus), (.int .i64 p_Listappend.Slack), (.int .i64 p_Listappend.Errors), (.bool p_Listappend.Round)] p_Listappend ⟨v1, h148, rfl⟩ v_p_String p_String h138 r173 hr174) ?_)
          rintro _ wd175 ⟨he176, v177, rfl, h178⟩
          have e179 := e137.trans he176
          refine T0_q (v := v177) rfl (yl_assign rfl) ?_
          refine T0_nil ?_
          refine hK172 _ _ ?_
          refine WC_seqK fun K181 hK181 => ?_
          refine WC_seqK fun K182 hK182 => ?_
          refine WC_region ?_
          refine T0_q (v := (.int .i64 r58.2)) rfl (yl_move hs143) ?_
          refine T0_q (v := (.bool (!decide (r58.2 = 0)))) rfl (yl_neq rfl rfl) ?_
          refine T0_q (v := (.bool (!decide (r58.2 = 0)))) rfl (yl_move rfl) ?_
          refine T0_g (v := v62) (!(!decide (r58.2 = 0))) (wanted_f rfl rfl rfl rfl) (fun hg => (yl_move hs142)) ?_
          refine T0_g (v := v177) (!(!decide (r58.2 = 0))) (wanted_f rfl rfl rfl rfl) (fun hg => (yl_move rfl)) ?_
          obtain ⟨r183, hr184, h⟩ := bind_elim h
          refine T0_ges (!(!decide (r58.2 = 0))) (.bool r183) (wanted_f rfl rfl rfl rfl) (fun hg => eff_call Tryd.func42 nm42 rfl (ev2 (gd_true hg) (gd_true hg)) (base_Ints_ok [] _ (LtL.nil _) v62 r58.1 ((h141.ext he176).sub (fun _ h => by cases h)) v177 r173 (h178.sub (fun _ h => by cases h)) r183 (cond_t hg hr184)) (by rintro _ wd185 ⟨he186, rfl⟩; exact ⟨rfl, he186⟩)) ?_
          intro wd185 he186
          have e187 := he176.trans he186
          have e188 := e179.trans he186
          refine T0_g (v := (.bool (!r183))) (!(!decide (r58.2 = 0))) (wanted_f rfl rfl rfl rfl) (fun hg => (yl_not (gd_true hg))) ?_
          refine T0_q (v := (.bool ((!decide (r58.2 = 0)) || (!r183)))) rfl (yl_or rfl rfl (fun hb => (gd_true (not_t hb)))) ?_
          refine T0_nil ?_
          refine hK182 _ _ ?_
          refine WC_cond (b := ((!decide (r58.2 = 0)) || (!r183))) rfl (fun hb189 => ?_) (fun hb189 => ?_)
          · replace h := cond_t hb189 h
            refine WC_seqK fun K190 hK190 => ?_
            refine WC_region ?_
            refine T0_q (v := (.bool false)) rfl (yl_assign rfl) ?_
            refine T0_nil ?_
            refine hK190 _ _ ?_
            refine WC_ret ?_
            replace h := some_out h
            subst h
            exact ⟨[(.bool false)], ⟨rfl, trivial⟩, e188, rfl⟩
          · replace h := cond_f hb189 h
            refine WC_skip ?_
            refine hK181 _ _ ?_
            refine WC_seqK fun K191 hK191 => ?_
            refine WC_seqK fun K192 hK192 => ?_
            refine WC_region ?_
            refine T0_q (v := v177) rfl (yl_move rfl) ?_
            refine T0_q (v := (.int .i64 (r173.length : Int))) rfl (yl_lenR rfl Tryd.underlying22 h178 rfl) ?_
            refine T0_q (v := (.bool (decide ((r173.length : Int) = 1)))) rfl (yl_eql rfl rfl) ?_
            refine T0_nil ?_
            refine hK192 _ _ ?_
            refine WC_cond (b := (decide ((r173.length : Int) = 1))) rfl (fun hb193 => ?_) (fun hb193 => ?_)
            · replace h := cond_t hb193 h
              refine WC_seqK fun K194 hK194 => ?_
              refine WC_region ?_
              refine T0_q (v := (.int .i64 r97.2)) rfl (yl_move hs145) ?_
              refine T0_q (v := (.bool (decide (r97.2 = 0)))) rfl (yl_eql rfl rfl) ?_
              refine T0_q (v := (.bool (decide (r97.2 = 0)))) rfl (yl_move rfl) ?_
              refine T0_g (v := (.int .i64 r97.1)) (decide (r97.2 = 0)) (wanted_t rfl rfl rfl rfl) (fun hg => (yl_move hs144)) ?_
              refine T0_g (v := v177) (decide (r97.2 = 0)) (wanted_t rfl rfl rfl rfl) (fun hg => (yl_move rfl)) ?_
              obtain ⟨el195, hel196, h⟩ := bind_elim h
              have hat198 : (decide (r97.2 = 0)) = true → At wd175 (elemAddr v177 (0 : Int).toNat 1) [(.int .i64 el195)] := fun hg => by obtain ⟨cs, hat, hrd⟩ := SlRd.at h178 (cond_t hg hel196); have hrd : cs = [(.int .i64 el195)] := hrd; subst hrd; exact hat
              refine T0_g (v := (.pointer (some (elemAddr v177 (0 : Int).toNat 1)))) (decide (r97.2 = 0)) (wanted_t rfl rfl rfl rfl) (fun hg => (yl_indexAddr Tryd.underlying22 sz3 h178 (cond_t hg hel196) (gd_true hg) rfl)) ?_
              refine T0_g (v := (.int .i64 el195)) (decide (r97.2 = 0)) (wanted_t rfl rfl rfl rfl) (fun hg => (yl_load sc3 (gd_true hg) ((hat198 hg).ext' he186))) ?_
              refine T0_g (v := (.bool (decide (r97.1 = el195)))) (decide (r97.2 = 0)) (wanted_t rfl rfl rfl rfl) (fun hg => (yl_eql (gd_true hg) (gd_true hg))) ?_
              refine T0_q (v := (.bool ((decide (r97.2 = 0)) && (decide (r97.1 = el195))))) rfl (yl_and rfl (fun hb => (gd_true hb)) rfl) ?_
              refine T0_q (v := (.bool ((decide (r97.2 = 0)) && (decide (r97.1 = el195))))) rfl (yl_assign rfl) ?_
              refine T0_nil ?_
              refine hK194 _ _ ?_
              refine WC_ret ?_
              replace h := some_out h
              subst h
              exact ⟨[(.bool ((decide (r97.2 = 0)) && (decide (r97.1 = el195))))], ⟨rfl, trivial⟩, e188, rfl⟩
            · replace h := cond_f hb193 h
              refine WC_skip ?_
              refine hK191 _ _ ?_
              refine WC_seqK fun K200 hK200 => ?_
              refine WC_region ?_
              refine T0_q (v := (.int .i64 r97.1)) rfl (yl_move hs144) ?_
              refine T0_q (v := (.bool (decide (r97.1 = 0)))) rfl (yl_eql rfl rfl) ?_
              refine T0_q (v := (.bool (decide (r97.1 = 0)))) rfl (yl_move rfl) ?_
              refine T0_g (v := v177) (decide (r97.1 = 0)) (wanted_t rfl rfl rfl rfl) (fun hg => (yl_move rfl)) ?_
              refine T0_g (v := (.int .i64 (r173.length : Int))) (decide (r97.1 = 0)) (wanted_t rfl rfl rfl rfl) (fun hg => (yl_lenR rfl Tryd.underlying22 h178 (gd_true hg))) ?_
              refine T0_g (v := (.bool (decide ((r173.length : Int) = 0)))) (decide (r97.1 = 0)) (wanted_t rfl rfl rfl rfl) (fun hg => (yl_eql (gd_true hg) rfl)) ?_
              refine T0_g (v := (.bool (decide ((r173.length : Int) = 0)))) (decide (r97.1 = 0)) (wanted_t rfl rfl rfl rfl) (fun hg => (yl_move (gd_true hg))) ?_
              refine T0_g (v := (.int .i64 r97.2)) ((decide (r97.1 = 0)) && (decide ((r173.length : Int) = 0))) (wanted_gt rfl rfl rfl rfl) (fun hg => (yl_move hs145)) ?_
              refine T0_g (v := (.bool (decide (r97.2 = 12)))) ((decide (r97.1 = 0)) && (decide ((r173.length : Int) = 0))) (wanted_gt rfl rfl rfl rfl) (fun hg => (yl_eql (gd_true hg) rfl)) ?_
              refine T0_g (v := (.bool ((decide ((r173.length : Int) = 0)) && (decide (r97.2 = 12))))) (decide (r97.1 = 0)) (wanted_t rfl rfl rfl rfl) (fun hg => (yl_and (gd_true hg) (fun hb => (gd_true (and_i hg hb))) rfl)) ?_
              refine T0_g (v := (.bool ((decide ((r173.length : Int) = 0)) && (decide (r97.2 = 12))))) (decide (r97.1 = 0)) (wanted_t rfl rfl rfl rfl) (fun hg => (yl_move (gd_true hg))) ?_
              refine T0_g (v := v177) ((decide (r97.1 = 0)) && (!((decide ((r173.length : Int) = 0)) && (decide (r97.2 = 12))))) (wanted_gf rfl rfl rfl rfl) (fun hg => (yl_move rfl)) ?_
              refine T0_g (v := (.int .i64 (r173.length : Int))) ((decide (r97.1 = 0)) && (!((decide ((r173.length : Int) = 0)) && (decide (r97.2 = 12))))) (wanted_gf rfl rfl rfl rfl) (fun hg => (yl_lenR rfl Tryd.underlying22 h178 (gd_true hg))) ?_
              refine T0_g (v := (.bool (decide (1 < (r173.length : Int))))) ((decide (r97.1 = 0)) && (!((decide ((r173.length : Int) = 0)) && (decide (r97.2 = 12))))) (wanted_gf rfl rfl rfl rfl) (fun hg => (yl_gtr (gd_true hg) rfl)) ?_
              refine T0_g (v := (.bool (decide (1 < (r173.length : Int))))) ((decide (r97.1 = 0)) && (!((decide ((r173.length : Int) = 0)) && (decide (r97.2 = 12))))) (wanted_gf rfl rfl rfl rfl) (fun hg => (yl_move (gd_true hg))) ?_
              refine T0_g (v := (.int .i64 r97.2)) (((decide (r97.1 = 0)) && (!((decide ((r173.length : Int) = 0)) && (decide (r97.2 = 12))))) && (decide (1 < (r173.length : Int)))) (wanted_gt rfl rfl rfl rfl) (fun hg => (yl_move hs145)) ?_
              refine T0_g (v := (.bool (decide (r97.2 = 29)))) (((decide (r97.1 = 0)) && (!((decide ((r173.length : Int) = 0)) && (decide (r97.2 = 12))))) && (decide (1 < (r173.length : Int)))) (wanted_gt rfl rfl rfl rfl) (fun hg => (yl_eql (gd_true hg) rfl)) ?_
              refine T0_g (v := (.bool ((decide (1 < (r173.length : Int))) && (decide (r97.2 = 29))))) ((decide (r97.1 = 0)) && (!((decide ((r173.length : Int) = 0)) && (decide (r97.2 = 12))))) (wanted_gf rfl rfl rfl rfl) (fun hg => (yl_and (gd_true hg) (fun hb => (gd_true (and_i hg hb))) rfl)) ?_
              refine T0_g (v := (.bool (((decide ((r173.length : Int) = 0)) && (decide (r97.2 = 12))) || ((decide (1 < (r173.length : Int))) && (decide (r97.2 = 29)))))) (decide (r97.1 = 0)) (wanted_t rfl rfl rfl rfl) (fun hg => (yl_or (gd_true hg) rfl (fun hb => (gd_true (and_i hg (not_t hb)))))) ?_
              refine T0_q (v := (.bool ((decide (r97.1 = 0)) && (((decide ((r173.length : Int) = 0)) && (decide (r97.2 = 12))) || ((decide (1 < (r173.length : Int))) && (decide (r97.2 = 29))))))) rfl (yl_and rfl (fun hb => (gd_true hb)) rfl) ?_
              refine T0_q (v := (.bool ((decide (r97.1 = 0)) && (((decide ((r173.length : Int) = 0)) && (decide (r97.2 = 12))) || ((decide (1 < (r173.length : Int))) && (decide (r97.2 = 29))))))) rfl (yl_assign rfl) ?_
              refine T0_nil ?_
              refine hK200 _ _ ?_
              refine WC_ret ?_
              replace h := some_out h
              subst h
              exact ⟨[(.bool ((decide (r97.1 = 0)) && (((decide ((r173.length : Int) = 0)) && (decide (r97.2 = 12))) || ((decide (1 < (r173.length : Int))) && (decide (r97.2 = 29))))))], ⟨rfl, trivial⟩, e188, rfl⟩

end Go.Gw
