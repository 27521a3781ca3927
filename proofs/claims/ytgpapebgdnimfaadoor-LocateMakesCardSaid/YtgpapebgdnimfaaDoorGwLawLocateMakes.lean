/- What functions come to, printed by a program of this work. No condition. -/
import Derived.Test.YtgpapebgdnimfaaDoorGwFnC
import Derived.Test.YtgpapebgdnimfaaDoorGwFxDist
import Derived.Test.YtgpapebgdnimfaaDoorGwFxMake
import Derived.Test.YtgpapebgdnimfaaDoorGwFacts2
set_option maxRecDepth 4096
set_option maxHeartbeats 1000000
set_option linter.unusedVariables false
namespace Go.Gw
open Go Go.Proofs
attribute [local irreducible] T0 TS TT TP Eff Stp WC Quiet gd
noncomputable def law04_LocateMakes_spec (p_Listappend : Int) (p_String : Int) (p_lengthwindowdistancelengthwindowdistanceledwantoknf : Int) : Option Bool :=
  (Option.bind (law04_awake_spec) fun r4 =>
  (bif (!r4) then (
    some false
  ) else (
    (Option.bind (base_Within_spec p_Listappend 10 14) fun r13 =>
    (bif r13 then (
      some true
    ) else (
      (Option.bind (locate_FirstTrack_spec p_Listappend p_String p_lengthwindowdistancelengthwindowdistanceledwantoknf) fun r21 =>
      (Option.bind (ref04_MadeErr_spec p_Listappend p_String p_lengthwindowdistancelengthwindowdistanceledwantoknf) fun r31 =>
      (bif (!decide (r31 = 0)) then (
        some ((decide (r21.2 = r31)) && (decide ((r21.1.length : Int) = 0)))
      ) else (
        (Option.bind (ref04_FirstTrack_spec p_Listappend p_String p_lengthwindowdistancelengthwindowdistanceledwantoknf) fun r40 =>
        (bif (!r40.2) then (
          some ((decide (r21.2 = 12)) && (decide ((r21.1.length : Int) = 0)))
        ) else (
          (Option.bind (bif (!(!decide (r21.2 = 0))) then base_Ints_spec r21.1 r40.1 else some default) fun r55 =>
          (bif ((!decide (r21.2 = 0)) || (!r55)) then (
            some false
          ) else (
            (Option.bind (locate_DistanceOf_spec (LocateTrack.mk r21.1 p_String 1 1 0 1 0 0 false)) fun r64 =>
            some (((decide (r64.2.2 = 0)) && (decide (p_lengthwindowdistancelengthwindowdistanceledwantoknf ≤ r64.1))) || ((decide (r64.2.2 = 12)) && (decide (p_Listappend = p_String))))
            )
          ))
          )
        ))
        )
      ))
      )
      )
    ))
    )
  ))
  )
theorem law04_LocateMakes_ok (L : List Value) (w : World) (hL : LtL L w) (hg0 : At w ⟨0, 0, none⟩ [.int .i64 0, .int .i64 1, .int .i64 3, .int .i64 2]) (p_Listappend : Int) (p_String : Int) (p_lengthwindowdistancelengthwindowdistanceledwantoknf : Int) (r : Bool) (h : law04_LocateMakes_spec p_Listappend p_String p_lengthwindowdistancelengthwindowdistanceledwantoknf = some r) :
    CallsTo Tryd.prog 17 [(.int .i64 p_Listappend), (.int .i64 p_String), (.int .i64 p_lengthwindowdistancelengthwindowdistanceledwantoknf)] w (fun v w' => Ext w w' ∧ (.bool r) = v) := by
  have e0 : Ext w w := Chg.refl _ _
  refine callsTo_of_WC (n := 88) (rs := [.tmp 6]) Tryd.func17 rfl rfl rfl rfl rfl ?_
  refine WC_seqK fun K1 hK1 => ?_
  refine WC_region ?_
  refine T0_q (v := (.bool false)) rfl (yl_assign rfl) ?_
  refine T0_nil ?_
  refine hK1 _ _ ?_
  refine WC_seqK fun K2 hK2 => ?_
  refine WC_seqK fun K3 hK3 => ?_
  refine WC_region ?_
  obtain ⟨r4, hr5, h⟩ := bind_elim h
  refine T0_e rfl (eff_call Tryd.func18 nm18 rfl ev0 (law04_awake_ok [] _ (LtL.nil _) (hg0.ext e0)  r4 hr5) ?_)
  rintro _ wd6 ⟨he7, rfl⟩
  have e8 := e0.trans he7
  refine T0_q (v := (.bool (!r4))) rfl (yl_not rfl) ?_
  refine T0_nil ?_
  refine hK3 _ _ ?_
  refine WC_cond (b := (!r4)) rfl (fun hb9 => ?_) (fun hb9 => ?_)
  · replace h := cond_t hb9 h
    refine WC_seqK fun K10 hK10 => ?_
    refine WC_region ?_
    refine T0_q (v := (.bool false)) rfl (yl_assign rfl) ?_
    refine T0_nil ?_
    refine hK10 _ _ ?_
    refine WC_ret ?_
    replace h := some_out h
    subst h
    exact ⟨[(.bool false)], ⟨rfl, trivial⟩, e8, rfl⟩
  · replace h := cond_f hb9 h
    refine WC_skip ?_
    refine hK2 _ _ ?_
    refine WC_seqK fun K11 hK11 => ?_
    refine WC_seqK fun K12 hK12 => ?_
    refine WC_region ?_
    refine T0_q (v := (.int .i64 p_Listappend)) rfl (yl_move rfl) ?_
    obtain ⟨r13, hr14, h⟩ := bind_elim h
    refine T0_e rfl (eff_call Tryd.func35 nm35 rfl (ev3 rfl rfl rfl) (base_Within_ok [] _ (LtL.nil _) p_Listappend 10 14 r13 hr14) ?_)
    rintro _ wd15 ⟨he16, rfl⟩
    have e17 := e8.trans he16
    refine T0_nil ?_
    refine hK12 _ _ ?_
    refine WC_cond (b := r13) rfl (fun hb18 => ?_) (fun hb18 => ?_)
    · replace h := cond_t hb18 h
      refine WC_seqK fun K19 hK19 => ?_
      refine WC_region ?_
      refine T0_q (v := (.bool true)) rfl (yl_assign rfl) ?_
      refine T0_nil ?_
      refine hK19 _ _ ?_
      refine WC_ret ?_
      replace h := some_out h
      subst h
      exact ⟨[(.bool true)], ⟨rfl, trivial⟩, e17, rfl⟩
    · replace h := cond_f hb18 h
      refine WC_skip ?_
      refine hK11 _ _ ?_
      refine WC_seqK fun K20 hK20 => ?_
      refine WC_region ?_
      refine T0_q (v := (.int .i64 p_Listappend)) rfl (yl_move rfl) ?_
      refine T0_q (v := (.int .i64 p_String)) rfl (yl_move rfl) ?_
      refine T0_q (v := (.int .i64 p_lengthwindowdistancelengthwindowdistanceledwantoknf)) rfl (yl_move rfl) ?_
      obtain ⟨r21, hr22, h⟩ := bind_elim h
      refine T0_e rfl (eff_call Tryd.func79 nm79 rfl (ev3 rfl rfl rfl) (locate_FirstTrack_ok L _ (hL.chg e17) p_Listappend p_String p_lengthwindowdistancelengthwindowdistanceledwantoknf r21 hr22) ?_)
      rintro _ wd23 ⟨he24, v25, rfl, h26⟩
      have e27 := e17.trans he24
      refine T0_q (v := (.tuple #[v25, (.int .i64 r21.2)])) rfl (yl_move rfl) ?_
      refine T0_q (v := v25) rfl (yl_extract rfl rfl) ?_
      refine T0_q (v := (.int .i64 r21.2)) rfl (yl_extract rfl rfl) ?_
      refine T0_q (v := v25) rfl (yl_assign rfl) ?_
      refine T0_q (v := (.int .i64 r21.2)) rfl (yl_assign rfl) ?_
      refine T0_nil ?_
      refine hK20 _ _ ?_
      refine WC_seqK fun K29 hK29 => ?_
      refine WC_seqK fun K30 hK30 => ?_
      refine WC_region ?_
      refine T0_q (v := (.int .i64 p_Listappend)) rfl (yl_move rfl) ?_
      refine T0_q (v := (.int .i64 p_String)) rfl (yl_move rfl) ?_
      refine T0_q (v := (.int .i64 p_lengthwindowdistancelengthwindowdistanceledwantoknf)) rfl (yl_move rfl) ?_
      obtain ⟨r31, hr32, h⟩ := bind_elim h
      refine T0_e rfl (eff_call Tryd.func80 nm80 rfl (ev3 rfl rfl rfl) (ref04_MadeErr_ok [] _ (LtL.nil _) p_Listappend p_String p_lengthwindowdistancelengthwindowdistanceledwantoknf r31 hr32) ?_)
      rintro _ wd33 ⟨he34, rfl⟩
      have e35 := e27.trans he34
      refine T0_q (v := (.int .i64 r31)) rfl (yl_assign rfl) ?_
      refine T0_nil ?_
      refine hK30 _ _ ?_
      refine WC_seqK fun K36 hK36 => ?_
      refine WC_region ?_
      refine T0_q (v := (.int .i64 r31)) rfl (yl_move rfl) ?_
      refine T0_q (v := (.bool (!decide (r31 = 0)))) rfl (yl_neq rfl rfl) ?_
      refine T0_nil ?_
      refine hK36 _ _ ?_
      refine WC_cond (b := (!decide (r31 = 0))) rfl (fun hb37 => ?_) (fun hb37 => ?_)
      · replace h := cond_t hb37 h
        refine WC_seqK fun K38 hK38 => ?_
        refine WC_region ?_
        refine T0_q (v := (.int .i64 r21.2)) rfl (yl_move rfl) ?_
        refine T0_q (v := (.int .i64 r31)) rfl (yl_move rfl) ?_
        refine T0_q (v := (.bool (decide (r21.2 = r31)))) rfl (yl_eql rfl rfl) ?_
        refine T0_q (v := (.bool (decide (r21.2 = r31)))) rfl (yl_move rfl) ?_
        refine T0_g (v := v25) (decide (r21.2 = r31)) (wanted_t rfl rfl rfl rfl) (fun hg => (yl_move rfl)) ?_
        refine T0_g (v := (.int .i64 (r21.1.length : Int))) (decide (r21.2 = r31)) (wanted_t rfl rfl rfl rfl) (fun hg => (yl_lenR rfl Tryd.underlying22 h26 (gd_true hg))) ?_
        refine T0_g (v := (.bool (decide ((r21.1.length : Int) = 0)))) (decide (r21.2 = r31)) (wanted_t rfl rfl rfl rfl) (fun hg => (yl_eql (gd_true hg) rfl)) ?_
        refine T0_q (v := (.bool ((decide (r21.2 = r31)) && (decide ((r21.1.length : Int) = 0))))) rfl (yl_and rfl (fun hb => (gd_true hb)) rfl) ?_
        refine T0_q (v := (.bool ((decide (r21.2 = r31)) && (decide ((r21.1.length : Int) = 0))))) rfl (yl_assign rfl) ?_
        refine T0_nil ?_
        refine hK38 _ _ ?_
        refine WC_ret ?_
        replace h := some_out h
        subst h
        exact ⟨[(.bool ((decide (r21.2 = r31)) && (decide ((r21.1.length : Int) = 0))))], ⟨rfl, trivial⟩, e35, rfl⟩
      · replace h := cond_f hb37 h
        refine WC_skip ?_
        refine hK29 _ _ ?_
        refine WC_seqK fun K39 hK39 => ?_
        refine WC_region ?_
        refine T0_q (v := (.int .i64 p_Listappend)) rfl (yl_move rfl) ?_
        refine T0_q (v := (.int .i64 p_String)) rfl (yl_move rfl) ?_
        refine T0_q (v := (.int .i64 p_lengthwindowdistancelengthwindowdistanceledwantoknf)) rfl (yl_move rfl) ?_
        obtain ⟨r40, hr41, h⟩ := bind_elim h
        refine T0_e rfl (eff_call Tryd.func81 nm81 rfl (ev3 rfl rfl rfl) (ref04_FirstTrack_ok L _ (hL.chg e35) p_Listappend p_String p_lengthwindowdistancelengthwindowdistanceledwantoknf r40 hr41) ?_)
        rintro _ wd42 ⟨he43, v44, rfl, h45⟩
        have e46 := he34.trans he43
        have e47 := e35.trans he43
        refine T0_q (v := (.tuple #[v44, (.bool r40.2)])) rfl (yl_move rfl) ?_
        refine T0_q (v := v44) rfl (yl_extract rfl rfl) ?_
        refine T0_q (v := (.bool r40.2)) rfl (yl_extract rfl rfl) ?_
        refine T0_q (v := v44) rfl (yl_assign rfl) ?_
        refine T0_q (v := (.bool r40.2)) rfl (yl_assign rfl) ?_
        refine T0_nil ?_
        refine hK39 _ _ ?_
        refine WC_seqK fun K49 hK49 => ?_
        refine WC_seqK fun K50 hK50 => ?_
        refine WC_region ?_
        refine T0_q (v := (.bool r40.2)) rfl (yl_move rfl) ?_
        refine T0_q (v := (.bool (!r40.2))) rfl (yl_not rfl) ?_
        refine T0_nil ?_
        refine hK50 _ _ ?_
        refine WC_cond (b := (!r40.2)) rfl (fun hb51 => ?_) (fun hb51 => ?_)
        · replace h := cond_t hb51 h
          refine WC_seqK fun K52 hK52 => ?_
          refine WC_region ?_
          refine T0_q (v := (.int .i64 r21.2)) rfl (yl_move rfl) ?_
          refine T0_q (v := (.bool (decide (r21.2 = 12)))) rfl (yl_eql rfl rfl) ?_
          refine T0_q (v := (.bool (decide (r21.2 = 12)))) rfl (yl_move rfl) ?_
          refine T0_g (v := v25) (decide (r21.2 = 12)) (wanted_t rfl rfl rfl rfl) (fun hg => (yl_move rfl)) ?_
          refine T0_g (v := (.int .i64 (r21.1.length : Int))) (decide (r21.2 = 12)) (wanted_t rfl rfl rfl rfl) (fun hg => (yl_lenR rfl Tryd.underlying22 h26 (gd_true hg))) ?_
          refine T0_g (v := (.bool (decide ((r21.1.length : Int) = 0)))) (decide (r21.2 = 12)) (wanted_t rfl rfl rfl rfl) (fun hg => (yl_eql (gd_true hg) rfl)) ?_
          refine T0_q (v := (.bool ((decide (r21.2 = 12)) && (decide ((r21.1.length : Int) = 0))))) rfl (yl_and rfl (fun hb => (gd_true hb)) rfl) ?_
          refine T0_q (v := (.bool ((decide (r21.2 = 12)) && (decide ((r21.1.length : Int) = 0))))) rfl (yl_assign rfl) ?_
          refine T0_nil ?_
          refine hK52 _ _ ?_
          refine WC_ret ?_
          replace h := some_out h
          subst h
          exact ⟨[(.bool ((decide (r21.2 = 12)) && (decide ((r21.1.length : Int) = 0))))], ⟨rfl, trivial⟩, e47, rfl⟩
        · replace h := cond_f hb51 h
          refine WC_skip ?_
          refine hK49 _ _ ?_
          refine WC_seqK fun K53 hK53 => ?_
          refine WC_seqK fun K54 hK54 => ?_
          refine WC_region ?_
          refine T0_q (v := (.int .i64 r21.2)) rfl (yl_move rfl) ?_
          refine T0_q (v := (.bool (!decide (r21.2 = 0)))) rfl (yl_neq rfl rfl) ?_
          refine T0_q (v := (.bool (!decide (r21.2 = 0)))) rfl (yl_move rfl) ?_
          refine T0_g (v := v25) (!(!decide (r21.2 = 0))) (wanted_f rfl rfl rfl rfl) (fun hg => (yl_move rfl)) ?_
          refine T0_g (v := v44) (!(!decide (r21.2 = 0))) (wanted_f rfl rfl rfl rfl) (fun hg => (yl_move rfl)) ?_
          obtain ⟨r55, hr56, h⟩ := bind_elim h
          refine T0_ges (!(!decide (r21.2 = 0))) (.bool r55) (wanted_f rfl rfl rfl rfl) (fun hg => eff_call Tryd.func42 nm42 rfl (ev2 (gd_true hg) (gd_true hg)) (base_Ints_ok [] _ (LtL.nil _) v25 r21.1 ((h26.ext e46).sub (fun _ h => by cases h)) v44 r40.1 (h45.sub (fun _ h => by cases h)) r55 (cond_t hg hr56)) (by rintro _ wd57 ⟨he58, rfl⟩; exact ⟨rfl, he58⟩)) ?_
          intro wd57 he58
          have e59 := e46.trans he58
          have e60 := e47.trans he58
          refine T0_g (v := (.bool (!r55))) (!(!decide (r21.2 = 0))) (wanted_f rfl rfl rfl rfl) (fun hg => (yl_not (gd_true hg))) ?_
          refine T0_q (v := (.bool ((!decide (r21.2 = 0)) || (!r55)))) rfl (yl_or rfl rfl (fun hb => (gd_true (not_t hb)))) ?_
          refine T0_nil ?_
          refine hK54 _ _ ?_
          refine WC_cond (b := ((!decide (r21.2 = 0)) || (!r55))) rfl (fun hb61 => ?_) (fun hb61 => ?_)
          · replace h := cond_t hb61 h
            refine WC_seqK fun K62 hK62 => ?_
            refine WC_region ?_
            refine T0_q (v := (.bool false)) rfl (yl_assign rfl) ?_
            refine T0_nil ?_
            refine hK62 _ _ ?_
            refine WC_ret ?_
            replace h := some_out h
            subst h
            exact ⟨[(.bool false)], ⟨rfl, trivial⟩, e60, rfl⟩
          · replace h := cond_f hb61 h
            refine WC_skip ?_
            refine hK53 _ _ ?_
            refine WC_seqK fun K63 hK63 => ?_
            refine WC_region ?_
            refine T0_q (v := v25) rfl (yl_move rfl) ?_
            refine T0_q (v := (.int .i64 p_String)) rfl (yl_move rfl) ?_
            refine T0_q (v := (.agg (List.toArray [v25, (.int .i64 p_String), (.int .i64 1), (.int .i64 1), (.int .i64 0), (.int .i64 1), (.int .i64 0), (.int .i64 0), (.bool false)]))) rfl (yl_buildC (cells := [v25, (.int .i64 p_String), (.int .i64 1), (.int .i64 1), (.int .i64 0), (.int .i64 1), (.int .i64 0), (.int .i64 0), (.bool false)]) bi24 (pc_cons rfl (cells_one h26.one1) (pc_cons rfl rfl (pc_cons rfl rfl (pc_cons rfl rfl (pc_cons rfl rfl pc_nil))))) rfl) ?_
            obtain ⟨r64, hr65, h⟩ := bind_elim h
            refine T0_e rfl (eff_call Tryd.func71 nm71 rfl (ev1 rfl) (locate_DistanceOf_ok [] _ (LtL.nil _) [v25, (.int .i64 p_String), (.int .i64 1), (.int .i64 1), (.int .i64 0), (.int .i64 1), (.int .i64 0), (.int .i64 0), (.bool false)] (LocateTrack.mk r21.1 p_String 1 1 0 1 0 0 false) ⟨v25, ((h26.ext e59).sub (fun _ h => by cases h)), rfl⟩ r64 hr65) ?_)
            rintro _ wd66 ⟨he67, cs68, rfl, hrd69⟩
            have e70 := e59.trans he67
            have e71 := he58.trans he67
            have e72 := e60.trans he67
            have hrd69 : cs68 = [(.int .i64 r64.2.1.e0), (.int .i64 r64.2.1.e1)] := hrd69
            subst hrd69
            refine T0_q (v := (.tuple #[(.int .i64 r64.1), (.agg (List.toArray [(.int .i64 r64.2.1.e0), (.int .i64 r64.2.1.e1)])), (.int .i64 r64.2.2)])) rfl (yl_move rfl) ?_
            refine T0_q (v := (.int .i64 r64.1)) rfl (yl_extract rfl rfl) ?_
            refine T0_q (v := (.agg (List.toArray [(.int .i64 r64.2.1.e0), (.int .i64 r64.2.1.e1)]))) rfl (yl_extract rfl rfl) ?_
            refine T0_q (v := (.int .i64 r64.2.2)) rfl (yl_extract rfl rfl) ?_
            refine T0_e rfl (eff_allocZ zi115 ?_)
            intro b73 wd74 hb75 he76 hB77
            have hbf78 := bfresh e72 hb75
            have h79 := (h26.ext e70).step (add_box he76 hb75)
            have h80 := (h45.ext e71).step (add_box he76 hb75)
            have e81 := e72.trans he76
            refine T0_q (v := (.int .i64 r64.1)) rfl (yl_assign rfl) ?_
            refine T0_e rfl (eff_storeC (vs := [(.int .i64 r64.2.1.e0), (.int .i64 r64.2.1.e1)]) (cs' := [(.int .i64 r64.2.1.e0), (.int .i64 r64.2.1.e1)]) sz115 rfl rfl rfl rfl hB77 rfl (oc_cons rfl (oc_cons rfl oc_nil)) rfl ?_)
            intro wd83 hc84 hB85
            have h86 := h79.step (Stepp.chg_mem hc84 mem0)
            have h87 := h80.step (Stepp.chg_mem hc84 mem0)
            have e88 := chg_box e81 hc84 hbf78
            refine T0_q (v := (.int .i64 r64.2.2)) rfl (yl_assign rfl) ?_
            refine T0_nil ?_
            refine hK63 _ _ ?_
            refine WC_seqK fun K89 hK89 => ?_
            refine WC_region ?_
            refine T0_q (v := (.int .i64 r64.2.2)) rfl (yl_move rfl) ?_
            refine T0_q (v := (.bool (decide (r64.2.2 = 0)))) rfl (yl_eql rfl rfl) ?_
            refine T0_q (v := (.bool (decide (r64.2.2 = 0)))) rfl (yl_move rfl) ?_
            refine T0_g (v := (.int .i64 r64.1)) (decide (r64.2.2 = 0)) (wanted_t rfl rfl rfl rfl) (fun hg => (yl_move rfl)) ?_
            refine T0_g (v := (.int .i64 p_lengthwindowdistancelengthwindowdistanceledwantoknf)) (decide (r64.2.2 = 0)) (wanted_t rfl rfl rfl rfl) (fun hg => (yl_move rfl)) ?_
            refine T0_g (v := (.bool (decide (p_lengthwindowdistancelengthwindowdistanceledwantoknf ≤ r64.1)))) (decide (r64.2.2 = 0)) (wanted_t rfl rfl rfl rfl) (fun hg => (yl_geq (gd_true hg) (gd_true hg))) ?_
            refine T0_q (v := (.bool ((decide (r64.2.2 = 0)) && (decide (p_lengthwindowdistancelengthwindowdistanceledwantoknf ≤ r64.1))))) rfl (yl_and rfl (fun hb => (gd_true hb)) rfl) ?_
            refine T0_q (v := (.bool ((decide (r64.2.2 = 0)) && (decide (p_lengthwindowdistancelengthwindowdistanceledwantoknf ≤ r64.1))))) rfl (yl_move rfl) ?_
            refine T0_g (v := (.int .i64 r64.2.2)) (!((decide (r64.2.2 = 0)) && (decide (p_lengthwindowdistancelengthwindowdistanceledwantoknf ≤ r64.1)))) (wanted_f rfl rfl rfl rfl) (fun hg => (yl_move rfl)) ?_
            refine T0_g (v := (.bool (decide (r64.2.2 = 12)))) (!((decide (r64.2.2 = 0)) && (decide (p_lengthwindowdistancelengthwindowdistanceledwantoknf ≤ r64.1)))) (wanted_f rfl rfl rfl rfl) (fun hg => (yl_eql (gd_true hg) rfl)) ?_
            refine T0_g (v := (.bool (decide (r64.2.2 = 12)))) (!((decide (r64.2.2 = 0)) && (decide (p_lengthwindowdistancelengthwindowdistanceledwantoknf ≤ r64.1)))) (wanted_f rfl rfl rfl rfl) (fun hg => (yl_move (gd_true hg))) ?_
            refine T0_g (v := (.int .i64 p_Listappend)) ((!((decide (r64.2.2 = 0)) && (decide (p_lengthwindowdistancelengthwindowdistanceledwantoknf ≤ r64.1)))) && (decide (r64.2.2 = 12))) (wanted_gt rfl rfl rfl rfl) (fun hg => (yl_move rfl)) ?_
            refine T0_g (v := (.int .i64 p_String)) ((!((decide (r64.2.2 = 0)) && (decide (p_lengthwindowdistancelengthwindowdistanceledwantoknf ≤ r64.1)))) && (decide (r64.2.2 = 12))) (wanted_gt rfl rfl rfl rfl) (fun hg => (yl_move rfl)) ?_
            refine T0_g (v := (.bool (decide (p_Listappend = p_String)))) ((!((decide (r64.2.2 = 0)) && (decide (p_lengthwindowdistancelengthwindowdistanceledwantoknf ≤ r64.1)))) && (decide (r64.2.2 = 12))) (wanted_gt rfl rfl rfl rfl) (fun hg => (yl_eql (gd_true hg) (gd_true hg))) ?_
            refine T0_g (v := (.bool ((decide (r64.2.2 = 12)) && (decide (p_Listappend = p_String))))) (!((decide (r64.2.2 = 0)) && (decide (p_lengthwindowdistancelengthwindowdistanceledwantoknf ≤ r64.1)))) (wanted_f rfl rfl rfl rfl) (fun hg => (yl_and (gd_true hg) (fun hb => (gd_true (and_i hg hb))) rfl)) ?_
            refine T0_q (v := (.bool (((decide (r64.2.2 = 0)) && (decide (p_lengthwindowdistancelengthwindowdistanceledwantoknf ≤ r64.1))) || ((decide (r64.2.2 = 12)) && (decide (p_Listappend = p_String)))))) rfl (yl_or rfl rfl (fun hb => (gd_true (not_t hb)))) ?_
            refine T0_q (v := (.bool (((decide (r64.2.2 = 0)) && (decide (p_lengthwindowdistancelengthwindowdistanceledwantoknf ≤ r64.1))) || ((decide (r64.2.2 = 12)) && (decide (p_Listappend = p_String)))))) rfl (yl_assign rfl) ?_
            refine T0_nil ?_
            refine hK89 _ _ ?_
            refine WC_ret ?_
            replace h := some_out h
            subst h
            exact ⟨[(.bool (((decide (r64.2.2 = 0)) && (decide (p_lengthwindowdistancelengthwindowdistanceledwantoknf ≤ r64.1))) || ((decide (r64.2.2 = 12)) && (decide (p_Listappend = p_String)))))], ⟨rfl, trivial⟩, e88, rfl⟩

end Go.Gw
