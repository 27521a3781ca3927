/- What functions come to, printed by a program of this work. No condition. -/
import Derived.Test.YtgpapebgdnimfaaDoorGwFnC
set_option maxRecDepth 4096
set_option maxHeartbeats 1000000
set_option linter.unusedVariables false
namespace Go.Gw
open Go Go.Proofs
attribute [local irreducible] T0 TS TT TP Eff Stp WC Quiet gd
noncomputable def base_Has_s0 (p_l : (List Int)) (p_n : Int) : (Int) → Option ((Int) ⊕ (Bool ⊕ (Unit))) := fun x69 =>
  (bif (decide (x69 < (p_l.length : Int))) then (
    (Option.bind (idx p_l x69) fun el86 =>
    (bif (decide (el86 = p_n)) then (
      some (.inr (.inl true))
    ) else (
      some (.inl (w64 (x69 + 1)))
    ))
    )
  ) else (
    some (.inr (.inr ()))
  ))
noncomputable def base_Has_spec (p_l : (List Int)) (p_n : Int) : Option Bool :=
  (Option.bind (loop (base_Has_s0 p_l p_n) 0) fun o73 => jn0 o73 fun (_ : Unit) =>
  some false
  )
theorem base_Has_ok (L : List Value) (w : World) (hL : LtL L w) (v_p_l : Value) (p_l : (List Int)) (h_p_l : SlRd L w v_p_l p_l) (p_n : Int) (r : Bool) (h : base_Has_spec p_l p_n = some r) :
    CallsTo Tryd.prog 31 [v_p_l, (.int .i64 p_n)] w (fun v w' => Ext w w' ∧ (.bool r) = v) := by
  have e0 : Ext w w := Chg.refl _ _
  refine callsTo_of_WC (n := 18) (rs := [.tmp 4]) Tryd.func31 rfl rfl rfl rfl rfl ?_
  refine WC_seqK fun K2 hK2 => ?_
  refine WC_region ?_
  refine T0_q (v := (.bool false)) rfl (yl_assign rfl) ?_
  refine T0_nil ?_
  refine hK2 _ _ ?_
  refine WC_seqK fun K3 hK3 => ?_
  refine WC_seqK fun K4 hK4 => ?_
  refine WC_region ?_
  refine T0_q (v := (.int .i64 0)) rfl (yl_assign rfl) ?_
  refine T0_nil ?_
  refine hK4 _ _ ?_
  obtain ⟨o73, hl74, hn75⟩ := bind_elim h
  refine WC_post (fun (ρ : Env) (wd71 : World) => .inr () = o73 ∧ Ext w wd71) ?_ ?_
  · intro K79 hK79
    refine WC_block ?_
    refine WC_loopk (fun sv ρ wd64 => ∃ (x69 : Int), x69 = sv ∧ ρ 0 = v_p_l ∧ ρ 1 = (.int .i64 p_n) ∧ ρ 5 = (.int .i64 x69) ∧ SlRd L wd64 v_p_l p_l ∧ Ext w wd64) hl74 ⟨0, rfl, rfl, rfl, rfl, h_p_l, e0⟩ ?_
    rintro _ ρ wd64 ⟨x69, rfl, hs67, hs68, hs70, h66, e65⟩ x76 h hx77 K78 hK78
    refine WC_seqK fun K81 hK81 => ?_
    refine WC_seqK fun K82 hK82 => ?_
    refine WC_region ?_
    refine T0_q (v := (.int .i64 x69)) rfl (yl_move hs70) ?_
    refine T0_q (v := v_p_l) rfl (yl_move hs67) ?_
    refine T0_q (v := (.int .i64 (p_l.length : Int))) rfl (yl_lenR rfl Tryd.underlying22 h66 rfl) ?_
    refine T0_q (v := (.bool (decide (x69 < (p_l.length : Int))))) rfl (yl_lss rfl rfl) ?_
    refine T0_nil ?_
    refine hK82 _ _ ?_
    refine WC_cond (b := (decide (x69 < (p_l.length : Int)))) rfl (fun hb83 => ?_) (fun hb83 => ?_)
    · replace h := cond_t hb83 h
      refine WC_skip ?_
      refine hK81 _ _ ?_
      refine WC_seqK fun K84 hK84 => ?_
      refine WC_block ?_
      refine WC_seqK fun K85 hK85 => ?_
      refine WC_region ?_
      refine T0_q (v := v_p_l) rfl (yl_move hs67) ?_
      refine T0_q (v := (.int .i64 x69)) rfl (yl_move hs70) ?_
      obtain ⟨el86, hel87, h⟩ := bind_elim h
      obtain ⟨cs88, hat89, hrd90⟩ := SlRd.at h66 hel87
      have hrd90 : cs88 = [(.int .i64 el86)] := hrd90
      subst hrd90
      refine T0_q (v := (.pointer (some (elemAddr v_p_l (x69 : Int).toNat 1)))) rfl (yl_indexAddr Tryd.underlying22 sz3 h66 hel87 rfl rfl) ?_
      refine T0_q (v := (.int .i64 el86)) rfl (yl_load sc3 rfl hat89) ?_
      refine T0_q (v := (.int .i64 p_n)) rfl (yl_move hs68) ?_
      refine T0_q (v := (.bool (decide (el86 = p_n)))) rfl (yl_eql rfl rfl) ?_
      refine T0_nil ?_
      refine hK85 _ _ ?_
      refine WC_cond (b := (decide (el86 = p_n))) rfl (fun hb92 => ?_) (fun hb92 => ?_)
      · replace h := cond_t hb92 h
        refine WC_seqK fun K93 hK93 => ?_
        refine WC_region ?_
        refine T0_q (v := (.bool true)) rfl (yl_assign rfl) ?_
        refine T0_nil ?_
        refine hK93 _ _ ?_
        refine WC_ret ?_
        replace h := some_out h
        subst h
        have ho := hx77 _ rfl
        subst ho
        replace h := jn0_inl hn75
        replace h := some_out h
        subst h
        exact ⟨[(.bool true)], ⟨rfl, trivial⟩, e65, rfl⟩
      · replace h := cond_f hb92 h
        refine WC_skip ?_
        refine hK84 _ _ ?_
        refine WC_region ?_
        refine T0_q (v := (.int .i64 x69)) rfl (yl_move hs70) ?_
        refine T0_q (v := (.int .i64 (w64 (x69 + 1)))) rfl (yl_add rfl rfl) ?_
        refine T0_q (v := (.int .i64 (w64 (x69 + 1)))) rfl (yl_assign rfl) ?_
        refine T0_nil ?_
        replace h := some_out h
        subst h
        refine hK78 _ _ _ rfl ?_
        exact ⟨w64 (x69 + 1), rfl, hs67, hs68, rfl, h66, e65⟩
    · replace h := cond_f hb83 h
      refine WC_exit ?_
      replace h := some_out h
      subst h
      have ho := hx77 _ rfl
      subst ho
      refine hK79 _ _ ?_
      exact ⟨rfl, e65⟩
  · rintro ρ wd71 ⟨rfl, e72⟩
    replace h := jn0_inr hn75
    refine hK3 _ _ ?_
    refine WC_seqK fun K94 hK94 => ?_
    refine WC_region ?_
    refine T0_q (v := (.bool false)) rfl (yl_assign rfl) ?_
    refine T0_nil ?_
    refine hK94 _ _ ?_
    refine WC_ret ?_
    replace h := some_out h
    subst h
    exact ⟨[(.bool false)], ⟨rfl, trivial⟩, e72, rfl⟩

noncomputable def ref04_WindowErr_spec (p_t : LocateTrack) (p_i : Int) : Option Int :=
  (Option.bind (ref04_WindowsOf_spec p_t) fun r15 =>
  (Option.bind (base_Within_spec p_i 0 (w64 (r15 - 1))) fun r21 =>
  (bif (!r21) then (
    some 6
  ) else (
    some 0
  ))
  )
  )
theorem ref04_WindowErr_ok (L : List Value) (w : World) (hL : LtL L w) (cs_p_t : List Value) (p_t : LocateTrack) (h_p_t : Rep.rd L w cs_p_t p_t) (p_i : Int) (r : Int) (h : ref04_WindowErr_spec p_t p_i = some r) :
    CallsTo Tryd.prog 50 [(.agg cs_p_t.toArray), (.int .i64 p_i)] w (fun v w' => Ext w w' ∧ (.int .i64 r) = v) := by
  have e0 : Ext w w := Chg.refl _ _
  obtain ⟨v1, h2, rfl⟩ := h_p_t
  refine callsTo_of_WC (n := 11) (rs := [.tmp 4]) Tryd.func50 rfl rfl rfl rfl rfl ?_
  refine WC_seqK fun K4 hK4 => ?_
  refine WC_region ?_
  refine T0_e rfl (eff_boxC (cs := [v1, (.int .i64 p_t.Window), (.int .i64 p_t.Tooth), (.int .i64 p_t.PerVane), (.int .i64 p_t.First), (.int .i64 p_t.Modulus), (.int .i64 p_t.Slack), (.int .i64 p_t.Errors), (.bool p_t.Round)]) rfl rfl ?_)
  intro b5 wd6 hb7 he8 hB9
  have hbf10 := bfresh e0 hb7
  have e11 := e0.trans he8
  refine T0_q (v := (.int .i64 0)) rfl (yl_assign rfl) ?_
  refine T0_nil ?_
  refine hK4 _ _ ?_
  refine WC_seqK fun K13 hK13 => ?_
  refine WC_seqK fun K14 hK14 => ?_
  refine WC_region ?_
  refine T0_q (v := (.int .i64 p_i)) rfl (yl_move rfl) ?_
  refine T0_q (v := (.agg (List.toArray [v1, (.int .i64 p_t.Window), (.int .i64 p_t.Tooth), (.int .i64 p_t.PerVane), (.int .i64 p_t.First), (.int .i64 p_t.Modulus), (.int .i64 p_t.Slack), (.int .i64 p_t.Errors), (.bool p_t.Round)]))) rfl (yl_loadA (cs := [v1, (.int .i64 p_t.Window), (.int .i64 p_t.Tooth), (.int .i64 p_t.PerVane), (.int .i64 p_t.First), (.int .i64 p_t.Modulus), (.int .i64 p_t.Slack), (.int .i64 p_t.Errors), (.bool p_t.Round)]) ag24 rfl (Box.at hB9)) ?_
  obtain ⟨r15, hr16, h⟩ := bind_elim h
  refine T0_e rfl (eff_call Tryd.func48 nm48 rfl (ev1 rfl) (ref04_WindowsOf_ok [] _ (LtL.nil _) [v1, (.int .i64 p_t.Window), (.int .i64 p_t.Tooth), (.int .i64 p_t.PerVane), (.int .i64 p_t.First), (.int .i64 p_t.Modulus), (.int .i64 p_t.Slack), (.int .i64 p_t.Errors), (.bool p_t.Round)] p_t ⟨v1, ((h2.ext he8).sub (fun _ h => by cases h)), rfl⟩ r15 hr16) ?_)
  rintro _ wd17 ⟨he18, rfl⟩
  have e19 := he8.trans he18
  have e20 := e11.trans he18
  refine T0_q (v := (.int .i64 (w64 (r15 - 1)))) rfl (yl_sub rfl rfl) ?_
  obtain ⟨r21, hr22, h⟩ := bind_elim h
  refine T0_e rfl (eff_call Tryd.func35 nm35 rfl (ev3 rfl rfl rfl) (base_Within_ok [] _ (LtL.nil _) p_i 0 (w64 (r15 - 1)) r21 hr22) ?_)
  rintro _ wd23 ⟨he24, rfl⟩
  have e25 := e19.trans he24
  have e26 := he18.trans he24
  have e27 := e20.trans he24
  refine T0_q (v := (.bool (!r21))) rfl (yl_not rfl) ?_
  refine T0_nil ?_
  refine hK14 _ _ ?_
  refine WC_cond (b := (!r21)) rfl (fun hb28 => ?_) (fun hb28 => ?_)
  · replace h := cond_t hb28 h
    refine WC_seqK fun K29 hK29 => ?_
    refine WC_region ?_
    refine T0_q (v := (.int .i64 6)) rfl (yl_assign rfl) ?_
    refine T0_nil ?_
    refine hK29 _ _ ?_
    refine WC_ret ?_
    replace h := some_out h
    subst h
    exact ⟨[(.int .i64 6)], ⟨rfl, trivial⟩, e27, rfl⟩
  · replace h := cond_f hb28 h
    refine WC_skip ?_
    refine hK13 _ _ ?_
    refine WC_seqK fun K30 hK30 => ?_
    refine WC_region ?_
    refine T0_q (v := (.int .i64 0)) rfl (yl_assign rfl) ?_
    refine T0_nil ?_
    refine hK30 _ _ ?_
    refine WC_ret ?_
    replace h := some_out h
    subst h
    exact ⟨[(.int .i64 0)], ⟨rfl, trivial⟩, e27, rfl⟩

noncomputable def ref04_ToothErr_spec (p_t : LocateTrack) (p_i : Int) : Option Int :=
  (Option.bind (ref04_TeethOf_spec p_t) fun r15 =>
  (Option.bind (base_Within_spec p_i 0 (w64 (r15 - 1))) fun r21 =>
  (bif (!r21) then (
    some 6
  ) else (
    some 0
  ))
  )
  )
theorem ref04_ToothErr_ok (L : List Value) (w : World) (hL : LtL L w) (cs_p_t : List Value) (p_t : LocateTrack) (h_p_t : Rep.rd L w cs_p_t p_t) (p_i : Int) (r : Int) (h : ref04_ToothErr_spec p_t p_i = some r) :
    CallsTo Tryd.prog 55 [(.agg cs_p_t.toArray), (.int .i64 p_i)] w (fun v w' => Ext w w' ∧ (.int .i64 r) = v) := by
  have e0 : Ext w w := Chg.refl _ _
  obtain ⟨v1, h2, rfl⟩ := h_p_t
  refine callsTo_of_WC (n := 11) (rs := [.tmp 4]) Tryd.func55 rfl rfl rfl rfl rfl ?_
  refine WC_seqK fun K4 hK4 => ?_
  refine WC_region ?_
  refine T0_e rfl (eff_boxC (cs := [v1, (.int .i64 p_t.Window), (.int .i64 p_t.Tooth), (.int .i64 p_t.PerVane), (.int .i64 p_t.First), (.int .i64 p_t.Modulus), (.int .i64 p_t.Slack), (.int .i64 p_t.Errors), (.bool p_t.Round)]) rfl rfl ?_)
  intro b5 wd6 hb7 he8 hB9
  have hbf10 := bfresh e0 hb7
  have e11 := e0.trans he8
  refine T0_q (v := (.int .i64 0)) rfl (yl_assign rfl) ?_
  refine T0_nil ?_
  refine hK4 _ _ ?_
  refine WC_seqK fun K13 hK13 => ?_
  refine WC_seqK fun K14 hK14 => ?_
  refine WC_region ?_
  refine T0_q (v := (.int .i64 p_i)) rfl (yl_move rfl) ?_
  refine T0_q (v := (.agg (List.toArray [v1, (.int .i64 p_t.Window), (.int .i64 p_t.Tooth), (.int .i64 p_t.PerVane), (.int .i64 p_t.First), (.int .i64 p_t.Modulus), (.int .i64 p_t.Slack), (.int .i64 p_t.Errors), (.bool p_t.Round)]))) rfl (yl_loadA (cs := [v1, (.int .i64 p_t.Window), (.int .i64 p_t.Tooth), (.int .i64 p_t.PerVane), (.int .i64 p_t.First), (.int .i64 p_t.Modulus), (.int .i64 p_t.Slack), (.int .i64 p_t.Errors), (.bool p_t.Round)]) ag24 rfl (Box.at hB9)) ?_
  obtain ⟨r15, hr16, h⟩ := bind_elim h
  refine T0_e rfl (eff_call Tryd.func49 nm49 rfl (ev1 rfl) (ref04_TeethOf_ok [] _ (LtL.nil _) [v1, (.int .i64 p_t.Window), (.int .i64 p_t.Tooth), (.int .i64 p_t.PerVane), (.int .i64 p_t.First), (.int .i64 p_t.Modulus), (.int .i64 p_t.Slack), (.int .i64 p_t.Errors), (.bool p_t.Round)] p_t ⟨v1, ((h2.ext he8).sub (fun _ h => by cases h)), rfl⟩ r15 hr16) ?_)
  rintro _ wd17 ⟨he18, rfl⟩
  have e19 := he8.trans he18
  have e20 := e11.trans he18
  refine T0_q (v := (.int .i64 (w64 (r15 - 1)))) rfl (yl_sub rfl rfl) ?_
  obtain ⟨r21, hr22, h⟩ := bind_elim h
  refine T0_e rfl (eff_call Tryd.func35 nm35 rfl (ev3 rfl rfl rfl) (base_Within_ok [] _ (LtL.nil _) p_i 0 (w64 (r15 - 1)) r21 hr22) ?_)
  rintro _ wd23 ⟨he24, rfl⟩
  have e25 := e19.trans he24
  have e26 := he18.trans he24
  have e27 := e20.trans he24
  refine T0_q (v := (.bool (!r21))) rfl (yl_not rfl) ?_
  refine T0_nil ?_
  refine hK14 _ _ ?_
  refine WC_cond (b := (!r21)) rfl (fun hb28 => ?_) (fun hb28 => ?_)
  · replace h := cond_t hb28 h
    refine WC_seqK fun K29 hK29 => ?_
    refine WC_region ?_
    refine T0_q (v := (.int .i64 6)) rfl (yl_assign rfl) ?_
    refine T0_nil ?_
    refine hK29 _ _ ?_
    refine WC_ret ?_
    replace h := some_out h
    subst h
    exact ⟨[(.int .i64 6)], ⟨rfl, trivial⟩, e27, rfl⟩
  · replace h := cond_f hb28 h
    refine WC_skip ?_
    refine hK13 _ _ ?_
    refine WC_seqK fun K30 hK30 => ?_
    refine WC_region ?_
    refine T0_q (v := (.int .i64 0)) rfl (yl_assign rfl) ?_
    refine T0_nil ?_
    refine hK30 _ _ ?_
    refine WC_ret ?_
    replace h := some_out h
    subst h
    exact ⟨[(.int .i64 0)], ⟨rfl, trivial⟩, e27, rfl⟩

noncomputable def base_AreBits_s0 (p_l : (List Int)) : (Int) → Option ((Int) ⊕ (Bool ⊕ (Unit))) := fun x80 =>
  (bif (decide (x80 < (p_l.length : Int))) then (
    (Option.bind (idx p_l x80) fun el97 =>
    (Option.bind ((bif (!decide (el97 = 0)) then idx p_l x80 else some default)) fun el103 =>
    (bif ((!decide (el97 = 0)) && (!decide (el103 = 1))) then (
      some (.inr (.inl false))
    ) else (
      some (.inl (w64 (x80 + 1)))
    ))
    )
    )
  ) else (
    some (.inr (.inr ()))
  ))
noncomputable def base_AreBits_spec (p_l : (List Int)) : Option Bool :=
  (Option.bind (loop (base_AreBits_s0 p_l) 0) fun o84 => jn0 o84 fun (_ : Unit) =>
  some true
  )
theorem base_AreBits_ok (L : List Value) (w : World) (hL : LtL L w) (v_p_l : Value) (p_l : (List Int)) (h_p_l : SlRd L w v_p_l p_l) (r : Bool) (h : base_AreBits_spec p_l = some r) :
    CallsTo Tryd.prog 66 [v_p_l] w (fun v w' => Ext w w' ∧ (.bool r) = v) := by
  have e0 : Ext w w := Chg.refl _ _
  refine callsTo_of_WC (n := 22) (rs := [.tmp 2]) Tryd.func66 rfl rfl rfl rfl rfl ?_
  refine WC_seqK fun K2 hK2 => ?_
  refine WC_region ?_
  refine T0_q (v := (.bool false)) rfl (yl_assign rfl) ?_
  refine T0_nil ?_
  refine hK2 _ _ ?_
  refine WC_seqK fun K3 hK3 => ?_
  refine WC_seqK fun K4 hK4 => ?_
  refine WC_region ?_
  refine T0_q (v := (.int .i64 0)) rfl (yl_assign rfl) ?_
  refine T0_nil ?_
  refine hK4 _ _ ?_
  obtain ⟨o84, hl85, hn86⟩ := bind_elim h
  refine WC_post (fun (ρ : Env) (wd82 : World) => .inr () = o84 ∧ Ext w wd82) ?_ ?_
  · intro K90 hK90
    refine WC_block ?_
    refine WC_loopk (fun sv ρ wd76 => ∃ (x80 : Int), x80 = sv ∧ ρ 0 = v_p_l ∧ ρ 3 = (.int .i64 x80) ∧ SlRd L wd76 v_p_l p_l ∧ Ext w wd76) hl85 ⟨0, rfl, rfl, rfl, h_p_l, e0⟩ ?_
    rintro _ ρ wd76 ⟨x80, rfl, hs79, hs81, h78, e77⟩ x87 h hx88 K89 hK89
    refine WC_seqK fun K92 hK92 => ?_
    refine WC_seqK fun K93 hK93 => ?_
    refine WC_region ?_
    refine T0_q (v := (.int .i64 x80)) rfl (yl_move hs81) ?_
    refine T0_q (v := v_p_l) rfl (yl_move hs79) ?_
    refine T0_q (v := (.int .i64 (p_l.length : Int))) rfl (yl_lenR rfl Tryd.underlying22 h78 rfl) ?_
    refine T0_q (v := (.bool (decide (x80 < (p_l.length : Int))))) rfl (yl_lss rfl rfl) ?_
    refine T0_nil ?_
    refine hK93 _ _ ?_
    refine WC_cond (b := (decide (x80 < (p_l.length : Int)))) rfl (fun hb94 => ?_) (fun hb94 => ?_)
    · replace h := cond_t hb94 h
      refine WC_skip ?_
      refine hK92 _ _ ?_
      refine WC_seqK fun K95 hK95 => ?_
      refine WC_block ?_
      refine WC_seqK fun K96 hK96 => ?_
      refine WC_region ?_
      refine T0_q (v := v_p_l) rfl (yl_move hs79) ?_
      refine T0_q (v := (.int .i64 x80)) rfl (yl_move hs81) ?_
      obtain ⟨el97, hel98, h⟩ := bind_elim h
      obtain ⟨cs99, hat100, hrd101⟩ := SlRd.at h78 hel98
      have hrd101 : cs99 = [(.int .i64 el97)] := hrd101
      subst hrd101
      refine T0_q (v := (.pointer (some (elemAddr v_p_l (x80 : Int).toNat 1)))) rfl (yl_indexAddr Tryd.underlying22 sz3 h78 hel98 rfl rfl) ?_
      refine T0_q (v := (.int .i64 el97)) rfl (yl_load sc3 rfl hat100) ?_
      refine T0_q (v := (.bool (!decide (el97 = 0)))) rfl (yl_neq rfl rfl) ?_
      refine T0_q (v := (.bool (!decide (el97 = 0)))) rfl (yl_move rfl) ?_
      refine T0_g (v := v_p_l) (!decide (el97 = 0)) (wanted_t rfl rfl rfl rfl) (fun hg => (yl_move hs79)) ?_
      refine T0_g (v := (.int .i64 x80)) (!decide (el97 = 0)) (wanted_t rfl rfl rfl rfl) (fun hg => (yl_move hs81)) ?_
      obtain ⟨el103, hel104, h⟩ := bind_elim h
      have hat106 : (!decide (el97 = 0)) = true → At wd76 (elemAddr v_p_l (x80 : Int).toNat 1) [(.int .i64 el103)] := fun hg => by obtain ⟨cs, hat, hrd⟩ := SlRd.at h78 (cond_t hg hel104); have hrd : cs = [(.int .i64 el103)] := hrd; subst hrd; exact hat
      refine T0_g (v := (.pointer (some (elemAddr v_p_l (x80 : Int).toNat 1)))) (!decide (el97 = 0)) (wanted_t rfl rfl rfl rfl) (fun hg => (yl_indexAddr Tryd.underlying22 sz3 h78 (cond_t hg hel104) (gd_true hg) (gd_true hg))) ?_
      refine T0_g (v := (.int .i64 el103)) (!decide (el97 = 0)) (wanted_t rfl rfl rfl rfl) (fun hg => (yl_load sc3 (gd_true hg) (hat106 hg))) ?_
      refine T0_g (v := (.bool (!decide (el103 = 1)))) (!decide (el97 = 0)) (wanted_t rfl rfl rfl rfl) (fun hg => (yl_neq (gd_true hg) rfl)) ?_
      refine T0_q (v := (.bool ((!decide (el97 = 0)) && (!decide (el103 = 1))))) rfl (yl_and rfl (fun hb => (gd_true hb)) rfl) ?_
      refine T0_nil ?_
      refine hK96 _ _ ?_
      refine WC_cond (b := ((!decide (el97 = 0)) && (!decide (el103 = 1)))) rfl (fun hb108 => ?_) (fun hb108 => ?_)
      · replace h := cond_t hb108 h
        refine WC_seqK fun K109 hK109 => ?_
        refine WC_region ?_
        refine T0_q (v := (.bool false)) rfl (yl_assign rfl) ?_
        refine T0_nil ?_
        refine hK109 _ _ ?_
        refine WC_ret ?_
        replace h := some_out h
        subst h
        have ho := hx88 _ rfl
        subst ho
        replace h := jn0_inl hn86
        replace h := some_out h
        subst h
        exact ⟨[(.bool false)], ⟨rfl, trivial⟩, e77, rfl⟩
      · replace h := cond_f hb108 h
        refine WC_skip ?_
        refine hK95 _ _ ?_
        refine WC_region ?_
        refine T0_q (v := (.int .i64 x80)) rfl (yl_move hs81) ?_
        refine T0_q (v := (.int .i64 (w64 (x80 + 1)))) rfl (yl_add rfl rfl) ?_
        refine T0_q (v := (.int .i64 (w64 (x80 + 1)))) rfl (yl_assign rfl) ?_
        refine T0_nil ?_
        replace h := some_out h
        subst h
        refine hK89 _ _ _ rfl ?_
        exact ⟨w64 (x80 + 1), rfl, hs79, rfl, h78, e77⟩
    · replace h := cond_f hb94 h
      refine WC_exit ?_
      replace h := some_out h
      subst h
      have ho := hx88 _ rfl
      subst ho
      refine hK90 _ _ ?_
      exact ⟨rfl, e77⟩
  · rintro ρ wd82 ⟨rfl, e83⟩
    replace h := jn0_inr hn86
    refine hK3 _ _ ?_
    refine WC_seqK fun K110 hK110 => ?_
    refine WC_region ?_
    refine T0_q (v := (.bool true)) rfl (yl_assign rfl) ?_
    refine T0_nil ?_
    refine hK110 _ _ ?_
    refine WC_ret ?_
    replace h := some_out h
    subst h
    exact ⟨[(.bool true)], ⟨rfl, trivial⟩, e83, rfl⟩

noncomputable def ref04_ToothAt_s0 (p_place : Int) (p_t : LocateTrack) : (Int) → Option ((Int) ⊕ (Int ⊕ (Unit))) := fun x174 =>
  (Option.bind (ref04_TeethOf_spec p_t) fun r191 =>
  (bif (decide (x174 < r191)) then (
    (Option.bind (ref04_PlacesOf_spec p_t x174) fun r199 =>
    (Option.bind (base_Within_spec p_place r199.Lo r199.Hi) fun r225 =>
    (bif r225 then (
      some (.inr (.inl x174))
    ) else (
      some (.inl (w64 (x174 + 1)))
    ))
    )
    )
  ) else (
    some (.inr (.inr ()))
  ))
  )
noncomputable def ref04_ToothAt_spec (p_t : LocateTrack) (p_place : Int) : Option Int :=
  (Option.bind (loop (ref04_ToothAt_s0 p_place p_t) 0) fun o181 => jn0 o181 fun (_ : Unit) =>
  some (-1)
  )
theorem ref04_ToothAt_ok (L : List Value) (w : World) (hL : LtL L w) (cs_p_t : List Value) (p_t : LocateTrack) (h_p_t : Rep.rd L w cs_p_t p_t) (p_place : Int) (r : Int) (h : ref04_ToothAt_spec p_t p_place = some r) :
    CallsTo Tryd.prog 54 [(.agg cs_p_t.toArray), (.int .i64 p_place)] w (fun v w' => Ext w w' ∧ (.int .i64 r) = v) := by
  have e0 : Ext w w := Chg.refl _ _
  obtain ⟨v1, h2, rfl⟩ := h_p_t
  refine callsTo_of_WC (n := 23) (rs := [.tmp 4]) Tryd.func54 rfl rfl rfl rfl rfl ?_
  refine WC_seqK fun K4 hK4 => ?_
  refine WC_region ?_
  refine T0_e rfl (eff_boxC (cs := [v1, (.int .i64 p_t.Window), (.int .i64 p_t.Tooth), (.int .i64 p_t.PerVane), (.int .i64 p_t.First), (.int .i64 p_t.Modulus), (.int .i64 p_t.Slack), (.int .i64 p_t.Errors), (.bool p_t.Round)]) rfl rfl ?_)
  intro b5 wd6 hb7 he8 hB9
  have hbf10 := bfresh e0 hb7
  have e11 := e0.trans he8
  refine T0_q (v := (.int .i64 0)) rfl (yl_assign rfl) ?_
  refine T0_nil ?_
  refine hK4 _ _ ?_
  refine WC_seqK fun K13 hK13 => ?_
  refine WC_seqK fun K14 hK14 => ?_
  refine WC_region ?_
  refine T0_q (v := (.int .i64 0)) rfl (yl_assign rfl) ?_
  refine T0_nil ?_
  refine hK14 _ _ ?_
  obtain ⟨o181, hl182, hn183⟩ := bind_elim h
  refine WC_post (fun (ρ : Env) (wd179 : World) => .inr () = o181 ∧ Ext w wd179) ?_ ?_
  · intro K187 hK187
    refine WC_block ?_
    refine WC_loopk (fun sv ρ wd170 => ∃ (x174 : Int), x174 = sv ∧ ρ 1 = (.int .i64 p_place) ∧ ρ 2 = (.pointer (some ⟨b5, 0, none⟩)) ∧ ρ 5 = (.int .i64 x174) ∧ SlRd L wd170 v1 p_t.Vanes ∧ Box wd170 b5 [v1, (.int .i64 p_t.Window), (.int .i64 p_t.Tooth), (.int .i64 p_t.PerVane), (.int .i64 p_t.First), (.int .i64 p_t.Modulus), (.int .i64 p_t.Slack), (.int .i64 p_t.Errors), (.bool p_t.Round)] 24 ∧ Ext w wd170) hl182 ⟨0, rfl, rfl, rfl, rfl, (h2.ext he8), hB9, e11⟩ ?_
    rintro _ ρ wd170 ⟨x174, rfl, hs172, hs173, hs175, h176, hB178, e171⟩ x184 h hx185 K186 hK186
    refine WC_seqK fun K189 hK189 => ?_
    refine WC_seqK fun K190 hK190 => ?_
    refine WC_region ?_
    refine T0_q (v := (.int .i64 x174)) rfl (yl_move hs175) ?_
    refine T0_q (v := (.agg (List.toArray [v1, (.int .i64 p_t.Window), (.int .i64 p_t.Tooth), (.int .i64 p_t.PerVane), (.int .i64 p_t.First), (.int .i64 p_t.Modulus), (.int .i64 p_t.Slack), (.int .i64 p_t.Errors), (.bool p_t.Round)]))) rfl (yl_loadA (cs := [v1, (.int .i64 p_t.Window), (.int .i64 p_t.Tooth), (.int .i64 p_t.PerVane), (.int .i64 p_t.First), (.int .i64 p_t.Modulus), (.int .i64 p_t.Slack), (.int .i64 p_t.Errors), (.bool p_t.Round)]) ag24 hs173 (Box.at hB178)) ?_
    obtain ⟨r191, hr192, h⟩ := bind_elim h
    refine T0_e rfl (eff_call Tryd.func49 nm49 rfl (ev1 rfl) (ref04_TeethOf_ok [] _ (LtL.nil _) [v1, (.int .i64 p_t.Window), (.int .i64 p_t.Tooth), (.int .i64 p_t.PerVane), (.int .i64 p_t.First), (.int .i64 p_t.Modulus), (.int .i64 p_t.Slack), (.int .i64 p_t.Errors), (.bool p_t.Round)] p_t ⟨v1, (h176.sub (fun _ h => by cases h)), rfl⟩ r191 hr192) ?_)
    rintro _ wd193 ⟨he194, rfl⟩
    have e195 := e171.trans he194
    refine T0_q (v := (.bool (decide (x174 < r191)))) rfl (yl_lss rfl rfl) ?_
    refine T0_nil ?_
    refine hK190 _ _ ?_
    refine WC_cond (b := (decide (x174 < r191))) rfl (fun hb196 => ?_) (fun hb196 => ?_)
    · replace h := cond_t hb196 h
      refine WC_skip ?_
      refine hK189 _ _ ?_
      refine WC_seqK fun K197 hK197 => ?_
      refine WC_block ?_
      refine WC_seqK fun K198 hK198 => ?_
      refine WC_region ?_
      refine T0_q (v := (.agg (List.toArray [v1, (.int .i64 p_t.Window), (.int .i64 p_t.Tooth), (.int .i64 p_t.PerVane), (.int .i64 p_t.First), (.int .i64 p_t.Modulus), (.int .i64 p_t.Slack), (.int .i64 p_t.Errors), (.bool p_t.Round)]))) rfl (yl_loadA (cs := [v1, (.int .i64 p_t.Window), (.int .i64 p_t.Tooth), (.int .i64 p_t.PerVane), (.int .i64 p_t.First), (.int .i64 p_t.Modulus), (.int .i64 p_t.Slack), (.int .i64 p_t.Errors), (.bool p_t.Round)]) ag24 hs173 (Box.at (hB178.ext he194))) ?_
      refine T0_q (v := (.int .i64 x174)) rfl (yl_move hs175) ?_
      obtain ⟨r199, hr200, h⟩ := bind_elim h
      refine T0_e rfl (eff_call Tryd.func56 nm56 rfl (ev2 rfl rfl) (ref04_PlacesOf_ok [] _ (LtL.nil _) [v1, (.int .i64 p_t.Window), (.int .i64 p_t.Tooth), (.int .i64 p_t.PerVane), (.int .i64 p_t.First), (.int .i64 p_t.Modulus), (.int .i64 p_t.Slack), (.int .i64 p_t.Errors), (.bool p_t.Round)] p_t ⟨v1, ((h176.ext he194).sub (fun _ h => by cases h)), rfl⟩ x174 r199 hr200) ?_)
      rintro _ wd201 ⟨he202, cs203, rfl, hrd204⟩
      have e205 := he194.trans he202
      have e206 := e195.trans he202
      have hrd204 : cs203 = [(.int .i64 r199.Lo), (.int .i64 r199.Hi)] := hrd204
      subst hrd204
      refine T0_e rfl (eff_allocZ zi36 ?_)
      intro b207 wd208 hb209 he210 hB211
      have hn212 : b207 ≠ b5 := box_ne (hB178.ext e205) hb209
      have hbf213 := bfresh e206 hb209
      have h214 := (h176.ext e205).step (add_box he210 hb209)
      have e215 := e205.trans he210
      have e216 := e206.trans he210
      refine T0_e rfl (eff_storeC (vs := [(.int .i64 r199.Lo), (.int .i64 r199.Hi)]) (cs' := [(.int .i64 r199.Lo), (.int .i64 r199.Hi)]) sz36 rfl rfl rfl rfl hB211 rfl (oc_cons rfl (oc_cons rfl oc_nil)) rfl ?_)
      intro wd218 hc219 hB220
      have h221 := h214.step (Stepp.chg_mem hc219 mem0)
      have h222 := (hB178.ext e215).chg hc219 (avoidb hn212)
      have e223 := chg_box e216 hc219 hbf213
      refine T0_nil ?_
      refine hK198 _ _ ?_
      refine WC_seqK fun K224 hK224 => ?_
      refine WC_region ?_
      refine T0_q (v := (.int .i64 p_place)) rfl (yl_move hs172) ?_
      refine T0_q (v := (.pointer (some ⟨b207, 0, none⟩))) rfl (yl_fa 0 Tryd.underlying36 rfl rfl ⟨0, sz3⟩ rfl rfl) ?_
      refine T0_q (v := (.int .i64 r199.Lo)) rfl (yl_load sc3 rfl (Box.at hB220)) ?_
      refine T0_q (v := (.pointer (some ⟨b207, 1, none⟩))) rfl (yl_fa 1 Tryd.underlying36 rfl rfl ⟨0, sz3⟩ rfl rfl) ?_
      refine T0_q (v := (.int .i64 r199.Hi)) rfl (yl_load sc3 rfl (At.drop (Box.at hB220) 1)) ?_
      obtain ⟨r225, hr226, h⟩ := bind_elim h
      refine T0_e rfl (eff_call Tryd.func35 nm35 rfl (ev3 rfl rfl rfl) (base_Within_ok [] _ (LtL.nil _) p_place r199.Lo r199.Hi r225 hr226) ?_)
      rintro _ wd227 ⟨he228, rfl⟩
      have e229 := e223.trans he228
      refine T0_nil ?_
      refine hK224 _ _ ?_
      refine WC_cond (b := r225) rfl (fun hb230 => ?_) (fun hb230 => ?_)
      · replace h := cond_t hb230 h
        refine WC_seqK fun K231 hK231 => ?_
        refine WC_region ?_
        refine T0_q (v := (.int .i64 x174)) rfl (yl_move hs175) ?_
        refine T0_q (v := (.int .i64 x174)) rfl (yl_assign rfl) ?_
        refine T0_nil ?_
        refine hK231 _ _ ?_
        refine WC_ret ?_
        replace h := some_out h
        subst h
        have ho := hx185 _ rfl
        subst ho
        replace h := jn0_inl hn183
        replace h := some_out h
        subst h
        exact ⟨[(.int .i64 x174)], ⟨rfl, trivial⟩, e229, rfl⟩
      · replace h := cond_f hb230 h
        refine WC_skip ?_
        refine hK197 _ _ ?_
        refine WC_region ?_
        refine T0_q (v := (.int .i64 x174)) rfl (yl_move hs175) ?_
        refine T0_q (v := (.int .i64 (w64 (x174 + 1)))) rfl (yl_add rfl rfl) ?_
        refine T0_q (v := (.int .i64 (w64 (x174 + 1)))) rfl (yl_assign rfl) ?_
        refine T0_nil ?_
        replace h := some_out h
        subst h
        refine hK186 _ _ _ rfl ?_
        exact ⟨w64 (x174 + 1), rfl, hs172, hs173, rfl, ((h221.ext he228).sub (sub_skip (sub_refl _))), (h222.ext he228), e229⟩
    · replace h := cond_f hb196 h
      refine WC_exit ?_
      replace h := some_out h
      subst h
      have ho := hx185 _ rfl
      subst ho
      refine hK187 _ _ ?_
      exact ⟨rfl, e195⟩
  · rintro ρ wd179 ⟨rfl, e180⟩
    replace h := jn0_inr hn183
    refine hK13 _ _ ?_
    refine WC_seqK fun K232 hK232 => ?_
    refine WC_region ?_
    refine T0_q (v := (.int .i64 (-1))) rfl (yl_assign rfl) ?_
    refine T0_nil ?_
    refine hK232 _ _ ?_
    refine WC_ret ?_
    replace h := some_out h
    subst h
    exact ⟨[(.int .i64 (-1))], ⟨rfl, trivial⟩, e180, rfl⟩

noncomputable def locate_counted_101_spec (p_t : LocateTrack) : Option (Int × Int) :=
  (Option.bind (locate_open_spec p_t) fun r14 =>
  (bif (!decide (r14.2 = 0)) then (
    some (0, r14.2)
  ) else (
    (Option.bind (locate_track_windows_spec (locate_track.mk (LocateTrack.mk r14.1.LocateTrack.Vanes r14.1.LocateTrack.Window r14.1.LocateTrack.Tooth r14.1.LocateTrack.PerVane r14.1.LocateTrack.First r14.1.LocateTrack.Modulus r14.1.LocateTrack.Slack r14.1.LocateTrack.Errors r14.1.LocateTrack.Round))) fun r49 =>
    some (r49, 0)
    )
  ))
  )
theorem locate_counted_101_ok (L : List Value) (w : World) (hL : LtL L w) (cs_p_t : List Value) (p_t : LocateTrack) (h_p_t : Rep.rd L w cs_p_t p_t) (r : Int × Int) (h : locate_counted_101_spec p_t = some r) :
    CallsTo Tryd.prog 100 [(.agg cs_p_t.toArray), (.func (.func 101) #[] #[])] w (fun v w' => Ext w w' ∧ (.tuple #[(.int .i64 r.1), (.int .i64 r.2)]) = v) := by
  have e0 : Ext w w := Chg.refl _ _
  obtain ⟨v1, h2, rfl⟩ := h_p_t
  refine callsTo_of_WC (n := 19) (rs := [.tmp 4, .tmp 5]) Tryd.func100 rfl rfl rfl rfl rfl ?_
  refine WC_seqK fun K4 hK4 => ?_
  refine WC_region ?_
  refine T0_e rfl (eff_boxC (cs := [v1, (.int .i64 p_t.Window), (.int .i64 p_t.Tooth), (.int .i64 p_t.PerVane), (.int .i64 p_t.First), (.int .i64 p_t.Modulus), (.int .i64 p_t.Slack), (.int .i64 p_t.Errors), (.bool p_t.Round)]) rfl rfl ?_)
  intro b5 wd6 hb7 he8 hB9
  have hbf10 := bfresh e0 hb7
  have e11 := e0.trans he8
  refine T0_q (v := (.int .i64 0)) rfl (yl_assign rfl) ?_
  refine T0_q (v := (.int .i64 0)) rfl (yl_assign rfl) ?_
  refine T0_nil ?_
  refine hK4 _ _ ?_
  refine WC_seqK fun K13 hK13 => ?_
  refine WC_region ?_
  refine T0_q (v := (.agg (List.toArray [v1, (.int .i64 p_t.Window), (.int .i64 p_t.Tooth), (.int .i64 p_t.PerVane), (.int .i64 p_t.First), (.int .i64 p_t.Modulus), (.int .i64 p_t.Slack), (.int .i64 p_t.Errors), (.bool p_t.Round)]))) rfl (yl_loadA (cs := [v1, (.int .i64 p_t.Window), (.int .i64 p_t.Tooth), (.int .i64 p_t.PerVane), (.int .i64 p_t.First), (.int .i64 p_t.Modulus), (.int .i64 p_t.Slack), (.int .i64 p_t.Errors), (.bool p_t.Round)]) ag24 rfl (Box.at hB9)) ?_
  obtain ⟨r14, hr15, h⟩ := bind_elim h
  refine T0_e rfl (eff_call Tryd.func103 nm103 rfl (ev1 rfl) (locate_open_ok L _ (hL.chg e11) [v1, (.int .i64 p_t.Window), (.int .i64 p_t.Tooth), (.int .i64 p_t.PerVane), (.int .i64 p_t.First), (.int .i64 p_t.Modulus), (.int .i64 p_t.Slack), (.int .i64 p_t.Errors), (.bool p_t.Round)] p_t ⟨v1, (h2.ext he8), rfl⟩ r14 hr15) ?_)
  rintro _ wd16 ⟨he17, cs20, rfl, hrd21⟩
  have e22 := he8.trans he17
  have e23 := e11.trans he17
  obtain ⟨v18, h19, rfl⟩ := hrd21
  refine T0_q (v := (.tuple #[(.agg (List.toArray [v18, (.int .i64 r14.1.LocateTrack.Window), (.int .i64 r14.1.LocateTrack.Tooth), (.int .i64 r14.1.LocateTrack.PerVane), (.int .i64 r14.1.LocateTrack.First), (.int .i64 r14.1.LocateTrack.Modulus), (.int .i64 r14.1.LocateTrack.Slack), (.int .i64 r14.1.LocateTrack.Errors), (.bool r14.1.LocateTrack.Round)])), (.int .i64 r14.2)])) rfl (yl_move rfl) ?_
  refine T0_q (v := (.agg (List.toArray [v18, (.int .i64 r14.1.LocateTrack.Window), (.int .i64 r14.1.LocateTrack.Tooth), (.int .i64 r14.1.LocateTrack.PerVane), (.int .i64 r14.1.LocateTrack.First), (.int .i64 r14.1.LocateTrack.Modulus), (.int .i64 r14.1.LocateTrack.Slack), (.int .i64 r14.1.LocateTrack.Errors), (.bool r14.1.LocateTrack.Round)]))) rfl (yl_extract rfl rfl) ?_
  refine T0_q (v := (.int .i64 r14.2)) rfl (yl_extract rfl rfl) ?_
  refine T0_e rfl (eff_allocZ zi130 ?_)
  intro b25 wd26 hb27 he28 hB29
  have hn30 : b25 ≠ b5 := box_ne (hB9.ext he17) hb27
  have hbf31 := bfresh e23 hb27
  have h32 := (h2.ext e22).step (add_box he28 hb27)
  have h33 := h19.step (add_box he28 hb27)
  have e34 := he17.trans he28
  have e35 := e23.trans he28
  refine T0_e rfl (eff_storeC (vs := [v18, (.int .i64 r14.1.LocateTrack.Window), (.int .i64 r14.1.LocateTrack.Tooth), (.int .i64 r14.1.LocateTrack.PerVane), (.int .i64 r14.1.LocateTrack.First), (.int .i64 r14.1.LocateTrack.Modulus), (.int .i64 r14.1.LocateTrack.Slack), (.int .i64 r14.1.LocateTrack.Errors), (.bool r14.1.LocateTrack.Round)]) (cs' := [v18, (.int .i64 r14.1.LocateTrack.Window), (.int .i64 r14.1.LocateTrack.Tooth), (.int .i64 r14.1.LocateTrack.PerVane), (.int .i64 r14.1.LocateTrack.First), (.int .i64 r14.1.LocateTrack.Modulus), (.int .i64 r14.1.LocateTrack.Slack), (.int .i64 r14.1.LocateTrack.Errors), (.bool r14.1.LocateTrack.Round)]) sz130 rfl rfl rfl rfl hB29 rfl (oc_cons h33.one1 (oc_cons rfl (oc_cons rfl (oc_cons rfl (oc_cons rfl (oc_cons rfl (oc_cons rfl (oc_cons rfl (oc_cons rfl oc_nil))))))))) rfl ?_)
  intro wd37 hc38 hB39
  have h40 := h32.step (Stepp.chg_mem hc38 mem0)
  have h41 := (hB9.ext e34).chg hc38 (avoidb hn30)
  have h42 := h33.step (Stepp.chg_mem hc38 mem0)
  have e43 := chg_box e35 hc38 hbf31
  refine T0_q (v := (.int .i64 r14.2)) rfl (yl_assign rfl) ?_
  refine T0_nil ?_
  refine hK13 _ _ ?_
  refine WC_seqK fun K44 hK44 => ?_
  refine WC_seqK fun K45 hK45 => ?_
  refine WC_region ?_
  refine T0_q (v := (.int .i64 r14.2)) rfl (yl_move rfl) ?_
  refine T0_q (v := (.bool (!decide (r14.2 = 0)))) rfl (yl_neq rfl rfl) ?_
  refine T0_nil ?_
  refine hK45 _ _ ?_
  refine WC_cond (b := (!decide (r14.2 = 0))) rfl (fun hb46 => ?_) (fun hb46 => ?_)
  · replace h := cond_t hb46 h
    refine WC_seqK fun K47 hK47 => ?_
    refine WC_region ?_
    refine T0_q (v := (.int .i64 r14.2)) rfl (yl_move rfl) ?_
    refine T0_q (v := (.int .i64 0)) rfl (yl_assign rfl) ?_
    refine T0_q (v := (.int .i64 r14.2)) rfl (yl_assign rfl) ?_
    refine T0_nil ?_
    refine hK47 _ _ ?_
    refine WC_ret ?_
    replace h := some_out h
    subst h
    exact ⟨[(.int .i64 0), (.int .i64 r14.2)], ⟨rfl, rfl, trivial⟩, e43, rfl⟩
  · replace h := cond_f hb46 h
    refine WC_skip ?_
    refine hK44 _ _ ?_
    refine WC_seqK fun K48 hK48 => ?_
    refine WC_region ?_
    refine T0_q (v := (.func (.func 101) #[] #[])) rfl (yl_move rfl) ?_
    refine T0_q (v := (.agg (List.toArray [v18, (.int .i64 r14.1.LocateTrack.Window), (.int .i64 r14.1.LocateTrack.Tooth), (.int .i64 r14.1.LocateTrack.PerVane), (.int .i64 r14.1.LocateTrack.First), (.int .i64 r14.1.LocateTrack.Modulus), (.int .i64 r14.1.LocateTrack.Slack), (.int .i64 r14.1.LocateTrack.Errors), (.bool r14.1.LocateTrack.Round)]))) rfl (yl_loadA (cs := [v18, (.int .i64 r14.1.LocateTrack.Window), (.int .i64 r14.1.LocateTrack.Tooth), (.int .i64 r14.1.LocateTrack.PerVane), (.int .i64 r14.1.LocateTrack.First), (.int .i64 r14.1.LocateTrack.Modulus), (.int .i64 r14.1.LocateTrack.Slack), (.int .i64 r14.1.LocateTrack.Errors), (.bool r14.1.LocateTrack.Round)]) ag130 rfl (Box.at hB39)) ?_
    obtain ⟨r49, hr50, h⟩ := bind_elim h
    refine T0_e rfl (eff_callV rfl Tryd.func101 nm101 rfl (ev1 rfl) (locate_track_windows_ok [] _ (LtL.nil _) [v18, (.int .i64 r14.1.LocateTrack.Window), (.int .i64 r14.1.LocateTrack.Tooth), (.int .i64 r14.1.LocateTrack.PerVane), (.int .i64 r14.1.LocateTrack.First), (.int .i64 r14.1.LocateTrack.Modulus), (.int .i64 r14.1.LocateTrack.Slack), (.int .i64 r14.1.LocateTrack.Errors), (.bool r14.1.LocateTrack.Round)] (locate_track.mk (LocateTrack.mk r14.1.LocateTrack.Vanes r14.1.LocateTrack.Window r14.1.LocateTrack.Tooth r14.1.LocateTrack.PerVane r14.1.LocateTrack.First r14.1.LocateTrack.Modulus r14.1.LocateTrack.Slack r14.1.LocateTrack.Errors r14.1.LocateTrack.Round)) ⟨v18, (h42.sub (fun _ h => by cases h)), rfl⟩ r49 hr50) ?_)
    rintro _ wd51 ⟨he52, rfl⟩
    have e53 := e43.trans he52
    refine T0_q (v := (.int .i64 r49)) rfl (yl_assign rfl) ?_
    refine T0_q (v := (.int .i64 0)) rfl (yl_assign rfl) ?_
    refine T0_nil ?_
    refine hK48 _ _ ?_
    refine WC_ret ?_
    replace h := some_out h
    subst h
    exact ⟨[(.int .i64 r49), (.int .i64 0)], ⟨rfl, rfl, trivial⟩, e53, rfl⟩

noncomputable def locate_counted_102_spec (p_t : LocateTrack) : Option (Int × Int) :=
  (Option.bind (locate_open_spec p_t) fun r14 =>
  (bif (!decide (r14.2 = 0)) then (
    some (0, r14.2)
  ) else (
    (Option.bind (locate_track_teeth_spec (locate_track.mk (LocateTrack.mk r14.1.LocateTrack.Vanes r14.1.LocateTrack.Window r14.1.LocateTrack.Tooth r14.1.LocateTrack.PerVane r14.1.LocateTrack.First r14.1.LocateTrack.Modulus r14.1.LocateTrack.Slack r14.1.LocateTrack.Errors r14.1.LocateTrack.Round))) fun r49 =>
    some (r49, 0)
    )
  ))
  )
theorem locate_counted_102_ok (L : List Value) (w : World) (hL : LtL L w) (cs_p_t : List Value) (p_t : LocateTrack) (h_p_t : Rep.rd L w cs_p_t p_t) (r : Int × Int) (h : locate_counted_102_spec p_t = some r) :
    CallsTo Tryd.prog 100 [(.agg cs_p_t.toArray), (.func (.func 102) #[] #[])] w (fun v w' => Ext w w' ∧ (.tuple #[(.int .i64 r.1), (.int .i64 r.2)]) = v) := by
  have e0 : Ext w w := Chg.refl _ _
  obtain ⟨v1, h2, rfl⟩ := h_p_t
  refine callsTo_of_WC (n := 19) (rs := [.tmp 4, .tmp 5]) Tryd.func100 rfl rfl rfl rfl rfl ?_
  refine WC_seqK fun K4 hK4 => ?_
  refine WC_region ?_
  refine T0_e rfl (eff_boxC (cs := [v1, (.int .i64 p_t.Window), (.int .i64 p_t.Tooth), (.int .i64 p_t.PerVane), (.int .i64 p_t.First), (.int .i64 p_t.Modulus), (.int .i64 p_t.Slack), (.int .i64 p_t.Errors), (.bool p_t.Round)]) rfl rfl ?_)
  intro b5 wd6 hb7 he8 hB9
  have hbf10 := bfresh e0 hb7
  have e11 := e0.trans he8
  refine T0_q (v := (.int .i64 0)) rfl (yl_assign rfl) ?_
  refine T0_q (v := (.int .i64 0)) rfl (yl_assign rfl) ?_
  refine T0_nil ?_
  refine hK4 _ _ ?_
  refine WC_seqK fun K13 hK13 => ?_
  refine WC_region ?_
  refine T0_q (v := (.agg (List.toArray [v1, (.int .i64 p_t.Window), (.int .i64 p_t.Tooth), (.int .i64 p_t.PerVane), (.int .i64 p_t.First), (.int .i64 p_t.Modulus), (.int .i64 p_t.Slack), (.int .i64 p_t.Errors), (.bool p_t.Round)]))) rfl (yl_loadA (cs := [v1, (.int .i64 p_t.Window), (.int .i64 p_t.Tooth), (.int .i64 p_t.PerVane), (.int .i64 p_t.First), (.int .i64 p_t.Modulus), (.int .i64 p_t.Slack), (.int .i64 p_t.Errors), (.bool p_t.Round)]) ag24 rfl (Box.at hB9)) ?_
  obtain ⟨r14, hr15, h⟩ := bind_elim h
  refine T0_e rfl (eff_call Tryd.func103 nm103 rfl (ev1 rfl) (locate_open_ok L _ (hL.chg e11) [v1, (.int .i64 p_t.Window), (.int .i64 p_t.Tooth), (.int .i64 p_t.PerVane), (.int .i64 p_t.First), (.int .i64 p_t.Modulus), (.int .i64 p_t.Slack), (.int .i64 p_t.Errors), (.bool p_t.Round)] p_t ⟨v1, (h2.ext he8), rfl⟩ r14 hr15) ?_)
  rintro _ wd16 ⟨he17, cs20, rfl, hrd21⟩
  have e22 := he8.trans he17
  have e23 := e11.trans he17
  obtain ⟨v18, h19, rfl⟩ := hrd21
  refine T0_q (v := (.tuple #[(.agg (List.toArray [v18, (.int .i64 r14.1.LocateTrack.Window), (.int .i64 r14.1.LocateTrack.Tooth), (.int .i64 r14.1.LocateTrack.PerVane), (.int .i64 r14.1.LocateTrack.First), (.int .i64 r14.1.LocateTrack.Modulus), (.int .i64 r14.1.LocateTrack.Slack), (.int .i64 r14.1.LocateTrack.Errors), (.bool r14.1.LocateTrack.Round)])), (.int .i64 r14.2)])) rfl (yl_move rfl) ?_
  refine T0_q (v := (.agg (List.toArray [v18, (.int .i64 r14.1.LocateTrack.Window), (.int .i64 r14.1.LocateTrack.Tooth), (.int .i64 r14.1.LocateTrack.PerVane), (.int .i64 r14.1.LocateTrack.First), (.int .i64 r14.1.LocateTrack.Modulus), (.int .i64 r14.1.LocateTrack.Slack), (.int .i64 r14.1.LocateTrack.Errors), (.bool r14.1.LocateTrack.Round)]))) rfl (yl_extract rfl rfl) ?_
  refine T0_q (v := (.int .i64 r14.2)) rfl (yl_extract rfl rfl) ?_
  refine T0_e rfl (eff_allocZ zi130 ?_)
  intro b25 wd26 hb27 he28 hB29
  have hn30 : b25 ≠ b5 := box_ne (hB9.ext he17) hb27
  have hbf31 := bfresh e23 hb27
  have h32 := (h2.ext e22).step (add_box he28 hb27)
  have h33 := h19.step (add_box he28 hb27)
  have e34 := he17.trans he28
  have e35 := e23.trans he28
  refine T0_e rfl (eff_storeC (vs := [v18, (.int .i64 r14.1.LocateTrack.Window), (.int .i64 r14.1.LocateTrack.Tooth), (.int .i64 r14.1.LocateTrack.PerVane), (.int .i64 r14.1.LocateTrack.First), (.int .i64 r14.1.LocateTrack.Modulus), (.int .i64 r14.1.LocateTrack.Slack), (.int .i64 r14.1.LocateTrack.Errors), (.bool r14.1.LocateTrack.Round)]) (cs' := [v18, (.int .i64 r14.1.LocateTrack.Window), (.int .i64 r14.1.LocateTrack.Tooth), (.int .i64 r14.1.LocateTrack.PerVane), (.int .i64 r14.1.LocateTrack.First), (.int .i64 r14.1.LocateTrack.Modulus), (.int .i64 r14.1.LocateTrack.Slack), (.int .i64 r14.1.LocateTrack.Errors), (.bool r14.1.LocateTrack.Round)]) sz130 rfl rfl rfl rfl hB29 rfl (oc_cons h33.one1 (oc_cons rfl (oc_cons rfl (oc_cons rfl (oc_cons rfl (oc_cons rfl (oc_cons rfl (oc_cons rfl (oc_cons rfl oc_nil))))))))) rfl ?_)
  intro wd37 hc38 hB39
  have h40 := h32.step (Stepp.chg_mem hc38 mem0)
  have h41 := (hB9.ext e34).chg hc38 (avoidb hn30)
  have h42 := h33.step (Stepp.chg_mem hc38 mem0)
  have e43 := chg_box e35 hc38 hbf31
  refine T0_q (v := (.int .i64 r14.2)) rfl (yl_assign rfl) ?_
  refine T0_nil ?_
  refine hK13 _ _ ?_
  refine WC_seqK fun K44 hK44 => ?_
  refine WC_seqK fun K45 hK45 => ?_
  refine WC_region ?_
  refine T0_q (v := (.int .i64 r14.2)) rfl (yl_move rfl) ?_
  refine T0_q (v := (.bool (!decide (r14.2 = 0)))) rfl (yl_neq rfl rfl) ?_
  refine T0_nil ?_
  refine hK45 _ _ ?_
  refine WC_cond (b := (!decide (r14.2 = 0))) rfl (fun hb46 => ?_) (fun hb46 => ?_)
  · replace h := cond_t hb46 h
    refine WC_seqK fun K47 hK47 => ?_
    refine WC_region ?_
    refine T0_q (v := (.int .i64 r14.2)) rfl (yl_move rfl) ?_
    refine T0_q (v := (.int .i64 0)) rfl (yl_assign rfl) ?_
    refine T0_q (v := (.int .i64 r14.2)) rfl (yl_assign rfl) ?_
    refine T0_nil ?_
    refine hK47 _ _ ?_
    refine WC_ret ?_
    replace h := some_out h
    subst h
    exact ⟨[(.int .i64 0), (.int .i64 r14.2)], ⟨rfl, rfl, trivial⟩, e43, rfl⟩
  · replace h := cond_f hb46 h
    refine WC_skip ?_
    refine hK44 _ _ ?_
    refine WC_seqK fun K48 hK48 => ?_
    refine WC_region ?_
    refine T0_q (v := (.func (.func 102) #[] #[])) rfl (yl_move rfl) ?_
    refine T0_q (v := (.agg (List.toArray [v18, (.int .i64 r14.1.LocateTrack.Window), (.int .i64 r14.1.LocateTrack.Tooth), (.int .i64 r14.1.LocateTrack.PerVane), (.int .i64 r14.1.LocateTrack.First), (.int .i64 r14.1.LocateTrack.Modulus), (.int .i64 r14.1.LocateTrack.Slack), (.int .i64 r14.1.LocateTrack.Errors), (.bool r14.1.LocateTrack.Round)]))) rfl (yl_loadA (cs := [v18, (.int .i64 r14.1.LocateTrack.Window), (.int .i64 r14.1.LocateTrack.Tooth), (.int .i64 r14.1.LocateTrack.PerVane), (.int .i64 r14.1.LocateTrack.First), (.int .i64 r14.1.LocateTrack.Modulus), (.int .i64 r14.1.LocateTrack.Slack), (.int .i64 r14.1.LocateTrack.Errors), (.bool r14.1.LocateTrack.Round)]) ag130 rfl (Box.at hB39)) ?_
    obtain ⟨r49, hr50, h⟩ := bind_elim h
    refine T0_e rfl (eff_callV rfl Tryd.func102 nm102 rfl (ev1 rfl) (locate_track_teeth_ok [] _ (LtL.nil _) [v18, (.int .i64 r14.1.LocateTrack.Window), (.int .i64 r14.1.LocateTrack.Tooth), (.int .i64 r14.1.LocateTrack.PerVane), (.int .i64 r14.1.LocateTrack.First), (.int .i64 r14.1.LocateTrack.Modulus), (.int .i64 r14.1.LocateTrack.Slack), (.int .i64 r14.1.LocateTrack.Errors), (.bool r14.1.LocateTrack.Round)] (locate_track.mk (LocateTrack.mk r14.1.LocateTrack.Vanes r14.1.LocateTrack.Window r14.1.LocateTrack.Tooth r14.1.LocateTrack.PerVane r14.1.LocateTrack.First r14.1.LocateTrack.Modulus r14.1.LocateTrack.Slack r14.1.LocateTrack.Errors r14.1.LocateTrack.Round)) ⟨v18, (h42.sub (fun _ h => by cases h)), rfl⟩ r49 hr50) ?_)
    rintro _ wd51 ⟨he52, rfl⟩
    have e53 := e43.trans he52
    refine T0_q (v := (.int .i64 r49)) rfl (yl_assign rfl) ?_
    refine T0_q (v := (.int .i64 0)) rfl (yl_assign rfl) ?_
    refine T0_nil ?_
    refine hK48 _ _ ?_
    refine WC_ret ?_
    replace h := some_out h
    subst h
    exact ⟨[(.int .i64 r49), (.int .i64 0)], ⟨rfl, rfl, trivial⟩, e53, rfl⟩

noncomputable def locate_WindowsOf_spec (p_t : LocateTrack) : Option (Int × Int) :=
  (Option.bind (locate_counted_101_spec p_t) fun r14 =>
  some (r14.1, r14.2)
  )
theorem locate_WindowsOf_ok (L : List Value) (w : World) (hL : LtL L w) (cs_p_t : List Value) (p_t : LocateTrack) (h_p_t : Rep.rd L w cs_p_t p_t) (r : Int × Int) (h : locate_WindowsOf_spec p_t = some r) :
    CallsTo Tryd.prog 44 [(.agg cs_p_t.toArray)] w (fun v w' => Ext w w' ∧ (.tuple #[(.int .i64 r.1), (.int .i64 r.2)]) = v) := by
  have e0 : Ext w w := Chg.refl _ _
  obtain ⟨v1, h2, rfl⟩ := h_p_t
  refine callsTo_of_WC (n := 8) (rs := [.tmp 2, .tmp 3]) Tryd.func44 rfl rfl rfl rfl rfl ?_
  refine WC_seqK fun K4 hK4 => ?_
  refine WC_region ?_
  refine T0_e rfl (eff_boxC (cs := [v1, (.int .i64 p_t.Window), (.int .i64 p_t.Tooth), (.int .i64 p_t.PerVane), (.int .i64 p_t.First), (.int .i64 p_t.Modulus), (.int .i64 p_t.Slack), (.int .i64 p_t.Errors), (.bool p_t.Round)]) rfl rfl ?_)
  intro b5 wd6 hb7 he8 hB9
  have hbf10 := bfresh e0 hb7
  have e11 := e0.trans he8
  refine T0_q (v := (.int .i64 0)) rfl (yl_assign rfl) ?_
  refine T0_q (v := (.int .i64 0)) rfl (yl_assign rfl) ?_
  refine T0_nil ?_
  refine hK4 _ _ ?_
  refine WC_seqK fun K13 hK13 => ?_
  refine WC_region ?_
  refine T0_q (v := (.agg (List.toArray [v1, (.int .i64 p_t.Window), (.int .i64 p_t.Tooth), (.int .i64 p_t.PerVane), (.int .i64 p_t.First), (.int .i64 p_t.Modulus), (.int .i64 p_t.Slack), (.int .i64 p_t.Errors), (.bool p_t.Round)]))) rfl (yl_loadA (cs := [v1, (.int .i64 p_t.Window), (.int .i64 p_t.Tooth), (.int .i64 p_t.PerVane), (.int .i64 p_t.First), (.int .i64 p_t.Modulus), (.int .i64 p_t.Slack), (.int .i64 p_t.Errors), (.bool p_t.Round)]) ag24 rfl (Box.at hB9)) ?_
  obtain ⟨r14, hr15, h⟩ := bind_elim h
  refine T0_e rfl (eff_call Tryd.func100 nm100 rfl (ev2 rfl rfl) (locate_counted_101_ok [] _ (LtL.nil _) [v1, (.int .i64 p_t.Window), (.int .i64 p_t.Tooth), (.int .i64 p_t.PerVane), (.int .i64 p_t.First), (.int .i64 p_t.Modulus), (.int .i64 p_t.Slack), (.int .i64 p_t.Errors), (.bool p_t.Round)] p_t ⟨v1, ((h2.ext he8).sub (fun _ h => by cases h)), rfl⟩ r14 hr15) ?_)
  rintro _ wd16 ⟨he17, rfl⟩
  have e18 := he8.trans he17
  have e19 := e11.trans he17
  refine T0_q (v := (.int .i64 r14.1)) rfl (yl_extract rfl rfl) ?_
  refine T0_q (v := (.int .i64 r14.2)) rfl (yl_extract rfl rfl) ?_
  refine T0_q (v := (.int .i64 r14.1)) rfl (yl_assign rfl) ?_
  refine T0_q (v := (.int .i64 r14.2)) rfl (yl_assign rfl) ?_
  refine T0_nil ?_
  refine hK13 _ _ ?_
  refine WC_ret ?_
  replace h := some_out h
  subst h
  exact ⟨[(.int .i64 r14.1), (.int .i64 r14.2)], ⟨rfl, rfl, trivial⟩, e19, rfl⟩

noncomputable def locate_TeethOf_spec (p_t : LocateTrack) : Option (Int × Int) :=
  (Option.bind (locate_counted_102_spec p_t) fun r14 =>
  some (r14.1, r14.2)
  )
theorem locate_TeethOf_ok (L : List Value) (w : World) (hL : LtL L w) (cs_p_t : List Value) (p_t : LocateTrack) (h_p_t : Rep.rd L w cs_p_t p_t) (r : Int × Int) (h : locate_TeethOf_spec p_t = some r) :
    CallsTo Tryd.prog 45 [(.agg cs_p_t.toArray)] w (fun v w' => Ext w w' ∧ (.tuple #[(.int .i64 r.1), (.int .i64 r.2)]) = v) := by
  have e0 : Ext w w := Chg.refl _ _
  obtain ⟨v1, h2, rfl⟩ := h_p_t
  refine callsTo_of_WC (n := 8) (rs := [.tmp 2, .tmp 3]) Tryd.func45 rfl rfl rfl rfl rfl ?_
  refine WC_seqK fun K4 hK4 => ?_
  refine WC_region ?_
  refine T0_e rfl (eff_boxC (cs := [v1, (.int .i64 p_t.Window), (.int .i64 p_t.Tooth), (.int .i64 p_t.PerVane), (.int .i64 p_t.First), (.int .i64 p_t.Modulus), (.int .i64 p_t.Slack), (.int .i64 p_t.Errors), (.bool p_t.Round)]) rfl rfl ?_)
  intro b5 wd6 hb7 he8 hB9
  have hbf10 := bfresh e0 hb7
  have e11 := e0.trans he8
  refine T0_q (v := (.int .i64 0)) rfl (yl_assign rfl) ?_
  refine T0_q (v := (.int .i64 0)) rfl (yl_assign rfl) ?_
  refine T0_nil ?_
  refine hK4 _ _ ?_
  refine WC_seqK fun K13 hK13 => ?_
  refine WC_region ?_
  refine T0_q (v := (.agg (List.toArray [v1, (.int .i64 p_t.Window), (.int .i64 p_t.Tooth), (.int .i64 p_t.PerVane), (.int .i64 p_t.First), (.int .i64 p_t.Modulus), (.int .i64 p_t.Slack), (.int .i64 p_t.Errors), (.bool p_t.Round)]))) rfl (yl_loadA (cs := [v1, (.int .i64 p_t.Window), (.int .i64 p_t.Tooth), (.int .i64 p_t.PerVane), (.int .i64 p_t.First), (.int .i64 p_t.Modulus), (.int .i64 p_t.Slack), (.int .i64 p_t.Errors), (.bool p_t.Round)]) ag24 rfl (Box.at hB9)) ?_
  obtain ⟨r14, hr15, h⟩ := bind_elim h
  refine T0_e rfl (eff_call Tryd.func100 nm100 rfl (ev2 rfl rfl) (locate_counted_102_ok [] _ (LtL.nil _) [v1, (.int .i64 p_t.Window), (.int .i64 p_t.Tooth), (.int .i64 p_t.PerVane), (.int .i64 p_t.First), (.int .i64 p_t.Modulus), (.int .i64 p_t.Slack), (.int .i64 p_t.Errors), (.bool p_t.Round)] p_t ⟨v1, ((h2.ext he8).sub (fun _ h => by cases h)), rfl⟩ r14 hr15) ?_)
  rintro _ wd16 ⟨he17, rfl⟩
  have e18 := he8.trans he17
  have e19 := e11.trans he17
  refine T0_q (v := (.int .i64 r14.1)) rfl (yl_extract rfl rfl) ?_
  refine T0_q (v := (.int .i64 r14.2)) rfl (yl_extract rfl rfl) ?_
  refine T0_q (v := (.int .i64 r14.1)) rfl (yl_assign rfl) ?_
  refine T0_q (v := (.int .i64 r14.2)) rfl (yl_assign rfl) ?_
  refine T0_nil ?_
  refine hK13 _ _ ?_
  refine WC_ret ?_
  replace h := some_out h
  subst h
  exact ⟨[(.int .i64 r14.1), (.int .i64 r14.2)], ⟨rfl, rfl, trivial⟩, e19, rfl⟩

noncomputable def locate_WindowAt_spec (p_t : LocateTrack) (p_i : Int) : Option ((List Int) × Int) :=
  (Option.bind (locate_open_spec p_t) fun r14 =>
  (bif (!decide (r14.2 = 0)) then (
    some (([] : (List Int)), r14.2)
  ) else (
    (Option.bind (locate_track_windows_spec (locate_track.mk (LocateTrack.mk r14.1.LocateTrack.Vanes r14.1.LocateTrack.Window r14.1.LocateTrack.Tooth r14.1.LocateTrack.PerVane r14.1.LocateTrack.First r14.1.LocateTrack.Modulus r14.1.LocateTrack.Slack r14.1.LocateTrack.Errors r14.1.LocateTrack.Round))) fun r50 =>
    (Option.bind (locate_within_spec p_i 0 (w64 (r50 - 1))) fun r55 =>
    (bif (!r55) then (
      some (([] : (List Int)), 6)
    ) else (
      (Option.bind (locate_track_at_spec (locate_track.mk (LocateTrack.mk r14.1.LocateTrack.Vanes r14.1.LocateTrack.Window r14.1.LocateTrack.Tooth r14.1.LocateTrack.PerVane r14.1.LocateTrack.First r14.1.LocateTrack.Modulus r14.1.LocateTrack.Slack r14.1.LocateTrack.Errors r14.1.LocateTrack.Round)) p_i) fun r64 =>
      (Option.bind (cutA [r64.e0, r64.e1, r64.e2, r64.e3, r64.e4, r64.e5, r64.e6, r64.e7, r64.e8, r64.e9, r64.e10, r64.e11] p_t.Window p_t.Window) fun ys94 =>
      some (ys94, 0)
      )
      )
    ))
    )
    )
  ))
  )
theorem locate_WindowAt_ok (L : List Value) (w : World) (hL : LtL L w) (cs_p_t : List Value) (p_t : LocateTrack) (h_p_t : Rep.rd L w cs_p_t p_t) (p_i : Int) (r : (List Int) × Int) (h : locate_WindowAt_spec p_t p_i = some r) :
    CallsTo Tryd.prog 46 [(.agg cs_p_t.toArray), (.int .i64 p_i)] w (fun v w' => Ext w w' ∧ ∃ (v0 : Value), (.tuple #[v0, (.int .i64 r.2)]) = v ∧ SlRd L w' v0 r.1) := by
  have e0 : Ext w w := Chg.refl _ _
  obtain ⟨v1, h2, rfl⟩ := h_p_t
  refine callsTo_of_WC (n := 31) (rs := [.tmp 4, .tmp 5]) Tryd.func46 rfl rfl rfl rfl rfl ?_
  refine WC_seqK fun K4 hK4 => ?_
  refine WC_region ?_
  refine T0_e rfl (eff_boxC (cs := [v1, (.int .i64 p_t.Window), (.int .i64 p_t.Tooth), (.int .i64 p_t.PerVane), (.int .i64 p_t.First), (.int .i64 p_t.Modulus), (.int .i64 p_t.Slack), (.int .i64 p_t.Errors), (.bool p_t.Round)]) rfl rfl ?_)
  intro b5 wd6 hb7 he8 hB9
  have hbf10 := bfresh e0 hb7
  have e11 := e0.trans he8
  refine T0_q (v := (.slice none 0 0)) rfl (yl_assign rfl) ?_
  refine T0_q (v := (.int .i64 0)) rfl (yl_assign rfl) ?_
  refine T0_nil ?_
  refine hK4 _ _ ?_
  refine WC_seqK fun K13 hK13 => ?_
  refine WC_region ?_
  refine T0_q (v := (.agg (List.toArray [v1, (.int .i64 p_t.Window), (.int .i64 p_t.Tooth), (.int .i64 p_t.PerVane), (.int .i64 p_t.First), (.int .i64 p_t.Modulus), (.int .i64 p_t.Slack), (.int .i64 p_t.Errors), (.bool p_t.Round)]))) rfl (yl_loadA (cs := [v1, (.int .i64 p_t.Window), (.int .i64 p_t.Tooth), (.int .i64 p_t.PerVane), (.int .i64 p_t.First), (.int .i64 p_t.Modulus), (.int .i64 p_t.Slack), (.int .i64 p_t.Errors), (.bool p_t.Round)]) ag24 rfl (Box.at hB9)) ?_
  obtain ⟨r14, hr15, h⟩ := bind_elim h
  refine T0_e rfl (eff_call Tryd.func103 nm103 rfl (ev1 rfl) (locate_open_ok L _ (hL.chg e11) [v1, (.int .i64 p_t.Window), (.int .i64 p_t.Tooth), (.int .i64 p_t.PerVane), (.int .i64 p_t.First), (.int .i64 p_t.Modulus), (.int .i64 p_t.Slack), (.int .i64 p_t.Errors), (.bool p_t.Round)] p_t ⟨v1, (h2.ext he8), rfl⟩ r14 hr15) ?_)
  rintro _ wd16 ⟨he17, cs20, rfl, hrd21⟩
  have e22 := he8.trans he17
  have e23 := e11.trans he17
  obtain ⟨v18, h19, rfl⟩ := hrd21
  refine T0_q (v := (.tuple #[(.agg (List.toArray [v18, (.int .i64 r14.1.LocateTrack.Window), (.int .i64 r14.1.LocateTrack.Tooth), (.int .i64 r14.1.LocateTrack.PerVane), (.int .i64 r14.1.LocateTrack.First), (.int .i64 r14.1.LocateTrack.Modulus), (.int .i64 r14.1.LocateTrack.Slack), (.int .i64 r14.1.LocateTrack.Errors), (.bool r14.1.LocateTrack.Round)])), (.int .i64 r14.2)])) rfl (yl_move rfl) ?_
  refine T0_q (v := (.agg (List.toArray [v18, (.int .i64 r14.1.LocateTrack.Window), (.int .i64 r14.1.LocateTrack.Tooth), (.int .i64 r14.1.LocateTrack.PerVane), (.int .i64 r14.1.LocateTrack.First), (.int .i64 r14.1.LocateTrack.Modulus), (.int .i64 r14.1.LocateTrack.Slack), (.int .i64 r14.1.LocateTrack.Errors), (.bool r14.1.LocateTrack.Round)]))) rfl (yl_extract rfl rfl) ?_
  refine T0_q (v := (.int .i64 r14.2)) rfl (yl_extract rfl rfl) ?_
  refine T0_e rfl (eff_allocZ zi130 ?_)
  intro b25 wd26 hb27 he28 hB29
  have hn30 : b25 ≠ b5 := box_ne (hB9.ext he17) hb27
  have hbf31 := bfresh e23 hb27
  have h32 := (h2.ext e22).step (add_box he28 hb27)
  have h33 := h19.step (add_box he28 hb27)
  have e34 := he17.trans he28
  have e35 := e23.trans he28
  refine T0_e rfl (eff_storeC (vs := [v18, (.int .i64 r14.1.LocateTrack.Window), (.int .i64 r14.1.LocateTrack.Tooth), (.int .i64 r14.1.LocateTrack.PerVane), (.int .i64 r14.1.LocateTrack.First), (.int .i64 r14.1.LocateTrack.Modulus), (.int .i64 r14.1.LocateTrack.Slack), (.int .i64 r14.1.LocateTrack.Errors), (.bool r14.1.LocateTrack.Round)]) (cs' := [v18, (.int .i64 r14.1.LocateTrack.Window), (.int .i64 r14.1.LocateTrack.Tooth), (.int .i64 r14.1.LocateTrack.PerVane), (.int .i64 r14.1.LocateTrack.First), (.int .i64 r14.1.LocateTrack.Modulus), (.int .i64 r14.1.LocateTrack.Slack), (.int .i64 r14.1.LocateTrack.Errors), (.bool r14.1.LocateTrack.Round)]) sz130 rfl rfl rfl rfl hB29 rfl (oc_cons h33.one1 (oc_cons rfl (oc_cons rfl (oc_cons rfl (oc_cons rfl (oc_cons rfl (oc_cons rfl (oc_cons rfl (oc_cons rfl oc_nil))))))))) rfl ?_)
  intro wd37 hc38 hB39
  have h40 := h32.step (Stepp.chg_mem hc38 mem0)
  have h41 := (hB9.ext e34).chg hc38 (avoidb hn30)
  have h42 := h33.step (Stepp.chg_mem hc38 mem0)
  have e43 := chg_box e35 hc38 hbf31
  refine T0_q (v := (.int .i64 r14.2)) rfl (yl_assign rfl) ?_
  refine T0_nil ?_
  refine hK13 _ _ ?_
  refine WC_seqK fun K44 hK44 => ?_
  refine WC_seqK fun K45 hK45 => ?_
  refine WC_region ?_
  refine T0_q (v := (.int .i64 r14.2)) rfl (yl_move rfl) ?_
  refine T0_q (v := (.bool (!decide (r14.2 = 0)))) rfl (yl_neq rfl rfl) ?_
  refine T0_nil ?_
  refine hK45 _ _ ?_
  refine WC_cond (b := (!decide (r14.2 = 0))) rfl (fun hb46 => ?_) (fun hb46 => ?_)
  · replace h := cond_t hb46 h
    refine WC_seqK fun K47 hK47 => ?_
    refine WC_region ?_
    refine T0_q (v := (.int .i64 r14.2)) rfl (yl_move rfl) ?_
    refine T0_q (v := (.slice none 0 0)) rfl (yl_assign rfl) ?_
    refine T0_q (v := (.int .i64 r14.2)) rfl (yl_assign rfl) ?_
    refine T0_nil ?_
    refine hK47 _ _ ?_
    refine WC_ret ?_
    replace h := some_out h
    subst h
    exact ⟨[(.slice none 0 0), (.int .i64 r14.2)], ⟨rfl, rfl, trivial⟩, e43, (.slice none 0 0), rfl, (SlRd.nil _ _)⟩
  · replace h := cond_f hb46 h
    refine WC_skip ?_
    refine hK44 _ _ ?_
    refine WC_seqK fun K48 hK48 => ?_
    refine WC_seqK fun K49 hK49 => ?_
    refine WC_region ?_
    refine T0_q (v := (.int .i64 p_i)) rfl (yl_move rfl) ?_
    refine T0_q (v := (.agg (List.toArray [v18, (.int .i64 r14.1.LocateTrack.Window), (.int .i64 r14.1.LocateTrack.Tooth), (.int .i64 r14.1.LocateTrack.PerVane), (.int .i64 r14.1.LocateTrack.First), (.int .i64 r14.1.LocateTrack.Modulus), (.int .i64 r14.1.LocateTrack.Slack), (.int .i64 r14.1.LocateTrack.Errors), (.bool r14.1.LocateTrack.Round)]))) rfl (yl_loadA (cs := [v18, (.int .i64 r14.1.LocateTrack.Window), (.int .i64 r14.1.LocateTrack.Tooth), (.int .i64 r14.1.LocateTrack.PerVane), (.int .i64 r14.1.LocateTrack.First), (.int .i64 r14.1.LocateTrack.Modulus), (.int .i64 r14.1.LocateTrack.Slack), (.int .i64 r14.1.LocateTrack.Errors), (.bool r14.1.LocateTrack.Round)]) ag130 rfl (Box.at hB39)) ?_
    obtain ⟨r50, hr51, h⟩ := bind_elim h
    refine T0_e rfl (eff_call Tryd.func101 nm101 rfl (ev1 rfl) (locate_track_windows_ok [] _ (LtL.nil _) [v18, (.int .i64 r14.1.LocateTrack.Window), (.int .i64 r14.1.LocateTrack.Tooth), (.int .i64 r14.1.LocateTrack.PerVane), (.int .i64 r14.1.LocateTrack.First), (.int .i64 r14.1.LocateTrack.Modulus), (.int .i64 r14.1.LocateTrack.Slack), (.int .i64 r14.1.LocateTrack.Errors), (.bool r14.1.LocateTrack.Round)] (locate_track.mk (LocateTrack.mk r14.1.LocateTrack.Vanes r14.1.LocateTrack.Window r14.1.LocateTrack.Tooth r14.1.LocateTrack.PerVane r14.1.LocateTrack.First r14.1.LocateTrack.Modulus r14.1.LocateTrack.Slack r14.1.LocateTrack.Errors r14.1.LocateTrack.Round)) ⟨v18, (h42.sub (fun _ h => by cases h)), rfl⟩ r50 hr51) ?_)
    rintro _ wd52 ⟨he53, rfl⟩
    have e54 := e43.trans he53
    refine T0_q (v := (.int .i64 (w64 (r50 - 1)))) rfl (yl_sub rfl rfl) ?_
    obtain ⟨r55, hr56, h⟩ := bind_elim h
    refine T0_e rfl (eff_call Tryd.func86 nm86 rfl (ev3 rfl rfl rfl) (locate_within_ok [] _ (LtL.nil _) p_i 0 (w64 (r50 - 1)) r55 hr56) ?_)
    rintro _ wd57 ⟨he58, rfl⟩
    have e59 := he53.trans he58
    have e60 := e54.trans he58
    refine T0_q (v := (.bool (!r55))) rfl (yl_not rfl) ?_
    refine T0_nil ?_
    refine hK49 _ _ ?_
    refine WC_cond (b := (!r55)) rfl (fun hb61 => ?_) (fun hb61 => ?_)
    · replace h := cond_t hb61 h
      refine WC_seqK fun K62 hK62 => ?_
      refine WC_region ?_
      refine T0_q (v := (.slice none 0 0)) rfl (yl_assign rfl) ?_
      refine T0_q (v := (.int .i64 6)) rfl (yl_assign rfl) ?_
      refine T0_nil ?_
      refine hK62 _ _ ?_
      refine WC_ret ?_
      replace h := some_out h
      subst h
      exact ⟨[(.slice none 0 0), (.int .i64 6)], ⟨rfl, rfl, trivial⟩, e60, (.slice none 0 0), rfl, (SlRd.nil _ _)⟩
    · replace h := cond_f hb61 h
      refine WC_skip ?_
      refine hK48 _ _ ?_
      refine WC_seqK fun K63 hK63 => ?_
      refine WC_region ?_
      refine T0_q (v := (.agg (List.toArray [v18, (.int .i64 r14.1.LocateTrack.Window), (.int .i64 r14.1.LocateTrack.Tooth), (.int .i64 r14.1.LocateTrack.PerVane), (.int .i64 r14.1.LocateTrack.First), (.int .i64 r14.1.LocateTrack.Modulus), (.int .i64 r14.1.LocateTrack.Slack), (.int .i64 r14.1.LocateTrack.Errors), (.bool r14.1.LocateTrack.Round)]))) rfl (yl_loadA (cs := [v18, (.int .i64 r14.1.LocateTrack.Window), (.int .i64 r14.1.LocateTrack.Tooth), (.int .i64 r14.1.LocateTrack.PerVane), (.int .i64 r14.1.LocateTrack.First), (.int .i64 r14.1.LocateTrack.Modulus), (.int .i64 r14.1.LocateTrack.Slack), (.int .i64 r14.1.LocateTrack.Errors), (.bool r14.1.LocateTrack.Round)]) ag130 rfl (Box.at (hB39.ext e59))) ?_
      refine T0_q (v := (.int .i64 p_i)) rfl (yl_move rfl) ?_
      obtain ⟨r64, hr65, h⟩ := bind_elim h
      refine T0_e rfl (eff_call Tryd.func104 nm104 rfl (ev2 rfl rfl) (locate_track_at_ok [] _ (LtL.nil _) [v18, (.int .i64 r14.1.LocateTrack.Window), (.int .i64 r14.1.LocateTrack.Tooth), (.int .i64 r14.1.LocateTrack.PerVane), (.int .i64 r14.1.LocateTrack.First), (.int .i64 r14.1.LocateTrack.Modulus), (.int .i64 r14.1.LocateTrack.Slack), (.int .i64 r14.1.LocateTrack.Errors), (.bool r14.1.LocateTrack.Round)] (locate_track.mk (LocateTrack.mk r14.1.LocateTrack.Vanes r14.1.LocateTrack.Window r14.1.LocateTrack.Tooth r14.1.LocateTrack.PerVane r14.1.LocateTrack.First r14.1.LocateTrack.Modulus r14.1.LocateTrack.Slack r14.1.LocateTrack.Errors r14.1.LocateTrack.Round)) ⟨v18, ((h42.ext e59).sub (fun _ h => by cases h)), rfl⟩ p_i r64 hr65) ?_)
      rintro _ wd66 ⟨he67, cs68, rfl, hrd69⟩
      have e70 := e59.trans he67
      have e71 := e60.trans he67
      have hrd69 : cs68 = [(.int .i64 r64.e0), (.int .i64 r64.e1), (.int .i64 r64.e2), (.int .i64 r64.e3), (.int .i64 r64.e4), (.int .i64 r64.e5), (.int .i64 r64.e6), (.int .i64 r64.e7), (.int .i64 r64.e8), (.int .i64 r64.e9), (.int .i64 r64.e10), (.int .i64 r64.e11)] := hrd69
      subst hrd69
      refine T0_e rfl (eff_allocZ zi147 ?_)
      intro b72 wd73 hb74 he75 hB76
      have hn77 : b72 ≠ b5 := box_ne (h41.ext e70) hb74
      have hn78 : b72 ≠ b25 := box_ne (hB39.ext e70) hb74
      have hbf79 := bfresh e71 hb74
      have h80 := (h40.ext e70).step (add_box he75 hb74)
      have h81 := (h42.ext e70).step (add_box he75 hb74)
      have e82 := e70.trans he75
      have e83 := e71.trans he75
      refine T0_e rfl (eff_storeC (vs := [(.int .i64 r64.e0), (.int .i64 r64.e1), (.int .i64 r64.e2), (.int .i64 r64.e3), (.int .i64 r64.e4), (.int .i64 r64.e5), (.int .i64 r64.e6), (.int .i64 r64.e7), (.int .i64 r64.e8), (.int .i64 r64.e9), (.int .i64 r64.e10), (.int .i64 r64.e11)]) (cs' := [(.int .i64 r64.e0), (.int .i64 r64.e1), (.int .i64 r64.e2), (.int .i64 r64.e3), (.int .i64 r64.e4), (.int .i64 r64.e5), (.int .i64 r64.e6), (.int .i64 r64.e7), (.int .i64 r64.e8), (.int .i64 r64.e9), (.int .i64 r64.e10), (.int .i64 r64.e11)]) sz147 rfl rfl rfl rfl hB76 rfl (oc_cons rfl (oc_cons rfl (oc_cons rfl (oc_cons rfl (oc_cons rfl (oc_cons rfl (oc_cons rfl (oc_cons rfl (oc_cons rfl (oc_cons rfl (oc_cons rfl (oc_cons rfl oc_nil)))))))))))) rfl ?_)
      intro wd85 hc86 hB87
      have h88 := h80.step (Stepp.chg_mem hc86 mem0)
      have h89 := (h41.ext e82).chg hc86 (avoidb hn77)
      have h90 := h81.step (Stepp.chg_mem hc86 mem0)
      have h91 := (hB39.ext e82).chg hc86 (avoidb hn78)
      have e92 := chg_box e83 hc86 hbf79
      refine T0_nil ?_
      refine hK63 _ _ ?_
      refine WC_seqK fun K93 hK93 => ?_
      refine WC_region ?_
      refine T0_q (v := (.pointer (some ⟨b5, 1, none⟩))) rfl (yl_fa 1 Tryd.underlying24 rfl rfl ⟨0, sz3⟩ rfl rfl) ?_
      refine T0_q (v := (.int .i64 p_t.Window)) rfl (yl_load sc3 rfl (At.drop (Box.at h89) 1)) ?_
      refine T0_q (v := (.pointer (some ⟨b5, 1, none⟩))) rfl (yl_fa 1 Tryd.underlying24 rfl rfl ⟨0, sz3⟩ rfl rfl) ?_
      refine T0_q (v := (.int .i64 p_t.Window)) rfl (yl_load sc3 rfl (At.drop (Box.at h89) 1)) ?_
      obtain ⟨ys94, hys95, h⟩ := bind_elim h
      refine T0_q (v := (.slice (some ⟨b72, 0, none⟩) (p_t.Window : Int).toNat (p_t.Window : Int).toNat)) rfl (yl_sliceAc (xs := [r64.e0, r64.e1, r64.e2, r64.e3, r64.e4, r64.e5, r64.e6, r64.e7, r64.e8, r64.e9, r64.e10, r64.e11]) Tryd.underlying147 sz3 rfl hys95 rfl rfl rfl rfl) ?_
      refine T0_q (v := (.slice (some ⟨b72, 0, none⟩) (p_t.Window : Int).toNat (p_t.Window : Int).toNat)) rfl (yl_assign rfl) ?_
      refine T0_q (v := (.int .i64 0)) rfl (yl_assign rfl) ?_
      refine T0_nil ?_
      refine hK93 _ _ ?_
      refine WC_ret ?_
      replace h := some_out h
      subst h
      exact ⟨[(.slice (some ⟨b72, 0, none⟩) (p_t.Window : Int).toNat (p_t.Window : Int).toNat), (.int .i64 0)], ⟨rfl, rfl, trivial⟩, e92, (.slice (some ⟨b72, 0, none⟩) (p_t.Window : Int).toNat (p_t.Window : Int).toNat), rfl, (SlRd.of_boxC (xs := [r64.e0, r64.e1, r64.e2, r64.e3, r64.e4, r64.e5, r64.e6, r64.e7, r64.e8, r64.e9, r64.e10, r64.e11]) hB87 (avoid_new hL hbf79) rfl hys95 rfl)⟩

noncomputable def locate_ToothAt_spec (p_t : LocateTrack) (p_place : Int) : Option (Int × Int) :=
  (Option.bind (locate_open_spec p_t) fun r14 =>
  (bif (!decide (r14.2 = 0)) then (
    some (0, r14.2)
  ) else (
    (Option.bind (locate_track_teeth_spec (locate_track.mk (LocateTrack.mk r14.1.LocateTrack.Vanes r14.1.LocateTrack.Window r14.1.LocateTrack.Tooth r14.1.LocateTrack.PerVane r14.1.LocateTrack.First r14.1.LocateTrack.Modulus r14.1.LocateTrack.Slack r14.1.LocateTrack.Errors r14.1.LocateTrack.Round))) fun r53 =>
    (Option.bind (locate_within_spec p_place p_t.First (w64 ((w64 (p_t.First + (w64 (r53 * p_t.Tooth)))) - 1))) fun r59 =>
    (bif (!r59) then (
      some (0, 6)
    ) else (
      (Option.bind (quo (w64 (p_place - p_t.First)) p_t.Tooth) fun q69 =>
      some (q69, 0)
      )
    ))
    )
    )
  ))
  )
theorem locate_ToothAt_ok (L : List Value) (w : World) (hL : LtL L w) (cs_p_t : List Value) (p_t : LocateTrack) (h_p_t : Rep.rd L w cs_p_t p_t) (p_place : Int) (r : Int × Int) (h : locate_ToothAt_spec p_t p_place = some r) :
    CallsTo Tryd.prog 52 [(.agg cs_p_t.toArray), (.int .i64 p_place)] w (fun v w' => Ext w w' ∧ (.tuple #[(.int .i64 r.1), (.int .i64 r.2)]) = v) := by
  have e0 : Ext w w := Chg.refl _ _
  obtain ⟨v1, h2, rfl⟩ := h_p_t
  refine callsTo_of_WC (n := 37) (rs := [.tmp 4, .tmp 5]) Tryd.func52 rfl rfl rfl rfl rfl ?_
  refine WC_seqK fun K4 hK4 => ?_
  refine WC_region ?_
  refine T0_e rfl (eff_boxC (cs := [v1, (.int .i64 p_t.Window), (.int .i64 p_t.Tooth), (.int .i64 p_t.PerVane), (.int .i64 p_t.First), (.int .i64 p_t.Modulus), (.int .i64 p_t.Slack), (.int .i64 p_t.Errors), (.bool p_t.Round)]) rfl rfl ?_)
  intro b5 wd6 hb7 he8 hB9
  have hbf10 := bfresh e0 hb7
  have e11 := e0.trans he8
  refine T0_q (v := (.int .i64 0)) rfl (yl_assign rfl) ?_
  refine T0_q (v := (.int .i64 0)) rfl (yl_assign rfl) ?_
  refine T0_nil ?_
  refine hK4 _ _ ?_
  refine WC_seqK fun K13 hK13 => ?_
  refine WC_region ?_
  refine T0_q (v := (.agg (List.toArray [v1, (.int .i64 p_t.Window), (.int .i64 p_t.Tooth), (.int .i64 p_t.PerVane), (.int .i64 p_t.First), (.int .i64 p_t.Modulus), (.int .i64 p_t.Slack), (.int .i64 p_t.Errors), (.bool p_t.Round)]))) rfl (yl_loadA (cs := [v1, (.int .i64 p_t.Window), (.int .i64 p_t.Tooth), (.int .i64 p_t.PerVane), (.int .i64 p_t.First), (.int .i64 p_t.Modulus), (.int .i64 p_t.Slack), (.int .i64 p_t.Errors), (.bool p_t.Round)]) ag24 rfl (Box.at hB9)) ?_
  obtain ⟨r14, hr15, h⟩ := bind_elim h
  refine T0_e rfl (eff_call Tryd.func103 nm103 rfl (ev1 rfl) (locate_open_ok L _ (hL.chg e11) [v1, (.int .i64 p_t.Window), (.int .i64 p_t.Tooth), (.int .i64 p_t.PerVane), (.int .i64 p_t.First), (.int .i64 p_t.Modulus), (.int .i64 p_t.Slack), (.int .i64 p_t.Errors), (.bool p_t.Round)] p_t ⟨v1, (h2.ext he8), rfl⟩ r14 hr15) ?_)
  rintro _ wd16 ⟨he17, cs20, rfl, hrd21⟩
  have e22 := he8.trans he17
  have e23 := e11.trans he17
  obtain ⟨v18, h19, rfl⟩ := hrd21
  refine T0_q (v := (.tuple #[(.agg (List.toArray [v18, (.int .i64 r14.1.LocateTrack.Window), (.int .i64 r14.1.LocateTrack.Tooth), (.int .i64 r14.1.LocateTrack.PerVane), (.int .i64 r14.1.LocateTrack.First), (.int .i64 r14.1.LocateTrack.Modulus), (.int .i64 r14.1.LocateTrack.Slack), (.int .i64 r14.1.LocateTrack.Errors), (.bool r14.1.LocateTrack.Round)])), (.int .i64 r14.2)])) rfl (yl_move rfl) ?_
  refine T0_q (v := (.agg (List.toArray [v18, (.int .i64 r14.1.LocateTrack.Window), (.int .i64 r14.1.LocateTrack.Tooth), (.int .i64 r14.1.LocateTrack.PerVane), (.int .i64 r14.1.LocateTrack.First), (.int .i64 r14.1.LocateTrack.Modulus), (.int .i64 r14.1.LocateTrack.Slack), (.int .i64 r14.1.LocateTrack.Errors), (.bool r14.1.LocateTrack.Round)]))) rfl (yl_extract rfl rfl) ?_
  refine T0_q (v := (.int .i64 r14.2)) rfl (yl_extract rfl rfl) ?_
  refine T0_e rfl (eff_allocZ zi130 ?_)
  intro b25 wd26 hb27 he28 hB29
  have hn30 : b25 ≠ b5 := box_ne (hB9.ext he17) hb27
  have hbf31 := bfresh e23 hb27
  have h32 := (h2.ext e22).step (add_box he28 hb27)
  have h33 := h19.step (add_box he28 hb27)
  have e34 := he17.trans he28
  have e35 := e23.trans he28
  refine T0_e rfl (eff_storeC (vs := [v18, (.int .i64 r14.1.LocateTrack.Window), (.int .i64 r14.1.LocateTrack.Tooth), (.int .i64 r14.1.LocateTrack.PerVane), (.int .i64 r14.1.LocateTrack.First), (.int .i64 r14.1.LocateTrack.Modulus), (.int .i64 r14.1.LocateTrack.Slack), (.int .i64 r14.1.LocateTrack.Errors), (.bool r14.1.LocateTrack.Round)]) (cs' := [v18, (.int .i64 r14.1.LocateTrack.Window), (.int .i64 r14.1.LocateTrack.Tooth), (.int .i64 r14.1.LocateTrack.PerVane), (.int .i64 r14.1.LocateTrack.First), (.int .i64 r14.1.LocateTrack.Modulus), (.int .i64 r14.1.LocateTrack.Slack), (.int .i64 r14.1.LocateTrack.Errors), (.bool r14.1.LocateTrack.Round)]) sz130 rfl rfl rfl rfl hB29 rfl (oc_cons h33.one1 (oc_cons rfl (oc_cons rfl (oc_cons rfl (oc_cons rfl (oc_cons rfl (oc_cons rfl (oc_cons rfl (oc_cons rfl oc_nil))))))))) rfl ?_)
  intro wd37 hc38 hB39
  have h40 := h32.step (Stepp.chg_mem hc38 mem0)
  have h41 := (hB9.ext e34).chg hc38 (avoidb hn30)
  have h42 := h33.step (Stepp.chg_mem hc38 mem0)
  have e43 := chg_box e35 hc38 hbf31
  refine T0_q (v := (.int .i64 r14.2)) rfl (yl_assign rfl) ?_
  refine T0_nil ?_
  refine hK13 _ _ ?_
  refine WC_seqK fun K44 hK44 => ?_
  refine WC_seqK fun K45 hK45 => ?_
  refine WC_region ?_
  refine T0_q (v := (.int .i64 r14.2)) rfl (yl_move rfl) ?_
  refine T0_q (v := (.bool (!decide (r14.2 = 0)))) rfl (yl_neq rfl rfl) ?_
  refine T0_nil ?_
  refine hK45 _ _ ?_
  refine WC_cond (b := (!decide (r14.2 = 0))) rfl (fun hb46 => ?_) (fun hb46 => ?_)
  · replace h := cond_t hb46 h
    refine WC_seqK fun K47 hK47 => ?_
    refine WC_region ?_
    refine T0_q (v := (.int .i64 r14.2)) rfl (yl_move rfl) ?_
    refine T0_q (v := (.int .i64 0)) rfl (yl_assign rfl) ?_
    refine T0_q (v := (.int .i64 r14.2)) rfl (yl_assign rfl) ?_
    refine T0_nil ?_
    refine hK47 _ _ ?_
    refine WC_ret ?_
    replace h := some_out h
    subst h
    exact ⟨[(.int .i64 0), (.int .i64 r14.2)], ⟨rfl, rfl, trivial⟩, e43, rfl⟩
  · replace h := cond_f hb46 h
    refine WC_skip ?_
    refine hK44 _ _ ?_
    refine WC_seqK fun K48 hK48 => ?_
    refine WC_seqK fun K49 hK49 => ?_
    refine WC_plan mixed (.p 0 (.p 1 (.p 3 (.p 7 (.q 2 (.q 4 (.q 5 (.q 8 (.e 6 (.p 9 (.p 10 (.p 11 (.e 12 (.p 13 .done)))))))))))))) (by kernel_rfl) ?_
    intro wd50 he51
    have e52 := e43.trans he51
    refine TP_p (v := (.int .i64 p_place)) rfl rfl (fun w' => (yl_move rfl)) ?_
    refine TP_p (v := (.pointer (some ⟨b5, 4, none⟩))) rfl rfl (fun w' => (yl_fa 4 Tryd.underlying24 rfl rfl ⟨0, sz3⟩ rfl rfl)) ?_
    refine TP_p (v := (.pointer (some ⟨b5, 4, none⟩))) rfl rfl (fun w' => (yl_fa 4 Tryd.underlying24 rfl rfl ⟨0, sz3⟩ rfl rfl)) ?_
    refine TP_p (v := (.pointer (some ⟨b5, 2, none⟩))) rfl rfl (fun w' => (yl_fa 2 Tryd.underlying24 rfl rfl ⟨0, sz3⟩ rfl rfl)) ?_
    refine TP_q (v := (.int .i64 p_t.First)) rfl rfl (fun w' hS => (yl_load sc3 rfl (At.drop (Box.at (h41.ext ((he51).trans hS))) 4))) ?_
    refine TP_q (v := (.int .i64 p_t.First)) rfl rfl (fun w' hS => (yl_load sc3 rfl (At.drop (Box.at (h41.ext ((he51).trans hS))) 4))) ?_
    refine TP_q (v := (.agg (List.toArray [v18, (.int .i64 r14.1.LocateTrack.Window), (.int .i64 r14.1.LocateTrack.Tooth), (.int .i64 r14.1.LocateTrack.PerVane), (.int .i64 r14.1.LocateTrack.First), (.int .i64 r14.1.LocateTrack.Modulus), (.int .i64 r14.1.LocateTrack.Slack), (.int .i64 r14.1.LocateTrack.Errors), (.bool r14.1.LocateTrack.Round)]))) rfl rfl (fun w' hS => (yl_loadA (cs := [v18, (.int .i64 r14.1.LocateTrack.Window), (.int .i64 r14.1.LocateTrack.Tooth), (.int .i64 r14.1.LocateTrack.PerVane), (.int .i64 r14.1.LocateTrack.First), (.int .i64 r14.1.LocateTrack.Modulus), (.int .i64 r14.1.LocateTrack.Slack), (.int .i64 r14.1.LocateTrack.Errors), (.bool r14.1.LocateTrack.Round)]) ag130 rfl (Box.at (hB39.ext ((he51).trans hS))))) ?_
    refine TP_q (v := (.int .i64 p_t.Tooth)) rfl rfl (fun w' hS => (yl_load sc3 rfl (At.drop (Box.at (h41.ext ((he51).trans hS))) 2))) ?_
    obtain ⟨r53, hr54, h⟩ := bind_elim h
    refine TP_e rfl rfl (eff_call Tryd.func102 nm102 rfl (ev1 rfl) (locate_track_teeth_ok [] _ (LtL.nil _) [v18, (.int .i64 r14.1.LocateTrack.Window), (.int .i64 r14.1.LocateTrack.Tooth), (.int .i64 r14.1.LocateTrack.PerVane), (.int .i64 r14.1.LocateTrack.First), (.int .i64 r14.1.LocateTrack.Modulus), (.int .i64 r14.1.LocateTrack.Slack), (.int .i64 r14.1.LocateTrack.Errors), (.bool r14.1.LocateTrack.Round)] (locate_track.mk (LocateTrack.mk r14.1.LocateTrack.Vanes r14.1.LocateTrack.Window r14.1.LocateTrack.Tooth r14.1.LocateTrack.PerVane r14.1.LocateTrack.First r14.1.LocateTrack.Modulus r14.1.LocateTrack.Slack r14.1.LocateTrack.Errors r14.1.LocateTrack.Round)) ⟨v18, ((h42.ext he51).sub (fun _ h => by cases h)), rfl⟩ r53 hr54) ?_)
    rintro _ wd55 ⟨he56, rfl⟩
    have e57 := he51.trans he56
    have e58 := e52.trans he56
    refine ⟨he56, ?_⟩
    refine TP_p (v := (.int .i64 (w64 (r53 * p_t.Tooth)))) rfl rfl (fun w' => (yl_mul rfl rfl)) ?_
    refine TP_p (v := (.int .i64 (w64 (p_t.First + (w64 (r53 * p_t.Tooth)))))) rfl rfl (fun w' => (yl_add rfl rfl)) ?_
    refine TP_p (v := (.int .i64 (w64 ((w64 (p_t.First + (w64 (r53 * p_t.Tooth)))) - 1)))) rfl rfl (fun w' => (yl_sub rfl rfl)) ?_
    obtain ⟨r59, hr60, h⟩ := bind_elim h
    refine TP_e rfl rfl (eff_call Tryd.func86 nm86 rfl (ev3 rfl rfl rfl) (locate_within_ok [] _ (LtL.nil _) p_place p_t.First (w64 ((w64 (p_t.First + (w64 (r53 * p_t.Tooth)))) - 1)) r59 hr60) ?_)
    rintro _ wd61 ⟨he62, rfl⟩
    have e63 := e57.trans he62
    have e64 := he56.trans he62
    have e65 := e58.trans he62
    refine ⟨e64, ?_⟩
    refine TP_p (v := (.bool (!r59))) rfl rfl (fun w' => (yl_not rfl)) ?_
    refine TP_done ?_
    refine hK49 _ _ ?_
    refine WC_cond (b := (!r59)) rfl (fun hb66 => ?_) (fun hb66 => ?_)
    · replace h := cond_t hb66 h
      refine WC_seqK fun K67 hK67 => ?_
      refine WC_region ?_
      refine T0_q (v := (.int .i64 0)) rfl (yl_assign rfl) ?_
      refine T0_q (v := (.int .i64 6)) rfl (yl_assign rfl) ?_
      refine T0_nil ?_
      refine hK67 _ _ ?_
      refine WC_ret ?_
      replace h := some_out h
      subst h
      exact ⟨[(.int .i64 0), (.int .i64 6)], ⟨rfl, rfl, trivial⟩, e65, rfl⟩
    · replace h := cond_f hb66 h
      refine WC_skip ?_
      refine hK48 _ _ ?_
      refine WC_seqK fun K68 hK68 => ?_
      refine WC_region ?_
      refine T0_q (v := (.int .i64 p_place)) rfl (yl_move rfl) ?_
      refine T0_q (v := (.pointer (some ⟨b5, 4, none⟩))) rfl (yl_fa 4 Tryd.underlying24 rfl rfl ⟨0, sz3⟩ rfl rfl) ?_
      refine T0_q (v := (.int .i64 p_t.First)) rfl (yl_load sc3 rfl (At.drop (Box.at (h41.ext e63)) 4)) ?_
      refine T0_q (v := (.int .i64 (w64 (p_place - p_t.First)))) rfl (yl_sub rfl rfl) ?_
      refine T0_q (v := (.pointer (some ⟨b5, 2, none⟩))) rfl (yl_fa 2 Tryd.underlying24 rfl rfl ⟨0, sz3⟩ rfl rfl) ?_
      refine T0_q (v := (.int .i64 p_t.Tooth)) rfl (yl_load sc3 rfl (At.drop (Box.at (h41.ext e63)) 2)) ?_
      obtain ⟨q69, hq70, h⟩ := bind_elim h
      refine T0_q (v := (.int .i64 q69)) rfl (yl_quo' hq70 rfl rfl) ?_
      refine T0_q (v := (.int .i64 q69)) rfl (yl_assign rfl) ?_
      refine T0_q (v := (.int .i64 0)) rfl (yl_assign rfl) ?_
      refine T0_nil ?_
      refine hK68 _ _ ?_
      refine WC_ret ?_
      replace h := some_out h
      subst h
      exact ⟨[(.int .i64 q69), (.int .i64 0)], ⟨rfl, rfl, trivial⟩, e65, rfl⟩

noncomputable def locate_PlacesOf_spec (p_t : LocateTrack) (p_tooth : Int) : Option (Range × Int) :=
  (Option.bind (locate_open_spec p_t) fun r24 =>
  (bif (!decide (r24.2 = 0)) then (
    some ((Range.mk 0 0), r24.2)
  ) else (
    (Option.bind (locate_track_teeth_spec (locate_track.mk (LocateTrack.mk r24.1.LocateTrack.Vanes r24.1.LocateTrack.Window r24.1.LocateTrack.Tooth r24.1.LocateTrack.PerVane r24.1.LocateTrack.First r24.1.LocateTrack.Modulus r24.1.LocateTrack.Slack r24.1.LocateTrack.Errors r24.1.LocateTrack.Round))) fun r71 =>
    (Option.bind (locate_within_spec p_tooth 0 (w64 (r71 - 1))) fun r76 =>
    (bif (!r76) then (
      some ((Range.mk 0 0), 6)
    ) else (
      (Option.bind (locate_track_places_spec (locate_track.mk (LocateTrack.mk r24.1.LocateTrack.Vanes r24.1.LocateTrack.Window r24.1.LocateTrack.Tooth r24.1.LocateTrack.PerVane r24.1.LocateTrack.First r24.1.LocateTrack.Modulus r24.1.LocateTrack.Slack r24.1.LocateTrack.Errors r24.1.LocateTrack.Round)) p_tooth p_tooth) fun r93 =>
      some (r93, 0)
      )
    ))
    )
    )
  ))
  )
theorem locate_PlacesOf_ok (L : List Value) (w : World) (hL : LtL L w) (cs_p_t : List Value) (p_t : LocateTrack) (h_p_t : Rep.rd L w cs_p_t p_t) (p_tooth : Int) (r : Range × Int) (h : locate_PlacesOf_spec p_t p_tooth = some r) :
    CallsTo Tryd.prog 53 [(.agg cs_p_t.toArray), (.int .i64 p_tooth)] w (fun v w' => Ext w w' ∧ ∃ (cs0 : List Value), (.tuple #[(.agg cs0.toArray), (.int .i64 r.2)]) = v ∧ Rep.rd L w' cs0 r.1) := by
  have e0 : Ext w w := Chg.refl _ _
  obtain ⟨v1, h2, rfl⟩ := h_p_t
  refine callsTo_of_WC (n := 28) (rs := [.cell 4 36, .tmp 5]) Tryd.func53 rfl rfl rfl rfl rfl ?_
  refine WC_seqK fun K4 hK4 => ?_
  refine WC_region ?_
  refine T0_e rfl (eff_boxC (cs := [v1, (.int .i64 p_t.Window), (.int .i64 p_t.Tooth), (.int .i64 p_t.PerVane), (.int .i64 p_t.First), (.int .i64 p_t.Modulus), (.int .i64 p_t.Slack), (.int .i64 p_t.Errors), (.bool p_t.Round)]) rfl rfl ?_)
  intro b5 wd6 hb7 he8 hB9
  have hbf10 := bfresh e0 hb7
  have e11 := e0.trans he8
  refine T0_e rfl (eff_allocZ zi36 ?_)
  intro b13 wd14 hb15 he16 hB17
  have hn18 : b13 ≠ b5 := box_ne hB9 hb15
  have hbf19 := bfresh e11 hb15
  have h20 := (h2.ext he8).step (add_box he16 hb15)
  have e21 := e11.trans he16
  refine T0_q (v := (.int .i64 0)) rfl (yl_assign rfl) ?_
  refine T0_nil ?_
  refine hK4 _ _ ?_
  refine WC_seqK fun K23 hK23 => ?_
  refine WC_region ?_
  refine T0_q (v := (.agg (List.toArray [v1, (.int .i64 p_t.Window), (.int .i64 p_t.Tooth), (.int .i64 p_t.PerVane), (.int .i64 p_t.First), (.int .i64 p_t.Modulus), (.int .i64 p_t.Slack), (.int .i64 p_t.Errors), (.bool p_t.Round)]))) rfl (yl_loadA (cs := [v1, (.int .i64 p_t.Window), (.int .i64 p_t.Tooth), (.int .i64 p_t.PerVane), (.int .i64 p_t.First), (.int .i64 p_t.Modulus), (.int .i64 p_t.Slack), (.int .i64 p_t.Errors), (.bool p_t.Round)]) ag24 rfl (Box.at (hB9.ext he16))) ?_
  obtain ⟨r24, hr25, h⟩ := bind_elim h
  refine T0_e rfl (eff_call Tryd.func103 nm103 rfl (ev1 rfl) (locate_open_ok ((.pointer (some ⟨b13, 0, none⟩)) :: L) _ (ltl_box (hL.chg e21) hB17) [v1, (.int .i64 p_t.Window), (.int .i64 p_t.Tooth), (.int .i64 p_t.PerVane), (.int .i64 p_t.First), (.int .i64 p_t.Modulus), (.int .i64 p_t.Slack), (.int .i64 p_t.Errors), (.bool p_t.Round)] p_t ⟨v1, h20, rfl⟩ r24 hr25) ?_)
  rintro _ wd26 ⟨he27, cs30, rfl, hrd31⟩
  have e32 := he16.trans he27
  have e33 := e21.trans he27
  obtain ⟨v28, h29, rfl⟩ := hrd31
  refine T0_q (v := (.tuple #[(.agg (List.toArray [v28, (.int .i64 r24.1.LocateTrack.Window), (.int .i64 r24.1.LocateTrack.Tooth), (.int .i64 r24.1.LocateTrack.PerVane), (.int .i64 r24.1.LocateTrack.First), (.int .i64 r24.1.LocateTrack.Modulus), (.int .i64 r24.1.LocateTrack.Slack), (.int .i64 r24.1.LocateTrack.Errors), (.bool r24.1.LocateTrack.Round)])), (.int .i64 r24.2)])) rfl (yl_move rfl) ?_
  refine T0_q (v := (.agg (List.toArray [v28, (.int .i64 r24.1.LocateTrack.Window), (.int .i64 r24.1.LocateTrack.Tooth), (.int .i64 r24.1.LocateTrack.PerVane), (.int .i64 r24.1.LocateTrack.First), (.int .i64 r24.1.LocateTrack.Modulus), (.int .i64 r24.1.LocateTrack.Slack), (.int .i64 r24.1.LocateTrack.Errors), (.bool r24.1.LocateTrack.Round)]))) rfl (yl_extract rfl rfl) ?_
  refine T0_q (v := (.int .i64 r24.2)) rfl (yl_extract rfl rfl) ?_
  refine T0_e rfl (eff_allocZ zi130 ?_)
  intro b35 wd36 hb37 he38 hB39
  have hn40 : b35 ≠ b5 := box_ne (hB9.ext e32) hb37
  have hn41 : b35 ≠ b13 := box_ne (hB17.ext he27) hb37
  have hbf42 := bfresh e33 hb37
  have h43 := (h20.ext he27).step (add_box he38 hb37)
  have h44 := h29.step (add_box he38 hb37)
  have e45 := he27.trans he38
  have e46 := e32.trans he38
  have e47 := e33.trans he38
  refine T0_e rfl (eff_storeC (vs := [v28, (.int .i64 r24.1.LocateTrack.Window), (.int .i64 r24.1.LocateTrack.Tooth), (.int .i64 r24.1.LocateTrack.PerVane), (.int .i64 r24.1.LocateTrack.First), (.int .i64 r24.1.LocateTrack.Modulus), (.int .i64 r24.1.LocateTrack.Slack), (.int .i64 r24.1.LocateTrack.Errors), (.bool r24.1.LocateTrack.Round)]) (cs' := [v28, (.int .i64 r24.1.LocateTrack.Window), (.int .i64 r24.1.LocateTrack.Tooth), (.int .i64 r24.1.LocateTrack.PerVane), (.int .i64 r24.1.LocateTrack.First), (.int .i64 r24.1.LocateTrack.Modulus), (.int .i64 r24.1.LocateTrack.Slack), (.int .i64 r24.1.LocateTrack.Errors), (.bool r24.1.LocateTrack.Round)]) sz130 rfl rfl rfl rfl hB39 rfl (oc_cons h44.one1 (oc_cons rfl (oc_cons rfl (oc_cons rfl (oc_cons rfl (oc_cons rfl (oc_cons rfl (oc_cons rfl (oc_cons rfl oc_nil))))))))) rfl ?_)
  intro wd49 hc50 hB51
  have h52 := h43.step (Stepp.chg_mem hc50 mem0)
  have h53 := (hB9.ext e46).chg hc50 (avoidb hn40)
  have h54 := (hB17.ext e45).chg hc50 (avoidb hn41)
  have h55 := h44.step (Stepp.chg_mem hc50 mem0)
  have e56 := chg_box e47 hc50 hbf42
  refine T0_q (v := (.int .i64 r24.2)) rfl (yl_assign rfl) ?_
  refine T0_nil ?_
  refine hK23 _ _ ?_
  refine WC_seqK fun K57 hK57 => ?_
  refine WC_seqK fun K58 hK58 => ?_
  refine WC_region ?_
  refine T0_q (v := (.int .i64 r24.2)) rfl (yl_move rfl) ?_
  refine T0_q (v := (.bool (!decide (r24.2 = 0)))) rfl (yl_neq rfl rfl) ?_
  refine T0_nil ?_
  refine hK58 _ _ ?_
  refine WC_cond (b := (!decide (r24.2 = 0))) rfl (fun hb59 => ?_) (fun hb59 => ?_)
  · replace h := cond_t hb59 h
    refine WC_seqK fun K60 hK60 => ?_
    refine WC_region ?_
    refine T0_q (v := (.agg (List.toArray [(.int .i64 0), (.int .i64 0)]))) rfl (yl_buildC (cells := [(.int .i64 0), (.int .i64 0)]) bi36 pc_nil rfl) ?_
    refine T0_q (v := (.int .i64 r24.2)) rfl (yl_move rfl) ?_
    refine T0_e rfl (eff_storeC (vs := [(.int .i64 0), (.int .i64 0)]) (cs' := [(.int .i64 0), (.int .i64 0)]) sz36 rfl rfl rfl rfl h54 rfl (oc_cons rfl (oc_cons rfl oc_nil)) rfl ?_)
    intro wd61 hc62 hB63
    have h64 := h52.step (Stepp.chg_mem hc62 (memS mem0))
    have h65 := h53.chg hc62 (avoidb hn18)
    have h66 := h55.step (Stepp.chg_mem hc62 (memS mem0))
    have h67 := hB51.chg hc62 (avoidb hn41.symm)
    have e68 := chg_box e56 hc62 hbf19
    refine T0_q (v := (.int .i64 r24.2)) rfl (yl_assign rfl) ?_
    refine T0_nil ?_
    refine hK60 _ _ ?_
    refine WC_ret ?_
    replace h := some_out h
    subst h
    exact ⟨[(.agg (List.toArray [(.int .i64 0), (.int .i64 0)])), (.int .i64 r24.2)], ⟨⟨_, rfl, run_loadVarA (cs := [(.int .i64 0), (.int .i64 0)]) ag36 (Box.at hB63)⟩, rfl, trivial⟩, e68, [(.int .i64 0), (.int .i64 0)], rfl, rfl⟩
  · replace h := cond_f hb59 h
    refine WC_skip ?_
    refine hK57 _ _ ?_
    refine WC_seqK fun K69 hK69 => ?_
    refine WC_seqK fun K70 hK70 => ?_
    refine WC_region ?_
    refine T0_q (v := (.int .i64 p_tooth)) rfl (yl_move rfl) ?_
    refine T0_q (v := (.agg (List.toArray [v28, (.int .i64 r24.1.LocateTrack.Window), (.int .i64 r24.1.LocateTrack.Tooth), (.int .i64 r24.1.LocateTrack.PerVane), (.int .i64 r24.1.LocateTrack.First), (.int .i64 r24.1.LocateTrack.Modulus), (.int .i64 r24.1.LocateTrack.Slack), (.int .i64 r24.1.LocateTrack.Errors), (.bool r24.1.LocateTrack.Round)]))) rfl (yl_loadA (cs := [v28, (.int .i64 r24.1.LocateTrack.Window), (.int .i64 r24.1.LocateTrack.Tooth), (.int .i64 r24.1.LocateTrack.PerVane), (.int .i64 r24.1.LocateTrack.First), (.int .i64 r24.1.LocateTrack.Modulus), (.int .i64 r24.1.LocateTrack.Slack), (.int .i64 r24.1.LocateTrack.Errors), (.bool r24.1.LocateTrack.Round)]) ag130 rfl (Box.at hB51)) ?_
    obtain ⟨r71, hr72, h⟩ := bind_elim h
    refine T0_e rfl (eff_call Tryd.func102 nm102 rfl (ev1 rfl) (locate_track_teeth_ok [] _ (LtL.nil _) [v28, (.int .i64 r24.1.LocateTrack.Window), (.int .i64 r24.1.LocateTrack.Tooth), (.int .i64 r24.1.LocateTrack.PerVane), (.int .i64 r24.1.LocateTrack.First), (.int .i64 r24.1.LocateTrack.Modulus), (.int .i64 r24.1.LocateTrack.Slack), (.int .i64 r24.1.LocateTrack.Errors), (.bool r24.1.LocateTrack.Round)] (locate_track.mk (LocateTrack.mk r24.1.LocateTrack.Vanes r24.1.LocateTrack.Window r24.1.LocateTrack.Tooth r24.1.LocateTrack.PerVane r24.1.LocateTrack.First r24.1.LocateTrack.Modulus r24.1.LocateTrack.Slack r24.1.LocateTrack.Errors r24.1.LocateTrack.Round)) ⟨v28, (h55.sub (fun _ h => by cases h)), rfl⟩ r71 hr72) ?_)
    rintro _ wd73 ⟨he74, rfl⟩
    have e75 := e56.trans he74
    refine T0_q (v := (.int .i64 (w64 (r71 - 1)))) rfl (yl_sub rfl rfl) ?_
    obtain ⟨r76, hr77, h⟩ := bind_elim h
    refine T0_e rfl (eff_call Tryd.func86 nm86 rfl (ev3 rfl rfl rfl) (locate_within_ok [] _ (LtL.nil _) p_tooth 0 (w64 (r71 - 1)) r76 hr77) ?_)
    rintro _ wd78 ⟨he79, rfl⟩
    have e80 := he74.trans he79
    have e81 := e75.trans he79
    refine T0_q (v := (.bool (!r76))) rfl (yl_not rfl) ?_
    refine T0_nil ?_
    refine hK70 _ _ ?_
    refine WC_cond (b := (!r76)) rfl (fun hb82 => ?_) (fun hb82 => ?_)
    · replace h := cond_t hb82 h
      refine WC_seqK fun K83 hK83 => ?_
      refine WC_region ?_
      refine T0_q (v := (.agg (List.toArray [(.int .i64 0), (.int .i64 0)]))) rfl (yl_buildC (cells := [(.int .i64 0), (.int .i64 0)]) bi36 pc_nil rfl) ?_
      refine T0_e rfl (eff_storeC (vs := [(.int .i64 0), (.int .i64 0)]) (cs' := [(.int .i64 0), (.int .i64 0)]) sz36 rfl rfl rfl rfl (h54.ext e80) rfl (oc_cons rfl (oc_cons rfl oc_nil)) rfl ?_)
      intro wd84 hc85 hB86
      have h87 := (h52.ext e80).step (Stepp.chg_mem hc85 (memS mem0))
      have h88 := (h53.ext e80).chg hc85 (avoidb hn18)
      have h89 := (h55.ext e80).step (Stepp.chg_mem hc85 (memS mem0))
      have h90 := (hB51.ext e80).chg hc85 (avoidb hn41.symm)
      have e91 := chg_box e81 hc85 hbf19
      refine T0_q (v := (.int .i64 6)) rfl (yl_assign rfl) ?_
      refine T0_nil ?_
      refine hK83 _ _ ?_
      refine WC_ret ?_
      replace h := some_out h
      subst h
      exact ⟨[(.agg (List.toArray [(.int .i64 0), (.int .i64 0)])), (.int .i64 6)], ⟨⟨_, rfl, run_loadVarA (cs := [(.int .i64 0), (.int .i64 0)]) ag36 (Box.at hB86)⟩, rfl, trivial⟩, e91, [(.int .i64 0), (.int .i64 0)], rfl, rfl⟩
    · replace h := cond_f hb82 h
      refine WC_skip ?_
      refine hK69 _ _ ?_
      refine WC_seqK fun K92 hK92 => ?_
      refine WC_region ?_
      refine T0_q (v := (.agg (List.toArray [v28, (.int .i64 r24.1.LocateTrack.Window), (.int .i64 r24.1.LocateTrack.Tooth), (.int .i64 r24.1.LocateTrack.PerVane), (.int .i64 r24.1.LocateTrack.First), (.int .i64 r24.1.LocateTrack.Modulus), (.int .i64 r24.1.LocateTrack.Slack), (.int .i64 r24.1.LocateTrack.Errors), (.bool r24.1.LocateTrack.Round)]))) rfl (yl_loadA (cs := [v28, (.int .i64 r24.1.LocateTrack.Window), (.int .i64 r24.1.LocateTrack.Tooth), (.int .i64 r24.1.LocateTrack.PerVane), (.int .i64 r24.1.LocateTrack.First), (.int .i64 r24.1.LocateTrack.Modulus), (.int .i64 r24.1.LocateTrack.Slack), (.int .i64 r24.1.LocateTrack.Errors), (.bool r24.1.LocateTrack.Round)]) ag130 rfl (Box.at (hB51.ext e80))) ?_
      refine T0_q (v := (.int .i64 p_tooth)) rfl (yl_move rfl) ?_
      refine T0_q (v := (.int .i64 p_tooth)) rfl (yl_move rfl) ?_
      obtain ⟨r93, hr94, h⟩ := bind_elim h
      refine T0_e rfl (eff_call Tryd.func88 nm88 rfl (ev3 rfl rfl rfl) (locate_track_places_ok [] _ (LtL.nil _) [v28, (.int .i64 r24.1.LocateTrack.Window), (.int .i64 r24.1.LocateTrack.Tooth), (.int .i64 r24.1.LocateTrack.PerVane), (.int .i64 r24.1.LocateTrack.First), (.int .i64 r24.1.LocateTrack.Modulus), (.int .i64 r24.1.LocateTrack.Slack), (.int .i64 r24.1.LocateTrack.Errors), (.bool r24.1.LocateTrack.Round)] (locate_track.mk (LocateTrack.mk r24.1.LocateTrack.Vanes r24.1.LocateTrack.Window r24.1.LocateTrack.Tooth r24.1.LocateTrack.PerVane r24.1.LocateTrack.First r24.1.LocateTrack.Modulus r24.1.LocateTrack.Slack r24.1.LocateTrack.Errors r24.1.LocateTrack.Round)) ⟨v28, ((h55.ext e80).sub (fun _ h => by cases h)), rfl⟩ p_tooth p_tooth r93 hr94) ?_)
      rintro _ wd95 ⟨he96, cs97, rfl, hrd98⟩
      have e99 := e80.trans he96
      have e100 := e81.trans he96
      have hrd98 : cs97 = [(.int .i64 r93.Lo), (.int .i64 r93.Hi)] := hrd98
      subst hrd98
      refine T0_e rfl (eff_storeC (vs := [(.int .i64 r93.Lo), (.int .i64 r93.Hi)]) (cs' := [(.int .i64 r93.Lo), (.int .i64 r93.Hi)]) sz36 rfl rfl rfl rfl (h54.ext e99) rfl (oc_cons rfl (oc_cons rfl oc_nil)) rfl ?_)
      intro wd101 hc102 hB103
      have h104 := (h52.ext e99).step (Stepp.chg_mem hc102 (memS mem0))
      have h105 := (h53.ext e99).chg hc102 (avoidb hn18)
      have h106 := (h55.ext e99).step (Stepp.chg_mem hc102 (memS mem0))
      have h107 := (hB51.ext e99).chg hc102 (avoidb hn41.symm)
      have e108 := chg_box e100 hc102 hbf19
      refine T0_q (v := (.int .i64 0)) rfl (yl_assign rfl) ?_
      refine T0_nil ?_
      refine hK92 _ _ ?_
      refine WC_ret ?_
      replace h := some_out h
      subst h
      exact ⟨[(.agg (List.toArray [(.int .i64 r93.Lo), (.int .i64 r93.Hi)])), (.int .i64 0)], ⟨⟨_, rfl, run_loadVarA (cs := [(.int .i64 r93.Lo), (.int .i64 r93.Hi)]) ag36 (Box.at hB103)⟩, rfl, trivial⟩, e108, [(.int .i64 r93.Lo), (.int .i64 r93.Hi)], rfl, rfl⟩

end Go.Gw
