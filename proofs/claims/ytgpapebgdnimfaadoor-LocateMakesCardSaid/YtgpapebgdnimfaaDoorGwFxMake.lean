/- What functions come to, printed by a program of this work. No condition. -/
import Derived.Test.YtgpapebgdnimfaaDoorGwFnC
import Derived.Test.YtgpapebgdnimfaaDoorGwLib12
import Derived.Test.YtgpapebgdnimfaaDoorGwFacts2
set_option maxRecDepth 4096
set_option maxHeartbeats 1000000
set_option linter.unusedVariables false
namespace Go.Gw
open Go Go.Proofs
attribute [local irreducible] T0 TS TT TP Eff Stp WC Quiet gd
noncomputable def ref04_MadeErr_spec (p_length : Int) (p_window : Int) (p_distance : Int) : Option Int :=
  (Option.bind (base_Within_spec p_length 1 14) fun r4 =>
  (Option.bind (bif (!(!r4)) then base_Within_spec p_window 1 12 else some default) fun r9 =>
  (Option.bind (bif (!((!r4) || (!r9))) then base_Within_spec p_distance 0 12 else some default) fun r14 =>
  (bif (((!r4) || (!r9)) || (!r14)) then (
    some 2
  ) else (
    (bif (decide (p_length < p_window)) then (
      some 10
    ) else (
      some 0
    ))
  ))
  )
  )
  )
theorem ref04_MadeErr_ok (L : List Value) (w : World) (hL : LtL L w) (p_length : Int) (p_window : Int) (p_distance : Int) (r : Int) (h : ref04_MadeErr_spec p_length p_window p_distance = some r) :
    CallsTo Tryd.prog 80 [(.int .i64 p_length), (.int .i64 p_window), (.int .i64 p_distance)] w (fun v w' => Ext w w' ∧ (.int .i64 r) = v) := by
  have e0 : Ext w w := Chg.refl _ _
  refine callsTo_of_WC (n := 23) (rs := [.tmp 6]) Tryd.func80 rfl rfl rfl rfl rfl ?_
  refine WC_seqK fun K1 hK1 => ?_
  refine WC_region ?_
  refine T0_q (v := (.int .i64 0)) rfl (yl_assign rfl) ?_
  refine T0_nil ?_
  refine hK1 _ _ ?_
  refine WC_seqK fun K2 hK2 => ?_
  refine WC_seqK fun K3 hK3 => ?_
  refine WC_region ?_
  refine T0_q (v := (.int .i64 p_length)) rfl (yl_move rfl) ?_
  obtain ⟨r4, hr5, h⟩ := bind_elim h
  refine T0_e rfl (eff_call Tryd.func35 nm35 rfl (ev3 rfl rfl rfl) (base_Within_ok [] _ (LtL.nil _) p_length 1 14 r4 hr5) ?_)
  rintro _ wd6 ⟨he7, rfl⟩
  have e8 := e0.trans he7
  refine T0_q (v := (.bool (!r4))) rfl (yl_not rfl) ?_
  refine T0_q (v := (.bool (!r4))) rfl (yl_move rfl) ?_
  refine T0_g (v := (.int .i64 p_window)) (!(!r4)) (wanted_f rfl rfl rfl rfl) (fun hg => (yl_move rfl)) ?_
  obtain ⟨r9, hr10, h⟩ := bind_elim h
  refine T0_ges (!(!r4)) (.bool r9) (wanted_f rfl rfl rfl rfl) (fun hg => eff_call Tryd.func35 nm35 rfl (ev3 (gd_true hg) rfl rfl) (base_Within_ok [] _ (LtL.nil _) p_window 1 12 r9 (cond_t hg hr10)) (by rintro _ wd11 ⟨he12, rfl⟩; exact ⟨rfl, he12⟩)) ?_
  intro wd11 he12
  have e13 := e8.trans he12
  refine T0_g (v := (.bool (!r9))) (!(!r4)) (wanted_f rfl rfl rfl rfl) (fun hg => (yl_not (gd_true hg))) ?_
  refine T0_q (v := (.bool ((!r4) || (!r9)))) rfl (yl_or rfl rfl (fun hb => (gd_true (not_t hb)))) ?_
  refine T0_q (v := (.bool ((!r4) || (!r9)))) rfl (yl_move rfl) ?_
  refine T0_g (v := (.int .i64 p_distance)) (!((!r4) || (!r9))) (wanted_f rfl rfl rfl rfl) (fun hg => (yl_move rfl)) ?_
  obtain ⟨r14, hr15, h⟩ := bind_elim h
  refine T0_ges (!((!r4) || (!r9))) (.bool r14) (wanted_f rfl rfl rfl rfl) (fun hg => eff_call Tryd.func35 nm35 rfl (ev3 (gd_true hg) rfl rfl) (base_Within_ok [] _ (LtL.nil _) p_distance 0 12 r14 (cond_t hg hr15)) (by rintro _ wd16 ⟨he17, rfl⟩; exact ⟨rfl, he17⟩)) ?_
  intro wd16 he17
  have e18 := e13.trans he17
  refine T0_g (v := (.bool (!r14))) (!((!r4) || (!r9))) (wanted_f rfl rfl rfl rfl) (fun hg => (yl_not (gd_true hg))) ?_
  refine T0_q (v := (.bool (((!r4) || (!r9)) || (!r14)))) rfl (yl_or rfl rfl (fun hb => (gd_true (not_t hb)))) ?_
  refine T0_nil ?_
  refine hK3 _ _ ?_
  refine WC_cond (b := (((!r4) || (!r9)) || (!r14))) rfl (fun hb19 => ?_) (fun hb19 => ?_)
  · replace h := cond_t hb19 h
    refine WC_seqK fun K20 hK20 => ?_
    refine WC_region ?_
    refine T0_q (v := (.int .i64 2)) rfl (yl_assign rfl) ?_
    refine T0_nil ?_
    refine hK20 _ _ ?_
    refine WC_ret ?_
    replace h := some_out h
    subst h
    exact ⟨[(.int .i64 2)], ⟨rfl, trivial⟩, e18, rfl⟩
  · replace h := cond_f hb19 h
    refine WC_skip ?_
    refine hK2 _ _ ?_
    refine WC_seqK fun K21 hK21 => ?_
    refine WC_seqK fun K22 hK22 => ?_
    refine WC_region ?_
    refine T0_q (v := (.int .i64 p_length)) rfl (yl_move rfl) ?_
    refine T0_q (v := (.int .i64 p_window)) rfl (yl_move rfl) ?_
    refine T0_q (v := (.bool (decide (p_length < p_window)))) rfl (yl_lss rfl rfl) ?_
    refine T0_nil ?_
    refine hK22 _ _ ?_
    refine WC_cond (b := (decide (p_length < p_window))) rfl (fun hb23 => ?_) (fun hb23 => ?_)
    · replace h := cond_t hb23 h
      refine WC_seqK fun K24 hK24 => ?_
      refine WC_region ?_
      refine T0_q (v := (.int .i64 10)) rfl (yl_assign rfl) ?_
      refine T0_nil ?_
      refine hK24 _ _ ?_
      refine WC_ret ?_
      replace h := some_out h
      subst h
      exact ⟨[(.int .i64 10)], ⟨rfl, trivial⟩, e18, rfl⟩
    · replace h := cond_f hb23 h
      refine WC_skip ?_
      refine hK21 _ _ ?_
      refine WC_seqK fun K25 hK25 => ?_
      refine WC_region ?_
      refine T0_q (v := (.int .i64 0)) rfl (yl_assign rfl) ?_
      refine T0_nil ?_
      refine hK25 _ _ ?_
      refine WC_ret ?_
      replace h := some_out h
      subst h
      exact ⟨[(.int .i64 0)], ⟨rfl, trivial⟩, e18, rfl⟩

noncomputable def base_BitsOf_s0 : (Int × (List Int) × Int) → Option ((Int × (List Int) × Int) ⊕ ((List Int))) := fun (x96, x100, x105) =>
  (bif (decide (0 ≤ x105)) then (
    (Option.bind (idx x100 x105) fun el129 =>
    some (.inl (w64 (Int.tdiv x96 2), (x100.set (x105 : Int).toNat (Int.tmod x96 2)), w64 (x105 - 1)))
    )
  ) else (
    some (.inr x100)
  ))
noncomputable def base_BitsOf_spec (p_n : Int) (p_count : Int) : Option (List Int) :=
  (Option.bind (mk p_count (0 : Int)) fun mk3 =>
  (Option.bind (loop base_BitsOf_s0 (p_n, mk3, w64 (p_count - 1))) fun (x111 : (List Int)) =>
  some x111
  )
  )
theorem base_BitsOf_ok (L : List Value) (w : World) (hL : LtL L w) (p_n : Int) (p_count : Int) (r : (List Int)) (h : base_BitsOf_spec p_n p_count = some r) :
    CallsTo Tryd.prog 120 [(.int .i64 p_n), (.int .i64 p_count)] w (fun v w' => Ext w w' ∧ ∃ (v0 : Value), v0 = v ∧ SlRd L w' v0 r) := by
  have e0 : Ext w w := Chg.refl _ _
  refine callsTo_of_WC (n := 23) (rs := [.tmp 4]) Tryd.func120 rfl rfl rfl rfl rfl ?_
  refine WC_seqK fun K1 hK1 => ?_
  refine WC_region ?_
  refine T0_q (v := (.slice none 0 0)) rfl (yl_assign rfl) ?_
  refine T0_nil ?_
  refine hK1 _ _ ?_
  refine WC_seqK fun K2 hK2 => ?_
  refine WC_region ?_
  refine T0_q (v := (.int .i64 p_count)) rfl (yl_move rfl) ?_
  obtain ⟨mk3, hm4, h⟩ := bind_elim h
  refine T0_e rfl (eff_makeO (L := L) rfl Tryd.underlying22 ei3 rfl rfl (fun _ _ => rfl) rfl rfl hm4 ?_)
  intro v5 wd6 he7 hf8 h9
  have hf11 : ∀ b, blk v5 = some b → w.heap.size ≤ b := fun b hb => Nat.le_trans e0.size (hf8 b hb)
  have e12 := e0.trans he7
  refine T0_q (v := v5) rfl (yl_assign rfl) ?_
  refine T0_nil ?_
  refine hK2 _ _ ?_
  refine WC_seqK fun K14 hK14 => ?_
  refine WC_seqK fun K15 hK15 => ?_
  refine WC_region ?_
  refine T0_q (v := (.int .i64 p_count)) rfl (yl_move rfl) ?_
  refine T0_q (v := (.int .i64 (w64 (p_count - 1)))) rfl (yl_sub rfl rfl) ?_
  refine T0_q (v := (.int .i64 (w64 (p_count - 1)))) rfl (yl_assign rfl) ?_
  refine T0_nil ?_
  refine hK15 _ _ ?_
  obtain ⟨o116, hl117, hn118⟩ := bind_elim h
  refine WC_post (fun (ρ : Env) (wd107 : World) => ∃ (x111 : (List Int)) (v110 : Value), x111 = o116 ∧ ρ 5 = v110 ∧ Own 3 (v110 :: L) wd107 v110 x111 ∧ (∀ b, blk v110 = some b → w.heap.size ≤ b) ∧ Ext w wd107) ?_ ?_
  · intro K122 hK122
    refine WC_block ?_
    refine WC_loopk (fun sv ρ wd94 => ∃ (x96 : Int) (x100 : (List Int)) (x105 : Int) (v99 : Value), (x96, x100, x105) = sv ∧ ρ 0 = (.int .i64 x96) ∧ ρ 5 = v99 ∧ ρ 6 = (.int .i64 x105) ∧ Own 3 (v99 :: L) wd94 v99 x100 ∧ (∀ b, blk v99 = some b → w.heap.size ≤ b) ∧ Ext w wd94) hl117 ⟨p_n, mk3, w64 (p_count - 1), v5, rfl, rfl, rfl, rfl, h9, hf11, e12⟩ ?_
    rintro _ ρ wd94 ⟨x96, x100, x105, v99, rfl, hs97, hs104, hs106, h102, hf103, e95⟩ x119 h hx120 K121 hK121
    refine WC_seqK fun K124 hK124 => ?_
    refine WC_seqK fun K125 hK125 => ?_
    refine WC_region ?_
    refine T0_q (v := (.int .i64 x105)) rfl (yl_move hs106) ?_
    refine T0_q (v := (.bool (decide (0 ≤ x105)))) rfl (yl_geq rfl rfl) ?_
    refine T0_nil ?_
    refine hK125 _ _ ?_
    refine WC_cond (b := (decide (0 ≤ x105))) rfl (fun hb126 => ?_) (fun hb126 => ?_)
    · replace h := cond_t hb126 h
      refine WC_skip ?_
      refine hK124 _ _ ?_
      refine WC_seqK fun K127 hK127 => ?_
      refine WC_block ?_
      refine WC_seqK fun K128 hK128 => ?_
      refine WC_region ?_
      refine T0_q (v := v99) rfl (yl_move hs104) ?_
      refine T0_q (v := (.int .i64 x105)) rfl (yl_move hs106) ?_
      refine T0_q (v := (.int .i64 x96)) rfl (yl_move hs97) ?_
      refine T0_q (v := (.int .i64 (Int.tmod x96 2))) rfl (yl_rem (by decide) rfl rfl) ?_
      obtain ⟨el129, hel130, h⟩ := bind_elim h
      obtain ⟨cs131, hat132, hrd133⟩ := Own.at h102 hel130
      have hrd133 : cs131 = [(.int .i64 el129)] := hrd133
      subst hrd133
      refine T0_q (v := (.pointer (some (elemAddr v99 (x105 : Int).toNat 1)))) rfl (yl_indexAddrO Tryd.underlying22 sz3 h102 hel130 rfl rfl) ?_
      refine T0_e rfl (eff_storeOC (vs := [(.int .i64 (Int.tmod x96 2))]) (off := 0) (y' := (Int.tmod x96 2)) sz3 rfl rfl h102 mem0 hel130 rfl rfl rfl (oc_cons rfl oc_nil) (fun w' cs hcs => by have hcs : cs = [(.int .i64 el129)] := hcs; subst hcs; rfl) ?_)
      intro wd135 hc136 hB137
      have e138 := chg_own e95 hc136 hf103
      refine T0_nil ?_
      refine hK128 _ _ ?_
      refine WC_region ?_
      refine T0_q (v := (.int .i64 x96)) rfl (yl_move hs97) ?_
      refine T0_q (v := (.int .i64 (w64 (Int.tdiv x96 2)))) rfl (yl_quo (by decide) rfl rfl) ?_
      refine T0_q (v := (.int .i64 (w64 (Int.tdiv x96 2)))) rfl (yl_assign rfl) ?_
      refine T0_nil ?_
      refine hK127 _ _ ?_
      refine WC_region ?_
      refine T0_q (v := (.int .i64 x105)) rfl (yl_move hs106) ?_
      refine T0_q (v := (.int .i64 (w64 (x105 - 1)))) rfl (yl_sub rfl rfl) ?_
      refine T0_q (v := (.int .i64 (w64 (x105 - 1)))) rfl (yl_assign rfl) ?_
      refine T0_nil ?_
      replace h := some_out h
      subst h
      refine hK121 _ _ _ rfl ?_
      exact ⟨w64 (Int.tdiv x96 2), (x100.set (x105 : Int).toNat (Int.tmod x96 2)), w64 (x105 - 1), v99, rfl, rfl, hs104, rfl, hB137, hf103, e138⟩
    · replace h := cond_f hb126 h
      refine WC_exit ?_
      replace h := some_out h
      subst h
      have ho := hx120 _ rfl
      subst ho
      refine hK122 _ _ ?_
      exact ⟨x100, v99, rfl, hs104, h102, hf103, e95⟩
  · rintro ρ wd107 ⟨x111, v110, rfl, hs115, h113, hf114, e108⟩
    replace h := hn118
    refine hK14 _ _ ?_
    refine WC_seqK fun K139 hK139 => ?_
    refine WC_region ?_
    refine T0_q (v := v110) rfl (yl_move hs115) ?_
    refine T0_q (v := v110) rfl (yl_assign rfl) ?_
    refine T0_nil ?_
    refine hK139 _ _ ?_
    refine WC_ret ?_
    replace h := some_out h
    subst h
    exact ⟨[v110], ⟨rfl, trivial⟩, e108, v110, rfl, (h113.rdL (sub_skip (sub_refl _)) hL hf114)⟩

noncomputable def ref04_IsApart_s0 (p_distance : Int) (p_vanes : (List Int)) (p_window : Int) (x487 : Int) : (Int) → Option ((Int) ⊕ (((Int) ⊕ (Bool ⊕ (Unit))) ⊕ (Unit))) := fun x609 =>
  (bif (decide (w64 (x609 + p_window) ≤ (p_vanes.length : Int))) then (
    (Option.bind (cut p_vanes x487 (w64 (x487 + p_window))) fun ys634 =>
    (Option.bind (cut p_vanes x609 (w64 (x609 + p_window))) fun ys638 =>
    (Option.bind (ref04_Differ_spec ys634 ys638) fun r642 =>
    (bif (decide (r642 < p_distance)) then (
      some (.inr (.inl (.inr (.inl false))))
    ) else (
      some (.inl (w64 (x609 + 1)))
    ))
    )
    )
    )
  ) else (
    some (.inr (.inr ()))
  ))
noncomputable def ref04_IsApart_s1 (p_distance : Int) (p_vanes : (List Int)) (p_window : Int) : (Int) → Option ((Int) ⊕ (Bool ⊕ (Unit))) := fun x487 =>
  (bif (decide (w64 (x487 + p_window) ≤ (p_vanes.length : Int))) then (
    (Option.bind (loop (ref04_IsApart_s0 p_distance p_vanes p_window x487) (w64 (x487 + 1))) fun o618 => jn0 o618 fun (_ : Unit) =>
    some (.inl (w64 (x487 + 1)))
    )
  ) else (
    some (.inr (.inr ()))
  ))
noncomputable def ref04_IsApart_spec (p_vanes : (List Int)) (p_window : Int) (p_distance : Int) : Option Bool :=
  (Option.bind (loop (ref04_IsApart_s1 p_distance p_vanes p_window) 0) fun o491 => jn0 o491 fun (_ : Unit) =>
  some true
  )
theorem ref04_IsApart_ok (L : List Value) (w : World) (hL : LtL L w) (v_p_vanes : Value) (p_vanes : (List Int)) (h_p_vanes : SlRd L w v_p_vanes p_vanes) (p_window : Int) (p_distance : Int) (r : Bool) (h : ref04_IsApart_spec p_vanes p_window p_distance = some r) :
    CallsTo Tryd.prog 121 [v_p_vanes, (.int .i64 p_window), (.int .i64 p_distance)] w (fun v w' => Ext w w' ∧ (.bool r) = v) := by
  have e0 : Ext w w := Chg.refl _ _
  refine callsTo_of_WC (n := 42) (rs := [.tmp 6]) Tryd.func121 rfl rfl rfl rfl rfl ?_
  refine WC_seqK fun K2 hK2 => ?_
  refine WC_region ?_
  refine T0_q (v := (.bool false)) rfl (yl_assign rfl) ?_
  refine T0_nil ?_
  refine hK2 _ _ ?_
  refine WC_seqK fun K3 hK3 => ?_
  refine WC_seqK fun K4 hK4 => ?_
  refine WC_region ?_
  refine T0_q (v := (.int .i64 0)) rfl (yl_assign rfl) ?_
  refine T0_nil ?_
  refine hK4 _ _ ?_
  obtain ⟨o491, hl492, hn493⟩ := bind_elim h
  refine WC_post (fun (ρ : Env) (wd489 : World) => .inr () = o491 ∧ Ext w wd489) ?_ ?_
  · intro K497 hK497
    refine WC_block ?_
    refine WC_loopk (fun sv ρ wd481 => ∃ (x487 : Int), x487 = sv ∧ ρ 0 = v_p_vanes ∧ ρ 1 = (.int .i64 p_window) ∧ ρ 2 = (.int .i64 p_distance) ∧ ρ 7 = (.int .i64 x487) ∧ SlRd L wd481 v_p_vanes p_vanes ∧ Ext w wd481) hl492 ⟨0, rfl, rfl, rfl, rfl, rfl, h_p_vanes, e0⟩ ?_
    rintro _ ρ wd481 ⟨x487, rfl, hs484, hs485, hs486, hs488, h483, e482⟩ x494 h hx495 K496 hK496
    refine WC_seqK fun K499 hK499 => ?_
    refine WC_seqK fun K500 hK500 => ?_
    refine WC_region ?_
    refine T0_q (v := (.int .i64 x487)) rfl (yl_move hs488) ?_
    refine T0_q (v := (.int .i64 p_window)) rfl (yl_move hs485) ?_
    refine T0_q (v := (.int .i64 (w64 (x487 + p_window)))) rfl (yl_add rfl rfl) ?_
    refine T0_q (v := v_p_vanes) rfl (yl_move hs484) ?_
    refine T0_q (v := (.int .i64 (p_vanes.length : Int))) rfl (yl_lenR rfl Tryd.underlying22 h483 rfl) ?_
    refine T0_q (v := (.bool (decide (w64 (x487 + p_window) ≤ (p_vanes.length : Int))))) rfl (yl_leq rfl rfl) ?_
    refine T0_nil ?_
    refine hK500 _ _ ?_
    refine WC_cond (b := (decide (w64 (x487 + p_window) ≤ (p_vanes.length : Int)))) rfl (fun hb501 => ?_) (fun hb501 => ?_)
    · replace h := cond_t hb501 h
      refine WC_skip ?_
      refine hK499 _ _ ?_
      refine WC_seqK fun K502 hK502 => ?_
      refine WC_block ?_
      refine WC_seqK fun K503 hK503 => ?_
      refine WC_region ?_
      refine T0_q (v := (.int .i64 x487)) rfl (yl_move hs488) ?_
      refine T0_q (v := (.int .i64 (w64 (x487 + 1)))) rfl (yl_add rfl rfl) ?_
      refine T0_q (v := (.int .i64 (w64 (x487 + 1)))) rfl (yl_assign rfl) ?_
      refine T0_nil ?_
      refine hK503 _ _ ?_
      obtain ⟨o618, hl619, hn620⟩ := bind_elim h
      refine WC_post (fun (ρ : Env) (wd611 : World) => .inr () = o618 ∧ ρ 0 = v_p_vanes ∧ ρ 1 = (.int .i64 p_window) ∧ ρ 2 = (.int .i64 p_distance) ∧ ρ 7 = (.int .i64 x487) ∧ SlRd L wd611 v_p_vanes p_vanes ∧ Ext w wd611) ?_ ?_
      · intro K624 hK624
        refine WC_block ?_
        refine WC_loopk (fun sv ρ wd602 => ∃ (x609 : Int), x609 = sv ∧ ρ 0 = v_p_vanes ∧ ρ 1 = (.int .i64 p_window) ∧ ρ 2 = (.int .i64 p_distance) ∧ ρ 7 = (.int .i64 x487) ∧ ρ 8 = (.int .i64 x609) ∧ SlRd L wd602 v_p_vanes p_vanes ∧ Ext w wd602) hl619 ⟨w64 (x487 + 1), rfl, hs484, hs485, hs486, hs488, rfl, h483, e482⟩ ?_
        rintro _ ρ wd602 ⟨x609, rfl, hs605, hs606, hs607, hs608, hs610, h604, e603⟩ x621 h hx622 K623 hK623
        refine WC_seqK fun K626 hK626 => ?_
        refine WC_seqK fun K627 hK627 => ?_
        refine WC_region ?_
        refine T0_q (v := (.int .i64 x609)) rfl (yl_move hs610) ?_
        refine T0_q (v := (.int .i64 p_window)) rfl (yl_move hs606) ?_
        refine T0_q (v := (.int .i64 (w64 (x609 + p_window)))) rfl (yl_add rfl rfl) ?_
        refine T0_q (v := v_p_vanes) rfl (yl_move hs605) ?_
        refine T0_q (v := (.int .i64 (p_vanes.length : Int))) rfl (yl_lenR rfl Tryd.underlying22 h604 rfl) ?_
        refine T0_q (v := (.bool (decide (w64 (x609 + p_window) ≤ (p_vanes.length : Int))))) rfl (yl_leq rfl rfl) ?_
        refine T0_nil ?_
        refine hK627 _ _ ?_
        refine WC_cond (b := (decide (w64 (x609 + p_window) ≤ (p_vanes.length : Int)))) rfl (fun hb628 => ?_) (fun hb628 => ?_)
        · replace h := cond_t hb628 h
          refine WC_skip ?_
          refine hK626 _ _ ?_
          refine WC_seqK fun K629 hK629 => ?_
          refine WC_block ?_
          refine WC_seqK fun K630 hK630 => ?_
          refine WC_plan mixed (.p 0 (.p 1 (.p 2 (.p 3 (.p 4 (.p 5 (.p 6 (.p 7 (.p 8 (.p 9 (.p 10 (.p 11 (.p 13 (.e 12 (.p 14 .done))))))))))))))) (by kernel_rfl) ?_
          intro wd631 he632
          have e633 := e603.trans he632
          refine TP_p (v := v_p_vanes) rfl rfl (fun w' => (yl_move hs605)) ?_
          refine TP_p (v := (.int .i64 x487)) rfl rfl (fun w' => (yl_move hs608)) ?_
          refine TP_p (v := (.int .i64 x487)) rfl rfl (fun w' => (yl_move hs608)) ?_
          refine TP_p (v := (.int .i64 p_window)) rfl rfl (fun w' => (yl_move hs606)) ?_
          refine TP_p (v := (.int .i64 (w64 (x487 + p_window)))) rfl rfl (fun w' => (yl_add rfl rfl)) ?_
          obtain ⟨ys634, hys635, h⟩ := bind_elim h
          have h636 := SlRd.cut h604 hys635
          refine TP_p (v := (cutv v_p_vanes (x487 : Int).toNat (w64 (x487 + p_window) : Int).toNat 1)) rfl rfl (fun w' => (yl_cut_lh Tryd.underlying22 sz3 h604 hys635 rfl rfl rfl)) ?_
          refine TP_p (v := v_p_vanes) rfl rfl (fun w' => (yl_move hs605)) ?_
          refine TP_p (v := (.int .i64 x609)) rfl rfl (fun w' => (yl_move hs610)) ?_
          refine TP_p (v := (.int .i64 x609)) rfl rfl (fun w' => (yl_move hs610)) ?_
          refine TP_p (v := (.int .i64 p_window)) rfl rfl (fun w' => (yl_move hs606)) ?_
          refine TP_p (v := (.int .i64 (w64 (x609 + p_window)))) rfl rfl (fun w' => (yl_add rfl rfl)) ?_
          obtain ⟨ys638, hys639, h⟩ := bind_elim h
          have h640 := SlRd.cut h604 hys639
          refine TP_p (v := (cutv v_p_vanes (x609 : Int).toNat (w64 (x609 + p_window) : Int).toNat 1)) rfl rfl (fun w' => (yl_cut_lh Tryd.underlying22 sz3 h604 hys639 rfl rfl rfl)) ?_
          refine TP_p (v := (.int .i64 p_distance)) rfl rfl (fun w' => (yl_move hs607)) ?_
          obtain ⟨r642, hr643, h⟩ := bind_elim h
          refine TP_e rfl rfl (eff_call Tryd.func73 nm73 rfl (ev2 rfl rfl) (ref04_Differ_ok [] _ (LtL.nil _) (cutv v_p_vanes (x487 : Int).toNat (w64 (x487 + p_window) : Int).toNat 1) ys634 ((h636.ext he632).sub (fun _ h => by cases h)) (cutv v_p_vanes (x609 : Int).toNat (w64 (x609 + p_window) : Int).toNat 1) ys638 ((h640.ext he632).sub (fun _ h => by cases h)) r642 hr643) ?_)
          rintro _ wd644 ⟨he645, rfl⟩
          have e646 := he632.trans he645
          have e647 := e633.trans he645
          refine ⟨he645, ?_⟩
          refine TP_p (v := (.bool (decide (r642 < p_distance)))) rfl rfl (fun w' => (yl_lss rfl rfl)) ?_
          refine TP_done ?_
          refine hK630 _ _ ?_
          refine WC_cond (b := (decide (r642 < p_distance))) rfl (fun hb648 => ?_) (fun hb648 => ?_)
          · replace h := cond_t hb648 h
            refine WC_seqK fun K649 hK649 => ?_
            refine WC_region ?_
            refine T0_q (v := (.bool false)) rfl (yl_assign rfl) ?_
            refine T0_nil ?_
            refine hK649 _ _ ?_
            refine WC_ret ?_
            replace h := some_out h
            subst h
            have ho := hx622 _ rfl
            subst ho
            replace h := jn0_inl hn620
            replace h := some_out h
            subst h
            have ho := hx495 _ rfl
            subst ho
            replace h := jn0_inl hn493
            replace h := some_out h
            subst h
            exact ⟨[(.bool false)], ⟨rfl, trivial⟩, e647, rfl⟩
          · replace h := cond_f hb648 h
            refine WC_skip ?_
            refine hK629 _ _ ?_
            refine WC_region ?_
            refine T0_q (v := (.int .i64 x609)) rfl (yl_move hs610) ?_
            refine T0_q (v := (.int .i64 (w64 (x609 + 1)))) rfl (yl_add rfl rfl) ?_
            refine T0_q (v := (.int .i64 (w64 (x609 + 1)))) rfl (yl_assign rfl) ?_
            refine T0_nil ?_
            replace h := some_out h
            subst h
            refine hK623 _ _ _ rfl ?_
            exact ⟨w64 (x609 + 1), rfl, hs605, hs606, hs607, hs608, rfl, (h604.ext e646), e647⟩
        · replace h := cond_f hb628 h
          refine WC_exit ?_
          replace h := some_out h
          subst h
          have ho := hx622 _ rfl
          subst ho
          refine hK624 _ _ ?_
          exact ⟨rfl, hs605, hs606, hs607, hs608, h604, e603⟩
      · rintro ρ wd611 ⟨rfl, hs614, hs615, hs616, hs617, h613, e612⟩
        replace h := jn0_inr hn620
        refine hK502 _ _ ?_
        refine WC_region ?_
        refine T0_q (v := (.int .i64 x487)) rfl (yl_move hs617) ?_
        refine T0_q (v := (.int .i64 (w64 (x487 + 1)))) rfl (yl_add rfl rfl) ?_
        refine T0_q (v := (.int .i64 (w64 (x487 + 1)))) rfl (yl_assign rfl) ?_
        refine T0_nil ?_
        replace h := some_out h
        subst h
        refine hK496 _ _ _ rfl ?_
        exact ⟨w64 (x487 + 1), rfl, hs614, hs615, hs616, rfl, h613, e612⟩
    · replace h := cond_f hb501 h
      refine WC_exit ?_
      replace h := some_out h
      subst h
      have ho := hx495 _ rfl
      subst ho
      refine hK497 _ _ ?_
      exact ⟨rfl, e482⟩
  · rintro ρ wd489 ⟨rfl, e490⟩
    replace h := jn0_inr hn493
    refine hK3 _ _ ?_
    refine WC_seqK fun K650 hK650 => ?_
    refine WC_region ?_
    refine T0_q (v := (.bool true)) rfl (yl_assign rfl) ?_
    refine T0_nil ?_
    refine hK650 _ _ ?_
    refine WC_ret ?_
    replace h := some_out h
    subst h
    exact ⟨[(.bool true)], ⟨rfl, trivial⟩, e490, rfl⟩

noncomputable def ref04_FirstTrack_s0 (p_length : Int) : (Int × Int) → Option ((Int × Int) ⊕ (Int)) := fun (x47, x49) =>
  (bif (decide (x49 < p_length)) then (
    some (.inl (w64 (2 * x47), w64 (x49 + 1)))
  ) else (
    some (.inr x47)
  ))
noncomputable def ref04_FirstTrack_s1 (p_distance : Int) (p_length : Int) (p_window : Int) (x56 : Int) : (Int) → Option ((Int) ⊕ (((List Int) × Bool) ⊕ (Unit))) := fun x164 =>
  (bif (decide (x164 < x56)) then (
    (Option.bind (base_BitsOf_spec x164 p_length) fun r181 =>
    (Option.bind (ref04_IsApart_spec r181 p_window p_distance) fun r190 =>
    (bif r190 then (
      some (.inr (.inl (r181, true)))
    ) else (
      some (.inl (w64 (x164 + 1)))
    ))
    )
    )
  ) else (
    some (.inr (.inr ()))
  ))
noncomputable def ref04_FirstTrack_spec (p_length : Int) (p_window : Int) (p_distance : Int) : Option ((List Int) × Bool) :=
  (Option.bind (loop (ref04_FirstTrack_s0 p_length) (1, 0)) fun (x56 : Int) =>
  (Option.bind (loop (ref04_FirstTrack_s1 p_distance p_length p_window x56) 0) fun o168 => jn0 o168 fun (_ : Unit) =>
  some (([] : (List Int)), false)
  )
  )
theorem ref04_FirstTrack_ok (L : List Value) (w : World) (hL : LtL L w) (p_length : Int) (p_window : Int) (p_distance : Int) (r : (List Int) × Bool) (h : ref04_FirstTrack_spec p_length p_window p_distance = some r) :
    CallsTo Tryd.prog 81 [(.int .i64 p_length), (.int .i64 p_window), (.int .i64 p_distance)] w (fun v w' => Ext w w' ∧ ∃ (v0 : Value), (.tuple #[v0, (.bool r.2)]) = v ∧ SlRd L w' v0 r.1) := by
  have e0 : Ext w w := Chg.refl _ _
  refine callsTo_of_WC (n := 32) (rs := [.tmp 6, .tmp 7]) Tryd.func81 rfl rfl rfl rfl rfl ?_
  refine WC_seqK fun K1 hK1 => ?_
  refine WC_region ?_
  refine T0_q (v := (.slice none 0 0)) rfl (yl_assign rfl) ?_
  refine T0_q (v := (.bool false)) rfl (yl_assign rfl) ?_
  refine T0_nil ?_
  refine hK1 _ _ ?_
  refine WC_seqK fun K2 hK2 => ?_
  refine WC_region ?_
  refine T0_q (v := (.int .i64 1)) rfl (yl_assign rfl) ?_
  refine T0_nil ?_
  refine hK2 _ _ ?_
  refine WC_seqK fun K3 hK3 => ?_
  refine WC_seqK fun K4 hK4 => ?_
  refine WC_region ?_
  refine T0_q (v := (.int .i64 0)) rfl (yl_assign rfl) ?_
  refine T0_nil ?_
  refine hK4 _ _ ?_
  obtain ⟨o58, hl59, hn60⟩ := bind_elim h
  refine WC_post (fun (ρ : Env) (wd51 : World) => ∃ (x56 : Int), x56 = o58 ∧ ρ 0 = (.int .i64 p_length) ∧ ρ 1 = (.int .i64 p_window) ∧ ρ 2 = (.int .i64 p_distance) ∧ ρ 8 = (.int .i64 x56) ∧ Ext w wd51) ?_ ?_
  · intro K64 hK64
    refine WC_block ?_
    refine WC_loopk (fun sv ρ wd42 => ∃ (x47 : Int) (x49 : Int), (x47, x49) = sv ∧ ρ 0 = (.int .i64 p_length) ∧ ρ 1 = (.int .i64 p_window) ∧ ρ 2 = (.int .i64 p_distance) ∧ ρ 8 = (.int .i64 x47) ∧ ρ 9 = (.int .i64 x49) ∧ Ext w wd42) hl59 ⟨1, 0, rfl, rfl, rfl, rfl, rfl, rfl, e0⟩ ?_
    rintro _ ρ wd42 ⟨x47, x49, rfl, hs44, hs45, hs46, hs48, hs50, e43⟩ x61 h hx62 K63 hK63
    refine WC_seqK fun K66 hK66 => ?_
    refine WC_seqK fun K67 hK67 => ?_
    refine WC_region ?_
    refine T0_q (v := (.int .i64 x49)) rfl (yl_move hs50) ?_
    refine T0_q (v := (.int .i64 p_length)) rfl (yl_move hs44) ?_
    refine T0_q (v := (.bool (decide (x49 < p_length)))) rfl (yl_lss rfl rfl) ?_
    refine T0_nil ?_
    refine hK67 _ _ ?_
    refine WC_cond (b := (decide (x49 < p_length))) rfl (fun hb68 => ?_) (fun hb68 => ?_)
    · replace h := cond_t hb68 h
      refine WC_skip ?_
      refine hK66 _ _ ?_
      refine WC_seqK fun K69 hK69 => ?_
      refine WC_block ?_
      refine WC_region ?_
      refine T0_q (v := (.int .i64 x47)) rfl (yl_move hs48) ?_
      refine T0_q (v := (.int .i64 (w64 (2 * x47)))) rfl (yl_mul rfl rfl) ?_
      refine T0_q (v := (.int .i64 (w64 (2 * x47)))) rfl (yl_assign rfl) ?_
      refine T0_nil ?_
      refine hK69 _ _ ?_
      refine WC_region ?_
      refine T0_q (v := (.int .i64 x49)) rfl (yl_move hs50) ?_
      refine T0_q (v := (.int .i64 (w64 (x49 + 1)))) rfl (yl_add rfl rfl) ?_
      refine T0_q (v := (.int .i64 (w64 (x49 + 1)))) rfl (yl_assign rfl) ?_
      refine T0_nil ?_
      replace h := some_out h
      subst h
      refine hK63 _ _ _ rfl ?_
      exact ⟨w64 (2 * x47), w64 (x49 + 1), rfl, hs44, hs45, hs46, rfl, rfl, e43⟩
    · replace h := cond_f hb68 h
      refine WC_exit ?_
      replace h := some_out h
      subst h
      have ho := hx62 _ rfl
      subst ho
      refine hK64 _ _ ?_
      exact ⟨x47, rfl, hs44, hs45, hs46, hs48, e43⟩
  · rintro ρ wd51 ⟨x56, rfl, hs53, hs54, hs55, hs57, e52⟩
    replace h := hn60
    refine hK3 _ _ ?_
    refine WC_seqK fun K70 hK70 => ?_
    refine WC_seqK fun K71 hK71 => ?_
    refine WC_region ?_
    refine T0_q (v := (.int .i64 0)) rfl (yl_assign rfl) ?_
    refine T0_nil ?_
    refine hK71 _ _ ?_
    obtain ⟨o168, hl169, hn170⟩ := bind_elim h
    refine WC_post (fun (ρ : Env) (wd166 : World) => .inr () = o168 ∧ Ext w wd166) ?_ ?_
    · intro K174 hK174
      refine WC_block ?_
      refine WC_loopk (fun sv ρ wd158 => ∃ (x164 : Int), x164 = sv ∧ ρ 0 = (.int .i64 p_length) ∧ ρ 1 = (.int .i64 p_window) ∧ ρ 2 = (.int .i64 p_distance) ∧ ρ 8 = (.int .i64 x56) ∧ ρ 10 = (.int .i64 x164) ∧ Ext w wd158) hl169 ⟨0, rfl, hs53, hs54, hs55, hs57, rfl, e52⟩ ?_
      rintro _ ρ wd158 ⟨x164, rfl, hs160, hs161, hs162, hs163, hs165, e159⟩ x171 h hx172 K173 hK173
      refine WC_seqK fun K176 hK176 => ?_
      refine WC_seqK fun K177 hK177 => ?_
      refine WC_region ?_
      refine T0_q (v := (.int .i64 x164)) rfl (yl_move hs165) ?_
      refine T0_q (v := (.int .i64 x56)) rfl (yl_move hs163) ?_
      refine T0_q (v := (.bool (decide (x164 < x56)))) rfl (yl_lss rfl rfl) ?_
      refine T0_nil ?_
      refine hK177 _ _ ?_
      refine WC_cond (b := (decide (x164 < x56))) rfl (fun hb178 => ?_) (fun hb178 => ?_)
      · replace h := cond_t hb178 h
        refine WC_skip ?_
        refine hK176 _ _ ?_
        refine WC_seqK fun K179 hK179 => ?_
        refine WC_block ?_
        refine WC_seqK fun K180 hK180 => ?_
        refine WC_region ?_
        refine T0_q (v := (.int .i64 x164)) rfl (yl_move hs165) ?_
        refine T0_q (v := (.int .i64 p_length)) rfl (yl_move hs160) ?_
        obtain ⟨r181, hr182, h⟩ := bind_elim h
        refine T0_e rfl (eff_call Tryd.func120 nm120 rfl (ev2 rfl rfl) (base_BitsOf_ok L _ (hL.chg e159) x164 p_length r181 hr182) ?_)
        rintro _ wd183 ⟨he184, v185, rfl, h186⟩
        have e187 := e159.trans he184
        refine T0_q (v := v185) rfl (yl_assign rfl) ?_
        refine T0_nil ?_
        refine hK180 _ _ ?_
        refine WC_seqK fun K189 hK189 => ?_
        refine WC_region ?_
        refine T0_q (v := v185) rfl (yl_move rfl) ?_
        refine T0_q (v := (.int .i64 p_window)) rfl (yl_move hs161) ?_
        refine T0_q (v := (.int .i64 p_distance)) rfl (yl_move hs162) ?_
        obtain ⟨r190, hr191, h⟩ := bind_elim h
        refine T0_e rfl (eff_call Tryd.func121 nm121 rfl (ev3 rfl rfl rfl) (ref04_IsApart_ok [] _ (LtL.nil _) v185 r181 (h186.sub (fun _ h => by cases h)) p_window p_distance r190 hr191) ?_)
        rintro _ wd192 ⟨he193, rfl⟩
        have e194 := e187.trans he193
        refine T0_nil ?_
        refine hK189 _ _ ?_
        refine WC_cond (b := r190) rfl (fun hb195 => ?_) (fun hb195 => ?_)
        · replace h := cond_t hb195 h
          refine WC_seqK fun K196 hK196 => ?_
          refine WC_region ?_
          refine T0_q (v := v185) rfl (yl_move rfl) ?_
          refine T0_q (v := v185) rfl (yl_assign rfl) ?_
          refine T0_q (v := (.bool true)) rfl (yl_assign rfl) ?_
          refine T0_nil ?_
          refine hK196 _ _ ?_
          refine WC_ret ?_
          replace h := some_out h
          subst h
          have ho := hx172 _ rfl
          subst ho
          replace h := jn0_inl hn170
          replace h := some_out h
          subst h
          exact ⟨[v185, (.bool true)], ⟨rfl, rfl, trivial⟩, e194, v185, rfl, (h186.ext he193)⟩
        · replace h := cond_f hb195 h
          refine WC_skip ?_
          refine hK179 _ _ ?_
          refine WC_region ?_
          refine T0_q (v := (.int .i64 x164)) rfl (yl_move hs165) ?_
          refine T0_q (v := (.int .i64 (w64 (x164 + 1)))) rfl (yl_add rfl rfl) ?_
          refine T0_q (v := (.int .i64 (w64 (x164 + 1)))) rfl (yl_assign rfl) ?_
          refine T0_nil ?_
          replace h := some_out h
          subst h
          refine hK173 _ _ _ rfl ?_
          exact ⟨w64 (x164 + 1), rfl, hs160, hs161, hs162, hs163, rfl, e194⟩
      · replace h := cond_f hb178 h
        refine WC_exit ?_
        replace h := some_out h
        subst h
        have ho := hx172 _ rfl
        subst ho
        refine hK174 _ _ ?_
        exact ⟨rfl, e159⟩
    · rintro ρ wd166 ⟨rfl, e167⟩
      replace h := jn0_inr hn170
      refine hK70 _ _ ?_
      refine WC_seqK fun K197 hK197 => ?_
      refine WC_region ?_
      refine T0_q (v := (.slice none 0 0)) rfl (yl_assign rfl) ?_
      refine T0_q (v := (.bool false)) rfl (yl_assign rfl) ?_
      refine T0_nil ?_
      refine hK197 _ _ ?_
      refine WC_ret ?_
      replace h := some_out h
      subst h
      exact ⟨[(.slice none 0 0), (.bool false)], ⟨rfl, rfl, trivial⟩, e167, (.slice none 0 0), rfl, (SlRd.nil _ _)⟩

noncomputable def locate_FirstTrack_1_s0 (c13 : Int) (c5 : locate_track) (r16 : Int) : (Int) → Option ((Int) ⊕ (Bool ⊕ (Unit))) := fun x172 =>
  (bif (decide (x172 < (if 0 < w64 (r16 - 1) then w64 (r16 - 1) else 0))) then (
    (Option.bind (locate_track_at_spec c5 x172) fun r198 =>
    (Option.bind (locate_track_at_spec c5 (w64 (r16 - 1))) fun r206 =>
    (Option.bind (locate_window_differ_spec r198 r206) fun r215 =>
    (bif (decide (r215 < c13)) then (
      some (.inr (.inl false))
    ) else (
      some (.inl (w64 (x172 + 1)))
    ))
    )
    )
    )
  ) else (
    some (.inr (.inr ()))
  ))
noncomputable def locate_FirstTrack_1_spec (c5 : locate_track) (c13 : Int) : Option Bool :=
  (Option.bind (locate_track_windows_spec c5) fun r16 =>
  (Option.bind (loop (locate_FirstTrack_1_s0 c13 c5 r16) 0) fun o181 => jn0 o181 fun (_ : Unit) =>
  some true
  )
  )
theorem locate_FirstTrack_1_ok (L : List Value) (w : World) (hL : LtL L w) (b1 : Nat) (b2 : Nat) (cs6 : List Value) (c5 : locate_track) (h7 : Rep.rd L w cs6 c5) (hB3 : Box w b1 cs6 130) (c13 : Int) (hB11 : Box w b2 [(.int .i64 c13)] 3) (r : Bool) (h : locate_FirstTrack_1_spec c5 c13 = some r) :
    CallsTo Tryd.prog 117 [(.pointer (some ⟨b1, 0, none⟩)), (.pointer (some ⟨b2, 0, none⟩))] w (fun v w' => Ext w w' ∧ (.bool r) = v) := by
  have e0 : Ext w w := Chg.refl _ _
  obtain ⟨v8, h9, rfl⟩ := h7
  refine callsTo_of_WC (n := 23) (rs := [.tmp 2]) Tryd.func117 rfl rfl rfl rfl rfl ?_
  refine WC_seqK fun K14 hK14 => ?_
  refine WC_region ?_
  refine T0_q (v := (.bool false)) rfl (yl_assign rfl) ?_
  refine T0_nil ?_
  refine hK14 _ _ ?_
  refine WC_seqK fun K15 hK15 => ?_
  refine WC_region ?_
  refine T0_q (v := (.agg (List.toArray [v8, (.int .i64 c5.LocateTrack.Window), (.int .i64 c5.LocateTrack.Tooth), (.int .i64 c5.LocateTrack.PerVane), (.int .i64 c5.LocateTrack.First), (.int .i64 c5.LocateTrack.Modulus), (.int .i64 c5.LocateTrack.Slack), (.int .i64 c5.LocateTrack.Errors), (.bool c5.LocateTrack.Round)]))) rfl (yl_loadA (cs := [v8, (.int .i64 c5.LocateTrack.Window), (.int .i64 c5.LocateTrack.Tooth), (.int .i64 c5.LocateTrack.PerVane), (.int .i64 c5.LocateTrack.First), (.int .i64 c5.LocateTrack.Modulus), (.int .i64 c5.LocateTrack.Slack), (.int .i64 c5.LocateTrack.Errors), (.bool c5.LocateTrack.Round)]) ag130 rfl (Box.at hB3)) ?_
  obtain ⟨r16, hr17, h⟩ := bind_elim h
  refine T0_e rfl (eff_call Tryd.func101 nm101 rfl (ev1 rfl) (locate_track_windows_ok [] _ (LtL.nil _) [v8, (.int .i64 c5.LocateTrack.Window), (.int .i64 c5.LocateTrack.Tooth), (.int .i64 c5.LocateTrack.PerVane), (.int .i64 c5.LocateTrack.First), (.int .i64 c5.LocateTrack.Modulus), (.int .i64 c5.LocateTrack.Slack), (.int .i64 c5.LocateTrack.Errors), (.bool c5.LocateTrack.Round)] c5 ⟨v8, (h9.sub (fun _ h => by cases h)), rfl⟩ r16 hr17) ?_)
  rintro _ wd18 ⟨he19, rfl⟩
  have e20 := e0.trans he19
  refine T0_q (v := (.int .i64 (w64 (r16 - 1)))) rfl (yl_sub rfl rfl) ?_
  refine T0_q (v := (.int .i64 (w64 (r16 - 1)))) rfl (yl_assign rfl) ?_
  refine T0_nil ?_
  refine hK15 _ _ ?_
  refine WC_seqK fun K21 hK21 => ?_
  refine WC_seqK fun K22 hK22 => ?_
  refine WC_region ?_
  refine T0_q (v := (.int .i64 (w64 (r16 - 1)))) rfl (yl_move rfl) ?_
  refine T0_q (v := (.int .i64 (if 0 < w64 (r16 - 1) then w64 (r16 - 1) else 0))) rfl (yl_max rfl rfl) ?_
  refine T0_q (v := (.int .i64 0)) rfl (yl_move rfl) ?_
  refine T0_nil ?_
  refine hK22 _ _ ?_
  obtain ⟨o181, hl182, hn183⟩ := bind_elim h
  refine WC_post (fun (ρ : Env) (wd179 : World) => .inr () = o181 ∧ Ext w wd179) ?_ ?_
  · intro K187 hK187
    refine WC_block ?_
    refine WC_loopk (fun sv ρ wd166 => ∃ (x172 : Int), x172 = sv ∧ ρ 0 = (.pointer (some ⟨b1, 0, none⟩)) ∧ ρ 1 = (.pointer (some ⟨b2, 0, none⟩)) ∧ ρ 3 = (.int .i64 (w64 (r16 - 1))) ∧ ρ 9 = (.int .i64 (if 0 < w64 (r16 - 1) then w64 (r16 - 1) else 0)) ∧ ρ 10 = (.int .i64 x172) ∧ SlRd L wd166 v8 c5.LocateTrack.Vanes ∧ Box wd166 b1 [v8, (.int .i64 c5.LocateTrack.Window), (.int .i64 c5.LocateTrack.Tooth), (.int .i64 c5.LocateTrack.PerVane), (.int .i64 c5.LocateTrack.First), (.int .i64 c5.LocateTrack.Modulus), (.int .i64 c5.LocateTrack.Slack), (.int .i64 c5.LocateTrack.Errors), (.bool c5.LocateTrack.Round)] 130 ∧ Box wd166 b2 [(.int .i64 c13)] 3 ∧ Ext w wd166) hl182 ⟨0, rfl, rfl, rfl, rfl, rfl, rfl, (h9.ext he19), (hB3.ext he19), (hB11.ext he19), e20⟩ ?_
    rintro _ ρ wd166 ⟨x172, rfl, hs168, hs169, hs170, hs171, hs173, h174, hB176, hB178, e167⟩ x184 h hx185 K186 hK186
    refine WC_seqK fun K189 hK189 => ?_
    refine WC_region ?_
    refine T0_q (v := (.bool (decide (x172 < (if 0 < w64 (r16 - 1) then w64 (r16 - 1) else 0))))) rfl (yl_lss hs173 hs171) ?_
    refine T0_nil ?_
    refine hK189 _ _ ?_
    refine WC_seqK fun K190 hK190 => ?_
    refine WC_cond (b := (decide (x172 < (if 0 < w64 (r16 - 1) then w64 (r16 - 1) else 0)))) rfl (fun hb191 => ?_) (fun hb191 => ?_)
    · replace h := cond_t hb191 h
      refine WC_skip ?_
      refine hK190 _ _ ?_
      refine WC_seqK fun K192 hK192 => ?_
      refine WC_block ?_
      refine WC_seqK fun K193 hK193 => ?_
      refine WC_region ?_
      refine T0_q (v := (.int .i64 x172)) rfl (yl_move hs173) ?_
      refine T0_q (v := (.int .i64 x172)) rfl (yl_assign rfl) ?_
      refine T0_nil ?_
      refine hK193 _ _ ?_
      refine WC_seqK fun K194 hK194 => ?_
      refine WC_plan mixed (.p 1 (.p 4 (.q 0 (.q 3 (.q 7 (.e 2 (.e 5 (.e 6 (.p 8 .done))))))))) (by kernel_rfl) ?_
      intro wd195 he196
      have e197 := e167.trans he196
      refine TP_p (v := (.int .i64 x172)) rfl rfl (fun w' => (yl_move rfl)) ?_
      refine TP_p (v := (.int .i64 (w64 (r16 - 1)))) rfl rfl (fun w' => (yl_move hs170)) ?_
      refine TP_q (v := (.agg (List.toArray [v8, (.int .i64 c5.LocateTrack.Window), (.int .i64 c5.LocateTrack.Tooth), (.int .i64 c5.LocateTrack.PerVane), (.int .i64 c5.LocateTrack.First), (.int .i64 c5.LocateTrack.Modulus), (.int .i64 c5.LocateTrack.Slack), (.int .i64 c5.LocateTrack.Errors), (.bool c5.LocateTrack.Round)]))) rfl rfl (fun w' hS => (yl_loadA (cs := [v8, (.int .i64 c5.LocateTrack.Window), (.int .i64 c5.LocateTrack.Tooth), (.int .i64 c5.LocateTrack.PerVane), (.int .i64 c5.LocateTrack.First), (.int .i64 c5.LocateTrack.Modulus), (.int .i64 c5.LocateTrack.Slack), (.int .i64 c5.LocateTrack.Errors), (.bool c5.LocateTrack.Round)]) ag130 hs168 (Box.at (hB176.ext ((he196).trans hS))))) ?_
      refine TP_q (v := (.agg (List.toArray [v8, (.int .i64 c5.LocateTrack.Window), (.int .i64 c5.LocateTrack.Tooth), (.int .i64 c5.LocateTrack.PerVane), (.int .i64 c5.LocateTrack.First), (.int .i64 c5.LocateTrack.Modulus), (.int .i64 c5.LocateTrack.Slack), (.int .i64 c5.LocateTrack.Errors), (.bool c5.LocateTrack.Round)]))) rfl rfl (fun w' hS => (yl_loadA (cs := [v8, (.int .i64 c5.LocateTrack.Window), (.int .i64 c5.LocateTrack.Tooth), (.int .i64 c5.LocateTrack.PerVane), (.int .i64 c5.LocateTrack.First), (.int .i64 c5.LocateTrack.Modulus), (.int .i64 c5.LocateTrack.Slack), (.int .i64 c5.LocateTrack.Errors), (.bool c5.LocateTrack.Round)]) ag130 hs168 (Box.at (hB176.ext ((he196).trans hS))))) ?_
      refine TP_q (v := (.int .i64 c13)) rfl rfl (fun w' hS => (yl_load sc3 hs169 (Box.at (hB178.ext ((he196).trans hS))))) ?_
      obtain ⟨r198, hr199, h⟩ := bind_elim h
      refine TP_e rfl rfl (eff_call Tryd.func104 nm104 rfl (ev2 rfl rfl) (locate_track_at_ok [] _ (LtL.nil _) [v8, (.int .i64 c5.LocateTrack.Window), (.int .i64 c5.LocateTrack.Tooth), (.int .i64 c5.LocateTrack.PerVane), (.int .i64 c5.LocateTrack.First), (.int .i64 c5.LocateTrack.Modulus), (.int .i64 c5.LocateTrack.Slack), (.int .i64 c5.LocateTrack.Errors), (.bool c5.LocateTrack.Round)] c5 ⟨v8, ((h174.ext he196).sub (fun _ h => by cases h)), rfl⟩ x172 r198 hr199) ?_)
      rintro _ wd200 ⟨he201, cs202, rfl, hrd203⟩
      have e204 := he196.trans he201
      have e205 := e197.trans he201
      have hrd203 : cs202 = [(.int .i64 r198.e0), (.int .i64 r198.e1), (.int .i64 r198.e2), (.int .i64 r198.e3), (.int .i64 r198.e4), (.int .i64 r198.e5), (.int .i64 r198.e6), (.int .i64 r198.e7), (.int .i64 r198.e8), (.int .i64 r198.e9), (.int .i64 r198.e10), (.int .i64 r198.e11)] := hrd203
      subst hrd203
      refine ⟨he201, ?_⟩
      obtain ⟨r206, hr207, h⟩ := bind_elim h
      refine TP_e rfl rfl (eff_call Tryd.func104 nm104 rfl (ev2 rfl rfl) (locate_track_at_ok [] _ (LtL.nil _) [v8, (.int .i64 c5.LocateTrack.Window), (.int .i64 c5.LocateTrack.Tooth), (.int .i64 c5.LocateTrack.PerVane), (.int .i64 c5.LocateTrack.First), (.int .i64 c5.LocateTrack.Modulus), (.int .i64 c5.LocateTrack.Slack), (.int .i64 c5.LocateTrack.Errors), (.bool c5.LocateTrack.Round)] c5 ⟨v8, ((h174.ext e204).sub (fun _ h => by cases h)), rfl⟩ (w64 (r16 - 1)) r206 hr207) ?_)
      rintro _ wd208 ⟨he209, cs210, rfl, hrd211⟩
      have e212 := e204.trans he209
      have e213 := he201.trans he209
      have e214 := e205.trans he209
      have hrd211 : cs210 = [(.int .i64 r206.e0), (.int .i64 r206.e1), (.int .i64 r206.e2), (.int .i64 r206.e3), (.int .i64 r206.e4), (.int .i64 r206.e5), (.int .i64 r206.e6), (.int .i64 r206.e7), (.int .i64 r206.e8), (.int .i64 r206.e9), (.int .i64 r206.e10), (.int .i64 r206.e11)] := hrd211
      subst hrd211
      refine ⟨e213, ?_⟩
      obtain ⟨r215, hr216, h⟩ := bind_elim h
      refine TP_e rfl rfl (eff_call Tryd.func118 nm118 rfl (ev2 rfl rfl) (locate_window_differ_ok [] _ (LtL.nil _) [(.int .i64 r198.e0), (.int .i64 r198.e1), (.int .i64 r198.e2), (.int .i64 r198.e3), (.int .i64 r198.e4), (.int .i64 r198.e5), (.int .i64 r198.e6), (.int .i64 r198.e7), (.int .i64 r198.e8), (.int .i64 r198.e9), (.int .i64 r198.e10), (.int .i64 r198.e11)] r198 rfl [(.int .i64 r206.e0), (.int .i64 r206.e1), (.int .i64 r206.e2), (.int .i64 r206.e3), (.int .i64 r206.e4), (.int .i64 r206.e5), (.int .i64 r206.e6), (.int .i64 r206.e7), (.int .i64 r206.e8), (.int .i64 r206.e9), (.int .i64 r206.e10), (.int .i64 r206.e11)] r206 rfl r215 hr216) ?_)
      rintro _ wd217 ⟨he218, rfl⟩
      have e219 := e212.trans he218
      have e220 := e213.trans he218
      have e221 := e214.trans he218
      refine ⟨e220, ?_⟩
      refine TP_p (v := (.bool (decide (r215 < c13)))) rfl rfl (fun w' => (yl_lss rfl rfl)) ?_
      refine TP_done ?_
      refine hK194 _ _ ?_
      refine WC_cond (b := (decide (r215 < c13))) rfl (fun hb222 => ?_) (fun hb222 => ?_)
      · replace h := cond_t hb222 h
        refine WC_seqK fun K223 hK223 => ?_
        refine WC_region ?_
        refine T0_q (v := (.bool false)) rfl (yl_assign rfl) ?_
        refine T0_nil ?_
        refine hK223 _ _ ?_
        refine WC_ret ?_
        replace h := some_out h
        subst h
        have ho := hx185 _ rfl
        subst ho
        replace h := jn0_inl hn183
        replace h := some_out h
        subst h
        exact ⟨[(.bool false)], ⟨rfl, trivial⟩, e221, rfl⟩
      · replace h := cond_f hb222 h
        refine WC_skip ?_
        refine hK192 _ _ ?_
        refine WC_region ?_
        refine T0_q (v := (.int .i64 (w64 (x172 + 1)))) rfl (yl_add hs173 rfl) ?_
        refine T0_q (v := (.int .i64 (w64 (x172 + 1)))) rfl (yl_move rfl) ?_
        refine T0_nil ?_
        replace h := some_out h
        subst h
        refine hK186 _ _ _ rfl ?_
        exact ⟨w64 (x172 + 1), rfl, hs168, hs169, hs170, hs171, rfl, (h174.ext e219), (hB176.ext e219), (hB178.ext e219), e221⟩
    · replace h := cond_f hb191 h
      refine WC_exit ?_
      replace h := some_out h
      subst h
      have ho := hx185 _ rfl
      subst ho
      refine hK187 _ _ ?_
      exact ⟨rfl, e167⟩
  · rintro ρ wd179 ⟨rfl, e180⟩
    replace h := jn0_inr hn183
    refine hK21 _ _ ?_
    refine WC_seqK fun K224 hK224 => ?_
    refine WC_region ?_
    refine T0_q (v := (.bool true)) rfl (yl_assign rfl) ?_
    refine T0_nil ?_
    refine hK224 _ _ ?_
    refine WC_ret ?_
    replace h := some_out h
    subst h
    exact ⟨[(.bool true)], ⟨rfl, trivial⟩, e180, rfl⟩

noncomputable def locate_FirstTrack_2_s0 (c16 : Int) (c21 : Int) (rc : locate_track → Int → Int → Option (Bool × locate_track)) : (Int × (List Int) × Int × Int × Int × Int × Int × Int × Int × Bool) → Option ((Int × (List Int) × Int × Int × Int × Int × Int × Int × Int × Bool) ⊕ ((Bool × locate_track) ⊕ ((List Int) × Int × Int × Int × Int × Int × Int × Int × Bool))) := fun (x446, x450, x454, x455, x456, x457, x458, x459, x460, x461) =>
  (bif (decide (x446 < 2)) then (
    (Option.bind (app x450 ([x446] : List Int)) fun zs516 =>
    (Option.bind (locate_FirstTrack_1_spec (locate_track.mk (LocateTrack.mk zs516 x454 x455 x456 x457 x458 x459 x460 x461)) c21) fun r550 =>
    (Option.bind (bif r550 then rc (locate_track.mk (LocateTrack.mk zs516 x454 x455 x456 x457 x458 x459 x460 x461)) c16 c21 else some (default, (locate_track.mk (LocateTrack.mk zs516 x454 x455 x456 x457 x458 x459 x460 x461)))) fun r559 =>
    (bif (r550 && r559.1) then (
      some (.inr (.inl (true, (locate_track.mk (LocateTrack.mk r559.2.LocateTrack.Vanes r559.2.LocateTrack.Window r559.2.LocateTrack.Tooth r559.2.LocateTrack.PerVane r559.2.LocateTrack.First r559.2.LocateTrack.Modulus r559.2.LocateTrack.Slack r559.2.LocateTrack.Errors r559.2.LocateTrack.Round)))))
    ) else (
      (Option.bind (cut r559.2.LocateTrack.Vanes 0 (w64 ((r559.2.LocateTrack.Vanes.length : Int) - 1))) fun ys584 =>
      some (.inl (w64 (x446 + 1), ys584, r559.2.LocateTrack.Window, r559.2.LocateTrack.Tooth, r559.2.LocateTrack.PerVane, r559.2.LocateTrack.First, r559.2.LocateTrack.Modulus, r559.2.LocateTrack.Slack, r559.2.LocateTrack.Errors, r559.2.LocateTrack.Round))
      )
    ))
    )
    )
    )
  ) else (
    some (.inr (.inr (x450, x454, x455, x456, x457, x458, x459, x460, x461)))
  ))
noncomputable def locate_FirstTrack_2_F (rc : locate_track → Int → Int → Option (Bool × locate_track)) (c8 : locate_track) (c16 : Int) (c21 : Int) : Option (Bool × locate_track) :=
  (bif (decide ((c8.LocateTrack.Vanes.length : Int) = c16)) then (
    some (true, c8)
  ) else (
    (Option.bind (loop (locate_FirstTrack_2_s0 c16 c21 rc) (0, c8.LocateTrack.Vanes, c8.LocateTrack.Window, c8.LocateTrack.Tooth, c8.LocateTrack.PerVane, c8.LocateTrack.First, c8.LocateTrack.Modulus, c8.LocateTrack.Slack, c8.LocateTrack.Errors, c8.LocateTrack.Round)) fun o496 => jn0 o496 fun ((x481, x485, x486, x487, x488, x489, x490, x491, x492) : (List Int) × Int × Int × Int × Int × Int × Int × Int × Bool) =>
    some (false, (locate_track.mk (LocateTrack.mk x481 x485 x486 x487 x488 x489 x490 x491 x492)))
    )
  ))
noncomputable def locate_FirstTrack_2_spec : Nat → locate_track → Int → Int → Option (Bool × locate_track)
  | 0 => fun _ _ _ => none
  | fl + 1 => locate_FirstTrack_2_F (locate_FirstTrack_2_spec fl)
theorem locate_FirstTrack_2_ok (fl : Nat) : ∀ (L : List Value) (w : World) (hL : LtL L w) (b1 : Nat) (b2 : Nat) (b3 : Nat) (b4 : Nat) (b5 : Nat) (v9 : Value) (c8 : locate_track) (hO11 : Own 3 (v9 :: (.pointer (some ⟨b1, 0, none⟩)) :: L) w v9 c8.LocateTrack.Vanes) (hB6 : Box w b1 [v9, (.int .i64 c8.LocateTrack.Window), (.int .i64 c8.LocateTrack.Tooth), (.int .i64 c8.LocateTrack.PerVane), (.int .i64 c8.LocateTrack.First), (.int .i64 c8.LocateTrack.Modulus), (.int .i64 c8.LocateTrack.Slack), (.int .i64 c8.LocateTrack.Errors), (.bool c8.LocateTrack.Round)] 130) (c16 : Int) (hB14 : Box w b2 [(.int .i64 c16)] 3) (hB17 : Box w b3 [(.func (.func 117) #[] (List.toArray [(.pointer (some ⟨b1, 0, none⟩)), (.pointer (some ⟨b4, 0, none⟩))]))] 27) (c21 : Int) (hB19 : Box w b4 [(.int .i64 c21)] 3) (hB22 : Box w b5 [(.func (.func 119) #[] (List.toArray [(.pointer (some ⟨b1, 0, none⟩)), (.pointer (some ⟨b2, 0, none⟩)), (.pointer (some ⟨b3, 0, none⟩)), (.pointer (some ⟨b5, 0, none⟩))]))] 27) (hn24 : blk v9 ≠ some b1) (hn25 : blk v9 ≠ some b2) (hn26 : b1 ≠ b2) (hn27 : blk v9 ≠ some b3) (hn28 : b1 ≠ b3) (hn29 : blk v9 ≠ some b4) (hn30 : b1 ≠ b4) (hn31 : blk v9 ≠ some b5) (hn32 : b1 ≠ b5) (r : Bool × locate_track) (h : locate_FirstTrack_2_spec fl c8 c16 c21 = some r),
    CallsTo Tryd.prog 119 [(.pointer (some ⟨b1, 0, none⟩)), (.pointer (some ⟨b2, 0, none⟩)), (.pointer (some ⟨b3, 0, none⟩)), (.pointer (some ⟨b5, 0, none⟩))] w (fun v w' => Chg [v9, .pointer (some ⟨b1, 0, none⟩)] w w' ∧ ∃ (v33 : Value), (.bool r.1) = v ∧ Box w' b1 [v33, (.int .i64 r.2.LocateTrack.Window), (.int .i64 r.2.LocateTrack.Tooth), (.int .i64 r.2.LocateTrack.PerVane), (.int .i64 r.2.LocateTrack.First), (.int .i64 r.2.LocateTrack.Modulus), (.int .i64 r.2.LocateTrack.Slack), (.int .i64 r.2.LocateTrack.Errors), (.bool r.2.LocateTrack.Round)] 130 ∧ Own 3 (v33 :: (.pointer (some ⟨b1, 0, none⟩)) :: L) w' v33 r.2.LocateTrack.Vanes ∧ (blk v33 ≠ some b1) ∧ (∀ k, blk v33 = some k → blk v9 = some k ∨ w.heap.size ≤ k)) := by
  induction fl with
  | zero => intro L w hL b1 b2 b3 b4 b5 v9 c8 hO11 hB6 c16 hB14 hB17 c21 hB19 hB22 hn24 hn25 hn26 hn27 hn28 hn29 hn30 hn31 hn32 r h; exact absurd h (by simp [locate_FirstTrack_2_spec])
  | succ fl ih =>
    intro L w hL b1 b2 b3 b4 b5 v9 c8 hO11 hB6 c16 hB14 hB17 c21 hB19 hB22 hn24 hn25 hn26 hn27 hn28 hn29 hn30 hn31 hn32 r h
    replace h : locate_FirstTrack_2_F (locate_FirstTrack_2_spec fl) c8 c16 c21 = some r := h
    generalize locate_FirstTrack_2_spec fl = rc at ih h
    have e0 : Chg [v9, .pointer (some ⟨b1, 0, none⟩)] w w := Chg.refl _ _
    refine callsTo_of_WC (n := 41) (rs := [.tmp 4]) Tryd.func119 rfl rfl rfl rfl rfl ?_
    refine WC_seqK fun K35 hK35 => ?_
    refine WC_region ?_
    refine T0_q (v := (.bool false)) rfl (yl_assign rfl) ?_
    refine T0_nil ?_
    refine hK35 _ _ ?_
    refine WC_seqK fun K36 hK36 => ?_
    refine WC_seqK fun K37 hK37 => ?_
    refine WC_region ?_
    refine T0_q (v := (.pointer (some ⟨b1, 0, none⟩))) rfl (yl_fa 0 Tryd.underlying130 rfl rfl ⟨8, sz24⟩ rfl rfl) ?_
    refine T0_q (v := (.pointer (some ⟨b1, 0, none⟩))) rfl (yl_fa 0 Tryd.underlying24 rfl rfl ⟨0, sz22⟩ rfl rfl) ?_
    refine T0_q (v := v9) rfl (yl_load sc22 rfl (Box.at hB6)) ?_
    refine T0_q (v := (.int .i64 (c8.LocateTrack.Vanes.length : Int))) rfl (yl_lenO rfl Tryd.underlying22 hO11 rfl) ?_
    refine T0_q (v := (.int .i64 c16)) rfl (yl_load sc3 rfl (Box.at hB14)) ?_
    refine T0_q (v := (.bool (decide ((c8.LocateTrack.Vanes.length : Int) = c16)))) rfl (yl_eql rfl rfl) ?_
    refine T0_nil ?_
    refine hK37 _ _ ?_
    refine WC_cond (b := (decide ((c8.LocateTrack.Vanes.length : Int) = c16))) rfl (fun hb38 => ?_) (fun hb38 => ?_)
    · replace h := cond_t hb38 h
      refine WC_seqK fun K39 hK39 => ?_
      refine WC_region ?_
      refine T0_q (v := (.bool true)) rfl (yl_assign rfl) ?_
      refine T0_nil ?_
      refine hK39 _ _ ?_
      refine WC_ret ?_
      replace h := some_out h
      subst h
      exact ⟨[(.bool true)], ⟨rfl, trivial⟩, e0, v9, rfl, hB6, (hO11.sub (sub_cons mem0 (sub_cons (memS mem0) (sub_skip (sub_skip (sub_refl _)))))), hn24, (hbl_of newOr_v hn24)⟩
    · replace h := cond_f hb38 h
      refine WC_skip ?_
      refine hK36 _ _ ?_
      refine WC_seqK fun K40 hK40 => ?_
      refine WC_seqK fun K41 hK41 => ?_
      refine WC_region ?_
      refine T0_q (v := (.int .i64 0)) rfl (yl_move rfl) ?_
      refine T0_nil ?_
      refine hK41 _ _ ?_
      obtain ⟨o496, hl497, hn498⟩ := bind_elim h
      refine WC_post (fun (ρ : Env) (wd477 : World) => ∃ (x481 : (List Int)) (x485 : Int) (x486 : Int) (x487 : Int) (x488 : Int) (x489 : Int) (x490 : Int) (x491 : Int) (x492 : Bool) (v480 : Value), .inr (x481, x485, x486, x487, x488, x489, x490, x491, x492) = o496 ∧ Box wd477 b1 [v480, (.int .i64 x485), (.int .i64 x486), (.int .i64 x487), (.int .i64 x488), (.int .i64 x489), (.int .i64 x490), (.int .i64 x491), (.bool x492)] 130 ∧ Own 3 (v480 :: (.pointer (some ⟨b1, 0, none⟩)) :: L) wd477 v480 x481 ∧ (∀ b, blk v480 = some b → NewOr [v9, .pointer (some ⟨b1, 0, none⟩)] w b) ∧ (blk v480 ≠ some b1) ∧ Chg [v9, .pointer (some ⟨b1, 0, none⟩)] w wd477) ?_ ?_
      · intro K502 hK502
        refine WC_block ?_
        refine WC_loopk (fun sv ρ wd441 => ∃ (x446 : Int) (x450 : (List Int)) (x454 : Int) (x455 : Int) (x456 : Int) (x457 : Int) (x458 : Int) (x459 : Int) (x460 : Int) (x461 : Bool) (v449 : Value), (x446, x450, x454, x455, x456, x457, x458, x459, x460, x461) = sv ∧ ρ 0 = (.pointer (some ⟨b1, 0, none⟩)) ∧ ρ 2 = (.pointer (some ⟨b3, 0, none⟩)) ∧ ρ 3 = (.pointer (some ⟨b5, 0, none⟩)) ∧ ρ 12 = (.int .i64 x446) ∧ Box wd441 b1 [v449, (.int .i64 x454), (.int .i64 x455), (.int .i64 x456), (.int .i64 x457), (.int .i64 x458), (.int .i64 x459), (.int .i64 x460), (.bool x461)] 130 ∧ Box wd441 b2 [(.int .i64 c16)] 3 ∧ Box wd441 b3 [(.func (.func 117) #[] (List.toArray [(.pointer (some ⟨b1, 0, none⟩)), (.pointer (some ⟨b4, 0, none⟩))]))] 27 ∧ Box wd441 b4 [(.int .i64 c21)] 3 ∧ Box wd441 b5 [(.func (.func 119) #[] (List.toArray [(.pointer (some ⟨b1, 0, none⟩)), (.pointer (some ⟨b2, 0, none⟩)), (.pointer (some ⟨b3, 0, none⟩)), (.pointer (some ⟨b5, 0, none⟩))]))] 27 ∧ Own 3 (v449 :: (.pointer (some ⟨b1, 0, none⟩)) :: L) wd441 v449 x450 ∧ (∀ b, blk v449 = some b → NewOr [v9, .pointer (some ⟨b1, 0, none⟩)] w b) ∧ (blk v449 ≠ some b1) ∧ (blk v449 ≠ some b2) ∧ (blk v449 ≠ some b3) ∧ (blk v449 ≠ some b4) ∧ (blk v449 ≠ some b5) ∧ Chg [v9, .pointer (some ⟨b1, 0, none⟩)] w wd441) hl497 ⟨0, c8.LocateTrack.Vanes, c8.LocateTrack.Window, c8.LocateTrack.Tooth, c8.LocateTrack.PerVane, c8.LocateTrack.First, c8.LocateTrack.Modulus, c8.LocateTrack.Slack, c8.LocateTrack.Errors, c8.LocateTrack.Round, v9, rfl, rfl, rfl, rfl, rfl, hB6, hB14, hB17, hB19, hB22, hO11, newOr_v, hn24, hn25, hn27, hn29, hn31, e0⟩ ?_
        rintro _ ρ wd441 ⟨x446, x450, x454, x455, x456, x457, x458, x459, x460, x461, v449, rfl, hs443, hs444, hs445, hs447, hB463, hB465, hB467, hB469, hB471, h452, hf453, hn472, hn473, hn474, hn475, hn476, e442⟩ x499 h hx500 K501 hK501
        refine WC_seqK fun K504 hK504 => ?_
        refine WC_region ?_
        refine T0_q (v := (.bool (decide (x446 < 2)))) rfl (yl_lss hs447 rfl) ?_
        refine T0_nil ?_
        refine hK504 _ _ ?_
        refine WC_seqK fun K505 hK505 => ?_
        refine WC_cond (b := (decide (x446 < 2))) rfl (fun hb506 => ?_) (fun hb506 => ?_)
        · replace h := cond_t hb506 h
          refine WC_skip ?_
          refine hK505 _ _ ?_
          refine WC_seqK fun K507 hK507 => ?_
          refine WC_block ?_
          refine WC_seqK fun K508 hK508 => ?_
          refine WC_region ?_
          refine T0_q (v := (.int .i64 x446)) rfl (yl_move hs447) ?_
          refine T0_q (v := (.int .i64 x446)) rfl (yl_assign rfl) ?_
          refine T0_nil ?_
          refine hK508 _ _ ?_
          refine WC_seqK fun K509 hK509 => ?_
          refine WC_region ?_
          refine T0_q (v := (.pointer (some ⟨b1, 0, none⟩))) rfl (yl_fa 0 Tryd.underlying130 rfl rfl ⟨8, sz24⟩ hs443 rfl) ?_
          refine T0_q (v := (.pointer (some ⟨b1, 0, none⟩))) rfl (yl_fa 0 Tryd.underlying24 rfl rfl ⟨0, sz22⟩ rfl rfl) ?_
          refine T0_q (v := v449) rfl (yl_load sc22 rfl (Box.at hB463)) ?_
          refine T0_q (v := (.int .i64 x446)) rfl (yl_move rfl) ?_
          refine T0_e rfl (eff_buildTC (xs := ([x446] : List Int)) (cells := [(.int .i64 x446)]) Tryd.underlying22 ei3 rfl (pc_cons rfl rfl pc_nil) rfl (Elems.cons (cs := [(.int .i64 x446)]) rfl Elems.nil) rfl (ltl_own (ltl_box (hL.chg e442) hB463) h452) ?_)
          intro b513 wd510 he511 h512
          have e514 := e442.thenE he511
          obtain ⟨zs516, hz517, h⟩ := bind_elim h
          refine T0_e rfl (eff_app Tryd.underlying22 ei3 rfl rfl rfl rfl (h452.ext he511) h512 hz517 ?_)
          intro v518 wd519 hc520 hbl521 h522
          have hn524 : blk v518 ≠ some b1 := ne_swap hbl521 hn472 (hB463.ext he511)
          have hn525 : blk v518 ≠ some b2 := ne_swap hbl521 hn473 (hB465.ext he511)
          have hn526 : blk v518 ≠ some b3 := ne_swap hbl521 hn474 (hB467.ext he511)
          have hn527 : blk v518 ≠ some b4 := ne_swap hbl521 hn475 (hB469.ext he511)
          have hn528 : blk v518 ≠ some b5 := ne_swap hbl521 hn476 (hB471.ext he511)
          have hf529 := freshH_swap hbl521 hf453 e514.size
          have h530 := (hB463.ext he511).chg hc520 (avoid1 hn472)
          have h531 := (hB465.ext he511).chg hc520 (avoid1 hn473)
          have h532 := (hB467.ext he511).chg hc520 (avoid1 hn474)
          have h533 := (hB469.ext he511).chg hc520 (avoid1 hn475)
          have h534 := (hB471.ext he511).chg hc520 (avoid1 hn476)
          have h535 := h512.step (Stepp.swap hc520 hbl521)
          have e536 := chgH_own e514 hc520 hf453
          refine T0_q (v := (.pointer (some ⟨b1, 0, none⟩))) rfl (yl_fa 0 Tryd.underlying130 rfl rfl ⟨8, sz24⟩ hs443 rfl) ?_
          refine T0_q (v := (.pointer (some ⟨b1, 0, none⟩))) rfl (yl_fa 0 Tryd.underlying24 rfl rfl ⟨0, sz22⟩ rfl rfl) ?_
          refine T0_e rfl (eff_storeC (vs := [v518]) (cs' := [v518, (.int .i64 x454), (.int .i64 x455), (.int .i64 x456), (.int .i64 x457), (.int .i64 x458), (.int .i64 x459), (.int .i64 x460), (.bool x461)]) sz22 (cells_one h522.one1) rfl rfl rfl h530 rfl (oc_cons h522.one1 oc_nil) rfl ?_)
          intro wd538 hc539 hB540
          have h541 := h531.chg hc539 (avoidb hn26)
          have h542 := h532.chg hc539 (avoidb hn28)
          have h543 := h533.chg hc539 (avoidb hn30)
          have h544 := h534.chg hc539 (avoidb hn32)
          have h545 := h535.step (Stepp.chg_mem hc539 (memS mem0))
          have h546 := h522.step (Stepp.chg_mem hc539 (memS mem0)) hc539 (av_box hn524)
          have e547 := chgH_box e536 hc539 newOr_p
          refine T0_nil ?_
          refine hK509 _ _ ?_
          refine WC_seqK fun K548 hK548 => ?_
          refine WC_seqK fun K549 hK549 => ?_
          refine WC_region ?_
          refine T0_q (v := (.func (.func 117) #[] (List.toArray [(.pointer (some ⟨b1, 0, none⟩)), (.pointer (some ⟨b4, 0, none⟩))]))) rfl (yl_load sc27 hs444 (Box.at h542)) ?_
          obtain ⟨r550, hr551, h⟩ := bind_elim h
          refine T0_e rfl (eff_callC rfl Tryd.func117 nm117 rfl ev0 rfl (locate_FirstTrack_1_ok [] _ (LtL.nil _) b1 b4 [v518, (.int .i64 x454), (.int .i64 x455), (.int .i64 x456), (.int .i64 x457), (.int .i64 x458), (.int .i64 x459), (.int .i64 x460), (.bool x461)] (locate_track.mk (LocateTrack.mk zs516 x454 x455 x456 x457 x458 x459 x460 x461)) ⟨v518, ((h546.sub (fun _ h => by cases h)).rd (fun b _ => Avoids.nil b)), rfl⟩ hB540 c21 h543 r550 hr551) ?_)
          rintro _ wd552 ⟨he553, rfl⟩
          have e554 := e547.thenE he553
          refine T0_q (v := (.bool r550)) rfl (yl_move rfl) ?_
          refine T0_g (v := (.func (.func 119) #[] (List.toArray [(.pointer (some ⟨b1, 0, none⟩)), (.pointer (some ⟨b2, 0, none⟩)), (.pointer (some ⟨b3, 0, none⟩)), (.pointer (some ⟨b5, 0, none⟩))]))) r550 (wanted_t rfl rfl rfl rfl) (fun hg => (yl_load sc27 hs445 (Box.at (h544.ext he553)))) ?_
          have h555 := (h545.ext he553).sub (sub_cons (memS mem0) (sub_cons mem0 (sub_skip (sub_skip (sub_refl _)))))
          have h556 := (h546.ext he553).sub (sub_cons (memS mem0) (sub_cons mem0 (sub_skip (sub_skip (sub_refl _)))))
          have h557 := h555.sub (sub_cons (memS mem0) (sub_cons mem0 (sub_skip (sub_skip (sub_refl _)))))
          have h558 := h556.sub (sub_cons (memS mem0) (sub_cons mem0 (sub_skip (sub_skip (sub_refl _)))))
          obtain ⟨r559, hr560, h⟩ := bind_elim h
          refine T0_gm (fun v563 w' => Chg [v518, (.pointer (some ⟨b1, 0, none⟩))] wd552 w' ∧ Box w' b1 [v563, (.int .i64 r559.2.LocateTrack.Window), (.int .i64 r559.2.LocateTrack.Tooth), (.int .i64 r559.2.LocateTrack.PerVane), (.int .i64 r559.2.LocateTrack.First), (.int .i64 r559.2.LocateTrack.Modulus), (.int .i64 r559.2.LocateTrack.Slack), (.int .i64 r559.2.LocateTrack.Errors), (.bool r559.2.LocateTrack.Round)] 130 ∧ Own 3 (v563 :: (.pointer (some ⟨b1, 0, none⟩)) :: L) w' v563 r559.2.LocateTrack.Vanes ∧ (blk v563 ≠ some b1) ∧ (∀ k, blk v563 = some k → blk v518 = some k ∨ wd552.heap.size ≤ k)) (.bool r559.1) r550 (wanted_t rfl rfl rfl rfl) (fun hg => eff_callC (gd_true hg) Tryd.func119 nm119 rfl ev0 rfl (ih L _ (hL.chg e554) b1 b2 b3 b4 b5 v518 (locate_track.mk (LocateTrack.mk zs516 x454 x455 x456 x457 x458 x459 x460 x461)) (h558.sub (sub_cons mem0 (sub_cons (memS mem0) (sub_skip (sub_skip (sub_refl _)))))) (hB540.ext he553) c16 (h541.ext he553) (h542.ext he553) c21 (h543.ext he553) (h544.ext he553) hn524 hn525 hn26 hn526 hn28 hn527 hn30 hn528 hn32 r559 (cond_t hg hr560)) (fun _ _ ⟨hc, v_, hv, h1, h2, h3, h4⟩ => ⟨hv.symm, v_, hc, h1, h2, h3, h4⟩)) (fun hg => by obtain rfl := some_out (cond_f hg hr560); exact ⟨_, Chg.refl _ _, (hB540.ext he553), h558, hn524, fun _ h => .inl h⟩) ?_
          rintro v563 wd561 ⟨he562, hB565, h566, hn567, hbl568⟩
          have hn570 : blk v563 ≠ some b2 := ne_swap hbl568 hn525 (h541.ext he553)
          have hn571 : blk v563 ≠ some b3 := ne_swap hbl568 hn526 (h542.ext he553)
          have hn572 : blk v563 ≠ some b4 := ne_swap hbl568 hn527 (h543.ext he553)
          have hn573 : blk v563 ≠ some b5 := ne_swap hbl568 hn528 (h544.ext he553)
          have hf574 := freshH_swap hbl568 hf529 e554.size
          have h575 := (h541.ext he553).chg he562 (avoid2 hn525 hn26)
          have h576 := (h542.ext he553).chg he562 (avoid2 hn526 hn28)
          have h577 := (h543.ext he553).chg he562 (avoid2 hn527 hn30)
          have h578 := (h544.ext he553).chg he562 (avoid2 hn528 hn32)
          have h579 := h557.step (Stepp.swap2 he562 hbl568)
          have e580 := chgH_two e554 he562 hf529 newOr_p
          refine T0_q (v := (.bool (r550 && r559.1))) rfl (yl_and rfl (fun hb => (gd_true hb)) rfl) ?_
          refine T0_nil ?_
          refine hK549 _ _ ?_
          refine WC_cond (b := (r550 && r559.1)) rfl (fun hb582 => ?_) (fun hb582 => ?_)
          · replace h := cond_t hb582 h
            refine WC_seqK fun K583 hK583 => ?_
            refine WC_region ?_
            refine T0_q (v := (.bool true)) rfl (yl_assign rfl) ?_
            refine T0_nil ?_
            refine hK583 _ _ ?_
            refine WC_ret ?_
            replace h := some_out h
            subst h
            have ho := hx500 _ rfl
            subst ho
            replace h := jn0_inl hn498
            replace h := some_out h
            subst h
            exact ⟨[(.bool true)], ⟨rfl, trivial⟩, e580, v563, rfl, hB565, (h566.sub (sub_cons mem0 (sub_cons (memS mem0) (sub_skip (sub_skip (sub_refl _)))))), hn567, (hbl_of hf574 hn567)⟩
          · replace h := cond_f hb582 h
            refine WC_skip ?_
            refine hK548 _ _ ?_
            refine WC_region ?_
            refine T0_q (v := (.pointer (some ⟨b1, 0, none⟩))) rfl (yl_fa 0 Tryd.underlying130 rfl rfl ⟨8, sz24⟩ hs443 rfl) ?_
            refine T0_q (v := (.pointer (some ⟨b1, 0, none⟩))) rfl (yl_fa 0 Tryd.underlying24 rfl rfl ⟨0, sz22⟩ rfl rfl) ?_
            refine T0_q (v := v563) rfl (yl_load sc22 rfl (Box.at hB565)) ?_
            refine T0_q (v := (.pointer (some ⟨b1, 0, none⟩))) rfl (yl_fa 0 Tryd.underlying130 rfl rfl ⟨8, sz24⟩ hs443 rfl) ?_
            refine T0_q (v := (.pointer (some ⟨b1, 0, none⟩))) rfl (yl_fa 0 Tryd.underlying24 rfl rfl ⟨0, sz22⟩ rfl rfl) ?_
            refine T0_q (v := v563) rfl (yl_load sc22 rfl (Box.at hB565)) ?_
            refine T0_q (v := (.int .i64 (r559.2.LocateTrack.Vanes.length : Int))) rfl (yl_lenO rfl Tryd.underlying22 h566 rfl) ?_
            refine T0_q (v := (.int .i64 (w64 ((r559.2.LocateTrack.Vanes.length : Int) - 1)))) rfl (yl_sub rfl rfl) ?_
            obtain ⟨ys584, hys585, h⟩ := bind_elim h
            have h586 := h579.step (Stepp.ren (w := wd561) (L := ((.pointer (some ⟨b1, 0, none⟩)) :: L)) (v := v563) (v' := (cutv v563 0 (w64 ((r559.2.LocateTrack.Vanes.length : Int) - 1) : Int).toNat 1)) blk_cutv)
            have h588 := (Own.cutf h566 hys585).step (Stepp.ren (w := wd561) (L := ((.pointer (some ⟨b1, 0, none⟩)) :: L)) (v := v563) (v' := (cutv v563 0 (w64 ((r559.2.LocateTrack.Vanes.length : Int) - 1) : Int).toNat 1)) blk_cutv) (Chg.refl [] _) (fun _ _ => Avoids.nil _)
            have hn591 : blk (cutv v563 0 (w64 ((r559.2.LocateTrack.Vanes.length : Int) - 1) : Int).toNat 1) ≠ some b1 := by rw [blk_cutv]; exact hn567
            have hn592 : blk (cutv v563 0 (w64 ((r559.2.LocateTrack.Vanes.length : Int) - 1) : Int).toNat 1) ≠ some b2 := by rw [blk_cutv]; exact hn570
            have hn593 : blk (cutv v563 0 (w64 ((r559.2.LocateTrack.Vanes.length : Int) - 1) : Int).toNat 1) ≠ some b3 := by rw [blk_cutv]; exact hn571
            have hn594 : blk (cutv v563 0 (w64 ((r559.2.LocateTrack.Vanes.length : Int) - 1) : Int).toNat 1) ≠ some b4 := by rw [blk_cutv]; exact hn572
            have hn595 : blk (cutv v563 0 (w64 ((r559.2.LocateTrack.Vanes.length : Int) - 1) : Int).toNat 1) ≠ some b5 := by rw [blk_cutv]; exact hn573
            have hf596 : ∀ b, blk (cutv v563 0 (w64 ((r559.2.LocateTrack.Vanes.length : Int) - 1) : Int).toNat 1) = some b → NewOr [v9, .pointer (some ⟨b1, 0, none⟩)] w b := by rw [blk_cutv]; exact hf574
            refine T0_q (v := (cutv v563 0 (w64 ((r559.2.LocateTrack.Vanes.length : Int) - 1) : Int).toNat 1)) rfl (yl_cut_hO Tryd.underlying22 sz3 h566 hys585 rfl rfl) ?_
            refine T0_q (v := (.pointer (some ⟨b1, 0, none⟩))) rfl (yl_fa 0 Tryd.underlying130 rfl rfl ⟨8, sz24⟩ hs443 rfl) ?_
            refine T0_q (v := (.pointer (some ⟨b1, 0, none⟩))) rfl (yl_fa 0 Tryd.underlying24 rfl rfl ⟨0, sz22⟩ rfl rfl) ?_
            refine T0_e rfl (eff_storeC (vs := [(cutv v563 0 (w64 ((r559.2.LocateTrack.Vanes.length : Int) - 1) : Int).toNat 1)]) (cs' := [(cutv v563 0 (w64 ((r559.2.LocateTrack.Vanes.length : Int) - 1) : Int).toNat 1), (.int .i64 r559.2.LocateTrack.Window), (.int .i64 r559.2.LocateTrack.Tooth), (.int .i64 r559.2.LocateTrack.PerVane), (.int .i64 r559.2.LocateTrack.First), (.int .i64 r559.2.LocateTrack.Modulus), (.int .i64 r559.2.LocateTrack.Slack), (.int .i64 r559.2.LocateTrack.Errors), (.bool r559.2.LocateTrack.Round)]) sz22 (cells_one h588.one1) rfl rfl rfl hB565 rfl (oc_cons h588.one1 oc_nil) rfl ?_)
            intro wd597 hc598 hB599
            have h600 := h575.chg hc598 (avoidb hn26)
            have h601 := h576.chg hc598 (avoidb hn28)
            have h602 := h577.chg hc598 (avoidb hn30)
            have h603 := h578.chg hc598 (avoidb hn32)
            have h604 := h586.step (Stepp.chg_mem hc598 (memS mem0))
            have h605 := h588.step (Stepp.chg_mem hc598 (memS mem0)) hc598 (av_box hn591)
            have e606 := chgH_box e580 hc598 newOr_p
            refine T0_nil ?_
            refine hK507 _ _ ?_
            refine WC_region ?_
            refine T0_q (v := (.int .i64 (w64 (x446 + 1)))) rfl (yl_add hs447 rfl) ?_
            refine T0_q (v := (.int .i64 (w64 (x446 + 1)))) rfl (yl_move rfl) ?_
            refine T0_nil ?_
            replace h := some_out h
            subst h
            refine hK501 _ _ _ rfl ?_
            exact ⟨w64 (x446 + 1), ys584, r559.2.LocateTrack.Window, r559.2.LocateTrack.Tooth, r559.2.LocateTrack.PerVane, r559.2.LocateTrack.First, r559.2.LocateTrack.Modulus, r559.2.LocateTrack.Slack, r559.2.LocateTrack.Errors, r559.2.LocateTrack.Round, (cutv v563 0 (w64 ((r559.2.LocateTrack.Vanes.length : Int) - 1) : Int).toNat 1), rfl, hs443, hs444, hs445, rfl, hB599, h600, h601, h602, h603, h605, hf596, hn591, hn592, hn593, hn594, hn595, e606⟩
        · replace h := cond_f hb506 h
          refine WC_exit ?_
          replace h := some_out h
          subst h
          have ho := hx500 _ rfl
          subst ho
          refine hK502 _ _ ?_
          exact ⟨x450, x454, x455, x456, x457, x458, x459, x460, x461, v449, rfl, hB463, h452, hf453, hn472, e442⟩
      · rintro ρ wd477 ⟨x481, x485, x486, x487, x488, x489, x490, x491, x492, v480, rfl, hB494, h483, hf484, hn495, e478⟩
        replace h := jn0_inr hn498
        refine hK40 _ _ ?_
        refine WC_seqK fun K607 hK607 => ?_
        refine WC_region ?_
        refine T0_q (v := (.bool false)) rfl (yl_assign rfl) ?_
        refine T0_nil ?_
        refine hK607 _ _ ?_
        refine WC_ret ?_
        replace h := some_out h
        subst h
        exact ⟨[(.bool false)], ⟨rfl, trivial⟩, e478, v480, rfl, hB494, (h483.sub (sub_cons mem0 (sub_cons (memS mem0) (sub_skip (sub_skip (sub_refl _)))))), hn495, (hbl_of hf484 hn495)⟩

noncomputable def locate_FirstTrack_spec (p_length : Int) (p_size : Int) (p_distance : Int) : Option ((List Int) × Int) :=
  (Option.bind (locate_within_spec p_length 1 14) fun r20 =>
  (Option.bind (bif r20 then locate_within_spec p_size 1 12 else some default) fun r26 =>
  (Option.bind (bif (r20 && r26) then locate_within_spec p_distance 0 12 else some default) fun r33 =>
  (Option.bind (locate_unless_spec ((r20 && r26) && r33) 2) fun r47 =>
  (Option.bind (locate_unless_spec (decide (p_size ≤ p_length)) 10) fun r54 =>
  (Option.bind (locate_first_spec ([r47, r54] : List Int)) fun r71 =>
  (bif (!decide (r71 = 0)) then (
    some (([] : (List Int)), r71)
  ) else (
    (Option.bind (locate_FirstTrack_2_spec 20 (locate_track.mk (LocateTrack.mk ([] : List Int) p_size 0 0 0 0 0 0 false)) p_length p_distance) fun r158 =>
    (bif (!r158.1) then (
      some (([] : (List Int)), 12)
    ) else (
      some (r158.2.LocateTrack.Vanes, 0)
    ))
    )
  ))
  )
  )
  )
  )
  )
  )
theorem locate_FirstTrack_ok (L : List Value) (w : World) (hL : LtL L w) (p_length : Int) (p_size : Int) (p_distance : Int) (r : (List Int) × Int) (h : locate_FirstTrack_spec p_length p_size p_distance = some r) :
    CallsTo Tryd.prog 79 [(.int .i64 p_length), (.int .i64 p_size), (.int .i64 p_distance)] w (fun v w' => Ext w w' ∧ ∃ (v0 : Value), (.tuple #[v0, (.int .i64 r.2)]) = v ∧ SlRd L w' v0 r.1) := by
  have e0 : Ext w w := Chg.refl _ _
  refine callsTo_of_WC (n := 45) (rs := [.tmp 6, .tmp 7]) Tryd.func79 rfl rfl rfl rfl rfl ?_
  refine WC_seqK fun K1 hK1 => ?_
  refine WC_region ?_
  refine T0_e rfl (eff_boxC (cs := [(.int .i64 p_length)]) rfl rfl ?_)
  intro b2 wd3 hb4 he5 hB6
  have hbf7 := bfresh e0 hb4
  have e8 := e0.trans he5
  refine T0_e rfl (eff_boxC (cs := [(.int .i64 p_distance)]) rfl rfl ?_)
  intro b10 wd11 hb12 he13 hB14
  have hn15 : b10 ≠ b2 := box_ne hB6 hb12
  have hbf16 := bfresh e8 hb12
  have e17 := e8.trans he13
  refine T0_q (v := (.slice none 0 0)) rfl (yl_assign rfl) ?_
  refine T0_q (v := (.int .i64 0)) rfl (yl_assign rfl) ?_
  refine T0_nil ?_
  refine hK1 _ _ ?_
  refine WC_seqK fun K19 hK19 => ?_
  refine WC_region ?_
  refine T0_q (v := (.int .i64 p_length)) rfl (yl_load sc3 rfl (Box.at (hB6.ext he13))) ?_
  obtain ⟨r20, hr21, h⟩ := bind_elim h
  refine T0_e rfl (eff_call Tryd.func86 nm86 rfl (ev3 rfl rfl rfl) (locate_within_ok [] _ (LtL.nil _) p_length 1 14 r20 hr21) ?_)
  rintro _ wd22 ⟨he23, rfl⟩
  have e24 := he13.trans he23
  have e25 := e17.trans he23
  refine T0_q (v := (.bool r20)) rfl (yl_move rfl) ?_
  refine T0_g (v := (.int .i64 p_size)) r20 (wanted_t rfl rfl rfl rfl) (fun hg => (yl_move rfl)) ?_
  obtain ⟨r26, hr27, h⟩ := bind_elim h
  refine T0_ges r20 (.bool r26) (wanted_t rfl rfl rfl rfl) (fun hg => eff_call Tryd.func86 nm86 rfl (ev3 (gd_true hg) rfl rfl) (locate_within_ok [] _ (LtL.nil _) p_size 1 12 r26 (cond_t hg hr27)) (by rintro _ wd28 ⟨he29, rfl⟩; exact ⟨rfl, he29⟩)) ?_
  intro wd28 he29
  have e30 := he23.trans he29
  have e31 := e24.trans he29
  have e32 := e25.trans he29
  refine T0_q (v := (.bool (r20 && r26))) rfl (yl_and rfl (fun hb => (gd_true hb)) rfl) ?_
  refine T0_q (v := (.bool (r20 && r26))) rfl (yl_move rfl) ?_
  refine T0_g (v := (.int .i64 p_distance)) (r20 && r26) (wanted_t rfl rfl rfl rfl) (fun hg => (yl_load sc3 rfl (Box.at (hB14.ext e30)))) ?_
  obtain ⟨r33, hr34, h⟩ := bind_elim h
  refine T0_ges (r20 && r26) (.bool r33) (wanted_t rfl rfl rfl rfl) (fun hg => eff_call Tryd.func86 nm86 rfl (ev3 (gd_true hg) rfl rfl) (locate_within_ok [] _ (LtL.nil _) p_distance 0 12 r33 (cond_t hg hr34)) (by rintro _ wd35 ⟨he36, rfl⟩; exact ⟨rfl, he36⟩)) ?_
  intro wd35 he36
  have e37 := e30.trans he36
  have e38 := e31.trans he36
  have e39 := e32.trans he36
  refine T0_q (v := (.bool ((r20 && r26) && r33))) rfl (yl_and rfl (fun hb => (gd_true hb)) rfl) ?_
  refine T0_q (v := (.bool ((r20 && r26) && r33))) rfl (yl_assign rfl) ?_
  refine T0_nil ?_
  refine hK19 _ _ ?_
  refine WC_seqK fun K40 hK40 => ?_
  refine WC_seqK fun K41 hK41 => ?_
  refine WC_plan mixed (.p 0 (.p 3 (.q 2 (.p 4 (.e 1 (.e 5 (.e 6 (.e 7 (.p 8 .done))))))))) (by kernel_rfl) ?_
  intro wd42 he43
  have e44 := e37.trans he43
  have e45 := e38.trans he43
  have e46 := e39.trans he43
  refine TP_p (v := (.bool ((r20 && r26) && r33))) rfl rfl (fun w' => (yl_move rfl)) ?_
  refine TP_p (v := (.int .i64 p_size)) rfl rfl (fun w' => (yl_move rfl)) ?_
  refine TP_q (v := (.int .i64 p_length)) rfl rfl (fun w' hS => (yl_load sc3 rfl (Box.at (hB6.ext ((e45).trans hS))))) ?_
  refine TP_p (v := (.bool (decide (p_size ≤ p_length)))) rfl rfl (fun w' => (yl_geq rfl rfl)) ?_
  obtain ⟨r47, hr48, h⟩ := bind_elim h
  refine TP_e rfl rfl (eff_call Tryd.func85 nm85 rfl (ev2 rfl rfl) (locate_unless_ok [] _ (LtL.nil _) ((r20 && r26) && r33) 2 r47 hr48) ?_)
  rintro _ wd49 ⟨he50, rfl⟩
  have e51 := e44.trans he50
  have e52 := e45.trans he50
  have e53 := e46.trans he50
  refine ⟨he50, ?_⟩
  obtain ⟨r54, hr55, h⟩ := bind_elim h
  refine TP_e rfl rfl (eff_call Tryd.func85 nm85 rfl (ev2 rfl rfl) (locate_unless_ok [] _ (LtL.nil _) (decide (p_size ≤ p_length)) 10 r54 hr55) ?_)
  rintro _ wd56 ⟨he57, rfl⟩
  have e58 := e51.trans he57
  have e59 := e52.trans he57
  have e60 := he50.trans he57
  have e61 := e53.trans he57
  refine ⟨e60, ?_⟩
  refine TP_e rfl rfl (eff_buildTC (xs := ([r47, r54] : List Int)) (cells := [(.int .i64 r47), (.int .i64 r54)]) Tryd.underlying164 ei30 rfl (pc_cons rfl rfl (pc_cons rfl rfl pc_nil)) rfl (Elems.cons (cs := [(.int .i64 r47)]) rfl (Elems.cons (cs := [(.int .i64 r54)]) rfl Elems.nil)) rfl (hL.chg e61) ?_)
  intro b65 wd62 he63 h64
  have e66 := e58.trans he63
  have e67 := e59.trans he63
  have e68 := e60.trans he63
  have e69 := e61.trans he63
  refine ⟨e68, ?_⟩
  obtain ⟨r71, hr72, h⟩ := bind_elim h
  refine TP_e rfl rfl (eff_call Tryd.func84 nm84 rfl (ev1 rfl) (locate_first_ok [] _ (LtL.nil _) (.slice (some ⟨b65, 0, none⟩) 2 2) ([r47, r54] : List Int) (h64.sub (fun _ h => by cases h)) r71 hr72) ?_)
  rintro _ wd73 ⟨he74, rfl⟩
  have e75 := e66.trans he74
  have e76 := e67.trans he74
  have e77 := e68.trans he74
  have e78 := e69.trans he74
  refine ⟨e77, ?_⟩
  refine TP_p (v := (.int .i64 r71)) rfl rfl (fun w' => (yl_assign rfl)) ?_
  refine TP_done ?_
  refine hK41 _ _ ?_
  refine WC_seqK fun K79 hK79 => ?_
  refine WC_region ?_
  refine T0_q (v := (.int .i64 r71)) rfl (yl_move rfl) ?_
  refine T0_q (v := (.bool (!decide (r71 = 0)))) rfl (yl_neq rfl rfl) ?_
  refine T0_nil ?_
  refine hK79 _ _ ?_
  refine WC_cond (b := (!decide (r71 = 0))) rfl (fun hb80 => ?_) (fun hb80 => ?_)
  · replace h := cond_t hb80 h
    refine WC_seqK fun K81 hK81 => ?_
    refine WC_region ?_
    refine T0_q (v := (.int .i64 r71)) rfl (yl_move rfl) ?_
    refine T0_q (v := (.slice none 0 0)) rfl (yl_assign rfl) ?_
    refine T0_q (v := (.int .i64 r71)) rfl (yl_assign rfl) ?_
    refine T0_nil ?_
    refine hK81 _ _ ?_
    refine WC_ret ?_
    replace h := some_out h
    subst h
    exact ⟨[(.slice none 0 0), (.int .i64 r71)], ⟨rfl, rfl, trivial⟩, e78, (.slice none 0 0), rfl, (SlRd.nil _ _)⟩
  · replace h := cond_f hb80 h
    refine WC_skip ?_
    refine hK40 _ _ ?_
    refine WC_seqK fun K82 hK82 => ?_
    refine WC_region ?_
    refine T0_q (v := (.int .i64 p_size)) rfl (yl_move rfl) ?_
    refine T0_q (v := (.agg (List.toArray [(.slice none 0 0), (.int .i64 p_size), (.int .i64 0), (.int .i64 0), (.int .i64 0), (.int .i64 0), (.int .i64 0), (.int .i64 0), (.bool false)]))) rfl (yl_buildC (cells := [(.slice none 0 0), (.int .i64 p_size), (.int .i64 0), (.int .i64 0), (.int .i64 0), (.int .i64 0), (.int .i64 0), (.int .i64 0), (.bool false)]) bi24 (pc_cons rfl rfl pc_nil) rfl) ?_
    refine T0_q (v := (.agg (List.toArray [(.slice none 0 0), (.int .i64 p_size), (.int .i64 0), (.int .i64 0), (.int .i64 0), (.int .i64 0), (.int .i64 0), (.int .i64 0), (.bool false)]))) rfl (yl_buildC (cells := [(.slice none 0 0), (.int .i64 p_size), (.int .i64 0), (.int .i64 0), (.int .i64 0), (.int .i64 0), (.int .i64 0), (.int .i64 0), (.bool false)]) bi130 (pc_cons rfl rfl pc_nil) rfl) ?_
    refine T0_e rfl (eff_allocZ zi130 ?_)
    intro b83 wd84 hb85 he86 hB87
    have hn88 : b83 ≠ b2 := box_ne (hB6.ext e76) hb85
    have hn89 : b83 ≠ b10 := box_ne (hB14.ext e75) hb85
    have hbf90 := bfresh e78 hb85
    have h91 := (h64.ext he74).step (add_box he86 hb85)
    have e92 := e75.trans he86
    have e93 := e76.trans he86
    have e94 := e78.trans he86
    refine T0_e rfl (eff_storeC (vs := [(.slice none 0 0), (.int .i64 p_size), (.int .i64 0), (.int .i64 0), (.int .i64 0), (.int .i64 0), (.int .i64 0), (.int .i64 0), (.bool false)]) (cs' := [(.slice none 0 0), (.int .i64 p_size), (.int .i64 0), (.int .i64 0), (.int .i64 0), (.int .i64 0), (.int .i64 0), (.int .i64 0), (.bool false)]) sz130 rfl rfl rfl rfl hB87 rfl (oc_cons rfl (oc_cons rfl (oc_cons rfl (oc_cons rfl (oc_cons rfl (oc_cons rfl (oc_cons rfl (oc_cons rfl (oc_cons rfl oc_nil))))))))) rfl ?_)
    intro wd96 hc97 hB98
    have h99 := (hB6.ext e93).chg hc97 (avoidb hn88)
    have h100 := (hB14.ext e92).chg hc97 (avoidb hn89)
    have h101 := h91.step (Stepp.chg_mem hc97 mem0)
    have e102 := chg_box e94 hc97 hbf90
    refine T0_nil ?_
    refine hK82 _ _ ?_
    refine WC_seqK fun K103 hK103 => ?_
    refine WC_region ?_
    refine T0_q (v := (.func (.func 117) #[] (List.toArray [(.pointer (some ⟨b83, 0, none⟩)), (.pointer (some ⟨b10, 0, none⟩))]))) rfl (yl_makeFunc (ev2 rfl rfl)) ?_
    refine T0_e rfl (eff_allocZ zi27 ?_)
    intro b104 wd105 hb106 he107 hB108
    have hn109 : b104 ≠ b2 := box_ne h99 hb106
    have hn110 : b104 ≠ b10 := box_ne h100 hb106
    have hn111 : b104 ≠ b83 := box_ne hB98 hb106
    have hbf112 := bfresh e102 hb106
    have h113 := h101.step (add_box he107 hb106)
    have e114 := e102.trans he107
    refine T0_e rfl (eff_storeC (vs := [(.func (.func 117) #[] (List.toArray [(.pointer (some ⟨b83, 0, none⟩)), (.pointer (some ⟨b10, 0, none⟩))]))]) (cs' := [(.func (.func 117) #[] (List.toArray [(.pointer (some ⟨b83, 0, none⟩)), (.pointer (some ⟨b10, 0, none⟩))]))]) sz27 rfl rfl rfl rfl hB108 rfl (oc_cons rfl oc_nil) rfl ?_)
    intro wd116 hc117 hB118
    have h119 := (h99.ext he107).chg hc117 (avoidb hn109)
    have h120 := (h100.ext he107).chg hc117 (avoidb hn110)
    have h121 := h113.step (Stepp.chg_mem hc117 mem0)
    have h122 := (hB98.ext he107).chg hc117 (avoidb hn111)
    have e123 := chg_box e114 hc117 hbf112
    refine T0_nil ?_
    refine hK103 _ _ ?_
    refine WC_seqK fun K124 hK124 => ?_
    refine WC_region ?_
    refine T0_e rfl (eff_allocZ zi27 ?_)
    intro b125 wd126 hb127 he128 hB129
    have hn130 : b125 ≠ b2 := box_ne h119 hb127
    have hn131 : b125 ≠ b10 := box_ne h120 hb127
    have hn132 : b125 ≠ b83 := box_ne h122 hb127
    have hn133 : b125 ≠ b104 := box_ne hB118 hb127
    have hbf134 := bfresh e123 hb127
    have h135 := h121.step (add_box he128 hb127)
    have e136 := e123.trans he128
    refine T0_nil ?_
    refine hK124 _ _ ?_
    refine WC_seqK fun K138 hK138 => ?_
    refine WC_region ?_
    refine T0_q (v := (.func (.func 119) #[] (List.toArray [(.pointer (some ⟨b83, 0, none⟩)), (.pointer (some ⟨b2, 0, none⟩)), (.pointer (some ⟨b104, 0, none⟩)), (.pointer (some ⟨b125, 0, none⟩))]))) rfl (yl_makeFunc (ev4 rfl rfl rfl rfl)) ?_
    refine T0_e rfl (eff_storeC (vs := [(.func (.func 119) #[] (List.toArray [(.pointer (some ⟨b83, 0, none⟩)), (.pointer (some ⟨b2, 0, none⟩)), (.pointer (some ⟨b104, 0, none⟩)), (.pointer (some ⟨b125, 0, none⟩))]))]) (cs' := [(.func (.func 119) #[] (List.toArray [(.pointer (some ⟨b83, 0, none⟩)), (.pointer (some ⟨b2, 0, none⟩)), (.pointer (some ⟨b104, 0, none⟩)), (.pointer (some ⟨b125, 0, none⟩))]))]) sz27 rfl rfl rfl rfl hB129 rfl (oc_cons rfl oc_nil) rfl ?_)
    intro wd139 hc140 hB141
    have h142 := (h119.ext he128).chg hc140 (avoidb hn130)
    have h143 := (h120.ext he128).chg hc140 (avoidb hn131)
    have h144 := h135.step (Stepp.chg_mem hc140 mem0)
    have h145 := (h122.ext he128).chg hc140 (avoidb hn132)
    have h146 := (hB118.ext he128).chg hc140 (avoidb hn133)
    have e147 := chg_box e136 hc140 hbf134
    refine T0_nil ?_
    refine hK138 _ _ ?_
    refine WC_seqK fun K148 hK148 => ?_
    refine WC_seqK fun K149 hK149 => ?_
    refine WC_region ?_
    refine T0_q (v := (.func (.func 119) #[] (List.toArray [(.pointer (some ⟨b83, 0, none⟩)), (.pointer (some ⟨b2, 0, none⟩)), (.pointer (some ⟨b104, 0, none⟩)), (.pointer (some ⟨b125, 0, none⟩))]))) rfl (yl_load sc27 rfl (Box.at hB141)) ?_
    have h150 := h144.step (add_nil _)
    have h152 : Own 3 ((.slice none 0 0) :: (.pointer (some ⟨b125, 0, none⟩)) :: (.pointer (some ⟨b104, 0, none⟩)) :: (.pointer (some ⟨b83, 0, none⟩)) :: L) wd139 (.slice none 0 0) ([] : List Int) := Own.nil _ _ _
    have h154 := h150.sub (sub_cons (memS (memS (memS mem0))) (sub_cons mem0 (sub_cons (memS mem0) (sub_cons (memS (memS mem0)) (sub_skip (sub_skip (sub_skip (sub_skip (sub_refl _)))))))))
    have h155 := h152.sub (sub_cons (memS (memS (memS mem0))) (sub_cons mem0 (sub_cons (memS mem0) (sub_cons (memS (memS mem0)) (sub_skip (sub_skip (sub_skip (sub_skip (sub_refl _)))))))))
    have h156 := h154.sub (sub_cons (memS mem0) (sub_cons mem0 (sub_cons (memS (memS mem0)) (sub_cons (memS (memS (memS mem0))) (sub_skip (sub_skip (sub_skip (sub_skip (sub_refl _)))))))))
    have h157 := h155.sub (sub_cons (memS mem0) (sub_cons mem0 (sub_cons (memS (memS mem0)) (sub_cons (memS (memS (memS mem0))) (sub_skip (sub_skip (sub_skip (sub_skip (sub_refl _)))))))))
    obtain ⟨r158, hr159, h⟩ := bind_elim h
    refine T0_e rfl (eff_callC rfl Tryd.func119 nm119 rfl ev0 rfl (locate_FirstTrack_2_ok 20 ((.pointer (some ⟨b125, 0, none⟩)) :: (.pointer (some ⟨b104, 0, none⟩)) :: L) _ (ltl_box (ltl_box (hL.chg e147) h146) hB141) b83 b2 b104 b10 b125 (.slice none 0 0) (locate_track.mk (LocateTrack.mk ([] : List Int) p_size 0 0 0 0 0 0 false)) (h157.sub (sub_cons mem0 (sub_cons (memS mem0) (sub_cons (memS (memS mem0)) (sub_cons (memS (memS (memS mem0))) (sub_skip (sub_skip (sub_skip (sub_skip (sub_refl _)))))))))) h145 p_length h142 h146 p_distance h143 hB141 (fun h => by cases h) (fun h => by cases h) hn88 (fun h => by cases h) hn111.symm (fun h => by cases h) hn89 (fun h => by cases h) hn132.symm r158 hr159) ?_)
    rintro _ wd160 ⟨he161, v162, rfl, hB164, h165, hn166, hbl167⟩
    have hn169 : blk v162 ≠ some b2 := ne_swap hbl167 (fun h => by cases h) h142
    have hn170 : blk v162 ≠ some b10 := ne_swap hbl167 (fun h => by cases h) h143
    have hn171 : blk v162 ≠ some b104 := ne_swap hbl167 (fun h => by cases h) h146
    have hn172 : blk v162 ≠ some b125 := ne_swap hbl167 (fun h => by cases h) hB141
    have hf173 := fresh_swap hbl167 (fun b h => blk_nil b h) e147.size
    have h174 := h142.chg he161 (avoid2 (fun h => by cases h) hn88)
    have h175 := h143.chg he161 (avoid2 (fun h => by cases h) hn89)
    have h176 := h156.step (Stepp.swap2 he161 hbl167)
    have h177 := h146.chg he161 (avoid2 (fun h => by cases h) hn111.symm)
    have h178 := hB141.chg he161 (avoid2 (fun h => by cases h) hn132.symm)
    have e179 := chg_two e147 he161 (fun b h => blk_nil b h) hbf90
    refine T0_q (v := (.bool (!r158.1))) rfl (yl_not rfl) ?_
    refine T0_nil ?_
    refine hK149 _ _ ?_
    refine WC_cond (b := (!r158.1)) rfl (fun hb181 => ?_) (fun hb181 => ?_)
    · replace h := cond_t hb181 h
      refine WC_seqK fun K182 hK182 => ?_
      refine WC_region ?_
      refine T0_q (v := (.slice none 0 0)) rfl (yl_assign rfl) ?_
      refine T0_q (v := (.int .i64 12)) rfl (yl_assign rfl) ?_
      refine T0_nil ?_
      refine hK182 _ _ ?_
      refine WC_ret ?_
      replace h := some_out h
      subst h
      exact ⟨[(.slice none 0 0), (.int .i64 12)], ⟨rfl, rfl, trivial⟩, e179, (.slice none 0 0), rfl, (SlRd.nil _ _)⟩
    · replace h := cond_f hb181 h
      refine WC_skip ?_
      refine hK148 _ _ ?_
      refine WC_seqK fun K183 hK183 => ?_
      refine WC_region ?_
      refine T0_q (v := (.pointer (some ⟨b83, 0, none⟩))) rfl (yl_fa 0 Tryd.underlying130 rfl rfl ⟨8, sz24⟩ rfl rfl) ?_
      refine T0_q (v := (.pointer (some ⟨b83, 0, none⟩))) rfl (yl_fa 0 Tryd.underlying24 rfl rfl ⟨0, sz22⟩ rfl rfl) ?_
      refine T0_q (v := v162) rfl (yl_load sc22 rfl (Box.at hB164)) ?_
      refine T0_q (v := v162) rfl (yl_assign rfl) ?_
      refine T0_q (v := (.int .i64 0)) rfl (yl_assign rfl) ?_
      refine T0_nil ?_
      refine hK183 _ _ ?_
      refine WC_ret ?_
      replace h := some_out h
      subst h
      exact ⟨[v162, (.int .i64 0)], ⟨rfl, rfl, trivial⟩, e179, v162, rfl, (h165.rdL (sub_skip (sub_skip (sub_skip (sub_skip (sub_refl _))))) hL hf173)⟩

end Go.Gw
