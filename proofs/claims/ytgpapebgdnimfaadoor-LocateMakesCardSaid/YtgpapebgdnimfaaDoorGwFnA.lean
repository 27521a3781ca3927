/- What functions come to, printed by a program of this work. No condition. -/
import Derived.Test.YtgpapebgdnimfaaDoorGwSortE
set_option maxRecDepth 4096
set_option maxHeartbeats 1000000
set_option linter.unusedVariables false
namespace Go.Gw
open Go Go.Proofs
attribute [local irreducible] T0 TS TT TP Eff Stp WC Quiet gd
noncomputable def base_Ranges_s0 (p_a : (List Range)) (p_b : (List Range)) : (Int) → Option ((Int) ⊕ (Bool ⊕ (Unit))) := fun x105 =>
  (bif (decide (x105 < (p_a.length : Int))) then (
    (Option.bind (idx p_a x105) fun el125 =>
    (Option.bind (idx p_b x105) fun el131 =>
    (bif (!(decide (el125 = el131))) then (
      some (.inr (.inl false))
    ) else (
      some (.inl (w64 (x105 + 1)))
    ))
    )
    )
  ) else (
    some (.inr (.inr ()))
  ))
noncomputable def base_Ranges_spec (p_a : (List Range)) (p_b : (List Range)) : Option Bool :=
  (bif (!decide ((p_a.length : Int) = (p_b.length : Int))) then (
    some false
  ) else (
    (Option.bind (loop (base_Ranges_s0 p_a p_b) 0) fun o109 => jn0 o109 fun (_ : Unit) =>
    some true
    )
  ))
theorem base_Ranges_ok (L : List Value) (w : World) (hL : LtL L w) (v_p_a : Value) (p_a : (List Range)) (h_p_a : SlRd L w v_p_a p_a) (v_p_b : Value) (p_b : (List Range)) (h_p_b : SlRd L w v_p_b p_b) (r : Bool) (h : base_Ranges_spec p_a p_b = some r) :
    CallsTo Tryd.prog 27 [v_p_a, v_p_b] w (fun v w' => Ext w w' ∧ (.bool r) = v) := by
  have e0 : Ext w w := Chg.refl _ _
  refine callsTo_of_WC (n := 26) (rs := [.tmp 4]) Tryd.func27 rfl rfl rfl rfl rfl ?_
  refine WC_seqK fun K3 hK3 => ?_
  refine WC_region ?_
  refine T0_q (v := (.bool false)) rfl (yl_assign rfl) ?_
  refine T0_nil ?_
  refine hK3 _ _ ?_
  refine WC_seqK fun K4 hK4 => ?_
  refine WC_seqK fun K5 hK5 => ?_
  refine WC_region ?_
  refine T0_q (v := v_p_a) rfl (yl_move rfl) ?_
  refine T0_q (v := (.int .i64 (p_a.length : Int))) rfl (yl_lenR rfl Tryd.underlying29 h_p_a rfl) ?_
  refine T0_q (v := v_p_b) rfl (yl_move rfl) ?_
  refine T0_q (v := (.int .i64 (p_b.length : Int))) rfl (yl_lenR rfl Tryd.underlying29 h_p_b rfl) ?_
  refine T0_q (v := (.bool (!decide ((p_a.length : Int) = (p_b.length : Int))))) rfl (yl_neq rfl rfl) ?_
  refine T0_nil ?_
  refine hK5 _ _ ?_
  refine WC_cond (b := (!decide ((p_a.length : Int) = (p_b.length : Int)))) rfl (fun hb6 => ?_) (fun hb6 => ?_)
  · replace h := cond_t hb6 h
    refine WC_seqK fun K7 hK7 => ?_
    refine WC_region ?_
    refine T0_q (v := (.bool false)) rfl (yl_assign rfl) ?_
    refine T0_nil ?_
    refine hK7 _ _ ?_
    refine WC_ret ?_
    replace h := some_out h
    subst h
    exact ⟨[(.bool false)], ⟨rfl, trivial⟩, e0, rfl⟩
  · replace h := cond_f hb6 h
    refine WC_skip ?_
    refine hK4 _ _ ?_
    refine WC_seqK fun K8 hK8 => ?_
    refine WC_seqK fun K9 hK9 => ?_
    refine WC_region ?_
    refine T0_q (v := (.int .i64 0)) rfl (yl_assign rfl) ?_
    refine T0_nil ?_
    refine hK9 _ _ ?_
    obtain ⟨o109, hl110, hn111⟩ := bind_elim h
    refine WC_post (fun (ρ : Env) (wd107 : World) => .inr () = o109 ∧ Ext w wd107) ?_ ?_
    · intro K115 hK115
      refine WC_block ?_
      refine WC_loopk (fun sv ρ wd99 => ∃ (x105 : Int), x105 = sv ∧ ρ 0 = v_p_a ∧ ρ 1 = v_p_b ∧ ρ 5 = (.int .i64 x105) ∧ SlRd L wd99 v_p_a p_a ∧ SlRd L wd99 v_p_b p_b ∧ Ext w wd99) hl110 ⟨0, rfl, rfl, rfl, rfl, h_p_a, h_p_b, e0⟩ ?_
      rintro _ ρ wd99 ⟨x105, rfl, hs102, hs104, hs106, h101, h103, e100⟩ x112 h hx113 K114 hK114
      refine WC_seqK fun K117 hK117 => ?_
      refine WC_seqK fun K118 hK118 => ?_
      refine WC_region ?_
      refine T0_q (v := (.int .i64 x105)) rfl (yl_move hs106) ?_
      refine T0_q (v := v_p_a) rfl (yl_move hs102) ?_
      refine T0_q (v := (.int .i64 (p_a.length : Int))) rfl (yl_lenR rfl Tryd.underlying29 h101 rfl) ?_
      refine T0_q (v := (.bool (decide (x105 < (p_a.length : Int))))) rfl (yl_lss rfl rfl) ?_
      refine T0_nil ?_
      refine hK118 _ _ ?_
      refine WC_cond (b := (decide (x105 < (p_a.length : Int)))) rfl (fun hb119 => ?_) (fun hb119 => ?_)
      · replace h := cond_t hb119 h
        refine WC_skip ?_
        refine hK117 _ _ ?_
        refine WC_seqK fun K120 hK120 => ?_
        refine WC_block ?_
        refine WC_seqK fun K121 hK121 => ?_
        refine WC_plan mixed (.p 0 (.p 1 (.p 2 (.p 4 (.p 5 (.p 6 (.q 3 (.q 7 (.p 8 .done))))))))) (by kernel_rfl) ?_
        intro wd122 he123
        have e124 := e100.trans he123
        refine TP_p (v := v_p_a) rfl rfl (fun w' => (yl_move hs102)) ?_
        refine TP_p (v := (.int .i64 x105)) rfl rfl (fun w' => (yl_move hs106)) ?_
        obtain ⟨el125, hel126, h⟩ := bind_elim h
        obtain ⟨cs127, hat128, hrd129⟩ := SlRd.at h101 hel126
        have hrd129 : cs127 = [(.int .i64 el125.Lo), (.int .i64 el125.Hi)] := hrd129
        subst hrd129
        refine TP_p (v := (.pointer (some (elemAddr v_p_a (x105 : Int).toNat 2)))) rfl rfl (fun w' => (yl_indexAddr Tryd.underlying29 sz36 h101 hel126 rfl rfl)) ?_
        refine TP_p (v := v_p_b) rfl rfl (fun w' => (yl_move hs104)) ?_
        refine TP_p (v := (.int .i64 x105)) rfl rfl (fun w' => (yl_move hs106)) ?_
        obtain ⟨el131, hel132, h⟩ := bind_elim h
        obtain ⟨cs133, hat134, hrd135⟩ := SlRd.at h103 hel132
        have hrd135 : cs133 = [(.int .i64 el131.Lo), (.int .i64 el131.Hi)] := hrd135
        subst hrd135
        refine TP_p (v := (.pointer (some (elemAddr v_p_b (x105 : Int).toNat 2)))) rfl rfl (fun w' => (yl_indexAddr Tryd.underlying29 sz36 h103 hel132 rfl rfl)) ?_
        refine TP_q (v := (.agg (List.toArray [(.int .i64 el125.Lo), (.int .i64 el125.Hi)]))) rfl rfl (fun w' hS => (yl_loadA (cs := [(.int .i64 el125.Lo), (.int .i64 el125.Hi)]) ag36 rfl (hat128.ext' ((he123).trans hS)))) ?_
        refine TP_q (v := (.agg (List.toArray [(.int .i64 el131.Lo), (.int .i64 el131.Hi)]))) rfl rfl (fun w' hS => (yl_loadA (cs := [(.int .i64 el131.Lo), (.int .i64 el131.Hi)]) ag36 rfl (hat134.ext' ((he123).trans hS)))) ?_
        refine TP_p (v := (.bool (!(decide (el125 = el131))))) rfl rfl (fun w' => (yl_neqS eg36 rfl rfl (eqs36 el125 el131 _))) ?_
        refine TP_done ?_
        refine hK121 _ _ ?_
        refine WC_cond (b := (!(decide (el125 = el131)))) rfl (fun hb137 => ?_) (fun hb137 => ?_)
        · replace h := cond_t hb137 h
          refine WC_seqK fun K138 hK138 => ?_
          refine WC_region ?_
          refine T0_q (v := (.bool false)) rfl (yl_assign rfl) ?_
          refine T0_nil ?_
          refine hK138 _ _ ?_
          refine WC_ret ?_
          replace h := some_out h
          subst h
          have ho := hx113 _ rfl
          subst ho
          replace h := jn0_inl hn111
          replace h := some_out h
          subst h
          exact ⟨[(.bool false)], ⟨rfl, trivial⟩, e124, rfl⟩
        · replace h := cond_f hb137 h
          refine WC_skip ?_
          refine hK120 _ _ ?_
          refine WC_region ?_
          refine T0_q (v := (.int .i64 x105)) rfl (yl_move hs106) ?_
          refine T0_q (v := (.int .i64 (w64 (x105 + 1)))) rfl (yl_add rfl rfl) ?_
          refine T0_q (v := (.int .i64 (w64 (x105 + 1)))) rfl (yl_assign rfl) ?_
          refine T0_nil ?_
          replace h := some_out h
          subst h
          refine hK114 _ _ _ rfl ?_
          exact ⟨w64 (x105 + 1), rfl, hs102, hs104, rfl, (h101.ext he123), (h103.ext he123), e124⟩
      · replace h := cond_f hb119 h
        refine WC_exit ?_
        replace h := some_out h
        subst h
        have ho := hx113 _ rfl
        subst ho
        refine hK115 _ _ ?_
        exact ⟨rfl, e100⟩
    · rintro ρ wd107 ⟨rfl, e108⟩
      replace h := jn0_inr hn111
      refine hK8 _ _ ?_
      refine WC_seqK fun K139 hK139 => ?_
      refine WC_region ?_
      refine T0_q (v := (.bool true)) rfl (yl_assign rfl) ?_
      refine T0_nil ?_
      refine hK139 _ _ ?_
      refine WC_ret ?_
      replace h := some_out h
      subst h
      exact ⟨[(.bool true)], ⟨rfl, trivial⟩, e108, rfl⟩

noncomputable def base_Mod_spec (p_n : Int) (p_by : Int) : Option Int :=
  (Option.bind (rem p_n p_by) fun q3 =>
  (bif (decide (q3 < 0)) then (
    some (w64 (q3 + p_by))
  ) else (
    some q3
  ))
  )
theorem base_Mod_ok (L : List Value) (w : World) (hL : LtL L w) (p_n : Int) (p_by : Int) (r : Int) (h : base_Mod_spec p_n p_by = some r) :
    CallsTo Tryd.prog 28 [(.int .i64 p_n), (.int .i64 p_by)] w (fun v w' => Ext w w' ∧ (.int .i64 r) = v) := by
  have e0 : Ext w w := Chg.refl _ _
  refine callsTo_of_WC (n := 14) (rs := [.tmp 4]) Tryd.func28 rfl rfl rfl rfl rfl ?_
  refine WC_seqK fun K1 hK1 => ?_
  refine WC_region ?_
  refine T0_q (v := (.int .i64 0)) rfl (yl_assign rfl) ?_
  refine T0_nil ?_
  refine hK1 _ _ ?_
  refine WC_seqK fun K2 hK2 => ?_
  refine WC_region ?_
  refine T0_q (v := (.int .i64 p_n)) rfl (yl_move rfl) ?_
  refine T0_q (v := (.int .i64 p_by)) rfl (yl_move rfl) ?_
  obtain ⟨q3, hq4, h⟩ := bind_elim h
  refine T0_q (v := (.int .i64 q3)) rfl (yl_rem' hq4 rfl rfl) ?_
  refine T0_q (v := (.int .i64 q3)) rfl (yl_assign rfl) ?_
  refine T0_nil ?_
  refine hK2 _ _ ?_
  refine WC_seqK fun K5 hK5 => ?_
  refine WC_seqK fun K6 hK6 => ?_
  refine WC_region ?_
  refine T0_q (v := (.int .i64 q3)) rfl (yl_move rfl) ?_
  refine T0_q (v := (.bool (decide (q3 < 0)))) rfl (yl_lss rfl rfl) ?_
  refine T0_nil ?_
  refine hK6 _ _ ?_
  refine WC_cond (b := (decide (q3 < 0))) rfl (fun hb7 => ?_) (fun hb7 => ?_)
  · replace h := cond_t hb7 h
    refine WC_region ?_
    refine T0_q (v := (.int .i64 q3)) rfl (yl_move rfl) ?_
    refine T0_q (v := (.int .i64 p_by)) rfl (yl_move rfl) ?_
    refine T0_q (v := (.int .i64 (w64 (q3 + p_by)))) rfl (yl_add rfl rfl) ?_
    refine T0_q (v := (.int .i64 (w64 (q3 + p_by)))) rfl (yl_assign rfl) ?_
    refine T0_nil ?_
    refine hK5 _ _ ?_
    refine WC_seqK fun K8 hK8 => ?_
    refine WC_region ?_
    refine T0_q (v := (.int .i64 (w64 (q3 + p_by)))) rfl (yl_move rfl) ?_
    refine T0_q (v := (.int .i64 (w64 (q3 + p_by)))) rfl (yl_assign rfl) ?_
    refine T0_nil ?_
    refine hK8 _ _ ?_
    refine WC_ret ?_
    replace h := some_out h
    subst h
    exact ⟨[(.int .i64 (w64 (q3 + p_by)))], ⟨rfl, trivial⟩, e0, rfl⟩
  · replace h := cond_f hb7 h
    refine WC_skip ?_
    refine hK5 _ _ ?_
    refine WC_seqK fun K9 hK9 => ?_
    refine WC_region ?_
    refine T0_q (v := (.int .i64 q3)) rfl (yl_move rfl) ?_
    refine T0_q (v := (.int .i64 q3)) rfl (yl_assign rfl) ?_
    refine T0_nil ?_
    refine hK9 _ _ ?_
    refine WC_ret ?_
    replace h := some_out h
    subst h
    exact ⟨[(.int .i64 q3)], ⟨rfl, trivial⟩, e0, rfl⟩

noncomputable def base_CopyInts_spec (p_l : (List Int)) : Option (List Int) :=
  (Option.bind (app ([] : List Int) p_l) fun zs14 =>
  some zs14
  )
theorem base_CopyInts_ok (L : List Value) (w : World) (hL : LtL L w) (v_p_l : Value) (p_l : (List Int)) (h_p_l : SlRd L w v_p_l p_l) (r : (List Int)) (h : base_CopyInts_spec p_l = some r) :
    CallsTo Tryd.prog 30 [v_p_l] w (fun v w' => Ext w w' ∧ ∃ (v0 : Value), v0 = v ∧ SlRd L w' v0 r) := by
  have e0 : Ext w w := Chg.refl _ _
  refine callsTo_of_WC (n := 6) (rs := [.tmp 2]) Tryd.func30 rfl rfl rfl rfl rfl ?_
  refine WC_seqK fun K2 hK2 => ?_
  refine WC_region ?_
  refine T0_q (v := (.slice none 0 0)) rfl (yl_assign rfl) ?_
  refine T0_nil ?_
  refine hK2 _ _ ?_
  refine WC_seqK fun K3 hK3 => ?_
  refine WC_region ?_
  refine T0_e rfl (eff_buildOC (L := L) (xs := ([] : List Int)) (cells := []) Tryd.underlying22 ei3 rfl pc_nil rfl Elems.nil rfl ?_)
  intro v7 wd4 he5 hf8 h6
  have h9 := h_p_l.step (Stepp.add v7 he5 hf8)
  have hf11 : ∀ b, blk v7 = some b → w.heap.size ≤ b := fun b hb => Nat.le_trans e0.size (hf8 b hb)
  have e12 := e0.trans he5
  refine T0_q (v := v_p_l) rfl (yl_move rfl) ?_
  obtain ⟨zs14, hz15, h⟩ := bind_elim h
  refine T0_e rfl (eff_app Tryd.underlying22 ei3 rfl rfl rfl rfl h6 h9 hz15 ?_)
  intro v16 wd17 hc18 hbl19 h20
  have hf22 := fresh_swap hbl19 hf11 e12.size
  have h23 := h9.step (Stepp.swap hc18 hbl19)
  have e24 := chg_own e12 hc18 hf11
  refine T0_q (v := v16) rfl (yl_assign rfl) ?_
  refine T0_nil ?_
  refine hK3 _ _ ?_
  refine WC_ret ?_
  replace h := some_out h
  subst h
  exact ⟨[v16], ⟨rfl, trivial⟩, e24, v16, rfl, (h20.rdL (sub_skip (sub_refl _)) hL hf22)⟩
theorem base_CopyInts_own (L : List Value) (w : World) (hL : LtL L w) (v_p_l : Value) (p_l : (List Int)) (h_p_l : SlRd L w v_p_l p_l) (r : (List Int)) (h : base_CopyInts_spec p_l = some r) :
    CallsTo Tryd.prog 30 [v_p_l] w (fun v w' => Ext w w' ∧ ∃ (v0 : Value), v0 = v ∧ (∀ b, blk v0 = some b → w.heap.size ≤ b) ∧ Own 3 (v0 :: L) w' v0 r) := by
  have e0 : Ext w w := Chg.refl _ _
  refine callsTo_of_WC (n := 6) (rs := [.tmp 2]) Tryd.func30 rfl rfl rfl rfl rfl ?_
  refine WC_seqK fun K2 hK2 => ?_
  refine WC_region ?_
  refine T0_q (v := (.slice none 0 0)) rfl (yl_assign rfl) ?_
  refine T0_nil ?_
  refine hK2 _ _ ?_
  refine WC_seqK fun K3 hK3 => ?_
  refine WC_region ?_
  refine T0_e rfl (eff_buildOC (L := L) (xs := ([] : List Int)) (cells := []) Tryd.underlying22 ei3 rfl pc_nil rfl Elems.nil rfl ?_)
  intro v7 wd4 he5 hf8 h6
  have h9 := h_p_l.step (Stepp.add v7 he5 hf8)
  have hf11 : ∀ b, blk v7 = some b → w.heap.size ≤ b := fun b hb => Nat.le_trans e0.size (hf8 b hb)
  have e12 := e0.trans he5
  refine T0_q (v := v_p_l) rfl (yl_move rfl) ?_
  obtain ⟨zs14, hz15, h⟩ := bind_elim h
  refine T0_e rfl (eff_app Tryd.underlying22 ei3 rfl rfl rfl rfl h6 h9 hz15 ?_)
  intro v16 wd17 hc18 hbl19 h20
  have hf22 := fresh_swap hbl19 hf11 e12.size
  have h23 := h9.step (Stepp.swap hc18 hbl19)
  have e24 := chg_own e12 hc18 hf11
  refine T0_q (v := v16) rfl (yl_assign rfl) ?_
  refine T0_nil ?_
  refine hK3 _ _ ?_
  refine WC_ret ?_
  replace h := some_out h
  subst h
  exact ⟨[v16], ⟨rfl, trivial⟩, e24, v16, rfl, hf22, (h20.sub (sub_cons mem0 (sub_skip (sub_refl _))))⟩

noncomputable def base_Within_spec (p_n : Int) (p_lo : Int) (p_hi : Int) : Option Bool :=
  some ((decide (p_lo ≤ p_n)) && (decide (p_n ≤ p_hi)))
theorem base_Within_ok (L : List Value) (w : World) (hL : LtL L w) (p_n : Int) (p_lo : Int) (p_hi : Int) (r : Bool) (h : base_Within_spec p_n p_lo p_hi = some r) :
    CallsTo Tryd.prog 35 [(.int .i64 p_n), (.int .i64 p_lo), (.int .i64 p_hi)] w (fun v w' => Ext w w' ∧ (.bool r) = v) := by
  have e0 : Ext w w := Chg.refl _ _
  refine callsTo_of_WC (n := 15) (rs := [.tmp 6]) Tryd.func35 rfl rfl rfl rfl rfl ?_
  refine WC_seqK fun K1 hK1 => ?_
  refine WC_region ?_
  refine T0_q (v := (.bool false)) rfl (yl_assign rfl) ?_
  refine T0_nil ?_
  refine hK1 _ _ ?_
  refine WC_seqK fun K2 hK2 => ?_
  refine WC_region ?_
  refine T0_q (v := (.int .i64 p_lo)) rfl (yl_move rfl) ?_
  refine T0_q (v := (.int .i64 p_n)) rfl (yl_move rfl) ?_
  refine T0_q (v := (.bool (decide (p_lo ≤ p_n)))) rfl (yl_leq rfl rfl) ?_
  refine T0_q (v := (.bool (decide (p_lo ≤ p_n)))) rfl (yl_move rfl) ?_
  refine T0_g (v := (.int .i64 p_n)) (decide (p_lo ≤ p_n)) (wanted_t rfl rfl rfl rfl) (fun hg => (yl_move rfl)) ?_
  refine T0_g (v := (.int .i64 p_hi)) (decide (p_lo ≤ p_n)) (wanted_t rfl rfl rfl rfl) (fun hg => (yl_move rfl)) ?_
  refine T0_g (v := (.bool (decide (p_n ≤ p_hi)))) (decide (p_lo ≤ p_n)) (wanted_t rfl rfl rfl rfl) (fun hg => (yl_leq (gd_true hg) (gd_true hg))) ?_
  refine T0_q (v := (.bool ((decide (p_lo ≤ p_n)) && (decide (p_n ≤ p_hi))))) rfl (yl_and rfl (fun hb => (gd_true hb)) rfl) ?_
  refine T0_q (v := (.bool ((decide (p_lo ≤ p_n)) && (decide (p_n ≤ p_hi))))) rfl (yl_assign rfl) ?_
  refine T0_nil ?_
  refine hK2 _ _ ?_
  refine WC_ret ?_
  replace h := some_out h
  subst h
  exact ⟨[(.bool ((decide (p_lo ≤ p_n)) && (decide (p_n ≤ p_hi))))], ⟨rfl, trivial⟩, e0, rfl⟩

noncomputable def ref04_StatesErr_s0 (p_l : (List Int)) : (Int) → Option ((Int) ⊕ (Int ⊕ (Unit))) := fun x84 =>
  (bif (decide (x84 < (p_l.length : Int))) then (
    (Option.bind (idx p_l x84) fun el101 =>
    (Option.bind (base_Within_spec el101 0 3) fun r107 =>
    (bif (!r107) then (
      some (.inr (.inl 2))
    ) else (
      some (.inl (w64 (x84 + 1)))
    ))
    )
    )
  ) else (
    some (.inr (.inr ()))
  ))
noncomputable def ref04_StatesErr_spec (p_l : (List Int)) : Option Int :=
  (bif (decide (200 < (p_l.length : Int))) then (
    some 8
  ) else (
    (Option.bind (loop (ref04_StatesErr_s0 p_l) 0) fun o88 => jn0 o88 fun (_ : Unit) =>
    some 0
    )
  ))
theorem ref04_StatesErr_ok (L : List Value) (w : World) (hL : LtL L w) (v_p_l : Value) (p_l : (List Int)) (h_p_l : SlRd L w v_p_l p_l) (r : Int) (h : ref04_StatesErr_spec p_l = some r) :
    CallsTo Tryd.prog 37 [v_p_l] w (fun v w' => Ext w w' ∧ (.int .i64 r) = v) := by
  have e0 : Ext w w := Chg.refl _ _
  refine callsTo_of_WC (n := 19) (rs := [.tmp 2]) Tryd.func37 rfl rfl rfl rfl rfl ?_
  refine WC_seqK fun K2 hK2 => ?_
  refine WC_region ?_
  refine T0_q (v := (.int .i64 0)) rfl (yl_assign rfl) ?_
  refine T0_nil ?_
  refine hK2 _ _ ?_
  refine WC_seqK fun K3 hK3 => ?_
  refine WC_seqK fun K4 hK4 => ?_
  refine WC_region ?_
  refine T0_q (v := v_p_l) rfl (yl_move rfl) ?_
  refine T0_q (v := (.int .i64 (p_l.length : Int))) rfl (yl_lenR rfl Tryd.underlying22 h_p_l rfl) ?_
  refine T0_q (v := (.bool (decide (200 < (p_l.length : Int))))) rfl (yl_gtr rfl rfl) ?_
  refine T0_nil ?_
  refine hK4 _ _ ?_
  refine WC_cond (b := (decide (200 < (p_l.length : Int)))) rfl (fun hb5 => ?_) (fun hb5 => ?_)
  · replace h := cond_t hb5 h
    refine WC_seqK fun K6 hK6 => ?_
    refine WC_region ?_
    refine T0_q (v := (.int .i64 8)) rfl (yl_assign rfl) ?_
    refine T0_nil ?_
    refine hK6 _ _ ?_
    refine WC_ret ?_
    replace h := some_out h
    subst h
    exact ⟨[(.int .i64 8)], ⟨rfl, trivial⟩, e0, rfl⟩
  · replace h := cond_f hb5 h
    refine WC_skip ?_
    refine hK3 _ _ ?_
    refine WC_seqK fun K7 hK7 => ?_
    refine WC_seqK fun K8 hK8 => ?_
    refine WC_region ?_
    refine T0_q (v := (.int .i64 0)) rfl (yl_assign rfl) ?_
    refine T0_nil ?_
    refine hK8 _ _ ?_
    obtain ⟨o88, hl89, hn90⟩ := bind_elim h
    refine WC_post (fun (ρ : Env) (wd86 : World) => .inr () = o88 ∧ Ext w wd86) ?_ ?_
    · intro K94 hK94
      refine WC_block ?_
      refine WC_loopk (fun sv ρ wd80 => ∃ (x84 : Int), x84 = sv ∧ ρ 0 = v_p_l ∧ ρ 3 = (.int .i64 x84) ∧ SlRd L wd80 v_p_l p_l ∧ Ext w wd80) hl89 ⟨0, rfl, rfl, rfl, h_p_l, e0⟩ ?_
      rintro _ ρ wd80 ⟨x84, rfl, hs83, hs85, h82, e81⟩ x91 h hx92 K93 hK93
      refine WC_seqK fun K96 hK96 => ?_
      refine WC_seqK fun K97 hK97 => ?_
      refine WC_region ?_
      refine T0_q (v := (.int .i64 x84)) rfl (yl_move hs85) ?_
      refine T0_q (v := v_p_l) rfl (yl_move hs83) ?_
      refine T0_q (v := (.int .i64 (p_l.length : Int))) rfl (yl_lenR rfl Tryd.underlying22 h82 rfl) ?_
      refine T0_q (v := (.bool (decide (x84 < (p_l.length : Int))))) rfl (yl_lss rfl rfl) ?_
      refine T0_nil ?_
      refine hK97 _ _ ?_
      refine WC_cond (b := (decide (x84 < (p_l.length : Int)))) rfl (fun hb98 => ?_) (fun hb98 => ?_)
      · replace h := cond_t hb98 h
        refine WC_skip ?_
        refine hK96 _ _ ?_
        refine WC_seqK fun K99 hK99 => ?_
        refine WC_block ?_
        refine WC_seqK fun K100 hK100 => ?_
        refine WC_region ?_
        refine T0_q (v := v_p_l) rfl (yl_move hs83) ?_
        refine T0_q (v := (.int .i64 x84)) rfl (yl_move hs85) ?_
        obtain ⟨el101, hel102, h⟩ := bind_elim h
        obtain ⟨cs103, hat104, hrd105⟩ := SlRd.at h82 hel102
        have hrd105 : cs103 = [(.int .i64 el101)] := hrd105
        subst hrd105
        refine T0_q (v := (.pointer (some (elemAddr v_p_l (x84 : Int).toNat 1)))) rfl (yl_indexAddr Tryd.underlying22 sz3 h82 hel102 rfl rfl) ?_
        refine T0_q (v := (.int .i64 el101)) rfl (yl_load sc3 rfl hat104) ?_
        obtain ⟨r107, hr108, h⟩ := bind_elim h
        refine T0_e rfl (eff_call Tryd.func35 nm35 rfl (ev3 rfl rfl rfl) (base_Within_ok [] _ (LtL.nil _) el101 0 3 r107 hr108) ?_)
        rintro _ wd109 ⟨he110, rfl⟩
        have e111 := e81.trans he110
        refine T0_q (v := (.bool (!r107))) rfl (yl_not rfl) ?_
        refine T0_nil ?_
        refine hK100 _ _ ?_
        refine WC_cond (b := (!r107)) rfl (fun hb112 => ?_) (fun hb112 => ?_)
        · replace h := cond_t hb112 h
          refine WC_seqK fun K113 hK113 => ?_
          refine WC_region ?_
          refine T0_q (v := (.int .i64 2)) rfl (yl_assign rfl) ?_
          refine T0_nil ?_
          refine hK113 _ _ ?_
          refine WC_ret ?_
          replace h := some_out h
          subst h
          have ho := hx92 _ rfl
          subst ho
          replace h := jn0_inl hn90
          replace h := some_out h
          subst h
          exact ⟨[(.int .i64 2)], ⟨rfl, trivial⟩, e111, rfl⟩
        · replace h := cond_f hb112 h
          refine WC_skip ?_
          refine hK99 _ _ ?_
          refine WC_region ?_
          refine T0_q (v := (.int .i64 x84)) rfl (yl_move hs85) ?_
          refine T0_q (v := (.int .i64 (w64 (x84 + 1)))) rfl (yl_add rfl rfl) ?_
          refine T0_q (v := (.int .i64 (w64 (x84 + 1)))) rfl (yl_assign rfl) ?_
          refine T0_nil ?_
          replace h := some_out h
          subst h
          refine hK93 _ _ _ rfl ?_
          exact ⟨w64 (x84 + 1), rfl, hs83, rfl, (h82.ext he110), e111⟩
      · replace h := cond_f hb98 h
        refine WC_exit ?_
        replace h := some_out h
        subst h
        have ho := hx92 _ rfl
        subst ho
        refine hK94 _ _ ?_
        exact ⟨rfl, e81⟩
    · rintro ρ wd86 ⟨rfl, e87⟩
      replace h := jn0_inr hn90
      refine hK7 _ _ ?_
      refine WC_seqK fun K114 hK114 => ?_
      refine WC_region ?_
      refine T0_q (v := (.int .i64 0)) rfl (yl_assign rfl) ?_
      refine T0_nil ?_
      refine hK114 _ _ ?_
      refine WC_ret ?_
      replace h := some_out h
      subst h
      exact ⟨[(.int .i64 0)], ⟨rfl, trivial⟩, e87, rfl⟩

noncomputable def ref04_Counted_s0 (p_l : (List Int)) : (Int × Int × Int) → Option ((Int × Int × Int) ⊕ (Int × Int)) := fun (x522, x524, x525) =>
  (bif (decide (x522 < (p_l.length : Int))) then (
    (Option.bind (α := (Int × Int)) (
      (Option.bind (idx p_l x522) fun el636 =>
      (Option.bind (idx p_l (w64 (x522 - 1))) fun el642 =>
      (Option.bind (idx ([0, 1, 3, 2] : List Int) el636) fun el648 =>
      (Option.bind (idx ([0, 1, 3, 2] : List Int) el642) fun el654 =>
      (Option.bind (base_Mod_spec (w64 (el648 - el654)) 4) fun r660 =>
      (bif (decide (r660 = 1)) then (
        some (w64 (x524 + 1), x525)
      ) else (
        (bif (decide (r660 = 2)) then (
          some (x524, w64 (x525 + 1))
        ) else (
          (bif (decide (r660 = 3)) then (
            some (w64 (x524 - 1), x525)
          ) else (
            some (x524, x525)
          ))
        ))
      ))
      )
      )
      )
      )
      )
    ) fun ((x622, x623) : Int × Int) =>
    some (.inl (w64 (x522 + 1), x622, x623))
    )
  ) else (
    some (.inr (x524, x525))
  ))
noncomputable def ref04_Counted_spec (p_l : (List Int)) : Option LocateSteps :=
  (Option.bind (loop (ref04_Counted_s0 p_l) (1, 0, 0)) fun ((x534, x535) : Int × Int) =>
  some (LocateSteps.mk x534 x535)
  )
theorem ref04_Counted_ok (L : List Value) (w : World) (hL : LtL L w) (v_p_l : Value) (p_l : (List Int)) (h_p_l : SlRd L w v_p_l p_l) (r : LocateSteps) (h : ref04_Counted_spec p_l = some r) :
    CallsTo Tryd.prog 38 [v_p_l] w (fun v w' => Ext w w' ∧ ∃ (cs0 : List Value), (.agg cs0.toArray) = v ∧ Rep.rd L w' cs0 r) := by
  have e0 : Ext w w := Chg.refl _ _
  refine callsTo_of_WC (n := 49) (rs := [.cell 2 62]) Tryd.func38 rfl rfl rfl rfl rfl ?_
  refine WC_seqK fun K2 hK2 => ?_
  refine WC_region ?_
  refine T0_e rfl (eff_allocZ zi62 ?_)
  intro b3 wd4 hb5 he6 hB7
  have hbf8 := bfresh e0 hb5
  have h9 := h_p_l.step (add_box he6 hb5)
  have e10 := e0.trans he6
  refine T0_nil ?_
  refine hK2 _ _ ?_
  refine WC_seqK fun K12 hK12 => ?_
  refine WC_region ?_
  refine T0_e rfl (eff_buildTC (xs := ([0, 1, 3, 2] : List Int)) (cells := [(.int .i64 0), (.int .i64 1), (.int .i64 3), (.int .i64 2)]) Tryd.underlying22 ei3 rfl (pc_cons rfl rfl (pc_cons rfl rfl (pc_cons rfl rfl (pc_cons rfl rfl pc_nil)))) rfl (Elems.cons (cs := [(.int .i64 0)]) rfl (Elems.cons (cs := [(.int .i64 1)]) rfl (Elems.cons (cs := [(.int .i64 3)]) rfl (Elems.cons (cs := [(.int .i64 2)]) rfl Elems.nil)))) rfl (ltl_box (hL.chg e10) hB7) ?_)
  intro b16 wd13 he14 h15
  have e17 := e10.trans he14
  refine T0_q (v := (.slice (some ⟨b16, 0, none⟩) 4 4)) rfl (yl_assign rfl) ?_
  refine T0_nil ?_
  refine hK12 _ _ ?_
  refine WC_seqK fun K19 hK19 => ?_
  refine WC_region ?_
  refine T0_e rfl (eff_allocZ zi62 ?_)
  intro b20 wd21 hb22 he23 hB24
  have hn25 : b20 ≠ b3 := box_ne (hB7.ext he14) hb22
  have hbf26 := bfresh e17 hb22
  have h27 := (h9.ext he14).step (add_box he23 hb22)
  have h28 := h15.step (add_box he23 hb22)
  have e29 := he14.trans he23
  have e30 := e17.trans he23
  refine T0_nil ?_
  refine hK19 _ _ ?_
  refine WC_seqK fun K32 hK32 => ?_
  refine WC_seqK fun K33 hK33 => ?_
  refine WC_region ?_
  refine T0_q (v := (.int .i64 1)) rfl (yl_assign rfl) ?_
  refine T0_nil ?_
  refine hK33 _ _ ?_
  obtain ⟨o540, hl541, hn542⟩ := bind_elim h
  refine WC_post (fun (ρ : Env) (wd530 : World) => ∃ (x534 : Int) (x535 : Int), (x534, x535) = o540 ∧ ρ 2 = (.pointer (some ⟨b3, 0, none⟩)) ∧ ρ 4 = (.pointer (some ⟨b20, 0, none⟩)) ∧ Box wd530 b20 [(.int .i64 x534), (.int .i64 x535)] 62 ∧ Box wd530 b3 [(.int .i64 0), (.int .i64 0)] 62 ∧ Ext w wd530) ?_ ?_
  · intro K546 hK546
    refine WC_block ?_
    refine WC_loopk (fun sv ρ wd514 => ∃ (x522 : Int) (x524 : Int) (x525 : Int), (x522, x524, x525) = sv ∧ ρ 0 = v_p_l ∧ ρ 2 = (.pointer (some ⟨b3, 0, none⟩)) ∧ ρ 3 = (.slice (some ⟨b16, 0, none⟩) 4 4) ∧ ρ 4 = (.pointer (some ⟨b20, 0, none⟩)) ∧ ρ 5 = (.int .i64 x522) ∧ SlRd ((.pointer (some ⟨b20, 0, none⟩)) :: (.pointer (some ⟨b3, 0, none⟩)) :: L) wd514 v_p_l p_l ∧ SlRd ((.pointer (some ⟨b20, 0, none⟩)) :: (.pointer (some ⟨b3, 0, none⟩)) :: L) wd514 (.slice (some ⟨b16, 0, none⟩) 4 4) ([0, 1, 3, 2] : List Int) ∧ Box wd514 b20 [(.int .i64 x524), (.int .i64 x525)] 62 ∧ Box wd514 b3 [(.int .i64 0), (.int .i64 0)] 62 ∧ Ext w wd514) hl541 ⟨1, 0, 0, rfl, rfl, rfl, rfl, rfl, rfl, h27, h28, hB24, (hB7.ext e29), e30⟩ ?_
    rintro _ ρ wd514 ⟨x522, x524, x525, rfl, hs517, hs518, hs520, hs521, hs523, h516, h519, hB527, hB529, e515⟩ x543 h hx544 K545 hK545
    refine WC_seqK fun K548 hK548 => ?_
    refine WC_seqK fun K549 hK549 => ?_
    refine WC_region ?_
    refine T0_q (v := (.int .i64 x522)) rfl (yl_move hs523) ?_
    refine T0_q (v := v_p_l) rfl (yl_move hs517) ?_
    refine T0_q (v := (.int .i64 (p_l.length : Int))) rfl (yl_lenR rfl Tryd.underlying22 h516 rfl) ?_
    refine T0_q (v := (.bool (decide (x522 < (p_l.length : Int))))) rfl (yl_lss rfl rfl) ?_
    refine T0_nil ?_
    refine hK549 _ _ ?_
    refine WC_cond (b := (decide (x522 < (p_l.length : Int)))) rfl (fun hb550 => ?_) (fun hb550 => ?_)
    · replace h := cond_t hb550 h
      refine WC_skip ?_
      refine hK548 _ _ ?_
      refine WC_seqK fun K551 hK551 => ?_
      obtain ⟨o628, ho629, hn630⟩ := bind_elim h
      refine WC_post (fun (ρ : Env) (wd613 : World) => ∃ (x622 : Int) (x623 : Int), (x622, x623) = o628 ∧ ρ 0 = v_p_l ∧ ρ 2 = (.pointer (some ⟨b3, 0, none⟩)) ∧ ρ 3 = (.slice (some ⟨b16, 0, none⟩) 4 4) ∧ ρ 4 = (.pointer (some ⟨b20, 0, none⟩)) ∧ ρ 5 = (.int .i64 x522) ∧ SlRd ((.pointer (some ⟨b20, 0, none⟩)) :: (.pointer (some ⟨b3, 0, none⟩)) :: L) wd613 v_p_l p_l ∧ SlRd ((.pointer (some ⟨b20, 0, none⟩)) :: (.pointer (some ⟨b3, 0, none⟩)) :: L) wd613 (.slice (some ⟨b16, 0, none⟩) 4 4) ([0, 1, 3, 2] : List Int) ∧ Box wd613 b20 [(.int .i64 x622), (.int .i64 x623)] 62 ∧ Box wd613 b3 [(.int .i64 0), (.int .i64 0)] 62 ∧ Ext w wd613) ?_ ?_
      · intro K631 hK631
        replace h := ho629
        clear ho629
        refine WC_block ?_
        refine WC_seqK fun K632 hK632 => ?_
        refine WC_plan mixed (.p 0 (.p 1 (.p 2 (.p 3 (.p 7 (.p 8 (.p 9 (.p 10 (.p 11 (.q 4 (.p 5 (.q 6 (.q 12 (.p 13 (.q 14 (.p 15 (.e 16 .done))))))))))))))))) (by kernel_rfl) ?_
        intro wd633 he634
        have e635 := e515.trans he634
        refine TP_p (v := (.slice (some ⟨b16, 0, none⟩) 4 4)) rfl rfl (fun w' => (yl_move hs520)) ?_
        refine TP_p (v := v_p_l) rfl rfl (fun w' => (yl_move hs517)) ?_
        refine TP_p (v := (.int .i64 x522)) rfl rfl (fun w' => (yl_move hs523)) ?_
        obtain ⟨el636, hel637, h⟩ := bind_elim h
        obtain ⟨cs638, hat639, hrd640⟩ := SlRd.at h516 hel637
        have hrd640 : cs638 = [(.int .i64 el636)] := hrd640
        subst hrd640
        refine TP_p (v := (.pointer (some (elemAddr v_p_l (x522 : Int).toNat 1)))) rfl rfl (fun w' => (yl_indexAddr Tryd.underlying22 sz3 h516 hel637 rfl rfl)) ?_
        refine TP_p (v := (.slice (some ⟨b16, 0, none⟩) 4 4)) rfl rfl (fun w' => (yl_move hs520)) ?_
        refine TP_p (v := v_p_l) rfl rfl (fun w' => (yl_move hs517)) ?_
        refine TP_p (v := (.int .i64 x522)) rfl rfl (fun w' => (yl_move hs523)) ?_
        refine TP_p (v := (.int .i64 (w64 (x522 - 1)))) rfl rfl (fun w' => (yl_sub rfl rfl)) ?_
        obtain ⟨el642, hel643, h⟩ := bind_elim h
        obtain ⟨cs644, hat645, hrd646⟩ := SlRd.at h516 hel643
        have hrd646 : cs644 = [(.int .i64 el642)] := hrd646
        subst hrd646
        refine TP_p (v := (.pointer (some (elemAddr v_p_l (w64 (x522 - 1) : Int).toNat 1)))) rfl rfl (fun w' => (yl_indexAddr Tryd.underlying22 sz3 h516 hel643 rfl rfl)) ?_
        refine TP_q (v := (.int .i64 el636)) rfl rfl (fun w' hS => (yl_load sc3 rfl (hat639.ext' ((he634).trans hS)))) ?_
        obtain ⟨el648, hel649, h⟩ := bind_elim h
        obtain ⟨cs650, hat651, hrd652⟩ := SlRd.at h519 hel649
        have hrd652 : cs650 = [(.int .i64 el648)] := hrd652
        subst hrd652
        refine TP_p (v := (.pointer (some (elemAddr (.slice (some ⟨b16, 0, none⟩) 4 4) (el636 : Int).toNat 1)))) rfl rfl (fun w' => (yl_indexAddr Tryd.underlying22 sz3 h519 hel649 rfl rfl)) ?_
        refine TP_q (v := (.int .i64 el648)) rfl rfl (fun w' hS => (yl_load sc3 rfl (hat651.ext' ((he634).trans hS)))) ?_
        refine TP_q (v := (.int .i64 el642)) rfl rfl (fun w' hS => (yl_load sc3 rfl (hat645.ext' ((he634).trans hS)))) ?_
        obtain ⟨el654, hel655, h⟩ := bind_elim h
        obtain ⟨cs656, hat657, hrd658⟩ := SlRd.at h519 hel655
        have hrd658 : cs656 = [(.int .i64 el654)] := hrd658
        subst hrd658
        refine TP_p (v := (.pointer (some (elemAddr (.slice (some ⟨b16, 0, none⟩) 4 4) (el642 : Int).toNat 1)))) rfl rfl (fun w' => (yl_indexAddr Tryd.underlying22 sz3 h519 hel655 rfl rfl)) ?_
        refine TP_q (v := (.int .i64 el654)) rfl rfl (fun w' hS => (yl_load sc3 rfl (hat657.ext' ((he634).trans hS)))) ?_
        refine TP_p (v := (.int .i64 (w64 (el648 - el654)))) rfl rfl (fun w' => (yl_sub rfl rfl)) ?_
        obtain ⟨r660, hr661, h⟩ := bind_elim h
        refine TP_e rfl rfl (eff_call Tryd.func28 nm28 rfl (ev2 rfl rfl) (base_Mod_ok [] _ (LtL.nil _) (w64 (el648 - el654)) 4 r660 hr661) ?_)
        rintro _ wd662 ⟨he663, rfl⟩
        have e664 := he634.trans he663
        have e665 := e635.trans he663
        refine ⟨he663, ?_⟩
        refine TP_done ?_
        refine hK632 _ _ ?_
        refine WC_block ?_
        refine WC_seqK fun K666 hK666 => ?_
        refine WC_region ?_
        refine T0_q (v := (.bool (decide (r660 = 1)))) rfl (yl_eql rfl rfl) ?_
        refine T0_q (v := (.bool (decide (r660 = 1)))) rfl (yl_assign rfl) ?_
        refine T0_nil ?_
        refine hK666 _ _ ?_
        refine WC_cond (b := (decide (r660 = 1))) rfl (fun hb667 => ?_) (fun hb667 => ?_)
        · replace h := cond_t hb667 h
          refine WC_region ?_
          refine T0_q (v := (.pointer (some ⟨b20, 0, none⟩))) rfl (yl_fa 0 Tryd.underlying62 rfl rfl ⟨0, sz3⟩ hs521 rfl) ?_
          refine T0_q (v := (.int .i64 x524)) rfl (yl_load sc3 rfl (Box.at (hB527.ext e664))) ?_
          refine T0_q (v := (.int .i64 (w64 (x524 + 1)))) rfl (yl_add rfl rfl) ?_
          refine T0_q (v := (.pointer (some ⟨b20, 0, none⟩))) rfl (yl_fa 0 Tryd.underlying62 rfl rfl ⟨0, sz3⟩ hs521 rfl) ?_
          refine T0_e rfl (eff_storeC (vs := [(.int .i64 (w64 (x524 + 1)))]) (cs' := [(.int .i64 (w64 (x524 + 1))), (.int .i64 x525)]) sz3 rfl rfl rfl rfl (hB527.ext e664) rfl (oc_cons rfl oc_nil) rfl ?_)
          intro wd668 hc669 hB670
          have h671 := (h516.ext e664).step (Stepp.chg_mem hc669 mem0)
          have h672 := (h519.ext e664).step (Stepp.chg_mem hc669 mem0)
          have h673 := (hB529.ext e664).chg hc669 (avoidb hn25)
          have e674 := chg_box e665 hc669 hbf26
          refine T0_nil ?_
          replace h := some_out h
          subst h
          refine hK631 _ _ ?_
          exact ⟨w64 (x524 + 1), x525, rfl, hs517, hs518, hs520, hs521, hs523, h671, h672, hB670, h673, e674⟩
        · replace h := cond_f hb667 h
          refine WC_seqK fun K675 hK675 => ?_
          refine WC_region ?_
          refine T0_q (v := (.bool (decide (r660 = 2)))) rfl (yl_eql rfl rfl) ?_
          refine T0_q (v := (.bool (decide (r660 = 2)))) rfl (yl_assign rfl) ?_
          refine T0_nil ?_
          refine hK675 _ _ ?_
          refine WC_cond (b := (decide (r660 = 2))) rfl (fun hb676 => ?_) (fun hb676 => ?_)
          · replace h := cond_t hb676 h
            refine WC_region ?_
            refine T0_q (v := (.pointer (some ⟨b20, 1, none⟩))) rfl (yl_fa 1 Tryd.underlying62 rfl rfl ⟨0, sz3⟩ hs521 rfl) ?_
            refine T0_q (v := (.int .i64 x525)) rfl (yl_load sc3 rfl (At.drop (Box.at (hB527.ext e664)) 1)) ?_
            refine T0_q (v := (.int .i64 (w64 (x525 + 1)))) rfl (yl_add rfl rfl) ?_
            refine T0_q (v := (.pointer (some ⟨b20, 1, none⟩))) rfl (yl_fa 1 Tryd.underlying62 rfl rfl ⟨0, sz3⟩ hs521 rfl) ?_
            refine T0_e rfl (eff_storeC (vs := [(.int .i64 (w64 (x525 + 1)))]) (cs' := [(.int .i64 x524), (.int .i64 (w64 (x525 + 1)))]) sz3 rfl rfl rfl rfl (hB527.ext e664) rfl (oc_cons rfl oc_nil) rfl ?_)
            intro wd677 hc678 hB679
            have h680 := (h516.ext e664).step (Stepp.chg_mem hc678 mem0)
            have h681 := (h519.ext e664).step (Stepp.chg_mem hc678 mem0)
            have h682 := (hB529.ext e664).chg hc678 (avoidb hn25)
            have e683 := chg_box e665 hc678 hbf26
            refine T0_nil ?_
            replace h := some_out h
            subst h
            refine hK631 _ _ ?_
            exact ⟨x524, w64 (x525 + 1), rfl, hs517, hs518, hs520, hs521, hs523, h680, h681, hB679, h682, e683⟩
          · replace h := cond_f hb676 h
            refine WC_seqK fun K684 hK684 => ?_
            refine WC_region ?_
            refine T0_q (v := (.bool (decide (r660 = 3)))) rfl (yl_eql rfl rfl) ?_
            refine T0_q (v := (.bool (decide (r660 = 3)))) rfl (yl_assign rfl) ?_
            refine T0_nil ?_
            refine hK684 _ _ ?_
            refine WC_cond (b := (decide (r660 = 3))) rfl (fun hb685 => ?_) (fun hb685 => ?_)
            · replace h := cond_t hb685 h
              refine WC_region ?_
              refine T0_q (v := (.pointer (some ⟨b20, 0, none⟩))) rfl (yl_fa 0 Tryd.underlying62 rfl rfl ⟨0, sz3⟩ hs521 rfl) ?_
              refine T0_q (v := (.int .i64 x524)) rfl (yl_load sc3 rfl (Box.at (hB527.ext e664))) ?_
              refine T0_q (v := (.int .i64 (w64 (x524 - 1)))) rfl (yl_sub rfl rfl) ?_
              refine T0_q (v := (.pointer (some ⟨b20, 0, none⟩))) rfl (yl_fa 0 Tryd.underlying62 rfl rfl ⟨0, sz3⟩ hs521 rfl) ?_
              refine T0_e rfl (eff_storeC (vs := [(.int .i64 (w64 (x524 - 1)))]) (cs' := [(.int .i64 (w64 (x524 - 1))), (.int .i64 x525)]) sz3 rfl rfl rfl rfl (hB527.ext e664) rfl (oc_cons rfl oc_nil) rfl ?_)
              intro wd686 hc687 hB688
              have h689 := (h516.ext e664).step (Stepp.chg_mem hc687 mem0)
              have h690 := (h519.ext e664).step (Stepp.chg_mem hc687 mem0)
              have h691 := (hB529.ext e664).chg hc687 (avoidb hn25)
              have e692 := chg_box e665 hc687 hbf26
              refine T0_nil ?_
              replace h := some_out h
              subst h
              refine hK631 _ _ ?_
              exact ⟨w64 (x524 - 1), x525, rfl, hs517, hs518, hs520, hs521, hs523, h689, h690, hB688, h691, e692⟩
            · replace h := cond_f hb685 h
              refine WC_skip ?_
              replace h := some_out h
              subst h
              refine hK631 _ _ ?_
              exact ⟨x524, x525, rfl, hs517, hs518, hs520, hs521, hs523, (h516.ext e664), (h519.ext e664), (hB527.ext e664), (hB529.ext e664), e665⟩
      · rintro ρ wd613 ⟨x622, x623, rfl, hs616, hs617, hs619, hs620, hs621, h615, h618, hB625, hB627, e614⟩
        replace h := hn630
        refine hK551 _ _ ?_
        refine WC_region ?_
        refine T0_q (v := (.int .i64 x522)) rfl (yl_move hs621) ?_
        refine T0_q (v := (.int .i64 (w64 (x522 + 1)))) rfl (yl_add rfl rfl) ?_
        refine T0_q (v := (.int .i64 (w64 (x522 + 1)))) rfl (yl_assign rfl) ?_
        refine T0_nil ?_
        replace h := some_out h
        subst h
        refine hK545 _ _ _ rfl ?_
        exact ⟨w64 (x522 + 1), x622, x623, rfl, hs616, hs617, hs619, hs620, rfl, h615, h618, hB625, hB627, e614⟩
    · replace h := cond_f hb550 h
      refine WC_exit ?_
      replace h := some_out h
      subst h
      have ho := hx544 _ rfl
      subst ho
      refine hK546 _ _ ?_
      exact ⟨x524, x525, rfl, hs518, hs521, hB527, hB529, e515⟩
  · rintro ρ wd530 ⟨x534, x535, rfl, hs532, hs533, hB537, hB539, e531⟩
    replace h := hn542
    refine hK32 _ _ ?_
    refine WC_seqK fun K693 hK693 => ?_
    refine WC_region ?_
    refine T0_q (v := (.agg (List.toArray [(.int .i64 x534), (.int .i64 x535)]))) rfl (yl_loadA (cs := [(.int .i64 x534), (.int .i64 x535)]) ag62 hs533 (Box.at hB537)) ?_
    refine T0_e rfl (eff_storeC (vs := [(.int .i64 x534), (.int .i64 x535)]) (cs' := [(.int .i64 x534), (.int .i64 x535)]) sz62 rfl rfl hs532 rfl hB539 rfl (oc_cons rfl (oc_cons rfl oc_nil)) rfl ?_)
    intro wd694 hc695 hB696
    have h697 := hB537.chg hc695 (avoidb hn25.symm)
    have e698 := chg_box e531 hc695 hbf8
    refine T0_nil ?_
    refine hK693 _ _ ?_
    refine WC_ret ?_
    replace h := some_out h
    subst h
    exact ⟨[(.agg (List.toArray [(.int .i64 x534), (.int .i64 x535)]))], ⟨⟨_, hs532, run_loadVarA (cs := [(.int .i64 x534), (.int .i64 x535)]) ag62 (Box.at hB696)⟩, trivial⟩, e698, [(.int .i64 x534), (.int .i64 x535)], rfl, rfl⟩

noncomputable def base_Ints_s0 (p_a : (List Int)) (p_b : (List Int)) : (Int) → Option ((Int) ⊕ (Bool ⊕ (Unit))) := fun x105 =>
  (bif (decide (x105 < (p_a.length : Int))) then (
    (Option.bind (idx p_a x105) fun el125 =>
    (Option.bind (idx p_b x105) fun el131 =>
    (bif (!decide (el125 = el131)) then (
      some (.inr (.inl false))
    ) else (
      some (.inl (w64 (x105 + 1)))
    ))
    )
    )
  ) else (
    some (.inr (.inr ()))
  ))
noncomputable def base_Ints_spec (p_a : (List Int)) (p_b : (List Int)) : Option Bool :=
  (bif (!decide ((p_a.length : Int) = (p_b.length : Int))) then (
    some false
  ) else (
    (Option.bind (loop (base_Ints_s0 p_a p_b) 0) fun o109 => jn0 o109 fun (_ : Unit) =>
    some true
    )
  ))
theorem base_Ints_ok (L : List Value) (w : World) (hL : LtL L w) (v_p_a : Value) (p_a : (List Int)) (h_p_a : SlRd L w v_p_a p_a) (v_p_b : Value) (p_b : (List Int)) (h_p_b : SlRd L w v_p_b p_b) (r : Bool) (h : base_Ints_spec p_a p_b = some r) :
    CallsTo Tryd.prog 42 [v_p_a, v_p_b] w (fun v w' => Ext w w' ∧ (.bool r) = v) := by
  have e0 : Ext w w := Chg.refl _ _
  refine callsTo_of_WC (n := 26) (rs := [.tmp 4]) Tryd.func42 rfl rfl rfl rfl rfl ?_
  refine WC_seqK fun K3 hK3 => ?_
  refine WC_region ?_
  refine T0_q (v := (.bool false)) rfl (yl_assign rfl) ?_
  refine T0_nil ?_
  refine hK3 _ _ ?_
  refine WC_seqK fun K4 hK4 => ?_
  refine WC_seqK fun K5 hK5 => ?_
  refine WC_region ?_
  refine T0_q (v := v_p_a) rfl (yl_move rfl) ?_
  refine T0_q (v := (.int .i64 (p_a.length : Int))) rfl (yl_lenR rfl Tryd.underlying22 h_p_a rfl) ?_
  refine T0_q (v := v_p_b) rfl (yl_move rfl) ?_
  refine T0_q (v := (.int .i64 (p_b.length : Int))) rfl (yl_lenR rfl Tryd.underlying22 h_p_b rfl) ?_
  refine T0_q (v := (.bool (!decide ((p_a.length : Int) = (p_b.length : Int))))) rfl (yl_neq rfl rfl) ?_
  refine T0_nil ?_
  refine hK5 _ _ ?_
  refine WC_cond (b := (!decide ((p_a.length : Int) = (p_b.length : Int)))) rfl (fun hb6 => ?_) (fun hb6 => ?_)
  · replace h := cond_t hb6 h
    refine WC_seqK fun K7 hK7 => ?_
    refine WC_region ?_
    refine T0_q (v := (.bool false)) rfl (yl_assign rfl) ?_
    refine T0_nil ?_
    refine hK7 _ _ ?_
    refine WC_ret ?_
    replace h := some_out h
    subst h
    exact ⟨[(.bool false)], ⟨rfl, trivial⟩, e0, rfl⟩
  · replace h := cond_f hb6 h
    refine WC_skip ?_
    refine hK4 _ _ ?_
    refine WC_seqK fun K8 hK8 => ?_
    refine WC_seqK fun K9 hK9 => ?_
    refine WC_region ?_
    refine T0_q (v := (.int .i64 0)) rfl (yl_assign rfl) ?_
    refine T0_nil ?_
    refine hK9 _ _ ?_
    obtain ⟨o109, hl110, hn111⟩ := bind_elim h
    refine WC_post (fun (ρ : Env) (wd107 : World) => .inr () = o109 ∧ Ext w wd107) ?_ ?_
    · intro K115 hK115
      refine WC_block ?_
      refine WC_loopk (fun sv ρ wd99 => ∃ (x105 : Int), x105 = sv ∧ ρ 0 = v_p_a ∧ ρ 1 = v_p_b ∧ ρ 5 = (.int .i64 x105) ∧ SlRd L wd99 v_p_a p_a ∧ SlRd L wd99 v_p_b p_b ∧ Ext w wd99) hl110 ⟨0, rfl, rfl, rfl, rfl, h_p_a, h_p_b, e0⟩ ?_
      rintro _ ρ wd99 ⟨x105, rfl, hs102, hs104, hs106, h101, h103, e100⟩ x112 h hx113 K114 hK114
      refine WC_seqK fun K117 hK117 => ?_
      refine WC_seqK fun K118 hK118 => ?_
      refine WC_region ?_
      refine T0_q (v := (.int .i64 x105)) rfl (yl_move hs106) ?_
      refine T0_q (v := v_p_a) rfl (yl_move hs102) ?_
      refine T0_q (v := (.int .i64 (p_a.length : Int))) rfl (yl_lenR rfl Tryd.underlying22 h101 rfl) ?_
      refine T0_q (v := (.bool (decide (x105 < (p_a.length : Int))))) rfl (yl_lss rfl rfl) ?_
      refine T0_nil ?_
      refine hK118 _ _ ?_
      refine WC_cond (b := (decide (x105 < (p_a.length : Int)))) rfl (fun hb119 => ?_) (fun hb119 => ?_)
      · replace h := cond_t hb119 h
        refine WC_skip ?_
        refine hK117 _ _ ?_
        refine WC_seqK fun K120 hK120 => ?_
        refine WC_block ?_
        refine WC_seqK fun K121 hK121 => ?_
        refine WC_plan mixed (.p 0 (.p 1 (.p 2 (.p 4 (.p 5 (.p 6 (.q 3 (.q 7 (.p 8 .done))))))))) (by kernel_rfl) ?_
        intro wd122 he123
        have e124 := e100.trans he123
        refine TP_p (v := v_p_a) rfl rfl (fun w' => (yl_move hs102)) ?_
        refine TP_p (v := (.int .i64 x105)) rfl rfl (fun w' => (yl_move hs106)) ?_
        obtain ⟨el125, hel126, h⟩ := bind_elim h
        obtain ⟨cs127, hat128, hrd129⟩ := SlRd.at h101 hel126
        have hrd129 : cs127 = [(.int .i64 el125)] := hrd129
        subst hrd129
        refine TP_p (v := (.pointer (some (elemAddr v_p_a (x105 : Int).toNat 1)))) rfl rfl (fun w' => (yl_indexAddr Tryd.underlying22 sz3 h101 hel126 rfl rfl)) ?_
        refine TP_p (v := v_p_b) rfl rfl (fun w' => (yl_move hs104)) ?_
        refine TP_p (v := (.int .i64 x105)) rfl rfl (fun w' => (yl_move hs106)) ?_
        obtain ⟨el131, hel132, h⟩ := bind_elim h
        obtain ⟨cs133, hat134, hrd135⟩ := SlRd.at h103 hel132
        have hrd135 : cs133 = [(.int .i64 el131)] := hrd135
        subst hrd135
        refine TP_p (v := (.pointer (some (elemAddr v_p_b (x105 : Int).toNat 1)))) rfl rfl (fun w' => (yl_indexAddr Tryd.underlying22 sz3 h103 hel132 rfl rfl)) ?_
        refine TP_q (v := (.int .i64 el125)) rfl rfl (fun w' hS => (yl_load sc3 rfl (hat128.ext' ((he123).trans hS)))) ?_
        refine TP_q (v := (.int .i64 el131)) rfl rfl (fun w' hS => (yl_load sc3 rfl (hat134.ext' ((he123).trans hS)))) ?_
        refine TP_p (v := (.bool (!decide (el125 = el131)))) rfl rfl (fun w' => (yl_neq rfl rfl)) ?_
        refine TP_done ?_
        refine hK121 _ _ ?_
        refine WC_cond (b := (!decide (el125 = el131))) rfl (fun hb137 => ?_) (fun hb137 => ?_)
        · replace h := cond_t hb137 h
          refine WC_seqK fun K138 hK138 => ?_
          refine WC_region ?_
          refine T0_q (v := (.bool false)) rfl (yl_assign rfl) ?_
          refine T0_nil ?_
          refine hK138 _ _ ?_
          refine WC_ret ?_
          replace h := some_out h
          subst h
          have ho := hx113 _ rfl
          subst ho
          replace h := jn0_inl hn111
          replace h := some_out h
          subst h
          exact ⟨[(.bool false)], ⟨rfl, trivial⟩, e124, rfl⟩
        · replace h := cond_f hb137 h
          refine WC_skip ?_
          refine hK120 _ _ ?_
          refine WC_region ?_
          refine T0_q (v := (.int .i64 x105)) rfl (yl_move hs106) ?_
          refine T0_q (v := (.int .i64 (w64 (x105 + 1)))) rfl (yl_add rfl rfl) ?_
          refine T0_q (v := (.int .i64 (w64 (x105 + 1)))) rfl (yl_assign rfl) ?_
          refine T0_nil ?_
          replace h := some_out h
          subst h
          refine hK114 _ _ _ rfl ?_
          exact ⟨w64 (x105 + 1), rfl, hs102, hs104, rfl, (h101.ext he123), (h103.ext he123), e124⟩
      · replace h := cond_f hb119 h
        refine WC_exit ?_
        replace h := some_out h
        subst h
        have ho := hx113 _ rfl
        subst ho
        refine hK115 _ _ ?_
        exact ⟨rfl, e100⟩
    · rintro ρ wd107 ⟨rfl, e108⟩
      replace h := jn0_inr hn111
      refine hK8 _ _ ?_
      refine WC_seqK fun K139 hK139 => ?_
      refine WC_region ?_
      refine T0_q (v := (.bool true)) rfl (yl_assign rfl) ?_
      refine T0_nil ?_
      refine hK139 _ _ ?_
      refine WC_ret ?_
      replace h := some_out h
      subst h
      exact ⟨[(.bool true)], ⟨rfl, trivial⟩, e108, rfl⟩

noncomputable def ref04_CheckTrack_s0 (p_Listappend : LocateTrack) : (Int) → Option ((Int) ⊕ ((Int × Int) ⊕ (Unit))) := fun x113 =>
  (bif (decide (x113 < (p_Listappend.Vanes.length : Int))) then (
    (Option.bind (idx p_Listappend.Vanes x113) fun el137 =>
    (Option.bind (base_Within_spec el137 0 1) fun r143 =>
    (bif (!r143) then (
      some (.inr (.inl (x113, 15)))
    ) else (
      some (.inl (w64 (x113 + 1)))
    ))
    )
    )
  ) else (
    some (.inr (.inr ()))
  ))
noncomputable def ref04_CheckTrack_spec (p_Listappend : LocateTrack) : Option (Int × Int) :=
  (Option.bind (base_Within_spec p_Listappend.Window 1 12) fun r15 =>
  (bif (!r15) then (
    some (0, 2)
  ) else (
    (bif (decide ((p_Listappend.Vanes.length : Int) < p_Listappend.Window)) then (
      some (0, 10)
    ) else (
      (bif (decide (40 < (p_Listappend.Vanes.length : Int))) then (
        some (0, 8)
      ) else (
        (Option.bind (loop (ref04_CheckTrack_s0 p_Listappend) 0) fun o124 => jn0 o124 fun (_ : Unit) =>
        (Option.bind (base_Within_spec p_Listappend.Tooth 1 1000) fun r152 =>
        (Option.bind (bif (!(!r152)) then base_Within_spec p_Listappend.PerVane 1 12 else some default) fun r157 =>
        (Option.bind (bif (!((!r152) || (!r157))) then base_Within_spec p_Listappend.First 0 999000000 else some default) fun r163 =>
        (Option.bind (bif (!(((!r152) || (!r157)) || (!r163))) then base_Within_spec p_Listappend.Modulus 1 1000 else some default) fun r169 =>
        (Option.bind (bif (!((((!r152) || (!r157)) || (!r163)) || (!r169))) then base_Within_spec p_Listappend.Slack 0 p_Listappend.Modulus else some default) fun r175 =>
        (Option.bind (bif (!(((((!r152) || (!r157)) || (!r163)) || (!r169)) || (!r175))) then base_Within_spec p_Listappend.Errors 0 p_Listappend.Window else some default) fun r181 =>
        (bif ((((((!r152) || (!r157)) || (!r163)) || (!r169)) || (!r175)) || (!r181)) then (
          some (0, 2)
        ) else (
          some (0, 0)
        ))
        )
        )
        )
        )
        )
        )
        )
      ))
    ))
  ))
  )
theorem ref04_CheckTrack_ok (L : List Value) (w : World) (hL : LtL L w) (cs_p_Listappend : List Value) (p_Listappend : LocateTrack) (h_p_Listappend : Rep.rd L w cs_p_Listappend p_Listappend) (r : Int × Int) (h : ref04_CheckTrack_spec p_Listappend = some r) :
    CallsTo Tryd.prog 47 [(.agg cs_p_Listappend.toArray)] w (fun v w' => Ext w w' ∧ (.tuple #[(.int .i64 r.1), (.int .i64 r.2)]) = v) := by
  have e0 : Ext w w := Chg.refl _ _
  obtain ⟨v1, h2, rfl⟩ := h_p_Listappend
  refine callsTo_of_WC (n := 72) (rs := [.tmp 2, .tmp 3]) Tryd.func47 rfl rfl rfl rfl rfl ?_
  refine WC_seqK fun K4 hK4 => ?_
  refine WC_region ?_
  refine T0_e rfl (eff_boxC (cs := [v1, (.int .i64 p_Listappend.Window), (.int .i64 p_Listappend.Tooth), (.int .i64 p_Listappend.PerVane), (.int .i64 p_Listappend.First), (.int .i64 p_Listappend.Modulus), (.int .i64 p_Listappend.Slack), (.int .i64 p_Listappend.Errors), (.bool p_Listappend.Round)]) rfl rfl ?_)
  intro b5 wd6 hb7 he8 hB9
  have hbf10 := bfresh e0 hb7
  have e11 := e0.trans he8
  refine T0_q (v := (.int .i64 0)) rfl (yl_assign rfl) ?_
  refine T0_q (v := (.int .i64 0)) rfl (yl_assign rfl) ?_
  refine T0_nil ?_
  refine hK4 _ _ ?_
  refine WC_seqK fun K13 hK13 => ?_
  refine WC_seqK fun K14 hK14 => ?_
  refine WC_region ?_
  refine T0_q (v := (.pointer (some ⟨b5, 1, none⟩))) rfl (yl_fa 1 Tryd.underlying24 rfl rfl ⟨0, sz3⟩ rfl rfl) ?_
  refine T0_q (v := (.int .i64 p_Listappend.Window)) rfl (yl_load sc3 rfl (At.drop (Box.at hB9) 1)) ?_
  obtain ⟨r15, hr16, h⟩ := bind_elim h
  refine T0_e rfl (eff_call Tryd.func35 nm35 rfl (ev3 rfl rfl rfl) (base_Within_ok [] _ (LtL.nil _) p_Listappend.Window 1 12 r15 hr16) ?_)
  rintro _ wd17 ⟨he18, rfl⟩
  have e19 := he8.trans he18
  have e20 := e11.trans he18
  refine T0_q (v := (.bool (!r15))) rfl (yl_not rfl) ?_
  refine T0_nil ?_
  refine hK14 _ _ ?_
  refine WC_cond (b := (!r15)) rfl (fun hb21 => ?_) (fun hb21 => ?_)
  · replace h := cond_t hb21 h
    refine WC_seqK fun K22 hK22 => ?_
    refine WC_region ?_
    refine T0_q (v := (.int .i64 0)) rfl (yl_assign rfl) ?_
    refine T0_q (v := (.int .i64 2)) rfl (yl_assign rfl) ?_
    refine T0_nil ?_
    refine hK22 _ _ ?_
    refine WC_ret ?_
    replace h := some_out h
    subst h
    exact ⟨[(.int .i64 0), (.int .i64 2)], ⟨rfl, rfl, trivial⟩, e20, rfl⟩
  · replace h := cond_f hb21 h
    refine WC_skip ?_
    refine hK13 _ _ ?_
    refine WC_seqK fun K23 hK23 => ?_
    refine WC_seqK fun K24 hK24 => ?_
    refine WC_region ?_
    refine T0_q (v := (.pointer (some ⟨b5, 0, none⟩))) rfl (yl_fa 0 Tryd.underlying24 rfl rfl ⟨0, sz22⟩ rfl rfl) ?_
    refine T0_q (v := v1) rfl (yl_load sc22 rfl (Box.at (hB9.ext he18))) ?_
    refine T0_q (v := (.int .i64 (p_Listappend.Vanes.length : Int))) rfl (yl_lenR rfl Tryd.underlying22 h2 rfl) ?_
    refine T0_q (v := (.pointer (some ⟨b5, 1, none⟩))) rfl (yl_fa 1 Tryd.underlying24 rfl rfl ⟨0, sz3⟩ rfl rfl) ?_
    refine T0_q (v := (.int .i64 p_Listappend.Window)) rfl (yl_load sc3 rfl (At.drop (Box.at (hB9.ext he18)) 1)) ?_
    refine T0_q (v := (.bool (decide ((p_Listappend.Vanes.length : Int) < p_Listappend.Window)))) rfl (yl_lss rfl rfl) ?_
    refine T0_nil ?_
    refine hK24 _ _ ?_
    refine WC_cond (b := (decide ((p_Listappend.Vanes.length : Int) < p_Listappend.Window))) rfl (fun hb25 => ?_) (fun hb25 => ?_)
    · replace h := cond_t hb25 h
      refine WC_seqK fun K26 hK26 => ?_
      refine WC_region ?_
      refine T0_q (v := (.int .i64 0)) rfl (yl_assign rfl) ?_
      refine T0_q (v := (.int .i64 10)) rfl (yl_assign rfl) ?_
      refine T0_nil ?_
      refine hK26 _ _ ?_
      refine WC_ret ?_
      replace h := some_out h
      subst h
      exact ⟨[(.int .i64 0), (.int .i64 10)], ⟨rfl, rfl, trivial⟩, e20, rfl⟩
    · replace h := cond_f hb25 h
      refine WC_skip ?_
      refine hK23 _ _ ?_
      refine WC_seqK fun K27 hK27 => ?_
      refine WC_seqK fun K28 hK28 => ?_
      refine WC_region ?_
      refine T0_q (v := (.pointer (some ⟨b5, 0, none⟩))) rfl (yl_fa 0 Tryd.underlying24 rfl rfl ⟨0, sz22⟩ rfl rfl) ?_
      refine T0_q (v := v1) rfl (yl_load sc22 rfl (Box.at (hB9.ext he18))) ?_
      refine T0_q (v := (.int .i64 (p_Listappend.Vanes.length : Int))) rfl (yl_lenR rfl Tryd.underlying22 h2 rfl) ?_
      refine T0_q (v := (.bool (decide (40 < (p_Listappend.Vanes.length : Int))))) rfl (yl_gtr rfl rfl) ?_
      refine T0_nil ?_
      refine hK28 _ _ ?_
      refine WC_cond (b := (decide (40 < (p_Listappend.Vanes.length : Int)))) rfl (fun hb29 => ?_) (fun hb29 => ?_)
      · replace h := cond_t hb29 h
        refine WC_seqK fun K30 hK30 => ?_
        refine WC_region ?_
        refine T0_q (v := (.int .i64 0)) rfl (yl_assign rfl) ?_
        refine T0_q (v := (.int .i64 8)) rfl (yl_assign rfl) ?_
        refine T0_nil ?_
        refine hK30 _ _ ?_
        refine WC_ret ?_
        replace h := some_out h
        subst h
        exact ⟨[(.int .i64 0), (.int .i64 8)], ⟨rfl, rfl, trivial⟩, e20, rfl⟩
      · replace h := cond_f hb29 h
        refine WC_skip ?_
        refine hK27 _ _ ?_
        refine WC_seqK fun K31 hK31 => ?_
        refine WC_seqK fun K32 hK32 => ?_
        refine WC_region ?_
        refine T0_q (v := (.int .i64 0)) rfl (yl_assign rfl) ?_
        refine T0_nil ?_
        refine hK32 _ _ ?_
        obtain ⟨o124, hl125, hn126⟩ := bind_elim h
        refine WC_post (fun (ρ : Env) (wd118 : World) => .inr () = o124 ∧ ρ 1 = (.pointer (some ⟨b5, 0, none⟩)) ∧ SlRd L wd118 v1 p_Listappend.Vanes ∧ Box wd118 b5 [v1, (.int .i64 p_Listappend.Window), (.int .i64 p_Listappend.Tooth), (.int .i64 p_Listappend.PerVane), (.int .i64 p_Listappend.First), (.int .i64 p_Listappend.Modulus), (.int .i64 p_Listappend.Slack), (.int .i64 p_Listappend.Errors), (.bool p_Listappend.Round)] 24 ∧ Ext w wd118) ?_ ?_
        · intro K130 hK130
          refine WC_block ?_
          refine WC_loopk (fun sv ρ wd110 => ∃ (x113 : Int), x113 = sv ∧ ρ 1 = (.pointer (some ⟨b5, 0, none⟩)) ∧ ρ 4 = (.int .i64 x113) ∧ SlRd L wd110 v1 p_Listappend.Vanes ∧ Box wd110 b5 [v1, (.int .i64 p_Listappend.Window), (.int .i64 p_Listappend.Tooth), (.int .i64 p_Listappend.PerVane), (.int .i64 p_Listappend.First), (.int .i64 p_Listappend.Modulus), (.int .i64 p_Listappend.Slack), (.int .i64 p_Listappend.Errors), (.bool p_Listappend.Round)] 24 ∧ Ext w wd110) hl125 ⟨0, rfl, rfl, rfl, (h2.ext e19), (hB9.ext he18), e20⟩ ?_
          rintro _ ρ wd110 ⟨x113, rfl, hs112, hs114, h115, hB117, e111⟩ x127 h hx128 K129 hK129
          refine WC_seqK fun K132 hK132 => ?_
          refine WC_seqK fun K133 hK133 => ?_
          refine WC_region ?_
          refine T0_q (v := (.int .i64 x113)) rfl (yl_move hs114) ?_
          refine T0_q (v := (.pointer (some ⟨b5, 0, none⟩))) rfl (yl_fa 0 Tryd.underlying24 rfl rfl ⟨0, sz22⟩ hs112 rfl) ?_
          refine T0_q (v := v1) rfl (yl_load sc22 rfl (Box.at hB117)) ?_
          refine T0_q (v := (.int .i64 (p_Listappend.Vanes.length : Int))) rfl (yl_lenR rfl Tryd.underlying22 h115 rfl) ?_
          refine T0_q (v := (.bool (decide (x113 < (p_Listappend.Vanes.length : Int))))) rfl (yl_lss rfl rfl) ?_
          refine T0_nil ?_
          refine hK133 _ _ ?_
          refine WC_cond (b := (decide (x113 < (p_Listappend.Vanes.length : Int)))) rfl (fun hb134 => ?_) (fun hb134 => ?_)
          · replace h := cond_t hb134 h
            refine WC_skip ?_
            refine hK132 _ _ ?_
            refine WC_seqK fun K135 hK135 => ?_
            refine WC_block ?_
            refine WC_seqK fun K136 hK136 => ?_
            refine WC_region ?_
            refine T0_q (v := (.pointer (some ⟨b5, 0, none⟩))) rfl (yl_fa 0 Tryd.underlying24 rfl rfl ⟨0, sz22⟩ hs112 rfl) ?_
            refine T0_q (v := v1) rfl (yl_load sc22 rfl (Box.at hB117)) ?_
            refine T0_q (v := (.int .i64 x113)) rfl (yl_move hs114) ?_
            obtain ⟨el137, hel138, h⟩ := bind_elim h
            obtain ⟨cs139, hat140, hrd141⟩ := SlRd.at h115 hel138
            have hrd141 : cs139 = [(.int .i64 el137)] := hrd141
            subst hrd141
            refine T0_q (v := (.pointer (some (elemAddr v1 (x113 : Int).toNat 1)))) rfl (yl_indexAddr Tryd.underlying22 sz3 h115 hel138 rfl rfl) ?_
            refine T0_q (v := (.int .i64 el137)) rfl (yl_load sc3 rfl hat140) ?_
            obtain ⟨r143, hr144, h⟩ := bind_elim h
            refine T0_e rfl (eff_call Tryd.func35 nm35 rfl (ev3 rfl rfl rfl) (base_Within_ok [] _ (LtL.nil _) el137 0 1 r143 hr144) ?_)
            rintro _ wd145 ⟨he146, rfl⟩
            have e147 := e111.trans he146
            refine T0_q (v := (.bool (!r143))) rfl (yl_not rfl) ?_
            refine T0_nil ?_
            refine hK136 _ _ ?_
            refine WC_cond (b := (!r143)) rfl (fun hb148 => ?_) (fun hb148 => ?_)
            · replace h := cond_t hb148 h
              refine WC_seqK fun K149 hK149 => ?_
              refine WC_region ?_
              refine T0_q (v := (.int .i64 x113)) rfl (yl_move hs114) ?_
              refine T0_q (v := (.int .i64 x113)) rfl (yl_assign rfl) ?_
              refine T0_q (v := (.int .i64 15)) rfl (yl_assign rfl) ?_
              refine T0_nil ?_
              refine hK149 _ _ ?_
              refine WC_ret ?_
              replace h := some_out h
              subst h
              have ho := hx128 _ rfl
              subst ho
              replace h := jn0_inl hn126
              replace h := some_out h
              subst h
              exact ⟨[(.int .i64 x113), (.int .i64 15)], ⟨rfl, rfl, trivial⟩, e147, rfl⟩
            · replace h := cond_f hb148 h
              refine WC_skip ?_
              refine hK135 _ _ ?_
              refine WC_region ?_
              refine T0_q (v := (.int .i64 x113)) rfl (yl_move hs114) ?_
              refine T0_q (v := (.int .i64 (w64 (x113 + 1)))) rfl (yl_add rfl rfl) ?_
              refine T0_q (v := (.int .i64 (w64 (x113 + 1)))) rfl (yl_assign rfl) ?_
              refine T0_nil ?_
              replace h := some_out h
              subst h
              refine hK129 _ _ _ rfl ?_
              exact ⟨w64 (x113 + 1), rfl, hs112, rfl, (h115.ext he146), (hB117.ext he146), e147⟩
          · replace h := cond_f hb134 h
            refine WC_exit ?_
            replace h := some_out h
            subst h
            have ho := hx128 _ rfl
            subst ho
            refine hK130 _ _ ?_
            exact ⟨rfl, hs112, h115, hB117, e111⟩
        · rintro ρ wd118 ⟨rfl, hs120, h121, hB123, e119⟩
          replace h := jn0_inr hn126
          refine hK31 _ _ ?_
          refine WC_seqK fun K150 hK150 => ?_
          refine WC_seqK fun K151 hK151 => ?_
          refine WC_region ?_
          refine T0_q (v := (.pointer (some ⟨b5, 2, none⟩))) rfl (yl_fa 2 Tryd.underlying24 rfl rfl ⟨0, sz3⟩ hs120 rfl) ?_
          refine T0_q (v := (.int .i64 p_Listappend.Tooth)) rfl (yl_load sc3 rfl (At.drop (Box.at hB123) 2)) ?_
          obtain ⟨r152, hr153, h⟩ := bind_elim h
          refine T0_e rfl (eff_call Tryd.func35 nm35 rfl (ev3 rfl rfl rfl) (base_Within_ok [] _ (LtL.nil _) p_Listappend.Tooth 1 1000 r152 hr153) ?_)
          rintro _ wd154 ⟨he155, rfl⟩
          have e156 := e119.trans he155
          refine T0_q (v := (.bool (!r152))) rfl (yl_not rfl) ?_
          refine T0_q (v := (.bool (!r152))) rfl (yl_move rfl) ?_
          refine T0_g (v := (.pointer (some ⟨b5, 3, none⟩))) (!(!r152)) (wanted_f rfl rfl rfl rfl) (fun hg => (yl_fa 3 Tryd.underlying24 rfl rfl ⟨0, sz3⟩ hs120 rfl)) ?_
          refine T0_g (v := (.int .i64 p_Listappend.PerVane)) (!(!r152)) (wanted_f rfl rfl rfl rfl) (fun hg => (yl_load sc3 (gd_true hg) (At.drop (Box.at (hB123.ext he155)) 3))) ?_
          obtain ⟨r157, hr158, h⟩ := bind_elim h
          refine T0_ges (!(!r152)) (.bool r157) (wanted_f rfl rfl rfl rfl) (fun hg => eff_call Tryd.func35 nm35 rfl (ev3 (gd_true hg) rfl rfl) (base_Within_ok [] _ (LtL.nil _) p_Listappend.PerVane 1 12 r157 (cond_t hg hr158)) (by rintro _ wd159 ⟨he160, rfl⟩; exact ⟨rfl, he160⟩)) ?_
          intro wd159 he160
          have e161 := he155.trans he160
          have e162 := e156.trans he160
          refine T0_g (v := (.bool (!r157))) (!(!r152)) (wanted_f rfl rfl rfl rfl) (fun hg => (yl_not (gd_true hg))) ?_
          refine T0_q (v := (.bool ((!r152) || (!r157)))) rfl (yl_or rfl rfl (fun hb => (gd_true (not_t hb)))) ?_
          refine T0_q (v := (.bool ((!r152) || (!r157)))) rfl (yl_move rfl) ?_
          refine T0_g (v := (.pointer (some ⟨b5, 4, none⟩))) (!((!r152) || (!r157))) (wanted_f rfl rfl rfl rfl) (fun hg => (yl_fa 4 Tryd.underlying24 rfl rfl ⟨0, sz3⟩ hs120 rfl)) ?_
          refine T0_g (v := (.int .i64 p_Listappend.First)) (!((!r152) || (!r157))) (wanted_f rfl rfl rfl rfl) (fun hg => (yl_load sc3 (gd_true hg) (At.drop (Box.at (hB123.ext e161)) 4))) ?_
          obtain ⟨r163, hr164, h⟩ := bind_elim h
          refine T0_ges (!((!r152) || (!r157))) (.bool r163) (wanted_f rfl rfl rfl rfl) (fun hg => eff_call Tryd.func35 nm35 rfl (ev3 (gd_true hg) rfl rfl) (base_Within_ok [] _ (LtL.nil _) p_Listappend.First 0 999000000 r163 (cond_t hg hr164)) (by rintro _ wd165 ⟨he166, rfl⟩; exact ⟨rfl, he166⟩)) ?_
          intro wd165 he166
          have e167 := e161.trans he166
          have e168 := e162.trans he166
          refine T0_g (v := (.bool (!r163))) (!((!r152) || (!r157))) (wanted_f rfl rfl rfl rfl) (fun hg => (yl_not (gd_true hg))) ?_
          refine T0_q (v := (.bool (((!r152) || (!r157)) || (!r163)))) rfl (yl_or rfl rfl (fun hb => (gd_true (not_t hb)))) ?_
          refine T0_q (v := (.bool (((!r152) || (!r157)) || (!r163)))) rfl (yl_move rfl) ?_
          refine T0_g (v := (.pointer (some ⟨b5, 5, none⟩))) (!(((!r152) || (!r157)) || (!r163))) (wanted_f rfl rfl rfl rfl) (fun hg => (yl_fa 5 Tryd.underlying24 rfl rfl ⟨0, sz3⟩ hs120 rfl)) ?_
          refine T0_g (v := (.int .i64 p_Listappend.Modulus)) (!(((!r152) || (!r157)) || (!r163))) (wanted_f rfl rfl rfl rfl) (fun hg => (yl_load sc3 (gd_true hg) (At.drop (Box.at (hB123.ext e167)) 5))) ?_
          obtain ⟨r169, hr170, h⟩ := bind_elim h
          refine T0_ges (!(((!r152) || (!r157)) || (!r163))) (.bool r169) (wanted_f rfl rfl rfl rfl) (fun hg => eff_call Tryd.func35 nm35 rfl (ev3 (gd_true hg) rfl rfl) (base_Within_ok [] _ (LtL.nil _) p_Listappend.Modulus 1 1000 r169 (cond_t hg hr170)) (by rintro _ wd171 ⟨he172, rfl⟩; exact ⟨rfl, he172⟩)) ?_
          intro wd171 he172
          have e173 := e167.trans he172
          have e174 := e168.trans he172
          refine T0_g (v := (.bool (!r169))) (!(((!r152) || (!r157)) || (!r163))) (wanted_f rfl rfl rfl rfl) (fun hg => (yl_not (gd_true hg))) ?_
          refine T0_q (v := (.bool ((((!r152) || (!r157)) || (!r163)) || (!r169)))) rfl (yl_or rfl rfl (fun hb => (gd_true (not_t hb)))) ?_
          refine T0_q (v := (.bool ((((!r152) || (!r157)) || (!r163)) || (!r169)))) rfl (yl_move rfl) ?_
          refine T0_g (v := (.pointer (some ⟨b5, 6, none⟩))) (!((((!r152) || (!r157)) || (!r163)) || (!r169))) (wanted_f rfl rfl rfl rfl) (fun hg => (yl_fa 6 Tryd.underlying24 rfl rfl ⟨0, sz3⟩ hs120 rfl)) ?_
          refine T0_g (v := (.int .i64 p_Listappend.Slack)) (!((((!r152) || (!r157)) || (!r163)) || (!r169))) (wanted_f rfl rfl rfl rfl) (fun hg => (yl_load sc3 (gd_true hg) (At.drop (Box.at (hB123.ext e173)) 6))) ?_
          refine T0_g (v := (.pointer (some ⟨b5, 5, none⟩))) (!((((!r152) || (!r157)) || (!r163)) || (!r169))) (wanted_f rfl rfl rfl rfl) (fun hg => (yl_fa 5 Tryd.underlying24 rfl rfl ⟨0, sz3⟩ hs120 rfl)) ?_
          refine T0_g (v := (.int .i64 p_Listappend.Modulus)) (!((((!r152) || (!r157)) || (!r163)) || (!r169))) (wanted_f rfl rfl rfl rfl) (fun hg => (yl_load sc3 (gd_true hg) (At.drop (Box.at (hB123.ext e173)) 5))) ?_
          obtain ⟨r175, hr176, h⟩ := bind_elim h
          refine T0_ges (!((((!r152) || (!r157)) || (!r163)) || (!r169))) (.bool r175) (wanted_f rfl rfl rfl rfl) (fun hg => eff_call Tryd.func35 nm35 rfl (ev3 (gd_true hg) rfl (gd_true hg)) (base_Within_ok [] _ (LtL.nil _) p_Listappend.Slack 0 p_Listappend.Modulus r175 (cond_t hg hr176)) (by rintro _ wd177 ⟨he178, rfl⟩; exact ⟨rfl, he178⟩)) ?_
          intro wd177 he178
          have e179 := e173.trans he178
          have e180 := e174.trans he178
          refine T0_g (v := (.bool (!r175))) (!((((!r152) || (!r157)) || (!r163)) || (!r169))) (wanted_f rfl rfl rfl rfl) (fun hg => (yl_not (gd_true hg))) ?_
          refine T0_q (v := (.bool (((((!r152) || (!r157)) || (!r163)) || (!r169)) || (!r175)))) rfl (yl_or rfl rfl (fun hb => (gd_true (not_t hb)))) ?_
          refine T0_q (v := (.bool (((((!r152) || (!r157)) || (!r163)) || (!r169)) || (!r175)))) rfl (yl_move rfl) ?_
          refine T0_g (v := (.pointer (some ⟨b5, 7, none⟩))) (!(((((!r152) || (!r157)) || (!r163)) || (!r169)) || (!r175))) (wanted_f rfl rfl rfl rfl) (fun hg => (yl_fa 7 Tryd.underlying24 rfl rfl ⟨0, sz3⟩ hs120 rfl)) ?_
          refine T0_g (v := (.int .i64 p_Listappend.Errors)) (!(((((!r152) || (!r157)) || (!r163)) || (!r169)) || (!r175))) (wanted_f rfl rfl rfl rfl) (fun hg => (yl_load sc3 (gd_true hg) (At.drop (Box.at (hB123.ext e179)) 7))) ?_
          refine T0_g (v := (.pointer (some ⟨b5, 1, none⟩))) (!(((((!r152) || (!r157)) || (!r163)) || (!r169)) || (!r175))) (wanted_f rfl rfl rfl rfl) (fun hg => (yl_fa 1 Tryd.underlying24 rfl rfl ⟨0, sz3⟩ hs120 rfl)) ?_
          refine T0_g (v := (.int .i64 p_Listappend.Window)) (!(((((!r152) || (!r157)) || (!r163)) || (!r169)) || (!r175))) (wanted_f rfl rfl rfl rfl) (fun hg => (yl_load sc3 (gd_true hg) (At.drop (Box.at (hB123.ext e179)) 1))) ?_
          obtain ⟨r181, hr182, h⟩ := bind_elim h
          refine T0_ges (!(((((!r152) || (!r157)) || (!r163)) || (!r169)) || (!r175))) (.bool r181) (wanted_f rfl rfl rfl rfl) (fun hg => eff_call Tryd.func35 nm35 rfl (ev3 (gd_true hg) rfl (gd_true hg)) (base_Within_ok [] _ (LtL.nil _) p_Listappend.Errors 0 p_Listappend.Window r181 (cond_t hg hr182)) (by rintro _ wd183 ⟨he184, rfl⟩; exact ⟨rfl, he184⟩)) ?_
          intro wd183 he184
          have e185 := e179.trans he184
          have e186 := e180.trans he184
          refine T0_g (v := (.bool (!r181))) (!(((((!r152) || (!r157)) || (!r163)) || (!r169)) || (!r175))) (wanted_f rfl rfl rfl rfl) (fun hg => (yl_not (gd_true hg))) ?_
          refine T0_q (v := (.bool ((((((!r152) || (!r157)) || (!r163)) || (!r169)) || (!r175)) || (!r181)))) rfl (yl_or rfl rfl (fun hb => (gd_true (not_t hb)))) ?_
          refine T0_nil ?_
          refine hK151 _ _ ?_
          refine WC_cond (b := ((((((!r152) || (!r157)) || (!r163)) || (!r169)) || (!r175)) || (!r181))) rfl (fun hb187 => ?_) (fun hb187 => ?_)
          · replace h := cond_t hb187 h
            refine WC_seqK fun K188 hK188 => ?_
            refine WC_region ?_
            refine T0_q (v := (.int .i64 0)) rfl (yl_assign rfl) ?_
            refine T0_q (v := (.int .i64 2)) rfl (yl_assign rfl) ?_
            refine T0_nil ?_
            refine hK188 _ _ ?_
            refine WC_ret ?_
            replace h := some_out h
            subst h
            exact ⟨[(.int .i64 0), (.int .i64 2)], ⟨rfl, rfl, trivial⟩, e186, rfl⟩
          · replace h := cond_f hb187 h
            refine WC_skip ?_
            refine hK150 _ _ ?_
            refine WC_seqK fun K189 hK189 => ?_
            refine WC_region ?_
            refine T0_q (v := (.int .i64 0)) rfl (yl_assign rfl) ?_
            refine T0_q (v := (.int .i64 0)) rfl (yl_assign rfl) ?_
            refine T0_nil ?_
            refine hK189 _ _ ?_
            refine WC_ret ?_
            replace h := some_out h
            subst h
            exact ⟨[(.int .i64 0), (.int .i64 0)], ⟨rfl, rfl, trivial⟩, e186, rfl⟩

noncomputable def ref04_WindowsOf_spec (p_t : LocateTrack) : Option Int :=
  (bif p_t.Round then (
    some (p_t.Vanes.length : Int)
  ) else (
    some (w64 ((w64 ((p_t.Vanes.length : Int) - p_t.Window)) + 1))
  ))
theorem ref04_WindowsOf_ok (L : List Value) (w : World) (hL : LtL L w) (cs_p_t : List Value) (p_t : LocateTrack) (h_p_t : Rep.rd L w cs_p_t p_t) (r : Int) (h : ref04_WindowsOf_spec p_t = some r) :
    CallsTo Tryd.prog 48 [(.agg cs_p_t.toArray)] w (fun v w' => Ext w w' ∧ (.int .i64 r) = v) := by
  have e0 : Ext w w := Chg.refl _ _
  obtain ⟨v1, h2, rfl⟩ := h_p_t
  refine callsTo_of_WC (n := 15) (rs := [.tmp 2]) Tryd.func48 rfl rfl rfl rfl rfl ?_
  refine WC_seqK fun K4 hK4 => ?_
  refine WC_region ?_
  refine T0_e rfl (eff_boxC (cs := [v1, (.int .i64 p_t.Window), (.int .i64 p_t.Tooth), (.int .i64 p_t.PerVane), (.int .i64 p_t.First), (.int .i64 p_t.Modulus), (.int .i64 p_t.Slack), (.int .i64 p_t.Errors), (.bool p_t.Round)]) rfl rfl ?_)
  intro b5 wd6 hb7 he8 hB9
  have hbf10 := bfresh e0 hb7
  have e11 := e0.trans he8
  refine T0_q (v := (.int .i64 0)) rfl (yl_assign rfl) ?_
  refine T0_nil ?_
  refine hK4 _ _ ?_
  refine WC_seqK fun K13 hK13 => ?_
  refine WC_seqK fun K14 hK14 => ?_
  refine WC_region ?_
  refine T0_q (v := (.pointer (some ⟨b5, 8, none⟩))) rfl (yl_fa 8 Tryd.underlying24 rfl rfl ⟨0, sz4⟩ rfl rfl) ?_
  refine T0_q (v := (.bool p_t.Round)) rfl (yl_load sc4 rfl (At.drop (Box.at hB9) 8)) ?_
  refine T0_nil ?_
  refine hK14 _ _ ?_
  refine WC_cond (b := p_t.Round) rfl (fun hb15 => ?_) (fun hb15 => ?_)
  · replace h := cond_t hb15 h
    refine WC_seqK fun K16 hK16 => ?_
    refine WC_region ?_
    refine T0_q (v := (.pointer (some ⟨b5, 0, none⟩))) rfl (yl_fa 0 Tryd.underlying24 rfl rfl ⟨0, sz22⟩ rfl rfl) ?_
    refine T0_q (v := v1) rfl (yl_load sc22 rfl (Box.at hB9)) ?_
    refine T0_q (v := (.int .i64 (p_t.Vanes.length : Int))) rfl (yl_lenR rfl Tryd.underlying22 h2 rfl) ?_
    refine T0_q (v := (.int .i64 (p_t.Vanes.length : Int))) rfl (yl_assign rfl) ?_
    refine T0_nil ?_
    refine hK16 _ _ ?_
    refine WC_ret ?_
    replace h := some_out h
    subst h
    exact ⟨[(.int .i64 (p_t.Vanes.length : Int))], ⟨rfl, trivial⟩, e11, rfl⟩
  · replace h := cond_f hb15 h
    refine WC_skip ?_
    refine hK13 _ _ ?_
    refine WC_seqK fun K17 hK17 => ?_
    refine WC_region ?_
    refine T0_q (v := (.pointer (some ⟨b5, 0, none⟩))) rfl (yl_fa 0 Tryd.underlying24 rfl rfl ⟨0, sz22⟩ rfl rfl) ?_
    refine T0_q (v := v1) rfl (yl_load sc22 rfl (Box.at hB9)) ?_
    refine T0_q (v := (.int .i64 (p_t.Vanes.length : Int))) rfl (yl_lenR rfl Tryd.underlying22 h2 rfl) ?_
    refine T0_q (v := (.pointer (some ⟨b5, 1, none⟩))) rfl (yl_fa 1 Tryd.underlying24 rfl rfl ⟨0, sz3⟩ rfl rfl) ?_
    refine T0_q (v := (.int .i64 p_t.Window)) rfl (yl_load sc3 rfl (At.drop (Box.at hB9) 1)) ?_
    refine T0_q (v := (.int .i64 (w64 ((p_t.Vanes.length : Int) - p_t.Window)))) rfl (yl_sub rfl rfl) ?_
    refine T0_q (v := (.int .i64 (w64 ((w64 ((p_t.Vanes.length : Int) - p_t.Window)) + 1)))) rfl (yl_add rfl rfl) ?_
    refine T0_q (v := (.int .i64 (w64 ((w64 ((p_t.Vanes.length : Int) - p_t.Window)) + 1)))) rfl (yl_assign rfl) ?_
    refine T0_nil ?_
    refine hK17 _ _ ?_
    refine WC_ret ?_
    replace h := some_out h
    subst h
    exact ⟨[(.int .i64 (w64 ((w64 ((p_t.Vanes.length : Int) - p_t.Window)) + 1)))], ⟨rfl, trivial⟩, e11, rfl⟩

noncomputable def ref04_TeethOf_spec (p_t : LocateTrack) : Option Int :=
  (Option.bind (ref04_WindowsOf_spec p_t) fun r18 =>
  some (w64 (r18 * p_t.PerVane))
  )
theorem ref04_TeethOf_ok (L : List Value) (w : World) (hL : LtL L w) (cs_p_t : List Value) (p_t : LocateTrack) (h_p_t : Rep.rd L w cs_p_t p_t) (r : Int) (h : ref04_TeethOf_spec p_t = some r) :
    CallsTo Tryd.prog 49 [(.agg cs_p_t.toArray)] w (fun v w' => Ext w w' ∧ (.int .i64 r) = v) := by
  have e0 : Ext w w := Chg.refl _ _
  obtain ⟨v1, h2, rfl⟩ := h_p_t
  refine callsTo_of_WC (n := 8) (rs := [.tmp 2]) Tryd.func49 rfl rfl rfl rfl rfl ?_
  refine WC_seqK fun K4 hK4 => ?_
  refine WC_region ?_
  refine T0_e rfl (eff_boxC (cs := [v1, (.int .i64 p_t.Window), (.int .i64 p_t.Tooth), (.int .i64 p_t.PerVane), (.int .i64 p_t.First), (.int .i64 p_t.Modulus), (.int .i64 p_t.Slack), (.int .i64 p_t.Errors), (.bool p_t.Round)]) rfl rfl ?_)
  intro b5 wd6 hb7 he8 hB9
  have hbf10 := bfresh e0 hb7
  have e11 := e0.trans he8
  refine T0_q (v := (.int .i64 0)) rfl (yl_assign rfl) ?_
  refine T0_nil ?_
  refine hK4 _ _ ?_
  refine WC_seqK fun K13 hK13 => ?_
  refine WC_plan mixed (.p 2 (.q 0 (.q 3 (.e 1 (.p 4 (.p 5 .done)))))) (by kernel_rfl) ?_
  intro wd14 he15
  have e16 := he8.trans he15
  have e17 := e11.trans he15
  refine TP_p (v := (.pointer (some ⟨b5, 3, none⟩))) rfl rfl (fun w' => (yl_fa 3 Tryd.underlying24 rfl rfl ⟨0, sz3⟩ rfl rfl)) ?_
  refine TP_q (v := (.agg (List.toArray [v1, (.int .i64 p_t.Window), (.int .i64 p_t.Tooth), (.int .i64 p_t.PerVane), (.int .i64 p_t.First), (.int .i64 p_t.Modulus), (.int .i64 p_t.Slack), (.int .i64 p_t.Errors), (.bool p_t.Round)]))) rfl rfl (fun w' hS => (yl_loadA (cs := [v1, (.int .i64 p_t.Window), (.int .i64 p_t.Tooth), (.int .i64 p_t.PerVane), (.int .i64 p_t.First), (.int .i64 p_t.Modulus), (.int .i64 p_t.Slack), (.int .i64 p_t.Errors), (.bool p_t.Round)]) ag24 rfl (Box.at (hB9.ext ((he15).trans hS))))) ?_
  refine TP_q (v := (.int .i64 p_t.PerVane)) rfl rfl (fun w' hS => (yl_load sc3 rfl (At.drop (Box.at (hB9.ext ((he15).trans hS))) 3))) ?_
  obtain ⟨r18, hr19, h⟩ := bind_elim h
  refine TP_e rfl rfl (eff_call Tryd.func48 nm48 rfl (ev1 rfl) (ref04_WindowsOf_ok [] _ (LtL.nil _) [v1, (.int .i64 p_t.Window), (.int .i64 p_t.Tooth), (.int .i64 p_t.PerVane), (.int .i64 p_t.First), (.int .i64 p_t.Modulus), (.int .i64 p_t.Slack), (.int .i64 p_t.Errors), (.bool p_t.Round)] p_t ⟨v1, ((h2.ext e16).sub (fun _ h => by cases h)), rfl⟩ r18 hr19) ?_)
  rintro _ wd20 ⟨he21, rfl⟩
  have e22 := e16.trans he21
  have e23 := he15.trans he21
  have e24 := e17.trans he21
  refine ⟨he21, ?_⟩
  refine TP_p (v := (.int .i64 (w64 (r18 * p_t.PerVane)))) rfl rfl (fun w' => (yl_mul rfl rfl)) ?_
  refine TP_p (v := (.int .i64 (w64 (r18 * p_t.PerVane)))) rfl rfl (fun w' => (yl_assign rfl)) ?_
  refine TP_done ?_
  refine hK13 _ _ ?_
  refine WC_ret ?_
  replace h := some_out h
  subst h
  exact ⟨[(.int .i64 (w64 (r18 * p_t.PerVane)))], ⟨rfl, trivial⟩, e24, rfl⟩

noncomputable def ref04_WindowAt_s0 (p_i : Int) (p_t : LocateTrack) : ((List Int) × Int) → Option (((List Int) × Int) ⊕ ((List Int))) := fun (x181, x186) =>
  (bif (decide (x186 < p_t.Window)) then (
    (Option.bind (rem (w64 (p_i + x186)) (p_t.Vanes.length : Int)) fun q220 =>
    (Option.bind (idx p_t.Vanes q220) fun el222 =>
    (Option.bind (app x181 ([el222] : List Int)) fun zs235 =>
    some (.inl (zs235, w64 (x186 + 1)))
    )
    )
    )
  ) else (
    some (.inr x181)
  ))
noncomputable def ref04_WindowAt_spec (p_t : LocateTrack) (p_i : Int) : Option (List Int) :=
  (Option.bind (loop (ref04_WindowAt_s0 p_i p_t) (([] : List Int), 0)) fun (x200 : (List Int)) =>
  some x200
  )
theorem ref04_WindowAt_ok (L : List Value) (w : World) (hL : LtL L w) (cs_p_t : List Value) (p_t : LocateTrack) (h_p_t : Rep.rd L w cs_p_t p_t) (p_i : Int) (r : (List Int)) (h : ref04_WindowAt_spec p_t p_i = some r) :
    CallsTo Tryd.prog 51 [(.agg cs_p_t.toArray), (.int .i64 p_i)] w (fun v w' => Ext w w' ∧ ∃ (v0 : Value), v0 = v ∧ SlRd L w' v0 r) := by
  have e0 : Ext w w := Chg.refl _ _
  obtain ⟨v1, h2, rfl⟩ := h_p_t
  refine callsTo_of_WC (n := 28) (rs := [.tmp 4]) Tryd.func51 rfl rfl rfl rfl rfl ?_
  refine WC_seqK fun K4 hK4 => ?_
  refine WC_region ?_
  refine T0_e rfl (eff_boxC (cs := [v1, (.int .i64 p_t.Window), (.int .i64 p_t.Tooth), (.int .i64 p_t.PerVane), (.int .i64 p_t.First), (.int .i64 p_t.Modulus), (.int .i64 p_t.Slack), (.int .i64 p_t.Errors), (.bool p_t.Round)]) rfl rfl ?_)
  intro b5 wd6 hb7 he8 hB9
  have hbf10 := bfresh e0 hb7
  have e11 := e0.trans he8
  refine T0_q (v := (.slice none 0 0)) rfl (yl_assign rfl) ?_
  refine T0_nil ?_
  refine hK4 _ _ ?_
  refine WC_seqK fun K13 hK13 => ?_
  refine WC_region ?_
  refine T0_q (v := (.slice none 0 0)) rfl (yl_assign rfl) ?_
  refine T0_nil ?_
  refine hK13 _ _ ?_
  refine WC_seqK fun K14 hK14 => ?_
  refine WC_seqK fun K15 hK15 => ?_
  refine WC_region ?_
  refine T0_q (v := (.int .i64 0)) rfl (yl_assign rfl) ?_
  refine T0_nil ?_
  refine hK15 _ _ ?_
  have h192 := (h2.ext he8).step (add_nil _)
  have h194 : Own 3 ((.slice none 0 0) :: L) wd6 (.slice none 0 0) ([] : List Int) := Own.nil _ _ _
  obtain ⟨o205, hl206, hn207⟩ := bind_elim h
  refine WC_post (fun (ρ : Env) (wd196 : World) => ∃ (x200 : (List Int)) (v199 : Value), x200 = o205 ∧ ρ 5 = v199 ∧ Own 3 (v199 :: L) wd196 v199 x200 ∧ (∀ b, blk v199 = some b → w.heap.size ≤ b) ∧ Ext w wd196) ?_ ?_
  · intro K211 hK211
    refine WC_block ?_
    refine WC_loopk (fun sv ρ wd175 => ∃ (x181 : (List Int)) (x186 : Int) (v180 : Value), (x181, x186) = sv ∧ ρ 1 = (.int .i64 p_i) ∧ ρ 2 = (.pointer (some ⟨b5, 0, none⟩)) ∧ ρ 5 = v180 ∧ ρ 6 = (.int .i64 x186) ∧ SlRd (v180 :: L) wd175 v1 p_t.Vanes ∧ Box wd175 b5 [v1, (.int .i64 p_t.Window), (.int .i64 p_t.Tooth), (.int .i64 p_t.PerVane), (.int .i64 p_t.First), (.int .i64 p_t.Modulus), (.int .i64 p_t.Slack), (.int .i64 p_t.Errors), (.bool p_t.Round)] 24 ∧ Own 3 (v180 :: L) wd175 v180 x181 ∧ (∀ b, blk v180 = some b → w.heap.size ≤ b) ∧ (blk v180 ≠ some b5) ∧ Ext w wd175) hl206 ⟨([] : List Int), 0, (.slice none 0 0), rfl, rfl, rfl, rfl, rfl, h192, hB9, h194, (fun b h => blk_nil b h), (fun h => by cases h), e11⟩ ?_
    rintro _ ρ wd175 ⟨x181, x186, v180, rfl, hs177, hs178, hs185, hs187, h188, hB190, h183, hf184, hn191, e176⟩ x208 h hx209 K210 hK210
    refine WC_seqK fun K213 hK213 => ?_
    refine WC_seqK fun K214 hK214 => ?_
    refine WC_region ?_
    refine T0_q (v := (.int .i64 x186)) rfl (yl_move hs187) ?_
    refine T0_q (v := (.pointer (some ⟨b5, 1, none⟩))) rfl (yl_fa 1 Tryd.underlying24 rfl rfl ⟨0, sz3⟩ hs178 rfl) ?_
    refine T0_q (v := (.int .i64 p_t.Window)) rfl (yl_load sc3 rfl (At.drop (Box.at hB190) 1)) ?_
    refine T0_q (v := (.bool (decide (x186 < p_t.Window)))) rfl (yl_lss rfl rfl) ?_
    refine T0_nil ?_
    refine hK214 _ _ ?_
    refine WC_cond (b := (decide (x186 < p_t.Window))) rfl (fun hb215 => ?_) (fun hb215 => ?_)
    · replace h := cond_t hb215 h
      refine WC_skip ?_
      refine hK213 _ _ ?_
      refine WC_seqK fun K216 hK216 => ?_
      refine WC_block ?_
      refine WC_plan mixed (.p 0 (.p 1 (.p 3 (.p 4 (.p 5 (.p 6 (.q 2 (.q 7 (.p 8 (.p 9 (.p 10 (.q 11 (.e 12 (.b 13 (.p 14 .done))))))))))))))) (by kernel_rfl) ?_
      intro wd217 he218
      have e219 := e176.trans he218
      refine TP_p (v := v180) rfl rfl (fun w' => (yl_move hs185)) ?_
      refine TP_p (v := (.pointer (some ⟨b5, 0, none⟩))) rfl rfl (fun w' => (yl_fa 0 Tryd.underlying24 rfl rfl ⟨0, sz22⟩ hs178 rfl)) ?_
      refine TP_p (v := (.int .i64 p_i)) rfl rfl (fun w' => (yl_move hs177)) ?_
      refine TP_p (v := (.int .i64 x186)) rfl rfl (fun w' => (yl_move hs187)) ?_
      refine TP_p (v := (.int .i64 (w64 (p_i + x186)))) rfl rfl (fun w' => (yl_add rfl rfl)) ?_
      refine TP_p (v := (.pointer (some ⟨b5, 0, none⟩))) rfl rfl (fun w' => (yl_fa 0 Tryd.underlying24 rfl rfl ⟨0, sz22⟩ hs178 rfl)) ?_
      refine TP_q (v := v1) rfl rfl (fun w' hS => (yl_load sc22 rfl (Box.at (hB190.ext ((he218).trans hS))))) ?_
      refine TP_q (v := v1) rfl rfl (fun w' hS => (yl_load sc22 rfl (Box.at (hB190.ext ((he218).trans hS))))) ?_
      refine TP_p (v := (.int .i64 (p_t.Vanes.length : Int))) rfl rfl (fun w' => (yl_lenR rfl Tryd.underlying22 h188 rfl)) ?_
      obtain ⟨q220, hq221, h⟩ := bind_elim h
      refine TP_p (v := (.int .i64 q220)) rfl rfl (fun w' => (yl_rem' hq221 rfl rfl)) ?_
      obtain ⟨el222, hel223, h⟩ := bind_elim h
      obtain ⟨cs224, hat225, hrd226⟩ := SlRd.at h188 hel223
      have hrd226 : cs224 = [(.int .i64 el222)] := hrd226
      subst hrd226
      refine TP_p (v := (.pointer (some (elemAddr v1 (q220 : Int).toNat 1)))) rfl rfl (fun w' => (yl_indexAddr Tryd.underlying22 sz3 h188 hel223 rfl rfl)) ?_
      refine TP_q (v := (.int .i64 el222)) rfl rfl (fun w' hS => (yl_load sc3 rfl (hat225.ext' ((he218).trans hS)))) ?_
      refine TP_e rfl rfl (eff_buildTC (xs := ([el222] : List Int)) (cells := [(.int .i64 el222)]) Tryd.underlying22 ei3 rfl (pc_cons rfl rfl pc_nil) rfl (Elems.cons (cs := [(.int .i64 el222)]) rfl Elems.nil) rfl (ltl_own (hL.chg e219) (h183.ext he218)) ?_)
      intro b231 wd228 he229 h230
      have e232 := he218.trans he229
      have e233 := e219.trans he229
      refine ⟨he229, ?_⟩
      obtain ⟨zs235, hz236, h⟩ := bind_elim h
      refine TP_b rfl rfl (eff_app Tryd.underlying22 ei3 rfl rfl rfl rfl (h183.ext e232) h230 hz236 ?_)
      intro v237 wd238 hc239 hbl240 h241
      have hn243 : blk v237 ≠ some b5 := ne_swap hbl240 hn191 (hB190.ext e232)
      have hf244 := fresh_swap hbl240 hf184 e233.size
      have h245 := (h188.ext e232).step (Stepp.swap hc239 hbl240)
      have h246 := (hB190.ext e232).chg hc239 (avoid1 hn191)
      have h247 := h230.step (Stepp.swap hc239 hbl240)
      have e248 := chg_own e233 hc239 hf184
      refine TP_p (v := v237) rfl rfl (fun w' => (yl_assign rfl)) ?_
      refine TP_done ?_
      refine hK216 _ _ ?_
      refine WC_region ?_
      refine T0_q (v := (.int .i64 x186)) rfl (yl_move hs187) ?_
      refine T0_q (v := (.int .i64 (w64 (x186 + 1)))) rfl (yl_add rfl rfl) ?_
      refine T0_q (v := (.int .i64 (w64 (x186 + 1)))) rfl (yl_assign rfl) ?_
      refine T0_nil ?_
      replace h := some_out h
      subst h
      refine hK210 _ _ _ rfl ?_
      exact ⟨zs235, w64 (x186 + 1), v237, rfl, hs177, hs178, rfl, rfl, h245, h246, h241, hf244, hn243, e248⟩
    · replace h := cond_f hb215 h
      refine WC_exit ?_
      replace h := some_out h
      subst h
      have ho := hx209 _ rfl
      subst ho
      refine hK211 _ _ ?_
      exact ⟨x181, v180, rfl, hs185, h183, hf184, e176⟩
  · rintro ρ wd196 ⟨x200, v199, rfl, hs204, h202, hf203, e197⟩
    replace h := hn207
    refine hK14 _ _ ?_
    refine WC_seqK fun K250 hK250 => ?_
    refine WC_region ?_
    refine T0_q (v := v199) rfl (yl_move hs204) ?_
    refine T0_q (v := v199) rfl (yl_assign rfl) ?_
    refine T0_nil ?_
    refine hK250 _ _ ?_
    refine WC_ret ?_
    replace h := some_out h
    subst h
    exact ⟨[v199], ⟨rfl, trivial⟩, e197, v199, rfl, (h202.rdL (sub_skip (sub_refl _)) hL hf203)⟩
theorem ref04_WindowAt_own (L : List Value) (w : World) (hL : LtL L w) (cs_p_t : List Value) (p_t : LocateTrack) (h_p_t : Rep.rd L w cs_p_t p_t) (p_i : Int) (r : (List Int)) (h : ref04_WindowAt_spec p_t p_i = some r) :
    CallsTo Tryd.prog 51 [(.agg cs_p_t.toArray), (.int .i64 p_i)] w (fun v w' => Ext w w' ∧ ∃ (v0 : Value), v0 = v ∧ (∀ b, blk v0 = some b → w.heap.size ≤ b) ∧ Own 3 (v0 :: L) w' v0 r) := by
  have e0 : Ext w w := Chg.refl _ _
  obtain ⟨v1, h2, rfl⟩ := h_p_t
  refine callsTo_of_WC (n := 28) (rs := [.tmp 4]) Tryd.func51 rfl rfl rfl rfl rfl ?_
  refine WC_seqK fun K4 hK4 => ?_
  refine WC_region ?_
  refine T0_e rfl (eff_boxC (cs := [v1, (.int .i64 p_t.Window), (.int .i64 p_t.Tooth), (.int .i64 p_t.PerVane), (.int .i64 p_t.First), (.int .i64 p_t.Modulus), (.int .i64 p_t.Slack), (.int .i64 p_t.Errors), (.bool p_t.Round)]) rfl rfl ?_)
  intro b5 wd6 hb7 he8 hB9
  have hbf10 := bfresh e0 hb7
  have e11 := e0.trans he8
  refine T0_q (v := (.slice none 0 0)) rfl (yl_assign rfl) ?_
  refine T0_nil ?_
  refine hK4 _ _ ?_
  refine WC_seqK fun K13 hK13 => ?_
  refine WC_region ?_
  refine T0_q (v := (.slice none 0 0)) rfl (yl_assign rfl) ?_
  refine T0_nil ?_
  refine hK13 _ _ ?_
  refine WC_seqK fun K14 hK14 => ?_
  refine WC_seqK fun K15 hK15 => ?_
  refine WC_region ?_
  refine T0_q (v := (.int .i64 0)) rfl (yl_assign rfl) ?_
  refine T0_nil ?_
  refine hK15 _ _ ?_
  have h192 := (h2.ext he8).step (add_nil _)
  have h194 : Own 3 ((.slice none 0 0) :: L) wd6 (.slice none 0 0) ([] : List Int) := Own.nil _ _ _
  obtain ⟨o205, hl206, hn207⟩ := bind_elim h
  refine WC_post (fun (ρ : Env) (wd196 : World) => ∃ (x200 : (List Int)) (v199 : Value), x200 = o205 ∧ ρ 5 = v199 ∧ Own 3 (v199 :: L) wd196 v199 x200 ∧ (∀ b, blk v199 = some b → w.heap.size ≤ b) ∧ Ext w wd196) ?_ ?_
  · intro K211 hK211
    refine WC_block ?_
    refine WC_loopk (fun sv ρ wd175 => ∃ (x181 : (List Int)) (x186 : Int) (v180 : Value), (x181, x186) = sv ∧ ρ 1 = (.int .i64 p_i) ∧ ρ 2 = (.pointer (some ⟨b5, 0, none⟩)) ∧ ρ 5 = v180 ∧ ρ 6 = (.int .i64 x186) ∧ SlRd (v180 :: L) wd175 v1 p_t.Vanes ∧ Box wd175 b5 [v1, (.int .i64 p_t.Window), (.int .i64 p_t.Tooth), (.int .i64 p_t.PerVane), (.int .i64 p_t.First), (.int .i64 p_t.Modulus), (.int .i64 p_t.Slack), (.int .i64 p_t.Errors), (.bool p_t.Round)] 24 ∧ Own 3 (v180 :: L) wd175 v180 x181 ∧ (∀ b, blk v180 = some b → w.heap.size ≤ b) ∧ (blk v180 ≠ some b5) ∧ Ext w wd175) hl206 ⟨([] : List Int), 0, (.slice none 0 0), rfl, rfl, rfl, rfl, rfl, h192, hB9, h194, (fun b h => blk_nil b h), (fun h => by cases h), e11⟩ ?_
    rintro _ ρ wd175 ⟨x181, x186, v180, rfl, hs177, hs178, hs185, hs187, h188, hB190, h183, hf184, hn191, e176⟩ x208 h hx209 K210 hK210
    refine WC_seqK fun K213 hK213 => ?_
    refine WC_seqK fun K214 hK214 => ?_
    refine WC_region ?_
    refine T0_q (v := (.int .i64 x186)) rfl (yl_move hs187) ?_
    refine T0_q (v := (.pointer (some ⟨b5, 1, none⟩))) rfl (yl_fa 1 Tryd.underlying24 rfl rfl ⟨0, sz3⟩ hs178 rfl) ?_
    refine T0_q (v := (.int .i64 p_t.Window)) rfl (yl_load sc3 rfl (At.drop (Box.at hB190) 1)) ?_
    refine T0_q (v := (.bool (decide (x186 < p_t.Window)))) rfl (yl_lss rfl rfl) ?_
    refine T0_nil ?_
    refine hK214 _ _ ?_
    refine WC_cond (b := (decide (x186 < p_t.Window))) rfl (fun hb215 => ?_) (fun hb215 => ?_)
    · replace h := cond_t hb215 h
      refine WC_skip ?_
      refine hK213 _ _ ?_
      refine WC_seqK fun K216 hK216 => ?_
      refine WC_block ?_
      refine WC_plan mixed (.p 0 (.p 1 (.p 3 (.p 4 (.p 5 (.p 6 (.q 2 (.q 7 (.p 8 (.p 9 (.p 10 (.q 11 (.e 12 (.b 13 (.p 14 .done))))))))))))))) (by kernel_rfl) ?_
      intro wd217 he218
      have e219 := e176.trans he218
      refine TP_p (v := v180) rfl rfl (fun w' => (yl_move hs185)) ?_
      refine TP_p (v := (.pointer (some ⟨b5, 0, none⟩))) rfl rfl (fun w' => (yl_fa 0 Tryd.underlying24 rfl rfl ⟨0, sz22⟩ hs178 rfl)) ?_
      refine TP_p (v := (.int .i64 p_i)) rfl rfl (fun w' => (yl_move hs177)) ?_
      refine TP_p (v := (.int .i64 x186)) rfl rfl (fun w' => (yl_move hs187)) ?_
      refine TP_p (v := (.int .i64 (w64 (p_i + x186)))) rfl rfl (fun w' => (yl_add rfl rfl)) ?_
      refine TP_p (v := (.pointer (some ⟨b5, 0, none⟩))) rfl rfl (fun w' => (yl_fa 0 Tryd.underlying24 rfl rfl ⟨0, sz22⟩ hs178 rfl)) ?_
      refine TP_q (v := v1) rfl rfl (fun w' hS => (yl_load sc22 rfl (Box.at (hB190.ext ((he218).trans hS))))) ?_
      refine TP_q (v := v1) rfl rfl (fun w' hS => (yl_load sc22 rfl (Box.at (hB190.ext ((he218).trans hS))))) ?_
      refine TP_p (v := (.int .i64 (p_t.Vanes.length : Int))) rfl rfl (fun w' => (yl_lenR rfl Tryd.underlying22 h188 rfl)) ?_
      obtain ⟨q220, hq221, h⟩ := bind_elim h
      refine TP_p (v := (.int .i64 q220)) rfl rfl (fun w' => (yl_rem' hq221 rfl rfl)) ?_
      obtain ⟨el222, hel223, h⟩ := bind_elim h
      obtain ⟨cs224, hat225, hrd226⟩ := SlRd.at h188 hel223
      have hrd226 : cs224 = [(.int .i64 el222)] := hrd226
      subst hrd226
      refine TP_p (v := (.pointer (some (elemAddr v1 (q220 : Int).toNat 1)))) rfl rfl (fun w' => (yl_indexAddr Tryd.underlying22 sz3 h188 hel223 rfl rfl)) ?_
      refine TP_q (v := (.int .i64 el222)) rfl rfl (fun w' hS => (yl_load sc3 rfl (hat225.ext' ((he218).trans hS)))) ?_
      refine TP_e rfl rfl (eff_buildTC (xs := ([el222] : List Int)) (cells := [(.int .i64 el222)]) Tryd.underlying22 ei3 rfl (pc_cons rfl rfl pc_nil) rfl (Elems.cons (cs := [(.int .i64 el222)]) rfl Elems.nil) rfl (ltl_own (hL.chg e219) (h183.ext he218)) ?_)
      intro b231 wd228 he229 h230
      have e232 := he218.trans he229
      have e233 := e219.trans he229
      refine ⟨he229, ?_⟩
      obtain ⟨zs235, hz236, h⟩ := bind_elim h
      refine TP_b rfl rfl (eff_app Tryd.underlying22 ei3 rfl rfl rfl rfl (h183.ext e232) h230 hz236 ?_)
      intro v237 wd238 hc239 hbl240 h241
      have hn243 : blk v237 ≠ some b5 := ne_swap hbl240 hn191 (hB190.ext e232)
      have hf244 := fresh_swap hbl240 hf184 e233.size
      have h245 := (h188.ext e232).step (Stepp.swap hc239 hbl240)
      have h246 := (hB190.ext e232).chg hc239 (avoid1 hn191)
      have h247 := h230.step (Stepp.swap hc239 hbl240)
      have e248 := chg_own e233 hc239 hf184
      refine TP_p (v := v237) rfl rfl (fun w' => (yl_assign rfl)) ?_
      refine TP_done ?_
      refine hK216 _ _ ?_
      refine WC_region ?_
      refine T0_q (v := (.int .i64 x186)) rfl (yl_move hs187) ?_
      refine T0_q (v := (.int .i64 (w64 (x186 + 1)))) rfl (yl_add rfl rfl) ?_
      refine T0_q (v := (.int .i64 (w64 (x186 + 1)))) rfl (yl_assign rfl) ?_
      refine T0_nil ?_
      replace h := some_out h
      subst h
      refine hK210 _ _ _ rfl ?_
      exact ⟨zs235, w64 (x186 + 1), v237, rfl, hs177, hs178, rfl, rfl, h245, h246, h241, hf244, hn243, e248⟩
    · replace h := cond_f hb215 h
      refine WC_exit ?_
      replace h := some_out h
      subst h
      have ho := hx209 _ rfl
      subst ho
      refine hK211 _ _ ?_
      exact ⟨x181, v180, rfl, hs185, h183, hf184, e176⟩
  · rintro ρ wd196 ⟨x200, v199, rfl, hs204, h202, hf203, e197⟩
    replace h := hn207
    refine hK14 _ _ ?_
    refine WC_seqK fun K250 hK250 => ?_
    refine WC_region ?_
    refine T0_q (v := v199) rfl (yl_move hs204) ?_
    refine T0_q (v := v199) rfl (yl_assign rfl) ?_
    refine T0_nil ?_
    refine hK250 _ _ ?_
    refine WC_ret ?_
    replace h := some_out h
    subst h
    exact ⟨[v199], ⟨rfl, trivial⟩, e197, v199, rfl, hf203, (h202.sub (sub_cons mem0 (sub_skip (sub_refl _))))⟩

noncomputable def ref04_PlacesOf_spec (p_t : LocateTrack) (p_tooth : Int) : Option Range :=
  some (Range.mk (w64 (p_t.First + (w64 (p_tooth * p_t.Tooth)))) (w64 ((w64 (p_t.First + (w64 ((w64 (p_tooth + 1)) * p_t.Tooth)))) - 1)))
theorem ref04_PlacesOf_ok (L : List Value) (w : World) (hL : LtL L w) (cs_p_t : List Value) (p_t : LocateTrack) (h_p_t : Rep.rd L w cs_p_t p_t) (p_tooth : Int) (r : Range) (h : ref04_PlacesOf_spec p_t p_tooth = some r) :
    CallsTo Tryd.prog 56 [(.agg cs_p_t.toArray), (.int .i64 p_tooth)] w (fun v w' => Ext w w' ∧ ∃ (cs0 : List Value), (.agg cs0.toArray) = v ∧ Rep.rd L w' cs0 r) := by
  have e0 : Ext w w := Chg.refl _ _
  obtain ⟨v1, h2, rfl⟩ := h_p_t
  refine callsTo_of_WC (n := 22) (rs := [.cell 4 36]) Tryd.func56 rfl rfl rfl rfl rfl ?_
  refine WC_seqK fun K4 hK4 => ?_
  refine WC_region ?_
  refine T0_e rfl (eff_boxC (cs := [v1, (.int .i64 p_t.Window), (.int .i64 p_t.Tooth), (.int .i64 p_t.PerVane), (.int .i64 p_t.First), (.int .i64 p_t.Modulus), (.int .i64 p_t.Slack), (.int .i64 p_t.Errors), (.bool p_t.Round)]) rfl rfl ?_)
  intro b5 wd6 hb7 he8 hB9
  have hbf10 := bfresh e0 hb7
  have e11 := e0.trans he8
  refine T0_e rfl (eff_allocZ zi36 ?_)
  intro b13 wd14 hb15 he16 hB17
  have hn18 : b13 ≠ b5 := box_ne hB9 hb15
  have hbf19 := bfresh e11 hb15
  have h20 := (h2.ext he8).step (add_box he16 hb15)
  have e21 := e11.trans he16
  refine T0_nil ?_
  refine hK4 _ _ ?_
  refine WC_seqK fun K23 hK23 => ?_
  refine WC_region ?_
  refine T0_q (v := (.pointer (some ⟨b5, 4, none⟩))) rfl (yl_fa 4 Tryd.underlying24 rfl rfl ⟨0, sz3⟩ rfl rfl) ?_
  refine T0_q (v := (.int .i64 p_t.First)) rfl (yl_load sc3 rfl (At.drop (Box.at (hB9.ext he16)) 4)) ?_
  refine T0_q (v := (.int .i64 p_tooth)) rfl (yl_move rfl) ?_
  refine T0_q (v := (.pointer (some ⟨b5, 2, none⟩))) rfl (yl_fa 2 Tryd.underlying24 rfl rfl ⟨0, sz3⟩ rfl rfl) ?_
  refine T0_q (v := (.int .i64 p_t.Tooth)) rfl (yl_load sc3 rfl (At.drop (Box.at (hB9.ext he16)) 2)) ?_
  refine T0_q (v := (.int .i64 (w64 (p_tooth * p_t.Tooth)))) rfl (yl_mul rfl rfl) ?_
  refine T0_q (v := (.int .i64 (w64 (p_t.First + (w64 (p_tooth * p_t.Tooth)))))) rfl (yl_add rfl rfl) ?_
  refine T0_q (v := (.pointer (some ⟨b5, 4, none⟩))) rfl (yl_fa 4 Tryd.underlying24 rfl rfl ⟨0, sz3⟩ rfl rfl) ?_
  refine T0_q (v := (.int .i64 p_t.First)) rfl (yl_load sc3 rfl (At.drop (Box.at (hB9.ext he16)) 4)) ?_
  refine T0_q (v := (.int .i64 p_tooth)) rfl (yl_move rfl) ?_
  refine T0_q (v := (.int .i64 (w64 (p_tooth + 1)))) rfl (yl_add rfl rfl) ?_
  refine T0_q (v := (.pointer (some ⟨b5, 2, none⟩))) rfl (yl_fa 2 Tryd.underlying24 rfl rfl ⟨0, sz3⟩ rfl rfl) ?_
  refine T0_q (v := (.int .i64 p_t.Tooth)) rfl (yl_load sc3 rfl (At.drop (Box.at (hB9.ext he16)) 2)) ?_
  refine T0_q (v := (.int .i64 (w64 ((w64 (p_tooth + 1)) * p_t.Tooth)))) rfl (yl_mul rfl rfl) ?_
  refine T0_q (v := (.int .i64 (w64 (p_t.First + (w64 ((w64 (p_tooth + 1)) * p_t.Tooth)))))) rfl (yl_add rfl rfl) ?_
  refine T0_q (v := (.int .i64 (w64 ((w64 (p_t.First + (w64 ((w64 (p_tooth + 1)) * p_t.Tooth)))) - 1)))) rfl (yl_sub rfl rfl) ?_
  refine T0_q (v := (.agg (List.toArray [(.int .i64 (w64 (p_t.First + (w64 (p_tooth * p_t.Tooth))))), (.int .i64 (w64 ((w64 (p_t.First + (w64 ((w64 (p_tooth + 1)) * p_t.Tooth)))) - 1)))]))) rfl (yl_buildC (cells := [(.int .i64 (w64 (p_t.First + (w64 (p_tooth * p_t.Tooth))))), (.int .i64 (w64 ((w64 (p_t.First + (w64 ((w64 (p_tooth + 1)) * p_t.Tooth)))) - 1)))]) bi36 (pc_cons rfl rfl (pc_cons rfl rfl pc_nil)) rfl) ?_
  refine T0_e rfl (eff_storeC (vs := [(.int .i64 (w64 (p_t.First + (w64 (p_tooth * p_t.Tooth))))), (.int .i64 (w64 ((w64 (p_t.First + (w64 ((w64 (p_tooth + 1)) * p_t.Tooth)))) - 1)))]) (cs' := [(.int .i64 (w64 (p_t.First + (w64 (p_tooth * p_t.Tooth))))), (.int .i64 (w64 ((w64 (p_t.First + (w64 ((w64 (p_tooth + 1)) * p_t.Tooth)))) - 1)))]) sz36 rfl rfl rfl rfl hB17 rfl (oc_cons rfl (oc_cons rfl oc_nil)) rfl ?_)
  intro wd24 hc25 hB26
  have h27 := h20.step (Stepp.chg_mem hc25 mem0)
  have h28 := (hB9.ext he16).chg hc25 (avoidb hn18)
  have e29 := chg_box e21 hc25 hbf19
  refine T0_nil ?_
  refine hK23 _ _ ?_
  refine WC_ret ?_
  replace h := some_out h
  subst h
  exact ⟨[(.agg (List.toArray [(.int .i64 (w64 (p_t.First + (w64 (p_tooth * p_t.Tooth))))), (.int .i64 (w64 ((w64 (p_t.First + (w64 ((w64 (p_tooth + 1)) * p_t.Tooth)))) - 1)))]))], ⟨⟨_, rfl, run_loadVarA (cs := [(.int .i64 (w64 (p_t.First + (w64 (p_tooth * p_t.Tooth))))), (.int .i64 (w64 ((w64 (p_t.First + (w64 ((w64 (p_tooth + 1)) * p_t.Tooth)))) - 1)))]) ag36 (Box.at hB26)⟩, trivial⟩, e29, [(.int .i64 (w64 (p_t.First + (w64 (p_tooth * p_t.Tooth))))), (.int .i64 (w64 ((w64 (p_t.First + (w64 ((w64 (p_tooth + 1)) * p_t.Tooth)))) - 1)))], rfl, rfl⟩

noncomputable def ref04_RangeErr_spec (p_x : Range) : Option Int :=
  (Option.bind (base_Within_spec p_x.Lo 0 1000000000) fun r12 =>
  (Option.bind (bif (!(!r12)) then base_Within_spec p_x.Hi 0 1000000000 else some default) fun r17 =>
  (bif ((!r12) || (!r17)) then (
    some 2
  ) else (
    (bif (decide (p_x.Hi < p_x.Lo)) then (
      some 9
    ) else (
      some 0
    ))
  ))
  )
  )
theorem ref04_RangeErr_ok (L : List Value) (w : World) (hL : LtL L w) (cs_p_x : List Value) (p_x : Range) (h_p_x : Rep.rd L w cs_p_x p_x) (r : Int) (h : ref04_RangeErr_spec p_x = some r) :
    CallsTo Tryd.prog 60 [(.agg cs_p_x.toArray)] w (fun v w' => Ext w w' ∧ (.int .i64 r) = v) := by
  have e0 : Ext w w := Chg.refl _ _
  have h_p_x : cs_p_x = [(.int .i64 p_x.Lo), (.int .i64 p_x.Hi)] := h_p_x
  subst h_p_x
  refine callsTo_of_WC (n := 18) (rs := [.tmp 2]) Tryd.func60 rfl rfl rfl rfl rfl ?_
  refine WC_seqK fun K1 hK1 => ?_
  refine WC_region ?_
  refine T0_e rfl (eff_boxC (cs := [(.int .i64 p_x.Lo), (.int .i64 p_x.Hi)]) rfl rfl ?_)
  intro b2 wd3 hb4 he5 hB6
  have hbf7 := bfresh e0 hb4
  have e8 := e0.trans he5
  refine T0_q (v := (.int .i64 0)) rfl (yl_assign rfl) ?_
  refine T0_nil ?_
  refine hK1 _ _ ?_
  refine WC_seqK fun K10 hK10 => ?_
  refine WC_seqK fun K11 hK11 => ?_
  refine WC_region ?_
  refine T0_q (v := (.pointer (some ⟨b2, 0, none⟩))) rfl (yl_fa 0 Tryd.underlying36 rfl rfl ⟨0, sz3⟩ rfl rfl) ?_
  refine T0_q (v := (.int .i64 p_x.Lo)) rfl (yl_load sc3 rfl (Box.at hB6)) ?_
  obtain ⟨r12, hr13, h⟩ := bind_elim h
  refine T0_e rfl (eff_call Tryd.func35 nm35 rfl (ev3 rfl rfl rfl) (base_Within_ok [] _ (LtL.nil _) p_x.Lo 0 1000000000 r12 hr13) ?_)
  rintro _ wd14 ⟨he15, rfl⟩
  have e16 := e8.trans he15
  refine T0_q (v := (.bool (!r12))) rfl (yl_not rfl) ?_
  refine T0_q (v := (.bool (!r12))) rfl (yl_move rfl) ?_
  refine T0_g (v := (.pointer (some ⟨b2, 1, none⟩))) (!(!r12)) (wanted_f rfl rfl rfl rfl) (fun hg => (yl_fa 1 Tryd.underlying36 rfl rfl ⟨0, sz3⟩ rfl rfl)) ?_
  refine T0_g (v := (.int .i64 p_x.Hi)) (!(!r12)) (wanted_f rfl rfl rfl rfl) (fun hg => (yl_load sc3 (gd_true hg) (At.drop (Box.at (hB6.ext he15)) 1))) ?_
  obtain ⟨r17, hr18, h⟩ := bind_elim h
  refine T0_ges (!(!r12)) (.bool r17) (wanted_f rfl rfl rfl rfl) (fun hg => eff_call Tryd.func35 nm35 rfl (ev3 (gd_true hg) rfl rfl) (base_Within_ok [] _ (LtL.nil _) p_x.Hi 0 1000000000 r17 (cond_t hg hr18)) (by rintro _ wd19 ⟨he20, rfl⟩; exact ⟨rfl, he20⟩)) ?_
  intro wd19 he20
  have e21 := he15.trans he20
  have e22 := e16.trans he20
  refine T0_g (v := (.bool (!r17))) (!(!r12)) (wanted_f rfl rfl rfl rfl) (fun hg => (yl_not (gd_true hg))) ?_
  refine T0_q (v := (.bool ((!r12) || (!r17)))) rfl (yl_or rfl rfl (fun hb => (gd_true (not_t hb)))) ?_
  refine T0_nil ?_
  refine hK11 _ _ ?_
  refine WC_cond (b := ((!r12) || (!r17))) rfl (fun hb23 => ?_) (fun hb23 => ?_)
  · replace h := cond_t hb23 h
    refine WC_seqK fun K24 hK24 => ?_
    refine WC_region ?_
    refine T0_q (v := (.int .i64 2)) rfl (yl_assign rfl) ?_
    refine T0_nil ?_
    refine hK24 _ _ ?_
    refine WC_ret ?_
    replace h := some_out h
    subst h
    exact ⟨[(.int .i64 2)], ⟨rfl, trivial⟩, e22, rfl⟩
  · replace h := cond_f hb23 h
    refine WC_skip ?_
    refine hK10 _ _ ?_
    refine WC_seqK fun K25 hK25 => ?_
    refine WC_seqK fun K26 hK26 => ?_
    refine WC_region ?_
    refine T0_q (v := (.pointer (some ⟨b2, 0, none⟩))) rfl (yl_fa 0 Tryd.underlying36 rfl rfl ⟨0, sz3⟩ rfl rfl) ?_
    refine T0_q (v := (.int .i64 p_x.Lo)) rfl (yl_load sc3 rfl (Box.at (hB6.ext e21))) ?_
    refine T0_q (v := (.pointer (some ⟨b2, 1, none⟩))) rfl (yl_fa 1 Tryd.underlying36 rfl rfl ⟨0, sz3⟩ rfl rfl) ?_
    refine T0_q (v := (.int .i64 p_x.Hi)) rfl (yl_load sc3 rfl (At.drop (Box.at (hB6.ext e21)) 1)) ?_
    refine T0_q (v := (.bool (decide (p_x.Hi < p_x.Lo)))) rfl (yl_gtr rfl rfl) ?_
    refine T0_nil ?_
    refine hK26 _ _ ?_
    refine WC_cond (b := (decide (p_x.Hi < p_x.Lo))) rfl (fun hb27 => ?_) (fun hb27 => ?_)
    · replace h := cond_t hb27 h
      refine WC_seqK fun K28 hK28 => ?_
      refine WC_region ?_
      refine T0_q (v := (.int .i64 9)) rfl (yl_assign rfl) ?_
      refine T0_nil ?_
      refine hK28 _ _ ?_
      refine WC_ret ?_
      replace h := some_out h
      subst h
      exact ⟨[(.int .i64 9)], ⟨rfl, trivial⟩, e22, rfl⟩
    · replace h := cond_f hb27 h
      refine WC_skip ?_
      refine hK25 _ _ ?_
      refine WC_seqK fun K29 hK29 => ?_
      refine WC_region ?_
      refine T0_q (v := (.int .i64 0)) rfl (yl_assign rfl) ?_
      refine T0_nil ?_
      refine hK29 _ _ ?_
      refine WC_ret ?_
      replace h := some_out h
      subst h
      exact ⟨[(.int .i64 0)], ⟨rfl, trivial⟩, e22, rfl⟩

noncomputable def ref04_FusedErr_s0 (p_l : (List Range)) : (Int) → Option ((Int) ⊕ (Int ⊕ (Unit))) := fun x95 =>
  (bif (decide (x95 < (p_l.length : Int))) then (
    (Option.bind (idx p_l x95) fun el115 =>
    (Option.bind (ref04_RangeErr_spec el115) fun r121 =>
    (bif (!decide (r121 = 0)) then (
      some (.inr (.inl r121))
    ) else (
      some (.inl (w64 (x95 + 1)))
    ))
    )
    )
  ) else (
    some (.inr (.inr ()))
  ))
noncomputable def ref04_FusedErr_spec (p_l : (List Range)) (p_wrong : Int) : Option Int :=
  (bif (decide ((p_l.length : Int) = 0)) then (
    some 10
  ) else (
    (bif (decide (12 < (p_l.length : Int))) then (
      some 8
    ) else (
      (Option.bind (loop (ref04_FusedErr_s0 p_l) 0) fun o102 => jn0 o102 fun (_ : Unit) =>
      (Option.bind (base_Within_spec p_wrong 0 (w64 ((p_l.length : Int) - 1))) fun r131 =>
      (bif (!r131) then (
        some 2
      ) else (
        some 0
      ))
      )
      )
    ))
  ))
theorem ref04_FusedErr_ok (L : List Value) (w : World) (hL : LtL L w) (v_p_l : Value) (p_l : (List Range)) (h_p_l : SlRd L w v_p_l p_l) (p_wrong : Int) (r : Int) (h : ref04_FusedErr_spec p_l p_wrong = some r) :
    CallsTo Tryd.prog 64 [v_p_l, (.int .i64 p_wrong)] w (fun v w' => Ext w w' ∧ (.int .i64 r) = v) := by
  have e0 : Ext w w := Chg.refl _ _
  refine callsTo_of_WC (n := 33) (rs := [.tmp 4]) Tryd.func64 rfl rfl rfl rfl rfl ?_
  refine WC_seqK fun K2 hK2 => ?_
  refine WC_region ?_
  refine T0_q (v := (.int .i64 0)) rfl (yl_assign rfl) ?_
  refine T0_nil ?_
  refine hK2 _ _ ?_
  refine WC_seqK fun K3 hK3 => ?_
  refine WC_seqK fun K4 hK4 => ?_
  refine WC_region ?_
  refine T0_q (v := v_p_l) rfl (yl_move rfl) ?_
  refine T0_q (v := (.int .i64 (p_l.length : Int))) rfl (yl_lenR rfl Tryd.underlying29 h_p_l rfl) ?_
  refine T0_q (v := (.bool (decide ((p_l.length : Int) = 0)))) rfl (yl_eql rfl rfl) ?_
  refine T0_nil ?_
  refine hK4 _ _ ?_
  refine WC_cond (b := (decide ((p_l.length : Int) = 0))) rfl (fun hb5 => ?_) (fun hb5 => ?_)
  · replace h := cond_t hb5 h
    refine WC_seqK fun K6 hK6 => ?_
    refine WC_region ?_
    refine T0_q (v := (.int .i64 10)) rfl (yl_assign rfl) ?_
    refine T0_nil ?_
    refine hK6 _ _ ?_
    refine WC_ret ?_
    replace h := some_out h
    subst h
    exact ⟨[(.int .i64 10)], ⟨rfl, trivial⟩, e0, rfl⟩
  · replace h := cond_f hb5 h
    refine WC_skip ?_
    refine hK3 _ _ ?_
    refine WC_seqK fun K7 hK7 => ?_
    refine WC_seqK fun K8 hK8 => ?_
    refine WC_region ?_
    refine T0_q (v := v_p_l) rfl (yl_move rfl) ?_
    refine T0_q (v := (.int .i64 (p_l.length : Int))) rfl (yl_lenR rfl Tryd.underlying29 h_p_l rfl) ?_
    refine T0_q (v := (.bool (decide (12 < (p_l.length : Int))))) rfl (yl_gtr rfl rfl) ?_
    refine T0_nil ?_
    refine hK8 _ _ ?_
    refine WC_cond (b := (decide (12 < (p_l.length : Int)))) rfl (fun hb9 => ?_) (fun hb9 => ?_)
    · replace h := cond_t hb9 h
      refine WC_seqK fun K10 hK10 => ?_
      refine WC_region ?_
      refine T0_q (v := (.int .i64 8)) rfl (yl_assign rfl) ?_
      refine T0_nil ?_
      refine hK10 _ _ ?_
      refine WC_ret ?_
      replace h := some_out h
      subst h
      exact ⟨[(.int .i64 8)], ⟨rfl, trivial⟩, e0, rfl⟩
    · replace h := cond_f hb9 h
      refine WC_skip ?_
      refine hK7 _ _ ?_
      refine WC_seqK fun K11 hK11 => ?_
      refine WC_seqK fun K12 hK12 => ?_
      refine WC_region ?_
      refine T0_q (v := (.int .i64 0)) rfl (yl_assign rfl) ?_
      refine T0_nil ?_
      refine hK12 _ _ ?_
      obtain ⟨o102, hl103, hn104⟩ := bind_elim h
      refine WC_post (fun (ρ : Env) (wd97 : World) => .inr () = o102 ∧ ρ 0 = v_p_l ∧ ρ 1 = (.int .i64 p_wrong) ∧ SlRd L wd97 v_p_l p_l ∧ Ext w wd97) ?_ ?_
      · intro K108 hK108
        refine WC_block ?_
        refine WC_loopk (fun sv ρ wd90 => ∃ (x95 : Int), x95 = sv ∧ ρ 0 = v_p_l ∧ ρ 1 = (.int .i64 p_wrong) ∧ ρ 5 = (.int .i64 x95) ∧ SlRd L wd90 v_p_l p_l ∧ Ext w wd90) hl103 ⟨0, rfl, rfl, rfl, rfl, h_p_l, e0⟩ ?_
        rintro _ ρ wd90 ⟨x95, rfl, hs93, hs94, hs96, h92, e91⟩ x105 h hx106 K107 hK107
        refine WC_seqK fun K110 hK110 => ?_
        refine WC_seqK fun K111 hK111 => ?_
        refine WC_region ?_
        refine T0_q (v := (.int .i64 x95)) rfl (yl_move hs96) ?_
        refine T0_q (v := v_p_l) rfl (yl_move hs93) ?_
        refine T0_q (v := (.int .i64 (p_l.length : Int))) rfl (yl_lenR rfl Tryd.underlying29 h92 rfl) ?_
        refine T0_q (v := (.bool (decide (x95 < (p_l.length : Int))))) rfl (yl_lss rfl rfl) ?_
        refine T0_nil ?_
        refine hK111 _ _ ?_
        refine WC_cond (b := (decide (x95 < (p_l.length : Int)))) rfl (fun hb112 => ?_) (fun hb112 => ?_)
        · replace h := cond_t hb112 h
          refine WC_skip ?_
          refine hK110 _ _ ?_
          refine WC_seqK fun K113 hK113 => ?_
          refine WC_block ?_
          refine WC_seqK fun K114 hK114 => ?_
          refine WC_region ?_
          refine T0_q (v := v_p_l) rfl (yl_move hs93) ?_
          refine T0_q (v := (.int .i64 x95)) rfl (yl_move hs96) ?_
          obtain ⟨el115, hel116, h⟩ := bind_elim h
          obtain ⟨cs117, hat118, hrd119⟩ := SlRd.at h92 hel116
          have hrd119 : cs117 = [(.int .i64 el115.Lo), (.int .i64 el115.Hi)] := hrd119
          subst hrd119
          refine T0_q (v := (.pointer (some (elemAddr v_p_l (x95 : Int).toNat 2)))) rfl (yl_indexAddr Tryd.underlying29 sz36 h92 hel116 rfl rfl) ?_
          refine T0_q (v := (.agg (List.toArray [(.int .i64 el115.Lo), (.int .i64 el115.Hi)]))) rfl (yl_loadA (cs := [(.int .i64 el115.Lo), (.int .i64 el115.Hi)]) ag36 rfl hat118) ?_
          obtain ⟨r121, hr122, h⟩ := bind_elim h
          refine T0_e rfl (eff_call Tryd.func60 nm60 rfl (ev1 rfl) (ref04_RangeErr_ok [] _ (LtL.nil _) [(.int .i64 el115.Lo), (.int .i64 el115.Hi)] el115 rfl r121 hr122) ?_)
          rintro _ wd123 ⟨he124, rfl⟩
          have e125 := e91.trans he124
          refine T0_q (v := (.int .i64 r121)) rfl (yl_assign rfl) ?_
          refine T0_nil ?_
          refine hK114 _ _ ?_
          refine WC_seqK fun K126 hK126 => ?_
          refine WC_region ?_
          refine T0_q (v := (.int .i64 r121)) rfl (yl_move rfl) ?_
          refine T0_q (v := (.bool (!decide (r121 = 0)))) rfl (yl_neq rfl rfl) ?_
          refine T0_nil ?_
          refine hK126 _ _ ?_
          refine WC_cond (b := (!decide (r121 = 0))) rfl (fun hb127 => ?_) (fun hb127 => ?_)
          · replace h := cond_t hb127 h
            refine WC_seqK fun K128 hK128 => ?_
            refine WC_region ?_
            refine T0_q (v := (.int .i64 r121)) rfl (yl_move rfl) ?_
            refine T0_q (v := (.int .i64 r121)) rfl (yl_assign rfl) ?_
            refine T0_nil ?_
            refine hK128 _ _ ?_
            refine WC_ret ?_
            replace h := some_out h
            subst h
            have ho := hx106 _ rfl
            subst ho
            replace h := jn0_inl hn104
            replace h := some_out h
            subst h
            exact ⟨[(.int .i64 r121)], ⟨rfl, trivial⟩, e125, rfl⟩
          · replace h := cond_f hb127 h
            refine WC_skip ?_
            refine hK113 _ _ ?_
            refine WC_region ?_
            refine T0_q (v := (.int .i64 x95)) rfl (yl_move hs96) ?_
            refine T0_q (v := (.int .i64 (w64 (x95 + 1)))) rfl (yl_add rfl rfl) ?_
            refine T0_q (v := (.int .i64 (w64 (x95 + 1)))) rfl (yl_assign rfl) ?_
            refine T0_nil ?_
            replace h := some_out h
            subst h
            refine hK107 _ _ _ rfl ?_
            exact ⟨w64 (x95 + 1), rfl, hs93, hs94, rfl, (h92.ext he124), e125⟩
        · replace h := cond_f hb112 h
          refine WC_exit ?_
          replace h := some_out h
          subst h
          have ho := hx106 _ rfl
          subst ho
          refine hK108 _ _ ?_
          exact ⟨rfl, hs93, hs94, h92, e91⟩
      · rintro ρ wd97 ⟨rfl, hs100, hs101, h99, e98⟩
        replace h := jn0_inr hn104
        refine hK11 _ _ ?_
        refine WC_seqK fun K129 hK129 => ?_
        refine WC_seqK fun K130 hK130 => ?_
        refine WC_region ?_
        refine T0_q (v := (.int .i64 p_wrong)) rfl (yl_move hs101) ?_
        refine T0_q (v := v_p_l) rfl (yl_move hs100) ?_
        refine T0_q (v := (.int .i64 (p_l.length : Int))) rfl (yl_lenR rfl Tryd.underlying29 h99 rfl) ?_
        refine T0_q (v := (.int .i64 (w64 ((p_l.length : Int) - 1)))) rfl (yl_sub rfl rfl) ?_
        obtain ⟨r131, hr132, h⟩ := bind_elim h
        refine T0_e rfl (eff_call Tryd.func35 nm35 rfl (ev3 rfl rfl rfl) (base_Within_ok [] _ (LtL.nil _) p_wrong 0 (w64 ((p_l.length : Int) - 1)) r131 hr132) ?_)
        rintro _ wd133 ⟨he134, rfl⟩
        have e135 := e98.trans he134
        refine T0_q (v := (.bool (!r131))) rfl (yl_not rfl) ?_
        refine T0_nil ?_
        refine hK130 _ _ ?_
        refine WC_cond (b := (!r131)) rfl (fun hb136 => ?_) (fun hb136 => ?_)
        · replace h := cond_t hb136 h
          refine WC_seqK fun K137 hK137 => ?_
          refine WC_region ?_
          refine T0_q (v := (.int .i64 2)) rfl (yl_assign rfl) ?_
          refine T0_nil ?_
          refine hK137 _ _ ?_
          refine WC_ret ?_
          replace h := some_out h
          subst h
          exact ⟨[(.int .i64 2)], ⟨rfl, trivial⟩, e135, rfl⟩
        · replace h := cond_f hb136 h
          refine WC_skip ?_
          refine hK129 _ _ ?_
          refine WC_seqK fun K138 hK138 => ?_
          refine WC_region ?_
          refine T0_q (v := (.int .i64 0)) rfl (yl_assign rfl) ?_
          refine T0_nil ?_
          refine hK138 _ _ ?_
          refine WC_ret ?_
          replace h := some_out h
          subst h
          exact ⟨[(.int .i64 0)], ⟨rfl, trivial⟩, e135, rfl⟩

noncomputable def ref04_Differ_s0 (p_a : (List Int)) (p_b : (List Int)) : (Int × Int) → Option ((Int × Int) ⊕ (Int)) := fun (x131, x133) =>
  (bif (decide (x133 < (p_a.length : Int))) then (
    (Option.bind (idx p_a x133) fun el155 =>
    (Option.bind ((bif (!decide (el155 = 2)) then idx p_b x133 else some default)) fun el161 =>
    (Option.bind ((bif ((!decide (el155 = 2)) && (!decide (el161 = 2))) then idx p_a x133 else some default)) fun el166 =>
    (Option.bind ((bif ((!decide (el155 = 2)) && (!decide (el161 = 2))) then idx p_b x133 else some default)) fun el171 =>
    (bif (((!decide (el155 = 2)) && (!decide (el161 = 2))) && (!decide (el166 = el171))) then (
      some (.inl (w64 (x131 + 1), w64 (x133 + 1)))
    ) else (
      some (.inl (x131, w64 (x133 + 1)))
    ))
    )
    )
    )
    )
  ) else (
    some (.inr x131)
  ))
noncomputable def ref04_Differ_spec (p_a : (List Int)) (p_b : (List Int)) : Option Int :=
  (Option.bind (loop (ref04_Differ_s0 p_a p_b) (0, 0)) fun (x137 : Int) =>
  some x137
  )
theorem ref04_Differ_ok (L : List Value) (w : World) (hL : LtL L w) (v_p_a : Value) (p_a : (List Int)) (h_p_a : SlRd L w v_p_a p_a) (v_p_b : Value) (p_b : (List Int)) (h_p_b : SlRd L w v_p_b p_b) (r : Int) (h : ref04_Differ_spec p_a p_b = some r) :
    CallsTo Tryd.prog 73 [v_p_a, v_p_b] w (fun v w' => Ext w w' ∧ (.int .i64 r) = v) := by
  have e0 : Ext w w := Chg.refl _ _
  refine callsTo_of_WC (n := 39) (rs := [.tmp 4]) Tryd.func73 rfl rfl rfl rfl rfl ?_
  refine WC_seqK fun K3 hK3 => ?_
  refine WC_region ?_
  refine T0_q (v := (.int .i64 0)) rfl (yl_assign rfl) ?_
  refine T0_nil ?_
  refine hK3 _ _ ?_
  refine WC_seqK fun K4 hK4 => ?_
  refine WC_region ?_
  refine T0_q (v := (.int .i64 0)) rfl (yl_assign rfl) ?_
  refine T0_nil ?_
  refine hK4 _ _ ?_
  refine WC_seqK fun K5 hK5 => ?_
  refine WC_seqK fun K6 hK6 => ?_
  refine WC_region ?_
  refine T0_q (v := (.int .i64 0)) rfl (yl_assign rfl) ?_
  refine T0_nil ?_
  refine hK6 _ _ ?_
  obtain ⟨o139, hl140, hn141⟩ := bind_elim h
  refine WC_post (fun (ρ : Env) (wd135 : World) => ∃ (x137 : Int), x137 = o139 ∧ ρ 5 = (.int .i64 x137) ∧ Ext w wd135) ?_ ?_
  · intro K145 hK145
    refine WC_block ?_
    refine WC_loopk (fun sv ρ wd125 => ∃ (x131 : Int) (x133 : Int), (x131, x133) = sv ∧ ρ 0 = v_p_a ∧ ρ 1 = v_p_b ∧ ρ 5 = (.int .i64 x131) ∧ ρ 6 = (.int .i64 x133) ∧ SlRd L wd125 v_p_a p_a ∧ SlRd L wd125 v_p_b p_b ∧ Ext w wd125) hl140 ⟨0, 0, rfl, rfl, rfl, rfl, rfl, h_p_a, h_p_b, e0⟩ ?_
    rintro _ ρ wd125 ⟨x131, x133, rfl, hs128, hs130, hs132, hs134, h127, h129, e126⟩ x142 h hx143 K144 hK144
    refine WC_seqK fun K147 hK147 => ?_
    refine WC_seqK fun K148 hK148 => ?_
    refine WC_region ?_
    refine T0_q (v := (.int .i64 x133)) rfl (yl_move hs134) ?_
    refine T0_q (v := v_p_a) rfl (yl_move hs128) ?_
    refine T0_q (v := (.int .i64 (p_a.length : Int))) rfl (yl_lenR rfl Tryd.underlying22 h127 rfl) ?_
    refine T0_q (v := (.bool (decide (x133 < (p_a.length : Int))))) rfl (yl_lss rfl rfl) ?_
    refine T0_nil ?_
    refine hK148 _ _ ?_
    refine WC_cond (b := (decide (x133 < (p_a.length : Int)))) rfl (fun hb149 => ?_) (fun hb149 => ?_)
    · replace h := cond_t hb149 h
      refine WC_skip ?_
      refine hK147 _ _ ?_
      refine WC_seqK fun K150 hK150 => ?_
      refine WC_block ?_
      refine WC_seqK fun K151 hK151 => ?_
      refine WC_plan mixed (.p 0 (.p 1 (.p 2 (.q 3 (.p 4 (.p 5 (.p 6 (.p 7 (.p 8 (.q 9 (.p 10 (.p 11 (.p 12 (.p 13 (.p 14 (.p 15 (.p 17 (.p 18 (.p 19 (.q 16 (.q 20 (.p 21 (.p 22 .done))))))))))))))))))))))) (by kernel_rfl) ?_
      intro wd152 he153
      have e154 := e126.trans he153
      refine TP_p (v := v_p_a) rfl rfl (fun w' => (yl_move hs128)) ?_
      refine TP_p (v := (.int .i64 x133)) rfl rfl (fun w' => (yl_move hs134)) ?_
      obtain ⟨el155, hel156, h⟩ := bind_elim h
      obtain ⟨cs157, hat158, hrd159⟩ := SlRd.at h127 hel156
      have hrd159 : cs157 = [(.int .i64 el155)] := hrd159
      subst hrd159
      refine TP_p (v := (.pointer (some (elemAddr v_p_a (x133 : Int).toNat 1)))) rfl rfl (fun w' => (yl_indexAddr Tryd.underlying22 sz3 h127 hel156 rfl rfl)) ?_
      refine TP_q (v := (.int .i64 el155)) rfl rfl (fun w' hS => (yl_load sc3 rfl (hat158.ext' ((he153).trans hS)))) ?_
      refine TP_p (v := (.bool (!decide (el155 = 2)))) rfl rfl (fun w' => (yl_neq rfl rfl)) ?_
      refine TP_p (v := (.bool (!decide (el155 = 2)))) rfl rfl (fun w' => (yl_move rfl)) ?_
      refine TP_gp (v := v_p_b) (!decide (el155 = 2)) rfl (wanted_t rfl rfl rfl rfl) (fun w' hg => (yl_move hs130)) ?_
      refine TP_gp (v := (.int .i64 x133)) (!decide (el155 = 2)) rfl (wanted_t rfl rfl rfl rfl) (fun w' hg => (yl_move hs134)) ?_
      obtain ⟨el161, hel162, h⟩ := bind_elim h
      have hat164 : (!decide (el155 = 2)) = true → At wd125 (elemAddr v_p_b (x133 : Int).toNat 1) [(.int .i64 el161)] := fun hg => by obtain ⟨cs, hat, hrd⟩ := SlRd.at h129 (cond_t hg hel162); have hrd : cs = [(.int .i64 el161)] := hrd; subst hrd; exact hat
      refine TP_gp (v := (.pointer (some (elemAddr v_p_b (x133 : Int).toNat 1)))) (!decide (el155 = 2)) rfl (wanted_t rfl rfl rfl rfl) (fun w' hg => (yl_indexAddr Tryd.underlying22 sz3 h129 (cond_t hg hel162) (gd_true hg) (gd_true hg))) ?_
      refine TP_gq (v := (.int .i64 el161)) (!decide (el155 = 2)) rfl (wanted_t rfl rfl rfl rfl) (fun w' hS hg => (yl_load sc3 (gd_true hg) ((hat164 hg).ext' ((he153).trans hS)))) ?_
      refine TP_gp (v := (.bool (!decide (el161 = 2)))) (!decide (el155 = 2)) rfl (wanted_t rfl rfl rfl rfl) (fun w' hg => (yl_neq (gd_true hg) rfl)) ?_
      refine TP_p (v := (.bool ((!decide (el155 = 2)) && (!decide (el161 = 2))))) rfl rfl (fun w' => (yl_and rfl (fun hb => (gd_true hb)) rfl)) ?_
      refine TP_p (v := (.bool ((!decide (el155 = 2)) && (!decide (el161 = 2))))) rfl rfl (fun w' => (yl_move rfl)) ?_
      refine TP_gp (v := v_p_a) ((!decide (el155 = 2)) && (!decide (el161 = 2))) rfl (wanted_t rfl rfl rfl rfl) (fun w' hg => (yl_move hs128)) ?_
      refine TP_gp (v := (.int .i64 x133)) ((!decide (el155 = 2)) && (!decide (el161 = 2))) rfl (wanted_t rfl rfl rfl rfl) (fun w' hg => (yl_move hs134)) ?_
      obtain ⟨el166, hel167, h⟩ := bind_elim h
      have hat169 : ((!decide (el155 = 2)) && (!decide (el161 = 2))) = true → At wd125 (elemAddr v_p_a (x133 : Int).toNat 1) [(.int .i64 el166)] := fun hg => by obtain ⟨cs, hat, hrd⟩ := SlRd.at h127 (cond_t hg hel167); have hrd : cs = [(.int .i64 el166)] := hrd; subst hrd; exact hat
      refine TP_gp (v := (.pointer (some (elemAddr v_p_a (x133 : Int).toNat 1)))) ((!decide (el155 = 2)) && (!decide (el161 = 2))) rfl (wanted_t rfl rfl rfl rfl) (fun w' hg => (yl_indexAddr Tryd.underlying22 sz3 h127 (cond_t hg hel167) (gd_true hg) (gd_true hg))) ?_
      refine TP_gp (v := v_p_b) ((!decide (el155 = 2)) && (!decide (el161 = 2))) rfl (wanted_t rfl rfl rfl rfl) (fun w' hg => (yl_move hs130)) ?_
      refine TP_gp (v := (.int .i64 x133)) ((!decide (el155 = 2)) && (!decide (el161 = 2))) rfl (wanted_t rfl rfl rfl rfl) (fun w' hg => (yl_move hs134)) ?_
      obtain ⟨el171, hel172, h⟩ := bind_elim h
      have hat174 : ((!decide (el155 = 2)) && (!decide (el161 = 2))) = true → At wd125 (elemAddr v_p_b (x133 : Int).toNat 1) [(.int .i64 el171)] := fun hg => by obtain ⟨cs, hat, hrd⟩ := SlRd.at h129 (cond_t hg hel172); have hrd : cs = [(.int .i64 el171)] := hrd; subst hrd; exact hat
      refine TP_gp (v := (.pointer (some (elemAddr v_p_b (x133 : Int).toNat 1)))) ((!decide (el155 = 2)) && (!decide (el161 = 2))) rfl (wanted_t rfl rfl rfl rfl) (fun w' hg => (yl_indexAddr Tryd.underlying22 sz3 h129 (cond_t hg hel172) (gd_true hg) (gd_true hg))) ?_
      refine TP_gq (v := (.int .i64 el166)) ((!decide (el155 = 2)) && (!decide (el161 = 2))) rfl (wanted_t rfl rfl rfl rfl) (fun w' hS hg => (yl_load sc3 (gd_true hg) ((hat169 hg).ext' ((he153).trans hS)))) ?_
      refine TP_gq (v := (.int .i64 el171)) ((!decide (el155 = 2)) && (!decide (el161 = 2))) rfl (wanted_t rfl rfl rfl rfl) (fun w' hS hg => (yl_load sc3 (gd_true hg) ((hat174 hg).ext' ((he153).trans hS)))) ?_
      refine TP_gp (v := (.bool (!decide (el166 = el171)))) ((!decide (el155 = 2)) && (!decide (el161 = 2))) rfl (wanted_t rfl rfl rfl rfl) (fun w' hg => (yl_neq (gd_true hg) (gd_true hg))) ?_
      refine TP_p (v := (.bool (((!decide (el155 = 2)) && (!decide (el161 = 2))) && (!decide (el166 = el171))))) rfl rfl (fun w' => (yl_and rfl (fun hb => (gd_true hb)) rfl)) ?_
      refine TP_done ?_
      refine hK151 _ _ ?_
      refine WC_cond (b := (((!decide (el155 = 2)) && (!decide (el161 = 2))) && (!decide (el166 = el171)))) rfl (fun hb176 => ?_) (fun hb176 => ?_)
      · replace h := cond_t hb176 h
        refine WC_region ?_
        refine T0_q (v := (.int .i64 x131)) rfl (yl_move hs132) ?_
        refine T0_q (v := (.int .i64 (w64 (x131 + 1)))) rfl (yl_add rfl rfl) ?_
        refine T0_q (v := (.int .i64 (w64 (x131 + 1)))) rfl (yl_assign rfl) ?_
        refine T0_nil ?_
        refine hK150 _ _ ?_
        refine WC_region ?_
        refine T0_q (v := (.int .i64 x133)) rfl (yl_move hs134) ?_
        refine T0_q (v := (.int .i64 (w64 (x133 + 1)))) rfl (yl_add rfl rfl) ?_
        refine T0_q (v := (.int .i64 (w64 (x133 + 1)))) rfl (yl_assign rfl) ?_
        refine T0_nil ?_
        replace h := some_out h
        subst h
        refine hK144 _ _ _ rfl ?_
        exact ⟨w64 (x131 + 1), w64 (x133 + 1), rfl, hs128, hs130, rfl, rfl, (h127.ext he153), (h129.ext he153), e154⟩
      · replace h := cond_f hb176 h
        refine WC_skip ?_
        refine hK150 _ _ ?_
        refine WC_region ?_
        refine T0_q (v := (.int .i64 x133)) rfl (yl_move hs134) ?_
        refine T0_q (v := (.int .i64 (w64 (x133 + 1)))) rfl (yl_add rfl rfl) ?_
        refine T0_q (v := (.int .i64 (w64 (x133 + 1)))) rfl (yl_assign rfl) ?_
        refine T0_nil ?_
        replace h := some_out h
        subst h
        refine hK144 _ _ _ rfl ?_
        exact ⟨x131, w64 (x133 + 1), rfl, hs128, hs130, hs132, rfl, (h127.ext he153), (h129.ext he153), e154⟩
    · replace h := cond_f hb149 h
      refine WC_exit ?_
      replace h := some_out h
      subst h
      have ho := hx143 _ rfl
      subst ho
      refine hK145 _ _ ?_
      exact ⟨x131, rfl, hs132, e126⟩
  · rintro ρ wd135 ⟨x137, rfl, hs138, e136⟩
    replace h := hn141
    refine hK5 _ _ ?_
    refine WC_seqK fun K177 hK177 => ?_
    refine WC_region ?_
    refine T0_q (v := (.int .i64 x137)) rfl (yl_move hs138) ?_
    refine T0_q (v := (.int .i64 x137)) rfl (yl_assign rfl) ?_
    refine T0_nil ?_
    refine hK177 _ _ ?_
    refine WC_ret ?_
    replace h := some_out h
    subst h
    exact ⟨[(.int .i64 x137)], ⟨rfl, trivial⟩, e136, rfl⟩

noncomputable def law04_Round_spec : Option LocateTrack :=
  some (LocateTrack.mk ([0, 0, 1, 1, 1, 0, 1] : List Int) 3 100 2 1000 5 0 0 true)
theorem law04_Round_ok (L : List Value) (w : World) (hL : LtL L w) (r : LocateTrack) (h : law04_Round_spec = some r) :
    CallsTo Tryd.prog 82 [] w (fun v w' => Ext w w' ∧ ∃ (cs0 : List Value), (.agg cs0.toArray) = v ∧ Rep.rd L w' cs0 r) := by
  have e0 : Ext w w := Chg.refl _ _
  refine callsTo_of_WC (n := 3) (rs := [.cell 0 24]) Tryd.func82 rfl rfl rfl rfl rfl ?_
  refine WC_seqK fun K1 hK1 => ?_
  refine WC_region ?_
  refine T0_e rfl (eff_allocZ zi24 ?_)
  intro b2 wd3 hb4 he5 hB6
  have hbf7 := bfresh e0 hb4
  have e8 := e0.trans he5
  refine T0_nil ?_
  refine hK1 _ _ ?_
  refine WC_seqK fun K10 hK10 => ?_
  refine WC_region ?_
  refine T0_e rfl (eff_buildTC (xs := ([0, 0, 1, 1, 1, 0, 1] : List Int)) (cells := [(.int .i64 0), (.int .i64 0), (.int .i64 1), (.int .i64 1), (.int .i64 1), (.int .i64 0), (.int .i64 1)]) Tryd.underlying22 ei3 rfl (pc_cons rfl rfl (pc_cons rfl rfl (pc_cons rfl rfl (pc_cons rfl rfl (pc_cons rfl rfl (pc_cons rfl rfl (pc_cons rfl rfl pc_nil))))))) rfl (Elems.cons (cs := [(.int .i64 0)]) rfl (Elems.cons (cs := [(.int .i64 0)]) rfl (Elems.cons (cs := [(.int .i64 1)]) rfl (Elems.cons (cs := [(.int .i64 1)]) rfl (Elems.cons (cs := [(.int .i64 1)]) rfl (Elems.cons (cs := [(.int .i64 0)]) rfl (Elems.cons (cs := [(.int .i64 1)]) rfl Elems.nil))))))) rfl (ltl_box (hL.chg e8) hB6) ?_)
  intro b14 wd11 he12 h13
  have e15 := e8.trans he12
  refine T0_q (v := (.agg (List.toArray [(.slice (some ⟨b14, 0, none⟩) 7 7), (.int .i64 3), (.int .i64 100), (.int .i64 2), (.int .i64 1000), (.int .i64 5), (.int .i64 0), (.int .i64 0), (.bool true)]))) rfl (yl_buildC (cells := [(.slice (some ⟨b14, 0, none⟩) 7 7), (.int .i64 3), (.int .i64 100), (.int .i64 2), (.int .i64 1000), (.int .i64 5), (.int .i64 0), (.int .i64 0), (.bool true)]) bi24 (pc_cons rfl (cells_one h13.one1) (pc_cons rfl rfl (pc_cons rfl rfl (pc_cons rfl rfl (pc_cons rfl rfl (pc_cons rfl rfl (pc_cons rfl rfl pc_nil))))))) rfl) ?_
  refine T0_e rfl (eff_storeC (vs := [(.slice (some ⟨b14, 0, none⟩) 7 7), (.int .i64 3), (.int .i64 100), (.int .i64 2), (.int .i64 1000), (.int .i64 5), (.int .i64 0), (.int .i64 0), (.bool true)]) (cs' := [(.slice (some ⟨b14, 0, none⟩) 7 7), (.int .i64 3), (.int .i64 100), (.int .i64 2), (.int .i64 1000), (.int .i64 5), (.int .i64 0), (.int .i64 0), (.bool true)]) sz24 rfl rfl rfl rfl (hB6.ext he12) rfl (oc_cons h13.one1 (oc_cons rfl (oc_cons rfl (oc_cons rfl (oc_cons rfl (oc_cons rfl (oc_cons rfl (oc_cons rfl (oc_cons rfl oc_nil))))))))) rfl ?_)
  intro wd17 hc18 hB19
  have h20 := h13.step (Stepp.chg_mem hc18 mem0)
  have e21 := chg_box e15 hc18 hbf7
  refine T0_nil ?_
  refine hK10 _ _ ?_
  refine WC_ret ?_
  replace h := some_out h
  subst h
  exact ⟨[(.agg (List.toArray [(.slice (some ⟨b14, 0, none⟩) 7 7), (.int .i64 3), (.int .i64 100), (.int .i64 2), (.int .i64 1000), (.int .i64 5), (.int .i64 0), (.int .i64 0), (.bool true)]))], ⟨⟨_, rfl, run_loadVarA (cs := [(.slice (some ⟨b14, 0, none⟩) 7 7), (.int .i64 3), (.int .i64 100), (.int .i64 2), (.int .i64 1000), (.int .i64 5), (.int .i64 0), (.int .i64 0), (.bool true)]) ag24 (Box.at hB19)⟩, trivial⟩, e21, [(.slice (some ⟨b14, 0, none⟩) 7 7), (.int .i64 3), (.int .i64 100), (.int .i64 2), (.int .i64 1000), (.int .i64 5), (.int .i64 0), (.int .i64 0), (.bool true)], rfl, ⟨(.slice (some ⟨b14, 0, none⟩) 7 7), (h20.sub (sub_skip (sub_refl _))), rfl⟩⟩

noncomputable def locate_first_s0 (p_l : (List Int)) : (Int) → Option ((Int) ⊕ (Int ⊕ (Unit))) := fun x72 =>
  (bif (decide (x72 < (p_l.length : Int))) then (
    (Option.bind (idx p_l x72) fun el89 =>
    (bif (!decide (el89 = 0)) then (
      some (.inr (.inl el89))
    ) else (
      some (.inl (w64 (x72 + 1)))
    ))
    )
  ) else (
    some (.inr (.inr ()))
  ))
noncomputable def locate_first_spec (p_l : (List Int)) : Option Int :=
  (Option.bind (loop (locate_first_s0 p_l) 0) fun o76 => jn0 o76 fun (_ : Unit) =>
  some 0
  )
theorem locate_first_ok (L : List Value) (w : World) (hL : LtL L w) (v_p_l : Value) (p_l : (List Int)) (h_p_l : SlRd L w v_p_l p_l) (r : Int) (h : locate_first_spec p_l = some r) :
    CallsTo Tryd.prog 84 [v_p_l] w (fun v w' => Ext w w' ∧ (.int .i64 r) = v) := by
  have e0 : Ext w w := Chg.refl _ _
  refine callsTo_of_WC (n := 15) (rs := [.tmp 2]) Tryd.func84 rfl rfl rfl rfl rfl ?_
  refine WC_seqK fun K2 hK2 => ?_
  refine WC_region ?_
  refine T0_q (v := (.int .i64 0)) rfl (yl_assign rfl) ?_
  refine T0_nil ?_
  refine hK2 _ _ ?_
  refine WC_seqK fun K3 hK3 => ?_
  refine WC_seqK fun K4 hK4 => ?_
  refine WC_region ?_
  refine T0_q (v := v_p_l) rfl (yl_move rfl) ?_
  refine T0_q (v := (.int .i64 (p_l.length : Int))) rfl (yl_lenR rfl Tryd.underlying164 h_p_l rfl) ?_
  refine T0_q (v := (.int .i64 0)) rfl (yl_move rfl) ?_
  refine T0_nil ?_
  refine hK4 _ _ ?_
  obtain ⟨o76, hl77, hn78⟩ := bind_elim h
  refine WC_post (fun (ρ : Env) (wd74 : World) => .inr () = o76 ∧ Ext w wd74) ?_ ?_
  · intro K82 hK82
    refine WC_block ?_
    refine WC_loopk (fun sv ρ wd67 => ∃ (x72 : Int), x72 = sv ∧ ρ 5 = v_p_l ∧ ρ 6 = (.int .i64 (p_l.length : Int)) ∧ ρ 7 = (.int .i64 x72) ∧ SlRd L wd67 v_p_l p_l ∧ Ext w wd67) hl77 ⟨0, rfl, rfl, rfl, rfl, h_p_l, e0⟩ ?_
    rintro _ ρ wd67 ⟨x72, rfl, hs70, hs71, hs73, h69, e68⟩ x79 h hx80 K81 hK81
    refine WC_seqK fun K84 hK84 => ?_
    refine WC_region ?_
    refine T0_q (v := (.bool (decide (x72 < (p_l.length : Int))))) rfl (yl_lss hs73 hs71) ?_
    refine T0_nil ?_
    refine hK84 _ _ ?_
    refine WC_seqK fun K85 hK85 => ?_
    refine WC_cond (b := (decide (x72 < (p_l.length : Int)))) rfl (fun hb86 => ?_) (fun hb86 => ?_)
    · replace h := cond_t hb86 h
      refine WC_skip ?_
      refine hK85 _ _ ?_
      refine WC_seqK fun K87 hK87 => ?_
      refine WC_block ?_
      refine WC_seqK fun K88 hK88 => ?_
      refine WC_region ?_
      obtain ⟨el89, hel90, h⟩ := bind_elim h
      obtain ⟨cs91, hat92, hrd93⟩ := SlRd.at h69 hel90
      have hrd93 : cs91 = [(.int .i64 el89)] := hrd93
      subst hrd93
      refine T0_q (v := (.pointer (some (elemAddr v_p_l (x72 : Int).toNat 1)))) rfl (yl_indexAddr Tryd.underlying164 sz30 h69 hel90 hs70 hs73) ?_
      refine T0_q (v := (.int .i64 el89)) rfl (yl_load sc30 rfl hat92) ?_
      refine T0_q (v := (.int .i64 el89)) rfl (yl_assign rfl) ?_
      refine T0_nil ?_
      refine hK88 _ _ ?_
      refine WC_seqK fun K95 hK95 => ?_
      refine WC_region ?_
      refine T0_q (v := (.int .i64 el89)) rfl (yl_move rfl) ?_
      refine T0_q (v := (.bool (!decide (el89 = 0)))) rfl (yl_neq rfl rfl) ?_
      refine T0_nil ?_
      refine hK95 _ _ ?_
      refine WC_cond (b := (!decide (el89 = 0))) rfl (fun hb96 => ?_) (fun hb96 => ?_)
      · replace h := cond_t hb96 h
        refine WC_seqK fun K97 hK97 => ?_
        refine WC_region ?_
        refine T0_q (v := (.int .i64 el89)) rfl (yl_move rfl) ?_
        refine T0_q (v := (.int .i64 el89)) rfl (yl_assign rfl) ?_
        refine T0_nil ?_
        refine hK97 _ _ ?_
        refine WC_ret ?_
        replace h := some_out h
        subst h
        have ho := hx80 _ rfl
        subst ho
        replace h := jn0_inl hn78
        replace h := some_out h
        subst h
        exact ⟨[(.int .i64 el89)], ⟨rfl, trivial⟩, e68, rfl⟩
      · replace h := cond_f hb96 h
        refine WC_skip ?_
        refine hK87 _ _ ?_
        refine WC_region ?_
        refine T0_q (v := (.int .i64 (w64 (x72 + 1)))) rfl (yl_add hs73 rfl) ?_
        refine T0_q (v := (.int .i64 (w64 (x72 + 1)))) rfl (yl_move rfl) ?_
        refine T0_nil ?_
        replace h := some_out h
        subst h
        refine hK81 _ _ _ rfl ?_
        exact ⟨w64 (x72 + 1), rfl, hs70, hs71, rfl, h69, e68⟩
    · replace h := cond_f hb86 h
      refine WC_exit ?_
      replace h := some_out h
      subst h
      have ho := hx80 _ rfl
      subst ho
      refine hK82 _ _ ?_
      exact ⟨rfl, e68⟩
  · rintro ρ wd74 ⟨rfl, e75⟩
    replace h := jn0_inr hn78
    refine hK3 _ _ ?_
    refine WC_seqK fun K98 hK98 => ?_
    refine WC_region ?_
    refine T0_q (v := (.int .i64 0)) rfl (yl_assign rfl) ?_
    refine T0_nil ?_
    refine hK98 _ _ ?_
    refine WC_ret ?_
    replace h := some_out h
    subst h
    exact ⟨[(.int .i64 0)], ⟨rfl, trivial⟩, e75, rfl⟩

noncomputable def locate_unless_spec (p_is : Bool) (p_e : Int) : Option Int :=
  (bif p_is then (
    some 0
  ) else (
    some p_e
  ))
theorem locate_unless_ok (L : List Value) (w : World) (hL : LtL L w) (p_is : Bool) (p_e : Int) (r : Int) (h : locate_unless_spec p_is p_e = some r) :
    CallsTo Tryd.prog 85 [(.bool p_is), (.int .i64 p_e)] w (fun v w' => Ext w w' ∧ (.int .i64 r) = v) := by
  have e0 : Ext w w := Chg.refl _ _
  refine callsTo_of_WC (n := 7) (rs := [.tmp 4]) Tryd.func85 rfl rfl rfl rfl rfl ?_
  refine WC_seqK fun K1 hK1 => ?_
  refine WC_region ?_
  refine T0_q (v := (.int .i64 0)) rfl (yl_assign rfl) ?_
  refine T0_nil ?_
  refine hK1 _ _ ?_
  refine WC_seqK fun K2 hK2 => ?_
  refine WC_seqK fun K3 hK3 => ?_
  refine WC_region ?_
  refine T0_q (v := (.bool p_is)) rfl (yl_move rfl) ?_
  refine T0_nil ?_
  refine hK3 _ _ ?_
  refine WC_cond (b := p_is) rfl (fun hb4 => ?_) (fun hb4 => ?_)
  · replace h := cond_t hb4 h
    refine WC_seqK fun K5 hK5 => ?_
    refine WC_region ?_
    refine T0_q (v := (.int .i64 0)) rfl (yl_assign rfl) ?_
    refine T0_nil ?_
    refine hK5 _ _ ?_
    refine WC_ret ?_
    replace h := some_out h
    subst h
    exact ⟨[(.int .i64 0)], ⟨rfl, trivial⟩, e0, rfl⟩
  · replace h := cond_f hb4 h
    refine WC_skip ?_
    refine hK2 _ _ ?_
    refine WC_seqK fun K6 hK6 => ?_
    refine WC_region ?_
    refine T0_q (v := (.int .i64 p_e)) rfl (yl_move rfl) ?_
    refine T0_q (v := (.int .i64 p_e)) rfl (yl_assign rfl) ?_
    refine T0_nil ?_
    refine hK6 _ _ ?_
    refine WC_ret ?_
    replace h := some_out h
    subst h
    exact ⟨[(.int .i64 p_e)], ⟨rfl, trivial⟩, e0, rfl⟩

noncomputable def locate_within_spec (p_n : Int) (p_lo : Int) (p_hi : Int) : Option Bool :=
  some ((decide (p_lo ≤ p_n)) && (decide (p_n ≤ p_hi)))
theorem locate_within_ok (L : List Value) (w : World) (hL : LtL L w) (p_n : Int) (p_lo : Int) (p_hi : Int) (r : Bool) (h : locate_within_spec p_n p_lo p_hi = some r) :
    CallsTo Tryd.prog 86 [(.int .i64 p_n), (.int .i64 p_lo), (.int .i64 p_hi)] w (fun v w' => Ext w w' ∧ (.bool r) = v) := by
  have e0 : Ext w w := Chg.refl _ _
  refine callsTo_of_WC (n := 15) (rs := [.tmp 6]) Tryd.func86 rfl rfl rfl rfl rfl ?_
  refine WC_seqK fun K1 hK1 => ?_
  refine WC_region ?_
  refine T0_q (v := (.bool false)) rfl (yl_assign rfl) ?_
  refine T0_nil ?_
  refine hK1 _ _ ?_
  refine WC_seqK fun K2 hK2 => ?_
  refine WC_region ?_
  refine T0_q (v := (.int .i64 p_lo)) rfl (yl_move rfl) ?_
  refine T0_q (v := (.int .i64 p_n)) rfl (yl_move rfl) ?_
  refine T0_q (v := (.bool (decide (p_lo ≤ p_n)))) rfl (yl_leq rfl rfl) ?_
  refine T0_q (v := (.bool (decide (p_lo ≤ p_n)))) rfl (yl_move rfl) ?_
  refine T0_g (v := (.int .i64 p_n)) (decide (p_lo ≤ p_n)) (wanted_t rfl rfl rfl rfl) (fun hg => (yl_move rfl)) ?_
  refine T0_g (v := (.int .i64 p_hi)) (decide (p_lo ≤ p_n)) (wanted_t rfl rfl rfl rfl) (fun hg => (yl_move rfl)) ?_
  refine T0_g (v := (.bool (decide (p_n ≤ p_hi)))) (decide (p_lo ≤ p_n)) (wanted_t rfl rfl rfl rfl) (fun hg => (yl_leq (gd_true hg) (gd_true hg))) ?_
  refine T0_q (v := (.bool ((decide (p_lo ≤ p_n)) && (decide (p_n ≤ p_hi))))) rfl (yl_and rfl (fun hb => (gd_true hb)) rfl) ?_
  refine T0_q (v := (.bool ((decide (p_lo ≤ p_n)) && (decide (p_n ≤ p_hi))))) rfl (yl_assign rfl) ?_
  refine T0_nil ?_
  refine hK2 _ _ ?_
  refine WC_ret ?_
  replace h := some_out h
  subst h
  exact ⟨[(.bool ((decide (p_lo ≤ p_n)) && (decide (p_n ≤ p_hi))))], ⟨rfl, trivial⟩, e0, rfl⟩

noncomputable def locate_track_places_spec (p_t : locate_track) (p_from : Int) (p_to : Int) : Option Range :=
  some (Range.mk (w64 (p_t.LocateTrack.First + (w64 (p_from * p_t.LocateTrack.Tooth)))) (w64 ((w64 ((w64 (p_t.LocateTrack.First + (w64 (p_to * p_t.LocateTrack.Tooth)))) + p_t.LocateTrack.Tooth)) - 1)))
theorem locate_track_places_ok (L : List Value) (w : World) (hL : LtL L w) (cs_p_t : List Value) (p_t : locate_track) (h_p_t : Rep.rd L w cs_p_t p_t) (p_from : Int) (p_to : Int) (r : Range) (h : locate_track_places_spec p_t p_from p_to = some r) :
    CallsTo Tryd.prog 88 [(.agg cs_p_t.toArray), (.int .i64 p_from), (.int .i64 p_to)] w (fun v w' => Ext w w' ∧ ∃ (cs0 : List Value), (.agg cs0.toArray) = v ∧ Rep.rd L w' cs0 r) := by
  have e0 : Ext w w := Chg.refl _ _
  obtain ⟨v1, h2, rfl⟩ := h_p_t
  refine callsTo_of_WC (n := 31) (rs := [.cell 6 36]) Tryd.func88 rfl rfl rfl rfl rfl ?_
  refine WC_seqK fun K4 hK4 => ?_
  refine WC_region ?_
  refine T0_e rfl (eff_boxC (cs := [v1, (.int .i64 p_t.LocateTrack.Window), (.int .i64 p_t.LocateTrack.Tooth), (.int .i64 p_t.LocateTrack.PerVane), (.int .i64 p_t.LocateTrack.First), (.int .i64 p_t.LocateTrack.Modulus), (.int .i64 p_t.LocateTrack.Slack), (.int .i64 p_t.LocateTrack.Errors), (.bool p_t.LocateTrack.Round)]) rfl rfl ?_)
  intro b5 wd6 hb7 he8 hB9
  have hbf10 := bfresh e0 hb7
  have e11 := e0.trans he8
  refine T0_e rfl (eff_allocZ zi36 ?_)
  intro b13 wd14 hb15 he16 hB17
  have hn18 : b13 ≠ b5 := box_ne hB9 hb15
  have hbf19 := bfresh e11 hb15
  have h20 := (h2.ext he8).step (add_box he16 hb15)
  have e21 := e11.trans he16
  refine T0_nil ?_
  refine hK4 _ _ ?_
  refine WC_seqK fun K23 hK23 => ?_
  refine WC_region ?_
  refine T0_q (v := (.pointer (some ⟨b5, 0, none⟩))) rfl (yl_fa 0 Tryd.underlying130 rfl rfl ⟨8, sz24⟩ rfl rfl) ?_
  refine T0_q (v := (.pointer (some ⟨b5, 4, none⟩))) rfl (yl_fa 4 Tryd.underlying24 rfl rfl ⟨0, sz3⟩ rfl rfl) ?_
  refine T0_q (v := (.int .i64 p_t.LocateTrack.First)) rfl (yl_load sc3 rfl (At.drop (Box.at (hB9.ext he16)) 4)) ?_
  refine T0_q (v := (.int .i64 p_from)) rfl (yl_move rfl) ?_
  refine T0_q (v := (.pointer (some ⟨b5, 0, none⟩))) rfl (yl_fa 0 Tryd.underlying130 rfl rfl ⟨8, sz24⟩ rfl rfl) ?_
  refine T0_q (v := (.pointer (some ⟨b5, 2, none⟩))) rfl (yl_fa 2 Tryd.underlying24 rfl rfl ⟨0, sz3⟩ rfl rfl) ?_
  refine T0_q (v := (.int .i64 p_t.LocateTrack.Tooth)) rfl (yl_load sc3 rfl (At.drop (Box.at (hB9.ext he16)) 2)) ?_
  refine T0_q (v := (.int .i64 (w64 (p_from * p_t.LocateTrack.Tooth)))) rfl (yl_mul rfl rfl) ?_
  refine T0_q (v := (.int .i64 (w64 (p_t.LocateTrack.First + (w64 (p_from * p_t.LocateTrack.Tooth)))))) rfl (yl_add rfl rfl) ?_
  refine T0_q (v := (.pointer (some ⟨b5, 0, none⟩))) rfl (yl_fa 0 Tryd.underlying130 rfl rfl ⟨8, sz24⟩ rfl rfl) ?_
  refine T0_q (v := (.pointer (some ⟨b5, 4, none⟩))) rfl (yl_fa 4 Tryd.underlying24 rfl rfl ⟨0, sz3⟩ rfl rfl) ?_
  refine T0_q (v := (.int .i64 p_t.LocateTrack.First)) rfl (yl_load sc3 rfl (At.drop (Box.at (hB9.ext he16)) 4)) ?_
  refine T0_q (v := (.int .i64 p_to)) rfl (yl_move rfl) ?_
  refine T0_q (v := (.pointer (some ⟨b5, 0, none⟩))) rfl (yl_fa 0 Tryd.underlying130 rfl rfl ⟨8, sz24⟩ rfl rfl) ?_
  refine T0_q (v := (.pointer (some ⟨b5, 2, none⟩))) rfl (yl_fa 2 Tryd.underlying24 rfl rfl ⟨0, sz3⟩ rfl rfl) ?_
  refine T0_q (v := (.int .i64 p_t.LocateTrack.Tooth)) rfl (yl_load sc3 rfl (At.drop (Box.at (hB9.ext he16)) 2)) ?_
  refine T0_q (v := (.int .i64 (w64 (p_to * p_t.LocateTrack.Tooth)))) rfl (yl_mul rfl rfl) ?_
  refine T0_q (v := (.int .i64 (w64 (p_t.LocateTrack.First + (w64 (p_to * p_t.LocateTrack.Tooth)))))) rfl (yl_add rfl rfl) ?_
  refine T0_q (v := (.pointer (some ⟨b5, 0, none⟩))) rfl (yl_fa 0 Tryd.underlying130 rfl rfl ⟨8, sz24⟩ rfl rfl) ?_
  refine T0_q (v := (.pointer (some ⟨b5, 2, none⟩))) rfl (yl_fa 2 Tryd.underlying24 rfl rfl ⟨0, sz3⟩ rfl rfl) ?_
  refine T0_q (v := (.int .i64 p_t.LocateTrack.Tooth)) rfl (yl_load sc3 rfl (At.drop (Box.at (hB9.ext he16)) 2)) ?_
  refine T0_q (v := (.int .i64 (w64 ((w64 (p_t.LocateTrack.First + (w64 (p_to * p_t.LocateTrack.Tooth)))) + p_t.LocateTrack.Tooth)))) rfl (yl_add rfl rfl) ?_
  refine T0_q (v := (.int .i64 (w64 ((w64 ((w64 (p_t.LocateTrack.First + (w64 (p_to * p_t.LocateTrack.Tooth)))) + p_t.LocateTrack.Tooth)) - 1)))) rfl (yl_sub rfl rfl) ?_
  refine T0_q (v := (.agg (List.toArray [(.int .i64 (w64 (p_t.LocateTrack.First + (w64 (p_from * p_t.LocateTrack.Tooth))))), (.int .i64 (w64 ((w64 ((w64 (p_t.LocateTrack.First + (w64 (p_to * p_t.LocateTrack.Tooth)))) + p_t.LocateTrack.Tooth)) - 1)))]))) rfl (yl_buildC (cells := [(.int .i64 (w64 (p_t.LocateTrack.First + (w64 (p_from * p_t.LocateTrack.Tooth))))), (.int .i64 (w64 ((w64 ((w64 (p_t.LocateTrack.First + (w64 (p_to * p_t.LocateTrack.Tooth)))) + p_t.LocateTrack.Tooth)) - 1)))]) bi36 (pc_cons rfl rfl (pc_cons rfl rfl pc_nil)) rfl) ?_
  refine T0_e rfl (eff_storeC (vs := [(.int .i64 (w64 (p_t.LocateTrack.First + (w64 (p_from * p_t.LocateTrack.Tooth))))), (.int .i64 (w64 ((w64 ((w64 (p_t.LocateTrack.First + (w64 (p_to * p_t.LocateTrack.Tooth)))) + p_t.LocateTrack.Tooth)) - 1)))]) (cs' := [(.int .i64 (w64 (p_t.LocateTrack.First + (w64 (p_from * p_t.LocateTrack.Tooth))))), (.int .i64 (w64 ((w64 ((w64 (p_t.LocateTrack.First + (w64 (p_to * p_t.LocateTrack.Tooth)))) + p_t.LocateTrack.Tooth)) - 1)))]) sz36 rfl rfl rfl rfl hB17 rfl (oc_cons rfl (oc_cons rfl oc_nil)) rfl ?_)
  intro wd24 hc25 hB26
  have h27 := h20.step (Stepp.chg_mem hc25 mem0)
  have h28 := (hB9.ext he16).chg hc25 (avoidb hn18)
  have e29 := chg_box e21 hc25 hbf19
  refine T0_nil ?_
  refine hK23 _ _ ?_
  refine WC_ret ?_
  replace h := some_out h
  subst h
  exact ⟨[(.agg (List.toArray [(.int .i64 (w64 (p_t.LocateTrack.First + (w64 (p_from * p_t.LocateTrack.Tooth))))), (.int .i64 (w64 ((w64 ((w64 (p_t.LocateTrack.First + (w64 (p_to * p_t.LocateTrack.Tooth)))) + p_t.LocateTrack.Tooth)) - 1)))]))], ⟨⟨_, rfl, run_loadVarA (cs := [(.int .i64 (w64 (p_t.LocateTrack.First + (w64 (p_from * p_t.LocateTrack.Tooth))))), (.int .i64 (w64 ((w64 ((w64 (p_t.LocateTrack.First + (w64 (p_to * p_t.LocateTrack.Tooth)))) + p_t.LocateTrack.Tooth)) - 1)))]) ag36 (Box.at hB26)⟩, trivial⟩, e29, [(.int .i64 (w64 (p_t.LocateTrack.First + (w64 (p_from * p_t.LocateTrack.Tooth))))), (.int .i64 (w64 ((w64 ((w64 (p_t.LocateTrack.First + (w64 (p_to * p_t.LocateTrack.Tooth)))) + p_t.LocateTrack.Tooth)) - 1)))], rfl, rfl⟩

noncomputable def locate_only_api_Range_spec (p_l : (List Range)) (p_e : Int) : Option (Range × Int) :=
  (Option.bind (locate_unless_spec (decide (0 < (p_l.length : Int))) 12) fun r24 =>
  (Option.bind (locate_unless_spec (decide ((p_l.length : Int) ≤ 1)) 29) fun r30 =>
  (Option.bind (locate_first_spec ([p_e, r24, r30] : List Int)) fun r45 =>
  (bif (decide (r45 = 0)) then (
    (Option.bind (idx p_l 0) fun el56 =>
    some (el56, r45)
    )
  ) else (
    some ((Range.mk 0 0), r45)
  ))
  )
  )
  )
theorem locate_only_api_Range_ok (L : List Value) (w : World) (hL : LtL L w) (v_p_l : Value) (p_l : (List Range)) (h_p_l : SlRd L w v_p_l p_l) (p_e : Int) (r : Range × Int) (h : locate_only_api_Range_spec p_l p_e = some r) :
    CallsTo Tryd.prog 89 [v_p_l, (.int .i64 p_e)] w (fun v w' => Ext w w' ∧ ∃ (cs0 : List Value), (.tuple #[(.agg cs0.toArray), (.int .i64 r.2)]) = v ∧ Rep.rd L w' cs0 r.1) := by
  have e0 : Ext w w := Chg.refl _ _
  refine callsTo_of_WC (n := 27) (rs := [.cell 4 36, .tmp 5]) Tryd.func89 rfl rfl rfl rfl rfl ?_
  refine WC_seqK fun K2 hK2 => ?_
  refine WC_region ?_
  refine T0_e rfl (eff_allocZ zi36 ?_)
  intro b3 wd4 hb5 he6 hB7
  have hbf8 := bfresh e0 hb5
  have h9 := h_p_l.step (add_box he6 hb5)
  have e10 := e0.trans he6
  refine T0_q (v := (.int .i64 0)) rfl (yl_assign rfl) ?_
  refine T0_nil ?_
  refine hK2 _ _ ?_
  refine WC_seqK fun K12 hK12 => ?_
  refine WC_region ?_
  refine T0_e rfl (eff_allocZ zi36 ?_)
  intro b13 wd14 hb15 he16 hB17
  have hn18 : b13 ≠ b3 := box_ne hB7 hb15
  have hbf19 := bfresh e10 hb15
  have e20 := e10.trans he16
  refine T0_nil ?_
  refine hK12 _ _ ?_
  refine WC_seqK fun K22 hK22 => ?_
  refine WC_seqK fun K23 hK23 => ?_
  refine WC_region ?_
  refine T0_q (v := (.int .i64 p_e)) rfl (yl_move rfl) ?_
  refine T0_q (v := v_p_l) rfl (yl_move rfl) ?_
  refine T0_q (v := (.int .i64 (p_l.length : Int))) rfl (yl_lenR rfl Tryd.underlying29 h9 rfl) ?_
  refine T0_q (v := (.bool (decide (0 < (p_l.length : Int))))) rfl (yl_gtr rfl rfl) ?_
  obtain ⟨r24, hr25, h⟩ := bind_elim h
  refine T0_e rfl (eff_call Tryd.func85 nm85 rfl (ev2 rfl rfl) (locate_unless_ok [] _ (LtL.nil _) (decide (0 < (p_l.length : Int))) 12 r24 hr25) ?_)
  rintro _ wd26 ⟨he27, rfl⟩
  have e28 := he16.trans he27
  have e29 := e20.trans he27
  refine T0_q (v := v_p_l) rfl (yl_move rfl) ?_
  refine T0_q (v := (.int .i64 (p_l.length : Int))) rfl (yl_lenR rfl Tryd.underlying29 h9 rfl) ?_
  refine T0_q (v := (.bool (decide ((p_l.length : Int) ≤ 1)))) rfl (yl_leq rfl rfl) ?_
  obtain ⟨r30, hr31, h⟩ := bind_elim h
  refine T0_e rfl (eff_call Tryd.func85 nm85 rfl (ev2 rfl rfl) (locate_unless_ok [] _ (LtL.nil _) (decide ((p_l.length : Int) ≤ 1)) 29 r30 hr31) ?_)
  rintro _ wd32 ⟨he33, rfl⟩
  have e34 := he27.trans he33
  have e35 := e28.trans he33
  have e36 := e29.trans he33
  refine T0_e rfl (eff_buildTC (xs := ([p_e, r24, r30] : List Int)) (cells := [(.int .i64 p_e), (.int .i64 r24), (.int .i64 r30)]) Tryd.underlying164 ei30 rfl (pc_cons rfl rfl (pc_cons rfl rfl (pc_cons rfl rfl pc_nil))) rfl (Elems.cons (cs := [(.int .i64 p_e)]) rfl (Elems.cons (cs := [(.int .i64 r24)]) rfl (Elems.cons (cs := [(.int .i64 r30)]) rfl Elems.nil))) rfl (ltl_box (hL.chg e36) (hB7.ext e35)) ?_)
  intro b40 wd37 he38 h39
  have e41 := e34.trans he38
  have e42 := e35.trans he38
  have e43 := e36.trans he38
  obtain ⟨r45, hr46, h⟩ := bind_elim h
  refine T0_e rfl (eff_call Tryd.func84 nm84 rfl (ev1 rfl) (locate_first_ok [] _ (LtL.nil _) (.slice (some ⟨b40, 0, none⟩) 3 3) ([p_e, r24, r30] : List Int) (h39.sub (fun _ h => by cases h)) r45 hr46) ?_)
  rintro _ wd47 ⟨he48, rfl⟩
  have e49 := e41.trans he48
  have e50 := e42.trans he48
  have e51 := e43.trans he48
  refine T0_q (v := (.int .i64 r45)) rfl (yl_assign rfl) ?_
  refine T0_nil ?_
  refine hK23 _ _ ?_
  refine WC_seqK fun K52 hK52 => ?_
  refine WC_region ?_
  refine T0_q (v := (.int .i64 r45)) rfl (yl_move rfl) ?_
  refine T0_nil ?_
  refine hK52 _ _ ?_
  refine WC_block ?_
  refine WC_seqK fun K53 hK53 => ?_
  refine WC_region ?_
  refine T0_q (v := (.bool (decide (r45 = 0)))) rfl (yl_eql rfl rfl) ?_
  refine T0_q (v := (.bool (decide (r45 = 0)))) rfl (yl_assign rfl) ?_
  refine T0_nil ?_
  refine hK53 _ _ ?_
  refine WC_cond (b := (decide (r45 = 0))) rfl (fun hb54 => ?_) (fun hb54 => ?_)
  · replace h := cond_t hb54 h
    refine WC_seqK fun K55 hK55 => ?_
    refine WC_region ?_
    refine T0_q (v := v_p_l) rfl (yl_move rfl) ?_
    obtain ⟨el56, hel57, h⟩ := bind_elim h
    obtain ⟨cs58, hat59, hrd60⟩ := SlRd.at h9 hel57
    have hrd60 : cs58 = [(.int .i64 el56.Lo), (.int .i64 el56.Hi)] := hrd60
    subst hrd60
    refine T0_q (v := (.pointer (some (elemAddr v_p_l (0 : Int).toNat 2)))) rfl (yl_indexAddr Tryd.underlying29 sz36 h9 hel57 rfl rfl) ?_
    refine T0_q (v := (.agg (List.toArray [(.int .i64 el56.Lo), (.int .i64 el56.Hi)]))) rfl (yl_loadA (cs := [(.int .i64 el56.Lo), (.int .i64 el56.Hi)]) ag36 rfl (hat59.ext' e50)) ?_
    refine T0_q (v := (.int .i64 r45)) rfl (yl_move rfl) ?_
    refine T0_e rfl (eff_storeC (vs := [(.int .i64 el56.Lo), (.int .i64 el56.Hi)]) (cs' := [(.int .i64 el56.Lo), (.int .i64 el56.Hi)]) sz36 rfl rfl rfl rfl (hB7.ext e50) rfl (oc_cons rfl (oc_cons rfl oc_nil)) rfl ?_)
    intro wd62 hc63 hB64
    have h65 := (h9.ext e50).step (Stepp.chg_mem hc63 mem0)
    have h66 := (hB17.ext e49).chg hc63 (avoidb hn18.symm)
    have h67 := (h39.ext he48).step (Stepp.chg_mem hc63 mem0)
    have e68 := chg_box e51 hc63 hbf8
    refine T0_q (v := (.int .i64 r45)) rfl (yl_assign rfl) ?_
    refine T0_nil ?_
    refine hK55 _ _ ?_
    refine WC_ret ?_
    replace h := some_out h
    subst h
    exact ⟨[(.agg (List.toArray [(.int .i64 el56.Lo), (.int .i64 el56.Hi)])), (.int .i64 r45)], ⟨⟨_, rfl, run_loadVarA (cs := [(.int .i64 el56.Lo), (.int .i64 el56.Hi)]) ag36 (Box.at hB64)⟩, rfl, trivial⟩, e68, [(.int .i64 el56.Lo), (.int .i64 el56.Hi)], rfl, rfl⟩
  · replace h := cond_f hb54 h
    refine WC_skip ?_
    refine hK22 _ _ ?_
    refine WC_seqK fun K69 hK69 => ?_
    refine WC_region ?_
    refine T0_q (v := (.agg (List.toArray [(.int .i64 0), (.int .i64 0)]))) rfl (yl_loadA (cs := [(.int .i64 0), (.int .i64 0)]) ag36 rfl (Box.at (hB17.ext e49))) ?_
    refine T0_q (v := (.int .i64 r45)) rfl (yl_move rfl) ?_
    refine T0_e rfl (eff_storeC (vs := [(.int .i64 0), (.int .i64 0)]) (cs' := [(.int .i64 0), (.int .i64 0)]) sz36 rfl rfl rfl rfl (hB7.ext e50) rfl (oc_cons rfl (oc_cons rfl oc_nil)) rfl ?_)
    intro wd70 hc71 hB72
    have h73 := (h9.ext e50).step (Stepp.chg_mem hc71 mem0)
    have h74 := (hB17.ext e49).chg hc71 (avoidb hn18.symm)
    have h75 := (h39.ext he48).step (Stepp.chg_mem hc71 mem0)
    have e76 := chg_box e51 hc71 hbf8
    refine T0_q (v := (.int .i64 r45)) rfl (yl_assign rfl) ?_
    refine T0_nil ?_
    refine hK69 _ _ ?_
    refine WC_ret ?_
    replace h := some_out h
    subst h
    exact ⟨[(.agg (List.toArray [(.int .i64 0), (.int .i64 0)])), (.int .i64 r45)], ⟨⟨_, rfl, run_loadVarA (cs := [(.int .i64 0), (.int .i64 0)]) ag36 (Box.at hB72)⟩, rfl, trivial⟩, e76, [(.int .i64 0), (.int .i64 0)], rfl, rfl⟩

noncomputable def ref04_fits_spec (p_t : LocateTrack) (p_tooth : Int) (p_count : Int) : Option Bool :=
  (Option.bind (base_Mod_spec (w64 (p_tooth - p_count)) p_t.Modulus) fun r14 =>
  some ((decide (r14 ≤ p_t.Slack)) || (decide (w64 (p_t.Modulus - p_t.Slack) ≤ r14)))
  )
theorem ref04_fits_ok (L : List Value) (w : World) (hL : LtL L w) (cs_p_t : List Value) (p_t : LocateTrack) (h_p_t : Rep.rd L w cs_p_t p_t) (p_tooth : Int) (p_count : Int) (r : Bool) (h : ref04_fits_spec p_t p_tooth p_count = some r) :
    CallsTo Tryd.prog 90 [(.agg cs_p_t.toArray), (.int .i64 p_tooth), (.int .i64 p_count)] w (fun v w' => Ext w w' ∧ (.bool r) = v) := by
  have e0 : Ext w w := Chg.refl _ _
  obtain ⟨v1, h2, rfl⟩ := h_p_t
  refine callsTo_of_WC (n := 27) (rs := [.tmp 6]) Tryd.func90 rfl rfl rfl rfl rfl ?_
  refine WC_seqK fun K4 hK4 => ?_
  refine WC_region ?_
  refine T0_e rfl (eff_boxC (cs := [v1, (.int .i64 p_t.Window), (.int .i64 p_t.Tooth), (.int .i64 p_t.PerVane), (.int .i64 p_t.First), (.int .i64 p_t.Modulus), (.int .i64 p_t.Slack), (.int .i64 p_t.Errors), (.bool p_t.Round)]) rfl rfl ?_)
  intro b5 wd6 hb7 he8 hB9
  have hbf10 := bfresh e0 hb7
  have e11 := e0.trans he8
  refine T0_q (v := (.bool false)) rfl (yl_assign rfl) ?_
  refine T0_nil ?_
  refine hK4 _ _ ?_
  refine WC_seqK fun K13 hK13 => ?_
  refine WC_region ?_
  refine T0_q (v := (.int .i64 p_tooth)) rfl (yl_move rfl) ?_
  refine T0_q (v := (.int .i64 p_count)) rfl (yl_move rfl) ?_
  refine T0_q (v := (.int .i64 (w64 (p_tooth - p_count)))) rfl (yl_sub rfl rfl) ?_
  refine T0_q (v := (.pointer (some ⟨b5, 5, none⟩))) rfl (yl_fa 5 Tryd.underlying24 rfl rfl ⟨0, sz3⟩ rfl rfl) ?_
  refine T0_q (v := (.int .i64 p_t.Modulus)) rfl (yl_load sc3 rfl (At.drop (Box.at hB9) 5)) ?_
  obtain ⟨r14, hr15, h⟩ := bind_elim h
  refine T0_e rfl (eff_call Tryd.func28 nm28 rfl (ev2 rfl rfl) (base_Mod_ok [] _ (LtL.nil _) (w64 (p_tooth - p_count)) p_t.Modulus r14 hr15) ?_)
  rintro _ wd16 ⟨he17, rfl⟩
  have e18 := he8.trans he17
  have e19 := e11.trans he17
  refine T0_q (v := (.int .i64 r14)) rfl (yl_assign rfl) ?_
  refine T0_nil ?_
  refine hK13 _ _ ?_
  refine WC_seqK fun K20 hK20 => ?_
  refine WC_region ?_
  refine T0_q (v := (.int .i64 r14)) rfl (yl_move rfl) ?_
  refine T0_q (v := (.pointer (some ⟨b5, 6, none⟩))) rfl (yl_fa 6 Tryd.underlying24 rfl rfl ⟨0, sz3⟩ rfl rfl) ?_
  refine T0_q (v := (.int .i64 p_t.Slack)) rfl (yl_load sc3 rfl (At.drop (Box.at (hB9.ext he17)) 6)) ?_
  refine T0_q (v := (.bool (decide (r14 ≤ p_t.Slack)))) rfl (yl_leq rfl rfl) ?_
  refine T0_q (v := (.bool (decide (r14 ≤ p_t.Slack)))) rfl (yl_move rfl) ?_
  refine T0_g (v := (.int .i64 r14)) (!(decide (r14 ≤ p_t.Slack))) (wanted_f rfl rfl rfl rfl) (fun hg => (yl_move rfl)) ?_
  refine T0_g (v := (.pointer (some ⟨b5, 5, none⟩))) (!(decide (r14 ≤ p_t.Slack))) (wanted_f rfl rfl rfl rfl) (fun hg => (yl_fa 5 Tryd.underlying24 rfl rfl ⟨0, sz3⟩ rfl rfl)) ?_
  refine T0_g (v := (.int .i64 p_t.Modulus)) (!(decide (r14 ≤ p_t.Slack))) (wanted_f rfl rfl rfl rfl) (fun hg => (yl_load sc3 (gd_true hg) (At.drop (Box.at (hB9.ext he17)) 5))) ?_
  refine T0_g (v := (.pointer (some ⟨b5, 6, none⟩))) (!(decide (r14 ≤ p_t.Slack))) (wanted_f rfl rfl rfl rfl) (fun hg => (yl_fa 6 Tryd.underlying24 rfl rfl ⟨0, sz3⟩ rfl rfl)) ?_
  refine T0_g (v := (.int .i64 p_t.Slack)) (!(decide (r14 ≤ p_t.Slack))) (wanted_f rfl rfl rfl rfl) (fun hg => (yl_load sc3 (gd_true hg) (At.drop (Box.at (hB9.ext he17)) 6))) ?_
  refine T0_g (v := (.int .i64 (w64 (p_t.Modulus - p_t.Slack)))) (!(decide (r14 ≤ p_t.Slack))) (wanted_f rfl rfl rfl rfl) (fun hg => (yl_sub (gd_true hg) (gd_true hg))) ?_
  refine T0_g (v := (.bool (decide (w64 (p_t.Modulus - p_t.Slack) ≤ r14)))) (!(decide (r14 ≤ p_t.Slack))) (wanted_f rfl rfl rfl rfl) (fun hg => (yl_geq (gd_true hg) (gd_true hg))) ?_
  refine T0_q (v := (.bool ((decide (r14 ≤ p_t.Slack)) || (decide (w64 (p_t.Modulus - p_t.Slack) ≤ r14))))) rfl (yl_or rfl rfl (fun hb => (gd_true (not_t hb)))) ?_
  refine T0_q (v := (.bool ((decide (r14 ≤ p_t.Slack)) || (decide (w64 (p_t.Modulus - p_t.Slack) ≤ r14))))) rfl (yl_assign rfl) ?_
  refine T0_nil ?_
  refine hK20 _ _ ?_
  refine WC_ret ?_
  replace h := some_out h
  subst h
  exact ⟨[(.bool ((decide (r14 ≤ p_t.Slack)) || (decide (w64 (p_t.Modulus - p_t.Slack) ≤ r14))))], ⟨rfl, trivial⟩, e19, rfl⟩

noncomputable def locate_divisor_s0 : (Int × Int) → Option ((Int × Int) ⊕ (Int)) := fun (x45, x47) =>
  (bif (!decide (x47 = 0)) then (
    (Option.bind (rem x45 x47) fun q67 =>
    some (.inl (x47, q67))
    )
  ) else (
    some (.inr x45)
  ))
noncomputable def locate_divisor_spec (p_a : Int) (p_b : Int) : Option Int :=
  (Option.bind (loop locate_divisor_s0 (p_a, p_b)) fun (x51 : Int) =>
  some x51
  )
theorem locate_divisor_ok (L : List Value) (w : World) (hL : LtL L w) (p_a : Int) (p_b : Int) (r : Int) (h : locate_divisor_spec p_a p_b = some r) :
    CallsTo Tryd.prog 91 [(.int .i64 p_a), (.int .i64 p_b)] w (fun v w' => Ext w w' ∧ (.int .i64 r) = v) := by
  have e0 : Ext w w := Chg.refl _ _
  refine callsTo_of_WC (n := 12) (rs := [.tmp 4]) Tryd.func91 rfl rfl rfl rfl rfl ?_
  refine WC_seqK fun K1 hK1 => ?_
  refine WC_region ?_
  refine T0_q (v := (.int .i64 0)) rfl (yl_assign rfl) ?_
  refine T0_nil ?_
  refine hK1 _ _ ?_
  refine WC_seqK fun K2 hK2 => ?_
  obtain ⟨o53, hl54, hn55⟩ := bind_elim h
  refine WC_post (fun (ρ : Env) (wd49 : World) => ∃ (x51 : Int), x51 = o53 ∧ ρ 0 = (.int .i64 x51) ∧ Ext w wd49) ?_ ?_
  · intro K59 hK59
    refine WC_block ?_
    refine WC_loopk (fun sv ρ wd43 => ∃ (x45 : Int) (x47 : Int), (x45, x47) = sv ∧ ρ 0 = (.int .i64 x45) ∧ ρ 1 = (.int .i64 x47) ∧ Ext w wd43) hl54 ⟨p_a, p_b, rfl, rfl, rfl, e0⟩ ?_
    rintro _ ρ wd43 ⟨x45, x47, rfl, hs46, hs48, e44⟩ x56 h hx57 K58 hK58
    refine WC_seqK fun K61 hK61 => ?_
    refine WC_seqK fun K62 hK62 => ?_
    refine WC_region ?_
    refine T0_q (v := (.int .i64 x47)) rfl (yl_move hs48) ?_
    refine T0_q (v := (.bool (!decide (x47 = 0)))) rfl (yl_neq rfl rfl) ?_
    refine T0_nil ?_
    refine hK62 _ _ ?_
    refine WC_cond (b := (!decide (x47 = 0))) rfl (fun hb63 => ?_) (fun hb63 => ?_)
    · replace h := cond_t hb63 h
      refine WC_skip ?_
      refine hK61 _ _ ?_
      refine WC_block ?_
      refine WC_plan mixed (.p 0 (.p 1 (.p 2 (.p 3 (.p 4 (.p 5 .done)))))) (by kernel_rfl) ?_
      intro wd64 he65
      have e66 := e44.trans he65
      refine TP_p (v := (.int .i64 x47)) rfl rfl (fun w' => (yl_move hs48)) ?_
      refine TP_p (v := (.int .i64 x45)) rfl rfl (fun w' => (yl_move hs46)) ?_
      refine TP_p (v := (.int .i64 x47)) rfl rfl (fun w' => (yl_move hs48)) ?_
      obtain ⟨q67, hq68, h⟩ := bind_elim h
      refine TP_p (v := (.int .i64 q67)) rfl rfl (fun w' => (yl_rem' hq68 rfl rfl)) ?_
      refine TP_p (v := (.int .i64 x47)) rfl rfl (fun w' => (yl_assign rfl)) ?_
      refine TP_p (v := (.int .i64 q67)) rfl rfl (fun w' => (yl_assign rfl)) ?_
      refine TP_done ?_
      replace h := some_out h
      subst h
      refine hK58 _ _ _ rfl ?_
      exact ⟨x47, q67, rfl, rfl, rfl, e66⟩
    · replace h := cond_f hb63 h
      refine WC_exit ?_
      replace h := some_out h
      subst h
      have ho := hx57 _ rfl
      subst ho
      refine hK59 _ _ ?_
      exact ⟨x45, rfl, hs46, e44⟩
  · rintro ρ wd49 ⟨x51, rfl, hs52, e50⟩
    replace h := hn55
    refine hK2 _ _ ?_
    refine WC_seqK fun K69 hK69 => ?_
    refine WC_region ?_
    refine T0_q (v := (.int .i64 x51)) rfl (yl_move hs52) ?_
    refine T0_q (v := (.int .i64 x51)) rfl (yl_assign rfl) ?_
    refine T0_nil ?_
    refine hK69 _ _ ?_
    refine WC_ret ?_
    replace h := some_out h
    subst h
    exact ⟨[(.int .i64 x51)], ⟨rfl, trivial⟩, e50, rfl⟩

noncomputable def locate_Counted_1_spec (p_n : Int) : Option Bool :=
  (Option.bind (locate_within_spec p_n 0 3) fun r3 =>
  some (!r3)
  )
theorem locate_Counted_1_ok (L : List Value) (w : World) (hL : LtL L w) (p_n : Int) (r : Bool) (h : locate_Counted_1_spec p_n = some r) :
    CallsTo Tryd.prog 94 [(.int .i64 p_n)] w (fun v w' => Ext w w' ∧ (.bool r) = v) := by
  have e0 : Ext w w := Chg.refl _ _
  refine callsTo_of_WC (n := 6) (rs := [.tmp 2]) Tryd.func94 rfl rfl rfl rfl rfl ?_
  refine WC_seqK fun K1 hK1 => ?_
  refine WC_region ?_
  refine T0_q (v := (.bool false)) rfl (yl_assign rfl) ?_
  refine T0_nil ?_
  refine hK1 _ _ ?_
  refine WC_seqK fun K2 hK2 => ?_
  refine WC_region ?_
  refine T0_q (v := (.int .i64 p_n)) rfl (yl_move rfl) ?_
  obtain ⟨r3, hr4, h⟩ := bind_elim h
  refine T0_e rfl (eff_call Tryd.func86 nm86 rfl (ev3 rfl rfl rfl) (locate_within_ok [] _ (LtL.nil _) p_n 0 3 r3 hr4) ?_)
  rintro _ wd5 ⟨he6, rfl⟩
  have e7 := e0.trans he6
  refine T0_q (v := (.bool (!r3))) rfl (yl_not rfl) ?_
  refine T0_q (v := (.bool (!r3))) rfl (yl_assign rfl) ?_
  refine T0_nil ?_
  refine hK2 _ _ ?_
  refine WC_ret ?_
  replace h := some_out h
  subst h
  exact ⟨[(.bool (!r3))], ⟨rfl, trivial⟩, e7, rfl⟩

noncomputable def locate_only_int_spec (p_l : (List Int)) (p_e : Int) : Option (Int × Int) :=
  (Option.bind (locate_unless_spec (decide (0 < (p_l.length : Int))) 12) fun r6 =>
  (Option.bind (locate_unless_spec (decide ((p_l.length : Int) ≤ 1)) 29) fun r11 =>
  (Option.bind (locate_first_spec ([p_e, r6, r11] : List Int)) fun r24 =>
  (bif (decide (r24 = 0)) then (
    (Option.bind (idx p_l 0) fun el34 =>
    some (el34, r24)
    )
  ) else (
    some (0, r24)
  ))
  )
  )
  )
theorem locate_only_int_ok (L : List Value) (w : World) (hL : LtL L w) (v_p_l : Value) (p_l : (List Int)) (h_p_l : SlRd L w v_p_l p_l) (p_e : Int) (r : Int × Int) (h : locate_only_int_spec p_l p_e = some r) :
    CallsTo Tryd.prog 95 [v_p_l, (.int .i64 p_e)] w (fun v w' => Ext w w' ∧ (.tuple #[(.int .i64 r.1), (.int .i64 r.2)]) = v) := by
  have e0 : Ext w w := Chg.refl _ _
  refine callsTo_of_WC (n := 27) (rs := [.tmp 4, .tmp 5]) Tryd.func95 rfl rfl rfl rfl rfl ?_
  refine WC_seqK fun K2 hK2 => ?_
  refine WC_region ?_
  refine T0_q (v := (.int .i64 0)) rfl (yl_assign rfl) ?_
  refine T0_q (v := (.int .i64 0)) rfl (yl_assign rfl) ?_
  refine T0_nil ?_
  refine hK2 _ _ ?_
  refine WC_seqK fun K3 hK3 => ?_
  refine WC_region ?_
  refine T0_q (v := (.int .i64 0)) rfl (yl_assign rfl) ?_
  refine T0_nil ?_
  refine hK3 _ _ ?_
  refine WC_seqK fun K4 hK4 => ?_
  refine WC_seqK fun K5 hK5 => ?_
  refine WC_region ?_
  refine T0_q (v := (.int .i64 p_e)) rfl (yl_move rfl) ?_
  refine T0_q (v := v_p_l) rfl (yl_move rfl) ?_
  refine T0_q (v := (.int .i64 (p_l.length : Int))) rfl (yl_lenR rfl Tryd.underlying22 h_p_l rfl) ?_
  refine T0_q (v := (.bool (decide (0 < (p_l.length : Int))))) rfl (yl_gtr rfl rfl) ?_
  obtain ⟨r6, hr7, h⟩ := bind_elim h
  refine T0_e rfl (eff_call Tryd.func85 nm85 rfl (ev2 rfl rfl) (locate_unless_ok [] _ (LtL.nil _) (decide (0 < (p_l.length : Int))) 12 r6 hr7) ?_)
  rintro _ wd8 ⟨he9, rfl⟩
  have e10 := e0.trans he9
  refine T0_q (v := v_p_l) rfl (yl_move rfl) ?_
  refine T0_q (v := (.int .i64 (p_l.length : Int))) rfl (yl_lenR rfl Tryd.underlying22 h_p_l rfl) ?_
  refine T0_q (v := (.bool (decide ((p_l.length : Int) ≤ 1)))) rfl (yl_leq rfl rfl) ?_
  obtain ⟨r11, hr12, h⟩ := bind_elim h
  refine T0_e rfl (eff_call Tryd.func85 nm85 rfl (ev2 rfl rfl) (locate_unless_ok [] _ (LtL.nil _) (decide ((p_l.length : Int) ≤ 1)) 29 r11 hr12) ?_)
  rintro _ wd13 ⟨he14, rfl⟩
  have e15 := he9.trans he14
  have e16 := e10.trans he14
  refine T0_e rfl (eff_buildTC (xs := ([p_e, r6, r11] : List Int)) (cells := [(.int .i64 p_e), (.int .i64 r6), (.int .i64 r11)]) Tryd.underlying164 ei30 rfl (pc_cons rfl rfl (pc_cons rfl rfl (pc_cons rfl rfl pc_nil))) rfl (Elems.cons (cs := [(.int .i64 p_e)]) rfl (Elems.cons (cs := [(.int .i64 r6)]) rfl (Elems.cons (cs := [(.int .i64 r11)]) rfl Elems.nil))) rfl (hL.chg e16) ?_)
  intro b20 wd17 he18 h19
  have e21 := e15.trans he18
  have e22 := e16.trans he18
  obtain ⟨r24, hr25, h⟩ := bind_elim h
  refine T0_e rfl (eff_call Tryd.func84 nm84 rfl (ev1 rfl) (locate_first_ok [] _ (LtL.nil _) (.slice (some ⟨b20, 0, none⟩) 3 3) ([p_e, r6, r11] : List Int) (h19.sub (fun _ h => by cases h)) r24 hr25) ?_)
  rintro _ wd26 ⟨he27, rfl⟩
  have e28 := e21.trans he27
  have e29 := e22.trans he27
  refine T0_q (v := (.int .i64 r24)) rfl (yl_assign rfl) ?_
  refine T0_nil ?_
  refine hK5 _ _ ?_
  refine WC_seqK fun K30 hK30 => ?_
  refine WC_region ?_
  refine T0_q (v := (.int .i64 r24)) rfl (yl_move rfl) ?_
  refine T0_nil ?_
  refine hK30 _ _ ?_
  refine WC_block ?_
  refine WC_seqK fun K31 hK31 => ?_
  refine WC_region ?_
  refine T0_q (v := (.bool (decide (r24 = 0)))) rfl (yl_eql rfl rfl) ?_
  refine T0_q (v := (.bool (decide (r24 = 0)))) rfl (yl_assign rfl) ?_
  refine T0_nil ?_
  refine hK31 _ _ ?_
  refine WC_cond (b := (decide (r24 = 0))) rfl (fun hb32 => ?_) (fun hb32 => ?_)
  · replace h := cond_t hb32 h
    refine WC_seqK fun K33 hK33 => ?_
    refine WC_region ?_
    refine T0_q (v := v_p_l) rfl (yl_move rfl) ?_
    obtain ⟨el34, hel35, h⟩ := bind_elim h
    obtain ⟨cs36, hat37, hrd38⟩ := SlRd.at h_p_l hel35
    have hrd38 : cs36 = [(.int .i64 el34)] := hrd38
    subst hrd38
    refine T0_q (v := (.pointer (some (elemAddr v_p_l (0 : Int).toNat 1)))) rfl (yl_indexAddr Tryd.underlying22 sz3 h_p_l hel35 rfl rfl) ?_
    refine T0_q (v := (.int .i64 el34)) rfl (yl_load sc3 rfl (hat37.ext' e28)) ?_
    refine T0_q (v := (.int .i64 r24)) rfl (yl_move rfl) ?_
    refine T0_q (v := (.int .i64 el34)) rfl (yl_assign rfl) ?_
    refine T0_q (v := (.int .i64 r24)) rfl (yl_assign rfl) ?_
    refine T0_nil ?_
    refine hK33 _ _ ?_
    refine WC_ret ?_
    replace h := some_out h
    subst h
    exact ⟨[(.int .i64 el34), (.int .i64 r24)], ⟨rfl, rfl, trivial⟩, e29, rfl⟩
  · replace h := cond_f hb32 h
    refine WC_skip ?_
    refine hK4 _ _ ?_
    refine WC_seqK fun K40 hK40 => ?_
    refine WC_region ?_
    refine T0_q (v := (.int .i64 0)) rfl (yl_move rfl) ?_
    refine T0_q (v := (.int .i64 r24)) rfl (yl_move rfl) ?_
    refine T0_q (v := (.int .i64 0)) rfl (yl_assign rfl) ?_
    refine T0_q (v := (.int .i64 r24)) rfl (yl_assign rfl) ?_
    refine T0_nil ?_
    refine hK40 _ _ ?_
    refine WC_ret ?_
    replace h := some_out h
    subst h
    exact ⟨[(.int .i64 0), (.int .i64 r24)], ⟨rfl, rfl, trivial⟩, e29, rfl⟩

noncomputable def ref04_isSeen_spec (p_n : Int) : Option Bool :=
  (Option.bind (base_Within_spec p_n 0 2) fun r3 =>
  some r3
  )
theorem ref04_isSeen_ok (L : List Value) (w : World) (hL : LtL L w) (p_n : Int) (r : Bool) (h : ref04_isSeen_spec p_n = some r) :
    CallsTo Tryd.prog 96 [(.int .i64 p_n)] w (fun v w' => Ext w w' ∧ (.bool r) = v) := by
  have e0 : Ext w w := Chg.refl _ _
  refine callsTo_of_WC (n := 5) (rs := [.tmp 2]) Tryd.func96 rfl rfl rfl rfl rfl ?_
  refine WC_seqK fun K1 hK1 => ?_
  refine WC_region ?_
  refine T0_q (v := (.bool false)) rfl (yl_assign rfl) ?_
  refine T0_nil ?_
  refine hK1 _ _ ?_
  refine WC_seqK fun K2 hK2 => ?_
  refine WC_region ?_
  refine T0_q (v := (.int .i64 p_n)) rfl (yl_move rfl) ?_
  obtain ⟨r3, hr4, h⟩ := bind_elim h
  refine T0_e rfl (eff_call Tryd.func35 nm35 rfl (ev3 rfl rfl rfl) (base_Within_ok [] _ (LtL.nil _) p_n 0 2 r3 hr4) ?_)
  rintro _ wd5 ⟨he6, rfl⟩
  have e7 := e0.trans he6
  refine T0_q (v := (.bool r3)) rfl (yl_assign rfl) ?_
  refine T0_nil ?_
  refine hK2 _ _ ?_
  refine WC_ret ?_
  replace h := some_out h
  subst h
  exact ⟨[(.bool r3)], ⟨rfl, trivial⟩, e7, rfl⟩

noncomputable def locate_isBit_spec (p_n : Int) : Option Bool :=
  some ((decide (p_n = 0)) || (decide (p_n = 1)))
theorem locate_isBit_ok (L : List Value) (w : World) (hL : LtL L w) (p_n : Int) (r : Bool) (h : locate_isBit_spec p_n = some r) :
    CallsTo Tryd.prog 99 [(.int .i64 p_n)] w (fun v w' => Ext w w' ∧ (.bool r) = v) := by
  have e0 : Ext w w := Chg.refl _ _
  refine callsTo_of_WC (n := 9) (rs := [.tmp 2]) Tryd.func99 rfl rfl rfl rfl rfl ?_
  refine WC_seqK fun K1 hK1 => ?_
  refine WC_region ?_
  refine T0_q (v := (.bool false)) rfl (yl_assign rfl) ?_
  refine T0_nil ?_
  refine hK1 _ _ ?_
  refine WC_seqK fun K2 hK2 => ?_
  refine WC_region ?_
  refine T0_q (v := (.int .i64 p_n)) rfl (yl_move rfl) ?_
  refine T0_q (v := (.bool (decide (p_n = 0)))) rfl (yl_eql rfl rfl) ?_
  refine T0_q (v := (.bool (decide (p_n = 0)))) rfl (yl_move rfl) ?_
  refine T0_g (v := (.int .i64 p_n)) (!(decide (p_n = 0))) (wanted_f rfl rfl rfl rfl) (fun hg => (yl_move rfl)) ?_
  refine T0_g (v := (.bool (decide (p_n = 1)))) (!(decide (p_n = 0))) (wanted_f rfl rfl rfl rfl) (fun hg => (yl_eql (gd_true hg) rfl)) ?_
  refine T0_q (v := (.bool ((decide (p_n = 0)) || (decide (p_n = 1))))) rfl (yl_or rfl rfl (fun hb => (gd_true (not_t hb)))) ?_
  refine T0_q (v := (.bool ((decide (p_n = 0)) || (decide (p_n = 1))))) rfl (yl_assign rfl) ?_
  refine T0_nil ?_
  refine hK2 _ _ ?_
  refine WC_ret ?_
  replace h := some_out h
  subst h
  exact ⟨[(.bool ((decide (p_n = 0)) || (decide (p_n = 1))))], ⟨rfl, trivial⟩, e0, rfl⟩

noncomputable def locate_track_windows_spec (p_t : locate_track) : Option Int :=
  (bif p_t.LocateTrack.Round then (
    some (p_t.LocateTrack.Vanes.length : Int)
  ) else (
    some (w64 ((w64 ((p_t.LocateTrack.Vanes.length : Int) - p_t.LocateTrack.Window)) + 1))
  ))
theorem locate_track_windows_ok (L : List Value) (w : World) (hL : LtL L w) (cs_p_t : List Value) (p_t : locate_track) (h_p_t : Rep.rd L w cs_p_t p_t) (r : Int) (h : locate_track_windows_spec p_t = some r) :
    CallsTo Tryd.prog 101 [(.agg cs_p_t.toArray)] w (fun v w' => Ext w w' ∧ (.int .i64 r) = v) := by
  have e0 : Ext w w := Chg.refl _ _
  obtain ⟨v1, h2, rfl⟩ := h_p_t
  refine callsTo_of_WC (n := 19) (rs := [.tmp 2]) Tryd.func101 rfl rfl rfl rfl rfl ?_
  refine WC_seqK fun K4 hK4 => ?_
  refine WC_region ?_
  refine T0_e rfl (eff_boxC (cs := [v1, (.int .i64 p_t.LocateTrack.Window), (.int .i64 p_t.LocateTrack.Tooth), (.int .i64 p_t.LocateTrack.PerVane), (.int .i64 p_t.LocateTrack.First), (.int .i64 p_t.LocateTrack.Modulus), (.int .i64 p_t.LocateTrack.Slack), (.int .i64 p_t.LocateTrack.Errors), (.bool p_t.LocateTrack.Round)]) rfl rfl ?_)
  intro b5 wd6 hb7 he8 hB9
  have hbf10 := bfresh e0 hb7
  have e11 := e0.trans he8
  refine T0_q (v := (.int .i64 0)) rfl (yl_assign rfl) ?_
  refine T0_nil ?_
  refine hK4 _ _ ?_
  refine WC_seqK fun K13 hK13 => ?_
  refine WC_seqK fun K14 hK14 => ?_
  refine WC_region ?_
  refine T0_q (v := (.pointer (some ⟨b5, 0, none⟩))) rfl (yl_fa 0 Tryd.underlying130 rfl rfl ⟨8, sz24⟩ rfl rfl) ?_
  refine T0_q (v := (.pointer (some ⟨b5, 8, none⟩))) rfl (yl_fa 8 Tryd.underlying24 rfl rfl ⟨0, sz4⟩ rfl rfl) ?_
  refine T0_q (v := (.bool p_t.LocateTrack.Round)) rfl (yl_load sc4 rfl (At.drop (Box.at hB9) 8)) ?_
  refine T0_nil ?_
  refine hK14 _ _ ?_
  refine WC_cond (b := p_t.LocateTrack.Round) rfl (fun hb15 => ?_) (fun hb15 => ?_)
  · replace h := cond_t hb15 h
    refine WC_seqK fun K16 hK16 => ?_
    refine WC_region ?_
    refine T0_q (v := (.pointer (some ⟨b5, 0, none⟩))) rfl (yl_fa 0 Tryd.underlying130 rfl rfl ⟨8, sz24⟩ rfl rfl) ?_
    refine T0_q (v := (.pointer (some ⟨b5, 0, none⟩))) rfl (yl_fa 0 Tryd.underlying24 rfl rfl ⟨0, sz22⟩ rfl rfl) ?_
    refine T0_q (v := v1) rfl (yl_load sc22 rfl (Box.at hB9)) ?_
    refine T0_q (v := (.int .i64 (p_t.LocateTrack.Vanes.length : Int))) rfl (yl_lenR rfl Tryd.underlying22 h2 rfl) ?_
    refine T0_q (v := (.int .i64 (p_t.LocateTrack.Vanes.length : Int))) rfl (yl_assign rfl) ?_
    refine T0_nil ?_
    refine hK16 _ _ ?_
    refine WC_ret ?_
    replace h := some_out h
    subst h
    exact ⟨[(.int .i64 (p_t.LocateTrack.Vanes.length : Int))], ⟨rfl, trivial⟩, e11, rfl⟩
  · replace h := cond_f hb15 h
    refine WC_skip ?_
    refine hK13 _ _ ?_
    refine WC_seqK fun K17 hK17 => ?_
    refine WC_region ?_
    refine T0_q (v := (.pointer (some ⟨b5, 0, none⟩))) rfl (yl_fa 0 Tryd.underlying130 rfl rfl ⟨8, sz24⟩ rfl rfl) ?_
    refine T0_q (v := (.pointer (some ⟨b5, 0, none⟩))) rfl (yl_fa 0 Tryd.underlying24 rfl rfl ⟨0, sz22⟩ rfl rfl) ?_
    refine T0_q (v := v1) rfl (yl_load sc22 rfl (Box.at hB9)) ?_
    refine T0_q (v := (.int .i64 (p_t.LocateTrack.Vanes.length : Int))) rfl (yl_lenR rfl Tryd.underlying22 h2 rfl) ?_
    refine T0_q (v := (.pointer (some ⟨b5, 0, none⟩))) rfl (yl_fa 0 Tryd.underlying130 rfl rfl ⟨8, sz24⟩ rfl rfl) ?_
    refine T0_q (v := (.pointer (some ⟨b5, 1, none⟩))) rfl (yl_fa 1 Tryd.underlying24 rfl rfl ⟨0, sz3⟩ rfl rfl) ?_
    refine T0_q (v := (.int .i64 p_t.LocateTrack.Window)) rfl (yl_load sc3 rfl (At.drop (Box.at hB9) 1)) ?_
    refine T0_q (v := (.int .i64 (w64 ((p_t.LocateTrack.Vanes.length : Int) - p_t.LocateTrack.Window)))) rfl (yl_sub rfl rfl) ?_
    refine T0_q (v := (.int .i64 (w64 ((w64 ((p_t.LocateTrack.Vanes.length : Int) - p_t.LocateTrack.Window)) + 1)))) rfl (yl_add rfl rfl) ?_
    refine T0_q (v := (.int .i64 (w64 ((w64 ((p_t.LocateTrack.Vanes.length : Int) - p_t.LocateTrack.Window)) + 1)))) rfl (yl_assign rfl) ?_
    refine T0_nil ?_
    refine hK17 _ _ ?_
    refine WC_ret ?_
    replace h := some_out h
    subst h
    exact ⟨[(.int .i64 (w64 ((w64 ((p_t.LocateTrack.Vanes.length : Int) - p_t.LocateTrack.Window)) + 1)))], ⟨rfl, trivial⟩, e11, rfl⟩

noncomputable def locate_track_teeth_spec (p_t : locate_track) : Option Int :=
  (Option.bind (locate_track_windows_spec p_t) fun r18 =>
  some (w64 (p_t.LocateTrack.PerVane * r18))
  )
theorem locate_track_teeth_ok (L : List Value) (w : World) (hL : LtL L w) (cs_p_t : List Value) (p_t : locate_track) (h_p_t : Rep.rd L w cs_p_t p_t) (r : Int) (h : locate_track_teeth_spec p_t = some r) :
    CallsTo Tryd.prog 102 [(.agg cs_p_t.toArray)] w (fun v w' => Ext w w' ∧ (.int .i64 r) = v) := by
  have e0 : Ext w w := Chg.refl _ _
  obtain ⟨v1, h2, rfl⟩ := h_p_t
  refine callsTo_of_WC (n := 9) (rs := [.tmp 2]) Tryd.func102 rfl rfl rfl rfl rfl ?_
  refine WC_seqK fun K4 hK4 => ?_
  refine WC_region ?_
  refine T0_e rfl (eff_boxC (cs := [v1, (.int .i64 p_t.LocateTrack.Window), (.int .i64 p_t.LocateTrack.Tooth), (.int .i64 p_t.LocateTrack.PerVane), (.int .i64 p_t.LocateTrack.First), (.int .i64 p_t.LocateTrack.Modulus), (.int .i64 p_t.LocateTrack.Slack), (.int .i64 p_t.LocateTrack.Errors), (.bool p_t.LocateTrack.Round)]) rfl rfl ?_)
  intro b5 wd6 hb7 he8 hB9
  have hbf10 := bfresh e0 hb7
  have e11 := e0.trans he8
  refine T0_q (v := (.int .i64 0)) rfl (yl_assign rfl) ?_
  refine T0_nil ?_
  refine hK4 _ _ ?_
  refine WC_seqK fun K13 hK13 => ?_
  refine WC_plan mixed (.p 0 (.p 1 (.q 2 (.q 3 (.e 4 (.p 5 (.p 6 .done))))))) (by kernel_rfl) ?_
  intro wd14 he15
  have e16 := he8.trans he15
  have e17 := e11.trans he15
  refine TP_p (v := (.pointer (some ⟨b5, 0, none⟩))) rfl rfl (fun w' => (yl_fa 0 Tryd.underlying130 rfl rfl ⟨8, sz24⟩ rfl rfl)) ?_
  refine TP_p (v := (.pointer (some ⟨b5, 3, none⟩))) rfl rfl (fun w' => (yl_fa 3 Tryd.underlying24 rfl rfl ⟨0, sz3⟩ rfl rfl)) ?_
  refine TP_q (v := (.int .i64 p_t.LocateTrack.PerVane)) rfl rfl (fun w' hS => (yl_load sc3 rfl (At.drop (Box.at (hB9.ext ((he15).trans hS))) 3))) ?_
  refine TP_q (v := (.agg (List.toArray [v1, (.int .i64 p_t.LocateTrack.Window), (.int .i64 p_t.LocateTrack.Tooth), (.int .i64 p_t.LocateTrack.PerVane), (.int .i64 p_t.LocateTrack.First), (.int .i64 p_t.LocateTrack.Modulus), (.int .i64 p_t.LocateTrack.Slack), (.int .i64 p_t.LocateTrack.Errors), (.bool p_t.LocateTrack.Round)]))) rfl rfl (fun w' hS => (yl_loadA (cs := [v1, (.int .i64 p_t.LocateTrack.Window), (.int .i64 p_t.LocateTrack.Tooth), (.int .i64 p_t.LocateTrack.PerVane), (.int .i64 p_t.LocateTrack.First), (.int .i64 p_t.LocateTrack.Modulus), (.int .i64 p_t.LocateTrack.Slack), (.int .i64 p_t.LocateTrack.Errors), (.bool p_t.LocateTrack.Round)]) ag130 rfl (Box.at (hB9.ext ((he15).trans hS))))) ?_
  obtain ⟨r18, hr19, h⟩ := bind_elim h
  refine TP_e rfl rfl (eff_call Tryd.func101 nm101 rfl (ev1 rfl) (locate_track_windows_ok [] _ (LtL.nil _) [v1, (.int .i64 p_t.LocateTrack.Window), (.int .i64 p_t.LocateTrack.Tooth), (.int .i64 p_t.LocateTrack.PerVane), (.int .i64 p_t.LocateTrack.First), (.int .i64 p_t.LocateTrack.Modulus), (.int .i64 p_t.LocateTrack.Slack), (.int .i64 p_t.LocateTrack.Errors), (.bool p_t.LocateTrack.Round)] p_t ⟨v1, ((h2.ext e16).sub (fun _ h => by cases h)), rfl⟩ r18 hr19) ?_)
  rintro _ wd20 ⟨he21, rfl⟩
  have e22 := e16.trans he21
  have e23 := he15.trans he21
  have e24 := e17.trans he21
  refine ⟨he21, ?_⟩
  refine TP_p (v := (.int .i64 (w64 (p_t.LocateTrack.PerVane * r18)))) rfl rfl (fun w' => (yl_mul rfl rfl)) ?_
  refine TP_p (v := (.int .i64 (w64 (p_t.LocateTrack.PerVane * r18)))) rfl rfl (fun w' => (yl_assign rfl)) ?_
  refine TP_done ?_
  refine hK13 _ _ ?_
  refine WC_ret ?_
  replace h := some_out h
  subst h
  exact ⟨[(.int .i64 (w64 (p_t.LocateTrack.PerVane * r18)))], ⟨rfl, trivial⟩, e24, rfl⟩

noncomputable def locate_track_at_s0 (p_i : Int) (p_t : locate_track) : (Int × Int × Int × Int × Int × Int × Int × Int × Int × Int × Int × Int × Int) → Option ((Int × Int × Int × Int × Int × Int × Int × Int × Int × Int × Int × Int × Int) ⊕ (Int × Int × Int × Int × Int × Int × Int × Int × Int × Int × Int × Int)) := fun (x231, x235, x236, x237, x238, x239, x240, x241, x242, x243, x244, x245, x246) =>
  (bif (decide (x231 < p_t.LocateTrack.Window)) then (
    (Option.bind (rem (w64 (p_i + x231)) (p_t.LocateTrack.Vanes.length : Int)) fun q288 =>
    (Option.bind (idx p_t.LocateTrack.Vanes q288) fun el290 =>
    (Option.bind (idx [x235, x236, x237, x238, x239, x240, x241, x242, x243, x244, x245, x246] x231) fun el296 =>
    some (.inl (w64 (x231 + 1), (bif Nat.beq (x231 : Int).toNat 0 then el290 else x235), (bif Nat.beq (x231 : Int).toNat 1 then el290 else x236), (bif Nat.beq (x231 : Int).toNat 2 then el290 else x237), (bif Nat.beq (x231 : Int).toNat 3 then el290 else x238), (bif Nat.beq (x231 : Int).toNat 4 then el290 else x239), (bif Nat.beq (x231 : Int).toNat 5 then el290 else x240), (bif Nat.beq (x231 : Int).toNat 6 then el290 else x241), (bif Nat.beq (x231 : Int).toNat 7 then el290 else x242), (bif Nat.beq (x231 : Int).toNat 8 then el290 else x243), (bif Nat.beq (x231 : Int).toNat 9 then el290 else x244), (bif Nat.beq (x231 : Int).toNat 10 then el290 else x245), (bif Nat.beq (x231 : Int).toNat 11 then el290 else x246)))
    )
    )
    )
  ) else (
    some (.inr (x235, x236, x237, x238, x239, x240, x241, x242, x243, x244, x245, x246))
  ))
noncomputable def locate_track_at_spec (p_t : locate_track) (p_i : Int) : Option Arr12_Int :=
  (Option.bind (loop (locate_track_at_s0 p_i p_t) (0, 0, 0, 0, 0, 0, 0, 0, 0, 0, 0, 0, 0)) fun ((x258, x259, x260, x261, x262, x263, x264, x265, x266, x267, x268, x269) : Int × Int × Int × Int × Int × Int × Int × Int × Int × Int × Int × Int) =>
  some (Arr12_Int.mk x258 x259 x260 x261 x262 x263 x264 x265 x266 x267 x268 x269)
  )
theorem locate_track_at_ok (L : List Value) (w : World) (hL : LtL L w) (cs_p_t : List Value) (p_t : locate_track) (h_p_t : Rep.rd L w cs_p_t p_t) (p_i : Int) (r : Arr12_Int) (h : locate_track_at_spec p_t p_i = some r) :
    CallsTo Tryd.prog 104 [(.agg cs_p_t.toArray), (.int .i64 p_i)] w (fun v w' => Ext w w' ∧ ∃ (cs0 : List Value), (.agg cs0.toArray) = v ∧ Rep.rd L w' cs0 r) := by
  have e0 : Ext w w := Chg.refl _ _
  obtain ⟨v1, h2, rfl⟩ := h_p_t
  refine callsTo_of_WC (n := 30) (rs := [.cell 4 147]) Tryd.func104 rfl rfl rfl rfl rfl ?_
  refine WC_seqK fun K4 hK4 => ?_
  refine WC_region ?_
  refine T0_e rfl (eff_boxC (cs := [v1, (.int .i64 p_t.LocateTrack.Window), (.int .i64 p_t.LocateTrack.Tooth), (.int .i64 p_t.LocateTrack.PerVane), (.int .i64 p_t.LocateTrack.First), (.int .i64 p_t.LocateTrack.Modulus), (.int .i64 p_t.LocateTrack.Slack), (.int .i64 p_t.LocateTrack.Errors), (.bool p_t.LocateTrack.Round)]) rfl rfl ?_)
  intro b5 wd6 hb7 he8 hB9
  have hbf10 := bfresh e0 hb7
  have e11 := e0.trans he8
  refine T0_e rfl (eff_allocZ zi147 ?_)
  intro b13 wd14 hb15 he16 hB17
  have hn18 : b13 ≠ b5 := box_ne hB9 hb15
  have hbf19 := bfresh e11 hb15
  have h20 := (h2.ext he8).step (add_box he16 hb15)
  have e21 := e11.trans he16
  refine T0_nil ?_
  refine hK4 _ _ ?_
  refine WC_seqK fun K23 hK23 => ?_
  refine WC_region ?_
  refine T0_e rfl (eff_allocZ zi147 ?_)
  intro b24 wd25 hb26 he27 hB28
  have hn29 : b24 ≠ b5 := box_ne (hB9.ext he16) hb26
  have hn30 : b24 ≠ b13 := box_ne hB17 hb26
  have hbf31 := bfresh e21 hb26
  have h32 := h20.step (add_box he27 hb26)
  have e33 := he16.trans he27
  have e34 := e21.trans he27
  refine T0_nil ?_
  refine hK23 _ _ ?_
  refine WC_seqK fun K36 hK36 => ?_
  refine WC_seqK fun K37 hK37 => ?_
  refine WC_region ?_
  refine T0_q (v := (.pointer (some ⟨b5, 0, none⟩))) rfl (yl_fa 0 Tryd.underlying130 rfl rfl ⟨8, sz24⟩ rfl rfl) ?_
  refine T0_q (v := (.pointer (some ⟨b5, 1, none⟩))) rfl (yl_fa 1 Tryd.underlying24 rfl rfl ⟨0, sz3⟩ rfl rfl) ?_
  refine T0_q (v := (.int .i64 p_t.LocateTrack.Window)) rfl (yl_load sc3 rfl (At.drop (Box.at (hB9.ext e33)) 1)) ?_
  refine T0_q (v := (.int .i64 0)) rfl (yl_move rfl) ?_
  refine T0_nil ?_
  refine hK37 _ _ ?_
  obtain ⟨o272, hl273, hn274⟩ := bind_elim h
  refine WC_post (fun (ρ : Env) (wd252 : World) => ∃ (x258 : Int) (x259 : Int) (x260 : Int) (x261 : Int) (x262 : Int) (x263 : Int) (x264 : Int) (x265 : Int) (x266 : Int) (x267 : Int) (x268 : Int) (x269 : Int), (x258, x259, x260, x261, x262, x263, x264, x265, x266, x267, x268, x269) = o272 ∧ ρ 4 = (.pointer (some ⟨b13, 0, none⟩)) ∧ ρ 5 = (.pointer (some ⟨b24, 0, none⟩)) ∧ Box wd252 b13 [(.int .i64 0), (.int .i64 0), (.int .i64 0), (.int .i64 0), (.int .i64 0), (.int .i64 0), (.int .i64 0), (.int .i64 0), (.int .i64 0), (.int .i64 0), (.int .i64 0), (.int .i64 0)] 147 ∧ Box wd252 b24 [(.int .i64 x258), (.int .i64 x259), (.int .i64 x260), (.int .i64 x261), (.int .i64 x262), (.int .i64 x263), (.int .i64 x264), (.int .i64 x265), (.int .i64 x266), (.int .i64 x267), (.int .i64 x268), (.int .i64 x269)] 147 ∧ Ext w wd252) ?_ ?_
  · intro K278 hK278
    refine WC_block ?_
    refine WC_loopk (fun sv ρ wd224 => ∃ (x231 : Int) (x235 : Int) (x236 : Int) (x237 : Int) (x238 : Int) (x239 : Int) (x240 : Int) (x241 : Int) (x242 : Int) (x243 : Int) (x244 : Int) (x245 : Int) (x246 : Int), (x231, x235, x236, x237, x238, x239, x240, x241, x242, x243, x244, x245, x246) = sv ∧ ρ 1 = (.int .i64 p_i) ∧ ρ 2 = (.pointer (some ⟨b5, 0, none⟩)) ∧ ρ 4 = (.pointer (some ⟨b13, 0, none⟩)) ∧ ρ 5 = (.pointer (some ⟨b24, 0, none⟩)) ∧ ρ 9 = (.int .i64 p_t.LocateTrack.Window) ∧ ρ 10 = (.int .i64 x231) ∧ SlRd ((.pointer (some ⟨b24, 0, none⟩)) :: (.pointer (some ⟨b13, 0, none⟩)) :: L) wd224 v1 p_t.LocateTrack.Vanes ∧ Box wd224 b13 [(.int .i64 0), (.int .i64 0), (.int .i64 0), (.int .i64 0), (.int .i64 0), (.int .i64 0), (.int .i64 0), (.int .i64 0), (.int .i64 0), (.int .i64 0), (.int .i64 0), (.int .i64 0)] 147 ∧ Box wd224 b24 [(.int .i64 x235), (.int .i64 x236), (.int .i64 x237), (.int .i64 x238), (.int .i64 x239), (.int .i64 x240), (.int .i64 x241), (.int .i64 x242), (.int .i64 x243), (.int .i64 x244), (.int .i64 x245), (.int .i64 x246)] 147 ∧ Box wd224 b5 [v1, (.int .i64 p_t.LocateTrack.Window), (.int .i64 p_t.LocateTrack.Tooth), (.int .i64 p_t.LocateTrack.PerVane), (.int .i64 p_t.LocateTrack.First), (.int .i64 p_t.LocateTrack.Modulus), (.int .i64 p_t.LocateTrack.Slack), (.int .i64 p_t.LocateTrack.Errors), (.bool p_t.LocateTrack.Round)] 130 ∧ Ext w wd224) hl273 ⟨0, 0, 0, 0, 0, 0, 0, 0, 0, 0, 0, 0, 0, rfl, rfl, rfl, rfl, rfl, rfl, rfl, h32, (hB17.ext he27), hB28, (hB9.ext e33), e34⟩ ?_
    rintro _ ρ wd224 ⟨x231, x235, x236, x237, x238, x239, x240, x241, x242, x243, x244, x245, x246, rfl, hs226, hs227, hs228, hs229, hs230, hs232, h249, hB234, hB248, hB251, e225⟩ x275 h hx276 K277 hK277
    refine WC_seqK fun K280 hK280 => ?_
    refine WC_region ?_
    refine T0_q (v := (.bool (decide (x231 < p_t.LocateTrack.Window)))) rfl (yl_lss hs232 hs230) ?_
    refine T0_nil ?_
    refine hK280 _ _ ?_
    refine WC_seqK fun K281 hK281 => ?_
    refine WC_cond (b := (decide (x231 < p_t.LocateTrack.Window))) rfl (fun hb282 => ?_) (fun hb282 => ?_)
    · replace h := cond_t hb282 h
      refine WC_skip ?_
      refine hK281 _ _ ?_
      refine WC_seqK fun K283 hK283 => ?_
      refine WC_block ?_
      refine WC_seqK fun K284 hK284 => ?_
      refine WC_region ?_
      refine T0_q (v := (.int .i64 x231)) rfl (yl_move hs232) ?_
      refine T0_q (v := (.int .i64 x231)) rfl (yl_assign rfl) ?_
      refine T0_nil ?_
      refine hK284 _ _ ?_
      refine WC_plan mixed (.p 0 (.p 1 (.p 2 (.p 4 (.p 5 (.p 6 (.p 7 (.p 8 (.q 3 (.q 9 (.p 10 (.p 11 (.p 12 (.q 13 (.p 14 (.b 15 .done)))))))))))))))) (by kernel_rfl) ?_
      intro wd285 he286
      have e287 := e225.trans he286
      refine TP_p (v := (.int .i64 x231)) rfl rfl (fun w' => (yl_move rfl)) ?_
      refine TP_p (v := (.pointer (some ⟨b5, 0, none⟩))) rfl rfl (fun w' => (yl_fa 0 Tryd.underlying130 rfl rfl ⟨8, sz24⟩ hs227 rfl)) ?_
      refine TP_p (v := (.pointer (some ⟨b5, 0, none⟩))) rfl rfl (fun w' => (yl_fa 0 Tryd.underlying24 rfl rfl ⟨0, sz22⟩ rfl rfl)) ?_
      refine TP_p (v := (.int .i64 p_i)) rfl rfl (fun w' => (yl_move hs226)) ?_
      refine TP_p (v := (.int .i64 x231)) rfl rfl (fun w' => (yl_move rfl)) ?_
      refine TP_p (v := (.int .i64 (w64 (p_i + x231)))) rfl rfl (fun w' => (yl_add rfl rfl)) ?_
      refine TP_p (v := (.pointer (some ⟨b5, 0, none⟩))) rfl rfl (fun w' => (yl_fa 0 Tryd.underlying130 rfl rfl ⟨8, sz24⟩ hs227 rfl)) ?_
      refine TP_p (v := (.pointer (some ⟨b5, 0, none⟩))) rfl rfl (fun w' => (yl_fa 0 Tryd.underlying24 rfl rfl ⟨0, sz22⟩ rfl rfl)) ?_
      refine TP_q (v := v1) rfl rfl (fun w' hS => (yl_load sc22 rfl (Box.at (hB251.ext ((he286).trans hS))))) ?_
      refine TP_q (v := v1) rfl rfl (fun w' hS => (yl_load sc22 rfl (Box.at (hB251.ext ((he286).trans hS))))) ?_
      refine TP_p (v := (.int .i64 (p_t.LocateTrack.Vanes.length : Int))) rfl rfl (fun w' => (yl_lenR rfl Tryd.underlying22 h249 rfl)) ?_
      obtain ⟨q288, hq289, h⟩ := bind_elim h
      refine TP_p (v := (.int .i64 q288)) rfl rfl (fun w' => (yl_rem' hq289 rfl rfl)) ?_
      obtain ⟨el290, hel291, h⟩ := bind_elim h
      obtain ⟨cs292, hat293, hrd294⟩ := SlRd.at h249 hel291
      have hrd294 : cs292 = [(.int .i64 el290)] := hrd294
      subst hrd294
      refine TP_p (v := (.pointer (some (elemAddr v1 (q288 : Int).toNat 1)))) rfl rfl (fun w' => (yl_indexAddr Tryd.underlying22 sz3 h249 hel291 rfl rfl)) ?_
      refine TP_q (v := (.int .i64 el290)) rfl rfl (fun w' hS => (yl_load sc3 rfl (hat293.ext' ((he286).trans hS)))) ?_
      obtain ⟨el296, hel297, h⟩ := bind_elim h
      refine TP_p (v := (.pointer (some (Addr.add ⟨b24, 0, none⟩ ((x231 : Int).toNat * 1))))) rfl rfl (fun w' => (yl_indexAddrA Tryd.underlying147 sz3 (idx_some hel297).1 (glob_lt (xs := [x235, x236, x237, x238, x239, x240, x241, x242, x243, x244, x245, x246]) hel297) hs229 rfl)) ?_
      refine TP_b rfl rfl (eff_storeI (xs := [x235, x236, x237, x238, x239, x240, x241, x242, x243, x244, x245, x246]) (ys := [(bif Nat.beq (x231 : Int).toNat 0 then el290 else x235), (bif Nat.beq (x231 : Int).toNat 1 then el290 else x236), (bif Nat.beq (x231 : Int).toNat 2 then el290 else x237), (bif Nat.beq (x231 : Int).toNat 3 then el290 else x238), (bif Nat.beq (x231 : Int).toNat 4 then el290 else x239), (bif Nat.beq (x231 : Int).toNat 5 then el290 else x240), (bif Nat.beq (x231 : Int).toNat 6 then el290 else x241), (bif Nat.beq (x231 : Int).toNat 7 then el290 else x242), (bif Nat.beq (x231 : Int).toNat 8 then el290 else x243), (bif Nat.beq (x231 : Int).toNat 9 then el290 else x244), (bif Nat.beq (x231 : Int).toNat 10 then el290 else x245), (bif Nat.beq (x231 : Int).toNat 11 then el290 else x246)]) sz3 rfl rfl hel297 rfl (hB248.ext he286) rfl ?_)
      intro wd298 hc299 hB300
      have h301 := (hB234.ext he286).chg hc299 (avoidb hn30)
      have h302 := (h249.ext he286).step (Stepp.chg_mem hc299 mem0)
      have h303 := (hB251.ext he286).chg hc299 (avoidb hn29)
      have e304 := chg_box e287 hc299 hbf31
      refine TP_done ?_
      refine hK283 _ _ ?_
      refine WC_region ?_
      refine T0_q (v := (.int .i64 (w64 (x231 + 1)))) rfl (yl_add hs232 rfl) ?_
      refine T0_q (v := (.int .i64 (w64 (x231 + 1)))) rfl (yl_move rfl) ?_
      refine T0_nil ?_
      replace h := some_out h
      subst h
      refine hK277 _ _ _ rfl ?_
      exact ⟨w64 (x231 + 1), (bif Nat.beq (x231 : Int).toNat 0 then el290 else x235), (bif Nat.beq (x231 : Int).toNat 1 then el290 else x236), (bif Nat.beq (x231 : Int).toNat 2 then el290 else x237), (bif Nat.beq (x231 : Int).toNat 3 then el290 else x238), (bif Nat.beq (x231 : Int).toNat 4 then el290 else x239), (bif Nat.beq (x231 : Int).toNat 5 then el290 else x240), (bif Nat.beq (x231 : Int).toNat 6 then el290 else x241), (bif Nat.beq (x231 : Int).toNat 7 then el290 else x242), (bif Nat.beq (x231 : Int).toNat 8 then el290 else x243), (bif Nat.beq (x231 : Int).toNat 9 then el290 else x244), (bif Nat.beq (x231 : Int).toNat 10 then el290 else x245), (bif Nat.beq (x231 : Int).toNat 11 then el290 else x246), rfl, hs226, hs227, hs228, hs229, hs230, rfl, h302, h301, hB300, h303, e304⟩
    · replace h := cond_f hb282 h
      refine WC_exit ?_
      replace h := some_out h
      subst h
      have ho := hx276 _ rfl
      subst ho
      refine hK278 _ _ ?_
      exact ⟨x235, x236, x237, x238, x239, x240, x241, x242, x243, x244, x245, x246, rfl, hs228, hs229, hB234, hB248, e225⟩
  · rintro ρ wd252 ⟨x258, x259, x260, x261, x262, x263, x264, x265, x266, x267, x268, x269, rfl, hs254, hs255, hB257, hB271, e253⟩
    replace h := hn274
    refine hK36 _ _ ?_
    refine WC_seqK fun K305 hK305 => ?_
    refine WC_region ?_
    refine T0_q (v := (.agg (List.toArray [(.int .i64 x258), (.int .i64 x259), (.int .i64 x260), (.int .i64 x261), (.int .i64 x262), (.int .i64 x263), (.int .i64 x264), (.int .i64 x265), (.int .i64 x266), (.int .i64 x267), (.int .i64 x268), (.int .i64 x269)]))) rfl (yl_loadA (cs := [(.int .i64 x258), (.int .i64 x259), (.int .i64 x260), (.int .i64 x261), (.int .i64 x262), (.int .i64 x263), (.int .i64 x264), (.int .i64 x265), (.int .i64 x266), (.int .i64 x267), (.int .i64 x268), (.int .i64 x269)]) ag147 hs255 (Box.at hB271)) ?_
    refine T0_e rfl (eff_storeC (vs := [(.int .i64 x258), (.int .i64 x259), (.int .i64 x260), (.int .i64 x261), (.int .i64 x262), (.int .i64 x263), (.int .i64 x264), (.int .i64 x265), (.int .i64 x266), (.int .i64 x267), (.int .i64 x268), (.int .i64 x269)]) (cs' := [(.int .i64 x258), (.int .i64 x259), (.int .i64 x260), (.int .i64 x261), (.int .i64 x262), (.int .i64 x263), (.int .i64 x264), (.int .i64 x265), (.int .i64 x266), (.int .i64 x267), (.int .i64 x268), (.int .i64 x269)]) sz147 rfl rfl hs254 rfl hB257 rfl (oc_cons rfl (oc_cons rfl (oc_cons rfl (oc_cons rfl (oc_cons rfl (oc_cons rfl (oc_cons rfl (oc_cons rfl (oc_cons rfl (oc_cons rfl (oc_cons rfl (oc_cons rfl oc_nil)))))))))))) rfl ?_)
    intro wd306 hc307 hB308
    have h309 := hB271.chg hc307 (avoidb hn30.symm)
    have e310 := chg_box e253 hc307 hbf19
    refine T0_nil ?_
    refine hK305 _ _ ?_
    refine WC_ret ?_
    replace h := some_out h
    subst h
    exact ⟨[(.agg (List.toArray [(.int .i64 x258), (.int .i64 x259), (.int .i64 x260), (.int .i64 x261), (.int .i64 x262), (.int .i64 x263), (.int .i64 x264), (.int .i64 x265), (.int .i64 x266), (.int .i64 x267), (.int .i64 x268), (.int .i64 x269)]))], ⟨⟨_, hs254, run_loadVarA (cs := [(.int .i64 x258), (.int .i64 x259), (.int .i64 x260), (.int .i64 x261), (.int .i64 x262), (.int .i64 x263), (.int .i64 x264), (.int .i64 x265), (.int .i64 x266), (.int .i64 x267), (.int .i64 x268), (.int .i64 x269)]) ag147 (Box.at hB308)⟩, trivial⟩, e310, [(.int .i64 x258), (.int .i64 x259), (.int .i64 x260), (.int .i64 x261), (.int .i64 x262), (.int .i64 x263), (.int .i64 x264), (.int .i64 x265), (.int .i64 x266), (.int .i64 x267), (.int .i64 x268), (.int .i64 x269)], rfl, rfl⟩

noncomputable def ref04_IsFused_s0 (p_l : (List Range)) (p_place : Int) : (Int × Int) → Option ((Int × Int) ⊕ (Int)) := fun (x121, x123) =>
  (bif (decide (x123 < (p_l.length : Int))) then (
    (Option.bind (idx p_l x123) fun el148 =>
    (Option.bind (idx p_l x123) fun el154 =>
    (Option.bind (base_Within_spec p_place el148.Lo el154.Hi) fun r160 =>
    (bif r160 then (
      some (.inl (w64 (x121 + 1), w64 (x123 + 1)))
    ) else (
      some (.inl (x121, w64 (x123 + 1)))
    ))
    )
    )
    )
  ) else (
    some (.inr x121)
  ))
noncomputable def ref04_IsFused_spec (p_l : (List Range)) (p_wrong : Int) (p_place : Int) : Option Bool :=
  (Option.bind (loop (ref04_IsFused_s0 p_l p_place) (0, 0)) fun (x130 : Int) =>
  some (decide (w64 ((p_l.length : Int) - p_wrong) ≤ x130))
  )
theorem ref04_IsFused_ok (L : List Value) (w : World) (hL : LtL L w) (v_p_l : Value) (p_l : (List Range)) (h_p_l : SlRd L w v_p_l p_l) (p_wrong : Int) (p_place : Int) (r : Bool) (h : ref04_IsFused_spec p_l p_wrong p_place = some r) :
    CallsTo Tryd.prog 113 [v_p_l, (.int .i64 p_wrong), (.int .i64 p_place)] w (fun v w' => Ext w w' ∧ (.bool r) = v) := by
  have e0 : Ext w w := Chg.refl _ _
  refine callsTo_of_WC (n := 35) (rs := [.tmp 6]) Tryd.func113 rfl rfl rfl rfl rfl ?_
  refine WC_seqK fun K2 hK2 => ?_
  refine WC_region ?_
  refine T0_q (v := (.bool false)) rfl (yl_assign rfl) ?_
  refine T0_nil ?_
  refine hK2 _ _ ?_
  refine WC_seqK fun K3 hK3 => ?_
  refine WC_region ?_
  refine T0_q (v := (.int .i64 0)) rfl (yl_assign rfl) ?_
  refine T0_nil ?_
  refine hK3 _ _ ?_
  refine WC_seqK fun K4 hK4 => ?_
  refine WC_seqK fun K5 hK5 => ?_
  refine WC_region ?_
  refine T0_q (v := (.int .i64 0)) rfl (yl_assign rfl) ?_
  refine T0_nil ?_
  refine hK5 _ _ ?_
  obtain ⟨o132, hl133, hn134⟩ := bind_elim h
  refine WC_post (fun (ρ : Env) (wd125 : World) => ∃ (x130 : Int), x130 = o132 ∧ ρ 0 = v_p_l ∧ ρ 1 = (.int .i64 p_wrong) ∧ ρ 7 = (.int .i64 x130) ∧ SlRd L wd125 v_p_l p_l ∧ Ext w wd125) ?_ ?_
  · intro K138 hK138
    refine WC_block ?_
    refine WC_loopk (fun sv ρ wd115 => ∃ (x121 : Int) (x123 : Int), (x121, x123) = sv ∧ ρ 0 = v_p_l ∧ ρ 1 = (.int .i64 p_wrong) ∧ ρ 2 = (.int .i64 p_place) ∧ ρ 7 = (.int .i64 x121) ∧ ρ 8 = (.int .i64 x123) ∧ SlRd L wd115 v_p_l p_l ∧ Ext w wd115) hl133 ⟨0, 0, rfl, rfl, rfl, rfl, rfl, rfl, h_p_l, e0⟩ ?_
    rintro _ ρ wd115 ⟨x121, x123, rfl, hs118, hs119, hs120, hs122, hs124, h117, e116⟩ x135 h hx136 K137 hK137
    refine WC_seqK fun K140 hK140 => ?_
    refine WC_seqK fun K141 hK141 => ?_
    refine WC_region ?_
    refine T0_q (v := (.int .i64 x123)) rfl (yl_move hs124) ?_
    refine T0_q (v := v_p_l) rfl (yl_move hs118) ?_
    refine T0_q (v := (.int .i64 (p_l.length : Int))) rfl (yl_lenR rfl Tryd.underlying29 h117 rfl) ?_
    refine T0_q (v := (.bool (decide (x123 < (p_l.length : Int))))) rfl (yl_lss rfl rfl) ?_
    refine T0_nil ?_
    refine hK141 _ _ ?_
    refine WC_cond (b := (decide (x123 < (p_l.length : Int)))) rfl (fun hb142 => ?_) (fun hb142 => ?_)
    · replace h := cond_t hb142 h
      refine WC_skip ?_
      refine hK140 _ _ ?_
      refine WC_seqK fun K143 hK143 => ?_
      refine WC_block ?_
      refine WC_seqK fun K144 hK144 => ?_
      refine WC_plan mixed (.p 0 (.p 1 (.p 2 (.p 3 (.p 4 (.p 6 (.p 7 (.p 8 (.p 9 (.q 5 (.q 10 (.e 11 .done)))))))))))) (by kernel_rfl) ?_
      intro wd145 he146
      have e147 := e116.trans he146
      refine TP_p (v := (.int .i64 p_place)) rfl rfl (fun w' => (yl_move hs120)) ?_
      refine TP_p (v := v_p_l) rfl rfl (fun w' => (yl_move hs118)) ?_
      refine TP_p (v := (.int .i64 x123)) rfl rfl (fun w' => (yl_move hs124)) ?_
      obtain ⟨el148, hel149, h⟩ := bind_elim h
      obtain ⟨cs150, hat151, hrd152⟩ := SlRd.at h117 hel149
      have hrd152 : cs150 = [(.int .i64 el148.Lo), (.int .i64 el148.Hi)] := hrd152
      subst hrd152
      refine TP_p (v := (.pointer (some (elemAddr v_p_l (x123 : Int).toNat 2)))) rfl rfl (fun w' => (yl_indexAddr Tryd.underlying29 sz36 h117 hel149 rfl rfl)) ?_
      refine TP_p (v := (.pointer (some (elemAddr v_p_l (x123 : Int).toNat 2)))) rfl rfl (fun w' => (yl_fa 0 Tryd.underlying36 rfl rfl ⟨0, sz3⟩ rfl rfl)) ?_
      refine TP_p (v := v_p_l) rfl rfl (fun w' => (yl_move hs118)) ?_
      refine TP_p (v := (.int .i64 x123)) rfl rfl (fun w' => (yl_move hs124)) ?_
      obtain ⟨el154, hel155, h⟩ := bind_elim h
      obtain ⟨cs156, hat157, hrd158⟩ := SlRd.at h117 hel155
      have hrd158 : cs156 = [(.int .i64 el154.Lo), (.int .i64 el154.Hi)] := hrd158
      subst hrd158
      refine TP_p (v := (.pointer (some (elemAddr v_p_l (x123 : Int).toNat 2)))) rfl rfl (fun w' => (yl_indexAddr Tryd.underlying29 sz36 h117 hel155 rfl rfl)) ?_
      refine TP_p (v := (.pointer (some (Addr.add (elemAddr v_p_l (x123 : Int).toNat 2) 1)))) rfl rfl (fun w' => (yl_fa 1 Tryd.underlying36 rfl rfl ⟨0, sz3⟩ rfl rfl)) ?_
      refine TP_q (v := (.int .i64 el148.Lo)) rfl rfl (fun w' hS => (yl_load sc3 rfl (hat151.ext' ((he146).trans hS)))) ?_
      refine TP_q (v := (.int .i64 el154.Hi)) rfl rfl (fun w' hS => (yl_load sc3 rfl (At.drop (hat157.ext' ((he146).trans hS)) 1))) ?_
      obtain ⟨r160, hr161, h⟩ := bind_elim h
      refine TP_e rfl rfl (eff_call Tryd.func35 nm35 rfl (ev3 rfl rfl rfl) (base_Within_ok [] _ (LtL.nil _) p_place el148.Lo el154.Hi r160 hr161) ?_)
      rintro _ wd162 ⟨he163, rfl⟩
      have e164 := he146.trans he163
      have e165 := e147.trans he163
      refine ⟨he163, ?_⟩
      refine TP_done ?_
      refine hK144 _ _ ?_
      refine WC_cond (b := r160) rfl (fun hb166 => ?_) (fun hb166 => ?_)
      · replace h := cond_t hb166 h
        refine WC_region ?_
        refine T0_q (v := (.int .i64 x121)) rfl (yl_move hs122) ?_
        refine T0_q (v := (.int .i64 (w64 (x121 + 1)))) rfl (yl_add rfl rfl) ?_
        refine T0_q (v := (.int .i64 (w64 (x121 + 1)))) rfl (yl_assign rfl) ?_
        refine T0_nil ?_
        refine hK143 _ _ ?_
        refine WC_region ?_
        refine T0_q (v := (.int .i64 x123)) rfl (yl_move hs124) ?_
        refine T0_q (v := (.int .i64 (w64 (x123 + 1)))) rfl (yl_add rfl rfl) ?_
        refine T0_q (v := (.int .i64 (w64 (x123 + 1)))) rfl (yl_assign rfl) ?_
        refine T0_nil ?_
        replace h := some_out h
        subst h
        refine hK137 _ _ _ rfl ?_
        exact ⟨w64 (x121 + 1), w64 (x123 + 1), rfl, hs118, hs119, hs120, rfl, rfl, (h117.ext e164), e165⟩
      · replace h := cond_f hb166 h
        refine WC_skip ?_
        refine hK143 _ _ ?_
        refine WC_region ?_
        refine T0_q (v := (.int .i64 x123)) rfl (yl_move hs124) ?_
        refine T0_q (v := (.int .i64 (w64 (x123 + 1)))) rfl (yl_add rfl rfl) ?_
        refine T0_q (v := (.int .i64 (w64 (x123 + 1)))) rfl (yl_assign rfl) ?_
        refine T0_nil ?_
        replace h := some_out h
        subst h
        refine hK137 _ _ _ rfl ?_
        exact ⟨x121, w64 (x123 + 1), rfl, hs118, hs119, hs120, hs122, rfl, (h117.ext e164), e165⟩
    · replace h := cond_f hb142 h
      refine WC_exit ?_
      replace h := some_out h
      subst h
      have ho := hx136 _ rfl
      subst ho
      refine hK138 _ _ ?_
      exact ⟨x121, rfl, hs118, hs119, hs122, h117, e116⟩
  · rintro ρ wd125 ⟨x130, rfl, hs128, hs129, hs131, h127, e126⟩
    replace h := hn134
    refine hK4 _ _ ?_
    refine WC_seqK fun K167 hK167 => ?_
    refine WC_region ?_
    refine T0_q (v := (.int .i64 x130)) rfl (yl_move hs131) ?_
    refine T0_q (v := v_p_l) rfl (yl_move hs128) ?_
    refine T0_q (v := (.int .i64 (p_l.length : Int))) rfl (yl_lenR rfl Tryd.underlying29 h127 rfl) ?_
    refine T0_q (v := (.int .i64 p_wrong)) rfl (yl_move hs129) ?_
    refine T0_q (v := (.int .i64 (w64 ((p_l.length : Int) - p_wrong)))) rfl (yl_sub rfl rfl) ?_
    refine T0_q (v := (.bool (decide (w64 ((p_l.length : Int) - p_wrong) ≤ x130)))) rfl (yl_geq rfl rfl) ?_
    refine T0_q (v := (.bool (decide (w64 ((p_l.length : Int) - p_wrong) ≤ x130)))) rfl (yl_assign rfl) ?_
    refine T0_nil ?_
    refine hK167 _ _ ?_
    refine WC_ret ?_
    replace h := some_out h
    subst h
    exact ⟨[(.bool (decide (w64 ((p_l.length : Int) - p_wrong) ≤ x130)))], ⟨rfl, trivial⟩, e126, rfl⟩

noncomputable def locate_isSeen_spec (p_n : Int) : Option Bool :=
  (Option.bind (locate_isBit_spec p_n) fun r3 =>
  some (r3 || (decide (p_n = 2)))
  )
theorem locate_isSeen_ok (L : List Value) (w : World) (hL : LtL L w) (p_n : Int) (r : Bool) (h : locate_isSeen_spec p_n = some r) :
    CallsTo Tryd.prog 114 [(.int .i64 p_n)] w (fun v w' => Ext w w' ∧ (.bool r) = v) := by
  have e0 : Ext w w := Chg.refl _ _
  refine callsTo_of_WC (n := 9) (rs := [.tmp 2]) Tryd.func114 rfl rfl rfl rfl rfl ?_
  refine WC_seqK fun K1 hK1 => ?_
  refine WC_region ?_
  refine T0_q (v := (.bool false)) rfl (yl_assign rfl) ?_
  refine T0_nil ?_
  refine hK1 _ _ ?_
  refine WC_seqK fun K2 hK2 => ?_
  refine WC_region ?_
  refine T0_q (v := (.int .i64 p_n)) rfl (yl_move rfl) ?_
  obtain ⟨r3, hr4, h⟩ := bind_elim h
  refine T0_e rfl (eff_call Tryd.func99 nm99 rfl (ev1 rfl) (locate_isBit_ok [] _ (LtL.nil _) p_n r3 hr4) ?_)
  rintro _ wd5 ⟨he6, rfl⟩
  have e7 := e0.trans he6
  refine T0_q (v := (.bool r3)) rfl (yl_move rfl) ?_
  refine T0_g (v := (.int .i64 p_n)) (!r3) (wanted_f rfl rfl rfl rfl) (fun hg => (yl_move rfl)) ?_
  refine T0_g (v := (.bool (decide (p_n = 2)))) (!r3) (wanted_f rfl rfl rfl rfl) (fun hg => (yl_eql (gd_true hg) rfl)) ?_
  refine T0_q (v := (.bool (r3 || (decide (p_n = 2))))) rfl (yl_or rfl rfl (fun hb => (gd_true (not_t hb)))) ?_
  refine T0_q (v := (.bool (r3 || (decide (p_n = 2))))) rfl (yl_assign rfl) ?_
  refine T0_nil ?_
  refine hK2 _ _ ?_
  refine WC_ret ?_
  replace h := some_out h
  subst h
  exact ⟨[(.bool (r3 || (decide (p_n = 2))))], ⟨rfl, trivial⟩, e7, rfl⟩

noncomputable def locate_window_differ_s0 (p_o : Arr12_Int) (p_w : Arr12_Int) : (Int × Int) → Option ((Int × Int) ⊕ (Int)) := fun (x88, x91) =>
  (bif (decide (x91 < 12)) then (
    (Option.bind (idx [p_w.e0, p_w.e1, p_w.e2, p_w.e3, p_w.e4, p_w.e5, p_w.e6, p_w.e7, p_w.e8, p_w.e9, p_w.e10, p_w.e11] x91) fun el112 =>
    (Option.bind (idx [p_o.e0, p_o.e1, p_o.e2, p_o.e3, p_o.e4, p_o.e5, p_o.e6, p_o.e7, p_o.e8, p_o.e9, p_o.e10, p_o.e11] x91) fun el115 =>
    (Option.bind ((bif ((!decide (el112 = el115)) && (!decide (el112 = 2))) then idx [p_o.e0, p_o.e1, p_o.e2, p_o.e3, p_o.e4, p_o.e5, p_o.e6, p_o.e7, p_o.e8, p_o.e9, p_o.e10, p_o.e11] x91 else some default)) fun el117 =>
    (bif (((!decide (el112 = el115)) && (!decide (el112 = 2))) && (!decide (el117 = 2))) then (
      some (.inl (w64 (x88 + 1), w64 (x91 + 1)))
    ) else (
      some (.inl (x88, w64 (x91 + 1)))
    ))
    )
    )
    )
  ) else (
    some (.inr x88)
  ))
noncomputable def locate_window_differ_spec (p_w : Arr12_Int) (p_o : Arr12_Int) : Option Int :=
  (Option.bind (loop (locate_window_differ_s0 p_o p_w) (0, 0)) fun (x97 : Int) =>
  some x97
  )
theorem locate_window_differ_ok (L : List Value) (w : World) (hL : LtL L w) (cs_p_w : List Value) (p_w : Arr12_Int) (h_p_w : Rep.rd L w cs_p_w p_w) (cs_p_o : List Value) (p_o : Arr12_Int) (h_p_o : Rep.rd L w cs_p_o p_o) (r : Int) (h : locate_window_differ_spec p_w p_o = some r) :
    CallsTo Tryd.prog 118 [(.agg cs_p_w.toArray), (.agg cs_p_o.toArray)] w (fun v w' => Ext w w' ∧ (.int .i64 r) = v) := by
  have e0 : Ext w w := Chg.refl _ _
  have h_p_w : cs_p_w = [(.int .i64 p_w.e0), (.int .i64 p_w.e1), (.int .i64 p_w.e2), (.int .i64 p_w.e3), (.int .i64 p_w.e4), (.int .i64 p_w.e5), (.int .i64 p_w.e6), (.int .i64 p_w.e7), (.int .i64 p_w.e8), (.int .i64 p_w.e9), (.int .i64 p_w.e10), (.int .i64 p_w.e11)] := h_p_w
  subst h_p_w
  have h_p_o : cs_p_o = [(.int .i64 p_o.e0), (.int .i64 p_o.e1), (.int .i64 p_o.e2), (.int .i64 p_o.e3), (.int .i64 p_o.e4), (.int .i64 p_o.e5), (.int .i64 p_o.e6), (.int .i64 p_o.e7), (.int .i64 p_o.e8), (.int .i64 p_o.e9), (.int .i64 p_o.e10), (.int .i64 p_o.e11)] := h_p_o
  subst h_p_o
  refine callsTo_of_WC (n := 32) (rs := [.tmp 4]) Tryd.func118 rfl rfl rfl rfl rfl ?_
  refine WC_seqK fun K1 hK1 => ?_
  refine WC_region ?_
  refine T0_e rfl (eff_boxC (cs := [(.int .i64 p_w.e0), (.int .i64 p_w.e1), (.int .i64 p_w.e2), (.int .i64 p_w.e3), (.int .i64 p_w.e4), (.int .i64 p_w.e5), (.int .i64 p_w.e6), (.int .i64 p_w.e7), (.int .i64 p_w.e8), (.int .i64 p_w.e9), (.int .i64 p_w.e10), (.int .i64 p_w.e11)]) rfl rfl ?_)
  intro b2 wd3 hb4 he5 hB6
  have hbf7 := bfresh e0 hb4
  have e8 := e0.trans he5
  refine T0_e rfl (eff_boxC (cs := [(.int .i64 p_o.e0), (.int .i64 p_o.e1), (.int .i64 p_o.e2), (.int .i64 p_o.e3), (.int .i64 p_o.e4), (.int .i64 p_o.e5), (.int .i64 p_o.e6), (.int .i64 p_o.e7), (.int .i64 p_o.e8), (.int .i64 p_o.e9), (.int .i64 p_o.e10), (.int .i64 p_o.e11)]) rfl rfl ?_)
  intro b10 wd11 hb12 he13 hB14
  have hn15 : b10 ≠ b2 := box_ne hB6 hb12
  have hbf16 := bfresh e8 hb12
  have e17 := e8.trans he13
  refine T0_q (v := (.int .i64 0)) rfl (yl_assign rfl) ?_
  refine T0_nil ?_
  refine hK1 _ _ ?_
  refine WC_seqK fun K19 hK19 => ?_
  refine WC_region ?_
  refine T0_q (v := (.int .i64 0)) rfl (yl_assign rfl) ?_
  refine T0_nil ?_
  refine hK19 _ _ ?_
  refine WC_seqK fun K20 hK20 => ?_
  refine WC_seqK fun K21 hK21 => ?_
  refine WC_region ?_
  refine T0_q (v := (.agg (List.toArray [(.int .i64 p_w.e0), (.int .i64 p_w.e1), (.int .i64 p_w.e2), (.int .i64 p_w.e3), (.int .i64 p_w.e4), (.int .i64 p_w.e5), (.int .i64 p_w.e6), (.int .i64 p_w.e7), (.int .i64 p_w.e8), (.int .i64 p_w.e9), (.int .i64 p_w.e10), (.int .i64 p_w.e11)]))) rfl (yl_loadA (cs := [(.int .i64 p_w.e0), (.int .i64 p_w.e1), (.int .i64 p_w.e2), (.int .i64 p_w.e3), (.int .i64 p_w.e4), (.int .i64 p_w.e5), (.int .i64 p_w.e6), (.int .i64 p_w.e7), (.int .i64 p_w.e8), (.int .i64 p_w.e9), (.int .i64 p_w.e10), (.int .i64 p_w.e11)]) ag147 rfl (Box.at (hB6.ext he13))) ?_
  refine T0_q (v := (.int .i64 0)) rfl (yl_move rfl) ?_
  refine T0_nil ?_
  refine hK21 _ _ ?_
  obtain ⟨o99, hl100, hn101⟩ := bind_elim h
  refine WC_post (fun (ρ : Env) (wd95 : World) => ∃ (x97 : Int), x97 = o99 ∧ ρ 5 = (.int .i64 x97) ∧ Ext w wd95) ?_ ?_
  · intro K105 hK105
    refine WC_block ?_
    refine WC_loopk (fun sv ρ wd85 => ∃ (x88 : Int) (x91 : Int), (x88, x91) = sv ∧ ρ 3 = (.pointer (some ⟨b10, 0, none⟩)) ∧ ρ 5 = (.int .i64 x88) ∧ ρ 8 = (.agg (List.toArray [(.int .i64 p_w.e0), (.int .i64 p_w.e1), (.int .i64 p_w.e2), (.int .i64 p_w.e3), (.int .i64 p_w.e4), (.int .i64 p_w.e5), (.int .i64 p_w.e6), (.int .i64 p_w.e7), (.int .i64 p_w.e8), (.int .i64 p_w.e9), (.int .i64 p_w.e10), (.int .i64 p_w.e11)])) ∧ ρ 9 = (.int .i64 x91) ∧ Box wd85 b10 [(.int .i64 p_o.e0), (.int .i64 p_o.e1), (.int .i64 p_o.e2), (.int .i64 p_o.e3), (.int .i64 p_o.e4), (.int .i64 p_o.e5), (.int .i64 p_o.e6), (.int .i64 p_o.e7), (.int .i64 p_o.e8), (.int .i64 p_o.e9), (.int .i64 p_o.e10), (.int .i64 p_o.e11)] 147 ∧ Ext w wd85) hl100 ⟨0, 0, rfl, rfl, rfl, rfl, rfl, hB14, e17⟩ ?_
    rintro _ ρ wd85 ⟨x88, x91, rfl, hs87, hs89, hs90, hs92, hB94, e86⟩ x102 h hx103 K104 hK104
    refine WC_seqK fun K107 hK107 => ?_
    refine WC_region ?_
    refine T0_q (v := (.bool (decide (x91 < 12)))) rfl (yl_lss hs92 rfl) ?_
    refine T0_nil ?_
    refine hK107 _ _ ?_
    refine WC_seqK fun K108 hK108 => ?_
    refine WC_cond (b := (decide (x91 < 12))) rfl (fun hb109 => ?_) (fun hb109 => ?_)
    · replace h := cond_t hb109 h
      refine WC_skip ?_
      refine hK108 _ _ ?_
      refine WC_seqK fun K110 hK110 => ?_
      refine WC_block ?_
      refine WC_seqK fun K111 hK111 => ?_
      refine WC_region ?_
      refine T0_q (v := (.int .i64 x91)) rfl (yl_move hs92) ?_
      obtain ⟨el112, hel113, h⟩ := bind_elim h
      refine T0_q (v := (.int .i64 el112)) rfl (yl_index1 (xs := [p_w.e0, p_w.e1, p_w.e2, p_w.e3, p_w.e4, p_w.e5, p_w.e6, p_w.e7, p_w.e8, p_w.e9, p_w.e10, p_w.e11]) Tryd.underlying147 sc3 sz3 rfl hs90 hs92 hel113) ?_
      refine T0_q (v := (.int .i64 x91)) rfl (yl_assign rfl) ?_
      refine T0_q (v := (.int .i64 el112)) rfl (yl_assign rfl) ?_
      refine T0_nil ?_
      refine hK111 _ _ ?_
      refine WC_seqK fun K114 hK114 => ?_
      refine WC_region ?_
      refine T0_q (v := (.int .i64 el112)) rfl (yl_move rfl) ?_
      refine T0_q (v := (.int .i64 x91)) rfl (yl_move rfl) ?_
      obtain ⟨el115, hel116, h⟩ := bind_elim h
      refine T0_q (v := (.pointer (some (Addr.add ⟨b10, 0, none⟩ ((x91 : Int).toNat * 1))))) rfl (yl_indexAddrA Tryd.underlying147 sz3 (idx_some hel116).1 (glob_lt (xs := [p_o.e0, p_o.e1, p_o.e2, p_o.e3, p_o.e4, p_o.e5, p_o.e6, p_o.e7, p_o.e8, p_o.e9, p_o.e10, p_o.e11]) hel116) hs87 rfl) ?_
      refine T0_q (v := (.int .i64 el115)) rfl (yl_load sc3 rfl (glob_at (xs := [p_o.e0, p_o.e1, p_o.e2, p_o.e3, p_o.e4, p_o.e5, p_o.e6, p_o.e7, p_o.e8, p_o.e9, p_o.e10, p_o.e11]) (Box.at hB94) hel116)) ?_
      refine T0_q (v := (.bool (!decide (el112 = el115)))) rfl (yl_neq rfl rfl) ?_
      refine T0_q (v := (.bool (!decide (el112 = el115)))) rfl (yl_move rfl) ?_
      refine T0_g (v := (.int .i64 el112)) (!decide (el112 = el115)) (wanted_t rfl rfl rfl rfl) (fun hg => (yl_move rfl)) ?_
      refine T0_g (v := (.bool (!decide (el112 = 2)))) (!decide (el112 = el115)) (wanted_t rfl rfl rfl rfl) (fun hg => (yl_neq (gd_true hg) rfl)) ?_
      refine T0_q (v := (.bool ((!decide (el112 = el115)) && (!decide (el112 = 2))))) rfl (yl_and rfl (fun hb => (gd_true hb)) rfl) ?_
      refine T0_q (v := (.bool ((!decide (el112 = el115)) && (!decide (el112 = 2))))) rfl (yl_move rfl) ?_
      refine T0_g (v := (.int .i64 x91)) ((!decide (el112 = el115)) && (!decide (el112 = 2))) (wanted_t rfl rfl rfl rfl) (fun hg => (yl_move rfl)) ?_
      obtain ⟨el117, hel118, h⟩ := bind_elim h
      refine T0_g (v := (.pointer (some (Addr.add ⟨b10, 0, none⟩ ((x91 : Int).toNat * 1))))) ((!decide (el112 = el115)) && (!decide (el112 = 2))) (wanted_t rfl rfl rfl rfl) (fun hg => (yl_indexAddrA Tryd.underlying147 sz3 (idx_some (cond_t hg hel118)).1 (glob_lt (xs := [p_o.e0, p_o.e1, p_o.e2, p_o.e3, p_o.e4, p_o.e5, p_o.e6, p_o.e7, p_o.e8, p_o.e9, p_o.e10, p_o.e11]) (cond_t hg hel118)) hs87 (gd_true hg))) ?_
      refine T0_g (v := (.int .i64 el117)) ((!decide (el112 = el115)) && (!decide (el112 = 2))) (wanted_t rfl rfl rfl rfl) (fun hg => (yl_load sc3 (gd_true hg) (glob_at (xs := [p_o.e0, p_o.e1, p_o.e2, p_o.e3, p_o.e4, p_o.e5, p_o.e6, p_o.e7, p_o.e8, p_o.e9, p_o.e10, p_o.e11]) (Box.at hB94) (cond_t hg hel118)))) ?_
      refine T0_g (v := (.bool (!decide (el117 = 2)))) ((!decide (el112 = el115)) && (!decide (el112 = 2))) (wanted_t rfl rfl rfl rfl) (fun hg => (yl_neq (gd_true hg) rfl)) ?_
      refine T0_q (v := (.bool (((!decide (el112 = el115)) && (!decide (el112 = 2))) && (!decide (el117 = 2))))) rfl (yl_and rfl (fun hb => (gd_true hb)) rfl) ?_
      refine T0_nil ?_
      refine hK114 _ _ ?_
      refine WC_cond (b := (((!decide (el112 = el115)) && (!decide (el112 = 2))) && (!decide (el117 = 2)))) rfl (fun hb119 => ?_) (fun hb119 => ?_)
      · replace h := cond_t hb119 h
        refine WC_region ?_
        refine T0_q (v := (.int .i64 x88)) rfl (yl_move hs89) ?_
        refine T0_q (v := (.int .i64 (w64 (x88 + 1)))) rfl (yl_add rfl rfl) ?_
        refine T0_q (v := (.int .i64 (w64 (x88 + 1)))) rfl (yl_assign rfl) ?_
        refine T0_nil ?_
        refine hK110 _ _ ?_
        refine WC_region ?_
        refine T0_q (v := (.int .i64 (w64 (x91 + 1)))) rfl (yl_add hs92 rfl) ?_
        refine T0_q (v := (.int .i64 (w64 (x91 + 1)))) rfl (yl_move rfl) ?_
        refine T0_nil ?_
        replace h := some_out h
        subst h
        refine hK104 _ _ _ rfl ?_
        exact ⟨w64 (x88 + 1), w64 (x91 + 1), rfl, hs87, rfl, hs90, rfl, hB94, e86⟩
      · replace h := cond_f hb119 h
        refine WC_skip ?_
        refine hK110 _ _ ?_
        refine WC_region ?_
        refine T0_q (v := (.int .i64 (w64 (x91 + 1)))) rfl (yl_add hs92 rfl) ?_
        refine T0_q (v := (.int .i64 (w64 (x91 + 1)))) rfl (yl_move rfl) ?_
        refine T0_nil ?_
        replace h := some_out h
        subst h
        refine hK104 _ _ _ rfl ?_
        exact ⟨x88, w64 (x91 + 1), rfl, hs87, hs89, hs90, rfl, hB94, e86⟩
    · replace h := cond_f hb109 h
      refine WC_exit ?_
      replace h := some_out h
      subst h
      have ho := hx103 _ rfl
      subst ho
      refine hK105 _ _ ?_
      exact ⟨x88, rfl, hs89, e86⟩
  · rintro ρ wd95 ⟨x97, rfl, hs98, e96⟩
    replace h := hn101
    refine hK20 _ _ ?_
    refine WC_seqK fun K120 hK120 => ?_
    refine WC_region ?_
    refine T0_q (v := (.int .i64 x97)) rfl (yl_move hs98) ?_
    refine T0_q (v := (.int .i64 x97)) rfl (yl_assign rfl) ?_
    refine T0_nil ?_
    refine hK120 _ _ ?_
    refine WC_ret ?_
    replace h := some_out h
    subst h
    exact ⟨[(.int .i64 x97)], ⟨rfl, trivial⟩, e96, rfl⟩

noncomputable def locate_openSeen_1_spec (p_n : Int) : Option Bool :=
  (Option.bind (locate_isSeen_spec p_n) fun r3 =>
  some (!r3)
  )
theorem locate_openSeen_1_ok (L : List Value) (w : World) (hL : LtL L w) (p_n : Int) (r : Bool) (h : locate_openSeen_1_spec p_n = some r) :
    CallsTo Tryd.prog 122 [(.int .i64 p_n)] w (fun v w' => Ext w w' ∧ (.bool r) = v) := by
  have e0 : Ext w w := Chg.refl _ _
  refine callsTo_of_WC (n := 6) (rs := [.tmp 2]) Tryd.func122 rfl rfl rfl rfl rfl ?_
  refine WC_seqK fun K1 hK1 => ?_
  refine WC_region ?_
  refine T0_q (v := (.bool false)) rfl (yl_assign rfl) ?_
  refine T0_nil ?_
  refine hK1 _ _ ?_
  refine WC_seqK fun K2 hK2 => ?_
  refine WC_region ?_
  refine T0_q (v := (.int .i64 p_n)) rfl (yl_move rfl) ?_
  obtain ⟨r3, hr4, h⟩ := bind_elim h
  refine T0_e rfl (eff_call Tryd.func114 nm114 rfl (ev1 rfl) (locate_isSeen_ok [] _ (LtL.nil _) p_n r3 hr4) ?_)
  rintro _ wd5 ⟨he6, rfl⟩
  have e7 := e0.trans he6
  refine T0_q (v := (.bool (!r3))) rfl (yl_not rfl) ?_
  refine T0_q (v := (.bool (!r3))) rfl (yl_assign rfl) ?_
  refine T0_nil ?_
  refine hK2 _ _ ?_
  refine WC_ret ?_
  replace h := some_out h
  subst h
  exact ⟨[(.bool (!r3))], ⟨rfl, trivial⟩, e7, rfl⟩

noncomputable def locate_track_seen_spec (p_t : locate_track) (p_l : (List Int)) : Option Arr12_Int :=
  some (Arr12_Int.mk (p_l.getD 0 0) (p_l.getD 1 0) (p_l.getD 2 0) (p_l.getD 3 0) (p_l.getD 4 0) (p_l.getD 5 0) (p_l.getD 6 0) (p_l.getD 7 0) (p_l.getD 8 0) (p_l.getD 9 0) (p_l.getD 10 0) (p_l.getD 11 0))
theorem locate_track_seen_ok (L : List Value) (w : World) (hL : LtL L w) (cs_p_t : List Value) (p_t : locate_track) (h_p_t : Rep.rd L w cs_p_t p_t) (v_p_l : Value) (p_l : (List Int)) (h_p_l : SlRd L w v_p_l p_l) (r : Arr12_Int) (h : locate_track_seen_spec p_t p_l = some r) :
    CallsTo Tryd.prog 123 [(.agg cs_p_t.toArray), v_p_l] w (fun v w' => Ext w w' ∧ ∃ (cs0 : List Value), (.agg cs0.toArray) = v ∧ Rep.rd L w' cs0 r) := by
  have e0 : Ext w w := Chg.refl _ _
  obtain ⟨v1, h2, rfl⟩ := h_p_t
  refine callsTo_of_WC (n := 10) (rs := [.cell 4 147]) Tryd.func123 rfl rfl rfl rfl rfl ?_
  refine WC_seqK fun K5 hK5 => ?_
  refine WC_region ?_
  refine T0_e rfl (eff_boxC (cs := [v1, (.int .i64 p_t.LocateTrack.Window), (.int .i64 p_t.LocateTrack.Tooth), (.int .i64 p_t.LocateTrack.PerVane), (.int .i64 p_t.LocateTrack.First), (.int .i64 p_t.LocateTrack.Modulus), (.int .i64 p_t.LocateTrack.Slack), (.int .i64 p_t.LocateTrack.Errors), (.bool p_t.LocateTrack.Round)]) rfl rfl ?_)
  intro b6 wd7 hb8 he9 hB10
  have hbf11 := bfresh e0 hb8
  have e12 := e0.trans he9
  refine T0_e rfl (eff_allocZ zi147 ?_)
  intro b14 wd15 hb16 he17 hB18
  have hn19 : b14 ≠ b6 := box_ne hB10 hb16
  have hbf20 := bfresh e12 hb16
  have h21 := (h2.ext he9).step (add_box he17 hb16)
  have h22 := (h_p_l.ext he9).step (add_box he17 hb16)
  have e23 := e12.trans he17
  refine T0_nil ?_
  refine hK5 _ _ ?_
  refine WC_seqK fun K25 hK25 => ?_
  refine WC_region ?_
  refine T0_e rfl (eff_allocZ zi147 ?_)
  intro b26 wd27 hb28 he29 hB30
  have hn31 : b26 ≠ b6 := box_ne (hB10.ext he17) hb28
  have hn32 : b26 ≠ b14 := box_ne hB18 hb28
  have hbf33 := bfresh e23 hb28
  have h34 := h21.step (add_box he29 hb28)
  have h35 := h22.step (add_box he29 hb28)
  have e36 := he17.trans he29
  have e37 := e23.trans he29
  refine T0_nil ?_
  refine hK25 _ _ ?_
  refine WC_seqK fun K39 hK39 => ?_
  refine WC_region ?_
  refine T0_q (v := (.slice (some ⟨b26, 0, none⟩) 12 12)) rfl (yl_sliceAv Tryd.underlying147 sz3 rfl rfl rfl) ?_
  refine T0_q (v := v_p_l) rfl (yl_move rfl) ?_
  refine T0_e rfl (eff_copyA (xs := [0, 0, 0, 0, 0, 0, 0, 0, 0, 0, 0, 0]) (zs := [(p_l.getD 0 0), (p_l.getD 1 0), (p_l.getD 2 0), (p_l.getD 3 0), (p_l.getD 4 0), (p_l.getD 5 0), (p_l.getD 6 0), (p_l.getD 7 0), (p_l.getD 8 0), (p_l.getD 9 0), (p_l.getD 10 0), (p_l.getD 11 0)]) Tryd.underlying22 sz3 rfl rfl rfl hB30 rfl rfl h35 (cpy_getD12 _ _ _ _ _ _ _ _ _ _ _ _ _) ?_)
  intro wd40 hc41 hB42
  have h43 := h34.step (Stepp.chg_mem hc41 mem0)
  have h44 := h35.step (Stepp.chg_mem hc41 mem0)
  have h45 := (hB10.ext e36).chg hc41 (avoidb hn31)
  have h46 := (hB18.ext he29).chg hc41 (avoidb hn32)
  have e47 := chg_box e37 hc41 hbf33
  refine T0_nil ?_
  refine hK39 _ _ ?_
  refine WC_seqK fun K48 hK48 => ?_
  refine WC_region ?_
  refine T0_q (v := (.agg (List.toArray [(.int .i64 (p_l.getD 0 0)), (.int .i64 (p_l.getD 1 0)), (.int .i64 (p_l.getD 2 0)), (.int .i64 (p_l.getD 3 0)), (.int .i64 (p_l.getD 4 0)), (.int .i64 (p_l.getD 5 0)), (.int .i64 (p_l.getD 6 0)), (.int .i64 (p_l.getD 7 0)), (.int .i64 (p_l.getD 8 0)), (.int .i64 (p_l.getD 9 0)), (.int .i64 (p_l.getD 10 0)), (.int .i64 (p_l.getD 11 0))]))) rfl (yl_loadA (cs := [(.int .i64 (p_l.getD 0 0)), (.int .i64 (p_l.getD 1 0)), (.int .i64 (p_l.getD 2 0)), (.int .i64 (p_l.getD 3 0)), (.int .i64 (p_l.getD 4 0)), (.int .i64 (p_l.getD 5 0)), (.int .i64 (p_l.getD 6 0)), (.int .i64 (p_l.getD 7 0)), (.int .i64 (p_l.getD 8 0)), (.int .i64 (p_l.getD 9 0)), (.int .i64 (p_l.getD 10 0)), (.int .i64 (p_l.getD 11 0))]) ag147 rfl (Box.at hB42)) ?_
  refine T0_e rfl (eff_storeC (vs := [(.int .i64 (p_l.getD 0 0)), (.int .i64 (p_l.getD 1 0)), (.int .i64 (p_l.getD 2 0)), (.int .i64 (p_l.getD 3 0)), (.int .i64 (p_l.getD 4 0)), (.int .i64 (p_l.getD 5 0)), (.int .i64 (p_l.getD 6 0)), (.int .i64 (p_l.getD 7 0)), (.int .i64 (p_l.getD 8 0)), (.int .i64 (p_l.getD 9 0)), (.int .i64 (p_l.getD 10 0)), (.int .i64 (p_l.getD 11 0))]) (cs' := [(.int .i64 (p_l.getD 0 0)), (.int .i64 (p_l.getD 1 0)), (.int .i64 (p_l.getD 2 0)), (.int .i64 (p_l.getD 3 0)), (.int .i64 (p_l.getD 4 0)), (.int .i64 (p_l.getD 5 0)), (.int .i64 (p_l.getD 6 0)), (.int .i64 (p_l.getD 7 0)), (.int .i64 (p_l.getD 8 0)), (.int .i64 (p_l.getD 9 0)), (.int .i64 (p_l.getD 10 0)), (.int .i64 (p_l.getD 11 0))]) sz147 rfl rfl rfl rfl h46 rfl (oc_cons rfl (oc_cons rfl (oc_cons rfl (oc_cons rfl (oc_cons rfl (oc_cons rfl (oc_cons rfl (oc_cons rfl (oc_cons rfl (oc_cons rfl (oc_cons rfl (oc_cons rfl oc_nil)))))))))))) rfl ?_)
  intro wd49 hc50 hB51
  have h52 := h43.step (Stepp.chg_mem hc50 (memS mem0))
  have h53 := h44.step (Stepp.chg_mem hc50 (memS mem0))
  have h54 := h45.chg hc50 (avoidb hn19)
  have h55 := hB42.chg hc50 (avoidb hn32.symm)
  have e56 := chg_box e47 hc50 hbf20
  refine T0_nil ?_
  refine hK48 _ _ ?_
  refine WC_ret ?_
  replace h := some_out h
  subst h
  exact ⟨[(.agg (List.toArray [(.int .i64 (p_l.getD 0 0)), (.int .i64 (p_l.getD 1 0)), (.int .i64 (p_l.getD 2 0)), (.int .i64 (p_l.getD 3 0)), (.int .i64 (p_l.getD 4 0)), (.int .i64 (p_l.getD 5 0)), (.int .i64 (p_l.getD 6 0)), (.int .i64 (p_l.getD 7 0)), (.int .i64 (p_l.getD 8 0)), (.int .i64 (p_l.getD 9 0)), (.int .i64 (p_l.getD 10 0)), (.int .i64 (p_l.getD 11 0))]))], ⟨⟨_, rfl, run_loadVarA (cs := [(.int .i64 (p_l.getD 0 0)), (.int .i64 (p_l.getD 1 0)), (.int .i64 (p_l.getD 2 0)), (.int .i64 (p_l.getD 3 0)), (.int .i64 (p_l.getD 4 0)), (.int .i64 (p_l.getD 5 0)), (.int .i64 (p_l.getD 6 0)), (.int .i64 (p_l.getD 7 0)), (.int .i64 (p_l.getD 8 0)), (.int .i64 (p_l.getD 9 0)), (.int .i64 (p_l.getD 10 0)), (.int .i64 (p_l.getD 11 0))]) ag147 (Box.at hB51)⟩, trivial⟩, e56, [(.int .i64 (p_l.getD 0 0)), (.int .i64 (p_l.getD 1 0)), (.int .i64 (p_l.getD 2 0)), (.int .i64 (p_l.getD 3 0)), (.int .i64 (p_l.getD 4 0)), (.int .i64 (p_l.getD 5 0)), (.int .i64 (p_l.getD 6 0)), (.int .i64 (p_l.getD 7 0)), (.int .i64 (p_l.getD 8 0)), (.int .i64 (p_l.getD 9 0)), (.int .i64 (p_l.getD 10 0)), (.int .i64 (p_l.getD 11 0))], rfl, rfl⟩

noncomputable def base_Size_spec (p_n : Int) : Option Int :=
  some (if p_n < w64 (0 - p_n) then w64 (0 - p_n) else p_n)
theorem base_Size_ok (L : List Value) (w : World) (hL : LtL L w) (p_n : Int) (r : Int) (h : base_Size_spec p_n = some r) :
    CallsTo Tryd.prog 124 [(.int .i64 p_n)] w (fun v w' => Ext w w' ∧ (.int .i64 r) = v) := by
  have e0 : Ext w w := Chg.refl _ _
  refine callsTo_of_WC (n := 7) (rs := [.tmp 2]) Tryd.func124 rfl rfl rfl rfl rfl ?_
  refine WC_seqK fun K1 hK1 => ?_
  refine WC_region ?_
  refine T0_q (v := (.int .i64 0)) rfl (yl_assign rfl) ?_
  refine T0_nil ?_
  refine hK1 _ _ ?_
  refine WC_seqK fun K2 hK2 => ?_
  refine WC_region ?_
  refine T0_q (v := (.int .i64 p_n)) rfl (yl_move rfl) ?_
  refine T0_q (v := (.int .i64 p_n)) rfl (yl_move rfl) ?_
  refine T0_q (v := (.int .i64 (w64 (0 - p_n)))) rfl (yl_neg rfl) ?_
  refine T0_q (v := (.int .i64 (if p_n < w64 (0 - p_n) then w64 (0 - p_n) else p_n))) rfl (yl_max rfl rfl) ?_
  refine T0_q (v := (.int .i64 (if p_n < w64 (0 - p_n) then w64 (0 - p_n) else p_n))) rfl (yl_assign rfl) ?_
  refine T0_nil ?_
  refine hK2 _ _ ?_
  refine WC_ret ?_
  replace h := some_out h
  subst h
  exact ⟨[(.int .i64 (if p_n < w64 (0 - p_n) then w64 (0 - p_n) else p_n))], ⟨rfl, trivial⟩, e0, rfl⟩

noncomputable def locate_isPlace_spec (p_n : Int) : Option Bool :=
  (Option.bind (locate_within_spec p_n 0 1000000000) fun r3 =>
  some r3
  )
theorem locate_isPlace_ok (L : List Value) (w : World) (hL : LtL L w) (p_n : Int) (r : Bool) (h : locate_isPlace_spec p_n = some r) :
    CallsTo Tryd.prog 125 [(.int .i64 p_n)] w (fun v w' => Ext w w' ∧ (.bool r) = v) := by
  have e0 : Ext w w := Chg.refl _ _
  refine callsTo_of_WC (n := 5) (rs := [.tmp 2]) Tryd.func125 rfl rfl rfl rfl rfl ?_
  refine WC_seqK fun K1 hK1 => ?_
  refine WC_region ?_
  refine T0_q (v := (.bool false)) rfl (yl_assign rfl) ?_
  refine T0_nil ?_
  refine hK1 _ _ ?_
  refine WC_seqK fun K2 hK2 => ?_
  refine WC_region ?_
  refine T0_q (v := (.int .i64 p_n)) rfl (yl_move rfl) ?_
  obtain ⟨r3, hr4, h⟩ := bind_elim h
  refine T0_e rfl (eff_call Tryd.func86 nm86 rfl (ev3 rfl rfl rfl) (locate_within_ok [] _ (LtL.nil _) p_n 0 1000000000 r3 hr4) ?_)
  rintro _ wd5 ⟨he6, rfl⟩
  have e7 := e0.trans he6
  refine T0_q (v := (.bool r3)) rfl (yl_assign rfl) ?_
  refine T0_nil ?_
  refine hK2 _ _ ?_
  refine WC_ret ?_
  replace h := some_out h
  subst h
  exact ⟨[(.bool r3)], ⟨rfl, trivial⟩, e7, rfl⟩

noncomputable def ref04_Copy_spec (p_t : LocateTrack) : Option LocateTrack :=
  (Option.bind (base_CopyInts_spec p_t.Vanes) fun r25 =>
  some (LocateTrack.mk r25 p_t.Window p_t.Tooth p_t.PerVane p_t.First p_t.Modulus p_t.Slack p_t.Errors p_t.Round)
  )
theorem ref04_Copy_ok (L : List Value) (w : World) (hL : LtL L w) (cs_p_t : List Value) (p_t : LocateTrack) (h_p_t : Rep.rd L w cs_p_t p_t) (r : LocateTrack) (h : ref04_Copy_spec p_t = some r) :
    CallsTo Tryd.prog 21 [(.agg cs_p_t.toArray)] w (fun v w' => Ext w w' ∧ ∃ (cs0 : List Value), (.agg cs0.toArray) = v ∧ Rep.rd L w' cs0 r) := by
  have e0 : Ext w w := Chg.refl _ _
  obtain ⟨v1, h2, rfl⟩ := h_p_t
  refine callsTo_of_WC (n := 8) (rs := [.cell 2 24]) Tryd.func21 rfl rfl rfl rfl rfl ?_
  refine WC_seqK fun K4 hK4 => ?_
  refine WC_region ?_
  refine T0_e rfl (eff_boxC (cs := [v1, (.int .i64 p_t.Window), (.int .i64 p_t.Tooth), (.int .i64 p_t.PerVane), (.int .i64 p_t.First), (.int .i64 p_t.Modulus), (.int .i64 p_t.Slack), (.int .i64 p_t.Errors), (.bool p_t.Round)]) rfl rfl ?_)
  intro b5 wd6 hb7 he8 hB9
  have hbf10 := bfresh e0 hb7
  have h11 := h2.step (add_box he8 hb7)
  have e12 := e0.trans he8
  refine T0_e rfl (eff_allocZ zi24 ?_)
  intro b14 wd15 hb16 he17 hB18
  have hn19 : b14 ≠ b5 := box_ne hB9 hb16
  have hbf20 := bfresh e12 hb16
  have h21 := h11.step (add_box he17 hb16)
  have e22 := e12.trans he17
  refine T0_nil ?_
  refine hK4 _ _ ?_
  refine WC_seqK fun K24 hK24 => ?_
  refine WC_region ?_
  refine T0_q (v := (.pointer (some ⟨b5, 0, none⟩))) rfl (yl_fa 0 Tryd.underlying24 rfl rfl ⟨0, sz22⟩ rfl rfl) ?_
  refine T0_q (v := v1) rfl (yl_load sc22 rfl (Box.at (hB9.ext he17))) ?_
  obtain ⟨r25, hr26, h⟩ := bind_elim h
  refine T0_e rfl (eff_call Tryd.func30 nm30 rfl (ev1 rfl) (base_CopyInts_ok ((.pointer (some ⟨b14, 0, none⟩)) :: (.pointer (some ⟨b5, 0, none⟩)) :: L) _ (ltl_box (ltl_box (hL.chg e22) (hB9.ext he17)) hB18) v1 p_t.Vanes h21 r25 hr26) ?_)
  rintro _ wd27 ⟨he28, v29, rfl, h30⟩
  have e31 := he17.trans he28
  have e32 := e22.trans he28
  refine T0_q (v := (.pointer (some ⟨b5, 0, none⟩))) rfl (yl_fa 0 Tryd.underlying24 rfl rfl ⟨0, sz22⟩ rfl rfl) ?_
  refine T0_e rfl (eff_storeC (vs := [v29]) (cs' := [v29, (.int .i64 p_t.Window), (.int .i64 p_t.Tooth), (.int .i64 p_t.PerVane), (.int .i64 p_t.First), (.int .i64 p_t.Modulus), (.int .i64 p_t.Slack), (.int .i64 p_t.Errors), (.bool p_t.Round)]) sz22 (cells_one h30.one1) rfl rfl rfl (hB9.ext e31) rfl (oc_cons h30.one1 oc_nil) rfl ?_)
  intro wd34 hc35 hB36
  have h37 := (h21.ext he28).step (Stepp.chg_mem hc35 (memS mem0))
  have h38 := (hB18.ext he28).chg hc35 (avoidb hn19.symm)
  have h39 := h30.step (Stepp.chg_mem hc35 (memS mem0))
  have e40 := chg_box e32 hc35 hbf10
  refine T0_nil ?_
  refine hK24 _ _ ?_
  refine WC_seqK fun K41 hK41 => ?_
  refine WC_region ?_
  refine T0_q (v := (.agg (List.toArray [v29, (.int .i64 p_t.Window), (.int .i64 p_t.Tooth), (.int .i64 p_t.PerVane), (.int .i64 p_t.First), (.int .i64 p_t.Modulus), (.int .i64 p_t.Slack), (.int .i64 p_t.Errors), (.bool p_t.Round)]))) rfl (yl_loadA (cs := [v29, (.int .i64 p_t.Window), (.int .i64 p_t.Tooth), (.int .i64 p_t.PerVane), (.int .i64 p_t.First), (.int .i64 p_t.Modulus), (.int .i64 p_t.Slack), (.int .i64 p_t.Errors), (.bool p_t.Round)]) ag24 rfl (Box.at hB36)) ?_
  refine T0_e rfl (eff_storeC (vs := [v29, (.int .i64 p_t.Window), (.int .i64 p_t.Tooth), (.int .i64 p_t.PerVane), (.int .i64 p_t.First), (.int .i64 p_t.Modulus), (.int .i64 p_t.Slack), (.int .i64 p_t.Errors), (.bool p_t.Round)]) (cs' := [v29, (.int .i64 p_t.Window), (.int .i64 p_t.Tooth), (.int .i64 p_t.PerVane), (.int .i64 p_t.First), (.int .i64 p_t.Modulus), (.int .i64 p_t.Slack), (.int .i64 p_t.Errors), (.bool p_t.Round)]) sz24 rfl rfl rfl rfl h38 rfl (oc_cons h39.one1 (oc_cons rfl (oc_cons rfl (oc_cons rfl (oc_cons rfl (oc_cons rfl (oc_cons rfl (oc_cons rfl (oc_cons rfl oc_nil))))))))) rfl ?_)
  intro wd42 hc43 hB44
  have h45 := h37.step (Stepp.chg_mem hc43 mem0)
  have h46 := hB36.chg hc43 (avoidb hn19)
  have h47 := h39.step (Stepp.chg_mem hc43 mem0)
  have e48 := chg_box e40 hc43 hbf20
  refine T0_nil ?_
  refine hK41 _ _ ?_
  refine WC_ret ?_
  replace h := some_out h
  subst h
  exact ⟨[(.agg (List.toArray [v29, (.int .i64 p_t.Window), (.int .i64 p_t.Tooth), (.int .i64 p_t.PerVane), (.int .i64 p_t.First), (.int .i64 p_t.Modulus), (.int .i64 p_t.Slack), (.int .i64 p_t.Errors), (.bool p_t.Round)]))], ⟨⟨_, rfl, run_loadVarA (cs := [v29, (.int .i64 p_t.Window), (.int .i64 p_t.Tooth), (.int .i64 p_t.PerVane), (.int .i64 p_t.First), (.int .i64 p_t.Modulus), (.int .i64 p_t.Slack), (.int .i64 p_t.Errors), (.bool p_t.Round)]) ag24 (Box.at hB44)⟩, trivial⟩, e48, [v29, (.int .i64 p_t.Window), (.int .i64 p_t.Tooth), (.int .i64 p_t.PerVane), (.int .i64 p_t.First), (.int .i64 p_t.Modulus), (.int .i64 p_t.Slack), (.int .i64 p_t.Errors), (.bool p_t.Round)], rfl, ⟨v29, (h47.sub (sub_skip (sub_skip (sub_refl _)))), rfl⟩⟩

noncomputable def ref04_TrackErr_spec (p_t : LocateTrack) : Option Int :=
  (Option.bind (ref04_CheckTrack_spec p_t) fun r14 =>
  some r14.2
  )
theorem ref04_TrackErr_ok (L : List Value) (w : World) (hL : LtL L w) (cs_p_t : List Value) (p_t : LocateTrack) (h_p_t : Rep.rd L w cs_p_t p_t) (r : Int) (h : ref04_TrackErr_spec p_t = some r) :
    CallsTo Tryd.prog 24 [(.agg cs_p_t.toArray)] w (fun v w' => Ext w w' ∧ (.int .i64 r) = v) := by
  have e0 : Ext w w := Chg.refl _ _
  obtain ⟨v1, h2, rfl⟩ := h_p_t
  refine callsTo_of_WC (n := 11) (rs := [.tmp 2]) Tryd.func24 rfl rfl rfl rfl rfl ?_
  refine WC_seqK fun K4 hK4 => ?_
  refine WC_region ?_
  refine T0_e rfl (eff_boxC (cs := [v1, (.int .i64 p_t.Window), (.int .i64 p_t.Tooth), (.int .i64 p_t.PerVane), (.int .i64 p_t.First), (.int .i64 p_t.Modulus), (.int .i64 p_t.Slack), (.int .i64 p_t.Errors), (.bool p_t.Round)]) rfl rfl ?_)
  intro b5 wd6 hb7 he8 hB9
  have hbf10 := bfresh e0 hb7
  have e11 := e0.trans he8
  refine T0_q (v := (.int .i64 0)) rfl (yl_assign rfl) ?_
  refine T0_nil ?_
  refine hK4 _ _ ?_
  refine WC_seqK fun K13 hK13 => ?_
  refine WC_region ?_
  refine T0_q (v := (.agg (List.toArray [v1, (.int .i64 p_t.Window), (.int .i64 p_t.Tooth), (.int .i64 p_t.PerVane), (.int .i64 p_t.First), (.int .i64 p_t.Modulus), (.int .i64 p_t.Slack), (.int .i64 p_t.Errors), (.bool p_t.Round)]))) rfl (yl_loadA (cs := [v1, (.int .i64 p_t.Window), (.int .i64 p_t.Tooth), (.int .i64 p_t.PerVane), (.int .i64 p_t.First), (.int .i64 p_t.Modulus), (.int .i64 p_t.Slack), (.int .i64 p_t.Errors), (.bool p_t.Round)]) ag24 rfl (Box.at hB9)) ?_
  obtain ⟨r14, hr15, h⟩ := bind_elim h
  refine T0_e rfl (eff_call Tryd.func47 nm47 rfl (ev1 rfl) (ref04_CheckTrack_ok [] _ (LtL.nil _) [v1, (.int .i64 p_t.Window), (.int .i64 p_t.Tooth), (.int .i64 p_t.PerVane), (.int .i64 p_t.First), (.int .i64 p_t.Modulus), (.int .i64 p_t.Slack), (.int .i64 p_t.Errors), (.bool p_t.Round)] p_t ⟨v1, ((h2.ext he8).sub (fun _ h => by cases h)), rfl⟩ r14 hr15) ?_)
  rintro _ wd16 ⟨he17, rfl⟩
  have e18 := he8.trans he17
  have e19 := e11.trans he17
  refine T0_q (v := (.tuple #[(.int .i64 r14.1), (.int .i64 r14.2)])) rfl (yl_move rfl) ?_
  refine T0_q (v := (.int .i64 r14.1)) rfl (yl_extract rfl rfl) ?_
  refine T0_q (v := (.int .i64 r14.2)) rfl (yl_extract rfl rfl) ?_
  refine T0_q (v := (.int .i64 r14.1)) rfl (yl_assign rfl) ?_
  refine T0_q (v := (.int .i64 r14.2)) rfl (yl_assign rfl) ?_
  refine T0_nil ?_
  refine hK13 _ _ ?_
  refine WC_seqK fun K20 hK20 => ?_
  refine WC_region ?_
  refine T0_q (v := (.int .i64 r14.2)) rfl (yl_move rfl) ?_
  refine T0_q (v := (.int .i64 r14.2)) rfl (yl_assign rfl) ?_
  refine T0_nil ?_
  refine hK20 _ _ ?_
  refine WC_ret ?_
  replace h := some_out h
  subst h
  exact ⟨[(.int .i64 r14.2)], ⟨rfl, trivial⟩, e19, rfl⟩

noncomputable def ref04_Possible_s0 (p_t : LocateTrack) (p_x : LocateReading) : ((List Range) × Bool × Int) → Option (((List Range) × Bool × Int) ⊕ ((List Range))) := fun (x664, x669, x671) =>
  (Option.bind (ref04_TeethOf_spec p_t) fun r705 =>
  (bif (decide (x671 < r705)) then (
    (Option.bind (quo x671 p_t.PerVane) fun q717 =>
    (Option.bind (ref04_WindowAt_spec p_t q717) fun r719 =>
    (Option.bind (ref04_Differ_spec r719 p_x.Seen) fun r728 =>
    (Option.bind (bif (decide (r728 ≤ p_t.Errors)) then ref04_fits_spec p_t x671 p_x.Count else some default) fun r735 =>
    (Option.bind (α := ((List Range))) (
      (bif (((decide (r728 ≤ p_t.Errors)) && r735) && x669) then (
        (Option.bind (ref04_PlacesOf_spec p_t x671) fun r834 =>
        (Option.bind (idx x664 (w64 ((x664.length : Int) - 1))) fun el843 =>
        some (x664.set (w64 ((x664.length : Int) - 1) : Int).toNat (Range.mk el843.Lo r834.Hi))
        )
        )
      ) else (
        (bif ((decide (r728 ≤ p_t.Errors)) && r735) then (
          (Option.bind (ref04_PlacesOf_spec p_t x671) fun r860 =>
          (Option.bind (app x664 ([r860] : List Range)) fun zs877 =>
          some zs877
          )
          )
        ) else (
          some x664
        ))
      ))
    ) fun (x814 : (List Range)) =>
    some (.inl (x814, ((decide (r728 ≤ p_t.Errors)) && r735), w64 (x671 + 1)))
    )
    )
    )
    )
    )
  ) else (
    some (.inr x664)
  ))
  )
noncomputable def ref04_Possible_spec (p_t : LocateTrack) (p_x : LocateReading) : Option (List Range) :=
  (Option.bind (loop (ref04_Possible_s0 p_t p_x) (([] : List Range), false, 0)) fun (x690 : (List Range)) =>
  some x690
  )
theorem ref04_Possible_ok (L : List Value) (w : World) (hL : LtL L w) (cs_p_t : List Value) (p_t : LocateTrack) (h_p_t : Rep.rd L w cs_p_t p_t) (cs_p_x : List Value) (p_x : LocateReading) (h_p_x : Rep.rd L w cs_p_x p_x) (r : (List Range)) (h : ref04_Possible_spec p_t p_x = some r) :
    CallsTo Tryd.prog 26 [(.agg cs_p_t.toArray), (.agg cs_p_x.toArray)] w (fun v w' => Ext w w' ∧ ∃ (v0 : Value), v0 = v ∧ SlRd L w' v0 r) := by
  have e0 : Ext w w := Chg.refl _ _
  obtain ⟨v1, h2, rfl⟩ := h_p_t
  obtain ⟨v4, h5, rfl⟩ := h_p_x
  refine callsTo_of_WC (n := 57) (rs := [.tmp 4]) Tryd.func26 rfl rfl rfl rfl rfl ?_
  refine WC_seqK fun K7 hK7 => ?_
  refine WC_region ?_
  refine T0_e rfl (eff_boxC (cs := [v1, (.int .i64 p_t.Window), (.int .i64 p_t.Tooth), (.int .i64 p_t.PerVane), (.int .i64 p_t.First), (.int .i64 p_t.Modulus), (.int .i64 p_t.Slack), (.int .i64 p_t.Errors), (.bool p_t.Round)]) rfl rfl ?_)
  intro b8 wd9 hb10 he11 hB12
  have hbf13 := bfresh e0 hb10
  have e14 := e0.trans he11
  refine T0_e rfl (eff_boxC (cs := [v4, (.int .i64 p_x.Count)]) rfl rfl ?_)
  intro b16 wd17 hb18 he19 hB20
  have hn21 : b16 ≠ b8 := box_ne hB12 hb18
  have hbf22 := bfresh e14 hb18
  have e23 := he11.trans he19
  have e24 := e14.trans he19
  refine T0_q (v := (.slice none 0 0)) rfl (yl_assign rfl) ?_
  refine T0_nil ?_
  refine hK7 _ _ ?_
  refine WC_seqK fun K26 hK26 => ?_
  refine WC_region ?_
  refine T0_q (v := (.slice none 0 0)) rfl (yl_assign rfl) ?_
  refine T0_nil ?_
  refine hK26 _ _ ?_
  refine WC_seqK fun K27 hK27 => ?_
  refine WC_region ?_
  refine T0_q (v := (.bool false)) rfl (yl_assign rfl) ?_
  refine T0_nil ?_
  refine hK27 _ _ ?_
  refine WC_seqK fun K28 hK28 => ?_
  refine WC_seqK fun K29 hK29 => ?_
  refine WC_region ?_
  refine T0_q (v := (.int .i64 0)) rfl (yl_assign rfl) ?_
  refine T0_nil ?_
  refine hK29 _ _ ?_
  have h681 := (h2.ext e23).step (add_nil _)
  have h682 := (h5.ext e23).step (add_nil _)
  have h684 : Own 36 ((.slice none 0 0) :: L) wd17 (.slice none 0 0) ([] : List Range) := Own.nil _ _ _
  obtain ⟨o695, hl696, hn697⟩ := bind_elim h
  refine WC_post (fun (ρ : Env) (wd686 : World) => ∃ (x690 : (List Range)) (v689 : Value), x690 = o695 ∧ ρ 5 = v689 ∧ Own 36 (v689 :: L) wd686 v689 x690 ∧ (∀ b, blk v689 = some b → w.heap.size ≤ b) ∧ Ext w wd686) ?_ ?_
  · intro K701 hK701
    refine WC_block ?_
    refine WC_loopk (fun sv ρ wd658 => ∃ (x664 : (List Range)) (x669 : Bool) (x671 : Int) (v663 : Value), (x664, x669, x671) = sv ∧ ρ 2 = (.pointer (some ⟨b8, 0, none⟩)) ∧ ρ 3 = (.pointer (some ⟨b16, 0, none⟩)) ∧ ρ 5 = v663 ∧ ρ 6 = (.bool x669) ∧ ρ 7 = (.int .i64 x671) ∧ SlRd (v663 :: L) wd658 v4 p_x.Seen ∧ SlRd (v663 :: L) wd658 v1 p_t.Vanes ∧ Box wd658 b16 [v4, (.int .i64 p_x.Count)] 26 ∧ Box wd658 b8 [v1, (.int .i64 p_t.Window), (.int .i64 p_t.Tooth), (.int .i64 p_t.PerVane), (.int .i64 p_t.First), (.int .i64 p_t.Modulus), (.int .i64 p_t.Slack), (.int .i64 p_t.Errors), (.bool p_t.Round)] 24 ∧ Own 36 (v663 :: L) wd658 v663 x664 ∧ (∀ b, blk v663 = some b → w.heap.size ≤ b) ∧ (blk v663 ≠ some b16) ∧ (blk v663 ≠ some b8) ∧ Ext w wd658) hl696 ⟨([] : List Range), false, 0, (.slice none 0 0), rfl, rfl, rfl, rfl, rfl, rfl, h682, h681, hB20, (hB12.ext he19), h684, (fun b h => blk_nil b h), (fun h => by cases h), (fun h => by cases h), e24⟩ ?_
    rintro _ ρ wd658 ⟨x664, x669, x671, v663, rfl, hs660, hs661, hs668, hs670, hs672, h673, h676, hB675, hB678, h666, hf667, hn679, hn680, e659⟩ x698 h hx699 K700 hK700
    refine WC_seqK fun K703 hK703 => ?_
    refine WC_seqK fun K704 hK704 => ?_
    refine WC_region ?_
    refine T0_q (v := (.int .i64 x671)) rfl (yl_move hs672) ?_
    refine T0_q (v := (.agg (List.toArray [v1, (.int .i64 p_t.Window), (.int .i64 p_t.Tooth), (.int .i64 p_t.PerVane), (.int .i64 p_t.First), (.int .i64 p_t.Modulus), (.int .i64 p_t.Slack), (.int .i64 p_t.Errors), (.bool p_t.Round)]))) rfl (yl_loadA (cs := [v1, (.int .i64 p_t.Window), (.int .i64 p_t.Tooth), (.int .i64 p_t.PerVane), (.int .i64 p_t.First), (.int .i64 p_t.Modulus), (.int .i64 p_t.Slack), (.int .i64 p_t.Errors), (.bool p_t.Round)]) ag24 hs660 (Box.at hB678)) ?_
    obtain ⟨r705, hr706, h⟩ := bind_elim h
    refine T0_e rfl (eff_call Tryd.func49 nm49 rfl (ev1 rfl) (ref04_TeethOf_ok [] _ (LtL.nil _) [v1, (.int .i64 p_t.Window), (.int .i64 p_t.Tooth), (.int .i64 p_t.PerVane), (.int .i64 p_t.First), (.int .i64 p_t.Modulus), (.int .i64 p_t.Slack), (.int .i64 p_t.Errors), (.bool p_t.Round)] p_t ⟨v1, (h676.sub (fun _ h => by cases h)), rfl⟩ r705 hr706) ?_)
    rintro _ wd707 ⟨he708, rfl⟩
    have e709 := e659.trans he708
    refine T0_q (v := (.bool (decide (x671 < r705)))) rfl (yl_lss rfl rfl) ?_
    refine T0_nil ?_
    refine hK704 _ _ ?_
    refine WC_cond (b := (decide (x671 < r705))) rfl (fun hb710 => ?_) (fun hb710 => ?_)
    · replace h := cond_t hb710 h
      refine WC_skip ?_
      refine hK703 _ _ ?_
      refine WC_seqK fun K711 hK711 => ?_
      refine WC_block ?_
      refine WC_seqK fun K712 hK712 => ?_
      refine WC_plan mixed (.p 1 (.p 2 (.p 6 (.p 9 (.q 0 (.q 3 (.p 4 (.q 7 (.q 10 (.e 5 (.e 8 (.p 11 (.p 12 (.p 14 (.p 15 (.q 13 (.q 16 (.e 17 (.p 18 (.p 19 .done)))))))))))))))))))) (by kernel_rfl) ?_
      intro wd713 he714
      have e715 := he708.trans he714
      have e716 := e709.trans he714
      refine TP_p (v := (.int .i64 x671)) rfl rfl (fun w' => (yl_move hs672)) ?_
      refine TP_p (v := (.pointer (some ⟨b8, 3, none⟩))) rfl rfl (fun w' => (yl_fa 3 Tryd.underlying24 rfl rfl ⟨0, sz3⟩ hs660 rfl)) ?_
      refine TP_p (v := (.pointer (some ⟨b16, 0, none⟩))) rfl rfl (fun w' => (yl_fa 0 Tryd.underlying26 rfl rfl ⟨0, sz22⟩ hs661 rfl)) ?_
      refine TP_p (v := (.pointer (some ⟨b8, 7, none⟩))) rfl rfl (fun w' => (yl_fa 7 Tryd.underlying24 rfl rfl ⟨0, sz3⟩ hs660 rfl)) ?_
      refine TP_q (v := (.agg (List.toArray [v1, (.int .i64 p_t.Window), (.int .i64 p_t.Tooth), (.int .i64 p_t.PerVane), (.int .i64 p_t.First), (.int .i64 p_t.Modulus), (.int .i64 p_t.Slack), (.int .i64 p_t.Errors), (.bool p_t.Round)]))) rfl rfl (fun w' hS => (yl_loadA (cs := [v1, (.int .i64 p_t.Window), (.int .i64 p_t.Tooth), (.int .i64 p_t.PerVane), (.int .i64 p_t.First), (.int .i64 p_t.Modulus), (.int .i64 p_t.Slack), (.int .i64 p_t.Errors), (.bool p_t.Round)]) ag24 hs660 (Box.at (hB678.ext ((e715).trans hS))))) ?_
      refine TP_q (v := (.int .i64 p_t.PerVane)) rfl rfl (fun w' hS => (yl_load sc3 rfl (At.drop (Box.at (hB678.ext ((e715).trans hS))) 3))) ?_
      obtain ⟨q717, hq718, h⟩ := bind_elim h
      refine TP_p (v := (.int .i64 q717)) rfl rfl (fun w' => (yl_quo' hq718 rfl rfl)) ?_
      refine TP_q (v := v4) rfl rfl (fun w' hS => (yl_load sc22 rfl (Box.at (hB675.ext ((e715).trans hS))))) ?_
      refine TP_q (v := (.int .i64 p_t.Errors)) rfl rfl (fun w' hS => (yl_load sc3 rfl (At.drop (Box.at (hB678.ext ((e715).trans hS))) 7))) ?_
      obtain ⟨r719, hr720, h⟩ := bind_elim h
      refine TP_e rfl rfl (eff_call Tryd.func51 nm51 rfl (ev2 rfl rfl) (ref04_WindowAt_ok (v663 :: L) _ (ltl_own (hL.chg e716) (h666.ext e715)) [v1, (.int .i64 p_t.Window), (.int .i64 p_t.Tooth), (.int .i64 p_t.PerVane), (.int .i64 p_t.First), (.int .i64 p_t.Modulus), (.int .i64 p_t.Slack), (.int .i64 p_t.Errors), (.bool p_t.Round)] p_t ⟨v1, (h676.ext e715), rfl⟩ q717 r719 hr720) ?_)
      rintro _ wd721 ⟨he722, v723, rfl, h724⟩
      have e725 := e715.trans he722
      have e726 := e716.trans he722
      refine ⟨he722, ?_⟩
      obtain ⟨r728, hr729, h⟩ := bind_elim h
      refine TP_e rfl rfl (eff_call Tryd.func73 nm73 rfl (ev2 rfl rfl) (ref04_Differ_ok [] _ (LtL.nil _) v723 r719 (h724.sub (fun _ h => by cases h)) v4 p_x.Seen ((h673.ext e725).sub (fun _ h => by cases h)) r728 hr729) ?_)
      rintro _ wd730 ⟨he731, rfl⟩
      have e732 := e725.trans he731
      have e733 := he722.trans he731
      have e734 := e726.trans he731
      refine ⟨e733, ?_⟩
      refine TP_p (v := (.bool (decide (r728 ≤ p_t.Errors)))) rfl rfl (fun w' => (yl_leq rfl rfl)) ?_
      refine TP_p (v := (.bool (decide (r728 ≤ p_t.Errors)))) rfl rfl (fun w' => (yl_move rfl)) ?_
      refine TP_gp (v := (.int .i64 x671)) (decide (r728 ≤ p_t.Errors)) rfl (wanted_t rfl rfl rfl rfl) (fun w' hg => (yl_move hs672)) ?_
      refine TP_gp (v := (.pointer (some ⟨b16, 1, none⟩))) (decide (r728 ≤ p_t.Errors)) rfl (wanted_t rfl rfl rfl rfl) (fun w' hg => (yl_fa 1 Tryd.underlying26 rfl rfl ⟨0, sz3⟩ hs661 rfl)) ?_
      refine TP_gq (v := (.agg (List.toArray [v1, (.int .i64 p_t.Window), (.int .i64 p_t.Tooth), (.int .i64 p_t.PerVane), (.int .i64 p_t.First), (.int .i64 p_t.Modulus), (.int .i64 p_t.Slack), (.int .i64 p_t.Errors), (.bool p_t.Round)]))) (decide (r728 ≤ p_t.Errors)) rfl (wanted_t rfl rfl rfl rfl) (fun w' hS hg => (yl_loadA (cs := [v1, (.int .i64 p_t.Window), (.int .i64 p_t.Tooth), (.int .i64 p_t.PerVane), (.int .i64 p_t.First), (.int .i64 p_t.Modulus), (.int .i64 p_t.Slack), (.int .i64 p_t.Errors), (.bool p_t.Round)]) ag24 hs660 (Box.at (hB678.ext ((e715).trans hS))))) ?_
      refine TP_gq (v := (.int .i64 p_x.Count)) (decide (r728 ≤ p_t.Errors)) rfl (wanted_t rfl rfl rfl rfl) (fun w' hS hg => (yl_load sc3 (gd_true hg) (At.drop (Box.at (hB675.ext ((e715).trans hS))) 1))) ?_
      obtain ⟨r735, hr736, h⟩ := bind_elim h
      refine TP_ges (decide (r728 ≤ p_t.Errors)) (.bool r735) rfl (wanted_t rfl rfl rfl rfl) (fun hg => eff_call Tryd.func90 nm90 rfl (ev3 (gd_true hg) (gd_true hg) (gd_true hg)) (ref04_fits_ok [] _ (LtL.nil _) [v1, (.int .i64 p_t.Window), (.int .i64 p_t.Tooth), (.int .i64 p_t.PerVane), (.int .i64 p_t.First), (.int .i64 p_t.Modulus), (.int .i64 p_t.Slack), (.int .i64 p_t.Errors), (.bool p_t.Round)] p_t ⟨v1, ((h676.ext e732).sub (fun _ h => by cases h)), rfl⟩ x671 p_x.Count r735 (cond_t hg hr736)) (by rintro _ wd737 ⟨he738, rfl⟩; exact ⟨rfl, he738⟩)) ?_
      intro wd737 he738
      have e739 := e732.trans he738
      have e740 := he731.trans he738
      have e741 := e733.trans he738
      have e742 := e734.trans he738
      refine ⟨e741, ?_⟩
      refine TP_p (v := (.bool ((decide (r728 ≤ p_t.Errors)) && r735))) rfl rfl (fun w' => (yl_and rfl (fun hb => (gd_true hb)) rfl)) ?_
      refine TP_p (v := (.bool ((decide (r728 ≤ p_t.Errors)) && r735))) rfl rfl (fun w' => (yl_assign rfl)) ?_
      refine TP_done ?_
      refine hK712 _ _ ?_
      refine WC_seqK fun K743 hK743 => ?_
      refine WC_seqK fun K744 hK744 => ?_
      refine WC_region ?_
      refine T0_q (v := (.bool ((decide (r728 ≤ p_t.Errors)) && r735))) rfl (yl_move rfl) ?_
      refine T0_q (v := (.bool ((decide (r728 ≤ p_t.Errors)) && r735))) rfl (yl_move rfl) ?_
      refine T0_g (v := (.bool x669)) ((decide (r728 ≤ p_t.Errors)) && r735) (wanted_t rfl rfl rfl rfl) (fun hg => (yl_move hs670)) ?_
      refine T0_q (v := (.bool (((decide (r728 ≤ p_t.Errors)) && r735) && x669))) rfl (yl_and rfl (fun hb => (gd_true hb)) rfl) ?_
      refine T0_nil ?_
      refine hK744 _ _ ?_
      obtain ⟨o829, ho830, hn831⟩ := bind_elim h
      refine WC_post (fun (ρ : Env) (wd808 : World) => ∃ (x814 : (List Range)) (v813 : Value), x814 = o829 ∧ ρ 2 = (.pointer (some ⟨b8, 0, none⟩)) ∧ ρ 3 = (.pointer (some ⟨b16, 0, none⟩)) ∧ ρ 5 = v813 ∧ ρ 7 = (.int .i64 x671) ∧ ρ 8 = (.bool ((decide (r728 ≤ p_t.Errors)) && r735)) ∧ SlRd (v813 :: L) wd808 v4 p_x.Seen ∧ SlRd (v813 :: L) wd808 v1 p_t.Vanes ∧ Box wd808 b16 [v4, (.int .i64 p_x.Count)] 26 ∧ Box wd808 b8 [v1, (.int .i64 p_t.Window), (.int .i64 p_t.Tooth), (.int .i64 p_t.PerVane), (.int .i64 p_t.First), (.int .i64 p_t.Modulus), (.int .i64 p_t.Slack), (.int .i64 p_t.Errors), (.bool p_t.Round)] 24 ∧ Own 36 (v813 :: L) wd808 v813 x814 ∧ (∀ b, blk v813 = some b → w.heap.size ≤ b) ∧ (blk v813 ≠ some b16) ∧ (blk v813 ≠ some b8) ∧ Ext w wd808) ?_ ?_
      · intro K832 hK832
        replace h := ho830
        clear ho830
        refine WC_cond (b := (((decide (r728 ≤ p_t.Errors)) && r735) && x669)) rfl (fun hb833 => ?_) (fun hb833 => ?_)
        · replace h := cond_t hb833 h
          refine WC_region ?_
          refine T0_q (v := v663) rfl (yl_move hs668) ?_
          refine T0_q (v := v663) rfl (yl_move hs668) ?_
          refine T0_q (v := (.int .i64 (x664.length : Int))) rfl (yl_lenO rfl Tryd.underlying29 h666 rfl) ?_
          refine T0_q (v := (.int .i64 (w64 ((x664.length : Int) - 1)))) rfl (yl_sub rfl rfl) ?_
          refine T0_q (v := (.agg (List.toArray [v1, (.int .i64 p_t.Window), (.int .i64 p_t.Tooth), (.int .i64 p_t.PerVane), (.int .i64 p_t.First), (.int .i64 p_t.Modulus), (.int .i64 p_t.Slack), (.int .i64 p_t.Errors), (.bool p_t.Round)]))) rfl (yl_loadA (cs := [v1, (.int .i64 p_t.Window), (.int .i64 p_t.Tooth), (.int .i64 p_t.PerVane), (.int .i64 p_t.First), (.int .i64 p_t.Modulus), (.int .i64 p_t.Slack), (.int .i64 p_t.Errors), (.bool p_t.Round)]) ag24 hs660 (Box.at (hB678.ext e739))) ?_
          refine T0_q (v := (.int .i64 x671)) rfl (yl_move hs672) ?_
          obtain ⟨r834, hr835, h⟩ := bind_elim h
          refine T0_e rfl (eff_call Tryd.func56 nm56 rfl (ev2 rfl rfl) (ref04_PlacesOf_ok [] _ (LtL.nil _) [v1, (.int .i64 p_t.Window), (.int .i64 p_t.Tooth), (.int .i64 p_t.PerVane), (.int .i64 p_t.First), (.int .i64 p_t.Modulus), (.int .i64 p_t.Slack), (.int .i64 p_t.Errors), (.bool p_t.Round)] p_t ⟨v1, ((h676.ext e739).sub (fun _ h => by cases h)), rfl⟩ x671 r834 hr835) ?_)
          rintro _ wd836 ⟨he837, cs838, rfl, hrd839⟩
          have e840 := e739.trans he837
          have e841 := e740.trans he837
          have e842 := e742.trans he837
          have hrd839 : cs838 = [(.int .i64 r834.Lo), (.int .i64 r834.Hi)] := hrd839
          subst hrd839
          refine T0_q (v := (.int .i64 r834.Hi)) rfl (yl_fieldS Tryd.underlying36 rfl sc3 rfl rfl) ?_
          obtain ⟨el843, hel844, h⟩ := bind_elim h
          obtain ⟨cs845, hat846, hrd847⟩ := Own.at h666 hel844
          have hrd847 : cs845 = [(.int .i64 el843.Lo), (.int .i64 el843.Hi)] := hrd847
          subst hrd847
          refine T0_q (v := (.pointer (some (elemAddr v663 (w64 ((x664.length : Int) - 1) : Int).toNat 2)))) rfl (yl_indexAddrO Tryd.underlying29 sz36 h666 hel844 rfl rfl) ?_
          refine T0_q (v := (.pointer (some (Addr.add (elemAddr v663 (w64 ((x664.length : Int) - 1) : Int).toNat 2) 1)))) rfl (yl_fa 1 Tryd.underlying36 rfl rfl ⟨0, sz3⟩ rfl rfl) ?_
          refine T0_e rfl (eff_storeOC (vs := [(.int .i64 r834.Hi)]) (off := 1) (y' := (Range.mk el843.Lo r834.Hi)) sz3 rfl rfl (h666.ext e840) mem0 hel844 rfl rfl rfl (oc_cons rfl oc_nil) (fun w' cs hcs => by have hcs : cs = [(.int .i64 el843.Lo), (.int .i64 el843.Hi)] := hcs; subst hcs; rfl) ?_)
          intro wd849 hc850 hB851
          have h852 := (h673.ext e840).step (Stepp.chg_mem hc850 mem0)
          have h853 := (hB675.ext e840).chg hc850 (avoid1 hn679)
          have h854 := (h676.ext e840).step (Stepp.chg_mem hc850 mem0)
          have h855 := (hB678.ext e840).chg hc850 (avoid1 hn680)
          have h856 := (h724.ext e841).step (Stepp.chg_mem hc850 mem0)
          have e857 := chg_own e842 hc850 hf667
          refine T0_nil ?_
          replace h := some_out h
          subst h
          refine hK832 _ _ ?_
          exact ⟨(x664.set (w64 ((x664.length : Int) - 1) : Int).toNat (Range.mk el843.Lo r834.Hi)), v663, rfl, hs660, hs661, hs668, hs672, rfl, h852, h854, h853, h855, hB851, hf667, hn679, hn680, e857⟩
        · replace h := cond_f hb833 h
          refine WC_seqK fun K858 hK858 => ?_
          refine WC_region ?_
          refine T0_q (v := (.bool ((decide (r728 ≤ p_t.Errors)) && r735))) rfl (yl_move rfl) ?_
          refine T0_nil ?_
          refine hK858 _ _ ?_
          refine WC_cond (b := ((decide (r728 ≤ p_t.Errors)) && r735)) rfl (fun hb859 => ?_) (fun hb859 => ?_)
          · replace h := cond_t hb859 h
            refine WC_region ?_
            refine T0_q (v := v663) rfl (yl_move hs668) ?_
            refine T0_q (v := (.agg (List.toArray [v1, (.int .i64 p_t.Window), (.int .i64 p_t.Tooth), (.int .i64 p_t.PerVane), (.int .i64 p_t.First), (.int .i64 p_t.Modulus), (.int .i64 p_t.Slack), (.int .i64 p_t.Errors), (.bool p_t.Round)]))) rfl (yl_loadA (cs := [v1, (.int .i64 p_t.Window), (.int .i64 p_t.Tooth), (.int .i64 p_t.PerVane), (.int .i64 p_t.First), (.int .i64 p_t.Modulus), (.int .i64 p_t.Slack), (.int .i64 p_t.Errors), (.bool p_t.Round)]) ag24 hs660 (Box.at (hB678.ext e739))) ?_
            refine T0_q (v := (.int .i64 x671)) rfl (yl_move hs672) ?_
            obtain ⟨r860, hr861, h⟩ := bind_elim h
            refine T0_e rfl (eff_call Tryd.func56 nm56 rfl (ev2 rfl rfl) (ref04_PlacesOf_ok [] _ (LtL.nil _) [v1, (.int .i64 p_t.Window), (.int .i64 p_t.Tooth), (.int .i64 p_t.PerVane), (.int .i64 p_t.First), (.int .i64 p_t.Modulus), (.int .i64 p_t.Slack), (.int .i64 p_t.Errors), (.bool p_t.Round)] p_t ⟨v1, ((h676.ext e739).sub (fun _ h => by cases h)), rfl⟩ x671 r860 hr861) ?_)
            rintro _ wd862 ⟨he863, cs864, rfl, hrd865⟩
            have e866 := e739.trans he863
            have e867 := e740.trans he863
            have e868 := e742.trans he863
            have hrd865 : cs864 = [(.int .i64 r860.Lo), (.int .i64 r860.Hi)] := hrd865
            subst hrd865
            refine T0_e rfl (eff_buildTC (xs := ([r860] : List Range)) (cells := [(.int .i64 r860.Lo), (.int .i64 r860.Hi)]) Tryd.underlying29 ei36 rfl (pc_cons rfl rfl pc_nil) rfl (Elems.cons (cs := [(.int .i64 r860.Lo), (.int .i64 r860.Hi)]) rfl Elems.nil) rfl (ltl_own (hL.chg e868) (h666.ext e866)) ?_)
            intro b872 wd869 he870 h871
            have e873 := e866.trans he870
            have e874 := e867.trans he870
            have e875 := e868.trans he870
            obtain ⟨zs877, hz878, h⟩ := bind_elim h
            refine T0_e rfl (eff_app Tryd.underlying29 ei36 rfl rfl rfl rfl (h666.ext e873) h871 hz878 ?_)
            intro v879 wd880 hc881 hbl882 h883
            have hn885 : blk v879 ≠ some b16 := ne_swap hbl882 hn679 (hB675.ext e873)
            have hn886 : blk v879 ≠ some b8 := ne_swap hbl882 hn680 (hB678.ext e873)
            have hf887 := fresh_swap hbl882 hf667 e875.size
            have h888 := (h673.ext e873).step (Stepp.swap hc881 hbl882)
            have h889 := (hB675.ext e873).chg hc881 (avoid1 hn679)
            have h890 := (h676.ext e873).step (Stepp.swap hc881 hbl882)
            have h891 := (hB678.ext e873).chg hc881 (avoid1 hn680)
            have h892 := (h724.ext e874).step (Stepp.swap hc881 hbl882)
            have h893 := h871.step (Stepp.swap hc881 hbl882)
            have e894 := chg_own e875 hc881 hf667
            refine T0_q (v := v879) rfl (yl_assign rfl) ?_
            refine T0_nil ?_
            replace h := some_out h
            subst h
            refine hK832 _ _ ?_
            exact ⟨zs877, v879, rfl, hs660, hs661, rfl, hs672, rfl, h888, h890, h889, h891, h883, hf887, hn885, hn886, e894⟩
          · replace h := cond_f hb859 h
            refine WC_skip ?_
            replace h := some_out h
            subst h
            refine hK832 _ _ ?_
            exact ⟨x664, v663, rfl, hs660, hs661, hs668, hs672, rfl, (h673.ext e739), (h676.ext e739), (hB675.ext e739), (hB678.ext e739), (h666.ext e739), hf667, hn679, hn680, e742⟩
      · rintro ρ wd808 ⟨x814, v813, rfl, hs810, hs811, hs818, hs819, hs820, h821, h824, hB823, hB826, h816, hf817, hn827, hn828, e809⟩
        replace h := hn831
        refine hK743 _ _ ?_
        refine WC_region ?_
        refine T0_q (v := (.bool ((decide (r728 ≤ p_t.Errors)) && r735))) rfl (yl_move hs820) ?_
        refine T0_q (v := (.bool ((decide (r728 ≤ p_t.Errors)) && r735))) rfl (yl_assign rfl) ?_
        refine T0_nil ?_
        refine hK711 _ _ ?_
        refine WC_region ?_
        refine T0_q (v := (.int .i64 x671)) rfl (yl_move hs819) ?_
        refine T0_q (v := (.int .i64 (w64 (x671 + 1)))) rfl (yl_add rfl rfl) ?_
        refine T0_q (v := (.int .i64 (w64 (x671 + 1)))) rfl (yl_assign rfl) ?_
        refine T0_nil ?_
        replace h := some_out h
        subst h
        refine hK700 _ _ _ rfl ?_
        exact ⟨x814, ((decide (r728 ≤ p_t.Errors)) && r735), w64 (x671 + 1), v813, rfl, hs810, hs811, hs818, rfl, rfl, h821, h824, hB823, hB826, h816, hf817, hn827, hn828, e809⟩
    · replace h := cond_f hb710 h
      refine WC_exit ?_
      replace h := some_out h
      subst h
      have ho := hx699 _ rfl
      subst ho
      refine hK701 _ _ ?_
      exact ⟨x664, v663, rfl, hs668, (h666.ext he708), hf667, e709⟩
  · rintro ρ wd686 ⟨x690, v689, rfl, hs694, h692, hf693, e687⟩
    replace h := hn697
    refine hK28 _ _ ?_
    refine WC_seqK fun K896 hK896 => ?_
    refine WC_region ?_
    refine T0_q (v := v689) rfl (yl_move hs694) ?_
    refine T0_q (v := v689) rfl (yl_assign rfl) ?_
    refine T0_nil ?_
    refine hK896 _ _ ?_
    refine WC_ret ?_
    replace h := some_out h
    subst h
    exact ⟨[v689], ⟨rfl, trivial⟩, e687, v689, rfl, (h692.rdL (sub_skip (sub_refl _)) hL hf693)⟩

end Go.Gw
