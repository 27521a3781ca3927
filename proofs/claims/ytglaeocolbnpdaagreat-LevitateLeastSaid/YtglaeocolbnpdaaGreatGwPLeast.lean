/- LevitateLeast answers true. Condition: none. -/
import Derived.Test.YtglaeocolbnpdaaGreatGwLev15
import Derived.Test.YtglaeocolbnpdaaGreatGwLawLevitateLeast
set_option maxRecDepth 8192
set_option linter.unusedSimpArgs false
namespace Go.Gw
open Go
theorem slow_run {p : LevitatePlant} (hs : Sh p) : Runs (law02_slow_spec p) fun _ => True := by
  unfold law02_slow_spec
  refine Runs.call (rPlantErr_ok p hs) ?_
  refine Runs.bif (fun _ => Runs.some trivial) fun h0 => ?_
  have h := ckP_right.1 (by simpa using h0 : (ckP p).2 = 0)
  refine Runs.callR (R := fun _ => True) ?_ (fun o _ => by cases o <;> exact ⟨_, rfl, trivial⟩)
  refine Runs.loop (fun s => ∃ m : Nat, s = (m : Int) ∧ m ≤ p.Maps.length) (fun s => p.Maps.length - s.toNat) ⟨0, rfl, Nat.zero_le _⟩ ?_
  rintro _ ⟨m, rfl, hm⟩
  unfold law02_slow_s2
  by_cases hlt : m < p.Maps.length
  · rw [lt_nat hlt, cond_true]
    have hml : (gm p m).length = p.Noise.length := h.sq _ (gm_mem hlt)
    refine Runs.callR (R := fun o => match o with | .inl (.inl _) => False | _ => True) ?_ ?_
    · refine Runs.loop (fun s => ∃ i : Nat, s = (i : Int) ∧ i ≤ p.Noise.length) (fun s => p.Noise.length - s.toNat) ⟨0, rfl, Nat.zero_le _⟩ ?_
      rintro _ ⟨i, rfl, hi⟩
      unfold law02_slow_s1
      rw [idx_gm hlt, Option.bind_some, hml]
      by_cases hil : i < p.Noise.length
      · rw [lt_nat hil, cond_true]
        have hrl := h.row_len hlt hil
        rw [loop_sum p.Noise.length (fun k => ((ge p m i k).natAbs : Int)), Option.bind_some, bwithin_ok, Option.bind_some]
        · refine Runs.bif (fun _ => Runs.some trivial) fun _ => ?_
          rw [w64n i (by have := h.n3; omega)]
          exact Runs.some ⟨⟨i + 1, rfl, by omega⟩, by dsimp only; omega⟩
        · intro k hk a
          unfold law02_slow_s0
          dsimp only
          have hg := h.ge_b hlt hil hk
          rw [idx_gm hlt, Option.bind_some, idx_gr (by omega), Option.bind_some, hrl, lt_nat hk, cond_true, Option.bind_some, idx_gr (by omega), Option.bind_some, idx_gi (by omega), Option.bind_some]
          change Option.bind (base_Size_spec (ge p m i k)) _ = _
          rw [bsize_ok (by omega), Option.bind_some, w64n k (by have := h.n3; omega)]
        · intro a
          unfold law02_slow_s0
          dsimp only
          rw [idx_gm hlt, Option.bind_some, idx_gr (by omega), Option.bind_some, hrl, lt_nat_no]; rfl
      · obtain rfl : i = p.Noise.length := by omega
        rw [lt_nat_no]; exact Runs.some trivial
    · intro o ho
      rw [w64n m (by have := h.m4; omega)]
      match o, ho with
      | .inl (.inr r), _ => 
        refine Runs.jl ?_
        cases r <;> trivial
      | .inr u, _ => exact Runs.jr (Runs.some ⟨⟨m + 1, rfl, by omega⟩, by dsimp only; omega⟩)
  · obtain rfl : m = p.Maps.length := by omega
    rw [lt_nat_no]; exact Runs.some trivial
theorem LevitateLeast_true (p : LevitatePlant) (x y : List Int) : law02_LevitateLeast_spec p x y = some true := by
  refine Runs.eq ?_
  unfold law02_LevitateLeast_spec
  refine Runs.call awake_ok ?_
  refine Runs.bif_f rfl ?_
  refine Runs.callR (Few_run p) fun b hb => ?_
  by_cases hc : (((!b) || decide (5 < (x.length : Int))) || decide (5 < (y.length : Int))) = true
  · rw [hc]; exact Runs.call rfl (Runs.some rfl)
  replace hc := Bool.not_eq_true _ ▸ hc
  rw [hc]
  simp only [Bool.or_eq_false_iff, Bool.not_eq_false', decide_eq_false_iff_not] at hc
  obtain ⟨⟨hb1, hx⟩, hy⟩ := hc
  have hsh := sh_few (hb hb1)
  refine Runs.callR (slow_run hsh) fun sl _ => ?_
  refine Runs.bif (fun _ => Runs.some rfl) fun _ => ?_
  refine Runs.call (CopyPlant_ok p hsh) ?_
  refine Runs.call (CopyInts_ok x (by omega)) ?_
  by_cases h0 : opB p x = 0
  · obtain ⟨hp, hbx⟩ := opB_right h0
    refine Runs.callR (lLeastBox_ok hp hbx) fun r hr => ?_
    refine Runs.call (rPlantErr_ok p hsh) ?_
    rw [hp.ck]
    simp only [decide_true, cond_true]
    rw [rBoxErr_ok p x (by omega), bxE_right.2 hbx]
    refine Runs.call rfl ?_
    refine Runs.bif_f rfl ?_
    refine Runs.call (rBoxErr_ok p y (by omega)) ?_
    have hn := hp.n3
    -- what is known of the other box
    have hk : ∃ kept : Bool, (kept = true → Bx p y ∧ Kept p y ∧ ∀ k, k < p.Noise.length → gi x k ≤ gi y k) ∧
        ∀ (f : Bool → Option Bool), (Option.bind (bif (decide (bxE p y = 0)) then law02_lies_spec x y else some default) fun r149 =>
        (Option.bind (α := (Bool)) (
          (bif ((decide (bxE p y = 0)) && r149) then (
            (Option.bind (ref02_FirstOut_spec p y) fun r212 =>
            some (!r212.2)
            )
          ) else (
            some false
          ))
        ) fun (x200 : Bool) => f x200)) = f kept := by
      by_cases h1 : bxE p y = 0
      · have hby := bxE_right.1 h1
        have hly : law02_lies_spec x y = some (liesB x y) := lies_ok (by rw [hbx.len, hby.len]) (by omega) fun k hk => by have := hby.ge k hk; have := hby.le k hk; omega
        rw [decide_eq_true h1, cond_true, hly]
        cases hl : liesB x y with
        | false => exact ⟨false, by simp, fun f => rfl⟩
        | true =>
          simp only [Option.bind_some, Bool.and_self, cond_true]
          rw [rFirstOut_ok hp hby.len hby.rng]
          cases hbr : brk p y with
          | some mi => exact ⟨false, by simp, fun f => by obtain ⟨m, i⟩ := mi; rfl⟩
          | none =>
            refine ⟨true, fun _ => ⟨hby, fun m hm i hi => brk_none hbr m hm i (by rw [hby.len]; exact hi), fun k hk => ?_⟩, fun f => rfl⟩
            exact (lies_iff.1 hl k (by rw [hbx.len]; exact hk)).2
      · rw [decide_eq_false h1]
        exact ⟨false, by simp, fun f => rfl⟩
    obtain ⟨kept, hk1, hk2⟩ := hk
    rw [hk2]
    refine Runs.callR (rLeastBox_ok hp hbx) fun q hq => ?_
    have heq := LbR.eq hr hq
    cases hq2 : q.2 with
    | false =>
      rw [hq2] at heq hq
      simp only [Bool.false_eq_true, if_false] at heq hq
      rcases hq with ⟨h3, _⟩ | ⟨h3, h4⟩
      · simp at h3
      · rw [heq, h3]
        simp only [Bool.not_false, cond_true]
        cases kept with
        | false => exact Runs.some rfl
        | true =>
          obtain ⟨a1, a2, a3⟩ := hk1 rfl
          exact absurd (fun k hk => (a1.rng k hk).2) (h4 y a2 a3)
    | true =>
      rw [hq2] at heq hq
      simp only [if_true] at heq hq
      rcases hq with ⟨_, h4⟩ | ⟨h3, _⟩
      · rw [heq]
        simp only [Bool.not_true, cond_false, decide_true, Bool.not_false, cond_true]
        have hql : q.1.length = p.Noise.length := h4.len
        rw [Ints_ok _ _ (by omega)]
        refine Runs.call rfl ?_
        refine Runs.bif_f (by simp) ?_
        refine Runs.call (CopyPlant_ok p hsh) ?_
        refine Runs.call (CopyInts_ok q.1 (by omega)) ?_
        refine Runs.call (CheckBox_ok hsh (by omega)) ?_
        have hbq : Bx p q.1 := ⟨hql, fun k hk => Int.le_trans (hbx.rng k (by omega)).1 (h4.from_ k (by omega)), fun k hk => h4.le k (by omega)⟩
        have hnb : brk p q.1 = none := by
          cases hbr : brk p q.1 with
          | none => rfl
          | some mi =>
            obtain ⟨m, i⟩ := mi
            obtain ⟨u1, u2, u3⟩ := brk_some hbr
            have := h4.kept m u1 i (by omega)
            dsimp only at this
            omega
        have hcb : cbV p q.1 = (⟨0, 0⟩, 0) := by unfold cbV; rw [if_pos (opB_zero hp hbq), hnb]; rfl
        rw [hcb]
        refine Runs.bif_f rfl ?_
        cases kept with
        | false => exact Runs.call rfl (Runs.some rfl)
        | true =>
          obtain ⟨a1, a2, a3⟩ := hk1 rfl
          simp only [Bool.not_true, Bool.not_false, cond_true]
          rw [lies_ok (by rw [hql, a1.len]) (by omega) fun k hk => by have := a1.ge k hk; have := a1.le k hk; omega]
          refine Runs.call rfl ?_
          have : liesB q.1 y = true := lies_iff.2 fun k hk => by
            have h5 := h4.least y a2 a3 k (by omega)
            have h6 := hbq.ge k hk
            dsimp only at h5
            omega
          rw [this]; exact Runs.some rfl
      · rw [Prod.mk.injEq] at h3; exact absurd h3.2 (by decide)
  · have hd : levitate_LeastBox_spec p x = some ([], opB p x) := by
      unfold levitate_LeastBox_spec
      rw [lopenBox_ok p x hsh (by omega), Option.bind_some, decide_eq_false h0]; rfl
    refine Runs.call hd ?_
    refine Runs.call (rPlantErr_ok p hsh) ?_
    refine Runs.call (b := opB p x) ?_ ?_
    · unfold opB
      by_cases h1 : (ckP p).2 = 0
      · rw [decide_eq_true h1, cond_true, rBoxErr_ok p x (by omega)]; simp [h1]
      · rw [decide_eq_false h1, cond_false]; simp [h1]
    · rw [decide_eq_false h0]
      refine Runs.bif_t rfl (Runs.some ?_)
      simp
end Go.Gw
