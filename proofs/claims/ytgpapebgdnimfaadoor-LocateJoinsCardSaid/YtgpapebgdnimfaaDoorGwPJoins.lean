/- LocateJoins answers true. Condition: none. -/
import Derived.Test.YtgpapebgdnimfaaDoorGwLoc10
import Derived.Test.YtgpapebgdnimfaaDoorGwLawLocateJoins
set_option maxRecDepth 4096
namespace Go.Gw
open Go
theorem CopyRests_ok (l : List LocateRest) (hl : l.length < 1073741824) : ref04_CopyRests_spec l = some l := by
  unfold ref04_CopyRests_spec; rw [app_ok (by simp; omega)]; simp
theorem lcmI_nat {a m : Int} (ha : 1 ≤ a) (hm : 1 ≤ m) : lcmI a m = ((Nat.lcm a.toNat m.toNat : Nat) : Int) := by
  unfold lcmI gcdI Nat.lcm
  have ea : a = (a.toNat : Int) := by omega
  have em : m = (m.toNat : Int) := by omega
  conv => lhs; rw [ea, em]
  simp only [Int.toNat_natCast]
  rw [Nat.mul_div_assoc _ (Nat.gcd_dvd_right _ _)]
  simp
theorem lcmI_dvd {a m n : Int} (ha : 1 ≤ a) (hm : 1 ≤ m) (h1 : a ∣ n) (h2 : m ∣ n) : lcmI a m ∣ n := by
  rw [lcmI_nat ha hm]
  have k1 : a.toNat ∣ n.natAbs := by have := Int.natAbs_dvd_natAbs.2 h1; rwa [show a.natAbs = a.toNat by omega] at this
  have k2 : m.toNat ∣ n.natAbs := by have := Int.natAbs_dvd_natAbs.2 h2; rwa [show m.natAbs = m.toNat by omega] at this
  have k3 := Nat.lcm_dvd k1 k2
  exact Int.natAbs_dvd_natAbs.1 (by simpa using k3)
theorem lcmI_left {a m : Int} : a ∣ lcmI a m := ⟨_, rfl⟩
theorem lcmI_right {a m : Int} (ha : 1 ≤ a) (hm : 1 ≤ m) : m ∣ lcmI a m := by rw [← lcmI_other ha hm]; exact ⟨_, Int.mul_comm _ _⟩
/-- One remainder more. -/
theorem crt_step {md rest M r n : Int} (hd : 1 ≤ md) (hM : 1 ≤ M) (h0 : 0 ≤ rest) (h1 : rest < md) (hn : 0 ≤ n) :
    (n % md = rest ∧ n % M = r) ↔ ∃ k, fnd (fun k => decide ((rest + k * md) % M = r)) M.toNat 0 = some k ∧ n % lcmI md M = (rest + k * md) % lcmI md M := by
  constructor
  · rintro ⟨hm, hr⟩
    have hq : n = rest + (n / md) * md := by have := Int.emod_add_mul_ediv n md; rw [hm, Int.mul_comm] at this; omega
    have hq0 : 0 ≤ n / md := Int.ediv_nonneg hn (by omega)
    have hkM : 0 ≤ (n / md) % M := Int.emod_nonneg _ (by omega)
    have hkM2 : (n / md) % M < M := Int.emod_lt_of_pos _ (by omega)
    have hp : (rest + ((n / md) % M) * md) % M = r := by
      rw [← hr]
      conv => rhs; rw [hq]
      rw [Int.add_emod, Int.mul_emod, Int.emod_emod_of_dvd _ (Int.dvd_refl M), ← Int.mul_emod, ← Int.add_emod]
    cases hf : fnd (fun k => decide ((rest + k * md) % M = r)) M.toNat 0 with
    | none =>
      exfalso
      have := fnd_none.1 hf ((n / md) % M).toNat (by omega) (by omega)
      rw [Int.toNat_of_nonneg hkM, decide_eq_false_iff_not] at this
      exact this hp
    | some k =>
      refine ⟨k, rfl, ?_⟩
      have hk := (fnd_some hf).1
      simp only [decide_eq_true_eq] at hk
      rw [Int.emod_eq_emod_iff_emod_sub_eq_zero]
      apply Int.emod_eq_zero_of_dvd
      have e : n - (rest + k * md) = (n / md - k) * md := by rw [Int.sub_mul]; omega
      apply lcmI_dvd hd hM
      · rw [e]; exact ⟨_, Int.mul_comm _ _⟩
      · apply Int.dvd_of_emod_eq_zero
        rw [← Int.emod_eq_emod_iff_emod_sub_eq_zero, hr, hk]
  · rintro ⟨k, hf, hn2⟩
    have hk := (fnd_some hf).1
    simp only [decide_eq_true_eq] at hk
    constructor
    · have := congrArg (· % md) hn2
      simp only [Int.emod_emod_of_dvd _ (lcmI_left (a := md) (m := M))] at this
      rw [this, Int.add_mul_emod_self_right, Int.emod_eq_of_lt h0 h1]
    · have := congrArg (· % M) hn2
      simp only [Int.emod_emod_of_dvd _ (lcmI_right hd hM)] at this
      rw [this, hk]
/-- Has a number all these remainders? -/
instance (n : Int) (l : List LocateRest) : Decidable (∀ x ∈ l, n % x.Modulus = x.Rest) := List.decidableBAll _ _
def allR (n : Int) (l : List LocateRest) : Prop := ∀ x ∈ l, n % x.Modulus = x.Rest
theorem crt_all {n : Int} (hn : 0 ≤ n) : ∀ (l : List LocateRest) (k : Nat) (a : Int × Int), oks l → 1 ≤ a.1 → 0 ≤ a.2 → a.2 < a.1 →
    ((n % a.1 = a.2 ∧ allR n l) ↔ ∃ b, fldx jf k a l = .inr b ∧ n % b.1 = b.2)
  | [], k, a, _, h1, h2, h3 => by
    constructor
    · rintro ⟨h, _⟩; exact ⟨a, rfl, h⟩
    · rintro ⟨b, hb, h⟩
      simp only [fldx, Sum.inr.injEq] at hb
      subst hb
      exact ⟨h, fun x hx => by cases hx⟩
  | x :: l, k, a, ho, h1, h2, h3 => by
    obtain ⟨hx1, hx2⟩ := ho x (List.mem_cons_self ..)
    have ho' : oks l := fun y hy => ho y (List.mem_cons_of_mem _ hy)
    have hb := lcmI_bound h1 hx1.1
    have hs := crt_step (md := a.1) (rest := a.2) (M := x.Modulus) (r := x.Rest) (n := n) h1 hx1.1 h2 h3 hn
    have e : (n % a.1 = a.2 ∧ allR n (x :: l)) ↔ ((n % a.1 = a.2 ∧ n % x.Modulus = x.Rest) ∧ allR n l) := by
      unfold allR
      simp only [List.mem_cons, forall_eq_or_imp]
      constructor
      · rintro ⟨p, q, r⟩; exact ⟨⟨p, q⟩, r⟩
      · rintro ⟨⟨p, q⟩, r⟩; exact ⟨p, q, r⟩
    rw [e, hs]
    simp only [fldx]
    cases hf : fnd (fun k => decide ((a.2 + k * a.1) % x.Modulus = x.Rest)) x.Modulus.toNat 0 with
    | none =>
      have ej : jf k a x = .inl (⟨0, 0⟩, 12) := by unfold jf; rw [hf]
      rw [ej]
      constructor
      · rintro ⟨⟨j, hj, _⟩, _⟩; cases hj
      · rintro ⟨b, hb, _⟩; cases hb
    | some j =>
      have ej : jf k a x = .inr (lcmI a.1 x.Modulus, (a.2 + j * a.1) % lcmI a.1 x.Modulus) := by unfold jf; rw [hf]
      rw [ej]
      have ih := crt_all hn l (k + 1) (lcmI a.1 x.Modulus, (a.2 + j * a.1) % lcmI a.1 x.Modulus) ho' (show 1 ≤ lcmI a.1 x.Modulus by omega) (Int.emod_nonneg _ (by omega)) (Int.emod_lt_of_pos _ (by omega))
      simp only at ih ⊢
      rw [← ih]
      constructor
      · rintro ⟨⟨j', hj, h⟩, h'⟩; cases hj; exact ⟨h, h'⟩
      · rintro ⟨h, h'⟩; exact ⟨⟨j, rfl, h⟩, h'⟩
theorem allf_12 : ∀ (l : List LocateRest) (k : Nat) (a : Int) (r : LocateRest × Int), fldx allf k a l = .inl r → r.2 = 8
  | [], _, _, _, h => by cases h
  | x :: l, k, a, r, h => by
    simp only [fldx, allf] at h
    split at h
    · rename_i r' h'
      split at h'
      · cases h'; cases h; rfl
      · cases h'
    · exact allf_12 l _ _ _ h
theorem jf_12 : ∀ (l : List LocateRest) (k : Nat) (a : Int × Int) (r : LocateRest × Int), fldx jf k a l = .inl r → r.2 = 12
  | [], _, _, _, h => by cases h
  | x :: l, k, a, r, h => by
    simp only [fldx] at h
    split at h
    · rename_i r' h'
      cases h
      unfold jf at h'
      split at h'
      · cases h'; rfl
      · cases h'
    · exact jf_12 l _ _ _ h
theorem jf_pos : ∀ (l : List LocateRest) (k : Nat) (a b : Int × Int), oks l → 1 ≤ a.1 → fldx jf k a l = .inr b → 1 ≤ b.1
  | [], _, a, b, _, h1, h => by simp only [fldx, Sum.inr.injEq] at h; subst h; exact h1
  | x :: l, k, a, b, ho, h1, h => by
    obtain ⟨hx1, hx2⟩ := ho x (List.mem_cons_self ..)
    have hb := lcmI_bound h1 hx1.1
    simp only [fldx] at h
    split at h
    · cases h
    · rename_i a' h'
      refine jf_pos l _ _ _ (fun y hy => ho y (List.mem_cons_of_mem _ hy)) ?_ h
      unfold jf at h'
      split at h'
      · cases h'
      · simp only [Sum.inr.injEq] at h'
        subst h'; simp only; omega
/-- What the joined remainder says, where the statement asks. -/
theorem joinF_says {l : List LocateRest} {n : Int} (hn : 0 ≤ n) (hd : (joinF l).2 = 0 ∨ (joinF l).2 = 12) : oks l ∧ ((joinF l).2 = 0 → 1 ≤ (joinF l).1.Modulus) ∧ (allR n l ↔ ((joinF l).2 = 0 ∧ n % (joinF l).1.Modulus = (joinF l).1.Rest)) := by
  unfold joinF at hd ⊢
  by_cases h1 : l.length = 0
  · rw [if_pos h1] at hd; simp at hd
  · rw [if_neg h1] at hd ⊢
    by_cases h2 : 6 < (l.length : Int)
    · rw [if_pos h2] at hd; simp at hd
    · rw [if_neg h2] at hd ⊢
      cases h3 : l.any (fun x => !okR x) with
      | true => rw [h3] at hd; simp at hd
      | false =>
        rw [h3] at hd
        simp only [Bool.false_eq_true, if_false] at hd ⊢
        have ho := oks_of h3
        cases ha : fldx allf 0 1 l with
        | inl r => rw [ha] at hd; have := allf_12 _ _ _ _ ha; simp only at hd; omega
        | inr u =>
          rw [ha] at hd
          have hc := crt_all hn l 0 (1, 0) ho (by decide) (by decide) (by decide)
          simp only [Int.emod_one, true_and] at hc
          cases hj : fldx jf 0 (1, 0) l with
          | inl r =>
            rw [hj] at hc
            have := jf_12 _ _ _ _ hj
            refine ⟨ho, fun h => by simp only at h; omega, ?_⟩
            rw [hc]
            constructor
            · rintro ⟨b, hb, _⟩; cases hb
            · rintro ⟨h, _⟩; simp only at h; omega
          | inr b =>
            rw [hj] at hc
            have hp := jf_pos _ _ _ _ ho (by decide) hj
            refine ⟨ho, fun _ => hp, ?_⟩
            rw [hc]
            constructor
            · rintro ⟨b', hb, h⟩; cases hb; exact ⟨rfl, h⟩
            · rintro ⟨_, h⟩; exact ⟨b, rfl, h⟩
theorem joinsLoop_ok {l : List LocateRest} {n : Int} (hl : l.length ≤ 8) (ho : oks l) (hn : 0 ≤ n) : loop (law04_LocateJoins_s0 l n) (true, 0) = some (l.all fun x => decide (n % x.Modulus = x.Rest)) := by
  have h := loop_fld (step := law04_LocateJoins_s0 l n) l (fun _ (a : Bool) x => a && decide (n % x.Modulus = x.Rest)) (fun a k => (a, (k : Int))) (fun a => a) (fun _ _ => True) true trivial ?_ ?_
  · have key : ∀ (l : List LocateRest) (k : Nat) (a : Bool), fld (fun _ (a : Bool) (x : LocateRest) => a && decide (n % x.Modulus = x.Rest)) k a l = (a && l.all fun x => decide (n % x.Modulus = x.Rest)) := by
      intro l
      induction l with
      | nil => intro k a; simp [fld]
      | cons x l ih => intro k a; simp only [fld, ih, List.all_cons, Bool.and_assoc]
    rw [show (true, (0 : Int)) = (true, ((0 : Nat) : Int)) from rfl, h.1, key, Bool.true_and]
  · intro k hk a _
    refine ⟨?_, trivial⟩
    have hx := (ho _ (List.getElem_mem hk)).1
    show law04_LocateJoins_s0 l n (a, (k : Int)) = _
    unfold law04_LocateJoins_s0
    simp only
    rw [lt_nat hk, idx_nat hk, w64n k (by omega)]
    cases a with
    | false => simp
    | true =>
      simp only [cond_true, Option.bind_some, Bool.true_and]
      rw [rem_ok (by omega), Int.tmod_eq_emod_of_nonneg hn]; rfl
  · intro a _
    show law04_LocateJoins_s0 l n (a, (l.length : Int)) = _
    unfold law04_LocateJoins_s0
    simp only
    rw [lt_nat_no]; rfl
instance (n : Int) (l : List LocateRest) : Decidable (allR n l) := by unfold allR; infer_instance
theorem LocateJoins_true (l : List LocateRest) (n : Int) : law04_LocateJoins_spec l n = some true := by
  unfold law04_LocateJoins_spec
  rw [awake_ok]
  simp only [Option.bind_some, Bool.not_true, cond_false]
  by_cases hc : 8 < (l.length : Int)
  · simp [hc]
  · simp only [hc, decide_false, cond_false]
    have hl : l.length < 1073741824 := by omega
    rw [CopyRests_ok l hl]
    simp only [Option.bind_some]
    rw [Joined_ok l hl, rJoined_ok l hl]
    simp only [Option.bind_some, decide_true, Bool.not_true, Bool.or_self, cond_false, bwithin_ok]
    by_cases hn : 0 ≤ n ∧ n ≤ 1000000000000000
    · simp only [hn.1, hn.2, decide_true, Bool.and_self, Bool.not_true, Bool.false_or]
      by_cases hd : (joinF l).2 = 0 ∨ (joinF l).2 = 12
      · have e : (!decide ((joinF l).2 = 0) && !decide ((joinF l).2 = 12)) = false := by
          rcases hd with h | h <;> simp [h]
        obtain ⟨ho, hp, hiff⟩ := joinF_says hn.1 hd
        rw [e, cond_false, joinsLoop_ok (by omega) ho hn.1]
        simp only [Option.bind_some]
        have e2 : (l.all fun x => decide (n % x.Modulus = x.Rest)) = decide (allR n l) := by
          rw [Bool.eq_iff_iff]; simp only [List.all_eq_true, decide_eq_true_eq]; rfl
        rw [e2]
        by_cases h0 : (joinF l).2 = 0
        · have := hp h0
          simp only [h0, decide_true, cond_true, Bool.true_and]
          rw [rem_ok (by omega), Int.tmod_eq_emod_of_nonneg hn.1]
          simp only [Option.bind_some]
          have : allR n l ↔ n % (joinF l).1.Modulus = (joinF l).1.Rest := by rw [hiff]; simp [h0]
          simp [this]
        · have : ¬ allR n l := fun h => h0 (hiff.1 h).1
          simp [h0, this]
      · have e : (!decide ((joinF l).2 = 0) && !decide ((joinF l).2 = 12)) = true := by
          simp only [Bool.and_eq_true, Bool.not_eq_true', decide_eq_false_iff_not]; omega
        rw [e]; rfl
    · have e : (decide (0 ≤ n) && decide (n ≤ 1000000000000000)) = false := by rw [Bool.eq_false_iff]; simp only [ne_eq, Bool.and_eq_true, decide_eq_true_eq]; exact hn
      rw [e]; rfl
end Go.Gw
