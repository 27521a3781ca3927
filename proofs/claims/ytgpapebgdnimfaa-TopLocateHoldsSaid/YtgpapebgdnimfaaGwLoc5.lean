/- Remainders joined: what both texts compute. Condition: the list is short. -/
import Derived.Test.YtgpapebgdnimfaaGwLoc4
set_option maxRecDepth 4096
namespace Go.Gw
open Go

def gcdI (a b : Int) : Int := (Nat.gcd a.toNat b.toNat : Nat)
theorem gcd_loop {step : (Int × Int) → Option ((Int × Int) ⊕ Int)} (hs : ∀ a b, step (a, b) = (bif (!decide (b = 0)) then (Option.bind (rem a b) fun q => some (.inl (b, q))) else some (.inr a))) : ∀ (b a : Nat), loop step ((a : Int), (b : Int)) = some ((Nat.gcd a b : Nat) : Int) := by
  intro b
  induction b using Nat.strongRecOn with
  | _ b ih =>
    intro a
    by_cases h : b = 0
    · subst h
      refine loop_inr ?_
      rw [hs]; simp
    · have h2 : step ((a : Int), (b : Int)) = some (.inl ((b : Int), ((a % b : Nat) : Int))) := by
        rw [hs, rem_ok (by omega)]
        have : (a : Int).tmod (b : Int) = ((a % b : Nat) : Int) := (Int.ofNat_tmod _ _).symm
        rw [this]
        have hb : decide ((b : Int) = 0) = false := by simp; omega
        rw [hb]; rfl
      rw [loop_inl h2, ih (a % b) (Nat.mod_lt _ (by omega)) b]
      rw [Nat.gcd_comm a b, Nat.gcd_rec b a, Nat.gcd_comm b (a % b)]
theorem divisor_ok {a b : Int} (ha : 0 ≤ a) (hb : 0 ≤ b) : locate_divisor_spec a b = some (gcdI a b) := by
  unfold locate_divisor_spec
  have := gcd_loop (step := locate_divisor_s0) (fun _ _ => rfl) b.toNat a.toNat
  rw [Int.toNat_of_nonneg ha, Int.toNat_of_nonneg hb] at this
  rw [this]; rfl
theorem gcdI_pos {a b : Int} (ha : 1 ≤ a) : 1 ≤ gcdI a b := by
  unfold gcdI
  have := Nat.gcd_pos_of_pos_left b.toNat (show 0 < a.toNat by omega)
  omega
theorem gcdI_dvd {a b : Int} (ha : 0 ≤ a) (hb : 0 ≤ b) : ∃ u v, a = gcdI a b * u ∧ b = gcdI a b * v := by
  obtain ⟨u, hu⟩ := Nat.gcd_dvd_left a.toNat b.toNat
  obtain ⟨v, hv⟩ := Nat.gcd_dvd_right a.toNat b.toNat
  refine ⟨u, v, ?_, ?_⟩
  · unfold gcdI; rw [← Int.natCast_mul, ← hu]; omega
  · unfold gcdI; rw [← Int.natCast_mul, ← hv]; omega
/-- The least common multiple, as the first text forms it. -/
def lcmI (a m : Int) : Int := a * (m / gcdI a m)
theorem lcmI_other {a m : Int} (ha : 1 ≤ a) (hm : 1 ≤ m) : a / gcdI a m * m = lcmI a m := by
  obtain ⟨u, v, hu, hv⟩ := gcdI_dvd (a := a) (b := m) (by omega) (by omega)
  have hg := gcdI_pos (a := a) (b := m) ha
  unfold lcmI
  generalize gcdI a m = g at hu hv hg
  subst hu; subst hv
  rw [Int.mul_ediv_cancel_left _ (by omega), Int.mul_ediv_cancel_left _ (by omega)]
  ac_rfl
theorem lcmI_bound {a m : Int} (ha : 1 ≤ a) (hm : 1 ≤ m) : a ≤ lcmI a m ∧ lcmI a m ≤ a * m ∧ 1 ≤ m / gcdI a m ∧ m / gcdI a m ≤ m := by
  obtain ⟨u, v, hu, hv⟩ := gcdI_dvd (a := a) (b := m) (by omega) (by omega)
  have hg := gcdI_pos (a := a) (b := m) ha
  have e : m / gcdI a m = v := by conv => lhs; rw [hv]; rw [← hv]; 
                                  rw [show m / gcdI a m = (gcdI a m * v) / gcdI a m by rw [← hv], Int.mul_ediv_cancel_left _ (by omega)]
  have hv1 : 1 ≤ v := by
    rcases Int.lt_or_le v 1 with h | h
    · have : gcdI a m * v ≤ 0 := Int.mul_nonpos_of_nonneg_of_nonpos (by omega) (by omega)
      omega
    · exact h
  have hvm : v ≤ m := by
    have : 1 * v ≤ gcdI a m * v := Int.mul_le_mul_of_nonneg_right hg (by omega)
    omega
  unfold lcmI
  rw [e]
  refine ⟨?_, Int.mul_le_mul_of_nonneg_left hvm (by omega), hv1, hvm⟩
  have : a * 1 ≤ a * v := Int.mul_le_mul_of_nonneg_left hv1 (by omega)
  omega

def okR (x : LocateRest) : Bool := (decide (1 ≤ x.Modulus) && decide (x.Modulus ≤ 1000)) && (decide (0 ≤ x.Rest) && decide (x.Rest ≤ x.Modulus - 1))
theorem okR_iff {x : LocateRest} : okR x = true ↔ (1 ≤ x.Modulus ∧ x.Modulus ≤ 1000) ∧ 0 ≤ x.Rest ∧ x.Rest ≤ x.Modulus - 1 := by simp [okR]
def fnd (p : Nat → Bool) : Nat → Nat → Option Nat
  | 0, _ => none
  | n + 1, k => if p k then some k else fnd p n (k + 1)
theorem fnd_some {p : Nat → Bool} : ∀ {n k j : Nat}, fnd p n k = some j → p j = true ∧ k ≤ j ∧ j < k + n ∧ ∀ i, k ≤ i → i < j → p i = false
  | 0, _, _, h => by cases h
  | n + 1, k, j, h => by
    simp only [fnd] at h
    split at h
    · rename_i hp
      cases h
      exact ⟨hp, by omega, by omega, fun i h1 h2 => by omega⟩
    · rename_i hp
      obtain ⟨h1, h2, h3, h4⟩ := fnd_some h
      refine ⟨h1, by omega, by omega, fun i hi1 hi2 => ?_⟩
      by_cases hik : i = k
      · subst hik; simpa using hp
      · exact h4 i (by omega) hi2
theorem fnd_none {p : Nat → Bool} : ∀ {n k : Nat}, fnd p n k = none ↔ ∀ i, k ≤ i → i < k + n → p i = false
  | 0, k => by simp [fnd]; intro i h1 h2; omega
  | n + 1, k => by
    simp only [fnd]
    cases hp : p k with
    | true => simp; exact ⟨k, by omega, by omega, hp⟩
    | false =>
      simp only [Bool.false_eq_true, if_false, fnd_none]
      constructor
      · intro h i h1 h2
        by_cases hik : i = k
        · subst hik; exact hp
        · exact h i (by omega) (by omega)
      · intro h i h1 h2; exact h i (by omega) (by omega)

def allf (_ : Nat) (a : Int) (x : LocateRest) : (LocateRest × Int) ⊕ Int := if 1000000000 < lcmI a x.Modulus then .inl (⟨0, 0⟩, 8) else .inr (lcmI a x.Modulus)
def jf (_ : Nat) (a : Int × Int) (x : LocateRest) : (LocateRest × Int) ⊕ (Int × Int) :=
  match fnd (fun k => decide ((a.2 + k * a.1) % x.Modulus = x.Rest)) x.Modulus.toNat 0 with
  | none => .inl (⟨0, 0⟩, 12)
  | some k => .inr (lcmI a.1 x.Modulus, (a.2 + k * a.1) % lcmI a.1 x.Modulus)
def joinF (l : List LocateRest) : LocateRest × Int :=
  if l.length = 0 then (⟨0, 0⟩, 10) else if 6 < (l.length : Int) then (⟨0, 0⟩, 8) else if l.any (fun x => !okR x) then (⟨0, 0⟩, 2) else
    match fldx allf 0 1 l with
    | .inl r => r
    | .inr _ => match fldx jf 0 (1, 0) l with
      | .inl r => r
      | .inr a => (⟨a.1, a.2⟩, 0)

theorem any_srch {α ρ : Type} (p : α → Bool) (r : ρ) : ∀ (l : List α) (k : Nat), srch p (fun _ _ => r) k l = if l.any p then .inl r else .inr ()
  | [], _ => rfl
  | x :: xs, k => by
    cases h : p x with
    | true => simp [srch, h]
    | false => simp only [srch, h, Bool.false_eq_true, if_false, List.any_cons, Bool.false_or]; exact any_srch p r xs (k + 1)
theorem J0_ok (l : List LocateRest) (hl : l.length < 1073741824) : loop (locate_Joined_s0 l) 0 = some (if l.any (fun x => !okR x) then .inl (⟨0, 0⟩, 2) else .inr ()) := by
  rw [loop_srch l (fun x => !okR x) (fun _ _ => (⟨⟨0, 0⟩, 2⟩ : LocateRest × Int)), any_srch]
  · intro k hk
    unfold locate_Joined_s0
    rw [lt_nat hk, idx_nat hk, w64n k (by omega)]
    simp only [within_ok, Option.bind_some, cond_true]
    generalize l[k] = x
    unfold okR
    by_cases h : 1 ≤ x.Modulus ∧ x.Modulus ≤ 1000
    · simp only [h.1, h.2, decide_true, Bool.and_self, Bool.not_true, Bool.not_false, cond_true, Option.bind_some, Bool.false_or, Bool.true_and]
      rw [w64_id (by omega)]
    · have h' : (decide (1 ≤ x.Modulus) && decide (x.Modulus ≤ 1000)) = false := by rw [Bool.eq_false_iff]; simp; omega
      rw [h']; rfl
  · unfold locate_Joined_s0
    rw [lt_nat_no]; rfl
theorem tdiv_pos {a b : Int} (ha : 0 ≤ a) : a.tdiv b = a / b := Int.tdiv_eq_ediv_of_nonneg ha
def oks (l : List LocateRest) : Prop := ∀ x ∈ l, (1 ≤ x.Modulus ∧ x.Modulus ≤ 1000) ∧ 0 ≤ x.Rest ∧ x.Rest ≤ x.Modulus - 1
theorem J1_ok (l : List LocateRest) (hl : l.length ≤ 6) (ho : oks l) : loop (locate_Joined_s1 l) (1, 0) = some (mapR (fun _ => ()) (fldx allf 0 1 l)) := by
  have h := loop_fldx (step := locate_Joined_s1 l) l allf (fun a k => (a, (k : Int))) (fun _ => ()) (fun a _ => 1 ≤ a ∧ a ≤ 1000000000) 1 (by decide) ?_ ?_
  · exact h.1
  · intro k hk a ha
    obtain ⟨h1, h2⟩ := ho _ (List.getElem_mem hk)
    have hb := lcmI_bound (a := a) (m := l[k].Modulus) ha.1 h1.1
    have hm : a * l[k].Modulus ≤ 1000000000 * 1000 := Int.mul_le_mul ha.2 h1.2 (by omega) (by omega)
    have e : locate_Joined_s1 l (a, (k : Int)) = (bif decide (1000000000 < lcmI a l[k].Modulus) then some (.inr (.inl (⟨0, 0⟩, 8))) else some (.inl (lcmI a l[k].Modulus, ((k + 1 : Nat) : Int)))) := by
      unfold locate_Joined_s1
      simp only
      rw [lt_nat hk, idx_nat hk, w64n k (by omega)]
      simp only [Option.bind_some, cond_true]
      rw [divisor_ok (by omega) (by omega)]
      simp only [Option.bind_some]
      have hg := gcdI_pos (a := a) (b := l[k].Modulus) ha.1
      rw [quo_ok (by omega), tdiv_pos (by omega), w64_id (x := l[k].Modulus / gcdI a l[k].Modulus) (by omega)]
      simp only [Option.bind_some]
      have : a * (l[k].Modulus / gcdI a l[k].Modulus) = lcmI a l[k].Modulus := rfl
      rw [this, w64_id (by omega)]
    simp only [e]
    unfold allf
    by_cases hc : 1000000000 < lcmI a l[k].Modulus
    · left; exact ⟨_, by rw [if_pos hc], by simp [hc]⟩
    · right; exact ⟨_, by rw [if_neg hc], by simp [hc], by omega⟩
  · intro a _
    show locate_Joined_s1 l (a, (l.length : Int)) = _
    unfold locate_Joined_s1
    simp only
    rw [lt_nat_no]; rfl
/-! ### The remainders one by one -/
theorem fnd_last {p : Nat → Bool} : ∀ (n k : Nat), (p (k + n) = true → 0 < n ∧ p k = true) → fnd p (n + 1) k = fnd p n k
  | 0, k, h => by
    simp only [fnd]
    cases hp : p k with
    | true => exact absurd (h (by simpa using hp)).1 (by omega)
    | false => simp
  | n + 1, k, h => by
    rw [fnd]
    conv => rhs; rw [fnd]
    cases hp : p k with
    | true => rfl
    | false =>
      simp only [Bool.false_eq_true, if_false]
      refine fnd_last n (k + 1) fun h2 => ?_
      have := (h (by rw [show k + (n + 1) = k + 1 + n by omega]; exact h2)).2
      rw [hp] at this; cases this
/-- Does the k-th number tried have the remainder? -/
def jp (x : LocateRest) (md rest : Int) (k : Nat) : Bool := decide ((rest + k * md) % x.Modulus = x.Rest)
theorem jp_last {x : LocateRest} {md rest : Int} (hM : 1 ≤ x.Modulus) : fnd (jp x md rest) (x.Modulus.toNat + 1) 0 = fnd (jp x md rest) x.Modulus.toNat 0 := by
  refine fnd_last _ _ fun h => ⟨by omega, ?_⟩
  unfold jp at h ⊢
  rw [Nat.zero_add, show ((x.Modulus.toNat : Nat) : Int) = x.Modulus by omega, Int.add_mul_emod_self_left] at h
  simpa using h
/-- Bounds within which nothing overflows. -/
structure JB (x : LocateRest) (md rest : Int) : Prop where
  m1 : 1 ≤ x.Modulus
  m2 : x.Modulus ≤ 1000
  d1 : 1 ≤ md
  d2 : md ≤ 1000000000000000
  r1 : 0 ≤ rest
  r2 : rest < md
theorem JB.mul {x : LocateRest} {md rest : Int} (h : JB x md rest) {k : Nat} (hk : k ≤ 1002) : 0 ≤ (k : Int) * md ∧ (k : Int) * md ≤ 1002000000000000000 := by
  have h1 := h.d1; have h2 := h.d2
  refine ⟨Int.mul_nonneg (by omega) (by omega), ?_⟩
  have : (k : Int) * md ≤ 1002 * 1000000000000000 := Int.mul_le_mul (by omega) h2 (by omega) (by omega)
  omega
theorem J2_ok {x : LocateRest} {md rest : Int} (h : JB x md rest) : ∀ (n k : Nat), k + (n + 1) = x.Modulus.toNat + 1 → loop (locate_Joined_s2 x md) ((k : Int), rest + k * md) = some (match fnd (jp x md rest) (n + 1) k with | none => .inl (.inr (.inl (⟨0, 0⟩, 12))) | some j => .inr (rest + j * md)) := by
  have hm1 := h.m1; have hm2 := h.m2; have hr1 := h.r1; have hr2 := h.r2; have hd := h.d2
  intro n
  induction n with
  | zero =>
    intro k hk
    have hb := h.mul (k := k) (by omega)
    refine loop_inr ?_
    unfold locate_Joined_s2
    simp only
    rw [rem_ok (by omega), Int.tmod_eq_emod_of_nonneg (by omega), w64n k (by omega)]
    simp only [Option.bind_some, fnd, jp]
    by_cases hp : (rest + (k : Int) * md) % x.Modulus = x.Rest
    · simp [hp]
    · have : x.Modulus < ((k + 1 : Nat) : Int) := by omega
      simp only [hp, decide_false, Bool.not_false, cond_true, this, decide_true, Bool.false_eq_true, if_false]
  | succ n ih =>
    intro k hk
    have hb := h.mul (k := k) (by omega)
    have hb2 := h.mul (k := k + 1) (by omega)
    by_cases hp : (rest + (k : Int) * md) % x.Modulus = x.Rest
    · refine loop_inr ?_
      unfold locate_Joined_s2
      simp only
      rw [rem_ok (by omega), Int.tmod_eq_emod_of_nonneg (by omega)]
      simp [fnd, jp, hp]
    · have e : locate_Joined_s2 x md ((k : Int), rest + k * md) = some (.inl (((k + 1 : Nat) : Int), rest + ((k + 1 : Nat) : Int) * md)) := by
        unfold locate_Joined_s2
        simp only
        have e1 : ((k + 1 : Nat) : Int) * md = k * md + md := by rw [Int.natCast_add, Int.add_mul]; simp
        rw [e1] at hb2 ⊢
        rw [rem_ok (by omega), Int.tmod_eq_emod_of_nonneg (by omega), w64n k (by omega), w64_id (x := rest + (k : Int) * md + md) (by omega)]
        have : ¬ x.Modulus < ((k + 1 : Nat) : Int) := by omega
        simp only [Option.bind_some, hp, decide_false, Bool.not_false, cond_true, this, cond_false, Int.add_assoc]
      rw [loop_inl e, ih (k + 1) (by omega)]
      conv => rhs; rw [fnd]
      simp [jp, hp]
def P1000 (k : Nat) : Int := 1000 ^ k
theorem P1000_le {k : Nat} (h : k ≤ 5) : P1000 k ≤ 1000000000000000 := by
  unfold P1000
  have : k = 0 ∨ k = 1 ∨ k = 2 ∨ k = 3 ∨ k = 4 ∨ k = 5 := by omega
  rcases this with rfl | rfl | rfl | rfl | rfl | rfl <;> decide
theorem P1000_succ (k : Nat) : P1000 (k + 1) = P1000 k * 1000 := by unfold P1000; rw [Int.pow_succ]
def JInv (a : Int × Int) (k : Nat) : Prop := 1 ≤ a.1 ∧ a.1 ≤ P1000 k ∧ 0 ≤ a.2 ∧ a.2 < a.1
theorem jf_inv {l : List LocateRest} (hl : l.length ≤ 6) (ho : oks l) {k : Nat} (hk : k < l.length) {a : Int × Int} (ha : JInv a k) : JB l[k] a.1 a.2 ∧ (∀ a', jf k a l[k] = .inr a' → JInv a' (k + 1)) ∧ 1 ≤ lcmI a.1 l[k].Modulus ∧ lcmI a.1 l[k].Modulus ≤ 1000000000000000000 := by
  obtain ⟨h1, h2⟩ := ho _ (List.getElem_mem hk)
  obtain ⟨a1, a2, a3, a4⟩ := ha
  have hp := P1000_le (k := k) (by omega)
  have hb := lcmI_bound a1 h1.1
  have hm : a.1 * l[k].Modulus ≤ P1000 k * 1000 := Int.mul_le_mul a2 h1.2 (by omega) (by omega)
  refine ⟨⟨h1.1, h1.2, a1, by omega, a3, a4⟩, fun a' hj => ?_, by omega, by omega⟩
  unfold jf at hj
  split at hj
  · cases hj
  · simp only [Sum.inr.injEq] at hj
    subst hj
    refine ⟨?_, ?_, Int.emod_nonneg _ (by omega), Int.emod_lt_of_pos _ (by omega)⟩
    · simp only; omega
    · rw [P1000_succ]; simp only; omega
theorem J3_ok (l : List LocateRest) (hl : l.length ≤ 6) (ho : oks l) : loop (locate_Joined_s3 l) (0, 1, 0) = some (mapR (fun a => a) (fldx jf 0 (1, 0) l)) := by
  have h := loop_fldx (step := locate_Joined_s3 l) l jf (fun a k => ((k : Int), a.1, a.2)) (fun a => a) JInv (1, 0) ⟨by decide, by decide, by decide, by decide⟩ ?_ ?_
  · exact h.1
  · intro k hk a ha
    obtain ⟨hJ, hI, hl1, hl2⟩ := jf_inv hl ho hk ha
    have hm1 := hJ.m1; have hd1 := hJ.d1; have hd2 := hJ.d2; have hm2 := hJ.m2
    have h2 := J2_ok hJ l[k].Modulus.toNat 0 (by omega)
    rw [jp_last hm1] at h2
    have e : locate_Joined_s3 l ((k : Int), a.1, a.2) = (match fnd (jp l[k] a.1 a.2) l[k].Modulus.toNat 0 with | none => some (.inr (.inl (⟨0, 0⟩, 12))) | some j => some (.inl (((k + 1 : Nat) : Int), lcmI a.1 l[k].Modulus, (a.2 + j * a.1) % lcmI a.1 l[k].Modulus))) := by
      unfold locate_Joined_s3
      simp only
      rw [lt_nat hk, idx_nat hk, w64n k (by omega)]
      simp only [Option.bind_some, cond_true]
      have e0 : ((0 : Int), a.2) = (((0 : Nat) : Int), a.2 + ((0 : Nat) : Int) * a.1) := by simp
      rw [e0, h2]
      cases hf : fnd (jp l[k] a.1 a.2) l[k].Modulus.toNat 0 with
      | none => rfl
      | some j =>
        obtain ⟨_, _, hj, _⟩ := fnd_some hf
        have hb := hJ.mul (k := j) (by omega)
        have hr := hJ.r1; have hr2 := hJ.r2
        simp only [Option.bind_some, jn0]
        rw [divisor_ok (by omega) (by omega)]
        simp only [Option.bind_some]
        have hg := gcdI_pos (a := a.1) (b := l[k].Modulus) hd1
        have hbd := lcmI_bound hd1 hm1
        rw [quo_ok (by omega), tdiv_pos (by omega), w64_id (x := l[k].Modulus / gcdI a.1 l[k].Modulus) (by omega)]
        simp only [Option.bind_some]
        have : a.1 * (l[k].Modulus / gcdI a.1 l[k].Modulus) = lcmI a.1 l[k].Modulus := rfl
        rw [this, w64_id (x := lcmI a.1 l[k].Modulus) (by omega), rem_ok (by omega), Int.tmod_eq_emod_of_nonneg (by omega)]
        rfl
    show (∃ r, jf k a l[k] = .inl r ∧ locate_Joined_s3 l ((k : Int), a.1, a.2) = _) ∨ (∃ a', jf k a l[k] = .inr a' ∧ locate_Joined_s3 l ((k : Int), a.1, a.2) = _ ∧ _)
    rw [e]
    have ej : jf k a l[k] = match fnd (jp l[k] a.1 a.2) l[k].Modulus.toNat 0 with | none => .inl (⟨0, 0⟩, 12) | some j => .inr (lcmI a.1 l[k].Modulus, (a.2 + j * a.1) % lcmI a.1 l[k].Modulus) := rfl
    cases hf : fnd (jp l[k] a.1 a.2) l[k].Modulus.toNat 0 with
    | none => left; rw [hf] at ej; exact ⟨_, ej, rfl⟩
    | some j => right; rw [hf] at ej; exact ⟨_, ej, rfl, hI _ ej⟩
  · intro a _
    show locate_Joined_s3 l ((l.length : Int), a.1, a.2) = _
    unfold locate_Joined_s3
    simp only
    rw [lt_nat_no]; rfl
theorem oks_of {l : List LocateRest} (h : (l.any fun x => !okR x) = false) : oks l := fun x hx => by
  rw [List.any_eq_false] at h
  have := h x hx
  exact okR_iff.1 (by simpa using this)
theorem Joined_ok (l : List LocateRest) (hl : l.length < 1073741824) : locate_Joined_spec l = some (joinF l) := by
  unfold locate_Joined_spec
  simp only [unless_ok, Option.bind_some]
  rw [first_ok _ (by simp), J0_ok l hl]
  simp only [Option.bind_some, frst]
  unfold joinF
  by_cases h1 : l.length = 0
  · simp [h1]
  · have h1' : decide (0 < (l.length : Int)) = true := by rw [decide_eq_true_eq]; omega
    simp only [h1, h1', cond_true, if_true, if_false]
    by_cases h2 : 6 < (l.length : Int)
    · have h2' : decide ((l.length : Int) ≤ 6) = false := by rw [decide_eq_false_iff_not]; omega
      simp [h2, h2']
    · have h2' : decide ((l.length : Int) ≤ 6) = true := by rw [decide_eq_true_eq]; omega
      simp only [h2, h2', cond_true, if_true, if_false, decide_true, Bool.not_true, cond_false]
      cases h3 : l.any (fun x => !okR x) with
      | true => rfl
      | false =>
        have ho := oks_of h3
        simp only [Bool.false_eq_true, if_false, jn0]
        rw [J1_ok l (by omega) ho, J3_ok l (by omega) ho]
        cases fldx allf 0 1 l with
        | inl r => rfl
        | inr u => cases fldx jf 0 (1, 0) l <;> rfl
end Go.Gw
