/- Laws of the walk. Condition: each theorem says its own. -/
import Derived.Test.YtglaeocolbnpdaaGreatGwLev7
section
set_option maxRecDepth 8192
set_option linter.unusedSimpArgs false
set_option linter.unusedVariables false
namespace Go.Gw
open Go

def bw : Nat → Int
  | 0 => 1
  | n + 1 => bw n * 1000000000
theorem JU : ∀ n, 0 < bw n
  | 0 => by decide
  | n + 1 => by have := JU n; simp only [bw]; omega
theorem Qkd (m : Nat) : ∀ n, bw (m + n) = bw m * bw n
  | 0 => by simp [bw]
  | n + 1 => by
    have : m + (n + 1) = (m + n) + 1 := by omega
    rw [this]; simp only [bw]; rw [Qkd m n, Int.mul_assoc]
def Xg (l : List Int) (n : Nat) : Int := Q0 (fun k => gi l k * bw k) n
def dv (l : List Int) : Int := Xg l l.length
def Dg (l : List Int) : Prop := ∀ k, 0 ≤ gi l k ∧ gi l k ≤ 999999999
theorem Qaf {l : List Int} {k : Nat} (h : l.length ≤ k) : gi l k = 0 := by
  unfold gi; simp [List.getD_eq_getElem?_getD, List.getElem?_eq_none h]
theorem Qqe {l m : List Int} {n : Nat} (h : ∀ k, k < n → gi l k = gi m k) : Xg l n = Xg m n := Qau fun k hk => by rw [h k hk]
theorem Qfn {l : List Int} {n : Nat} : ∀ j, (∀ k, n ≤ k → k < n + j → gi l k = 0) → Xg l (n + j) = Xg l n
  | 0, _ => rfl
  | j + 1, h => by
    have e : n + (j + 1) = (n + j) + 1 := by omega
    rw [e]
    unfold Xg
    simp only [Q0]
    rw [h (n + j) (by omega) (by omega)]
    have := Qfn (l := l) (n := n) j fun k h1 h2 => h k h1 (by omega)
    unfold Xg at this
    omega
theorem Qki {l : List Int} {n : Nat} (h : l.length ≤ n) : Xg l n = dv l := by
  have := Qfn (l := l) (n := l.length) (n - l.length) fun k h1 _ => Qaf h1
  rw [show l.length + (n - l.length) = n by omega] at this
  exact this
theorem Qbk {l : List Int} (h : Dg l) : ∀ n, 0 ≤ Xg l n ∧ Xg l n ≤ bw n - 1
  | 0 => by simp [Xg, Q0, bw]
  | n + 1 => by
    have ih := Qbk h n
    have hd := h n
    have hb := JU n
    unfold Xg at ih ⊢
    simp only [Q0, bw]
    have h1 : 0 ≤ gi l n * bw n := Int.mul_nonneg hd.1 (by omega)
    have h2 : gi l n * bw n ≤ 999999999 * bw n := Int.mul_le_mul_of_nonneg_right hd.2 (by omega)
    omega
theorem Qkt {l : List Int} {n k : Nat} (h : k < n) : gi (l.take n) k = gi l k := by
  unfold gi; simp only [List.getD_eq_getElem?_getD, List.getElem?_take]; rw [if_pos h]
theorem Qks {l : List Int} {x : Int} {k : Nat} : gi (l ++ [x]) k = if k < l.length then gi l k else if k = l.length then x else 0 := by
  unfold gi
  simp only [List.getD_eq_getElem?_getD]
  by_cases h : k < l.length
  · rw [if_pos h, List.getElem?_append_left h]
  · rw [if_neg h]
    by_cases h2 : k = l.length
    · subst h2; simp
    · rw [if_neg h2, List.getElem?_eq_none (by simp; omega)]; rfl
theorem Qfm {l : List Int} {x : Int} {n : Nat} (h : l.length = n) : Xg (l ++ [x]) (n + 1) = Xg l n + x * bw n := by
  have this : Xg (l ++ [x]) n = Xg l n := Qqe fun k hk => by rw [Qks, if_pos (by omega)]
  have e : Xg (l ++ [x]) (n + 1) = Xg (l ++ [x]) n + gi (l ++ [x]) n * bw n := rfl
  rw [e, this, Qks, if_neg (by omega), if_pos h.symm]
theorem Qfj {l : List Int} {x : Int} (h : Dg l) (hx : 0 ≤ x ∧ x ≤ 999999999) : Dg (l ++ [x]) := fun k => by
  rw [Qks]
  split
  · exact h k
  · split
    · exact hx
    · omega
theorem Qfi : Dg [] := fun k => by simp [gi]
theorem Qkf (l : List Int) (k : Nat) (hk : k < 1000000) : Qbg l (k : Int) = some (gi l k) := by
  unfold Qbg
  by_cases h : k < l.length
  · rw [Xm h, cond_true, XO h]; rfl
  · rw [decide_eq_false (by omega), cond_false, Qaf (by omega)]

/-! ### Without noughts at the end -/
def Y0 (l : List Int) : Nat → Nat
  | 0 => 0
  | n + 1 => if gi l n = 0 then Y0 l n else n + 1
theorem Qcq (l : List Int) : ∀ n, Y0 l n ≤ n
  | 0 => Nat.le_refl _
  | n + 1 => by simp only [Y0]; split
                · have := Qcq l n; omega
                · omega
theorem Qth (l : List Int) : ∀ n k, Y0 l n ≤ k → k < n → gi l k = 0
  | 0, k, _, h => by omega
  | n + 1, k, h1, h2 => by
    simp only [Y0] at h1
    split at h1
    · rename_i h0
      by_cases hk : k = n
      · subst hk; exact h0
      · exact Qth l n k h1 (by omega)
    · omega
theorem Qtg (l : List Int) : ∀ n, 0 < Y0 l n → gi l (Y0 l n - 1) ≠ 0
  | 0, h => by simp [Y0] at h
  | n + 1, h => by
    simp only [Y0] at h ⊢
    split
    · rename_i h0; rw [if_pos h0] at h; exact Qtg l n h
    · rename_i h0; simpa using h0
def Za (l : List Int) : List Int := l.take (Y0 l l.length)
theorem Qti (l : List Int) (hl : l.length < 1000000) : Qde l = some (Za l) := by
  unfold Qde
  have key : ∀ n, n ≤ l.length → loop (Qfd l) (n : Int) = some ((Y0 l n : Nat) : Int) := by
    intro n
    induction n with
    | zero => intro _; exact XZ rfl
    | succ n ih =>
      intro hn
      have e1 : w64 (((n + 1 : Nat) : Int) - 1) = (n : Int) := by rw [Xa (by omega)]; omega
      have st : Qfd l ((n + 1 : Nat) : Int) = if gi l n = 0 then some (.inl (n : Int)) else some (.inr ((n + 1 : Nat) : Int)) := by
        unfold Qfd
        have h0 : decide ((0 : Int) < ((n + 1 : Nat) : Int)) = true := by rw [decide_eq_true_eq]; omega
        rw [h0, cond_true, e1, XO (by omega), Qq]
        by_cases hz : gi l n = 0
        · rw [if_pos hz, decide_eq_true hz]; rfl
        · rw [if_neg hz, decide_eq_false hz]; rfl
      simp only [Y0]
      by_cases hz : gi l n = 0
      · rw [if_pos hz] at st ⊢; rw [YC st]; exact ih (by omega)
      · rw [if_neg hz] at st ⊢; exact XZ st
  rw [key _ (Nat.le_refl _), Qq]
  have := Qcq l l.length
  unfold cut
  rw [if_pos (by omega)]
  simp [Za]
theorem Qcp (l : List Int) : (Za l).length = Y0 l l.length := by have := Qcq l l.length; simp [Za]; omega
theorem Qqf (l : List Int) : dv (Za l) = dv l := by
  unfold dv
  rw [Qcp]
  have h1 := Qcq l l.length
  have h2 := Qfn (l := l) (n := Y0 l l.length) (l.length - Y0 l l.length) fun k a b => Qth l l.length k a (by omega)
  rw [show Y0 l l.length + (l.length - Y0 l l.length) = l.length by omega] at h2
  rw [h2]
  exact Qqe fun k hk => Qkt hk
theorem Qfk {l : List Int} (h : Dg l) : Dg (Za l) := fun k => by
  by_cases hk : k < Y0 l l.length
  · unfold Za; rw [Qkt hk]; exact h k
  · rw [Qaf (by rw [Qcp]; omega)]; omega
def Tr (l : List Int) : Prop := l = [] ∨ gi l (l.length - 1) ≠ 0
theorem Qoi (l : List Int) : Tr (Za l) := by
  by_cases h : 0 < Y0 l l.length
  · right
    rw [Qcp]
    unfold Za
    rw [Qkt (by omega)]
    exact Qtg l _ h
  · left
    have : (Za l).length = 0 := by rw [Qcp]; omega
    exact List.eq_nil_of_length_eq_zero this
theorem Qoh {l : List Int} (hd : Dg l) (ht : Tr l) (hl : 0 < l.length) : bw (l.length - 1) ≤ dv l := by
  have hne : gi l (l.length - 1) ≠ 0 := by
    rcases ht with h | h
    · rw [h] at hl; exact absurd hl (by simp)
    · exact h
  have h1 := hd (l.length - 1)
  have h2 := (Qbk hd (l.length - 1)).1
  have hb := JU (l.length - 1)
  have e : dv l = Xg l (l.length - 1) + gi l (l.length - 1) * bw (l.length - 1) := by
    unfold dv
    obtain ⟨n, hn⟩ : ∃ n, l.length = n + 1 := ⟨l.length - 1, by omega⟩
    rw [hn]; rfl
  have h3 : 1 * bw (l.length - 1) ≤ gi l (l.length - 1) * bw (l.length - 1) := Int.mul_le_mul_of_nonneg_right (by omega) (by omega)
  omega

/-! ### Numbers -/
structure WV (N : Nat) (a : guidewaybase_Wide) (x : Int) : Prop where
  dg : Dg a.Digits
  tr : Tr a.Digits
  sg : a.Sign = Int.sign x
  vl : dv a.Digits = (x.natAbs : Int)
  ln : a.Digits.length ≤ N
theorem WV.mono {N M : Nat} {a : guidewaybase_Wide} {x : Int} (h : WV N a x) (hm : N ≤ M) : WV M a x := ⟨h.dg, h.tr, h.sg, h.vl, Nat.le_trans h.ln hm⟩
theorem WV.nil {N : Nat} {a : guidewaybase_Wide} {x : Int} (h : WV N a x) : a.Digits = [] ↔ x = 0 := by
  constructor
  · intro e
    have := h.vl
    rw [e] at this
    have e2 : dv [] = 0 := rfl
    omega
  · intro e
    have hv := h.vl
    rcases Nat.eq_zero_or_pos a.Digits.length with h0 | h0
    · exact List.eq_nil_of_length_eq_zero h0
    · have := Qoh h.dg h.tr h0
      have := JU (a.Digits.length - 1)
      omega
theorem Qes {N : Nat} {l : List Int} {s x : Int} (hd : Dg l) (hl : l.length ≤ N) (hN : N < 1000000) (hv : dv l = (x.natAbs : Int)) (hs : x ≠ 0 → s = Int.sign x) : Runs (JS s l) fun c => WV N c x := by
  unfold JS
  rw [Qti l (by omega), Qq]
  have h1 := Qcp l
  have h2 := Qcq l l.length
  have hvt := Qqf l
  refine Runs.bif (fun hc => ?_) fun hc => ?_
  · rw [decide_eq_true_eq] at hc
    have e : Za l = [] := List.eq_nil_of_length_eq_zero (by omega)
    have hx : x = 0 := by
      have : dv (Za l) = 0 := by rw [e]; rfl
      omega
    exact Runs.some ⟨Qfk hd, Qoi l, by rw [hx]; rfl, by show dv (Za l) = _; rw [hvt, hv], by show (Za l).length ≤ N; omega⟩
  · rw [decide_eq_false_iff_not] at hc
    have hx : x ≠ 0 := fun e => by
      have h3 := Qoh (Qfk hd) (Qoi l) (by omega)
      have := JU ((Za l).length - 1)
      rw [e] at hv
      simp at hv
      omega
    exact Runs.some ⟨Qfk hd, Qoi l, hs hx, by show dv (Za l) = _; rw [hvt, hv], by show (Za l).length ≤ N; omega⟩
theorem Zz {n : Int} (h : -9000000000000000000 ≤ n ∧ n ≤ 9000000000000000000) : Runs (Zd n) fun c => WV 3 c n := by
  unfold Zd
  refine Runs.call (b := ((n.natAbs : Int), if n < 0 then -1 else 1)) (by
    by_cases hn : n < 0
    · rw [decide_eq_true hn, cond_true, Xa (by omega), if_pos hn]; congr 2; omega
    · rw [decide_eq_false hn, cond_false, if_neg hn]; congr 2; omega) ?_
  refine Runs.callR (R := fun l => Dg l ∧ l.length ≤ 3 ∧ dv l = (n.natAbs : Int)) ?_ fun l hl => ?_
  · refine Runs.loop (fun s => 0 ≤ s.1 ∧ Dg s.2 ∧ s.2.length ≤ 3 ∧ dv s.2 + s.1 * bw s.2.length = (n.natAbs : Int) ∧ (s.2.length = 1 → s.1 ≤ 9000000000) ∧ (s.2.length = 2 → s.1 ≤ 9) ∧ (s.2.length = 3 → s.1 = 0) ∧ s.1 ≤ 9000000000000000000) (fun s => s.1.toNat)
      ⟨by show (0 : Int) ≤ (n.natAbs : Int); omega, Qfi, by show (0 : Nat) ≤ 3; decide, by show (0 : Int) + (n.natAbs : Int) * 1 = _; omega, (fun h => absurd (show (0 : Nat) = 1 from h) (by decide)), (fun h => absurd (show (0 : Nat) = 2 from h) (by decide)), (fun h => absurd (show (0 : Nat) = 3 from h) (by decide)), by show (n.natAbs : Int) ≤ _; omega⟩ ?_
    rintro ⟨m, l⟩ ⟨h0, hd, hl, hv, h1, h2, h3, hm⟩
    dsimp only at h0 hd hl hv h1 h2 h3 hm
    unfold Qpk
    dsimp only
    by_cases hp : 0 < m
    · have hl3 : l.length < 3 := by
        rcases Nat.lt_or_ge l.length 3 with h | h
        · exact h
        · have := h3 (by omega); omega
      have e1 : Int.tmod m 1000000000 = m % 1000000000 := Int.tmod_eq_emod_of_nonneg (by omega)
      have e2 : Int.tdiv m 1000000000 = m / 1000000000 := Int.tdiv_eq_ediv_of_nonneg (by omega)
      rw [decide_eq_true hp, cond_true, Yh (by simp; omega), Qq, e1, e2, Xa (by omega)]
      have h4 := Int.mul_ediv_add_emod m 1000000000
      refine Runs.some ⟨⟨by dsimp only; omega, Qfj hd (by omega), by simp; omega, ?_, ?_, ?_, ?_, by dsimp only; omega⟩, by dsimp only; omega⟩
      · dsimp only
        rw [List.length_append, List.length_singleton]
        unfold dv
        rw [List.length_append, List.length_singleton, Qfm rfl]
        unfold dv at hv
        have e3 : m / 1000000000 * bw (l.length + 1) = 1000000000 * (m / 1000000000) * bw l.length := by simp only [bw]; grind
        have e4 : m * bw l.length = 1000000000 * (m / 1000000000) * bw l.length + m % 1000000000 * bw l.length := by rw [← Int.add_mul, h4]
        omega
      · dsimp only; rw [List.length_append, List.length_singleton]; intro h5; omega
      · dsimp only; rw [List.length_append, List.length_singleton]; intro h5; have := h1 (by omega); omega
      · dsimp only; rw [List.length_append, List.length_singleton]; intro h5; have := h2 (by omega); omega
    · rw [decide_eq_false hp]
      have : m = 0 := by omega
      subst this
      exact Runs.some ⟨hd, hl, by omega⟩
  · refine Runs.bind (Runs.mono (Qes (N := 3) (x := n) hl.1 hl.2.1 (by decide) hl.2.2 fun hn => ?_) fun c hc => Runs.some hc)
    by_cases h0 : n < 0
    · rw [if_pos h0, Int.sign_eq_neg_one_of_neg h0]
    · rw [if_neg h0, Int.sign_eq_one_of_pos (by omega)]
theorem Qve {a b : List Int} (ha : Dg a) (hb : Dg b) {N : Nat} (la : a.length ≤ N) (lb : b.length ≤ N) (hN : N < 100000) : Runs (Qfb a b) fun c => Dg c ∧ c.length ≤ N + 1 ∧ dv c = dv a + dv b := by
  unfold Qfb
  refine Runs.callR (R := fun c => Dg c ∧ c.length ≤ N + 1 ∧ dv c = dv a + dv b) ?_ fun c hc => Runs.some hc
  refine Runs.loop (fun s => ∃ k : Nat, s.2.2 = (k : Int) ∧ s.1.length = k ∧ Dg s.1 ∧ (0 ≤ s.2.1 ∧ s.2.1 ≤ 1) ∧ k ≤ N + 1 ∧ (k = N + 1 → s.2.1 = 0) ∧ Xg s.1 k + s.2.1 * bw k = Xg a k + Xg b k) (fun s => N + 2 - s.2.2.toNat)
    ⟨0, rfl, rfl, Qfi, by decide, Nat.zero_le _, fun h => rfl, by simp [Xg, Q0]⟩ ?_
  rintro ⟨c, cr, _⟩ ⟨k, rfl, hc, hd, hcr, hk, hkz, hv⟩
  dsimp only at hc hd hcr hk hkz hv
  unfold Qpl
  dsimp only
  by_cases hgo : k < a.length ∨ k < b.length ∨ 0 < cr
  · have hcond : (((decide ((k : Int) < (a.length : Int))) || (decide ((k : Int) < (b.length : Int)))) || (decide (0 < cr))) = true := by
      simp only [Bool.or_eq_true, decide_eq_true_eq]; omega
    have hkN : k ≤ N := by
      rcases Nat.lt_or_ge N k with h | h
      · have := hkz (by omega); omega
      · exact h
    have hda := ha k
    have hdb := hb k
    rw [hcond, cond_true, Qkf a k (by omega), Qq, Qkf b k (by omega), Qq, Xa (x := gi a k + gi b k) (by omega), Xa (x := gi a k + gi b k + cr) (by omega), Yh (by simp; omega), Qq]
    have e1 : Int.tmod (gi a k + gi b k + cr) 1000000000 = (gi a k + gi b k + cr) % 1000000000 := Int.tmod_eq_emod_of_nonneg (by omega)
    have e2 : Int.tdiv (gi a k + gi b k + cr) 1000000000 = (gi a k + gi b k + cr) / 1000000000 := Int.tdiv_eq_ediv_of_nonneg (by omega)
    rw [e1, e2, Xa (by omega), Xk k (by omega)]
    have h4 := Int.mul_ediv_add_emod (gi a k + gi b k + cr) 1000000000
    refine Runs.some ⟨⟨k + 1, rfl, by simp [hc], Qfj hd (by omega), by dsimp only; omega, by omega, ?_, ?_⟩, by dsimp only; omega⟩
    · intro h5
      dsimp only
      have hkN' : k = N := by omega
      rw [Qaf (l := a) (by omega), Qaf (l := b) (by omega)]; omega
    · dsimp only
      rw [Qfm hc]
      show _ = (Xg a k + gi a k * bw k) + (Xg b k + gi b k * bw k)
      have e3 : (gi a k + gi b k + cr) / 1000000000 * bw (k + 1) = 1000000000 * ((gi a k + gi b k + cr) / 1000000000) * bw k := by simp only [bw]; grind
      have e4 : (gi a k + gi b k + cr) * bw k = 1000000000 * ((gi a k + gi b k + cr) / 1000000000) * bw k + (gi a k + gi b k + cr) % 1000000000 * bw k := by rw [← Int.add_mul, h4]
      have e5 : (gi a k + gi b k + cr) * bw k = gi a k * bw k + gi b k * bw k + cr * bw k := by rw [Int.add_mul, Int.add_mul]
      omega
  · have hcond : (((decide ((k : Int) < (a.length : Int))) || (decide ((k : Int) < (b.length : Int)))) || (decide (0 < cr))) = false := by
      simp only [Bool.or_eq_false_iff, decide_eq_false_iff_not]; omega
    rw [hcond]
    have hz : cr = 0 := by omega
    refine Runs.some ⟨hd, by omega, ?_⟩
    rw [hz, Qki (l := a) (by omega), Qki (l := b) (by omega)] at hv
    have : dv c = Xg c k := by unfold dv; rw [hc]
    omega
theorem Qta {a b : List Int} (ha : Dg a) (hb : Dg b) (hlb : b.length ≤ a.length) (hle : dv b ≤ dv a) {N : Nat} (la : a.length ≤ N) (hN : N < 100000) : Runs (Qdd a b) fun c => Dg c ∧ c.length ≤ N ∧ dv c = dv a - dv b := by
  unfold Qdd
  refine Runs.callR (R := fun c => Dg c ∧ c.length = a.length ∧ dv c = dv a - dv b) ?_ fun c hc => ?_
  · refine Runs.loop (fun s => ∃ k : Nat, s.2.2 = (k : Int) ∧ s.1.length = k ∧ Dg s.1 ∧ (0 ≤ s.2.1 ∧ s.2.1 ≤ 1) ∧ k ≤ a.length ∧ Xg s.1 k - s.2.1 * bw k = Xg a k - Xg b k) (fun s => a.length - s.2.2.toNat)
      ⟨0, rfl, rfl, Qfi, by decide, Nat.zero_le _, by simp [Xg, Q0]⟩ ?_
    rintro ⟨c, cr, _⟩ ⟨k, rfl, hc, hd, hcr, hk, hv⟩
    dsimp only at hc hd hcr hk hv
    unfold Qpn
    dsimp only
    by_cases hlt : k < a.length
    · have hda := ha k
      have hdb := hb k
      rw [Xm hlt, cond_true, XO hlt, Qq, Qkf b k (by omega), Qq, Xa (x := gi a k - gi b k) (by omega), Xa (x := gi a k - gi b k - cr) (by omega)]
      have e5 : (gi a k - gi b k - cr) * bw k = gi a k * bw k - gi b k * bw k - cr * bw k := by rw [Int.sub_mul, Int.sub_mul]
      by_cases hn : gi a k - gi b k - cr < 0
      · rw [decide_eq_true hn, cond_true, Xa (x := gi a k - gi b k - cr + 1000000000) (by omega), Yh (by simp; omega), Qq, Xk k (by omega)]
        refine Runs.some ⟨⟨k + 1, rfl, by simp [hc], Qfj hd (by omega), by dsimp only; omega, by omega, ?_⟩, by dsimp only; omega⟩
        dsimp only
        rw [Qfm hc]
        show _ = (Xg a k + gi a k * bw k) - (Xg b k + gi b k * bw k)
        rw [Int.add_mul]
        simp only [bw]
        omega
      · rw [decide_eq_false hn, cond_false, Yh (by simp; omega), Qq, Xk k (by omega)]
        refine Runs.some ⟨⟨k + 1, rfl, by simp [hc], Qfj hd (by omega), by dsimp only; omega, by omega, ?_⟩, by dsimp only; omega⟩
        dsimp only
        rw [Qfm hc]
        show _ = (Xg a k + gi a k * bw k) - (Xg b k + gi b k * bw k)
        omega
    · obtain rfl : k = a.length := by omega
      rw [Xn]
      have h1 := Qbk hd a.length
      rw [Qki (l := b) hlb] at hv
      have e : Xg a a.length = dv a := rfl
      rw [e] at hv
      have hz : cr = 0 := by
        rcases Int.lt_or_le 0 cr with h | h
        · have : cr = 1 := by omega
          subst this
          omega
        · omega
      subst hz
      refine Runs.some ⟨hd, hc, ?_⟩
      have : dv c = Xg c a.length := by unfold dv; rw [hc]
      omega
  · rw [Qti c (by omega), Qq]
    have h1 := Qcp c
    have h2 := Qcq c c.length
    exact Runs.some ⟨Qfk hc.1, by omega, by rw [Qqf]; exact hc.2.2⟩
theorem Qwd {a b : List Int} (ha : Dg a) (hb : Dg b) (ta : Tr a) (tb : Tr b) (hl : a.length < 100000) : Runs (Qfc a b) fun c => (c = 0 ∧ dv a = dv b) ∨ (0 < c ∧ dv b < dv a ∧ b.length ≤ a.length) ∨ (c < 0 ∧ dv a < dv b ∧ a.length ≤ b.length) := by
  have longer : ∀ {a b : List Int}, Dg a → Dg b → Tr a → a.length ≠ b.length → b.length ≤ a.length → dv b < dv a := by
    intro a b ha hb ta hne hle
    have h1 := Qoh ha ta (by omega)
    have h2 := (Qbk hb b.length).2
    have e : a.length - 1 = b.length + (a.length - 1 - b.length) := by omega
    have h3 : bw b.length ≤ bw (a.length - 1) := by
      rw [e, Qkd]
      have := Int.mul_le_mul_of_nonneg_left (show (1 : Int) ≤ bw (a.length - 1 - b.length) by have := JU (a.length - 1 - b.length); omega) (show (0 : Int) ≤ bw b.length by have := JU b.length; omega)
      rw [Int.mul_one] at this; exact this
    have e2 : dv b = Xg b b.length := rfl
    omega
  unfold Qfc
  rw [Y7]
  by_cases hlen : a.length = b.length
  · rw [decide_eq_true hlen]
    simp only [Bool.not_true, cond_false]
    -- from the last digit on
    refine Runs.callR (R := fun o => match o with | .inl c => (0 < c ∧ dv b < dv a) ∨ (c < 0 ∧ dv a < dv b) | .inr _ => dv a = dv b) ?_ fun o ho => ?_
    · have key : ∀ k, k ≤ a.length → (∀ j, k ≤ j → gi a j = gi b j) → Runs (loop (Qdc a b) ((k : Int) - 1)) fun o => match o with | .inl c => (0 < c ∧ Xg b k < Xg a k) ∨ (c < 0 ∧ Xg a k < Xg b k) | .inr _ => Xg a k = Xg b k := by
        intro k
        induction k with
        | zero =>
          intro _ _
          refine Runs.of_eq (a := .inr ()) (XZ ?_) ?_
          · unfold Qdc; rfl
          · rfl
        | succ k ih =>
          intro hk he
          have e1 : ((k + 1 : Nat) : Int) - 1 = (k : Int) := by omega
          rw [e1]
          have hda := ha k
          have hdb := hb k
          have l1 := Qbk ha k
          have l2 := Qbk hb k
          have hbp := JU k
          have u1 : Xg a (k + 1) = Xg a k + gi a k * bw k := rfl
          have u2 : Xg b (k + 1) = Xg b k + gi b k * bw k := rfl
          have st : Qdc a b (k : Int) = if gi a k < gi b k then some (.inr (.inl (-1))) else if gi b k < gi a k then some (.inr (.inl 1)) else some (.inl ((k : Int) - 1)) := by
            unfold Qdc
            rw [decide_eq_true (show (0 : Int) ≤ (k : Int) by omega), cond_true, XO (by omega), Qq, XO (by omega), Qq]
            by_cases h1 : gi a k < gi b k
            · rw [decide_eq_true h1, if_pos h1]; rfl
            · rw [decide_eq_false h1, if_neg h1, cond_false, Qq, Qq]
              by_cases h2 : gi b k < gi a k
              · rw [decide_eq_true h2, if_pos h2]; rfl
              · rw [decide_eq_false h2, if_neg h2, cond_false, Xa (by omega)]
          by_cases h1 : gi a k < gi b k
          · rw [if_pos h1] at st
            refine Runs.of_eq (XZ st) (.inr ⟨by decide, ?_⟩)
            have := Int.mul_le_mul_of_nonneg_right (show gi a k + 1 ≤ gi b k by omega) (show (0 : Int) ≤ bw k by omega)
            rw [Int.add_mul, Int.one_mul] at this
            omega
          · rw [if_neg h1] at st
            by_cases h2 : gi b k < gi a k
            · rw [if_pos h2] at st
              refine Runs.of_eq (XZ st) (.inl ⟨by decide, ?_⟩)
              have := Int.mul_le_mul_of_nonneg_right (show gi b k + 1 ≤ gi a k by omega) (show (0 : Int) ≤ bw k by omega)
              rw [Int.add_mul, Int.one_mul] at this
              omega
            · rw [if_neg h2] at st
              rw [YC st]
              have he2 : gi a k = gi b k := by omega
              refine Runs.mono (ih (by omega) fun j hj => by
                by_cases hjk : j = k
                · subst hjk; exact he2
                · exact he j (by omega)) fun o ho => ?_
              rw [u1, u2, he2]
              cases o with
              | inl c => dsimp only at ho ⊢; omega
              | inr _ => dsimp only at ho ⊢; omega
      have := key a.length (Nat.le_refl _) fun j hj => by rw [Qaf hj, Qaf (by omega)]
      rw [show w64 ((a.length : Int) - 1) = (a.length : Int) - 1 by rw [Xa (by omega)]]
      refine Runs.mono this fun o ho => ?_
      have e2 : Xg b a.length = dv b := by rw [hlen]; rfl
      have e3 : Xg a a.length = dv a := rfl
      cases o with
      | inl c => dsimp only at ho ⊢; rw [e2, e3] at ho; exact ho
      | inr _ => dsimp only at ho ⊢; rw [e2, e3] at ho; exact ho
    · cases o with
      | inl c =>
        dsimp only at ho
        refine Runs.jl ?_
        rcases ho with h | h
        · exact .inr (.inl ⟨h.1, h.2, by omega⟩)
        · exact .inr (.inr ⟨h.1, h.2, by omega⟩)
      | inr _ => exact Runs.jr (Runs.some (.inl ⟨rfl, ho⟩))
  · rw [decide_eq_false hlen]
    refine Runs.bif_t rfl ?_
    refine Runs.bif (fun hc => ?_) fun hc => ?_
    · rw [decide_eq_true_eq] at hc
      exact Runs.some (.inr (.inr ⟨by decide, longer hb ha tb (Ne.symm hlen) (by omega), by omega⟩))
    · rw [decide_eq_false_iff_not] at hc
      exact Runs.some (.inr (.inl ⟨by decide, longer ha hb ta hlen (by omega), by omega⟩))
theorem Yd (x : Int) : (x < 0 ∧ x.sign = -1) ∨ (x = 0 ∧ x.sign = 0) ∨ (0 < x ∧ x.sign = 1) := by
  rcases Int.lt_trichotomy x 0 with h | h | h
  · exact .inl ⟨h, Int.sign_eq_neg_one_of_neg h⟩
  · exact .inr (.inl ⟨h, by rw [h]; rfl⟩)
  · exact .inr (.inr ⟨h, Int.sign_eq_one_of_pos h⟩)
theorem Qpc {N : Nat} {a : guidewaybase_Wide} {x : Int} (h : WV N a x) : Runs (Qda a) fun c => WV N c (-x) := by
  unfold Qda
  have hs := h.sg
  refine Runs.some ⟨h.dg, h.tr, ?_, ?_, h.ln⟩
  · show w64 (0 - a.Sign) = _
    have h1 : x.sign = 0 ∨ x.sign = 1 ∨ x.sign = -1 := by rcases Yd x with h | h | h <;> omega
    rw [hs, Int.sign_neg, Xa (by omega)]; omega
  · show dv a.Digits = _
    rw [h.vl, Int.natAbs_neg]
theorem Qjn {N : Nat} {a b : guidewaybase_Wide} {x y : Int} (ha : WV N a x) (hb : WV N b y) (hN : N < 10000) : Runs (Qbe a b) fun c => WV (N + 1) c (x + y) := by
  unfold Qbe
  have sa := ha.sg
  have sb := hb.sg
  have va := ha.vl
  have vb := hb.vl
  refine Runs.bif (fun hc => ?_) fun hc => ?_
  · rw [decide_eq_true_eq] at hc
    have : x = 0 := by rcases Yd x with h | h | h <;> omega
    subst this
    rw [Int.zero_add]; exact Runs.some (hb.mono (by omega))
  rw [decide_eq_false_iff_not] at hc
  refine Runs.bif (fun hc2 => ?_) fun hc2 => ?_
  · rw [decide_eq_true_eq] at hc2
    have : y = 0 := by rcases Yd y with h | h | h <;> omega
    subst this
    rw [Int.add_zero]; exact Runs.some (ha.mono (by omega))
  rw [decide_eq_false_iff_not] at hc2
  refine Runs.bif (fun hc3 => ?_) fun hc3 => ?_
  · rw [decide_eq_true_eq] at hc3
    refine Runs.callR (Qve ha.dg hb.dg ha.ln hb.ln (by omega)) fun l hl => ?_
    refine Runs.bind (Runs.mono (Qes (N := N + 1) (x := x + y) hl.1 hl.2.1 (by omega) ?_ ?_) fun c hc => Runs.some hc)
    · rcases Yd x with h | h | h <;> rcases Yd y with h' | h' | h' <;> omega
    · intro _
      rcases Yd x with h | h | h <;> rcases Yd y with h' | h' | h' <;> rcases Yd (x + y) with h2 | h2 | h2 <;> omega
  rw [decide_eq_false_iff_not] at hc3
  refine Runs.callR (Qwd ha.dg hb.dg ha.tr hb.tr (by have := ha.ln; omega)) fun r hr => ?_
  refine Runs.bif (fun hc4 => ?_) fun hc4 => ?_
  · rw [decide_eq_true_eq] at hc4
    have hv : dv a.Digits = dv b.Digits := by omega
    have : x + y = 0 := by rcases Yd x with h | h | h <;> rcases Yd y with h' | h' | h' <;> omega
    rw [this]
    exact Runs.some ⟨Qfi, .inl rfl, rfl, rfl, Nat.zero_le _⟩
  rw [decide_eq_false_iff_not] at hc4
  refine Runs.bif (fun hc5 => ?_) fun hc5 => ?_
  · rw [decide_eq_true_eq] at hc5
    have hv : dv b.Digits < dv a.Digits ∧ b.Digits.length ≤ a.Digits.length := by omega
    refine Runs.callR (Qta ha.dg hb.dg hv.2 (by omega) (N := N) ha.ln (by omega)) fun l hl => ?_
    refine Runs.bind (Runs.mono (Qes (N := N + 1) (x := x + y) hl.1 (by omega) (by omega) ?_ ?_) fun c hc => Runs.some hc)
    · rcases Yd x with h | h | h <;> rcases Yd y with h' | h' | h' <;> omega
    · intro _
      rcases Yd x with h | h | h <;> rcases Yd y with h' | h' | h' <;> rcases Yd (x + y) with h2 | h2 | h2 <;> omega
  · rw [decide_eq_false_iff_not] at hc5
    have hv : dv a.Digits < dv b.Digits ∧ a.Digits.length ≤ b.Digits.length := by omega
    refine Runs.callR (Qta hb.dg ha.dg hv.2 (by omega) (N := N) hb.ln (by omega)) fun l hl => ?_
    refine Runs.bind (Runs.mono (Qes (N := N + 1) (x := x + y) hl.1 (by omega) (by omega) ?_ ?_) fun c hc => Runs.some hc)
    · rcases Yd x with h | h | h <;> rcases Yd y with h' | h' | h' <;> omega
    · intro _
      rcases Yd x with h | h | h <;> rcases Yd y with h' | h' | h' <;> rcases Yd (x + y) with h2 | h2 | h2 <;> omega
theorem Qpd {N : Nat} {a b : guidewaybase_Wide} {x y : Int} (ha : WV N a x) (hb : WV N b y) (hN : N < 10000) : Runs (Qdb a b) fun c => WV (N + 1) c (x - y) := by
  unfold Qdb
  refine Runs.callR (Qpc hb) fun c hc => ?_
  refine Runs.bind (Runs.mono (Qjn ha hc hN) fun d hd => Runs.some ?_)
  rw [Int.sub_eq_add_neg]; exact hd
theorem Qjo {N : Nat} {a : guidewaybase_Wide} {x : Int} (h : WV N a x) : Qbf a = some (Int.sign x) := by unfold Qbf; rw [h.sg]
theorem Qpb {N : Nat} {a b : guidewaybase_Wide} {x y : Int} (ha : WV N a x) (hb : WV N b y) (hN : N < 10000) : Qcy a b = some (Int.sign (x - y)) := by
  refine Runs.eq ?_
  unfold Qcy
  exact Runs.callR (Qpd ha hb hN) fun c hc => Runs.some hc.sg
end Go.Gw

end
section
set_option maxRecDepth 8192
set_option linter.unusedSimpArgs false
set_option linter.unusedVariables false
namespace Go.Gw
open Go

theorem Qkh {l : List Int} {j : Nat} {v : Int} (hj : j < l.length) : ∀ n, Xg (l.set j v) n = if j < n then Xg l n + (v - gi l j) * bw j else Xg l n
  | 0 => by simp [Xg, Q0]
  | n + 1 => by
    have ih := Qkh (v := v) hj n
    unfold Xg at ih ⊢
    simp only [Q0]
    rw [ih, Qbn hj]
    by_cases h1 : j < n
    · rw [if_pos h1, if_pos (show j < n + 1 by omega), if_neg (show ¬ j = n by omega)]; omega
    · rw [if_neg h1]
      by_cases h2 : j = n
      · subst h2; rw [if_pos rfl, if_pos (show j < j + 1 by omega), Int.sub_mul]; omega
      · rw [if_neg h2, if_neg (show ¬ j < n + 1 by omega)]
theorem Qqa {l : List Int} {j : Nat} {v : Int} (h : Dg l) (hj : j < l.length) (hv : 0 ≤ v ∧ v ≤ 999999999) : Dg (l.set j v) := fun k => by
  rw [Qbn hj]
  split
  · exact hv
  · exact h k
theorem QAk {a b : guidewaybase_Wide} (ha : Dg a.Digits) (hb : Dg b.Digits) {i n : Nat} {O : List Int} (hi : i < a.Digits.length) (hn : n = a.Digits.length + b.Digits.length + 1) (hN : n < 100000) (hO : O.length = n) (hd : Dg O) (hz : ∀ t, i + b.Digits.length ≤ t → gi O t = 0) :
    Runs (loop (Qjy a b (i : Int)) (O, 0, 0)) fun r => r.1.length = n ∧ Dg r.1 ∧ (0 ≤ r.2 ∧ r.2 ≤ 999999999) ∧ (∀ t, i + b.Digits.length ≤ t → gi r.1 t = 0) ∧ Xg r.1 n + r.2 * bw (i + b.Digits.length) = Xg O n + gi a.Digits i * bw i * dv b.Digits := by
  refine Runs.loop (fun s => ∃ k : Nat, s.2.2 = (k : Int) ∧ k ≤ b.Digits.length ∧ s.1.length = n ∧ Dg s.1 ∧ (0 ≤ s.2.1 ∧ s.2.1 ≤ 999999999) ∧ (∀ t, i + b.Digits.length ≤ t → gi s.1 t = 0) ∧ Xg s.1 n + s.2.1 * bw (i + k) = Xg O n + gi a.Digits i * bw i * Xg b.Digits k) (fun s => b.Digits.length - s.2.2.toNat)
    ⟨0, rfl, Nat.zero_le _, hO, hd, by show (0 : Int) ≤ 0 ∧ (0 : Int) ≤ 999999999; decide, hz, by simp [Xg, Q0]⟩ ?_
  rintro ⟨o, cr, _⟩ ⟨k, rfl, hk, ho, hod, hcr, hoz, hv⟩
  dsimp only at ho hod hcr hoz hv
  unfold Qjy
  dsimp only
  by_cases hlt : k < b.Digits.length
  · have hda := ha i
    have hdb := hb k
    have hdo := hod (i + k)
    have e0 : w64 ((i : Int) + (k : Int)) = ((i + k : Nat) : Int) := by rw [Xa (by omega)]; omega
    have hab : 0 ≤ gi a.Digits i * gi b.Digits k ∧ gi a.Digits i * gi b.Digits k ≤ 999999998000000001 := by
      refine ⟨Int.mul_nonneg hda.1 hdb.1, ?_⟩
      exact Int.mul_le_mul (c := (999999999 : Int)) (d := 999999999) hda.2 hdb.2 hdb.1 (by decide)
    rw [Xm hlt, cond_true, e0, XO (by omega), Qq, XO hi, Qq, XO hlt, Qq, Qq, Xa (x := gi a.Digits i * gi b.Digits k) (by omega), Xa (x := gi o (i + k) + gi a.Digits i * gi b.Digits k) (by omega), Xa (x := gi o (i + k) + gi a.Digits i * gi b.Digits k + cr) (by omega), Int.toNat_natCast]
    generalize hs : gi o (i + k) + gi a.Digits i * gi b.Digits k + cr = s
    have e1 : Int.tmod s 1000000000 = s % 1000000000 := Int.tmod_eq_emod_of_nonneg (by omega)
    have e2 : Int.tdiv s 1000000000 = s / 1000000000 := Int.tdiv_eq_ediv_of_nonneg (by omega)
    have h4 := Int.mul_ediv_add_emod s 1000000000
    rw [e1, e2, Xa (by omega), Xk k (by omega)]
    refine Runs.some ⟨⟨k + 1, rfl, by omega, by simp [ho], Qqa hod (by omega) (by omega), by dsimp only; omega, fun t ht => ?_, ?_⟩, by dsimp only; omega⟩
    · dsimp only
      rw [Qbn (by omega), if_neg (by omega)]; exact hoz t ht
    · dsimp only
      rw [Qkh (by omega), if_pos (by omega)]
      have u1 : Xg b.Digits (k + 1) = Xg b.Digits k + gi b.Digits k * bw k := rfl
      have u2 : bw (i + (k + 1)) = bw (i + k) * 1000000000 := rfl
      have u3 : bw (i + k) = bw i * bw k := Qkd i k
      rw [u1, u2]
      have e5 : s * bw (i + k) = 1000000000 * (s / 1000000000) * bw (i + k) + s % 1000000000 * bw (i + k) := by rw [← Int.add_mul, h4]
      have e6 : s * bw (i + k) = gi o (i + k) * bw (i + k) + gi a.Digits i * gi b.Digits k * bw (i + k) + cr * bw (i + k) := by rw [← hs, Int.add_mul, Int.add_mul]
      have e7 : gi a.Digits i * bw i * (Xg b.Digits k + gi b.Digits k * bw k) = gi a.Digits i * bw i * Xg b.Digits k + gi a.Digits i * gi b.Digits k * bw (i + k) := by rw [u3]; grind
      have e8 : s / 1000000000 * (bw (i + k) * 1000000000) = 1000000000 * (s / 1000000000) * bw (i + k) := by grind
      have e9 : (s % 1000000000 - gi o (i + k)) * bw (i + k) = s % 1000000000 * bw (i + k) - gi o (i + k) * bw (i + k) := Int.sub_mul ..
      rw [e7, e8, e9]; omega
  · obtain rfl : k = b.Digits.length := by omega
    rw [Xn]
    exact Runs.some ⟨ho, hod, hcr, hoz, hv⟩
theorem Jx {N M : Nat} {a b : guidewaybase_Wide} {x y : Int} (ha : WV N a x) (hb : WV M b y) (hN : N < 10000) (hM : M < 10000) : Runs (ZO a b) fun c => WV (N + M + 1) c (x * y) := by
  have la := ha.ln
  have lb := hb.ln
  obtain ⟨n, hn⟩ : ∃ n, n = a.Digits.length + b.Digits.length + 1 := ⟨_, rfl⟩
  unfold ZO
  have e0 : w64 (w64 ((a.Digits.length : Int) + (b.Digits.length : Int)) + 1) = (n : Int) := by rw [Xa (x := (a.Digits.length : Int) + (b.Digits.length : Int)) (by omega), Xa (by omega)]; omega
  rw [e0]
  refine Runs.call (QAh (by omega)) ?_
  refine Runs.callR (R := fun o => o.length = n ∧ Dg o ∧ Xg o n = dv a.Digits * dv b.Digits) ?_ fun o ho => ?_
  · refine Runs.loop (fun s => ∃ i : Nat, s.2 = (i : Int) ∧ i ≤ a.Digits.length ∧ s.1.length = n ∧ Dg s.1 ∧ (∀ t, i + b.Digits.length ≤ t → gi s.1 t = 0) ∧ Xg s.1 n = Xg a.Digits i * dv b.Digits) (fun s => a.Digits.length - s.2.toNat)
      ⟨0, rfl, Nat.zero_le _, by simp, fun k => by rw [Qkr]; omega, fun t _ => Qkr, by
        have : Xg (List.replicate n 0) n = Xg (List.replicate n 0) (0 + n) := by rw [Nat.zero_add]
        show Xg (List.replicate n 0) n = _
        rw [this, Qfn n fun k _ _ => Qkr]
        show (0 : Int) = 0 * _
        rw [Int.zero_mul]⟩ ?_
    rintro ⟨o, _⟩ ⟨i, rfl, hi, ho, hod, hoz, hv⟩
    dsimp only at ho hod hoz hv
    unfold Qpj
    dsimp only
    by_cases hlt : i < a.Digits.length
    · rw [Xm hlt, cond_true]
      refine Runs.callR (QAk ha.dg hb.dg hlt hn (by omega) ho hod hoz) fun r hr => ?_
      obtain ⟨r1, r2, r3, r4, r5⟩ := hr
      have e1 : w64 ((i : Int) + (b.Digits.length : Int)) = ((i + b.Digits.length : Nat) : Int) := by rw [Xa (by omega)]; omega
      have hz := r4 (i + b.Digits.length) (Nat.le_refl _)
      rw [e1, XO (by omega), Qq, Qq, hz, Int.zero_add, Xa (by omega), Int.toNat_natCast, Xk i (by omega)]
      refine Runs.some ⟨⟨i + 1, rfl, by omega, by simp [r1], Qqa r2 (by omega) r3, fun t ht => ?_, ?_⟩, by dsimp only; omega⟩
      · dsimp only
        rw [Qbn (by omega), if_neg (by omega)]; exact r4 t (by omega)
      · dsimp only
        rw [Qkh (by omega), if_pos (by omega), hz, Int.sub_zero]
        have u1 : Xg a.Digits (i + 1) = Xg a.Digits i + gi a.Digits i * bw i := rfl
        rw [u1, Int.add_mul]; omega
    · obtain rfl : i = a.Digits.length := by omega
      rw [Xn]
      exact Runs.some ⟨ho, hod, hv⟩
  · obtain ⟨o1, o2, o3⟩ := ho
    have sa := ha.sg
    have sb := hb.sg
    have hs : w64 (a.Sign * b.Sign) = Int.sign (x * y) := by
      rw [sa, sb, Int.sign_mul, Xa]
      rcases Yd x with h | h | h <;> rcases Yd y with h' | h' | h' <;> rw [h.2, h'.2] <;> decide
    refine Runs.bind (Runs.mono (Qes (N := N + M + 1) (x := x * y) o2 (by omega) (by omega) ?_ fun _ => hs) fun c hc => Runs.some hc)
    unfold dv
    rw [o1, o3, ha.vl, hb.vl, Int.natAbs_mul]; simp

/-! ### Determinants by the specification -/
def ZN (t : Nat → Int) : Nat → Int
  | 0 => 0
  | k + 1 => ZN t k + (if k % 2 = 1 then -t k else t k)
def Zq (f : List (List Int)) : List Nat → List Nat → Int
  | [], _ => 1
  | r :: rs, cs => ZN (fun k => g2 f r (cs.getD k 0) * Zq f rs (cs.eraseIdx k)) cs.length
theorem QCw (cs : List Nat) {k : Nat} (hk : k < cs.length) : (QZ cs).take k ++ (QZ cs).drop (k + 1) = QZ (cs.eraseIdx k) := by
  unfold QZ
  rw [List.eraseIdx_eq_take_drop_succ, List.map_append, List.map_take, List.map_drop]
theorem Qpz {n : Nat} {f : List (List Int)} (hf : Sq n f) (hb : Bd n f 200000000000000) : ∀ (rs : List Nat) (cs : List Nat) (fl : Nat), rs.length < fl → rs.length ≤ 5 → cs.length ≤ 5 → rs.length = cs.length → (∀ x ∈ rs, x < n) → (∀ x ∈ cs, x < n) → Runs (Jp fl f (QZ rs) (QZ cs)) fun w => WV (3 + 20 * rs.length) w (Zq f rs cs)
  | [], cs, fl + 1, _, _, _, _, _, _ => by
    show Runs (Qch (Jp fl) f (QZ []) (QZ cs)) _
    unfold Qch
    refine Runs.bif_t rfl ?_
    exact Runs.bind (Runs.mono (Zz (by decide)) fun c hc => Runs.some hc)
  | r :: rs, cs, fl + 1, hfl, hr5, hc5, hlen, hrs, hcs => by
    simp only [List.length_cons] at hfl hr5 hlen
    show Runs (Qch (Jp fl) f (QZ (r :: rs)) (QZ cs)) _
    unfold Qch
    refine Runs.bif_f (by rw [ZG]; simp; omega) ?_
    refine Runs.callR (Zz (by decide)) fun z hz => ?_
    refine Runs.bind ?_
    have hr := hrs r (by simp)
    have inv : Runs (loop (Qnk (QZ cs) f (QZ (r :: rs)) (Jp fl)) (0, z.Sign, z.Digits)) fun o => WV (3 + 20 * (rs.length + 1)) ⟨o.1, o.2⟩ (Zq f (r :: rs) cs) := by
      refine Runs.loop (fun s => ∃ k : Nat, s.1 = (k : Int) ∧ k ≤ cs.length ∧ WV (7 + 20 * rs.length + k + 3) ⟨s.2.1, s.2.2⟩ (ZN (fun k => g2 f r (cs.getD k 0) * Zq f rs (cs.eraseIdx k)) k)) (fun s => cs.length - s.1.toNat)
        ⟨0, rfl, Nat.zero_le _, hz.mono (by omega)⟩ ?_
      rintro ⟨_, sg, ds⟩ ⟨k, rfl, hk, hw⟩
      dsimp only at hw
      unfold Qnk
      dsimp only
      rw [ZG]
      by_cases hlt : k < cs.length
      · have hck := hcs (cs.getD k 0) (by rw [List.getD_eq_getElem?_getD, List.getElem?_eq_getElem hlt]; exact List.getElem_mem hlt)
        have e1 : cut (QZ cs) 0 (k : Int) = some ((QZ cs).take k) := by
          unfold cut; rw [if_pos (by rw [ZG]; omega)]; simp
        have e2 : cut (QZ cs) ((k + 1 : Nat) : Int) (cs.length : Int) = some ((QZ cs).drop (k + 1)) := by
          unfold cut; rw [if_pos (by rw [ZG]; omega)]
          simp only [Int.toNat_natCast]
          rw [List.take_of_length_le (by simp [ZG])]
        have e3 : cut (QZ (r :: rs)) 1 ((QZ (r :: rs)).length : Int) = some (QZ rs) := by
          unfold cut; rw [if_pos (by rw [ZG]; simp; omega)]
          congr 1
          rw [Int.toNat_natCast, List.take_length]; rfl
        have e4 : idx (QZ (r :: rs)) 0 = some ((r : Nat) : Int) := Qfr (l := r :: rs) (k := 0) (by simp)
        have e5 : idx (QZ cs) (k : Int) = some (((cs.getD k 0 : Nat)) : Int) := by rw [Qfr hlt]; simp [hlt]
        have hent := hb r (cs.getD k 0) hr hck
        rw [Xm hlt, cond_true, e1, Qq, Xk k (by omega), e2, Qq, Qjk _ (by simp [ZG]; omega), Qq, Yh (by simp [ZG]; omega), Qq, QCw cs hlt, e4, Qq, e5, Qq, e3, Qq,
          Zt (by rw [hf.len]; exact hr), Qq, XO (by rw [hf.row r hr]; exact hck), Qq]
        refine Runs.callR (Zz (n := gi (gr f r) (cs.getD k 0)) (by have : gi (gr f r) (cs.getD k 0) = g2 f r (cs.getD k 0) := rfl; omega)) fun u hu => ?_
        refine Runs.callR (Qpz hf hb rs (cs.eraseIdx k) fl (by omega) (by omega) (by rw [List.length_eraseIdx_of_lt hlt]; omega) (by rw [List.length_eraseIdx_of_lt hlt]; omega) (fun x hx => hrs x (by simp [hx])) (fun x hx => hcs x (List.mem_of_mem_eraseIdx hx))) fun v hv => ?_
        refine Runs.callR (Jx hu hv (by omega) (by omega)) fun t ht => ?_
        have hpar : decide ((Int.tmod (k : Int) 2) = 1) = decide (k % 2 = 1) := by
          rw [Int.tmod_eq_emod_of_nonneg (by omega), Bool.eq_iff_iff, decide_eq_true_eq, decide_eq_true_eq]; omega
        rw [hpar]
        have hg : gi (gr f r) (cs.getD k 0) = g2 f r (cs.getD k 0) := rfl
        rw [hg] at ht
        by_cases hp : k % 2 = 1
        · rw [decide_eq_true hp, cond_true]
          refine Runs.callR (Qpc ht) fun t2 ht2 => ?_
          refine Runs.callR (Qjn (N := 7 + 20 * rs.length + k + 3) hw (ht2.mono (by omega)) (by omega)) fun q hq => ?_
          refine Runs.some ⟨⟨k + 1, rfl, by omega, ?_⟩, by dsimp only; omega⟩
          have : ZN (fun k => g2 f r (cs.getD k 0) * Zq f rs (cs.eraseIdx k)) (k + 1) = ZN (fun k => g2 f r (cs.getD k 0) * Zq f rs (cs.eraseIdx k)) k + -(g2 f r (cs.getD k 0) * Zq f rs (cs.eraseIdx k)) := by simp only [ZN]; rw [if_pos hp]
          dsimp only
          rw [this]; exact hq
        · rw [decide_eq_false hp, cond_false]
          refine Runs.callR (Qjn (N := 7 + 20 * rs.length + k + 3) hw (ht.mono (by omega)) (by omega)) fun q hq => ?_
          refine Runs.some ⟨⟨k + 1, rfl, by omega, ?_⟩, by dsimp only; omega⟩
          have : ZN (fun k => g2 f r (cs.getD k 0) * Zq f rs (cs.eraseIdx k)) (k + 1) = ZN (fun k => g2 f r (cs.getD k 0) * Zq f rs (cs.eraseIdx k)) k + g2 f r (cs.getD k 0) * Zq f rs (cs.eraseIdx k) := by simp only [ZN]; rw [if_neg hp]
          dsimp only
          rw [this]; exact hq
      · obtain rfl : k = cs.length := by omega
        rw [Xn]
        exact Runs.some (hw.mono (by omega))
    exact Runs.mono inv fun o ho => Runs.some ho
theorem Qwn (f : List (List Int)) {l : List Nat} (h3 : l.length ≤ 3) : Zq f l l = Q2 f l := by
  match l, h3 with
  | [], _ => rfl
  | [a], _ => simp [Zq, Q2, ZN]
  | [a, b], _ => simp [Zq, Q2, ZN]; omega
  | [a, b, c], _ => simp [Zq, Q2, ZN]; grind
  | _ :: _ :: _ :: _ :: _, h => simp at h
end Go.Gw

end
section
set_option maxRecDepth 8192
set_option linter.unusedSimpArgs false
set_option linter.unusedVariables false
namespace Go.Gw
open Go

def YK (n q : Nat) : List Nat := (List.range n).filter fun i => q / 2 ^ i % 2 == 1
theorem Qpq {n q x : Nat} (h : x ∈ YK n q) : x < n := List.mem_range.1 (List.mem_filter.1 h).1
theorem Qvq (n q : Nat) : (YK n q).length ≤ n := by have := List.length_filter_le (fun i => q / 2 ^ i % 2 == 1) (List.range n); rw [List.length_range] at this; exact this
theorem Qhl {n : Nat} {f : List (List Int)} (hf : Sq n f) (hb : Bd n f 200000000000000) (hn : n ≤ 3) {q : Nat} (hq : q < 8) : Runs (Qas f (q : Int)) fun w => WV 100 w (Q2 f (YK n q)) := by
  unfold Qas
  have h : loop (Qck f (q : Int)) (([] : List Int), 0) = some (QZ (YK n q)) := by
    have key := Qzz (step := Qck f (q : Int)) n (fun k (a : List Int) => if q / 2 ^ k % 2 = 1 then a ++ [(k : Int)] else a) (fun a k => (a, (k : Int))) (fun a => a) (fun a k => a.length ≤ k) [] (Nat.le_refl _) (fun k hk a ha => by
      have e : (q : Int) / 2 ^ k = ((q / 2 ^ k : Nat) : Int) := by rw [Int.natCast_ediv, Int.natCast_pow]; rfl
      have hle : q / 2 ^ k ≤ q := Nat.div_le_self _ _
      have st : Qck f (q : Int) (a, (k : Int)) = some (.inl ((if q / 2 ^ k % 2 = 1 then a ++ [(k : Int)] else a), ((k + 1 : Nat) : Int))) := by
        unfold Qck
        dsimp only
        rw [hf.len, Xm hk, cond_true, Qiw _ k (by omega), Qq, e]
        generalize q / 2 ^ k = Q at hle ⊢
        rw [Qjr (by omega)]
        have e2 : decide ((Q : Int) % 2 = 1) = decide (Q % 2 = 1) := by
          rw [Bool.eq_iff_iff, decide_eq_true_eq, decide_eq_true_eq]; omega
        rw [e2]
        by_cases h1 : Q % 2 = 1
        · rw [decide_eq_true h1, cond_true, Yh (by simp; omega), Qq, Xk k (by omega), if_pos h1]
        · rw [decide_eq_false h1, cond_false, Xk k (by omega), if_neg h1]
      refine ⟨st, ?_⟩
      split
      · simp; omega
      · omega) (fun a ha => by
      unfold Qck
      dsimp only
      rw [hf.len, Xn]; rfl)
    have h1 := key.1
    have gen : ∀ m, rng (fun k (a : List Int) => if q / 2 ^ k % 2 = 1 then a ++ [(k : Int)] else a) [] m = QZ (YK m q) := by
      intro m
      induction m with
      | zero => rfl
      | succ m ih =>
        simp only [rng]
        rw [ih]
        unfold YK QZ
        rw [List.range_succ, List.filter_append]
        by_cases h1 : q / 2 ^ m % 2 = 1
        · simp [h1]
        · simp [h1]
    rw [gen] at h1
    exact h1
  rw [h, Qq]
  have hl := Qvq n q
  refine Runs.bind (Runs.mono (Qpz hf hb (YK n q) (YK n q) 6 (by omega) (by omega) (by omega) rfl (fun x hx => Qpq hx) (fun x hx => Qpq hx)) fun w hw => Runs.some ?_)
  rw [← Qwn f (by omega)]
  exact hw.mono (by omega)
theorem Qpr {n k : Nat} (hn : n ≤ 3) (hk : k ≤ n) : YK n (2 ^ k - 1) = List.range k := by
  have : ∀ n, n < 4 → ∀ k, k < n + 1 → YK n (2 ^ k - 1) = List.range k := by decide
  exact this n (by omega) k (by omega)
theorem Qsw {n : Nat} (h1 : 1 ≤ n) (hn : n ≤ 3) : ZV n = (List.range (2 ^ n - 1)).map fun k => YK n (k + 1) := by
  have : ∀ n, n < 4 → 1 ≤ n → ZV n = (List.range (2 ^ n - 1)).map fun k => YK n (k + 1) := by decide
  exact this n (by omega) h1
theorem Qat {n : Nat} (h : n ≤ 3) : ZW .i64 1 (n : Int) = some ((2 ^ n : Nat) : Int) := Qiv h
theorem QDn {f : List (List Int)} (hf : Sq f.length f) (hn : f.length ≤ 3) (hb : Bd f.length f 200000000000000) : Qih f = some (Yn f) := by
  refine Runs.eq ?_
  unfold Qih
  refine Runs.callR (R := fun o => match o with | .inl b => b = Yn f | .inr _ => Yn f = true) ?_ fun o ho => ?_
  · refine Runs.loop (fun s => ∃ k : Nat, s = (k : Int) ∧ 1 ≤ k ∧ k ≤ f.length + 1 ∧ ∀ j, j + 1 < k → 0 < Q2 f (List.range (j + 1))) (fun s => f.length + 1 - s.toNat) ⟨1, rfl, Nat.le_refl _, by omega, fun j hj => by omega⟩ ?_
    rintro _ ⟨k, rfl, hk1, hk, hp⟩
    unfold Qsq
    by_cases hle : k ≤ f.length
    · have h8 := Qce (n := k) (by omega)
      have hpos : 0 < 2 ^ k := Nat.pow_pos (by decide)
      rw [decide_eq_true (by omega), cond_true, Qat (by omega), Qq]
      have e1 : w64 (((2 ^ k : Nat) : Int) - 1) = ((2 ^ k - 1 : Nat) : Int) := by rw [Xa (by omega)]; omega
      rw [e1]
      refine Runs.callR (Qhl hf hb hn (q := 2 ^ k - 1) (by omega)) fun w hw => ?_
      rw [Qpr hn hle] at hw
      rw [Qjo hw, Qq]
      rcases Yd (Q2 f (List.range k)) with h | h | h
      · rw [h.2]
        refine Runs.some ?_
        show false = Yn f
        symm
        unfold Yn
        rw [List.all_eq_false]
        exact ⟨k - 1, by simp; omega, by rw [Nat.sub_add_cancel hk1]; simp; omega⟩
      · rw [h.2]
        refine Runs.some ?_
        show false = Yn f
        symm
        unfold Yn
        rw [List.all_eq_false]
        exact ⟨k - 1, by simp; omega, by rw [Nat.sub_add_cancel hk1]; simp; omega⟩
      · rw [h.2, Xk k (by omega)]
        refine Runs.some ⟨⟨k + 1, rfl, by omega, by omega, fun j hj => ?_⟩, by dsimp only; omega⟩
        by_cases hjk : j + 1 = k
        · rw [hjk]; exact h.1
        · exact hp j (by omega)
    · rw [decide_eq_false (by omega)]
      refine Runs.some ?_
      show Yn f = true
      unfold Yn
      rw [List.all_eq_true]
      intro j hj
      rw [List.mem_range] at hj
      exact decide_eq_true (hp j (by omega))
  · cases o with
    | inl b => exact Runs.jl ho
    | inr _ => exact Runs.jr (Runs.some ho.symm)
theorem QEn {p : LevitatePlant} (h : Rp p) {m : Nat} (hm : m < p.Maps.length) {f : List (List Int)} (hf : Sq p.Noise.length f) (hb : Bd p.Noise.length f 10000) {r : Arr2_Int} (hr : Rr r) :
    Qit p (gm p m) f r = some (YL p.Noise.length (dM p m f r)) := by
  refine Runs.eq ?_
  unfold Qit
  have h3 := h.n3
  have h1 := h.n1
  have hx := rdd h hr
  have hml := h.sq _ (J0 hm)
  have him : ∀ i k, i < p.Noise.length → k < p.Noise.length → loop (Qci (gm p m) f (i : Int) (k : Int)) (0, 0) = some (YW p m f i k) := by
    intro i k hi hk
    have key : ∀ a, a ≤ p.Noise.length → loop (Qci (gm p m) f (i : Int) (k : Int)) (0, 0) = loop (Qci (gm p m) f (i : Int) (k : Int)) (w64 (Q0 (fun a => ge p m a i * Q0 (fun b => g2 f a b * ge p m b k) p.Noise.length) a), (a : Int)) := by
      intro a
      induction a with
      | zero => intro _; rfl
      | succ a ih =>
        intro ha
        rw [ih (by omega)]
        have inner : loop (Qiq (gm p m) f (i : Int) (k : Int) (a : Int)) (w64 (Q0 (fun a => ge p m a i * Q0 (fun b => g2 f a b * ge p m b k) p.Noise.length) a), 0) = some (w64 (Q0 (fun a => ge p m a i * Q0 (fun b => g2 f a b * ge p m b k) p.Noise.length) (a + 1))) := by
          rw [Qrp p.Noise.length (fun b => ge p m a i * (g2 f a b * ge p m b k))]
          · rw [Qoe, Qeq]; rfl
          · intro b hb' acc
            unfold Qiq
            dsimp only
            rw [hf.len, Xm hb', cond_true, Zt (by omega), Qq, Zt (by rw [hf.len]; omega), Qq, Zt (by omega), Qq, XO (by rw [h.row_len hm (by omega)]; exact hi), Qq, XO (by rw [hf.row a (by omega)]; exact hb'), Qq, XO (by rw [h.row_len hm hb']; exact hk), Qq, Xk b (by omega), Qom, Jt]
            congr 4
            show acc + gi (gr (gm p m) a) i * gi (gr f a) b * gi (gr (gm p m) b) k = acc + ge p m a i * (g2 f a b * ge p m b k)
            unfold ge g2; grind
          · intro acc
            unfold Qiq
            dsimp only
            rw [hf.len, Xn]; rfl
          · exact Qto _
        rw [YC (s' := (w64 (Q0 (fun a => ge p m a i * Q0 (fun b => g2 f a b * ge p m b k) p.Noise.length) (a + 1)), ((a + 1 : Nat) : Int)))]
        unfold Qci
        dsimp only
        rw [hf.len, Xm (by omega), cond_true, inner, Qq, Xk a (by omega)]
    have hib := Qkv h hm hb hi hk
    rw [key _ (Nat.le_refl _), XZ (o := YW p m f i k)]
    unfold Qci
    dsimp only
    rw [hf.len, Xn]
    show (some (.inr (w64 (YW p m f i k))) : Option ((Int × Int) ⊕ Int)) = _
    rw [Xa (by omega)]
  have hd : loop (Qis p (gm p m) r f) ([], 0) = some (dM p m f r) := by
    refine JE p.Noise.length (fun i => Zw p.Noise.length (dI p m f r i)) (fun i hi acc hacc => ?_) (fun acc => ?_)
    · unfold Qis
      dsimp only
      rw [hf.len, Xm hi, cond_true]
      have hrow : loop (Qir p (gm p m) r f (i : Int)) ([], 0) = some (Zw p.Noise.length (dI p m f r i)) := by
        refine JE p.Noise.length (dI p m f r i) (fun k hk acc2 hacc2 => ?_) (fun acc2 => ?_)
        · unfold Qir
          dsimp only
          have hb2 := Qfh h hm hb hr hi hk
          rw [hf.len, Xm hk, cond_true, him i k hi hk, Qq, Zt (by rw [hf.len]; exact hi), Qq, XO (by rw [hf.row i hi]; exact hk), Qq]
          rw [Xa (x := r.e0 * p.Den) (by omega), Xa (x := r.e0 * p.Den * p.Den) (by omega)]
          change Option.bind (XM acc2 [w64 (w64 (r.e0 * p.Den * p.Den * g2 f i k) - w64 (r.e1 * YW p m f i k))]) _ = _
          rw [Xa (x := r.e0 * p.Den * p.Den * g2 f i k) (by omega), Xa (x := r.e1 * YW p m f i k) (by omega), Xa (by omega), Yh (by simp [hacc2]; omega), Qq, Xk k (by omega)]; rfl
        · unfold Qir
          dsimp only
          rw [hf.len, Xn]; rfl
      rw [hrow, Qq, Yh (by simp [hacc]; omega), Qq, Xk i (by omega)]
    · unfold Qis
      dsimp only
      rw [hf.len, Xn]; rfl
  rw [hd, Qq]
  have hsq : Sq p.Noise.length (dM p m f r) := Qsy _ _
  have hbd : Bd p.Noise.length (dM p m f r) 200000000000000 := fun i k hi hk => by
    unfold dM; rw [Qdn hi hk]
    have := Qfh h hm hb hr hi hk
    unfold dI; omega
  have h8 := Qce h3
  have hp0 : 0 < 2 ^ p.Noise.length := Nat.pow_pos (by decide)
  refine Runs.callR (R := fun o => match o with | .inl b => b = YL p.Noise.length (dM p m f r) | .inr _ => YL p.Noise.length (dM p m f r) = true) ?_ fun o ho => ?_
  · refine Runs.loop (fun s => ∃ k : Nat, s = (k : Int) ∧ 1 ≤ k ∧ k ≤ 2 ^ p.Noise.length ∧ ∀ j, j + 1 < k → 0 ≤ Q2 (dM p m f r) (YK p.Noise.length (j + 1))) (fun s => 2 ^ p.Noise.length - s.toNat) ⟨1, rfl, Nat.le_refl _, by omega, fun j hj => by omega⟩ ?_
    rintro _ ⟨k, rfl, hk1, hk, hp⟩
    unfold Qsr
    rw [hf.len, Qat h3, Qq]
    by_cases hlt : k < 2 ^ p.Noise.length
    · rw [Xm hlt, cond_true]
      refine Runs.callR (Qhl hsq hbd h3 (q := k) (by omega)) fun w hw => ?_
      rw [Qjo hw, Qq]
      have hcase : (0 ≤ Q2 (dM p m f r) (YK p.Noise.length k) ∧ decide (Int.sign (Q2 (dM p m f r) (YK p.Noise.length k)) < 0) = false) ∨ (Q2 (dM p m f r) (YK p.Noise.length k) < 0 ∧ decide (Int.sign (Q2 (dM p m f r) (YK p.Noise.length k)) < 0) = true) := by
        rcases Yd (Q2 (dM p m f r) (YK p.Noise.length k)) with h | h | h
        · right; exact ⟨h.1, by rw [h.2]; rfl⟩
        · left; exact ⟨by omega, by rw [h.2]; rfl⟩
        · left; exact ⟨by omega, by rw [h.2]; rfl⟩
      rcases hcase with h | h
      · rw [h.2, Xk k (by omega)]
        refine Runs.some ⟨⟨k + 1, rfl, by omega, by omega, fun j hj => ?_⟩, by dsimp only; omega⟩
        by_cases hjk : j + 1 = k
        · rw [hjk]; exact h.1
        · exact hp j (by omega)
      · rw [h.2]
        refine Runs.some ?_
        show false = YL _ _
        symm
        unfold YL
        rw [Qsw h1 h3, List.all_eq_false]
        exact ⟨YK p.Noise.length k, List.mem_map.2 ⟨k - 1, by simp; omega, by rw [Nat.sub_add_cancel hk1]⟩, by simp; omega⟩
    · obtain rfl : k = 2 ^ p.Noise.length := by omega
      rw [Xn]
      refine Runs.some ?_
      show YL _ _ = true
      unfold YL
      rw [Qsw h1 h3, List.all_eq_true]
      intro l hl
      obtain ⟨j, hj, rfl⟩ := List.mem_map.1 hl
      rw [List.mem_range] at hj
      exact decide_eq_true (hp j (by omega))
  · cases o with
    | inl b => exact Runs.jl ho
    | inr _ => exact Runs.jr (Runs.some ho.symm)
def cfV (p : LevitatePlant) (f : List (List Int)) (r : Arr2_Int) : Int × Int := if Yn f then (match Jk p f r with | some m => ((m : Int), 24) | none => (0, 0)) else (0, 20)
theorem QDk {p : LevitatePlant} (h : Rp p) {f : List (List Int)} (hf : Rf f) (hn : f.length = p.Noise.length) {r : Arr2_Int} (hr : Rr r) : Qhw p f r = some (cfV p f r) := by
  have hsq : Sq p.Noise.length f := by rw [← hn]; exact hf.sq
  have hbd : Bd p.Noise.length f 10000 := by rw [← hn]; exact hf.bd
  unfold Qhw cfV
  rw [QDn hf.sq hf.n3 (hf.bd.mono (by decide)), Qq]
  cases Yn f with
  | false => rfl
  | true =>
    simp only [Bool.not_true, cond_false, if_true]
    rw [Ya p.Maps (fun m _ => (if YL p.Noise.length (dM p m f r) then none else some m).map fun m : Nat => ((m : Int), (24 : Int)))]
    · rw [Qq, J4 (fun m : Nat => ((m : Int), (24 : Int))) (fun m _ => if YL p.Noise.length (dM p m f r) then none else some m)]
      change (Xt (oi ((Jk p f r).map _)) _) = _
      cases Jk p f r <;> rfl
    · intro m hm
      unfold Qni
      rw [Xm hm, cond_true, Qfq hm, Qq, QEn h hm hsq hbd hr, Qq, Xk m (by have := h.m4; omega)]
      cases YL p.Noise.length (dM p m f r) <;> rfl
    · unfold Qni
      rw [Xn]; rfl
theorem QDr (r : Arr2_Int) : Qil r = some (if ZJ r then 0 else 2) := by
  unfold Qil ZJ
  simp only [Qbh, Qq]
  cases (decide (1 ≤ r.e1) && decide (r.e1 ≤ 1000)) <;> cases (decide (0 ≤ r.e0) && decide (r.e0 ≤ r.e1)) <;> rfl
def JR (p : LevitatePlant) (f : List (List Int)) (r : Arr2_Int) : Int :=
  if (X1 p).2 ≠ 0 then (X1 p).2 else if Jn p f ≠ 0 then Jn p f else if ZJ r then (cfV p f r).2 else 2
theorem QDi {p : LevitatePlant} (h : Sh p) {f : List (List Int)} (hl : f.length < 1073741824) (r : Arr2_Int) : Qhu p f r = some (JR p f r) := by
  unfold Qhu JR
  rw [QDp p h, Qq]
  by_cases h0 : (X1 p).2 = 0
  · have hp := ckP_right.1 h0
    rw [decide_eq_true h0, if_neg (by simpa using h0)]
    simp only [Bool.not_true, cond_false]
    rw [QDq p f hl, Qq]
    by_cases h1 : Jn p f = 0
    · obtain ⟨hf, hn⟩ := pfE_zero.1 h1
      rw [decide_eq_true h1, if_neg (by simpa using h1)]
      simp only [Bool.not_true, cond_false]
      rw [QDr, Qq]
      cases hr : ZJ r with
      | false => rfl
      | true =>
        simp only [if_true, decide_true, Bool.not_true, cond_false]
        rw [QDk hp hf hn (rateB_iff.1 hr)]; rfl
    · rw [decide_eq_false h1, if_pos h1]; rfl
  · rw [decide_eq_false h0, if_pos h0]; rfl
theorem QDt {p : LevitatePlant} (h : Rp p) {f : List (List Int)} (hf : Sq p.Noise.length f) (hb : Bd p.Noise.length f 10000) : Qip p f = some (Y5 p f) := by
  unfold Qip
  have h3 := h.n3
  have h8 := Qce h3
  have vb : ∀ s, -(3 * (10001 * (3 * (10000 * 10001)))) ≤ Yp p.Noise.length f (xv p s) ∧ Yp p.Noise.length f (xv p s) ≤ 3 * (10001 * (3 * (10000 * 10001))) := fun s => Qol h3 hb (by decide) (fun k hk => Qop h s hk)
  have hx : ∀ s : Nat, s < 8 → loop (Qio f p (s : Int)) ([], 0) = some (xv p s) := by
    intro s hs
    refine JE p.Noise.length _ (fun k hk acc hacc => ?_) (fun acc => ?_)
    · unfold Qio
      dsimp only
      have hb := h.noise_b hk
      rw [hf.len, Xm hk, cond_true, XO hk, Qq, Qiw _ k (by omega), Qq]
      have e : (s : Int) / 2 ^ k = ((s / 2 ^ k : Nat) : Int) := by rw [Int.natCast_ediv, Int.natCast_pow]; rfl
      have hle : s / 2 ^ k ≤ s := Nat.div_le_self _ _
      have e3 : Z8 s k = 1 - 2 * ((s / 2 ^ k % 2 : Nat) : Int) := rfl
      rw [e, e3]
      generalize s / 2 ^ k = Q at *
      rw [Qjr (by omega), Xa (x := gi p.Noise k + 1) (by omega), Xa (x := 0 - (gi p.Noise k + 1)) (by omega), Xk k (by omega), Yh (by simp [hacc]; omega), Yh (by simp [hacc]; omega)]
      have e2 : decide ((Q : Int) % 2 = 1) = decide (Q % 2 = 1) := by rw [Bool.eq_iff_iff, decide_eq_true_eq, decide_eq_true_eq]; omega
      rw [e2]
      by_cases h1 : Q % 2 = 1
      · rw [decide_eq_true h1, cond_true, Qq, h1]
        have : 0 - (gi p.Noise k + 1) = (gi p.Noise k + 1) * (1 - 2 * ((1 : Nat) : Int)) := by omega
        rw [this]
      · rw [decide_eq_false h1, cond_false, Qq]
        have h0 : Q % 2 = 0 := by omega
        rw [h0]
        have : gi p.Noise k + 1 = (gi p.Noise k + 1) * (1 - 2 * ((0 : Nat) : Int)) := by omega
        rw [← this]
    · unfold Qio
      dsimp only
      rw [hf.len, Xn]; rfl
  have key : ∀ s, s ≤ 2 ^ p.Noise.length → loop (Qcg f p) (0, 0) = loop (Qcg f p) (wst (fun s => Yp p.Noise.length f (xv p s)) s, (s : Int)) := by
    intro s
    induction s with
    | zero => intro _; rfl
    | succ s ih =>
      intro hs
      rw [ih (by omega)]
      refine YC ?_
      unfold Qcg
      dsimp only
      rw [hf.len, Qat h3, Qq, Xm (by omega), cond_true, hx s (by omega), Qq, QDs hf (by unfold xv; rw [Qaw]) (by omega), Qq, Xk s (by omega)]
      have := vb s
      rw [Xa (by omega)]
      have e0 : decide ((s : Int) = 0) = decide (s = 0) := Y7 _ 0
      rw [e0]
      simp only [wst]
      by_cases h1 : s = 0
      · simp [h1]
      · by_cases h2 : wst (fun s => Yp p.Noise.length f (xv p s)) s < Yp p.Noise.length f (xv p s)
        · simp [h1, h2]
        · simp [h1, h2]
  rw [key _ (Nat.le_refl _)]
  have : Qcg f p (wst (fun s => Yp p.Noise.length f (xv p s)) (2 ^ p.Noise.length), ((2 ^ p.Noise.length : Nat) : Int)) = some (.inr (wst (fun s => Yp p.Noise.length f (xv p s)) (2 ^ p.Noise.length))) := by
    unfold Qcg
    dsimp only
    rw [hf.len, Qat h3, Qq, Xn]; rfl
  rw [XZ this]; rfl
theorem QDo {level worst : Int} {r : Arr2_Int} (hr : Rr r) (hl : 0 ≤ level ∧ level ≤ 100000000000000) (hw : -9002000000000000 ≤ worst ∧ worst ≤ 9002000000000000) : Qii r worst level = some (YT level worst r) := by
  refine Runs.eq ?_
  unfold Qii
  have h0 := hr.e0; have h1 := hr.e1
  have a3 := XG (a := 4 * r.e0) (b := r.e1) (A := 4000) (B := 1000) (by omega) (by omega)
  rw [Xa (x := r.e1 - r.e0) (by omega), Xa (x := 4 * r.e0) (by omega), Xa (x := 4 * r.e0 * r.e1) (by omega)]
  refine Runs.callR (R := fun o : Int × List Int => WV 20 ⟨o.1, o.2⟩ ((r.e1 - r.e0) * level - r.e1 * worst)) ?_ ?_
  · refine Runs.callR (Zz (n := r.e1 - r.e0) (by omega)) fun w1 h1' => ?_
    refine Runs.callR (Zz (n := level) (by omega)) fun w2 h2' => ?_
    refine Runs.callR (Jx h1' h2' (by decide) (by decide)) fun w3 h3' => ?_
    refine Runs.callR (Zz (n := r.e1) (by omega)) fun w4 h4' => ?_
    refine Runs.callR (Zz (n := worst) (by omega)) fun w5 h5' => ?_
    refine Runs.callR (Jx h4' h5' (by decide) (by decide)) fun w6 h6' => ?_
    exact Runs.callR (Qpd h3' h6' (by decide)) fun A hA => Runs.some (hA.mono (by decide))
  rintro ⟨A1, A2⟩ hA
  dsimp only at hA
  dsimp only
  refine Runs.callR (Zz (n := 4 * r.e0 * r.e1) (by omega)) fun w7 h7' => ?_
  refine Runs.callR (Zz (n := level) (by omega)) fun w8 h8' => ?_
  refine Runs.callR (Zz (n := worst) (by omega)) fun w9 h9' => ?_
  refine Runs.callR (Jx h8' h9' (by decide) (by decide)) fun w10 h10' => ?_
  refine Runs.callR (Jx h7' h10' (by decide) (by decide)) fun B hB => ?_
  rw [Qjo hA, Qq]
  have e4 : 4 * r.e0 * r.e1 * (level * worst) = 4 * r.e0 * r.e1 * level * worst := by rw [Int.mul_assoc (4 * r.e0 * r.e1)]
  rw [e4] at hB
  have hz : decide (0 ≤ Int.sign ((r.e1 - r.e0) * level - r.e1 * worst)) = decide (0 ≤ (r.e1 - r.e0) * level - r.e1 * worst) := by
    rcases Yd ((r.e1 - r.e0) * level - r.e1 * worst) with h | h | h <;> rw [h.2, Bool.eq_iff_iff, decide_eq_true_eq, decide_eq_true_eq] <;> omega
  rw [hz]
  unfold YT
  by_cases hc : 0 ≤ (r.e1 - r.e0) * level - r.e1 * worst
  · rw [decide_eq_true hc]
    simp only [cond_true]
    refine Runs.callR (Jx hA hA (by decide) (by decide)) fun C hC => ?_
    rw [Qpb (hC.mono (M := 100) (by decide)) (hB.mono (M := 100) (by decide)) (by decide), Qq]
    refine Runs.some ?_
    simp only [Bool.true_and]
    generalize 4 * r.e0 * r.e1 * level * worst = b
    generalize ((r.e1 - r.e0) * level - r.e1 * worst) * ((r.e1 - r.e0) * level - r.e1 * worst) = a
    rcases Yd (a - b) with h | h | h <;> rw [h.2, Bool.eq_iff_iff, decide_eq_true_eq, decide_eq_true_eq] <;> omega
  · rw [decide_eq_false hc]
    simp only [cond_false, Qq, Bool.false_and]
    exact Runs.some rfl
theorem Qqt {L L' W : Int} {r : Arr2_Int} (hr : Rr r) (hW : 0 ≤ W) (hL : 0 ≤ L) (hle : L ≤ L') (h : YT L W r = true) : YT L' W r = true := by
  have h0 := hr.e0
  have h1 := hr.e1
  unfold YT at h ⊢
  simp only [Bool.and_eq_true, decide_eq_true_eq] at h ⊢
  obtain ⟨ha, hb⟩ := h
  generalize hd : r.e1 - r.e0 = d at ha hb ⊢
  have hd0 : 0 ≤ d := by omega
  have hrw : 0 ≤ r.e1 * W := Int.mul_nonneg (by omega) hW
  have hdl : d * L ≤ d * L' := Int.mul_le_mul_of_nonneg_left hle hd0
  refine ⟨by omega, ?_⟩
  -- a, the step, and what they come to
  generalize hA : d * L - r.e1 * W = A at ha hb
  obtain ⟨δ, hδ⟩ : ∃ δ, L' = L + δ := ⟨L' - L, by omega⟩
  have hδ0 : 0 ≤ δ := by omega
  have eA : d * L' - r.e1 * W = A + d * δ := by rw [hδ, Int.mul_add]; omega
  rw [eA]
  have key : 4 * r.e0 * r.e1 * W ≤ 2 * (A * d) ∨ L = 0 := by
    rcases Int.lt_or_le 0 L with hp | hp
    · left
      have q1 : A * A ≤ A * (d * L) := Int.mul_le_mul_of_nonneg_left (by omega) ha
      have q2 : 4 * r.e0 * r.e1 * W * L ≤ A * d * L := by
        have e1 : 4 * r.e0 * r.e1 * L * W = 4 * r.e0 * r.e1 * W * L := by grind
        have e2 : A * (d * L) = A * d * L := by grind
        omega
      have q3 := Int.le_of_mul_le_mul_right q2 hp
      have q4 : 0 ≤ A * d := Int.mul_nonneg ha hd0
      omega
    · right; omega
  have hq : 0 ≤ d * δ * (d * δ) := Zh _
  have hW' : 4 * r.e0 * r.e1 * W ≤ 2 * (A * d) := by
    rcases key with h | h
    · exact h
    · subst h
      have : r.e1 * W = 0 := by rw [Int.mul_zero] at hA; omega
      have hw0 : W = 0 := by
        rcases Int.lt_or_le 0 W with hp | hp
        · have := Int.mul_pos (show 0 < r.e1 by omega) hp; omega
        · omega
      subst hw0
      rw [Int.mul_zero]
      have : 0 ≤ A * d := Int.mul_nonneg ha hd0
      omega
  have q5 : 4 * r.e0 * r.e1 * W * δ ≤ 2 * (A * d) * δ := Int.mul_le_mul_of_nonneg_right hW' hδ0
  have e1 : 4 * r.e0 * r.e1 * L' * W = 4 * r.e0 * r.e1 * L * W + 4 * r.e0 * r.e1 * W * δ := by rw [hδ]; grind
  have e2 : (A + d * δ) * (A + d * δ) = A * A + 2 * (A * d) * δ + d * δ * (d * δ) := by grind
  rw [e1, e2]
  omega
def LvR (W : Int) (r : Arr2_Int) (n : Int) : Prop := 0 ≤ n ∧ n ≤ 100000000000000 ∧ YT n W r = true ∧ (0 < n → YT (n - 1) W r = false)
theorem LvR.one {W : Int} {r : Arr2_Int} (hr : Rr r) (hW : 0 ≤ W) {a b : Int} (ha : LvR W r a) (hb : LvR W r b) : a = b := by
  obtain ⟨a0, a1, a2, a3⟩ := ha
  obtain ⟨b0, b1, b2, b3⟩ := hb
  rcases Int.lt_trichotomy a b with h | h | h
  · have := b3 (by omega); rw [Qqt hr hW a0 (by omega) a2] at this; cases this
  · exact h
  · have := a3 (by omega); rw [Qqt hr hW b0 (by omega) b2] at this; cases this
end Go.Gw

end
section
set_option maxRecDepth 8192
set_option linter.unusedSimpArgs false
set_option linter.unusedVariables false
namespace Go.Gw
open Go

theorem Qvr {n i : Nat} (hn : n ≤ 3) (hi : i < n) : YK n (2 ^ n - 1 - 2 ^ i) = X7 n i := by
  have : ∀ n, n < 4 → ∀ i, i < n → YK n (2 ^ n - 1 - 2 ^ i) = X7 n i := by decide
  exact this n (by omega) i hi
def RtR (A D n : Int) : Prop := 0 ≤ n ∧ n * n * D ≤ A ∧ A < (n + 1) * (n + 1) * D
theorem RtR.one {A D : Int} (hD : 0 < D) {a b : Int} (ha : RtR A D a) (hb : RtR A D b) : a = b := by
  obtain ⟨a0, a1, a2⟩ := ha
  obtain ⟨b0, b1, b2⟩ := hb
  have key : ∀ {a b : Int}, 0 ≤ a → 0 ≤ b → a * a * D ≤ A → A < (b + 1) * (b + 1) * D → a ≤ b := by
    intro a b h0 h1 h2 h3
    rcases Int.lt_or_le b a with h | h
    · exfalso
      have q1 : (b + 1) * (b + 1) ≤ a * a := Int.mul_le_mul (by omega) (by omega) (by omega) (by omega)
      have q2 := Int.mul_le_mul_of_nonneg_right q1 (Int.le_of_lt hD)
      omega
    · exact h
  have h1 := key a0 b0 a1 b2
  have h2 := key b0 a0 b1 a2
  omega
theorem Qvt {A D : Int} (hD : 0 < D ∧ D ≤ 6000000000000) (hA : 0 ≤ A ∧ A < 75557863725914323419136) : RtR A D (Jg A D) := by
  obtain ⟨q, hq, q1, q2, q3, q4⟩ := Qqu A D
  have below : ∀ n : Int, 0 ≤ n → n ≤ 274877906945 → bpr A D n = decide (A < n * n * D) := fun n h0 h1 => by
    have a1 := XG (a := n) (b := n) (A := 274877906945) (B := 274877906945) (by omega) (by omega)
    have a2 := XG (a := n * n) (b := D) (A := 274877906945 * 274877906945) (B := 6000000000000) a1 (by omega)
    unfold bpr
    generalize n * n * D = B at a2 ⊢
    rw [Bool.eq_iff_iff, decide_eq_true_eq, decide_eq_true_eq]
    omega
  have hq0 : 0 < q.1 := by
    rcases Int.lt_or_le 0 q.1 with h0 | h0
    · exact h0
    · have : q.1 = 0 := by omega
      have h3 := q3 (by omega)
      rw [below _ q1 q2, this] at h3
      simp at h3; omega
  have h4 := q4 hq0
  rw [below _ (by omega) (by omega), decide_eq_false_iff_not] at h4
  have hsm : q.1 ≤ 274877906944 := by
    rcases Int.lt_or_le 274877906944 q.1 with h | h
    · exfalso
      have e : q.1 - 1 = 274877906944 := by omega
      rw [e] at h4
      have := Int.mul_le_mul_of_nonneg_left (show 1 ≤ D by omega) (show (0 : Int) ≤ 274877906944 * 274877906944 by decide)
      omega
    · exact h
  have h3 := q3 hsm
  rw [below _ q1 q2, decide_eq_true_eq] at h3
  have hb : Jg A D = q.1 - 1 := by
    unfold Jg; rw [hq]; exact Xa (by show _ ≤ q.1 - 1 ∧ q.1 - 1 ≤ _; omega)
  rw [hb]
  refine ⟨by omega, by omega, ?_⟩
  rw [Int.sub_add_cancel]; exact h3
theorem QEp {A D a1 : Int} {a2 : List Int} {d : guidewaybase_Wide} (hA : WV 200 ⟨a1, a2⟩ A) (hd : WV 100 d D) (hD : 0 < D) (h0 : 0 ≤ A) (hA2 : A < 75557863725914323419136) : Runs (loop (Qnh d a1 a2) (0, 1099511627776)) fun n => RtR A D n := by
  refine Runs.loop (fun s => 0 ≤ s.1 ∧ s.1 < s.2 ∧ s.2 ≤ 1099511627776 ∧ s.1 * s.1 * D ≤ A ∧ A < s.2 * s.2 * D) (fun s => (s.2 - s.1).toNat) ⟨by decide, by decide, by decide, by show 0 * 0 * D ≤ A; rw [Int.zero_mul, Int.zero_mul]; exact h0, by
    have := Int.mul_le_mul_of_nonneg_left (show 1 ≤ D by omega) (show (0 : Int) ≤ 1099511627776 * 1099511627776 by decide)
    show A < 1099511627776 * 1099511627776 * D
    omega⟩ ?_
  rintro ⟨lo, hi⟩ ⟨h1, h2, h3, h4, h5⟩
  dsimp only at h1 h2 h3 h4 h5
  unfold Qnh
  dsimp only
  rw [Xa (x := lo + 1) (by omega)]
  by_cases hlt : lo + 1 < hi
  · have e2 : Int.tdiv (lo + hi) 2 = (lo + hi) / 2 := Int.tdiv_eq_ediv_of_nonneg (by omega)
    rw [decide_eq_true hlt, cond_true, Xa (x := lo + hi) (by omega), e2, Xa (x := (lo + hi) / 2) (by omega)]
    refine Runs.callR (Zz (n := (lo + hi) / 2) (by omega)) fun w1 hw1 => ?_
    refine Runs.callR (Zz (n := (lo + hi) / 2) (by omega)) fun w2 hw2 => ?_
    refine Runs.callR (Jx hw1 hw2 (by decide) (by decide)) fun w3 hw3 => ?_
    refine Runs.callR (Jx hw3 hd (by decide) (by decide)) fun w4 hw4 => ?_
    rw [Qpb (hw4.mono (M := 200) (by decide)) hA (by decide), Qq]
    have hcase : ((lo + hi) / 2 * ((lo + hi) / 2) * D ≤ A ∧ decide (Int.sign ((lo + hi) / 2 * ((lo + hi) / 2) * D - A) ≤ 0) = true) ∨ (A < (lo + hi) / 2 * ((lo + hi) / 2) * D ∧ decide (Int.sign ((lo + hi) / 2 * ((lo + hi) / 2) * D - A) ≤ 0) = false) := by
      rcases Yd ((lo + hi) / 2 * ((lo + hi) / 2) * D - A) with h | h | h
      · left; exact ⟨by omega, by rw [h.2]; rfl⟩
      · left; exact ⟨by omega, by rw [h.2]; rfl⟩
      · right; exact ⟨by omega, by rw [h.2]; rfl⟩
    rcases hcase with h | h
    · rw [h.2]
      exact Runs.some ⟨⟨by dsimp only; omega, by dsimp only; omega, h3, h.1, h5⟩, by dsimp only; omega⟩
    · rw [h.2]
      exact Runs.some ⟨⟨h1, by dsimp only; omega, by dsimp only; omega, h4, h.1⟩, by dsimp only; omega⟩
  · rw [decide_eq_false hlt]
    have : hi = lo + 1 := by omega
    subst this
    exact Runs.some ⟨h1, h4, h5⟩
theorem Qvz {f : List (List Int)} (hf : Rf f) (hp : Yn f = true) {i : Nat} (hi : i < f.length) : (0 < Q2 f (List.range f.length) ∧ Q2 f (List.range f.length) ≤ 6000000000000) ∧ 0 ≤ Q2 f (X7 f.length i) ∧ Q2 f (X7 f.length i) ≤ 200000000 := by
  have hk : ∀ k, k < f.length → 0 < Q2 f (List.range (k + 1)) := by simpa [Yn] using hp
  have hDb := Qwo hf.bd (l := List.range f.length) fun x hx => List.mem_range.1 hx
  have hd := (Qvw hf.n1 hf.n3 hf.sym hp (u := fun k => if k = i then 1 else 0) hi)
  have h3 := Qnc hf.n1 hf.n3 hf.sym hp (fun k => if k = i then 1 else 0)
  have h2 := hd.2
  simp only [if_true] at h2
  refine ⟨⟨hd.1, hDb.2⟩, ?_, ?_⟩
  · rcases Int.lt_or_le (Q2 f (X7 f.length i)) 0 with hlt | hge
    · have := Int.mul_nonneg h3 (show 0 ≤ -Q2 f (X7 f.length i) by omega)
      rw [Int.mul_neg] at this
      have := hd.1
      omega
    · exact hge
  · have hb := hf.bd
    have hn1 := hf.n1
    have hn3 := hf.n3
    have q : ∀ a b c d, a < f.length → b < f.length → c < f.length → d < f.length → -100000000 ≤ g2 f a b * g2 f c d ∧ g2 f a b * g2 f c d ≤ 100000000 := fun a b c d h1 h2 h3 h4 => XG (hb a b h1 h2) (hb c d h3 h4)
    have hc : (f.length = 1 ∧ i = 0) ∨ (f.length = 2 ∧ i = 0) ∨ (f.length = 2 ∧ i = 1) ∨ (f.length = 3 ∧ i = 0) ∨ (f.length = 3 ∧ i = 1) ∨ (f.length = 3 ∧ i = 2) := by omega
    rcases hc with ⟨e, rfl⟩ | ⟨e, rfl⟩ | ⟨e, rfl⟩ | ⟨e, rfl⟩ | ⟨e, rfl⟩ | ⟨e, rfl⟩ <;> rw [e]
    · show (1 : Int) ≤ _; decide
    · show g2 f 1 1 ≤ _; have := hb 1 1 (by omega) (by omega); omega
    · show g2 f 0 0 ≤ _; have := hb 0 0 (by omega) (by omega); omega
    · show g2 f 1 1 * g2 f 2 2 - g2 f 1 2 * g2 f 2 1 ≤ _
      have := q 1 1 2 2 (by omega) (by omega) (by omega) (by omega); have := q 1 2 2 1 (by omega) (by omega) (by omega) (by omega); omega
    · show g2 f 0 0 * g2 f 2 2 - g2 f 0 2 * g2 f 2 0 ≤ _
      have := q 0 0 2 2 (by omega) (by omega) (by omega) (by omega); have := q 0 2 2 0 (by omega) (by omega) (by omega) (by omega); omega
    · show g2 f 0 0 * g2 f 1 1 - g2 f 0 1 * g2 f 1 0 ≤ _
      have := q 0 0 1 1 (by omega) (by omega) (by omega) (by omega); have := q 0 1 1 0 (by omega) (by omega) (by omega) (by omega); omega
theorem QFy {P Q : Nat} (h : Q ≤ P - 1) (hP : P ≤ 8) : w64 (((P - 1 : Nat) : Int) - ((Q : Nat) : Int)) = ((P - 1 - Q : Nat) : Int) ∧ P - 1 - Q < 8 := by
  refine ⟨?_, by omega⟩
  rw [Xa (by omega)]; omega
theorem QDj {f : List (List Int)} (hf : Rf f) (hp : Yn f = true) {level : Int} (hl : 0 ≤ level ∧ level ≤ 100000000000000) : Qhv f level = some (Qdh f level) := by
  refine Runs.eq ?_
  unfold Qhv
  have hn1 := hf.n1
  have hn3 := hf.n3
  have h8 := Qce hn3
  have hp0 : 0 < 2 ^ f.length := Nat.pow_pos (by decide)
  have hb : Bd f.length f 200000000000000 := hf.bd.mono (by decide)
  rw [Qat hn3, Qq]
  have e1 : w64 (((2 ^ f.length : Nat) : Int) - 1) = ((2 ^ f.length - 1 : Nat) : Int) := by rw [Xa (by omega)]; omega
  rw [e1]
  refine Runs.callR (Qhl hf.sq hb hn3 (q := 2 ^ f.length - 1) (by omega)) fun d hd => ?_
  rw [Qpr hn3 (Nat.le_refl _)] at hd
  refine Runs.callR (R := fun l => l = Qdh f level) ?_ fun l hl => Runs.some hl
  refine Runs.loop (fun s => ∃ k : Nat, s.2 = (k : Int) ∧ k ≤ f.length ∧ s.1 = (List.range k).map fun i => Jg (level * Q2 f (X7 f.length i)) (Q2 f (List.range f.length))) (fun s => f.length - s.2.toNat) ⟨0, rfl, Nat.zero_le _, rfl⟩ ?_
  rintro ⟨acc, _⟩ ⟨k, rfl, hk, hacc⟩
  dsimp only at hacc
  unfold Qsp
  dsimp only
  by_cases hlt : k < f.length
  · obtain ⟨b1, b2, b3⟩ := Qvz hf hp hlt
    have hkp : 2 ^ k ≤ 2 ^ f.length - 1 := by
      have : 2 ^ (k + 1) ≤ 2 ^ f.length := Nat.pow_le_pow_right (by decide) hlt
      rw [Nat.pow_succ] at this
      have : 0 < 2 ^ k := Nat.pow_pos (by decide)
      omega
    rw [Xm hlt, cond_true]
    have hA0 : 0 ≤ level * Q2 f (X7 f.length k) := Int.mul_nonneg hl.1 b2
    have hA1 : level * Q2 f (X7 f.length k) ≤ 100000000000000 * 200000000 := Int.mul_le_mul hl.2 b3 b2 (by decide)
    refine Runs.callR (R := fun o : Int × List Int => WV 200 ⟨o.1, o.2⟩ (level * Q2 f (X7 f.length k))) ?_ ?_
    · rw [Qat hn3, Qq, Qat (n := k) (by omega), Qq, e1]
      obtain ⟨e2, hq8⟩ := QFy hkp h8
      rw [e2]
      refine Runs.callR (Zz (n := level) (by omega)) fun w1 hw1 => ?_
      refine Runs.callR (Qhl hf.sq hb hn3 (q := 2 ^ f.length - 1 - 2 ^ k) hq8) fun w2 hw2 => ?_
      rw [Qvr hn3 hlt] at hw2
      exact Runs.callR (Jx hw1 hw2 (by decide) (by decide)) fun w3 hw3 => Runs.some (hw3.mono (by decide))
    rintro ⟨a1, a2⟩ hw3
    dsimp only at hw3
    dsimp only
    refine Runs.callR (QEp hw3 hd b1.1 hA0 (by omega)) fun q hq => ?_
    have hqe : q = Jg (level * Q2 f (X7 f.length k)) (Q2 f (List.range f.length)) := RtR.one b1.1 hq (Qvt b1 ⟨hA0, by omega⟩)
    rw [Yh (by rw [hacc]; simp; omega), Qq, Xk k (by omega)]
    refine Runs.some ⟨⟨k + 1, rfl, by omega, ?_⟩, by dsimp only; omega⟩
    dsimp only
    rw [hacc, hqe, List.range_succ, List.map_append]; rfl
  · obtain rfl : k = f.length := by omega
    rw [Xn]
    exact Runs.some hacc
end Go.Gw

end
section
set_option maxRecDepth 8192
set_option linter.unusedSimpArgs false
set_option linter.unusedVariables false
namespace Go.Gw
open Go

def Zn (p : LevitatePlant) (f : List (List Int)) : Int := if (X1 p).2 ≠ 0 then (X1 p).2 else Jn p f
theorem QCx {p : LevitatePlant} (h : Sh p) {f : List (List Int)} (hl : f.length < 1073741824) : Qdv p f = some (⟨p⟩, Zn p f) := by
  rw [Qsm p f h hl]
  unfold Zn Jn
  by_cases h1 : (X1 p).2 = 0 <;> by_cases h2 : Zk f = 0 <;> simp [h1, h2]
theorem Qmy {p : LevitatePlant} {f : List (List Int)} (h : Zn p f = 0) : Rp p ∧ Rf f ∧ f.length = p.Noise.length := by
  unfold Zn at h
  by_cases h1 : (X1 p).2 = 0
  · rw [if_neg (by simpa using h1)] at h
    exact ⟨ckP_right.1 h1, pfE_zero.1 h⟩
  · rw [if_pos h1] at h; exact absurd h h1
def Jo (p : LevitatePlant) (f : List (List Int)) (r : Arr2_Int) : Int × Int := if Zn p f = 0 then ZH p f r else (0, Zn p f)
theorem QDe {p : LevitatePlant} (h : Sh p) {f : List (List Int)} (hl : f.length < 1073741824) (r : Arr2_Int) : Qan p f r = some (⟨p⟩, Jo p f r) := by
  by_cases h0 : Zn p f = 0
  · obtain ⟨hp, hf, hn⟩ := Qmy h0
    rw [Qnd hp hf hn]
    unfold Jo; rw [if_pos h0]
  · unfold Qan Jo
    rw [QCx h hl, if_neg h0]
    have e : ∀ b c : Bool, (bif b then some c else some default) = some (b && c) := by intro b c; cases b <;> rfl
    simp only [Qq, JG, e, Y9, ZB]
    simp [h0]
theorem Qnf {p : LevitatePlant} {f : List (List Int)} {r : Arr2_Int} : (Jo p f r).2 = JR p f r := by
  unfold Jo JR Zn ZH cfV
  by_cases h1 : (X1 p).2 = 0
  · by_cases h2 : Jn p f = 0
    · simp only [h1, h2, ne_eq, not_true_eq_false, if_false, if_true]
      cases ZJ r <;> cases Yn f <;> cases Jk p f r <;> rfl
    · simp [h1, h2]
  · simp [h1]
noncomputable def Zj (p : LevitatePlant) (x : LevitateProof) : List Int × Int := if Zn p x.Form = 0 then JC p x else ([], Zn p x.Form)
theorem Qui {p : LevitatePlant} (h : Sh p) {x : LevitateProof} (hl : x.Form.length < 1073741824) : Qbq p x = some (Zj p x) := by
  by_cases h0 : Zn p x.Form = 0
  · obtain ⟨hp, hf, hn⟩ := Qmy h0
    rw [Quj hp hf hn]
    unfold Zj; rw [if_pos h0]
  · unfold Qbq Zj
    rw [QDe h hl, if_neg h0]
    have e : (Jo p x.Form x.Rate).2 = Zn p x.Form := by unfold Jo; rw [if_neg h0]
    simp only [Qq, JG, Y9, ZB, e]
    simp [h0]
end Go.Gw

end
