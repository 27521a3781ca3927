/- What the functions on tracks compute, in plain words. Condition: lists are short. -/
import Derived.Test.YtgpapebgdnimfaaGwFnB
import Derived.Test.YtgpapebgdnimfaaGwPl2
set_option maxRecDepth 4096
namespace Go.Gw
open Go

def frst : List Int → Int
  | [] => 0
  | x :: xs => if x = 0 then frst xs else x
theorem first_ok (l : List Int) (hl : l.length < 1073741824) : locate_first_spec l = some (frst l) := by
  unfold locate_first_spec
  rw [loop_srch l (fun x => !decide (x = 0)) (fun _ x => x)]
  · have key : ∀ (l : List Int) k, (jn0 (srch (fun x => !decide (x = 0)) (fun _ x => x) k l) fun (_ : Unit) => some 0) = some (frst l) := by
      intro l
      induction l with
      | nil => intro k; rfl
      | cons x xs ih =>
        intro k
        by_cases h : x = 0
        · simp [srch, frst, h]; exact ih _
        · simp [srch, frst, h, jn0]
    simpa using key l 0
  · intro k hk
    unfold locate_first_s0
    rw [lt_nat hk, idx_nat hk, w64n k (by omega)]; rfl
  · unfold locate_first_s0
    rw [lt_nat_no]; rfl
theorem unless_ok (b : Bool) (e : Int) : locate_unless_spec b e = some (bif b then 0 else e) := by cases b <;> rfl
theorem within_ok (n lo hi : Int) : locate_within_spec n lo hi = some (decide (lo ≤ n) && decide (n ≤ hi)) := rfl
theorem bwithin_ok (n lo hi : Int) : base_Within_spec n lo hi = some (decide (lo ≤ n) && decide (n ≤ hi)) := rfl

def isB (n : Int) : Bool := decide (n = 0) || decide (n = 1)
def isS (n : Int) : Bool := isB n || decide (n = 2)
theorem isB_iff {n : Int} : isB n = true ↔ n = 0 ∨ n = 1 := by simp [isB]
theorem isS_iff {n : Int} : isS n = true ↔ n = 0 ∨ n = 1 ∨ n = 2 := by simp [isS, isB, or_assoc]
theorem isB_w (n : Int) : (decide (0 ≤ n) && decide (n ≤ 1)) = isB n := by
  rw [Bool.eq_iff_iff]; simp [isB]; omega
theorem isS_w (n : Int) : (decide (0 ≤ n) && decide (n ≤ 2)) = isS n := by
  rw [Bool.eq_iff_iff]; simp [isS, isB]; omega

/-- The first place of which p holds. -/
def at1 (p : Int → Bool) (l : List Int) : Option Nat := match srch p (fun k _ => k) 0 l with | .inl k => some k | .inr _ => none
theorem srch_none {α ρ : Type} {p : α → Bool} {res : Nat → α → ρ} : ∀ {l : List α} {k : Nat}, srch p res k l = .inr () ↔ ∀ x ∈ l, p x = false := by
  intro l
  induction l with
  | nil => intro k; simp [srch]
  | cons x xs ih =>
    intro k
    cases h : p x with
    | true => simp [srch, h]
    | false => simp [srch, h, ih]
theorem srch_some {α ρ : Type} {p : α → Bool} {res : Nat → α → ρ} : ∀ {l : List α} {k : Nat} {r : ρ}, srch p res k l = .inl r → ∃ (j : Nat) (hj : j < l.length), p l[j] = true ∧ r = res (k + j) l[j] ∧ ∀ i (hi : i < j), p (l[i]'(by omega)) = false := by
  intro l
  induction l with
  | nil => intro k r h; simp [srch] at h
  | cons x xs ih =>
    intro k r h
    cases hp : p x with
    | true =>
      simp [srch, hp] at h
      exact ⟨0, by simp, by simpa using hp, by simp [h], fun i hi => by omega⟩
    | false =>
      simp [srch, hp] at h
      obtain ⟨j, hj, h1, h2, h3⟩ := ih h
      refine ⟨j + 1, by simpa using hj, by simpa using h1, by rw [h2]; simp; congr 1; omega, fun i hi => ?_⟩
      cases i with
      | zero => simpa using hp
      | succ i => simpa using h3 i (by omega)

/-- A track's numbers are right. -/
def rng0 (t : LocateTrack) : Bool :=
  (decide (1 ≤ t.Tooth) && decide (t.Tooth ≤ 1000)) && (decide (1 ≤ t.PerVane) && decide (t.PerVane ≤ 12)) && (decide (0 ≤ t.First) && decide (t.First ≤ 999000000)) && (decide (1 ≤ t.Modulus) && decide (t.Modulus ≤ 1000)) && (decide (0 ≤ t.Slack) && decide (t.Slack ≤ t.Modulus)) && (decide (0 ≤ t.Errors) && decide (t.Errors ≤ t.Window))
def chk (t : LocateTrack) : Int × Int :=
  if ¬ (1 ≤ t.Window ∧ t.Window ≤ 12) then (0, 2) else if (t.Vanes.length : Int) < t.Window then (0, 10) else if 40 < (t.Vanes.length : Int) then (0, 8) else
    match srch (fun v => !isB v) (fun k _ => (k : Int)) 0 t.Vanes with
    | .inl k => (k, 15)
    | .inr _ => if rng0 t then (0, 0) else (0, 2)

theorem IndexFunc98_ok (l : List Int) (hl : l.length < 1073741824) : slices_IndexFunc_int_56_spec l = some (match srch (fun v => !isB v) (fun k _ => (k : Int)) 0 l with | .inl k => k | .inr _ => -1) := by
  unfold slices_IndexFunc_int_56_spec
  rw [loop_srch l (fun v => !isB v) (fun k _ => (k : Int))]
  · cases srch (fun v => !isB v) (fun k _ => (k : Int)) 0 l <;> rfl
  · intro k hk
    unfold slices_IndexFunc_int_56_s0
    rw [lt_nat hk, idx_nat hk, w64n k (by omega)]; rfl
  · unfold slices_IndexFunc_int_56_s0
    rw [lt_nat_no]; rfl

theorem CheckTrack_ok (t : LocateTrack) (hl : t.Vanes.length < 1073741824) : locate_CheckTrack_spec t = some (chk t) := by
  unfold locate_CheckTrack_spec
  simp only [within_ok, unless_ok, Option.bind_some]
  rw [first_ok _ (by simp), IndexFunc98_ok _ hl]
  simp only [Option.bind_some, frst]
  unfold chk
  by_cases h1 : 1 ≤ t.Window ∧ t.Window ≤ 12
  · simp only [h1.1, h1.2, decide_true, Bool.and_self, cond_true, if_true, and_self, not_true_eq_false, if_false]
    by_cases h2 : (t.Vanes.length : Int) < t.Window
    · have h2' : ¬ t.Window ≤ (t.Vanes.length : Int) := by omega
      simp [h2, h2']
    · have h2' : t.Window ≤ (t.Vanes.length : Int) := by omega
      simp only [h2, h2', decide_true, cond_true, if_true, if_false]
      by_cases h3 : 40 < (t.Vanes.length : Int)
      · have h3' : ¬ (t.Vanes.length : Int) ≤ 40 := by omega
        simp [h3, h3']
      · have h3' : (t.Vanes.length : Int) ≤ 40 := by omega
        simp only [h3, h3', decide_true, cond_true, if_true, if_false, Bool.not_true, cond_false]
        cases hs : srch (fun v => !isB v) (fun k _ => (k : Int)) 0 t.Vanes with
        | inl k =>
          obtain ⟨j, hj, _, hk, _⟩ := srch_some hs
          have : 0 ≤ k := by rw [hk]; omega
          simp [this]
        | inr u =>
          simp only [show decide ((0 : Int) ≤ -1) = false by decide, cond_false]
          unfold rng0
          generalize (decide (1 ≤ t.Tooth) && decide (t.Tooth ≤ 1000)) = b1
          generalize (decide (1 ≤ t.PerVane) && decide (t.PerVane ≤ 12)) = b2
          generalize (decide (0 ≤ t.First) && decide (t.First ≤ 999000000)) = b3
          generalize (decide (1 ≤ t.Modulus) && decide (t.Modulus ≤ 1000)) = b4
          generalize (decide (0 ≤ t.Slack) && decide (t.Slack ≤ t.Modulus)) = b5
          generalize (decide (0 ≤ t.Errors) && decide (t.Errors ≤ t.Window)) = b6
          cases b1 <;> cases b2 <;> cases b3 <;> cases b4 <;> cases b5 <;> cases b6 <;> rfl
  · have h1' : (decide (1 ≤ t.Window) && decide (t.Window ≤ 12)) = false := by rw [Bool.eq_false_iff]; simp; omega
    simp [h1, h1']

theorem rCheckTrack_ok (t : LocateTrack) (hl : t.Vanes.length < 1073741824) : ref04_CheckTrack_spec t = some (chk t) := by
  unfold ref04_CheckTrack_spec
  rw [loop_srch t.Vanes (fun v => !isB v) (fun k _ => ((k : Int), (15 : Int)))]
  · simp only [bwithin_ok, Option.bind_some]
    unfold chk
    by_cases h1 : 1 ≤ t.Window ∧ t.Window ≤ 12
    · simp only [h1.1, h1.2, decide_true, Bool.and_self, Bool.not_true, cond_false, and_self, not_true_eq_false, if_false]
      by_cases h2 : (t.Vanes.length : Int) < t.Window
      · simp [h2]
      · simp only [h2, decide_false, cond_false, if_false]
        by_cases h3 : 40 < (t.Vanes.length : Int)
        · simp [h3]
        · simp only [h3, decide_false, cond_false, if_false]
          have e : ∀ (l : List Int) (k : Nat), srch (fun v => !isB v) (fun k _ => ((k : Int), (15 : Int))) k l = match srch (fun v => !isB v) (fun k _ => (k : Int)) k l with | .inl k => .inl (k, 15) | .inr u => .inr u := by
            intro l
            induction l with
            | nil => intro k; rfl
            | cons x xs ih =>
              intro k
              simp only [srch]
              split
              · rfl
              · exact ih _
          rw [e]
          cases srch (fun v => !isB v) (fun k _ => (k : Int)) 0 t.Vanes with
          | inl k => rfl
          | inr u =>
            simp only [jn0]
            unfold rng0
            generalize (decide (1 ≤ t.Tooth) && decide (t.Tooth ≤ 1000)) = b1
            generalize (decide (1 ≤ t.PerVane) && decide (t.PerVane ≤ 12)) = b2
            generalize (decide (0 ≤ t.First) && decide (t.First ≤ 999000000)) = b3
            generalize (decide (1 ≤ t.Modulus) && decide (t.Modulus ≤ 1000)) = b4
            generalize (decide (0 ≤ t.Slack) && decide (t.Slack ≤ t.Modulus)) = b5
            generalize (decide (0 ≤ t.Errors) && decide (t.Errors ≤ t.Window)) = b6
            cases b1 <;> cases b2 <;> cases b3 <;> cases b4 <;> cases b5 <;> cases b6 <;> rfl
    · have h1' : (decide (1 ≤ t.Window) && decide (t.Window ≤ 12)) = false := by rw [Bool.eq_false_iff]; simp; omega
      simp [h1, h1']
  · intro k hk
    unfold ref04_CheckTrack_s0
    rw [lt_nat hk, idx_nat hk, w64n k (by omega)]
    simp only [bwithin_ok, Option.bind_some, cond_true, isB_w]
  · unfold ref04_CheckTrack_s0
    rw [lt_nat_no]; rfl
theorem TrackErr_ok (t : LocateTrack) (hl : t.Vanes.length < 1073741824) : ref04_TrackErr_spec t = some (chk t).2 := by
  unfold ref04_TrackErr_spec; rw [rCheckTrack_ok t hl]; rfl
theorem open_ok (t : LocateTrack) (hl : t.Vanes.length < 1073741824) : locate_open_spec t = some (⟨t⟩, (chk t).2) := by
  unfold locate_open_spec; rw [CheckTrack_ok t hl]; rfl
theorem CopyInts_ok (l : List Int) (hl : l.length < 1073741824) : base_CopyInts_spec l = some l := by
  unfold base_CopyInts_spec; rw [app_ok (by simp; omega)]; simp
theorem Copy_ok (t : LocateTrack) (hl : t.Vanes.length < 1073741824) : ref04_Copy_spec t = some t := by
  unfold ref04_Copy_spec; rw [CopyInts_ok _ hl]; rfl

/-- What a right track is. -/
structure Rt (t : LocateTrack) : Prop where
  w1 : 1 ≤ t.Window
  w2 : t.Window ≤ 12
  l1 : t.Window ≤ t.Vanes.length
  l2 : t.Vanes.length ≤ 40
  b : ∀ v ∈ t.Vanes, v = 0 ∨ v = 1
  t1 : 1 ≤ t.Tooth
  t2 : t.Tooth ≤ 1000
  p1 : 1 ≤ t.PerVane
  p2 : t.PerVane ≤ 12
  f1 : 0 ≤ t.First
  f2 : t.First ≤ 999000000
  m1 : 1 ≤ t.Modulus
  m2 : t.Modulus ≤ 1000
  s1 : 0 ≤ t.Slack
  s2 : t.Slack ≤ t.Modulus
  e1 : 0 ≤ t.Errors
  e2 : t.Errors ≤ t.Window
theorem chk_rt {t : LocateTrack} (h : (chk t).2 = 0) : Rt t := by
  unfold chk at h
  split at h
  · simp at h
  · rename_i h1
    split at h
    · simp at h
    · rename_i h2
      split at h
      · simp at h
      · rename_i h3
        cases hs : srch (fun v => !isB v) (fun k _ => (k : Int)) 0 t.Vanes with
        | inl k => rw [hs] at h; simp at h
        | inr u =>
          rw [hs] at h
          have hb := srch_none.1 hs
          by_cases hr : rng0 t = true
          · simp only [rng0, Bool.and_eq_true, decide_eq_true_eq] at hr
            obtain ⟨⟨⟨⟨⟨⟨a1, a2⟩, a3, a4⟩, a5, a6⟩, a7, a8⟩, a9, a10⟩, a11, a12⟩ := hr
            exact ⟨by omega, by omega, by omega, by omega, fun v hv => isB_iff.1 (by simpa using hb v hv), a1, a2, a3, a4, a5, a6, a7, a8, a9, a10, a11, a12⟩
          · simp [hr] at h
theorem rt_chk {t : LocateTrack} (h : Rt t) : chk t = (0, 0) := by
  unfold chk
  rw [if_neg (by have := h.w1; have := h.w2; omega), if_neg (by have := h.l1; omega), if_neg (by have := h.l2; omega)]
  have hs : srch (fun v => !isB v) (fun k _ => (k : Int)) 0 t.Vanes = .inr () := srch_none.2 fun v hv => by simp [isB_iff.2 (h.b v hv)]
  rw [hs]
  have hr : rng0 t = true := by
    simp only [rng0, Bool.and_eq_true, decide_eq_true_eq]
    exact ⟨⟨⟨⟨⟨⟨h.t1, h.t2⟩, h.p1, h.p2⟩, h.f1, h.f2⟩, h.m1, h.m2⟩, h.s1, h.s2⟩, h.e1, h.e2⟩
  simp [hr]
end Go.Gw
