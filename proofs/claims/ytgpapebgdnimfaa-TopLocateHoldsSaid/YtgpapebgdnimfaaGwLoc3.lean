/- What is seen, checked; the windows near; the only one; lists compared; steps counted. Condition: lists are short. -/
import Derived.Test.YtgpapebgdnimfaaGwLoc2
set_option maxRecDepth 4096
namespace Go.Gw
open Go

theorem Contains122_ok (l : List Int) (hl : l.length < 1073741824) : slices_ContainsFunc_int_59_spec l = some (l.any fun v => !isS v) := by
  unfold slices_ContainsFunc_int_59_spec slices_IndexFunc_int_59_spec
  rw [loop_srch l (fun v => !isS v) (fun k _ => (k : Int))]
  · have key : ∀ (l : List Int) (k : Nat), ((jn0 (srch (fun v => !isS v) (fun k _ => (k : Int)) k l) fun (_ : Unit) => some (-1)).bind fun r4 => some (decide ((0 : Int) ≤ r4))) = some (l.any fun v => !isS v) := by
      intro l
      induction l with
      | nil => intro k; rfl
      | cons x xs ih =>
        intro k
        cases h : isS x with
        | true => simp only [srch, h, Bool.not_true, Bool.false_eq_true, if_false, List.any_cons, Bool.false_or]; exact ih _
        | false => simp [srch, h, jn0]
    exact key l 0
  · intro k hk
    unfold slices_IndexFunc_int_59_s0
    rw [lt_nat hk, idx_nat hk, w64n k (by omega)]; rfl
  · unfold slices_IndexFunc_int_59_s0
    rw [lt_nat_no]; rfl
/-- The error of what is seen, by a right track. -/
def seenE (t : LocateTrack) (seen : List Int) : Int := if (seen.length : Int) ≠ t.Window then 10 else if (seen.any fun v => !isS v) then 15 else 0
/-- The error of a track and of what is seen. -/
def opE (t : LocateTrack) (seen : List Int) : Int := if (chk t).2 ≠ 0 then (chk t).2 else seenE t seen
theorem openSeen_ok (t : LocateTrack) (seen : List Int) (ht : t.Vanes.length < 1073741824) (hl : seen.length < 1073741824) : locate_openSeen_spec t seen = some (⟨t⟩, opE t seen) := by
  unfold locate_openSeen_spec
  rw [open_ok t ht, Contains122_ok seen hl]
  simp only [Option.bind_some, unless_ok]
  rw [first_ok _ (by simp)]
  simp only [Option.bind_some, frst]
  congr 2
  unfold opE seenE
  by_cases h1 : (chk t).2 = 0
  · simp only [h1, if_true, ne_eq, not_true_eq_false, if_false]
    by_cases h2 : (seen.length : Int) = t.Window
    · simp only [h2, decide_true, cond_true, if_true, not_true_eq_false, if_false]
      cases seen.any fun v => !isS v <;> simp
    · simp [h2]
  · simp [h1]
theorem opE_rt {t : LocateTrack} {seen : List Int} (h : opE t seen = 0) : Rt t ∧ (seen.length : Int) = t.Window ∧ ∀ v ∈ seen, v = 0 ∨ v = 1 ∨ v = 2 := by
  unfold opE at h
  split at h
  · exact absurd h (by assumption)
  · rename_i h1
    have h1 : (chk t).2 = 0 := by simpa using h1
    unfold seenE at h
    split at h
    · simp at h
    · rename_i h2
      split at h
      · simp at h
      · rename_i h3
        refine ⟨chk_rt h1, by simpa using h2, fun v hv => isS_iff.1 ?_⟩
        simp only [List.any_eq_true, not_exists, not_and, Bool.not_eq_true'] at h3
        have := h3 v hv
        simpa using this
def only1 (l : List Int) (e : Int) : Int × Int := if e ≠ 0 then (0, e) else match l with | [] => (0, 12) | [x] => (x, 0) | _ => (0, 29)
def rg0 : Range := ⟨0, 0⟩
def onlyR (l : List Range) (e : Int) : Range × Int := if e ≠ 0 then (rg0, e) else match l with | [] => (rg0, 12) | [x] => (x, 0) | _ => (rg0, 29)
theorem onlyR_ok (l : List Range) (e : Int) : locate_only_api_Range_spec l e = some (onlyR l e) := by
  unfold locate_only_api_Range_spec
  simp only [unless_ok, Option.bind_some]
  rw [first_ok _ (by simp)]
  simp only [Option.bind_some, frst]
  unfold onlyR rg0
  by_cases h : e = 0
  · simp only [h, if_true, ne_eq, not_true_eq_false, if_false]
    match l with
    | [] => rfl
    | [x] => rfl
    | x :: y :: r =>
      have h1 : decide ((0 : Int) < ((x :: y :: r).length : Int)) = true := by simp; omega
      have h2 : decide (((x :: y :: r).length : Int) ≤ 1) = false := by simp; omega
      simp only [h1, h2]; rfl
  · simp [h]
/-- Two lists of the same length compared place by place, from k on. -/
theorem cmp_srch {α : Type} [DecidableEq α] : ∀ (a b : List α) (k : Nat), a.length = b.length → (jn0 (srch (fun q : α × α => !decide (q.1 = q.2)) (fun _ _ => false) k (a.zip b)) fun (_ : Unit) => some true) = some (decide (a = b)) := by
  intro a
  induction a with
  | nil => intro b k h; cases b with | nil => rfl | cons _ _ => cases h
  | cons x xs ih =>
    intro b k h
    cases b with
    | nil => cases h
    | cons y ys =>
      have h' : xs.length = ys.length := by simpa using h
      by_cases hxy : x = y
      · subst hxy
        simp only [List.zip_cons_cons, srch, decide_true, Bool.not_true, Bool.false_eq_true, if_false, List.cons.injEq, true_and]
        exact ih ys _ h'
      · simp [srch, hxy, jn0]
theorem nearL_len {t : LocateTrack} (h : Rt t) (seen : List Int) : (nearL t seen).length ≤ 40 := by
  have hn := (nW_le h).2
  have key : ∀ n, (rng (fun i (a : List Int) => if dW t i seen ≤ t.Errors then a ++ [(i : Int)] else a) [] n).length ≤ n := by
    intro n
    induction n with
    | zero => simp [rng]
    | succ n ih => unfold rng; split <;> first | (rw [List.length_append]; simp; omega) | omega
  have := key (nW t)
  unfold nearL; omega
end Go.Gw
