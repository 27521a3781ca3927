/- Laws of the walk. Condition: each theorem says its own. -/
import Derived.Test.YtbplgfhjpeeieaaGwAwake
set_option linter.unusedVariables false
set_option linter.unusedSimpArgs false
set_option linter.unusedSectionVars false
section
set_option maxRecDepth 4096
namespace Go.Gw
open Go
def Zh : List Int → List Int → Bool ⊕ Unit
  | x :: xs, y :: ys => if x = y then Zh xs ys else .inl (decide (x < y))
  | _, _ => .inr ()
theorem Qqg : ∀ a b : List Int, (match Zh a b with | .inl c => c | .inr _ => decide ((a.length : Int) < (b.length : Int))) = decide (Yf a b < 0)
  | [], [] => by simp [Zh, Yf]
  | [], _ :: _ => by
    rw [show Zh [] _ = .inr () by unfold Zh; rfl]
    simp [Yf]
  | _ :: _, [] => by
    rw [show Zh _ [] = .inr () by unfold Zh; rfl]
    simp [Yf]; omega
  | x :: xs, y :: ys => by
    have ih := Qqg xs ys
    unfold Zh Yf
    by_cases h : x = y
    · subst h
      rw [if_pos rfl, if_neg (by omega), if_neg (by omega), ← ih]
      cases Zh xs ys with
      | inl c => rfl
      | inr u => simp
    · rw [if_neg h]
      by_cases h1 : x < y
      · rw [if_pos h1]; simp [h1]
      · rw [if_neg h1, if_pos (by omega)]; simp [h1]
theorem QBh (a b : List Int) (ha : a.length < 1000000) : Qgx a b = some (decide (Yf a b < 0)) := by
  have key : ∀ j k, j + k = a.length → loop (Qbb a b) (k : Int) = some (Zh (a.drop k) (b.drop k)) := by
    intro j
    induction j with
    | zero =>
      intro k hk
      have h1 : ¬ k < a.length := by omega
      have hd : a.drop k = [] := List.drop_eq_nil_of_le (by omega)
      refine ZQ ?_
      unfold Qbb
      rw [decide_eq_false (by omega), hd, show Zh [] (b.drop k) = .inr () by unfold Zh; rfl]
      rfl
    | succ j ih =>
      intro k hk
      have h1 : k < a.length := by omega
      by_cases h2 : k < b.length
      · have ea : a.drop k = a[k] :: a.drop (k + 1) := List.drop_eq_getElem_cons h1
        have eb : b.drop k = b[k] :: b.drop (k + 1) := List.drop_eq_getElem_cons h2
        by_cases he : a[k] = b[k]
        · have hst : Qbb a b (k : Int) = some (.inl ((k + 1 : Nat) : Int)) := by
            unfold Qbb
            simp only [XB h1, XB h2, Bool.and_self, cond_true, Xt h1, Xt h2, Qu]
            rw [decide_eq_true he, XC k (by omega)]; rfl
          rw [Qbk hst, ih (k + 1) (by omega), ea, eb]
          conv => rhs; unfold Zh
          rw [if_pos he]
        · rw [ea, eb]
          refine ZQ ?_
          unfold Qbb Zh
          simp only [XB h1, XB h2, Bool.and_self, cond_true, Xt h1, Xt h2, Qu]
          rw [decide_eq_false he, if_neg he]; rfl
      · have hd : b.drop k = [] := List.drop_eq_nil_of_le (by omega)
        refine ZQ ?_
        unfold Qbb
        rw [XB h1, decide_eq_false (show ¬ (k : Int) < (b.length : Int) by omega), hd, show Zh (a.drop k) [] = .inr () by unfold Zh; split <;> first | rfl | simp_all]
        rfl
  have k0 := key a.length 0 (by omega)
  unfold Qgx
  rw [show ((0 : Nat) : Int) = 0 from rfl] at k0
  rw [k0, Qu, List.drop_zero, List.drop_zero, ← Qqg a b]
  cases Zh a b with
  | inl c => rfl
  | inr u => rfl
def Jl (m k : Nat) : Bool := decide (ZK .i64 ((JJ .i64 (m : Int) (k : Int)).getD 0) 1 = 1)
def Zp (m k : Nat) : List Nat := (List.range k).filter (Jl m)
theorem Qwh (m k : Nat) : Zp m (k + 1) = Zp m k ++ (if Jl m k then [k] else []) := by
  unfold Zp
  rw [List.range_succ, List.filter_append]
  congr 1
  by_cases h : Jl m k <;> simp [h]
theorem Qbm (m k : Nat) : (Zp m k).length ≤ k := by
  have := List.length_filter_le (Jl m) (List.range k)
  rwa [List.length_range] at this
theorem Qxw (m k : Nat) (hk : k ≤ 64) : JJ .i64 (m : Int) (k : Int) = some ((JJ .i64 (m : Int) (k : Int)).getD 0) := by
  unfold JJ
  rw [if_pos ⟨by omega, by show (k : Int) ≤ ((64 : Nat) : Int); omega⟩]; rfl
theorem Qqm {α : Type} (m k : Nat) (a b : α) : (bif decide (ZK .i64 ((JJ .i64 (m : Int) (k : Int)).getD 0) 1 = 1) then a else b) = if Jl m k then a else b := by
  unfold Jl
  cases decide (ZK .i64 ((JJ .i64 (m : Int) (k : Int)).getD 0) 1 = 1) <;> rfl
def Xo (m k : Nat) : List Int := (Zp m k).map fun i : Nat => (i : Int)
def Yp {α : Type} [Inhabited α] (l : List α) (m k : Nat) : List α := (Zp m k).map fun i : Nat => l[i]?.getD default
theorem Qwg (m k : Nat) : Xo m (k + 1) = Xo m k ++ (if Jl m k then [(k : Int)] else []) := by
  unfold Xo
  rw [Qwh, List.map_append]
  by_cases h : Jl m k <;> simp [h]
theorem QNx {α : Type} [Inhabited α] (l : List α) (m : Nat) {k : Nat} (hk : k < l.length) : Yp l m (k + 1) = Yp l m k ++ (if Jl m k then [l[k]] else []) := by
  unfold Yp
  rw [Qwh, List.map_append]
  by_cases h : Jl m k <;> simp [h, List.getElem?_eq_getElem hk]
theorem QMm (l : List FeedDeparture) (hl : l.length ≤ 6) (m : Nat) : loop (Qfr l (m : Int)) (([] : List Int), 0) = some (Xo m l.length) := by
  have key := Zd (step := Qfr l (m : Int)) (o := Xo m l.length) (fun k => (Xo m k, (k : Int))) l.length (fun k hk => by
    have hlen := Qbm m k
    unfold Qfr
    simp only [XB hk, cond_true]
    rw [Qxw m k (by omega), Qu, Qqm, XC k (by omega), Qwg]
    by_cases h : Jl m k = true
    · rw [if_pos h, if_pos h, ZM (by unfold Xo; simp; omega), Qu]
    · rw [if_neg h, if_neg h, List.append_nil]) (by
    unfold Qfr
    simp only [XK, cond_false])
  exact key
theorem QDg (l : List feed_run) (hl : l.length ≤ 6) (m : Nat) : loop (Qcp l (m : Int)) (([] : List Int), ([] : List feed_run), 0) = some (Xo m l.length, Yp l m l.length) := by
  have key := Zd (step := Qcp l (m : Int)) (o := (Xo m l.length, Yp l m l.length)) (fun k => (Xo m k, Yp l m k, (k : Int))) l.length (fun k hk => by
    have hlen := Qbm m k
    unfold Qcp
    simp only [XB hk, cond_true, Xt hk, Qu]
    rw [Qxw m k (by omega), Qu, Qqm, XC k (by omega), Qwg, QNx l m hk]
    by_cases h : Jl m k = true
    · rw [if_pos h, if_pos h, if_pos h, ZM (by unfold Xo; simp; omega), Qu, ZM (by unfold Yp; simp; omega), Qu]
    · rw [if_neg h, if_neg h, if_neg h, List.append_nil, List.append_nil]) (by
    unfold Qcp
    simp only [XK, cond_false])
  exact key
theorem QBv (l : List FeedDeparture) (hl : l.length ≤ 6) (m : Nat) : Qfw l (Xo m l.length) = some (Yp l m l.length) := by
  have hlen : (Xo m l.length).length ≤ l.length := by unfold Xo; rw [List.length_map]; exact Qbm m l.length
  have key := Zd (step := Qjf l (Xo m l.length)) (o := Yp l m l.length) (fun k => ((Yp l m l.length).take k, (k : Int))) (Xo m l.length).length (fun k hk => by
    have hk2 : k < (Zp m l.length).length := by unfold Xo at hk; rwa [List.length_map] at hk
    have hmem : (Zp m l.length)[k] < l.length := by
      have := List.getElem_mem hk2
      unfold Zp at this
      have := (List.mem_filter.1 this).1
      exact List.mem_range.1 this
    have e : (Xo m l.length)[k] = (((Zp m l.length)[k] : Nat) : Int) := by simp only [Xo, List.getElem_map]
    have hs : k < (Yp l m l.length).length := by unfold Yp; rw [List.length_map]; exact hk2
    have e2 : (Yp l m l.length)[k] = l[(Zp m l.length)[k]] := by simp only [Yp, List.getElem_map, List.getElem?_eq_getElem hmem, Option.getD_some]
    unfold Qjf
    simp only [XB hk, cond_true, Xt hk, Qu, e, Xt hmem]
    rw [ZM (by simp; omega), Qu, XC k (by omega), List.take_add_one, List.getElem?_eq_getElem hs, e2]
    rfl) (by
    unfold Qjf
    simp only [XK, cond_false]
    rw [List.take_of_length_le (by unfold Yp Xo; simp)])
  unfold Qfw
  rw [show (([] : List FeedDeparture), (0 : Int)) = ((Yp l m l.length).take 0, ((0 : Nat) : Int)) from rfl, key]
  rfl
end Go.Gw

end
section
set_option maxRecDepth 4096
namespace Go.Gw
open Go
theorem QLb : ∀ k, k ≤ 6 → ∀ m, m < 64 → 1 ≤ m → m < 2 ^ k → (Zp m k).isEmpty = false := by decide +kernel
def lsB (a b : List Int) : Bool := decide (a.length < b.length) || (decide (a.length = b.length) && decide (Yf a b < 0))
def Jy (n : FeedNet) (R : List feed_run) (k : Nat) (b : List Int) : List Int := if (ovR n (Yp R (k + 1) R.length)).isSome = true ∧ (b.isEmpty || lsB (Xo (k + 1) R.length) b) = true then Xo (k + 1) R.length else b
def Zz (n : FeedNet) (R : List feed_run) : List Int := rng (Jy n R) [] (2 ^ R.length - 1)
theorem QNw {α β : Type} [Inhabited α] [Inhabited β] (f : α → β) (l : List α) (m : Nat) : (Yp l m l.length).map f = Yp (l.map f) m l.length := by
  unfold Yp
  rw [List.map_map]
  apply List.map_congr_left
  intro i hi
  have hi2 : i < l.length := by
    unfold Zp at hi; exact List.mem_range.1 (List.mem_filter.1 hi).1
  simp [List.getElem?_eq_getElem hi2]
theorem Qxu {α : Type} [Inhabited α] (l : List α) (m : Nat) : ∀ x ∈ Yp l m l.length, x ∈ l := by
  intro x hx
  unfold Yp at hx
  obtain ⟨i, hi, rfl⟩ := List.mem_map.1 hx
  have hi2 : i < l.length := by
    unfold Zp at hi; exact List.mem_range.1 (List.mem_filter.1 hi).1
  rw [List.getElem?_eq_getElem hi2]
  exact List.getElem_mem hi2
theorem Qxt {α : Type} [Inhabited α] (l : List α) (m : Nat) : (Yp l m l.length).length ≤ l.length := by
  unfold Yp; rw [List.length_map]; exact Qbm m l.length
theorem Qok {k : Nat} (h : k ≤ 6) : 2 ^ k ≤ 64 := Nat.pow_le_pow_right (n := 2) (by omega) h
theorem Qjq {k : Nat} (h : k ≤ 6) : Qbp .i64 1 (k : Int) = some ((2 ^ k : Nat) : Int) := by
  have : ∀ k, k ≤ 6 → Qbp .i64 1 ((k : Nat) : Int) = some ((2 ^ k : Nat) : Int) := by decide +kernel
  exact this k h
theorem Qwq (o : Option FeedPeak) : (pkB o).2 = o.isSome := by cases o <;> rfl
theorem QLa {m k : Nat} (hk : k ≤ 6) (h1 : 1 ≤ m) (h2 : m < 2 ^ k) : (Xo m k).isEmpty = false := by
  have := QLb k hk m (by have := Qok hk; omega) h1 h2
  unfold Xo
  cases h : Zp m k with
  | nil => rw [h] at this; cases this
  | cons a l => rfl
theorem QDc {n : FeedNet} (hn : NetOk n) {R : List feed_run} (hR : ∀ r ∈ R, Zv n.Sections.length r) (hl : R.length ≤ 6) : Qeq ⟨n⟩ R = some (Zz n R, !(Zz n R).isEmpty) := by
  have hp := Qok hl
  have hpos : 0 < 2 ^ R.length := Nat.pos_of_ne_zero (by simp)
  have key := (Qvf (step := Qcq ⟨n⟩ R) (2 ^ R.length - 1) (Jy n R) (fun b k => (b, !b.isEmpty, ((k + 1 : Nat) : Int))) (fun b => (b, !b.isEmpty)) (fun b _ => b.length ≤ 6) [] (by simp) (fun k hk b hb => ?_) (fun b _ => ?_)).1
  · unfold Qeq
    have key2 : loop (Qcq ⟨n⟩ R) (([] : List Int), false, 1) = some (Zz n R, !(Zz n R).isEmpty) := key
    rw [key2]; rfl
  · have hlen : (Xo (k + 1) R.length).length ≤ 6 := by unfold Xo; rw [List.length_map]; exact Nat.le_trans (Qbm _ _) hl
    have hne := QLa (m := k + 1) hl (by omega) (by omega)
    refine ⟨?_, by unfold Jy; split; exact hlen; exact hb⟩
    unfold Qcq
    simp only []
    rw [Qjq hl, Qu, decide_eq_true (show ((k + 1 : Nat) : Int) < ((2 ^ R.length : Nat) : Int) by omega), cond_true, QDg R hl (k + 1), Qu]
    simp only []
    rw [Qhl, Qu, QOg _ _ (by omega), Qu, QBw, Qu, QDf hn (Nat.le_trans (Qxt _ _) (by omega)) (fun r hr => hR r (Qxu _ _ r hr)), Qu, Qwq, XC (k + 1) (by omega)]
    have hb2 : decide ((if (if ((Xo (k + 1) R.length).length : Int) < (b.length : Int) then (-1 : Int) else if (b.length : Int) < ((Xo (k + 1) R.length).length : Int) then 1 else 0) = 0 then Yf (Xo (k + 1) R.length) b else (if ((Xo (k + 1) R.length).length : Int) < (b.length : Int) then (-1 : Int) else if (b.length : Int) < ((Xo (k + 1) R.length).length : Int) then 1 else 0)) < 0) = lsB (Xo (k + 1) R.length) b := by
      unfold lsB
      rcases Nat.lt_trichotomy (Xo (k + 1) R.length).length b.length with h | h | h
      · rw [if_pos (show ((Xo (k + 1) R.length).length : Int) < (b.length : Int) by omega)]; simp [h]
      · rw [if_neg (show ¬ ((Xo (k + 1) R.length).length : Int) < (b.length : Int) by omega), if_neg (show ¬ (b.length : Int) < ((Xo (k + 1) R.length).length : Int) by omega)]; simp [h]
      · rw [if_neg (show ¬ ((Xo (k + 1) R.length).length : Int) < (b.length : Int) by omega), if_pos (show (b.length : Int) < ((Xo (k + 1) R.length).length : Int) by omega)]; simp; omega
    rw [hb2]
    unfold Jy
    cases ho : (ovR n (Yp R (k + 1) R.length)).isSome with
    | false => simp
    | true =>
      cases hbe : b.isEmpty with
      | true => simp [hne]
      | false =>
        cases hls : lsB (Xo (k + 1) R.length) b with
        | true => simp [hne]
        | false => simp [hbe]
  · unfold Qcq
    simp only []
    rw [Qjq hl, Qu, decide_eq_false (by omega), cond_false]
end Go.Gw

end
section
set_option maxRecDepth 4096
namespace Go.Gw
open Go
theorem QMi {n : FeedNet} {l : List FeedDeparture} (h : Rt n l) : Qjb n l = some (Zz n (l.map (Xd n)), !(Zz n (l.map (Xd n))).isEmpty) := by
  have hl := h.l6
  have hp := Qok hl
  have hpos : 0 < 2 ^ l.length := Nat.pos_of_ne_zero (by simp)
  have hRl : (l.map (Xd n)).length = l.length := List.length_map ..
  have key := (Qvf (step := Qfs n l) (2 ^ l.length - 1) (Jy n (l.map (Xd n))) (fun b k => (b, ((k + 1 : Nat) : Int))) (fun b => b) (fun b _ => b.length ≤ 6) [] (by simp) (fun k hk b hb => ?_) (fun b _ => ?_)).1
  · unfold Qjb
    have key2 : loop (Qfs n l) (([] : List Int), 1) = some (Zz n (l.map (Xd n))) := by
      unfold Zz; rw [hRl]; exact key
    rw [key2]; rfl
  · have hlen : (Xo (k + 1) l.length).length ≤ 6 := by unfold Xo; rw [List.length_map]; exact Nat.le_trans (Qbm _ _) hl
    refine ⟨?_, by unfold Jy; split; rw [hRl]; exact hlen; exact hb⟩
    have hS : Rt n (Yp l (k + 1) l.length) := ⟨h.ne, h.tr, Nat.le_trans (Qxt _ _) hl, fun d hd => h.ru d (Qxu _ _ d hd)⟩
    have hgo : (Option.bind (Qfw l (Xo (k + 1) l.length)) fun r2270 => Option.bind (Qfq n r2270) fun r2279 => (bif r2279.2 then some (.inl (Xo (k + 1) l.length, w64 (((k + 1 : Nat) : Int) + 1))) else some (.inl (b, w64 (((k + 1 : Nat) : Int) + 1))) : Option ((List Int × Int) ⊕ List Int))) = some (.inl ((if (ovR n (Yp (l.map (Xd n)) (k + 1) l.length)).isSome = true then Xo (k + 1) l.length else b), ((k + 1 + 1 : Nat) : Int))) := by
      rw [QBv l hl, Qu, QMl hS, Qu, Qwq, XC (k + 1) (by omega), QNw]
      cases (ovR n (Yp (l.map (Xd n)) (k + 1) l.length)).isSome <;> rfl
    unfold Qfs
    simp only []
    rw [Qjq hl, Qu, decide_eq_true (show ((k + 1 : Nat) : Int) < ((2 ^ l.length : Nat) : Int) by omega), cond_true, QMm l hl (k + 1), Qu]
    rw [QBh _ _ (by omega)]
    unfold Jy
    rw [hRl]
    cases hbe : b.isEmpty with
    | true =>
      simp only [Bool.not_true, Bool.false_and, cond_false, Qu, Bool.true_or, and_true]
      exact hgo
    | false =>
      simp only [Bool.not_false, Bool.true_and, Bool.false_or]
      unfold lsB
      rcases Nat.lt_trichotomy (Xo (k + 1) l.length).length b.length with g | g | g
      · rw [decide_eq_false (show ¬ (b.length : Int) < ((Xo (k + 1) l.length).length : Int) by omega), decide_eq_false (show ¬ ((Xo (k + 1) l.length).length : Int) = (b.length : Int) by omega), decide_eq_true g]
        simp only [Bool.not_false, Bool.true_and, cond_false, Qu, Bool.false_and, Bool.or_false, Bool.true_or, and_true, Bool.false_or]
        exact hgo
      · rw [decide_eq_false (show ¬ (b.length : Int) < ((Xo (k + 1) l.length).length : Int) by omega), decide_eq_true (show ((Xo (k + 1) l.length).length : Int) = (b.length : Int) by omega), decide_eq_true g, decide_eq_false (show ¬ (Xo (k + 1) l.length).length < b.length by omega)]
        simp only [Bool.not_false, Bool.true_and, cond_true, Qu, Bool.false_or]
        by_cases hx : Yf (Xo (k + 1) l.length) b < 0
        · rw [decide_eq_true hx]
          simp only [Bool.not_true, cond_false, and_true]
          exact hgo
        · rw [decide_eq_false hx]
          simp only [Bool.not_false, cond_true, Bool.false_eq_true, and_false, if_false]
          rw [XC (k + 1) (by omega)]
      · rw [decide_eq_true (show (b.length : Int) < ((Xo (k + 1) l.length).length : Int) by omega), decide_eq_false (show ¬ ((Xo (k + 1) l.length).length : Int) = (b.length : Int) by omega), decide_eq_false (show ¬ (Xo (k + 1) l.length).length < b.length by omega), decide_eq_false (show ¬ (Xo (k + 1) l.length).length = b.length by omega)]
        simp only [Bool.not_true, Bool.false_and, cond_false, Qu, Bool.true_or, cond_true, Bool.false_or, Bool.false_eq_true, and_false, if_false]
        rw [XC (k + 1) (by omega)]
  · unfold Qfs
    simp only []
    rw [Qjq hl, Qu, decide_eq_false (by omega), cond_false]
end Go.Gw

end
