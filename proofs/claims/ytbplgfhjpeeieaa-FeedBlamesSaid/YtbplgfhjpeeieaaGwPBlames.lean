/- The law FeedBlames in plain words. No condition. -/
import Derived.Test.YtbplgfhjpeeieaaGwFed34
import Derived.Test.YtbplgfhjpeeieaaGwLawFeedBlames
set_option linter.unusedVariables false
set_option linter.unusedSimpArgs false
set_option linter.unusedSectionVars false
set_option maxRecDepth 4096
namespace Go.Gw
open Go
theorem QBi (n : FeedNet) (R : List feed_run) : (∀ x ∈ Zz n R, 0 ≤ x ∧ x < (R.length : Int)) ∧ (Zz n R).length ≤ R.length := by
  have hn : ∀ m, (∀ x ∈ Xo m R.length, 0 ≤ x ∧ x < (R.length : Int)) ∧ (Xo m R.length).length ≤ R.length := fun m => by
    refine ⟨fun x hx => ?_, by unfold Xo; rw [List.length_map]; exact Qbm m R.length⟩
    unfold Xo at hx
    obtain ⟨i, hi, rfl⟩ := List.mem_map.1 hx
    unfold Zp at hi
    have := List.mem_range.1 (List.mem_filter.1 hi).1
    omega
  unfold Zz
  generalize 2 ^ R.length - 1 = j
  induction j with
  | zero => exact ⟨fun x hx => (by cases hx), Nat.zero_le _⟩
  | succ j ih =>
    show (∀ x ∈ Jy n R j (rng (Jy n R) [] j), 0 ≤ x ∧ x < (R.length : Int)) ∧ (Jy n R j (rng (Jy n R) [] j)).length ≤ R.length
    unfold Jy
    split
    · exact hn (j + 1)
    · exact ih
theorem QDb {n : FeedNet} (h : NetS n) (l : List FeedDeparture) : Qbe n l = some (if Z5 n l ≠ 0 then ([], Z5 n l) else (Zz n (l.map (Xd n)), if (Zz n (l.map (Xd n))).isEmpty = true then 12 else 0)) := by
  unfold Qbe
  rw [QLc h, Qu]
  by_cases hb : Z5 n l = 0
  · have hR := Qxf h hb
    simp only [hb, ne_eq, not_true_eq_false, if_false, if_true, decide_true, Bool.not_true, cond_false]
    rw [show feed_net.mk (FeedNet.mk n.Stations n.Sections n.Trains) = feed_net.mk n from rfl, QDc hR.ne (Qjo hR) (by rw [List.length_map]; exact hR.l6), Qu, J7, Qu]
    cases (Zz n (l.map (Xd n))).isEmpty <;> rfl
  · simp [hb]
def Qby (l : List FeedDeparture) (x : Int) : ByteArray := (l[x.toNat]?.getD default).Train
theorem Qrc (l : List FeedDeparture) (b : List Int) (e : Int) (hb : ∀ x ∈ b, 0 ≤ x ∧ x < (l.length : Int)) (hl : b.length ≤ 6) : loop (Qcl l (b, e)) (([] : List ByteArray), 0) = some (b.map (Qby l)) := by
  have key := Zd (step := Qcl l (b, e)) (o := b.map (Qby l)) (fun k => ((b.take k).map (Qby l), (k : Int))) b.length (fun k hk => by
    have hx := hb _ (List.getElem_mem hk)
    have hi : idx l b[k] = some (l[b[k].toNat]?.getD default) := by unfold idx; rw [if_pos hx.1, List.getElem?_eq_getElem (by omega)]; rfl
    unfold Qcl
    simp only [XB hk, cond_true, Xt hk, Qu, hi]
    rw [ZM (by simp; omega), Qu, XC k (by omega), List.take_add_one, List.getElem?_eq_getElem hk, List.map_append]
    rfl) (by
    unfold Qcl
    simp only [XK, cond_false, List.take_length])
  simpa using key
theorem QBn (l : List FeedDeparture) (b : List Int) (e : Int) (hb : ∀ x ∈ b, 0 ≤ x ∧ x < (l.length : Int)) (hl : b.length ≤ 6) : loop (Qff l (b.map (Qby l), e) b) 0 = some (.inr ()) := by
  have key := Zd (step := Qff l (b.map (Qby l), e) b) (o := .inr ()) (fun k => (k : Int)) b.length (fun k hk => by
    have hx := hb _ (List.getElem_mem hk)
    have hi : idx l b[k] = some (l[b[k].toNat]?.getD default) := by unfold idx; rw [if_pos hx.1, List.getElem?_eq_getElem (by omega)]; rfl
    have hk2 : k < (b.map (Qby l)).length := by rw [List.length_map]; exact hk
    unfold Qff
    simp only [XB hk, cond_true, Xt hk, Xt hk2, Qu, hi, List.getElem_map]
    rw [decide_eq_true (show Qby l b[k] = (l[b[k].toNat]?.getD default).Train from rfl), XC k (by omega)]
    rfl) (by
    unfold Qff
    simp only [XK, cond_false])
  exact key
theorem QAm (n : FeedNet) (l : List FeedDeparture) : Qnq n l = some true := by
  unfold Qnq
  rw [QBa, Qu]
  simp only [Bool.not_true, cond_false]
  rw [QHq, Qu]
  cases hf : Qfd n with
  | false => rfl
  | true =>
    simp only [Bool.not_true, Bool.not_false, cond_true]
    rw [QOf, Qu]
    cases hs : Qga l with
    | false => rfl
    | true =>
      have h := QHp hf
      have hl := QOe hs
      simp only [Bool.not_true, Bool.or_false, cond_false]
      rw [QCf h]
      simp only [Qu]
      rw [QCe l (by omega)]
      simp only [Qu]
      unfold Qma
      rw [QDb h, QMc h]
      simp only [Qu]
      by_cases hb : Z5 n l = 0
      · have hR := Qxf h hb
        obtain ⟨hm, hlen⟩ := QBi n (l.map (Xd n))
        rw [List.length_map] at hm hlen
        have h6 := hR.l6
        rw [QMi hR]
        simp only [hb, ne_eq, not_true_eq_false, if_false, decide_true, cond_true, Qu]
        generalize Zz n (l.map (Xd n)) = b at *
        rw [Qrc l b _ hm (by omega)]
        simp only [Qu]
        cases he : b.isEmpty with
        | true =>
          have : b = [] := List.isEmpty_iff.1 he
          subst this
          rfl
        | false =>
          simp only [Bool.not_false, Bool.not_true, cond_false, Bool.false_eq_true, if_false, decide_true, Qu, Bool.or_false, cond_true]
          rw [QHz b b (by omega)]
          simp only [Qu, decide_true, Bool.not_true, Bool.or_false, List.length_map, cond_false]
          rw [QBn l b 0 hm (by omega)]
          rfl
      · have hz : loop (Qcl l (([] : List Int), Z5 n l)) (([] : List ByteArray), 0) = some [] := Qrc l [] _ (fun x hx => nomatch hx) (by simp)
        rw [if_pos hb, hz]
        simp [hb]
end Go.Gw
