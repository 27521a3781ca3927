/- The law FeedBothEnds in plain words. Condition: the second loads are no more than a machine holds. -/
import Derived.Test.YtbplgfhjpeeieaaGwAwake
import Derived.Test.YtbplgfhjpeeieaaGwLawFeedBothEnds
set_option linter.unusedVariables false
set_option linter.unusedSimpArgs false
set_option linter.unusedSectionVars false
set_option maxRecDepth 4096
namespace Go.Gw
open Go
theorem Qrb (l : FeedLadder) (h : l.Loads.length ≤ 17592186044416) (h1 : ¬ l.Ohms.length = l.Loads.length + 1) : Ja l = some 10 := by
  unfold Ja
  rw [XV (by omega), decide_eq_false (p := (l.Ohms.length : Int) = (l.Loads.length : Int) + 1) (by omega)]
  simp
theorem Qml (l : List Int) (h : l.length ≤ 17592186044416) : ZK l = some l := by
  unfold ZK
  rw [Qgl (by simp; omega)]; rfl
section
variable {l : FeedLadder} (h : LadOk l)
include h
theorem QIi : loop (Qek l) (0, 0) = some l.Ohms.sum := by
  have h9 : l.Ohms.length ≤ 9 := by have := h.len; have := h.most; omega
  refine Jr (o := l.Ohms.sum) (fun k => ((l.Ohms.take k).sum, (k : Int))) l.Ohms.length ?_ ?_
  · intro k hk
    have hb := Qjp h (k + 1)
    rw [JB hk] at hb
    unfold Qek
    simp only [Yy hk, cond_true, XX hk, Option.bind_some]
    rw [XV (by omega), YL k (by omega), JB hk]
  · unfold Qek
    simp only [YH, cond_false, List.take_length]
theorem QJr : loop (Qbf l (XA l l.Ohms.sum (lf l l.Ohms.length) l.Ohms.length, 0) l.Ohms.sum) (0, ([] : List Int), 0) = some (.inr (ar l l.Ohms.length, (List.range l.Ohms.length).map (nn l))) := by
  have h9 : l.Ohms.length ≤ 9 := by have := h.len; have := h.most; omega
  have hcl := JR l
  exact Jr (step := Qbf l (XA l l.Ohms.sum (lf l l.Ohms.length) l.Ohms.length, 0) l.Ohms.sum) (o := .inr (ar l l.Ohms.length, (List.range l.Ohms.length).map (nn l))) (fun k => (ar l k, (List.range k).map (nn l), (k : Int))) l.Ohms.length (fun k hk => by
    obtain ⟨g, n', A', g1, g2, g3, g4, g5, g6, g7, g8⟩ := Qdh h hk
    have hA := JH h
    have hidx : idx (XA l l.Ohms.sum (lf l l.Ohms.length) l.Ohms.length) (k : Int) = some (Frac.mk n' A') := by rw [XX?]; exact g4
    have hrem : rem l.Ohms.sum A' = some 0 := by rw [Qbr (by omega), g3, Int.mul_comm, Int.mul_tmod_left]
    have hgb : g ≤ l.Ohms.sum := by
      have := Int.mul_le_mul_of_nonneg_right (show (1 : Int) ≤ A' by omega) (show 0 ≤ g by omega); omega
    have hquo : quo l.Ohms.sum A' = some g := by rw [ZN (by omega), g3, Int.mul_comm, Int.mul_tdiv_cancel _ (by omega)]; rw [XV (by omega)]
    have hnb := Z9 h k
    have hr := og h k
    have hm := Qbk hnb hr
    have hrb := Qll h k
    unfold Qbf
    simp only [hcl, Yy hk, cond_true, hidx, Option.bind_some, hrem, decide_true, Bool.not_true, Bool.not_false]
    rw [Qma, Option.bind_some, decide_eq_true (by omega), decide_eq_true (by omega)]
    simp only [Bool.and_self, Bool.not_true, Bool.or_self, cond_false, hquo, Option.bind_some]
    rw [← g2, XV (x := nn l k) (by omega), Qcp (by simp; omega), Option.bind_some]
    have hlast : idx ((List.range k).map (nn l) ++ [nn l k]) (k : Int) = some (nn l k) := by rw [XX?]; simp
    have hoh : l.Ohms.getD k 0 = l.Ohms[k] := by simp [List.getD, List.getElem?_eq_getElem hk]
    rw [hoh] at hm hr
    rw [hlast, Option.bind_some, XX hk, Option.bind_some, XV (x := nn l k * l.Ohms[k]) (by omega), XV (x := ar l k + nn l k * l.Ohms[k]) (by omega), YL k (by omega), Qgn, hoh, List.range_succ, List.map_append]
    rfl) (by
    unfold Qbf
    simp only [hcl, YH, cond_false])
theorem steps : loop (Qel l ((List.range l.Ohms.length).map (nn l)) l.Ohms.sum) 0 = some (.inr ()) := by
  have h9 : l.Ohms.length ≤ 9 := by have := h.len; have := h.most; omega
  have hlen := h.len
  exact Jr (fun k => (k : Int)) l.Loads.length (fun k hk => by
    have hA := JH h
    have h1 : idx ((List.range l.Ohms.length).map (nn l)) (k : Int) = some (nn l k) := by rw [XX?, List.getElem?_map, List.getElem?_range (by omega)]; rfl
    have h2 : idx ((List.range l.Ohms.length).map (nn l)) ((k + 1 : Nat) : Int) = some (nn l (k + 1)) := by rw [XX?, List.getElem?_map, List.getElem?_range (by omega)]; rfl
    have hd := QFl l k
    have b1 := Z9 h k
    have b2 := Z9 h (k + 1)
    have hld : l.Loads.getD k 0 = l.Loads[k] := by simp [List.getD, List.getElem?_eq_getElem hk]
    rw [hld] at hd
    unfold Qel
    rw [Yy hk, cond_true, h1, Option.bind_some, YL k (by omega), h2, Option.bind_some, XX hk, Option.bind_some, ← hd, decide_eq_true rfl]
    rfl) (by
    unfold Qel
    rw [YH]; rfl)
end
theorem Qwi (a b : List Int) (hl : a.length = b.length) (hm : a.length < 1000) (ha : ∀ x ∈ a, -20000 ≤ x ∧ x ≤ 20000) (hb : ∀ x ∈ b, -20000 ≤ x ∧ x ≤ 20000) : loop (Qbg b) (0, a) = some (XD a b) := by
  have ga : ∀ k, -20000 ≤ a.getD k 0 ∧ a.getD k 0 ≤ 20000 := fun k => by
    by_cases hk : k < a.length
    · simp only [List.getD, List.getElem?_eq_getElem hk, Option.getD_some]; exact ha _ (List.getElem_mem hk)
    · simp [List.getD, List.getElem?_eq_none (Nat.le_of_not_lt hk)]
  have gb : ∀ k, -20000 ≤ b.getD k 0 ∧ b.getD k 0 ≤ 20000 := fun k => by
    by_cases hk : k < b.length
    · simp only [List.getD, List.getElem?_eq_getElem hk, Option.getD_some]; exact hb _ (List.getElem_mem hk)
    · simp [List.getD, List.getElem?_eq_none (Nat.le_of_not_lt hk)]
  have e0 : ((List.range a.length).map fun i => if i < 0 then a.getD i 0 + b.getD i 0 else a.getD i 0) = a := by
    conv => rhs; rw [QDk a]
    apply List.map_congr_left; intro i _; simp
  have eN : ((List.range a.length).map fun i => if i < a.length then a.getD i 0 + b.getD i 0 else a.getD i 0) = XD a b := by
    unfold XD
    apply List.map_congr_left; intro i hi; rw [if_pos (List.mem_range.1 hi)]
  have key := Jr (step := Qbg b) (o := XD a b) (fun j => ((j : Int), (List.range a.length).map fun i => if i < j then a.getD i 0 + b.getD i 0 else a.getD i 0)) b.length (fun j hj => by
    have hja : j < a.length := by omega
    have g1 := ga j
    have g2 := gb j
    have hbj : idx b (j : Int) = some (b.getD j 0) := by rw [XX hj]; simp [List.getD, List.getElem?_eq_getElem hj]
    unfold Qbg
    simp only [Yy hj, cond_true, hbj, QDb a.length j hja (fun i => a.getD i 0) (fun i => a.getD i 0 + b.getD i 0), Option.bind_some, Int.toNat_natCast]
    rw [XV (x := a.getD j 0 + b.getD j 0) (by omega), YL j (by omega), QGc a.length j hja (fun i => a.getD i 0) (fun i => a.getD i 0 + b.getD i 0)]) (by
    unfold Qbg
    simp only [YH, cond_false]
    rw [← hl, eN])
  simp only [e0] at key
  exact key
theorem QIj {o a b : List Int} (h1 : LadOk (FeedLadder.mk o a)) (h2 : LadOk (FeedLadder.mk o b)) (h3 : LadOk (FeedLadder.mk o (XD a b))) (hl : a.length = b.length) :
    loop (Qbh (XA (FeedLadder.mk o b) o.sum (lf (FeedLadder.mk o b) o.length) o.length, 0) (XA (FeedLadder.mk o (XD a b)) o.sum (lf (FeedLadder.mk o (XD a b)) o.length) o.length, 0) ((List.range o.length).map (nn (FeedLadder.mk o a))) o.sum) 0 = some (.inr ()) := by
  have h9 : o.length ≤ 9 := by have := h1.len; have := h1.most; simp only at *; omega
  have hcl : (XA (FeedLadder.mk o b) o.sum (lf (FeedLadder.mk o b) o.length) o.length).length = o.length := JR (FeedLadder.mk o b)
  exact Jr (step := Qbh (XA (FeedLadder.mk o b) o.sum (lf (FeedLadder.mk o b) o.length) o.length, 0) (XA (FeedLadder.mk o (XD a b)) o.sum (lf (FeedLadder.mk o (XD a b)) o.length) o.length, 0) ((List.range o.length).map (nn (FeedLadder.mk o a))) o.sum) (fun k => (k : Int)) o.length (fun k hk => by
    obtain ⟨g, n', A', g1, g2, g3, g4, g5, g6, g7, g8⟩ := Qdh h2 hk
    obtain ⟨e, m', B', e1, e2, e3, e4, e5, e6, e7, e8⟩ := Qdh h3 hk
    have hA : 0 < o.sum ∧ o.sum ≤ 4500 := JH h1
    have hx : idx (XA (FeedLadder.mk o b) o.sum (lf (FeedLadder.mk o b) o.length) o.length) (k : Int) = some (Frac.mk n' A') := by rw [XX?]; exact g4
    have hy : idx (XA (FeedLadder.mk o (XD a b)) o.sum (lf (FeedLadder.mk o (XD a b)) o.length) o.length) (k : Int) = some (Frac.mk m' B') := by rw [XX?]; exact e4
    have g3 : o.sum = A' * g := g3
    have e3 : o.sum = B' * e := e3
    have r1 : rem o.sum A' = some 0 := by rw [Qbr (by omega), g3, Int.mul_comm, Int.mul_tmod_left]
    have r2 : rem o.sum B' = some 0 := by rw [Qbr (by omega), e3, Int.mul_comm, Int.mul_tmod_left]
    have hgb : g ≤ o.sum := by
      have := Int.mul_le_mul_of_nonneg_right (show (1 : Int) ≤ A' by omega) (show 0 ≤ g by omega); omega
    have heb : e ≤ o.sum := by
      have := Int.mul_le_mul_of_nonneg_right (show (1 : Int) ≤ B' by omega) (show 0 ≤ e by omega); omega
    have q1 : quo o.sum A' = some g := by rw [ZN (by omega), g3, Int.mul_comm, Int.mul_tdiv_cancel _ (by omega)]; rw [XV (by omega)]
    have q2 : quo o.sum B' = some e := by rw [ZN (by omega), e3, Int.mul_comm, Int.mul_tdiv_cancel _ (by omega)]; rw [XV (by omega)]
    have hw : idx ((List.range o.length).map (nn (FeedLadder.mk o a))) (k : Int) = some (nn (FeedLadder.mk o a) k) := by rw [XX?]; simp [hk]
    have hs := QFk o a b hl k
    have b1 := Z9 h1 k
    have b2 := Z9 h2 k
    have b3 := Z9 h3 k
    unfold Qbh
    simp only [hcl, Yy hk, cond_true, hx, hy, hw, Option.bind_some, r1, r2, decide_true, Bool.not_true, Bool.not_false, Bool.or_self, q1, q2, Bool.false_or]
    rw [← g2, ← e2, XV (x := nn (FeedLadder.mk o b) k) (by omega), XV (x := nn (FeedLadder.mk o a) k + nn (FeedLadder.mk o b) k) (by omega), XV (x := nn (FeedLadder.mk o (XD a b)) k) (by omega), ← hs, decide_eq_true rfl, YL k (by omega)]
    rfl) (by
    unfold Qbh
    simp only [hcl, YH, cond_false])
theorem Qvw (l : FeedLadder) (more : List Int) (hw : more.length ≤ 17592186044416) : Qja l more = some true := by
  unfold Qja
  rw [Qwt, Option.bind_some]
  simp only [Bool.not_true, cond_false]
  by_cases h8 : 8 < l.Loads.length
  · rw [decide_eq_true (show 8 < (l.Loads.length : Int) by omega)]; rfl
  · rw [decide_eq_false (show ¬ 8 < (l.Loads.length : Int) by omega)]
    simp only [Bool.not_false, cond_true, Bool.false_or]
    by_cases hs : l.Ohms.length = l.Loads.length + 1
    · have h1 : l.Ohms.length < 1000 := by omega
      have h2 : l.Loads.length < 1000 := by omega
      rw [Qju l h1 h2, Option.bind_some]
      by_cases he : YG l = 0
      · have h := Qbe he
        simp only [he, decide_true, Bool.not_true, cond_false]
        rw [Qhb l h1 h2]
        simp only [Option.bind_some]
        rw [Qiz l h1 h2, if_pos he]
        have hce := Qhc h
        have hcl := JR l
        have hchk : Qav l (XA l l.Ohms.sum (lf l l.Ohms.length) l.Ohms.length) = some 0 := by
          rw [Qxq l _ h1 h2 (by rw [hcl]; omega)]
          simp [he, hce, hcl]
        have hcf : Qcq (XA l l.Ohms.sum (lf l l.Ohms.length) l.Ohms.length) = some (XA l l.Ohms.sum (lf l l.Ohms.length) l.Ohms.length) := by
          unfold Qcq; rw [Qcp (by simp [hcl]; omega)]; rfl
        simp only [Option.bind_some, decide_true, cond_true]
        rw [Qjt l _ (by rw [hcl]; omega), if_neg (by simp [hcl]), hce]
        simp only [Option.bind_some, decide_true, cond_true, hcf, hchk, Bool.not_true, cond_false]
        rw [QIi h, Option.bind_some, QJr h]
        simp only [Option.bind_some, jn0]
        rw [steps h, Qwp]
        simp only [Option.bind_some, jn0, decide_true, Bool.not_true, cond_false]
        rw [Qml _ (by omega), Option.bind_some, Qml more hw, Option.bind_some]
        by_cases hm : l.Ohms.length = more.length + 1
        · have hl : l.Loads.length = more.length := by omega
          have m2 : (FeedLadder.mk l.Ohms more).Loads.length < 1000 := by show more.length < 1000; omega
          rw [Qju _ (show (FeedLadder.mk l.Ohms more).Ohms.length < 1000 from h1) m2, Option.bind_some]
          by_cases he2 : YG (FeedLadder.mk l.Ohms more) = 0
          · have hh2 := Qbe he2
            simp only [he2, decide_true, Bool.not_true, cond_false]
            rw [Qwi l.Loads more hl h2 h.load hh2.load, Option.bind_some]
            have hal : (XD l.Loads more).length = l.Loads.length := by unfold XD; simp
            have m3 : (FeedLadder.mk l.Ohms (XD l.Loads more)).Loads.length < 1000 := by show (XD l.Loads more).length < 1000; omega
            rw [Qju _ (show (FeedLadder.mk l.Ohms (XD l.Loads more)).Ohms.length < 1000 from h1) m3, Option.bind_some]
            by_cases he3 : YG (FeedLadder.mk l.Ohms (XD l.Loads more)) = 0
            · have hh3 := Qbe he3
              simp only [he3, decide_true, Bool.not_true, cond_false]
              rw [Qhb (FeedLadder.mk l.Ohms more) h1 m2, Option.bind_some, Qiz (FeedLadder.mk l.Ohms more) h1 m2, if_pos he2, Option.bind_some, Qhb (FeedLadder.mk l.Ohms (XD l.Loads more)) h1 m3, Option.bind_some, Qiz (FeedLadder.mk l.Ohms (XD l.Loads more)) h1 m3, if_pos he3, Option.bind_some]
              have hc2 : (XA (FeedLadder.mk l.Ohms more) l.Ohms.sum (lf (FeedLadder.mk l.Ohms more) l.Ohms.length) l.Ohms.length).length = l.Ohms.length := JR (FeedLadder.mk l.Ohms more)
              have hc3 : (XA (FeedLadder.mk l.Ohms (XD l.Loads more)) l.Ohms.sum (lf (FeedLadder.mk l.Ohms (XD l.Loads more)) l.Ohms.length) l.Ohms.length).length = l.Ohms.length := JR (FeedLadder.mk l.Ohms (XD l.Loads more))
              have c2 : Yx (XA (FeedLadder.mk l.Ohms more) l.Ohms.sum (lf (FeedLadder.mk l.Ohms more) l.Ohms.length) l.Ohms.length) = 0 := Qhc hh2
              have c3 : Yx (XA (FeedLadder.mk l.Ohms (XD l.Loads more)) l.Ohms.sum (lf (FeedLadder.mk l.Ohms (XD l.Loads more)) l.Ohms.length) l.Ohms.length) = 0 := Qhc hh3
              simp only [decide_true, Bool.not_true, Bool.or_self, Bool.not_false, cond_true]
              rw [Qjt l _ (by rw [hc2]; omega), if_neg (by simp [hc2]), c2]
              simp only [Option.bind_some, decide_true, Bool.not_true, Bool.or_self, Bool.not_false, cond_true]
              rw [Qjt l _ (by rw [hc3]; omega), if_neg (by simp [hc3]), c3]
              simp only [Option.bind_some, decide_true, Bool.not_true, Bool.or_self, cond_false]
              have := QIj (o := l.Ohms) (a := l.Loads) (b := more) h hh2 hh3 hl
              exact (congrArg (fun o => Option.bind o _) this).trans rfl
            · simp [he3]
          · simp [he2]
        · rw [Qrb (FeedLadder.mk l.Ohms more) hw hm]; rfl
      · simp [he]
    · rw [Qrb l (by omega) hs]; rfl
end Go.Gw
