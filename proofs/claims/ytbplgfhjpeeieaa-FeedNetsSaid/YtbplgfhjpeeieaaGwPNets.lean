/- The law FeedNets in plain words. No condition. -/
import Derived.Test.YtbplgfhjpeeieaaGwLawFeedNets
import Derived.Test.YtbplgfhjpeeieaaGwAwake
set_option linter.unusedVariables false
set_option linter.unusedSimpArgs false
set_option linter.unusedSectionVars false
set_option maxRecDepth 4096
namespace Go.Gw
open Go
theorem Qxh {n : FeedNet} (h : NetS n) (l : List FeedDeparture) : Qdl n l = some (if (JA n).2 ≠ 0 then (0, (JA n).2) else if 6 < l.length then (0, 8) else match XF (YC n l) l.length with | some i => ((i : Int), YC n l i) | none => (0, 0)) := by
  unfold Qdl J5
  rw [Qmj h, QS, QS]
  by_cases h0 : (JA n).2 = 0
  · simp only [h0, ne_eq, not_true_eq_false, if_false, decide_true, Bool.not_true, cond_false]
    rw [show feed_net.mk (FeedNet.mk n.Stations n.Sections n.Trains) = feed_net.mk n from rfl, Qxj n l h.tr, QS]
    by_cases h6 : 6 < l.length
    · rw [if_pos h6, if_pos h6]
    · rw [if_neg h6, if_neg h6]
      cases XF (YC n l) l.length <;> rfl
  · simp [h0]
theorem Qva (n : FeedNet) (l : List FeedDeparture) : Qiz n l = some true := by
  unfold Qiz
  rw [Qvo, QS]
  simp only [Bool.not_true, cond_false]
  rw [QBs, QS]
  cases hf : Qbp n with
  | false => rfl
  | true =>
    simp only [Bool.not_true, Bool.not_false, cond_true]
    rw [QGj, QS]
    cases hs : Qca l with
    | false => rfl
    | true =>
      have h := QBr hf
      have hl := QGi hs
      simp only [Bool.not_true, Bool.or_false, cond_false]
      rw [Qwn h]
      simp only [QS]
      rw [Qmj h]
      simp only [QS]
      rw [Qwm l (by omega)]
      simp only [QS]
      rw [Qxh h l, QFe h]
      simp only [QS, decide_true, Bool.not_true, Bool.or_false, cond_false]
      by_cases h0 : (JA n).2 = 0
      · simp only [h0, ne_eq, not_true_eq_false, if_false, decide_true, Bool.not_true, cond_false]
        rw [QFd n l h.tr, QS]
        by_cases h6 : 6 < l.length
        · simp [h6]
        · simp only [h6, if_false]
          cases XF (YC n l) l.length <;> simp
      · simp [h0]
end Go.Gw
