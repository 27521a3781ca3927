/- The law FeedBooks in plain words. No condition. -/
import Derived.Test.YtbplgfhjpeeieaaGwFed30
import Derived.Test.YtbplgfhjpeeieaaGwLawFeedBooks
set_option linter.unusedVariables false
set_option linter.unusedSimpArgs false
set_option linter.unusedSectionVars false
set_option maxRecDepth 4096
namespace Go.Gw
open Go
theorem QBp (n : FeedNet) (l : List FeedDeparture) (x : guidewaylaw07_FeedRead) : Qod n l x = some true := by
  unfold Qod
  rw [QCb, QF]
  simp only [Bool.not_true, cond_false]
  rw [QIo, QF]
  cases hf : Qfk n with
  | false => rfl
  | true =>
    simp only [Bool.not_true, Bool.not_false, cond_true]
    rw [QPc, QF]
    cases hs : Qgg l with
    | false => rfl
    | true =>
      have h := QIn hf
      have hl := QPb hs
      simp only [Bool.not_true, Bool.or_false, cond_false]
      rw [QDi h, QF, QDh l (by omega), QF, QBo h, QF, QF, QEa, QNa, QF, QF, QNc h]
      simp only [decide_true, Bool.not_true, Bool.or_false, cond_false, QF]
      by_cases hb : JM n l = 0
      · rw [QNk]
        by_cases ht : JW x.Ticks = 0
        · obtain ⟨h0, h1, h2⟩ := QAx ht
          rw [QNb (QOn h hb) h0 h1 h2]
          simp [hb, ht]
        · simp [hb, ht]
      · simp [hb]
end Go.Gw
