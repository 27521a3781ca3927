/- The law FeedWindows in plain words. No condition. -/
import Derived.Test.YtbplgfhjpeeieaaGwAwake
import Derived.Test.YtbplgfhjpeeieaaGwLawFeedWindows
set_option linter.unusedVariables false
set_option linter.unusedSimpArgs false
set_option linter.unusedSectionVars false
set_option maxRecDepth 4096
namespace Go.Gw
open Go
theorem Qzq (n : FeedNet) (w : FeedWindow) : Qlw n w = some true := by
  unfold Qlw
  rw [QAc, QL]
  simp only [Bool.not_true, cond_false]
  rw [QGu, QL]
  cases hf : Qdk n with
  | false => rfl
  | true =>
    have h := QGt hf
    simp only [Bool.not_true, Bool.not_false, cond_true]
    rw [QKo h, QL]
    cases hq : Qms n with
    | false => rfl
    | true =>
      simp only [Bool.not_true, Bool.or_false, cond_false]
      rw [QBb h, QL, QBz h, QL, QL, QCb h, Qvs h, QLe h.tr, QKz h.st, QLa]
      by_cases h0 : (Yv n).2 = 0
      · have hn := Qdq h0
        have hw := QKs hn
        have hm := Qvr hn w
        by_cases h1 : Jj n w.Station = 0
        · by_cases h2 : Z5 w.Ticks = 0
          · have ht := Qyz h2
            have hp := Qvt hn w (Qyh h1) (by omega)
            by_cases h3 : Qab n = 0
            · cases hx : JV n <;> cases hb : Ji n w <;> simp [h0, h1, h2, h3, hw, hx, hb, hp, hm]
            · cases hb : Ji n w <;> simp [h0, h1, h2, h3, hb, hp, hm]
          · by_cases h3 : Qab n = 0
            · cases hx : JV n <;> simp [h0, h1, h2, h3, hw, hx]
            · simp [h0, h1, h2, h3]
        · by_cases h3 : Qab n = 0
          · cases hx : JV n <;> simp [h0, h1, h3, hw, hx]
          · simp [h0, h1, h3]
      · simp [h0]
end Go.Gw
