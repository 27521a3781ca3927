/- The law FeedLadders in plain words. No condition. -/
import Derived.Test.YtbplgfhjpeeieaaGwLawFeedLadders
import Derived.Test.YtbplgfhjpeeieaaGwAwake
set_option linter.unusedVariables false
set_option linter.unusedSimpArgs false
set_option linter.unusedSectionVars false
set_option maxRecDepth 4096
namespace Go.Gw
open Go
theorem Qwr (l : FeedLadder) (h1 : l.Ohms.length < 1000) (h2 : l.Loads.length < 1000) : Qap l = some l := by
  unfold Qap Qbp
  rw [Jx (by simp; omega), Jx (by simp; omega)]; rfl
theorem QBs (l : FeedLadder) (h1 : l.Ohms.length < 1000) (h2 : l.Loads.length < 1000) : JC l = some (if YT l = 0 then (Yf l l.Ohms.sum (lf l l.Ohms.length) l.Ohms.length, 0) else ([], YT l)) := by
  unfold JC
  rw [Qpz l h1 h2, Option.bind_some]
  by_cases a : YT l = 0
  · rw [if_pos a, a, Qqa (Qia a)]; rfl
  · rw [if_neg a, decide_eq_false a]; rfl
theorem Quz (l : FeedLadder) (cs : List Frac) : Qib l cs = some true := by
  unfold Qib
  rw [Qvn, Option.bind_some]
  simp only [Bool.not_true, cond_false]
  by_cases hb : ((decide (10 < (l.Loads.length : Int)) || decide (12 < (l.Ohms.length : Int))) || decide (12 < (cs.length : Int))) = true
  · rw [hb]; rfl
  · rw [Bool.eq_false_iff.2 hb, cond_false]
    simp only [Bool.or_eq_true, decide_eq_true_eq, not_or] at hb
    have h1 : l.Ohms.length < 1000 := by omega
    have h2 : l.Loads.length < 1000 := by omega
    have h3 : cs.length < 1000 := by omega
    have hc : Qbo cs = some cs := by unfold Qbo; rw [Jx (by simp; omega)]; rfl
    rw [Qwr l h1 h2]
    simp only [Option.bind_some]
    rw [QBs l h1 h2, hc]
    simp only [Option.bind_some]
    rw [Qwj l cs h1 h2 (by omega), QEv l h1 h2]
    simp only [Option.bind_some]
    by_cases a : YT l = 0
    · have hcl : (Yf l l.Ohms.sum (lf l l.Ohms.length) l.Ohms.length).length < 1000000 := by simp [Yf]; omega
      rw [if_pos a, a, QEw (Qia a)]
      simp only [Option.bind_some, decide_true, Bool.not_true, cond_false, Bool.not_false, cond_true]
      rw [Qpq _ _ hcl, decide_eq_true rfl]
      simp only [Option.bind_some, Bool.not_true, Bool.or_false, cond_false]
      rw [QEu l cs (by omega)]
      simp only [Option.bind_some, ne_eq, not_true_eq_false, if_false]
      by_cases b : cs.length = l.Ohms.length
      · simp only [b, not_true_eq_false, if_false]
        by_cases c0 : Y5 cs = 0
        · simp only [c0, not_true_eq_false, if_false, decide_true, cond_true]
          rw [Qpq _ _ (by omega)]
          by_cases d0 : cs = Yf l l.Ohms.sum (lf l l.Ohms.length) l.Ohms.length
          · rw [if_pos d0, decide_eq_true d0]; rfl
          · rw [if_neg d0, decide_eq_false d0]; rfl
        · simp [c0]
      · simp [b]
    · rw [if_neg a, if_pos a]
      simp [a]
end Go.Gw
