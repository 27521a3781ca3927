/- The law FeedPeaks in plain words. No condition. -/
import Derived.Test.YtbplgfhjpeeieaaGwAwake
import Derived.Test.YtbplgfhjpeeieaaGwLawFeedPeaks
set_option linter.unusedVariables false
set_option linter.unusedSimpArgs false
set_option linter.unusedSectionVars false
set_option maxRecDepth 4096
namespace Go.Gw
open Go
theorem Qxr {n : FeedNet} {s : Int} (h : JI n s = 0) : 0 ≤ s ∧ s ≤ (n.Stations.length : Int) - 1 := by
  unfold JI at h; split at h; assumption; cases h
theorem Qyz {n : FeedNet} (h : NetS n) (l : List FeedDeparture) (s : Int) : Qgj n l s = some (if Zg n l ≠ 0 then (FeedPeak.mk 0 0 0, Zg n l) else if JI n s ≠ 0 then (FeedPeak.mk 0 0 0, JI n s) else (FeedPeak.mk (Qed n l s.toNat).1 s (Qed n l s.toNat).2, 0)) := by
  unfold Qgj
  rw [Qve h, QB]
  rw [show feed_net.mk (FeedNet.mk n.Stations n.Sections n.Trains) = feed_net.mk n from rfl, QBu h.st, QB, JW _ (by simp), QB, QGh]
  by_cases hb : Zg n l = 0
  · by_cases hs : JI n s = 0
    · have hR := Qnp h hb
      have hs2 := Qxr hs
      simp only [hb, hs, ne_eq, not_true_eq_false, if_false, if_true, decide_true, Bool.not_true, cond_false]
      rw [Qqd hR (by omega) (by omega), QB, Qgw n l _ hs2, QB, QBp hR hs2, QB]
    · simp [hb, hs]
  · simp [hb]
theorem Qyy {n : FeedNet} (h : NetS n) (l : List FeedDeparture) : Qgi n l = some (if Zg n l ≠ 0 then (FeedPeak.mk 0 0 0, Zg n l) else ((pkB (JY n (l.map (Q7 n)))).1, bif (pkB (JY n (l.map (Q7 n)))).2 then 0 else 12)) := by
  unfold Qgi
  rw [Qve h, QB]
  by_cases hb : Zg n l = 0
  · have hR := Qnp h hb
    simp only [hb, ne_eq, not_true_eq_false, if_false, if_true, decide_true, Bool.not_true, cond_false]
    rw [show feed_net.mk (FeedNet.mk n.Stations n.Sections n.Trains) = feed_net.mk n from rfl, QBo hR.ne (by rw [List.length_map]; have := hR.l6; omega) (Qeo hR), QB, Jr, QB]
  · simp [hb]
theorem Qyx (n : FeedNet) (l : List FeedDeparture) (s : Int) : Qmj n l s = some true := by
  unfold Qmj
  rw [Qzo, QB]
  simp only [Bool.not_true, cond_false]
  rw [QGd, QB]
  cases hf : Qdr n with
  | false => rfl
  | true =>
    simp only [Bool.not_true, Bool.not_false, cond_true]
    rw [QMl, QB]
    cases hs : Qeq l with
    | false => rfl
    | true =>
      have h := QGc hf
      have hl := QMk hs
      simp only [Bool.not_true, Bool.or_false, cond_false]
      rw [QAq h]
      simp only [QB]
      rw [QAp l (by omega)]
      simp only [QB]
      rw [Qyz h, Qyy h, QKm h]
      simp only [QB]
      by_cases hb : Zg n l = 0
      · have hR := Qnp h hb
        rw [QKt hR, QKz h.st]
        simp only [QB, hb, ne_eq, not_true_eq_false, if_false, decide_true, Bool.not_true, cond_false]
        by_cases hs : JI n s = 0
        · have hp := QKu hR (Qxr hs)
          cases JY n (l.map (Q7 n)) <;> simp [pkB, hs, hp]
        · cases JY n (l.map (Q7 n)) <;> simp [pkB, hs]
      · simp [hb]
end Go.Gw
