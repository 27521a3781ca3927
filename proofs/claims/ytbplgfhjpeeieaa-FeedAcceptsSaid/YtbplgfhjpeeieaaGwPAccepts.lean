/- The law FeedAccepts in plain words. No condition. -/
import Derived.Test.YtbplgfhjpeeieaaGwAwake
import Derived.Test.YtbplgfhjpeeieaaGwLawFeedAccepts
set_option linter.unusedVariables false
set_option linter.unusedSimpArgs false
set_option linter.unusedSectionVars false
set_option maxRecDepth 4096
namespace Go.Gw
open Go
theorem QLq {n : FeedNet} (hn : n.Trains.length < 1000) (l : List FeedDeparture) : ∃ i, Qab ⟨n⟩ l = some ((if Y0 n l = 0 then l.map (Q8 n) else []), i, Y0 n l) := by
  rw [Qpz n l hn]
  unfold Y0
  by_cases h6 : 6 < l.length
  · exact ⟨0, by simp [h6]⟩
  · rcases Qac (YG n l) l.length with ⟨h1, _⟩ | ⟨i, h1, _, h3, _⟩
    · exact ⟨0, by simp [h6, h1]⟩
    · exact ⟨i, by simp [h6, h1, h3]⟩
theorem QKf {n : FeedNet} (hn : n.Trains.length < 1000) (l : List FeedDeparture) : ∃ i, Qcl n l = some (i, Y0 n l) := by
  rw [Qvm n l hn]
  unfold Y0
  by_cases h6 : 6 < l.length
  · exact ⟨0, by simp [h6]⟩
  · rcases Qac (YG n l) l.length with ⟨h1, _⟩ | ⟨i, h1, _, h3, _⟩
    · exact ⟨0, by simp [h6, h1]⟩
    · exact ⟨i, by simp [h6, h1]⟩
def J6 (n : FeedNet) (l : List FeedDeparture) (x : FeedDeparture) : Int :=
  if Y0 n (l ++ [x]) ≠ 0 then Y0 n (l ++ [x]) else if ¬ ((Q8 n x).FeedTrain.Earliest ≤ x.At ∧ x.At ≤ (Q8 n x).FeedTrain.Latest) then 25 else if (JH (Jb n ((l ++ [x]).map (Q8 n)))).2 = true then 28 else 0
theorem QAa {n : FeedNet} {l : List FeedDeparture} (h : YM n l = 0) : (ZQ n).2 = 0 := by
  unfold YM at h
  by_cases h0 : (ZQ n).2 = 0
  · exact h0
  · rw [if_pos h0] at h; exact absurd h h0
theorem Qjy {n : FeedNet} {l m : List FeedDeparture} (h : YM n l = 0) (hm : Y0 n m = 0) : YM n m = 0 := by
  unfold YM; rw [if_neg (by simp [QAa h]), hm]
theorem QKc {n : FeedNet} (h : NetS n) {l : List FeedDeparture} (hl : l.length ≤ 8) (hb : YM n l = 0) (x : FeedDeparture) : Qhi n l x = some (J6 n l x) := by
  obtain ⟨i, hi⟩ := QKf h.tr (l ++ [x])
  unfold Qhi J6
  rw [Qkf l (by omega), Qz, ZH (by simp; omega), Qz, Qz, hi, Qz]
  by_cases hd : Y0 n (l ++ [x]) = 0
  · have hR := Qnh h (Qjy hb hd)
    have hx : x ∈ l ++ [x] := by simp
    obtain ⟨t, h1, h2, h3⟩ := Qfa (hR.ru x hx).2
    have e : (Q8 n x).FeedTrain = t := by unfold Q8; rw [h1]; rfl
    have hidx : idx n.Trains (Yf n x.Train) = some t := by unfold idx; rw [if_pos (hR.ru x hx).2]; exact h1
    simp only [hd, ne_eq, not_true_eq_false, if_false, decide_true, Bool.not_true, cond_false]
    rw [Qhh n _ (by have := h.tr; omega), Qz, hidx, Qz, Qz, Qat, Qz, Qyk, QKl hR, Qz, e]
    by_cases hw : t.Earliest ≤ x.At ∧ x.At ≤ t.Latest
    · rw [decide_eq_true hw]
      cases (JH (Jb n ((l ++ [x]).map (Q8 n)))).2 <;> simp [hw]
    · rw [decide_eq_false hw]; simp [hw]
  · simp [hd]
theorem QBh {n : FeedNet} (h : NetS n) {l : List FeedDeparture} (hl : l.length ≤ 8) (x : FeedDeparture) : Qge n l x = some (if YM n l ≠ 0 then ([], YM n l) else if J6 n l x ≠ 0 then ([], J6 n l x) else (l ++ [x], 0)) := by
  unfold Qge
  rw [Qvc h, Qz]
  by_cases hb : YM n l = 0
  · obtain ⟨i, hi⟩ := QLq h.tr (l ++ [x])
    have hi2 : Qab (feed_net.mk (FeedNet.mk n.Stations n.Sections n.Trains)) (l ++ [x]) = some ((if Y0 n (l ++ [x]) = 0 then (l ++ [x]).map (Q8 n) else []), i, Y0 n (l ++ [x])) := hi
    simp only [hb, ne_eq, not_true_eq_false, if_false, decide_true, Bool.not_true, cond_false]
    unfold Qnm J6
    rw [ZH (by simp; omega), Qz, Qz, List.nil_append, ZH (by simp; omega), Qz, Qz, hi2, Qz]
    by_cases hd : Y0 n (l ++ [x]) = 0
    · have hR := Qnh h (Qjy hb hd)
      have h6 := hR.l6
      simp only [hd, ne_eq, not_true_eq_false, if_false, if_true, decide_true, Bool.not_true, cond_false]
      have hidx : idx ((l ++ [x]).map (Q8 n)) (w64 ((((l ++ [x]).map (Q8 n)).length : Int) - 1)) = some (Q8 n x) := by
        rw [List.length_map, List.length_append, List.length_singleton, Ya (by omega), show ((l.length + 1 : Nat) : Int) - 1 = (l.length : Int) by omega, XD?]
        simp
      have ho : Jz (feed_net.mk (FeedNet.mk n.Stations n.Sections n.Trains)) ((l ++ [x]).map (Q8 n)) = some (JH (Jb n ((l ++ [x]).map (Q8 n)))) :=
        Qpy hR.ne (by rw [List.length_map]; omega) (Qeo hR)
      rw [hidx, Qz, ho, Qz, Qal, Qz, Jf, Qz, Jf, Qz, JW _ (by simp), Qz, QGb, Qyk]
      by_cases hw : (Q8 n x).FeedTrain.Earliest ≤ x.At ∧ x.At ≤ (Q8 n x).FeedTrain.Latest
      · rw [decide_eq_true hw]
        cases (JH (Jb n ((l ++ [x]).map (Q8 n)))).2 <;> simp [hw]
      · rw [decide_eq_false hw]; simp [hw]
    · simp [hd]
  · simp [hb]
theorem Qyx (n : FeedNet) (l : List FeedDeparture) (x : FeedDeparture) : Qmf n l x = some true := by
  unfold Qmf
  rw [Qzm, Qz]
  simp only [Bool.not_true, cond_false]
  rw [QFx, Qz]
  cases hf : Qdw n with
  | false => rfl
  | true =>
    simp only [Bool.not_true, Bool.not_false, cond_true]
    rw [QMb, Qz]
    cases hs : Qeq l with
    | false => rfl
    | true =>
      cases hx : decide (20 < (x.Train.size : Int)) with
      | true => rfl
      | false =>
        have h := QFw hf
        have hl := QMa hs
        simp only [Bool.not_true, Bool.or_false, Bool.or_self, cond_false]
        rw [QAo h]
        simp only [Qz]
        rw [Qkf l (by omega)]
        simp only [Qz]
        rw [QBh h hl, QKd h]
        simp only [Qz]
        by_cases hb : YM n l = 0
        · rw [QKc h hl hb]
          by_cases ha : J6 n l x = 0
          · have hd : Y0 n (l ++ [x]) = 0 := by
              unfold J6 at ha
              by_cases hd : Y0 n (l ++ [x]) = 0
              · exact hd
              · rw [if_pos hd] at ha; exact absurd ha hd
            have ho : (JH (Jb n ((l ++ [x]).map (Q8 n)))).2 = false := by
              unfold J6 at ha
              rw [if_neg (by simp [hd])] at ha
              split at ha
              · cases ha
              · split at ha
                · cases ha
                · rename_i h; exact Bool.eq_false_iff.2 h
            have hbm := Qjy hb hd
            simp only [hb, ha, ne_eq, not_true_eq_false, if_false, decide_true, Bool.not_true, cond_false, cond_true, Qz]
            rw [ZH (by simp; omega), Qz, QLs _ _ (by simp; omega)]
            simp only [decide_true, Qz, Bool.not_true, cond_false]
            rw [Qkf _ (by simp; omega), Qz, Qyy h, Qz]
            simp only [hbm, ho, ne_eq, not_true_eq_false, if_false, cond_false, decide_true]
          · simp [hb, ha]
        · simp [hb]
end Go.Gw
