/- The law FeedPlans in plain words. No condition. -/
import Derived.Test.YtbplgfhjpeeieaaGwFed20
import Derived.Test.YtbplgfhjpeeieaaGwLawFeedPlans
set_option linter.unusedVariables false
set_option linter.unusedSimpArgs false
set_option linter.unusedSectionVars false
set_option maxRecDepth 4096
namespace Go.Gw
open Go
theorem QMo (a b : List FeedDeparture) (ha : a.length < 1000000) : Qbg a b = some (decide (a = b)) := by
  unfold Qbg
  by_cases hl : a.length = b.length
  · rw [decide_eq_true (by omega), Bool.not_true, cond_false, ZT (a.zip b) (fun x => !decide (x.1 = x.2)) (fun _ _ => false), Qw, Qqj a b hl]
    · intro k hk
      rw [Qzv hl] at hk
      unfold Qie
      rw [XL hk, cond_true, Xs hk, Qw, Xs (show k < b.length by omega), Qw, XP k (by omega)]
      simp only [List.getElem_zip]
    · rw [Qzv hl]
      unfold Qie
      rw [XM]; rfl
  · rw [decide_eq_false (by omega)]
    simp only [Bool.not_false, cond_true]
    rw [decide_eq_false]
    intro e; exact hl (by rw [e])
theorem QMp {n : FeedNet} (h0 : (YB n).2 = 0) (h3 : n.Trains.length ≤ 3) (h4 : ∀ t ∈ n.Trains, Yc t ≤ 4) :
    (∀ p, Fits n.Trains p → (X1 n p).found = true → Bst ((X7 n.Trains []).map (X1 n)) (X1 n p) → Qco n = some (p, true)) ∧ ((∀ q, Fits n.Trains q → (X1 n q).found = false) → ∃ x, Qco n = some (x, false)) := by
  have hr := QLe h0 h3 h4
  have hb := Qnn n (X7 n.Trains []) ([], false) YF (Qqe _ _) rfl (fun h => by cases h)
  have hf := Qeh ((X7 n.Trains []).map (X1 n))
  constructor
  · intro p hp hpf hbst
    have e := hbst.eq hf.1 hpf
    have h2 : ((X7 n.Trains []).foldl (rb n) ([], false)).2 = true := by rw [hb.1, ← e]; exact hpf
    have h5 := hb.2 h2
    rw [← e] at h5
    have hmem : ∀ (l : List (List FeedDeparture)) (a : List FeedDeparture × Bool), (∀ q ∈ l, Fits n.Trains q) → (a.2 = true → Fits n.Trains a.1) → (l.foldl (rb n) a).2 = true → Fits n.Trains (l.foldl (rb n) a).1 := by
      intro l
      induction l with
      | nil => intro a _ h; exact h
      | cons q l ih =>
        intro a hq h
        rw [List.foldl_cons]
        refine ih _ (fun x hx => hq x (List.mem_cons_of_mem _ hx)) ?_
        unfold rb
        split
        · exact h
        · split
          · intro _; exact hq q (List.mem_cons_self ..)
          · exact h
    have h6 := hmem (X7 n.Trains []) ([], false) (fun q hq => deps_mem.1 hq) (fun h => by cases h) h2
    have h7 : p = ((X7 n.Trains []).foldl (rb n) ([], false)).1 := hp.eq h6 (congrArg feed_plan.at_ h5)
    rw [hr, Option.some.injEq]
    exact Prod.ext h7.symm h2
  · intro hall
    refine ⟨_, hr.trans (congrArg some (Prod.ext rfl ?_))⟩
    rw [hb.1]
    rcases hf.1 with ⟨_, h⟩ | ⟨h1, h2, _⟩
    · exact h
    · obtain ⟨q, hq, e⟩ := List.mem_map.1 h1
      rw [← e, hall q (deps_mem.1 hq)] at h2; cases h2
theorem Qzx (n : FeedNet) : Qmp n = some true := by
  unfold Qmp
  rw [QAl, Qw]
  simp only [Bool.not_true, cond_false]
  rw [QGz, Qw]
  cases hf : Qef n with
  | false => rfl
  | true =>
    have h := QGy hf
    simp only [Bool.not_true, Bool.not_false, cond_true]
    rw [QLb h, Qw]
    cases hq : Qeq n with
    | false => rfl
    | true =>
      simp only [Bool.not_true, Bool.or_false, cond_false]
      rw [QBo h, Qw, Qwi h, Qwh h.tr]
      by_cases h0 : (YB n).2 = 0
      · by_cases hc : Jb n = 0
        · obtain ⟨h3, h4⟩ := QLa hq h0 hc
          obtain ⟨s1, s2⟩ := QMp h0 h3 h4
          rcases QAu h h0 hc h3 with ⟨p, hp, hpf, hb, hs⟩ | ⟨hall, hs⟩
          · have hd := hp.delay h0 h.tr
            have hsd := QMo p p (by rw [hp.len]; omega)
            simp [hs, h0, hc, s1 p hp hpf hb, hd, hsd]
          · obtain ⟨x, hx⟩ := s2 hall
            simp [hs, h0, hc, hx]
        · have hs : ZQ n = some ([], 0, Jb n) := by
            unfold ZQ Qab
            have hpl : Qaw (feed_net.mk (FeedNet.mk n.Stations n.Sections n.Trains)) = some (Jb n) := Qqm h.tr
            rw [Qkz h, Qw, h0, Qw]
            simp only [decide_true, Bool.not_true, cond_false]
            rw [hpl, Qw]
            simp [hc]
          simp [hs, h0, hc]
      · have hs : ZQ n = some ([], 0, (YB n).2) := by
          unfold ZQ Qab
          rw [Qkz h, Qw, Qw]
          simp [h0]
        simp [hs, h0]
end Go.Gw
