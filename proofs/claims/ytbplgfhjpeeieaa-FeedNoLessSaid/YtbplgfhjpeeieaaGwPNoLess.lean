/- The law FeedNoLess in plain words. No condition. -/
import Derived.Test.YtbplgfhjpeeieaaGwFed20
import Derived.Test.YtbplgfhjpeeieaaGwLawFeedNoLess
set_option linter.unusedVariables false
set_option linter.unusedSimpArgs false
set_option linter.unusedSectionVars false
set_option maxRecDepth 4096
namespace Go.Gw
open Go
theorem Quv : ∀ {ts : List FeedTrain} {r : List FeedDeparture}, r.length = ts.length → (∀ k (hk : k < r.length) (hk2 : k < ts.length), r[k].Train = ts[k].Name ∧ ts[k].Earliest ≤ r[k].At ∧ r[k].At ≤ ts[k].Latest) → Fits ts r
  | [], [], _, _ => trivial
  | [], _ :: _, h, _ => by simp at h
  | _ :: _, [], h, _ => by simp at h
  | _ :: _, _ :: _, h, hg => ⟨hg 0 (by simp) (by simp), Quv (by simpa using h) fun k hk hk2 => hg (k + 1) (by simpa using hk) (by simpa using hk2)⟩
theorem QIt {n : FeedNet} (h0 : (X6 n).2 = 0) {p : List FeedDeparture} (hF : Fits n.Trains p) {k : Nat} (hk : k < p.length) : YB n p k = 0 := by
  have hlen := hF.len
  have hk2 : k < n.Trains.length := by omega
  have hg := hF.get k hk hk2
  have ht := ZS ((Qbf h0).tr _ (List.getElem_mem hk2))
  rw [show YB n p k = Jq n p[k] (p.take k) from ZN _ _ _ hk]
  unfold Jq
  have e : Yd n p[k].Train = (k : Int) := by rw [hg.1]; exact Qio h0 hk2
  rw [if_neg (by omega)]
  have hany : (p.take k).any (fun o => decide (o.Train = p[k].Train)) = false := by
    rw [List.any_eq_false]
    intro o ho
    obtain ⟨j, hj, rfl⟩ := List.mem_iff_getElem.1 ho
    have hjk : j < k := by rw [List.length_take] at hj; omega
    rw [List.getElem_take, decide_eq_true_eq]
    intro he
    have hg2 := hF.get j (by omega) (by omega)
    have e2 : Yd n p[j].Train = (j : Int) := by rw [hg2.1]; exact Qio h0 (by omega)
    rw [he, e] at e2
    omega
  rw [hany, if_neg (by simp), Qdp, decide_eq_true (show 0 ≤ p[k].At ∧ p[k].At ≤ 1000 by omega)]
  rfl
theorem Quu {n : FeedNet} (h0 : (X6 n).2 = 0) {p : List FeedDeparture} (hF : Fits n.Trains p) : X4 (YB n p) p.length = none := by
  rcases JY (YB n p) p.length with ⟨h, _⟩ | ⟨i, h, hi, hne, _⟩
  · exact h
  · exact absurd (QIt h0 hF hi) hne
theorem Qnl {n : FeedNet} (h0 : (X6 n).2 = 0) {p : List FeedDeparture} (hF : Fits n.Trains p) : JF n p = 0 := by
  unfold JF Qhh
  rw [if_neg (by simp [h0]), if_neg (by rw [hF.len]; have := (Qbf h0).tr6; omega), Quu h0 hF]
theorem QCp {n : FeedNet} {w : FeedWindow} (h0 : (X6 n).2 = 0) (h : (if (X6 n).2 ≠ 0 then ((0 : Int), (X6 n).2) else if ZD n w.Station ≠ 0 then (0, ZD n w.Station) else if Zo w.Ticks ≠ 0 then (0, Zo w.Ticks) else if JQ n w = true then (J3 n w, 0) else (0, 20)).2 = 0) : ZD n w.Station = 0 ∧ Zo w.Ticks = 0 ∧ JQ n w = true := by
  rw [if_neg (by simp [h0])] at h
  by_cases h1 : ZD n w.Station = 0
  · rw [if_neg (by simp [h1])] at h
    by_cases h2 : Zo w.Ticks = 0
    · rw [if_neg (by simp [h2])] at h
      cases hb : JQ n w with
      | true => exact ⟨h1, h2, rfl⟩
      | false => simp [hb] at h
    · rw [if_pos h2] at h; exact absurd h h2
  · rw [if_pos h1] at h; exact absurd h h1
def Y1 (n : FeedNet) (times : List Int) : List FeedDeparture := List.zipWith (fun (t : FeedTrain) a => FeedDeparture.mk t.Name a) n.Trains times
theorem Qxe {n : FeedNet} {times : List Int} {k : Nat} (hk : k < (Y1 n times).length) (h1 : k < n.Trains.length) (h2 : k < times.length) : (Y1 n times)[k] = FeedDeparture.mk n.Trains[k].Name times[k] := by
  simp only [Y1, List.getElem_zipWith]
theorem Qxd {n : FeedNet} (hs : n.Trains.length < 1000) {times : List Int} (hl : times.length = n.Trains.length) {r : List FeedDeparture × Int × Int} (hr : (decide (r.2.2 = 0) || (decide (r.2.2 = 12) && decide ((r.1.length : Int) = 0))) = true) :
    (loop (Qdd n times r) (([] : List FeedDeparture), 0) = some (.inl true)) ∨ (loop (Qdd n times r) (([] : List FeedDeparture), 0) = some (.inr (Y1 n times)) ∧ Fits n.Trains (Y1 n times)) := by
  have holen : (Y1 n times).length = times.length := by unfold Y1; rw [List.length_zipWith]; omega
  have key := Qny (step := Qdd n times r) (fun k => ((Y1 n times).take k, (k : Int))) times.length (fun k => if (times[k]?.map fun a => decide (((n.Trains[k]?.map (·.Earliest)).getD 0) ≤ a) && decide (a ≤ (n.Trains[k]?.map (·.Latest)).getD 0)) = some true then none else some ()) (fun _ => true) (Y1 n times) (fun k hk => by
    have hk2 : k < n.Trains.length := by omega
    have hk3 : k < (Y1 n times).length := by omega
    unfold Qdd
    simp only [XN hk, cond_true, Xs hk, Xs hk2, Qw]
    rw [Qbp, Qw, List.getElem?_eq_getElem hk, List.getElem?_eq_getElem hk2, hr]
    simp only [Option.map_some, Option.getD_some, Option.some.injEq]
    cases (decide (n.Trains[k].Earliest ≤ times[k]) && decide (times[k] ≤ n.Trains[k].Latest)) with
    | false => simp
    | true =>
      simp only [Bool.not_true, cond_false, if_true]
      rw [Jl (by simp; omega), Qw, XP k (by omega), List.take_add_one, List.getElem?_eq_getElem hk3, Qxe hk3 hk2 hk]
      rfl) (by
    unfold Qdd
    simp only [XO, cond_false]
    rw [List.take_of_length_le (by omega)])
  simp only [List.take_zero, Int.natCast_zero] at key
  cases hf : (List.range times.length).findSome? (fun k => if (times[k]?.map fun a => decide (((n.Trains[k]?.map (·.Earliest)).getD 0) ≤ a) && decide (a ≤ (n.Trains[k]?.map (·.Latest)).getD 0)) = some true then none else some ()) with
  | some u => rw [hf] at key; exact .inl key
  | none =>
    rw [hf] at key
    refine .inr ⟨key, Quv (by omega) fun k hk hk2 => ?_⟩
    rw [List.findSome?_eq_none_iff] at hf
    have hk4 : k < times.length := by omega
    have h1 := hf k (List.mem_range.2 hk4)
    rw [List.getElem?_eq_getElem hk4, List.getElem?_eq_getElem hk2] at h1
    simp only [Option.map_some, Option.getD_some, Option.some.injEq] at h1
    split at h1
    · rename_i h2
      rw [Bool.and_eq_true, decide_eq_true_eq, decide_eq_true_eq] at h2
      rw [Qxe hk hk2 hk4]
      exact ⟨rfl, h2⟩
    · cases h1
theorem QBi (n : FeedNet) (times : List Int) (w : FeedWindow) : Qns n times w = some true := by
  unfold Qns
  rw [QBv, Qw]
  simp only [Bool.not_true, cond_false]
  rw [QIs, Qw]
  cases hf : Qfe n with
  | false => rfl
  | true =>
    have h := QIr hf
    simp only [Bool.not_true, Bool.not_false, cond_true]
    rw [QNb h, Qw]
    cases hq : Qfn n with
    | false => rfl
    | true =>
      simp only [Bool.not_true, Bool.or_false, Bool.not_false, cond_true]
      rw [Qxq h, Qw]
      by_cases h0 : (X6 n).2 = 0
      · simp only [h0, decide_true, Bool.not_true, Bool.or_false, Bool.not_false, cond_true]
        rw [Qxp h.tr, Qw]
        by_cases hc : Jo n = 0
        · simp only [hc, decide_true, Bool.not_true, Bool.or_false]
          by_cases hl : times.length = n.Trains.length
          · rw [decide_eq_true (show (times.length : Int) = (n.Trains.length : Int) by omega)]
            simp only [Bool.not_true, Bool.or_self, cond_false]
            rw [QCz h]
            simp only [Qw]
            rw [QDu h w]
            obtain ⟨h3, h4⟩ := QNa hq h0 hc
            have hn := Qbf h0
            rcases QCe h h0 hc h3 with ⟨p, hp, hpf, hb, hs⟩ | ⟨hall, hs⟩
            · rw [hs]
              simp only [Qw]
              have hw : ∀ x : Int × Int, x = (if (X6 n).2 ≠ 0 then ((0 : Int), (X6 n).2) else if ZD n w.Station ≠ 0 then (0, ZD n w.Station) else if Zo w.Ticks ≠ 0 then (0, Zo w.Ticks) else if JQ n w = true then (J3 n w, 0) else (0, 20)) → decide (x.2 = 0) = false := fun x hx => by
                rw [decide_eq_false_iff_not]
                intro he
                rw [hx] at he
                obtain ⟨g1, g2, g3⟩ := QCp h0 he
                rw [QMx h0 h.tr g1 g2 g3 hp] at hpf
                cases hpf
              rw [hw _ rfl]
              simp only [Bool.false_and, cond_false]
              rcases Qxd h.tr hl (r := (p, dl n p, 0)) (by simp) with ho | ⟨ho, hF⟩
              · rw [ho]; rfl
              · rw [ho]
                simp only [Qw, jn0]
                have hol := hF.len
                rw [Qlr _ (by omega), Qw, Qkq h, Qw]
                simp only [Qnl h0 hF, ne_eq, not_true_eq_false, if_false, decide_true, Bool.not_true, cond_false]
                have hpl := hp.len
                rw [QNe n p h.tr, if_neg (by omega), Quu h0 hp]
                simp only [Qw, decide_true, Bool.not_true, Bool.false_or]
                rw [decide_eq_true (show (p.length : Int) = (n.Trains.length : Int) by omega), Bool.not_true, cond_false]
                have l2 : loop (Qic n (p, dl n p, 0)) 0 = some (.inr ()) :=
                  Zm (fun k => (k : Int)) p.length (fun k hk => by
                    have hg := hp.get k hk (by omega)
                    unfold Qic
                    simp only [XN hk, cond_true, Xs hk, Xs (show k < n.Trains.length by omega), Qw]
                    rw [decide_eq_true hg.1]
                    simp only [Bool.not_true, Bool.not_false, cond_true, Qw]
                    rw [Qbp, Qw, decide_eq_true hg.2.1, decide_eq_true hg.2.2, XP k (by omega)]
                    rfl) (by
                    unfold Qic
                    simp only [XO, cond_false])
                rw [l2]
                simp only [Qw, jn0]
                rw [Qlr p (by omega), Qw, Qkq h, Qw, hp.delay h0 h.tr, hF.delay h0 h.tr]
                have hpn : Zc n (p.map (Xc n)) = none := by
                  have : (Zc n (p.map (Xc n))).isNone = true := hpf
                  simpa using this
                simp only [Qnl h0 hp, ne_eq, not_true_eq_false, if_false, hpn, pkB, cond_false, decide_true, Bool.not_true, Qw, Bool.true_and, cond_true]
                cases hov : Zc n ((Y1 n times).map (Xc n)) with
                | some x => simp
                | none =>
                  have hd : dl n p ≤ dl n (Y1 n times) := by
                    rcases hb with ⟨_, hb⟩ | ⟨_, _, hb⟩
                    · rw [hpf] at hb; cases hb
                    · have h5 := hb (YJ n (Y1 n times)) (List.mem_map.2 ⟨_, deps_mem.2 hF, rfl⟩) (by show (Zc n ((Y1 n times).map (Xc n))).isNone = true; rw [hov]; rfl)
                      unfold pc at h5
                      by_cases c1 : (YJ n p).delay < (YJ n (Y1 n times)).delay
                      · exact Int.le_of_lt c1
                      · by_cases c2 : (YJ n (Y1 n times)).delay < (YJ n p).delay
                        · rw [if_neg c1, if_pos c2] at h5; omega
                        · have c3 : ¬ dl n (Y1 n times) < dl n p := c2
                          omega
                  simp [hd]
            · rw [hs]
              simp only [Qw, decide_true, Bool.not_true, Bool.and_false, cond_false]
              rcases Qxd h.tr hl (r := ([], 0, 12)) (by simp) with ho | ⟨ho, hF⟩
              · rw [ho]; rfl
              · rw [ho]
                simp only [Qw, jn0]
                have hol := hF.len
                have hfo : (Zc n ((Y1 n times).map (Xc n))).isNone = false := hall _ hF
                rw [Qlr _ (by omega), Qw, Qkq h, Qw]
                cases hov : Zc n ((Y1 n times).map (Xc n)) with
                | none => rw [hov] at hfo; cases hfo
                | some x => simp [Qnl h0 hF, pkB]
          · rw [decide_eq_false (show ¬ ((times.length : Int) = (n.Trains.length : Int)) by omega)]; rfl
        · simp [hc]
      · simp [h0]
end Go.Gw
