/- The law TopFeedBelowLimit in plain words. No condition. -/
import Derived.Test.YtbplgfhjpeeieaaGwAwake
import Derived.Test.YtbplgfhjpeeieaaGwLawTopFeedBelowLimit
set_option linter.unusedVariables false
set_option linter.unusedSimpArgs false
set_option linter.unusedSectionVars false
set_option maxRecDepth 4096
namespace Go.Gw
open Go
theorem QGp {n : FeedNet} (hn : n.Trains.length < 1000) (l : List FeedDeparture) : ∃ i, J9 ⟨n⟩ l = some ((if YV n l = 0 then l.map (Xs n) else []), i, YV n l) := by
  rw [Qnd n l hn]
  unfold YV
  by_cases h6 : 6 < l.length
  · exact ⟨0, by simp [h6]⟩
  · rcases Zo (Yt n l) l.length with ⟨h1, _⟩ | ⟨i, h1, _, h3, _⟩
    · exact ⟨0, by simp [h6, h1]⟩
    · exact ⟨i, by simp [h6, h1, h3]⟩
theorem Qcy {n : FeedNet} {l : List FeedDeparture} (h : (Yh n).2 = 0) (hd : YV n l = 0) : Y3 n l = 0 := by
  unfold Y3; rw [if_neg (by simp [h]), hd]
theorem Qve {n : FeedNet} (h : NetS n) {l : List FeedDeparture} {x : FeedDeparture} (h0 : (Yh n).2 = 0) (hd : YV n (l ++ [x]) = 0) (hd0 : YV n l = 0) (hl : l.length ≤ 6) :
    (∃ e, (e = 25 ∨ e = 28) ∧ Qbk n l x = some ([], e)) ∨ (Qbk n l x = some (l ++ [x], 0) ∧ YN n ((l ++ [x]).map (Xs n)) = none) := by
  have hR := Qlc h (Qcy h0 hd)
  have h6 := hR.l6
  have hb := Qcy h0 hd0
  obtain ⟨i, hi⟩ := QGp h.tr (l ++ [x])
  have hi2 : J9 (feed_net.mk (FeedNet.mk n.Stations n.Sections n.Trains)) (l ++ [x]) = some ((if YV n (l ++ [x]) = 0 then (l ++ [x]).map (Xs n) else []), i, YV n (l ++ [x])) := hi
  have hidx : idx ((l ++ [x]).map (Xs n)) (w64 ((((l ++ [x]).map (Xs n)).length : Int) - 1)) = some (Xs n x) := by
    rw [List.length_map, List.length_append, List.length_singleton, Yi (by omega), show ((l.length + 1 : Nat) : Int) - 1 = (l.length : Int) by omega, XD?]
    simp
  have ho : Jl (feed_net.mk (FeedNet.mk n.Stations n.Sections n.Trains)) ((l ++ [x]).map (Xs n)) = some (JV (YN n ((l ++ [x]).map (Xs n)))) :=
    Qnc hR.ne (by rw [List.length_map]; omega) (Qld hR)
  have hs : Qbk n l x = some (if ¬ ((Xs n x).FeedTrain.Earliest ≤ x.At ∧ x.At ≤ (Xs n x).FeedTrain.Latest) then ([], 25) else if (JV (YN n ((l ++ [x]).map (Xs n)))).2 = true then ([], 28) else (l ++ [x], 0)) := by
    unfold Qbk Qlh
    rw [Qrl h, QB]
    simp only [hb, ne_eq, not_true_eq_false, if_false, decide_true, Bool.not_true, cond_false]
    rw [ZO (by simp; omega), QB, QB, List.nil_append, ZO (by simp; omega), QB, QB, hi2, QB]
    simp only [hd, ne_eq, not_true_eq_false, if_false, if_true, decide_true, Bool.not_true, cond_false]
    rw [hidx, QB, ho, QB, Qah, QB, ZY, QB, ZY, QB, JS _ (by simp), QB, QBr, Qcn]
    by_cases hw : (Xs n x).FeedTrain.Earliest ≤ x.At ∧ x.At ≤ (Xs n x).FeedTrain.Latest
    · rw [decide_eq_true hw]
      cases (JV (YN n ((l ++ [x]).map (Xs n)))).2 <;> simp [hw]
    · rw [decide_eq_false hw]; simp [hw]
  by_cases hw : (Xs n x).FeedTrain.Earliest ≤ x.At ∧ x.At ≤ (Xs n x).FeedTrain.Latest
  · rw [if_neg (fun h => h hw)] at hs
    cases hov : YN n ((l ++ [x]).map (Xs n)) with
    | some p => rw [hov] at hs; exact .inl ⟨28, .inr rfl, hs⟩
    | none => rw [hov] at hs; exact .inr ⟨hs, rfl⟩
  · rw [if_pos hw] at hs; exact .inl ⟨25, .inl rfl, hs⟩
theorem QCf {n : FeedNet} (h : NetS n) {l : List FeedDeparture} (h0 : (Yh n).2 = 0) (hd : YV n l = 0) :
    ∃ have_, List.Sublist have_ l ∧ YN n (have_.map (Xs n)) = none ∧ loop (Qaq n l) (([] : List FeedDeparture), 0) = some (.inr have_) := by
  have hD := (Qdb n l).1 hd
  have key : ∀ j k, k + j = l.length → ∀ hv : List FeedDeparture, List.Sublist hv (l.take k) → YN n (hv.map (Xs n)) = none → ∃ hv', List.Sublist hv' l ∧ YN n (hv'.map (Xs n)) = none ∧ loop (Qaq n l) (hv, (k : Int)) = some (.inr hv') := by
    intro j
    induction j with
    | zero =>
      intro k hk hv hs ho
      obtain rfl : k = l.length := by omega
      rw [List.take_length] at hs
      refine ⟨hv, hs, ho, Qas ?_⟩
      unfold Qaq
      simp only [X7, cond_false]
    | succ j ih =>
      intro k hk hv hs ho
      have hlt : k < l.length := by omega
      have hs1 : List.Sublist (hv ++ [l[k]]) (l.take (k + 1)) := by
        rw [List.take_add_one, List.getElem?_eq_getElem hlt]
        exact List.Sublist.append hs (List.Sublist.refl _)
      have hs0 : List.Sublist hv (l.take (k + 1)) := List.Sublist.trans (List.sublist_append_left _ _) hs1
      have hsl : List.Sublist (hv ++ [l[k]]) l := hs1.trans (List.take_sublist _ _)
      have sub : ∀ m, List.Sublist m l → YV n m = 0 := fun m hm => (Qdb n m).2 ⟨Nat.le_trans hm.length_le hD.1, fun d hdm => hD.2.1 d (hm.subset hdm), hD.2.2.sublist hm⟩
      have hv6 : hv.length ≤ 6 := by have := hsl.length_le; have := hD.1; simp at *; omega
      have step : Qaq n l (hv, (k : Int)) = some (.inl (hv, ((k + 1 : Nat) : Int))) ∨ (Qaq n l (hv, (k : Int)) = some (.inl (hv ++ [l[k]], ((k + 1 : Nat) : Int))) ∧ YN n ((hv ++ [l[k]]).map (Xs n)) = none) := by
        unfold Qaq
        simp only [X6 hlt, cond_true, XD hlt, QB]
        rw [Qmt h, QB, Qir hv (by omega), QB]
        rcases Qve h h0 (sub _ hsl) (sub hv (List.Sublist.trans (List.sublist_append_left _ _) hsl)) hv6 with ⟨e, he, ha⟩ | ⟨ha, hov⟩
        · left
          rw [ha, QB, X5 k (by omega)]
          rcases he with rfl | rfl <;> rfl
        · right
          rw [ha, QB]
          simp only [decide_true, Bool.not_true, cond_false]
          rw [QB, ZO (by simp; omega), QB, QGr _ _ (by simp; omega)]
          simp only [decide_true, QB, Bool.not_true, cond_false]
          rw [X5 k (by omega)]
          exact ⟨rfl, hov⟩
      rcases step with hst | ⟨hst, hov⟩
      · rw [Qcc hst]; exact ih (k + 1) (by omega) hv hs0 ho
      · rw [Qcc hst]; exact ih (k + 1) (by omega) _ hs1 hov
  exact key l.length 0 (by omega) [] (List.Sublist.refl _) rfl
theorem Qvp (l : List FeedDeparture) (hl : l.length ≤ 6) : loop (Qdx l) (([] : List FeedDeparture), w64 ((l.length : Int) - 1)) = some l.reverse := by
  have key := Ju (step := Qdx l) (o := l.reverse) (fun k => (l.reverse.take k, (l.length : Int) - 1 - (k : Int))) l.length (fun k hk => by
    have hi : idx l ((l.length : Int) - 1 - (k : Int)) = some l[l.length - 1 - k] := by
      rw [show (l.length : Int) - 1 - (k : Int) = ((l.length - 1 - k : Nat) : Int) by omega, XD (by omega)]
    unfold Qdx
    simp only []
    rw [decide_eq_true (by omega), cond_true, hi, QB, ZO (by simp; omega), QB, Yi (by omega), show (l.length : Int) - 1 - (k : Int) - 1 = (l.length : Int) - 1 - ((k + 1 : Nat) : Int) by omega]
    rw [List.take_add_one, List.getElem?_eq_getElem (by rw [List.length_reverse]; exact hk), List.getElem_reverse]
    rfl) (by
    unfold Qdx
    simp only []
    rw [decide_eq_false (by omega), cond_false, List.take_of_length_le (by simp)])
  rw [Yi (by omega)]
  simpa using key
def Zw (m : Int) (s : FeedStation) : FeedStation := FeedStation.mk s.Name (if s.Limit + m < 100000 then s.Limit + m else 100000) s.Takes
def YZ (m : Int) (n : FeedNet) : FeedNet := FeedNet.mk (n.Stations.map (Zw m)) n.Sections n.Trains
theorem QJx {m : Int} (hm : 0 ≤ m ∧ m ≤ 1000) (l : List FeedStation) (hl : l.length < 1000000) (hlim : ∀ s ∈ l, 0 ≤ s.Limit ∧ s.Limit ≤ 100000) : loop (Qdy m) (0, l) = some (l.map (Zw m)) := by
  have key := Ju (step := Qdy m) (o := l.map (Zw m)) (fun i => ((i : Int), (l.take i).map (Zw m) ++ l.drop i)) l.length (fun i hi => by
    have hlen : ((l.take i).map (Zw m) ++ l.drop i).length = l.length := by simp; omega
    have hidx : idx ((l.take i).map (Zw m) ++ l.drop i) (i : Int) = some l[i] := by
      rw [XD?, List.getElem?_append_right (by rw [List.length_map, List.length_take]; omega), List.getElem?_drop]
      simp [Nat.min_eq_left (Nat.le_of_lt hi)]
    have hL := hlim _ (List.getElem_mem hi)
    unfold Qdy
    simp only [hlen, X6 hi, cond_true, hidx, QB, Int.toNat_natCast]
    rw [X5 i (by omega), Yi (x := l[i].Limit + m) (by omega)]
    have := QGz (Zw m) l i hi
    unfold Zw at this ⊢
    rw [this]) (by
    have hlen : ((l.take l.length).map (Zw m) ++ l.drop l.length).length = l.length := by simp
    unfold Qdy
    simp only [hlen, X7, cond_false]
    simp)
  simpa using key
theorem QJu {m : Int} (hm : 0 ≤ m ∧ m ≤ 1000) {n : FeedNet} (h : (Yh n).2 = 0) : (Yh (YZ m n)).2 = 0 := by
  obtain ⟨a, b, c⟩ := QDf h
  have hn := Qdz h
  have l1 : (YZ m n).Stations.length = n.Stations.length := by simp [YZ]
  refine QDe (by rw [l1]; exact ⟨hn.st0, hn.st6⟩) ⟨hn.se0, hn.se10⟩ hn.tr6 (fun k hk => ?_) (fun k hk => ?_) (fun k hk => c k hk)
  · rw [l1] at hk
    have h1 := a k hk
    have hL := hn.lim _ (List.getElem_mem hk)
    rw [show YI n k = Jc n.Stations[k] ((n.Stations.take k).map (·.Name)) from Y5 _ _ _ hk] at h1
    have e1 : YI (YZ m n) k = Jc (Zw m n.Stations[k]) ((n.Stations.take k).map (·.Name)) := by
      rw [show YI (YZ m n) k = Jc (YZ m n).Stations[k] (((YZ m n).Stations.take k).map (·.Name)) from Y5 _ _ _ (by rw [l1]; exact hk)]
      simp only [YZ, List.getElem_map, ← List.map_take, List.map_map]
      rfl
    rw [e1]
    unfold Jc at h1 ⊢
    have e2 : (Zw m n.Stations[k]).Name = n.Stations[k].Name := rfl
    rw [e2]
    split at h1
    · rename_i hc; exact absurd h1 hc
    · rename_i hc
      rw [if_neg hc]
      have e3 : (Zw m n.Stations[k]).Limit = if n.Stations[k].Limit + m < 100000 then n.Stations[k].Limit + m else 100000 := rfl
      rw [e3, Qcn, decide_eq_true (by split <;> omega)]
      rfl
  · have := b k hk
    unfold YX at this ⊢
    rw [l1]; exact this
theorem QJv {m : Int} {n : FeedNet} (h : NetS n) : NetS (YZ m n) := ⟨by simp only [YZ, List.length_map]; exact h.st, h.se, h.tr, fun s hs => by
  obtain ⟨x, hx, rfl⟩ := List.mem_map.1 hs
  exact h.sn x hx, h.tn⟩
theorem QJw {m : Int} (hm : 0 ≤ m ∧ m ≤ 1000) {n : FeedNet} (hn : NetOk n) {k : Nat} (hk : k < n.Stations.length) : Js n k ≤ Js (YZ m n) k := by
  have hL := hn.lim _ (List.getElem_mem hk)
  unfold Js YZ
  simp only [List.getElem?_map, List.getElem?_eq_getElem hk, Option.map_some, Option.getD_some]
  have e3 : (Zw m n.Stations[k]).Limit = if n.Stations[k].Limit + m < 100000 then n.Stations[k].Limit + m else 100000 := rfl
  rw [e3]
  split <;> omega
theorem Qva (n : FeedNet) (l : List FeedDeparture) (m : Int) : Qkc n l m = some true := by
  unfold Qkc
  rw [QIo, QB]
  simp only [Bool.not_true, cond_false]
  rw [QBn, QB]
  cases hf : Qdv n with
  | false => rfl
  | true =>
    have h := QBm hf
    simp only [Bool.not_true, Bool.not_false, cond_true, Bool.false_or]
    rw [QFm h, QB]
    by_cases hb : Y3 n l = 0
    · by_cases h6 : 6 < l.length
      · rw [decide_eq_true (show 6 < (l.length : Int) by omega)]; simp [hb]
      · simp only [hb, decide_true, Bool.not_true, Bool.false_or]
        rw [decide_eq_false (show ¬ 6 < (l.length : Int) by omega), cond_false]
        have h0 : (Yh n).2 = 0 := by
          unfold Y3 at hb
          by_cases h0 : (Yh n).2 = 0
          · exact h0
          · rw [if_pos h0] at hb; exact absurd hb h0
        have hd : YV n l = 0 := by
          unfold Y3 at hb
          rw [if_neg (by simp [h0])] at hb; exact hb
        have hn := Qdz h0
        have hD := (Qdb n l).1 hd
        obtain ⟨hv, hs, ho, hl⟩ := QCf h h0 hd
        have hDv : hv.length ≤ 6 ∧ (∀ d ∈ hv, 0 ≤ X4 n d.Train ∧ 0 ≤ d.At ∧ d.At ≤ 1000) ∧ hv.Pairwise fun a b => a.Train ≠ b.Train := ⟨Nat.le_trans hs.length_le hD.1, fun d hdm => hD.2.1 d (hs.subset hdm), hD.2.2.sublist hs⟩
        have hdv : YV n hv = 0 := (Qdb n hv).2 hDv
        have hdb : YV n hv.reverse = 0 := (Qdb n hv.reverse).2 ⟨by rw [List.length_reverse]; exact hDv.1, fun d hdm => hDv.2.1 d (List.mem_reverse.1 hdm), by rw [List.pairwise_reverse]; exact hDv.2.2.imp fun h => Ne.symm h⟩
        have hbv := Qcy h0 hdv
        have hbb := Qcy h0 hdb
        have hRv := Qlc h hbv
        have hno := fun t {k} (hk : k < n.Stations.length) => QEo hn (Qld hRv) ho t hk
        have hob : YN n (hv.reverse.map (Xs n)) = none := Qro fun t k hk => by
          have := hno t hk
          have e : XA (hv.reverse.map (Xs n)) t = XA (hv.map (Xs n)) t := by funext s; rw [List.map_reverse, Qry]
          unfold Jr at this ⊢
          rw [e]; exact this
        rw [hl, QB]
        simp only [jn0]
        rw [Qvp hv hDv.1, QB, Qmt h, QB, Qir _ (by rw [List.length_reverse]; omega), QB, Qlw h, QB]
        simp only [hbb, hob, JV, ne_eq, not_true_eq_false, if_false, cond_false, decide_true, Bool.not_true, QB]
        rw [Qbi, QB, Qcn]
        by_cases hm : 0 ≤ m ∧ m ≤ 1000
        · rw [decide_eq_true hm]
          simp only [Bool.not_true, cond_false]
          rw [QJx hm n.Stations (by have := hn.st6; omega) hn.lim, QB, Qir hv (by omega), QB]
          have hbu : Y3 (YZ m n) hv = 0 := Qcy (QJu hm h0) hdv
          have hou : YN (YZ m n) (hv.map (Xs (YZ m n))) = none := Qro fun t k hk => by
            have hk2 : k < n.Stations.length := by simpa [YZ] using hk
            have h1 := hno t hk2
            have h2 := QJw hm hn hk2
            have e : Jr (YZ m n) (hv.map (Xs (YZ m n))) t k = Jr n (hv.map (Xs n)) t k := rfl
            rw [e]; omega
          have hfo := Qlw (QJv (m := m) h) hv
          rw [show FeedNet.mk (n.Stations.map (Zw m)) n.Sections n.Trains = YZ m n from rfl, hfo, QB]
          simp [hbu, hou, JV]
        · rw [decide_eq_false hm]; rfl
    · simp [hb]
end Go.Gw
