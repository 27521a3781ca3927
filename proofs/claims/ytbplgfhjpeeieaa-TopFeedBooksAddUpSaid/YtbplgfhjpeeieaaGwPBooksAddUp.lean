/- The law TopFeedBooksAddUp in plain words. No condition. -/
import Derived.Test.YtbplgfhjpeeieaaGwFed20
import Derived.Test.YtbplgfhjpeeieaaGwLawTopFeedBooksAddUp
set_option linter.unusedVariables false
set_option linter.unusedSimpArgs false
set_option linter.unusedSectionVars false
set_option maxRecDepth 4096
namespace Go.Gw
open Go
theorem Qpz {n : FeedNet} (h0 : (Zp n).2 = 0) (hs : n.Trains.length < 1000) {p : List FeedDeparture} (hF : Fits n.Trains p) {m : Int} (hm : ∀ d ∈ p, 0 ≤ d.At + m ∧ d.At + m ≤ 1000) : Zm n (p.map fun d => FeedDeparture.mk d.Train (d.At + m)) = 0 := by
  have hR := hF.rt h0 hs
  unfold Zm
  rw [if_neg (by simp [h0])]
  refine (QBj n _).2 ⟨by rw [List.length_map]; exact hR.l6, fun d hd => ?_, ?_⟩
  · obtain ⟨e, he, rfl⟩ := List.mem_map.1 hd
    exact ⟨(hR.ru e he).2, hm e he⟩
  · rw [List.pairwise_map, List.pairwise_iff_getElem]
    intro i j hi hj hij he
    have hlen := hF.len
    have g1 := hF.get i hi (by omega)
    have g2 := hF.get j hj (by omega)
    have o1 := Qjm h0 (show i < n.Trains.length by omega)
    have o2 := Qjm h0 (show j < n.Trains.length by omega)
    simp only [g1.1, g2.1] at he
    rw [he, o2] at o1
    omega
theorem QGm (n : FeedNet) (hs : n.Trains.length < 1000) : ∃ b, Qjb n = some b ∧ (b = true → n.Trains.length ≤ 3 ∧ chE n = 0) := by
  unfold Qjb
  by_cases h3 : n.Trains.length ≤ 3
  · rw [decide_eq_false (show ¬ (3 : Int) < (n.Trains.length : Int) by omega), cond_false,
      ZZ n.Trains (fun t => decide (3 < w64 (t.Latest - t.Earliest))) (fun _ _ => false), Qs]
    · rcases Qbv (p := fun t : FeedTrain => decide (3 < w64 (t.Latest - t.Earliest))) (res := fun _ _ => false) n.Trains 0 with ⟨e1, e2⟩ | ⟨j, x, e1, _, e2⟩
      · rw [e1]
        refine ⟨true, rfl, fun _ => ⟨h3, ?_⟩⟩
        unfold chE
        rw [if_neg]
        rintro (h | h)
        · omega
        · obtain ⟨t, ht, hw⟩ := List.any_eq_true.1 h
          have := List.any_eq_false.1 e2 t ht
          simp only [Qhh, decide_eq_true_eq] at hw this
          omega
      · rw [e1]
        exact ⟨false, rfl, fun h => nomatch h⟩
    · intro k hk
      unfold Qns
      rw [XE hk, cond_true, Xq hk, Qs, Qs, XC k (by omega)]
    · unfold Qns
      rw [XF]; rfl
  · rw [decide_eq_true (show (3 : Int) < (n.Trains.length : Int) by omega), cond_true]
    exact ⟨false, rfl, fun h => nomatch h⟩
def ZF (a : Int) (d : FeedDeparture) : Int := if a < d.At + 12 then d.At + 12 else a
theorem Quj : ∀ (l : List FeedDeparture) (a : Int), (∀ d ∈ l, 0 ≤ d.At ∧ d.At ≤ 1000) → 0 ≤ a ∧ a ≤ 1012 → a ≤ l.foldl ZF a ∧ l.foldl ZF a ≤ 1012 ∧ ∀ d ∈ l, d.At + 12 ≤ l.foldl ZF a
  | [], a, _, ha => ⟨Int.le_refl _, ha.2, fun d hd => by cases hd⟩
  | d :: l, a, h, ha => by
    have hd := h d List.mem_cons_self
    have h1 : a ≤ ZF a d ∧ d.At + 12 ≤ ZF a d ∧ 0 ≤ ZF a d ∧ ZF a d ≤ 1012 := by unfold ZF; split <;> omega
    obtain ⟨b1, b2, b3⟩ := Quj l (ZF a d) (fun e he => h e (List.mem_cons_of_mem _ he)) ⟨h1.2.2.1, h1.2.2.2⟩
    rw [List.foldl_cons]
    refine ⟨by omega, b2, fun e he => ?_⟩
    rcases List.mem_cons.1 he with rfl | he
    · omega
    · exact b3 e he
theorem QHl (r : List FeedDeparture × Int × Int) (hl : r.1.length ≤ 6) (h : ∀ d ∈ r.1, 0 ≤ d.At ∧ d.At ≤ 1000) : loop (Qgc r) (0, 0) = some (r.1.foldl ZF 0) := by
  have key := Zo (step := Qgc r) (o := r.1.foldl ZF 0) (fun k => ((r.1.take k).foldl ZF 0, (k : Int))) r.1.length (fun k hk => by
    have hd := h _ (List.getElem_mem hk)
    rw [Qnk ZF 0 r.1 k hk]
    unfold Qgc
    simp only [XE hk, cond_true, Xq hk, Qs]
    rw [Xl (x := r.1[k].At + 12) (by omega), XC k (by omega)]
    rfl) (by
    unfold Qgc
    simp only [XF, cond_false, List.take_length])
  simpa using key
def shD (m : Int) (d : FeedDeparture) : FeedDeparture := FeedDeparture.mk d.Train (d.At + m)
theorem QHm (r : List FeedDeparture × Int × Int) {m : Int} (hm : 0 ≤ m ∧ m ≤ 20) (hl : r.1.length ≤ 6) (h : ∀ d ∈ r.1, 0 ≤ d.At ∧ d.At ≤ 1000) : loop (Qge m r) (([] : List FeedDeparture), 0) = some (r.1.map (shD m)) := by
  have key := Zo (step := Qge m r) (o := r.1.map (shD m)) (fun k => ((r.1.take k).map (shD m), (k : Int))) r.1.length (fun k hk => by
    have hd := h _ (List.getElem_mem hk)
    unfold Qge
    simp only [XE hk, cond_true, Xq hk, Qs]
    rw [Xl (x := r.1[k].At + m) (by omega), Jx (by simp; omega), Qs, XC k (by omega), List.take_add_one, List.getElem?_eq_getElem hk, List.map_append]
    rfl) (by
    unfold Qge
    simp only [XF, cond_false, List.take_length])
  simpa using key
/-! ### Shifted by some ticks -/
def Z4 (m : Int) (r : feed_run) : feed_run := feed_run.mk r.FeedTrain (r.at_ + m)
theorem Qoq (n : FeedNet) (m : Int) (p : List FeedDeparture) : (p.map (shD m)).map (Xg n) = (p.map (Xg n)).map (Z4 m) := by
  rw [List.map_map, List.map_map]; rfl
theorem Qgn (R : List feed_run) (m t : Int) : QY (R.map (Z4 m)) t = QY R (t - m) := by
  funext s
  unfold QY
  rw [List.map_map]
  congr 1
  apply List.map_congr_left
  intro r _
  show ZM r.FeedTrain.Steps (t - (r.at_ + m)) s = ZM r.FeedTrain.Steps (t - m - r.at_) s
  rw [show t - (r.at_ + m) = t - m - r.at_ by omega]
theorem Qqy (f : Int → Int) (R : List feed_run) (m t : Int) : fR f (R.map (Z4 m)) t = fR f R (t - m) := by
  unfold fR
  rw [List.map_map]
  congr 1
  apply List.map_congr_left
  intro r _
  show f (Yq t (Z4 m r)) = f (Yq (t - m) r)
  unfold Yq Z4
  simp only []
  rw [show t - (r.at_ + m) = t - m - r.at_ by omega]
theorem QOs (n : FeedNet) (R : List feed_run) (m : Int) (i : Nat) : ∀ q, tk n (R.map (Z4 m)) m q i = tk n R 0 q i := by
  have e : m + (i : Int) - m = 0 + (i : Int) := by omega
  intro q
  match q with
  | 0 => show QF (gF n (QY (R.map (Z4 m)) (m + (i : Int)))) _ = QF (gF n (QY R (0 + (i : Int)))) _; rw [Qgn, e]
  | 1 => show fR fU (R.map (Z4 m)) (m + (i : Int)) = fR fU R (0 + (i : Int)); rw [Qqy, e]
  | 2 => show fR fB (R.map (Z4 m)) (m + (i : Int)) = fR fB R (0 + (i : Int)); rw [Qqy, e]
  | 3 => show QF (gL n (QY (R.map (Z4 m)) (m + (i : Int)))) _ = QF (gL n (QY R (0 + (i : Int)))) _; rw [Qgn, e]
  | 4 => show QF (gW n true (QY (R.map (Z4 m)) (m + (i : Int)))) _ = QF (gW n true (QY R (0 + (i : Int)))) _; rw [Qgn, e]
  | _ + 5 => show QF (gW n false (QY (R.map (Z4 m)) (m + (i : Int)))) _ = QF (gW n false (QY R (0 + (i : Int)))) _; rw [Qgn, e]
theorem QAn (n : FeedNet) (R : List feed_run) (m : Int) (k : Nat) : Yn n (R.map (Z4 m)) m k = Yn n R 0 k := by
  have e : ∀ q, QF (tk n (R.map (Z4 m)) m q) k = QF (tk n R 0 q) k := fun q => Qhd _ fun j _ => QOs n R m j q
  unfold Yn
  simp only [e]
theorem QKs {n : FeedNet} (h : NetS n) (l : List FeedDeparture) : ∃ i, Qgo n l = some (i, Qbk n l) := by
  rw [QKq n l h.tr]
  unfold Qbk
  by_cases h6 : 6 < l.length
  · rw [if_pos h6, if_pos h6]; exact ⟨_, rfl⟩
  · rw [if_neg h6, if_neg h6]
    cases XS (YP n l) l.length with
    | none => exact ⟨_, rfl⟩
    | some i => exact ⟨_, rfl⟩
theorem Qlp {n : FeedNet} (h : NetS n) {l : List FeedDeparture} (hb : Zm n l = 0) {lo hi : Int} (h0 : 0 ≤ lo) (h1 : lo ≤ hi) (h2 : hi ≤ 1012) : J2 n l (Range.mk lo hi) = some (Yn n (l.map (Xg n)) lo (hi - lo + 1).toNat, 0) := by
  have ht : JW (Range.mk lo hi) = 0 := by unfold JW JG; simp only []; rw [if_neg (by rw [if_pos (by omega)]; simp), if_neg (by rw [if_pos (by omega)]; simp), if_pos h1]
  rw [Qzk h, if_neg (by simp [hb]), if_neg (by simp [ht])]
theorem Qzp (n : FeedNet) (m : Int) : Qnr n m = some true := by
  unfold Qnr
  rw [QNr, Qs]
  simp only [Bool.not_true, cond_false]
  rw [QGo, Qs]
  cases hf : Qga n with
  | false => rfl
  | true =>
    have h := QGn hf
    simp only [Bool.not_true, Bool.not_false, cond_true]
    rw [QKt h, Qs]
    by_cases h0 : (Zp n).2 = 0
    · simp only [h0, decide_true, Bool.not_true, Bool.or_false, Bool.not_false, cond_true]
      obtain ⟨b, hfew, hb3⟩ := QGm n h.tr
      rw [hfew, Qs]
      cases b with
      | false => rfl
      | true =>
        obtain ⟨h3, hc⟩ := hb3 rfl
        simp only [Bool.not_true, Bool.or_false, Bool.not_false, cond_true]
        rw [Qcc, Qs, Qdd]
        by_cases hm : 0 ≤ m ∧ m ≤ 20
        · rw [decide_eq_true hm]
          simp only [Bool.not_true, cond_false]
          rw [Qqj h, Qs]
          have hn := Qjh h0
          rcases QAf h h0 hc h3 with ⟨p, hp, hpf, hbst, hs⟩ | ⟨hall, hs⟩
          · rw [hs, Qs]
            have hRt := hp.rt h0 h.tr
            have hat : ∀ d ∈ p, 0 ≤ d.At ∧ d.At ≤ 1000 := fun d hd => ⟨(hRt.ru d hd).1.2.2.1, (hRt.ru d hd).1.2.2.2⟩
            have hb0 : Zm n p = 0 := by
              have := Qpz h0 h.tr hp (m := 0) (fun d hd => by have := hat d hd; omega)
              rwa [show (p.map fun d => FeedDeparture.mk d.Train (d.At + 0)) = p by simp] at this
            have hov : JA n (p.map (Xg n)) = none := by
              simpa [Zx] using hpf
            have hdep : Qbk n p = 0 := by unfold Zm at hb0; rw [if_neg (by simp [h0])] at hb0; exact hb0
            simp only [decide_true, Bool.not_true, cond_false]
            obtain ⟨i, hcd⟩ := QKs h p
            rw [hcd, Qs, hdep]
            simp only [decide_true, Bool.not_true, cond_false]
            rw [QHl (p, dl n p, 0) hRt.l6 hat, Qs]
            obtain ⟨l1, l2, l3⟩ := Quj p 0 hat (by omega)
            show (bif decide (1000 < w64 (p.foldl ZF 0 + m)) || decide (40 < p.foldl ZF 0) then _ else _) = _
            generalize p.foldl ZF 0 = la at *
            rw [Xl (x := la + m) (by omega)]
            by_cases hbig : 1000 < la + m ∨ 40 < la
            · rw [show (decide (1000 < la + m) || decide (40 < la)) = true by simpa using hbig]; rfl
            · have hb1 : ¬ 1000 < la + m := fun h => hbig (.inl h)
              have hb2 : ¬ 40 < la := fun h => hbig (.inr h)
              rw [decide_eq_false hb1, decide_eq_false hb2]
              simp only [Bool.or_false, cond_false]
              have hR := Qwk hRt
              have hl6 : (p.map (Xg n)).length ≤ 6 := by rw [List.length_map]; exact hRt.l6
              simp only [Qs]
              rw [Qmi p (by have := hRt.l6; omega), Qs, Qlp h hb0 (by omega) l1 (by omega), Qs]
              have key := Zo (step := Qgd n (p, dl n p, 0) la) (o := .inr ((fun b : FeedBook => (b.Fed, b.Used, b.Braked, b.Lost, b.Back, b.Burned)) (Yn n (p.map (Xg n)) 0 (la - 0 + 1).toNat)))
                (fun i => ((i : Int), (fun b : FeedBook => (b.Fed, b.Used, b.Braked, b.Lost, b.Back, b.Burned)) (Yn n (p.map (Xg n)) 0 i))) (la - 0 + 1).toNat (fun i hi => by
                have hsp := QAo n (p.map (Xg n)) 0 i 1
                rw [show (0 : Int) + ((i : Nat) : Int) = (i : Int) by omega] at hsp
                have iA := Qhy hn hR hl6 0 (k := i + 1) (by omega)
                have i1 := Qhy hn hR hl6 0 (k := i) (by omega)
                have i2 := Qhy hn hR hl6 (i : Int) (k := 1) (by omega)
                unfold Qgd
                simp only []
                rw [decide_eq_true (show (i : Int) ≤ la by omega), cond_true, Qqj h, Qs, Qmi p (by have := hRt.l6; omega), Qs, Qlp h hb0 (by omega) (Int.le_refl _) (by omega), Qs, show ((i : Int) - (i : Int) + 1).toNat = 1 by omega]
                generalize Yn n (p.map (Xg n)) 0 i = B1 at *
                generalize Yn n (p.map (Xg n)) (i : Int) 1 = B2 at *
                rw [QBy, Qs]
                have hab : Qhp (FeedBook.mk B1.Fed B1.Used B1.Braked B1.Lost B1.Back B1.Burned) (FeedBook.mk B2.Fed B2.Used B2.Braked B2.Lost B2.Back B2.Burned) = (Yn n (p.map (Xg n)) 0 (i + 1), 0) := by
                  unfold Qhp
                  rw [if_pos ⟨i1, i2⟩, if_pos (by rw [hsp] at iA; exact iA), hsp]
                rw [hab, XC i (by omega)]
                rfl) (by
                unfold Qgd
                simp only []
                rw [decide_eq_false (by omega), cond_false])
              have key2 : loop (Qgd n (p, dl n p, 0) la) (0, 0, 0, 0, 0, 0, 0) = some (.inr ((fun b : FeedBook => (b.Fed, b.Used, b.Braked, b.Lost, b.Back, b.Burned)) (Yn n (p.map (Xg n)) 0 (la - 0 + 1).toNat))) := key
              rw [key2, Qs]
              simp only [jn0]
              have iA := Qhy hn hR hl6 0 (k := (la - 0 + 1).toNat) (by omega)
              have hadd := Qpy hn hR hl6 0 (la - 0 + 1).toNat
              have hsh := QAn n (p.map (Xg n)) m (la - 0 + 1).toNat
              generalize hA : Yn n (p.map (Xg n)) 0 (la - 0 + 1).toNat = A at *
              obtain ⟨a1, a2, a3, a4, a5, a6⟩ := iA
              unfold XT at a1 a2 a3 a4 a5 a6
              simp only [decide_true, Bool.not_true, Bool.or_false, Bool.not_false, cond_true]
              rw [Qcc, Qs, Qdd, decide_eq_true a1, Xl (x := A.Fed + A.Braked) (by omega), Xl (x := A.Used + A.Lost) (by omega), Xl (x := A.Used + A.Lost + A.Back) (by omega), Xl (x := A.Used + A.Lost + A.Back + A.Burned) (by omega), decide_eq_true hadd]
              simp only [Bool.not_true, Bool.or_false, cond_false]
              rw [QHm (p, dl n p, 0) hm hRt.l6 hat, Qs]
              have hbL : Zm n (p.map (shD m)) = 0 := Qpz h0 h.tr hp (m := m) (fun d hd => by have := hat d hd; have := l3 d hd; omega)
              have hlL : (p.map (shD m)).length < 1000000 := by rw [List.length_map]; have := hRt.l6; omega
              simp only [Qs]
              rw [Qmi _ hlL]
              simp only [Qs]
              rw [Qlp h hbL hm.1 (by omega) (by omega)]
              simp only [Qs]
              rw [Qzl h]
              simp only [Qs]
              have hob : JA n ((p.map (shD m)).map (Xg n)) = none := QKe fun t k hk => by
                have := QJs hn hR hov (t - m) hk
                unfold ldR at this ⊢
                rw [Qoq, Qgn]; exact this
              rw [Qoq, show la + m - m + 1 = la - 0 + 1 by omega, hsh, ← Qoq, hob]
              simp [hbL, pkB]
          · rw [hs, Qs]; rfl
        · rw [decide_eq_false hm]; rfl
    · simp [h0]
end Go.Gw
