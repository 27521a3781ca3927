/- The law FeedAddsUp in plain words. No condition. -/
import Derived.Test.YtbplgfhjpeeieaaGwFed31
import Derived.Test.YtbplgfhjpeeieaaGwLawFeedAddsUp
set_option linter.unusedVariables false
set_option linter.unusedSimpArgs false
set_option linter.unusedSectionVars false
set_option maxRecDepth 4096
namespace Go.Gw
open Go
theorem Qpc (b : FeedBook) : Qdu b = some (decide (Z5 b)) := by
  unfold Qdu
  simp only [Qas, Qgm]
  unfold Z5 XZ
  by_cases h1 : 0 ≤ b.Fed ∧ b.Fed ≤ 1000000000000000 <;> by_cases h2 : 0 ≤ b.Used ∧ b.Used ≤ 1000000000000000 <;> by_cases h3 : 0 ≤ b.Braked ∧ b.Braked ≤ 1000000000000000 <;> by_cases h4 : 0 ≤ b.Lost ∧ b.Lost ≤ 1000000000000000 <;> by_cases h5 : 0 ≤ b.Back ∧ b.Back ≤ 1000000000000000 <;> by_cases h6 : 0 ≤ b.Burned ∧ b.Burned ≤ 1000000000000000 <;> simp [h1, h2, h3, h4, h5, h6]
theorem Qkx {n : FeedNet} (h : NetS n) {l : List FeedDeparture} (hb : Jj n l = 0) {lo hi : Int} (h0 : 0 ≤ lo) (h1 : lo ≤ hi) (h2 : hi ≤ 1012) : J9 n l (Range.mk lo hi) = some (Y0 n (l.map (X9 n)) lo (hi - lo + 1).toNat, 0) := by
  have ht : J3 (Range.mk lo hi) = 0 := by unfold J3 ZD; simp only []; rw [if_neg (by rw [if_pos (by omega)]; simp), if_neg (by rw [if_pos (by omega)]; simp), if_pos h1]
  rw [QBu h, if_neg (by simp [hb]), if_neg (by simp [ht])]
theorem QBw {n : FeedNet} (h : NetS n) {l : List FeedDeparture} {t : Int} (hb : Jj n l = 0) (ht : 0 ≤ t ∧ t ≤ 1012) : Qdg n l t = some (Qfq n (Q7 (l.map (X9 n)) t), 0) := by
  unfold Qdg
  have hE : ZD t = 0 := by unfold ZD; rw [if_pos ht]
  rw [Qxq h, QJ]
  rw [show feed_net.mk (FeedNet.mk n.Stations n.Sections n.Trains) = feed_net.mk n from rfl, Qmj, QJ, JY _ (by simp), QJ, Qvq]
  obtain ⟨hn, hl, hd⟩ := Qlu hb
  simp only [hb, hE, ne_eq, not_true_eq_false, if_false, if_true, decide_true, Bool.not_true, cond_false]
  rw [QEk hn (by rw [List.length_map]; omega) (fun r hr => by obtain ⟨d, hd2, rfl⟩ := List.mem_map.1 hr; exact (hd d hd2).1) ht.1 (by omega), QJ]
theorem QGc {n : FeedNet} (hn : NetOk n) {f : Nat → Int} (hf : ∀ k, 0 ≤ f k ∧ f k ≤ 2400000000000) {x : Int} (hx : 0 ≤ x ∧ x ≤ 1000000000000000000) :
    loop (Qfn ((List.range n.Stations.length).map f, 0)) (x, 0) = some (.inr (x + QI f n.Stations.length)) := by
  have h6 := hn.st6
  have key := JK (step := Qfn ((List.range n.Stations.length).map f, 0)) (o := .inr (x + QI f n.Stations.length)) (fun k => (x + QI f k, (k : Int))) n.Stations.length (fun k hk => by
    have hb := Qgi hf k
    have hk2 := hf k
    have hi : idx ((List.range n.Stations.length).map f) (k : Int) = some (f k) := by rw [X5?, List.getElem?_map, List.getElem?_range hk]; rfl
    unfold Qfn
    simp only [List.length_map, List.length_range, Yg hk, cond_true, hi, QJ, Qas]
    rw [decide_eq_true hk2.1, decide_eq_true (show f k ≤ 1000000000000000 by omega), XJ (x := x + QI f k + f k) (by omega), Yk k (by omega)]
    simp only [Bool.and_self, Bool.not_true, cond_false, QI, Int.add_assoc]) (by
    unfold Qfn
    simp only [List.length_map, List.length_range, Yh, cond_false])
  simpa [QI] using key
theorem QJs {n : FeedNet} (hn : NetOk n) {rs : List feed_run} (hl : rs.length ≤ 8) (h : ∀ r ∈ rs, YV n.Sections.length r) (t : Int) (k : Nat) : -2400000000000 ≤ Y1 n.Sections (Q7 rs t) k n.Sections.length ∧ Y1 n.Sections (Q7 rs t) k n.Sections.length ≤ 2400000000000 := by
  have h10 := hn.se10
  have := Qoe (secs := n.Sections) (fun s hs => Qck (hn.sec s hs)) (fun j => Qix hn h hl t j) k n.Sections.length
  omega
theorem QBv (n : FeedNet) (l : List FeedDeparture) (c : Arr3_Int) : Qnz n l c = some true := by
  unfold Qnz
  rw [QCl, QJ]
  simp only [Bool.not_true, cond_false]
  rw [QIw, QJ]
  cases hf : Qfl n with
  | false => rfl
  | true =>
    simp only [Bool.not_true, Bool.not_false, cond_true]
    rw [QOf, QJ]
    cases hs : Qgb l with
    | false => rfl
    | true =>
      have h := QIv hf
      have hl := QOe hs
      simp only [Bool.not_true, Bool.or_false, Bool.false_or, Bool.not_false, cond_true]
      rw [QMt h, QJ]
      by_cases hb : Jj n l = 0
      · rw [hb]
        simp only [decide_true, Bool.not_true, Bool.not_false, cond_true, Bool.false_or]
        rw [Qyb, QJ]
        by_cases h0 : ZD c.e0 = 0
        · rw [h0]
          simp only [decide_true, Bool.not_true, Bool.not_false, cond_true, Bool.false_or]
          rw [Qyb, QJ]
          by_cases h2 : ZD c.e2 = 0
          · rw [h2]
            have t0 := Qkn h0
            have t2 := Qkn h2
            simp only [decide_true, Bool.not_true, Bool.not_false, cond_true, Bool.false_or]
            rw [XJ (x := c.e2 - 1) (by omega), Qas, QJ, Qgm]
            by_cases h1 : c.e0 ≤ c.e1 ∧ c.e1 ≤ c.e2 - 1
            · rw [decide_eq_true h1]
              obtain ⟨hn, hl6, hd⟩ := Qlu hb
              have hR : ∀ r ∈ l.map (X9 n), YV n.Sections.length r := fun r hr => by obtain ⟨d, hd2, rfl⟩ := List.mem_map.1 hr; exact (hd d hd2).1
              have hl6' : (l.map (X9 n)).length ≤ 6 := by rw [List.length_map]; exact hl6
              simp only [Bool.not_true, cond_false]
              rw [Qru h]
              simp only [QJ]
              rw [Qrt l (by omega)]
              simp only [QJ]
              rw [XJ (x := c.e1 + 1) (by omega), Qkx h hb t0.1 (by omega) t2.2, Qkx h hb t0.1 h1.1 (by omega), Qkx h hb (by omega) (by omega) t2.2]
              simp only [QJ]
              have eA : (c.e2 - c.e0 + 1).toNat = (c.e1 - c.e0 + 1).toNat + (c.e2 - (c.e1 + 1) + 1).toNat := by omega
              have eB : c.e0 + (((c.e1 - c.e0 + 1).toNat : Nat) : Int) = c.e1 + 1 := by omega
              have hsp := QCz n (l.map (X9 n)) c.e0 (c.e1 - c.e0 + 1).toNat (c.e2 - (c.e1 + 1) + 1).toNat
              rw [eB, ← eA] at hsp
              have iA := Qlt hn hR hl6' c.e0 (k := (c.e2 - c.e0 + 1).toNat) (by omega)
              have i1 := Qlt hn hR hl6' c.e0 (k := (c.e1 - c.e0 + 1).toNat) (by omega)
              have i2 := Qlt hn hR hl6' (c.e1 + 1) (k := (c.e2 - (c.e1 + 1) + 1).toNat) (by omega)
              have hadd := Qri hn hR hl6' c.e0 (c.e2 - c.e0 + 1).toNat
              have hk : (c.e2 - c.e0 + 1).toNat ≤ 1013 := by omega
              have hfed : (Y0 n (l.map (X9 n)) c.e0 (c.e2 - c.e0 + 1).toNat).Fed = QI (tk n (l.map (X9 n)) c.e0 0) (c.e2 - c.e0 + 1).toNat := rfl
              have hbrk : (Y0 n (l.map (X9 n)) c.e0 (c.e2 - c.e0 + 1).toNat).Braked = QI (tk n (l.map (X9 n)) c.e0 2) (c.e2 - c.e0 + 1).toNat := rfl
              generalize hA : Y0 n (l.map (X9 n)) c.e0 (c.e2 - c.e0 + 1).toNat = A at *
              generalize Y0 n (l.map (X9 n)) c.e0 (c.e1 - c.e0 + 1).toNat = B1 at *
              generalize Y0 n (l.map (X9 n)) (c.e1 + 1) (c.e2 - (c.e1 + 1) + 1).toNat = B2 at *
              rw [Qpc, Qpc, Qpc]
              simp only [decide_true, Bool.not_true, Bool.false_or, Bool.not_false, cond_true, cond_false, QJ, decide_eq_true (show Z5 (FeedBook.mk A.Fed A.Used A.Braked A.Lost A.Back A.Burned) from iA), decide_eq_true (show Z5 (FeedBook.mk B1.Fed B1.Used B1.Braked B1.Lost B1.Back B1.Burned) from i1), decide_eq_true (show Z5 (FeedBook.mk B2.Fed B2.Used B2.Braked B2.Lost B2.Back B2.Burned) from i2)]
              rw [QEg, QJ]
              have hab : Qgw (FeedBook.mk B1.Fed B1.Used B1.Braked B1.Lost B1.Back B1.Burned) (FeedBook.mk B2.Fed B2.Used B2.Braked B2.Lost B2.Back B2.Burned) = (A, 0) := by
                unfold Qgw
                rw [if_pos ⟨i1, i2⟩, if_pos (by rw [hsp] at iA; exact iA), hsp]
              rw [hab]
              obtain ⟨a1, a2, a3, a4, a5, a6⟩ := iA
              unfold XZ at a1 a2 a3 a4 a5 a6
              rw [XJ (x := A.Fed + A.Braked) (by omega), XJ (x := A.Used + A.Lost) (by omega), XJ (x := A.Used + A.Lost + A.Back) (by omega), XJ (x := A.Used + A.Lost + A.Back + A.Burned) (by omega), decide_eq_true hadd, XJ (x := c.e2 - c.e0) (by omega)]
              simp only [decide_true, Bool.not_true, Bool.or_false, cond_false]
              by_cases hbr : 0 < A.Braked
              · rw [decide_eq_true hbr]; rfl
              · by_cases h30 : 30 < c.e2 - c.e0
                · rw [decide_eq_false hbr, decide_eq_true h30]; rfl
                · rw [decide_eq_false hbr, decide_eq_false h30]
                  simp only [Bool.or_false, cond_false]
                  have hnb := fun i => (Qko hn hR hl6' c.e0 i).2 2 (by omega)
                  have hn0 := fun i => (Qko hn hR hl6' c.e0 i).2 0 (by omega)
                  have hz : ∀ i, i < (c.e2 - c.e0 + 1).toNat → tk n (l.map (X9 n)) c.e0 2 i = 0 := by
                    have h00 : QI (tk n (l.map (X9 n)) c.e0 2) (c.e2 - c.e0 + 1).toNat = 0 := by rw [← hbrk]; omega
                    generalize (c.e2 - c.e0 + 1).toNat = m at h00
                    clear hbrk hfed hsp hadd hA eA hk
                    induction m with
                    | zero => intro i hi; omega
                    | succ m ih =>
                      intro i hi
                      have c1 := Qgi hnb m
                      have c2 := hnb m
                      simp only [QI] at h00
                      by_cases him : i = m
                      · subst him; omega
                      · exact ih (by omega) i (by omega)
                  have key := JK (step := Qfo n c l) (o := .inr (A.Fed)) (fun i => (QI (tk n (l.map (X9 n)) c.e0 0) i, c.e0 + (i : Int))) (c.e2 - c.e0 + 1).toNat (fun i hi => by
                    have hb1 := Qgi hn0 i
                    obtain ⟨e1, e2⟩ := QQp hn hR hl6' c.e0 i (hz i hi)
                    have hlb := fun k => QJs hn (by omega) hR (c.e0 + (i : Int)) k
                    unfold Qfo
                    simp only []
                    rw [decide_eq_true (show c.e0 + (i : Int) ≤ c.e2 by omega), cond_true, Qru h, QJ, Qrt l (by omega), QJ, QBw h hb (by omega), QJ]
                    unfold Qfq
                    simp only [List.length_map, List.length_range, decide_true, Bool.not_true, Bool.or_false, cond_false]
                    rw [QGc hn (fun k => ⟨e2 k, (hlb k).2⟩) (by omega), QJ]
                    simp only [jn0]
                    rw [← e1, XJ (x := c.e0 + (i : Int) + 1) (by omega), show c.e0 + (i : Int) + 1 = c.e0 + ((i + 1 : Nat) : Int) by omega]
                    rfl) (by
                    unfold Qfo
                    simp only []
                    rw [decide_eq_false (by omega), cond_false, hfed])
                  have key2 : loop (Qfo n c l) (0, c.e0) = some (.inr A.Fed) := by simpa [QI] using key
                  rw [key2, QJ]
                  simp [jn0]
            · rw [decide_eq_false h1]; rfl
          · simp [h2]
        · simp [h0]
      · simp [hb]
end Go.Gw
