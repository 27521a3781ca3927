/- The law FeedLoads in plain words. No condition. -/
import Derived.Test.YtbplgfhjpeeieaaGwAwake
set_option linter.unusedVariables false
set_option linter.unusedSimpArgs false
set_option linter.unusedSectionVars false
set_option maxRecDepth 4096
namespace Go.Gw
open Go
theorem QEs (a b : Int) : YF [a, b] = if a ≠ 0 then a else b := by
  unfold YF YF YF; by_cases h : a = 0 <;> by_cases h2 : b = 0 <;> simp [h, h2]
theorem QEt (a b c : Int) : YF [a, b, c] = if a ≠ 0 then a else if b ≠ 0 then b else c := by
  unfold YF YF YF YF; by_cases h : a = 0 <;> by_cases h2 : b = 0 <;> by_cases h3 : c = 0 <;> simp [h, h2, h3]
theorem Qis {n : FeedNet} {l : List FeedDeparture} (h : Zc n l = 0) : NetOk n ∧ l.length ≤ 6 ∧ ∀ d ∈ l, ZU n.Sections.length (XM n d) ∧ 0 ≤ Yf n d.Train := by
  unfold Zc at h
  by_cases h0 : (Z1 n).2 = 0
  · have hn := QFv h0
    simp only [h0, ne_eq, not_true_eq_false, if_false] at h
    unfold Qem at h
    by_cases h6 : 6 < l.length
    · rw [if_pos h6] at h; omega
    · rw [if_neg h6] at h
      refine ⟨hn, by omega, fun d hd => ?_⟩
      obtain ⟨k, hk, rfl⟩ := List.getElem_of_mem hd
      have hz := Qru h k hk
      unfold YD at hz
      rw [List.getElem?_eq_getElem hk] at hz
      exact ⟨QJx hn hz, Qiy hz⟩
  · rw [if_pos h0] at h; exact absurd h h0
theorem Qxo {n : FeedNet} (h : NetS n) (l : List FeedDeparture) (s t : Int) : Qes n l s t = some (if Zc n l ≠ 0 then (0, Zc n l) else if Z5 n s ≠ 0 then (0, Z5 n s) else if Zn t ≠ 0 then (0, Zn t) else (XF (l.map (XM n)) t s.toNat, 0)) := by
  unfold Qes
  rw [Qtp h, QI]
  rw [show feed_net.mk (FeedNet.mk n.Stations n.Sections n.Trains) = feed_net.mk n from rfl, QAe h.se, QI, Qom, QI, Jf _ (by simp), QI, QEt]
  by_cases hb : Zc n l = 0
  · by_cases hs : Z5 n s = 0
    · by_cases ht : Zn t = 0
      · obtain ⟨hn, hl, hd⟩ := Qis hb
        have hs2 : 0 ≤ s ∧ s ≤ (n.Sections.length : Int) - 1 := by unfold Z5 at hs; split at hs; assumption; cases hs
        have ht2 : 0 ≤ t ∧ t ≤ 1012 := by unfold Zn at ht; split at ht; assumption; cases ht
        simp only [hb, hs, ht, ne_eq, not_true_eq_false, if_false, if_true, decide_true, Bool.not_true, cond_false]
        rw [Qtx h.se (by rw [List.length_map]; omega) (fun r hr => by obtain ⟨d, hd2, rfl⟩ := List.mem_map.1 hr; exact (hd d hd2).1) ht2.1 (by omega), QI]
        have hi : idx ((List.range n.Sections.length).map (XF (l.map (XM n)) t)) s = some (XF (l.map (XM n)) t s.toNat) := by
          unfold idx; rw [if_pos hs2.1, List.getElem?_map, List.getElem?_range (by omega)]; rfl
        rw [hi]; rfl
      · simp [hb, hs, ht]
    · simp [hb, hs]
  · simp [hb]
theorem Qxn {n : FeedNet} (h : NetS n) (l : List FeedDeparture) (t : Int) : Qan n l t = some (if Zc n l ≠ 0 then ([], Zc n l) else if Zn t ≠ 0 then ([], Zn t) else (JE n (XF (l.map (XM n)) t), 0)) := by
  unfold Qan
  rw [Qtp h, QI]
  rw [show feed_net.mk (FeedNet.mk n.Stations n.Sections n.Trains) = feed_net.mk n from rfl, Qom, QI, Jf _ (by simp), QI, QEs]
  by_cases hb : Zc n l = 0
  · by_cases ht : Zn t = 0
    · obtain ⟨hn, hl, hd⟩ := Qis hb
      have ht2 : 0 ≤ t ∧ t ≤ 1012 := by unfold Zn at ht; split at ht; assumption; cases ht
      simp only [hb, ht, ne_eq, not_true_eq_false, if_false, if_true, decide_true, Bool.not_true, cond_false]
      rw [QAc hn (by rw [List.length_map]; omega) (fun r hr => by obtain ⟨d, hd2, rfl⟩ := List.mem_map.1 hr; exact (hd d hd2).1) ht2.1 (by omega), QI]
    · simp [hb, ht]
  · simp [hb]
theorem Qxm (n : FeedNet) (l : List FeedDeparture) (a : Arr2_Int) : Qkw n l a = some true := by
  unfold Qkw
  rw [Qyd, QI]
  simp only [Bool.not_true, cond_false]
  rw [QEo, QI]
  cases hf : Qcr n with
  | false => rfl
  | true =>
    simp only [Bool.not_true, Bool.not_false, cond_true]
    rw [QKk, QI]
    cases hs : Qdh l with
    | false => rfl
    | true =>
      have h := QEn hf
      have hl := QKj hs
      simp only [Bool.not_true, Bool.or_false, cond_false]
      rw [Qzf h]
      simp only [QI]
      rw [Qze l (by omega)]
      simp only [QI]
      rw [Qxo h, Qxn h, QIq h]
      simp only [QI]
      by_cases hb : Zc n l = 0
      · rw [QIx h.se, QJb]
        simp only [QI]
        obtain ⟨hn, hl6, hd⟩ := Qis hb
        have hr : ∀ r ∈ l.map (XM n), ZU n.Sections.length r := fun r hr => by obtain ⟨d, hd2, rfl⟩ := List.mem_map.1 hr; exact (hd d hd2).1
        by_cases ht : Zn a.e1 = 0
        · have ht2 : 0 ≤ a.e1 ∧ a.e1 ≤ 1012 := by unfold Zn at ht; split at ht; assumption; cases ht
          have hp : ∀ s : Nat, Qad n l (s : Int) a.e1 = some (XF (l.map (XM n)) a.e1 s) := QIw h.tr (by omega) (fun d h => (hd d h).2) (fun d h => (hd d h).1) ht2.1 (by omega)
          have hb2 : ∀ j, -160000 ≤ XF (l.map (XM n)) a.e1 j ∧ XF (l.map (XM n)) a.e1 j ≤ 160000 := fun j => by
            have := Qlp hr a.e1 j
            rw [List.length_map] at this; omega
          have hL := QIv hn (l := l) (t := a.e1) hb2 (fun j _ => hp j)
          have hlen : (JE n (XF (l.map (XM n)) a.e1)).length < 1000000 := by
            unfold JE; rw [List.length_map, List.length_range]; have := h.st; omega
          by_cases hs : Z5 n a.e0 = 0
          · have hs2 : 0 ≤ a.e0 ∧ a.e0 ≤ (n.Sections.length : Int) - 1 := by unfold Z5 at hs; split at hs; assumption; cases hs
            have hp0 := hp a.e0.toNat
            rw [show ((a.e0.toNat : Nat) : Int) = a.e0 by omega] at hp0
            simp [hb, hs, ht, hp0, hL, Qsf _ _ hlen]
          · simp [hb, hs, ht, hL, Qsf _ _ hlen]
        · by_cases hs : Z5 n a.e0 = 0
          · simp [hb, hs, ht]
          · simp [hb, hs, ht]
      · simp [hb]
end Go.Gw
