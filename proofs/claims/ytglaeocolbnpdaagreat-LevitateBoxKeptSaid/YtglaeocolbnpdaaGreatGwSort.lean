/- What slices.SortFunc does to a slice of the call's own. No condition. -/
import Derived.Test.YtglaeocolbnpdaaGreatGwLib9
import Derived.Shelf.GgSortFunc.InsertionK
import Derived.Sort.Statements
namespace Go.Gw
open Go Go.Sort Go.Proofs
section
variable {α β : Type} [Rep β]

theorem flat_len (enc : α → List Value) (k : Nat) (hk : ∀ x, (enc x).length = k) : ∀ l : List α, (l.flatMap enc).length = l.length * k
  | [] => by simp
  | a :: l => by rw [List.flatMap_cons, List.length_append, hk, flat_len enc k hk l, List.length_cons, Nat.succ_mul, Nat.add_comm]
theorem flatK_flat [Inhabited α] (enc : α → List Value) (k : Nat) (hk : ∀ x, (enc x).length = k) (d : Array α) : (flatK enc k d).toList = d.toList.flatMap enc := by
  have hlen : (d.toList.flatMap enc).length = d.size * k := by
    rw [flat_len enc k hk]; simp
  apply List.ext_getElem
  · simp [hlen]
  · intro t h1 h2
    simp only [Array.length_toList, size_flatK] at h1
    have hk0 : 0 < k := by rcases Nat.eq_zero_or_pos k with h | h; subst h; omega; exact h
    have hq : t / k < d.size := Nat.div_lt_of_lt_mul (by rwa [Nat.mul_comm] at h1)
    have e1 : (flatK enc k d).toList[t] = (enc d[t / k]!)[t % k]! := by
      rw [← get_flatK enc k d t h1, getElem!_pos _ t (by simpa using h1)]; simp
    rw [e1]
    have key : ∀ (l : List α) (t : Nat) (ht : t < (l.flatMap enc).length), (l.flatMap enc)[t] = (enc (l[t / k]!))[t % k]! := by
      intro l
      induction l with
      | nil => intro t ht; simp at ht
      | cons a l ih =>
        intro t ht
        simp only [List.flatMap_cons] at ht ⊢
        by_cases hlt : t < k
        · rw [List.getElem_append_left (by rw [hk]; exact hlt)]
          simp [Nat.div_eq_of_lt hlt, Nat.mod_eq_of_lt hlt, hk, hlt]
        · have hge : k ≤ t := Nat.le_of_not_lt hlt
          rw [List.getElem_append_right (by rw [hk]; exact hge)]
          have ht' : t - k < (l.flatMap enc).length := by rw [List.length_append, hk] at ht; omega
          have hd : t / k = (t - k) / k + 1 := by
            rw [← Nat.sub_add_cancel hge, Nat.add_div_right _ hk0]; simp
          have hm : t % k = (t - k) % k := by
            conv => lhs; rw [← Nat.sub_add_cancel hge, Nat.add_mod_right]
          have := ih (t - k) ht'
          simp only [hk]
          rw [this, hd, hm]
          simp
    rw [key d.toList t h2]
    simp [hq]

theorem Elems.flat_inv {enc : α → List Value} {k : Nat} {to : α → β} {L : List Value} {w : World} (hn : Rep.n β = k) (hrd : ∀ cs a, Rep.rd L w cs (to a) → cs = enc a) : ∀ (l : List α) (cells : List Value), Elems L w cells (l.map to) → cells = l.flatMap enc
  | [], cells, h => by
    have := h.1; simp at this; exact this
  | a :: l, cells, h => by
    have h0 := h.2 0 (to a) (by simp)
    rw [Nat.zero_mul, List.drop_zero] at h0
    have e1 := hrd _ _ h0
    have h1 : Elems L w (cells.drop (Rep.n β)) (l.map to) := by
      refine ⟨by rw [List.length_drop, h.1, List.map_cons, List.length_cons, Nat.succ_mul]; omega, fun i x hx => ?_⟩
      have := h.2 (i + 1) x (by simpa using hx)
      rw [List.drop_drop]
      rw [show Rep.n β + i * Rep.n β = (i + 1) * Rep.n β by rw [Nat.succ_mul, Nat.add_comm]]
      exact this
    have e2 := Elems.flat_inv hn hrd l _ h1
    rw [List.flatMap_cons, ← e1, ← e2, List.take_append_drop]

theorem Own.holds [Inhabited α] {enc : α → List Value} {k : Nat} {to : α → β} {e : TypeId} {L : List Value} {w : World} {v : Value} {d : Array α} (hk : ∀ x, (enc x).length = k) (hn : Rep.n β = k) (hrd : ∀ cs a, Rep.rd L w cs (to a) → cs = enc a) (h : Own e L w v (d.toList.map to)) (h0 : d.size ≠ 0) :
    ∃ g cap cur, v = .slice (some ⟨g, 0, none⟩) d.size cap ∧ w.heap[g]? = some (.cells cur e (0, 0)) ∧ d.size ≤ cap ∧ cap ≤ maxLen ∧ cur.size = cap * k ∧ cur.toList.take (d.size * k) = (flatK enc k d).toList ∧ HoldsK enc k w g 0 d := by
  obtain ⟨cells, ⟨hl, ho⟩, hE⟩ := h
  have hf := Elems.flat_inv hn hrd _ _ hE
  have hsz : (d.toList.map to).length = d.size := by simp
  rw [hsz] at ho
  rcases ho with ⟨_, hz⟩ | ⟨g, cap, cur, hv, _, hg, h4, h5, h6, h7⟩
  · exact absurd hz h0
  · rw [hn] at h6 h7
    rw [hf, ← flatK_flat enc k hk] at h7
    refine ⟨g, cap, cur, hv, hg, h4, h5, h6, h7, fun j hj => ⟨?_, ?_⟩⟩
    · have h8 : cur[0 + j]? = some (flatK enc k d)[j]! := by
        have h9 : (cur.toList.take (d.size * k))[j]? = some (flatK enc k d)[j]! := by
          rw [h7, getElem!_pos _ j hj]; simp
        rw [size_flatK] at hj
        rw [List.getElem?_take_of_lt hj] at h9
        simpa using h9
      simp only [World.cell?, hg, h8]; rfl
    · simp [World.frozen?, hg]

end
end Go.Gw
