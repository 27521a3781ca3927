/- Ranges fused: the sweep over the sorted edges, and the search from beginning to beginning: both come to the longest runs. Condition: the ranges are right. -/
import Derived.Test.YtgpapebgdnimfaaGwLoc7
set_option maxRecDepth 4096
namespace Go.Gw
open Go

/-- What the edges up to a place come to. -/
def esum : List locate_edge → Int → Int
  | [], _ => 0
  | e :: l, p => (if e.at_ ≤ p then e.by_ else 0) + esum l p
theorem esum_append : ∀ (a b : List locate_edge) (p : Int), esum (a ++ b) p = esum a p + esum b p
  | [], b, p => by simp [esum]
  | e :: a, b, p => by simp only [List.cons_append, esum, esum_append a b p]; omega
theorem esum_perm {a b : List locate_edge} (h : a.Perm b) (p : Int) : esum a p = esum b p := by
  induction h with
  | nil => rfl
  | cons x _ ih => simp only [esum, ih]
  | swap x y l => simp only [esum]; omega
  | trans _ _ ih1 ih2 => rw [ih1, ih2]
theorem esum_none {l : List locate_edge} {p : Int} (h : ∀ e ∈ l, p < e.at_) : esum l p = 0 := by
  induction l with
  | nil => rfl
  | cons e l ih =>
    simp only [esum]
    rw [ih fun x hx => h x (List.mem_cons_of_mem _ hx), if_neg (by have := h e (List.mem_cons_self ..); omega)]
    rfl
def bsum : List locate_edge → Int
  | [] => 0
  | e :: l => e.by_ + bsum l
theorem bsum_append : ∀ (a b : List locate_edge), bsum (a ++ b) = bsum a + bsum b
  | [], b => by simp [bsum]
  | e :: a, b => by simp only [List.cons_append, bsum, bsum_append a b]; omega
theorem esum_all {l : List locate_edge} {p : Int} (h : ∀ e ∈ l, e.at_ ≤ p) : esum l p = bsum l := by
  induction l with
  | nil => rfl
  | cons e l ih =>
    simp only [esum, bsum]
    rw [ih fun x hx => h x (List.mem_cons_of_mem _ hx), if_pos (h e (List.mem_cons_self ..))]
def edgs : List Range → List locate_edge
  | [] => []
  | r :: l => ⟨r.Lo, 1⟩ :: ⟨r.Hi + 1, -1⟩ :: edgs l
theorem edgs_append : ∀ (a b : List Range), edgs (a ++ b) = edgs a ++ edgs b
  | [], _ => rfl
  | r :: a, b => by simp only [List.cons_append, edgs, edgs_append a b]
theorem edgs_len : ∀ (l : List Range), (edgs l).length = 2 * l.length
  | [] => rfl
  | r :: l => by simp only [edgs, List.length_cons, edgs_len l]; omega
theorem edgs_mem : ∀ {l : List Range} {e : locate_edge}, (∀ r ∈ l, Okg r) → e ∈ edgs l → 0 ≤ e.at_ ∧ e.at_ ≤ 1000000001 ∧ -1 ≤ e.by_ ∧ e.by_ ≤ 1
  | r :: l, e, h, he => by
    obtain ⟨h1, h2, h3⟩ := h r (List.mem_cons_self ..)
    simp only [edgs, List.mem_cons] at he
    rcases he with rfl | rfl | he
    · simp only; omega
    · simp only; omega
    · exact edgs_mem (fun x hx => h x (List.mem_cons_of_mem _ hx)) he
theorem edgs_cov : ∀ {l : List Range}, (∀ r ∈ l, Okg r) → ∀ p, esum (edgs l) p = cov l p
  | [], _, _ => rfl
  | r :: l, h, p => by
    obtain ⟨h1, h2, h3⟩ := h r (List.mem_cons_self ..)
    simp only [edgs, esum, cov, edgs_cov (fun x hx => h x (List.mem_cons_of_mem _ hx)) p]
    split <;> split <;> split <;> omega
theorem bsum_bound : ∀ {l : List locate_edge}, (∀ e ∈ l, -1 ≤ e.by_ ∧ e.by_ ≤ 1) → -(l.length : Int) ≤ bsum l ∧ bsum l ≤ l.length
  | [], _ => by simp [bsum]
  | e :: l, h => by
    have := bsum_bound (l := l) fun x hx => h x (List.mem_cons_of_mem _ hx)
    have := h e (List.mem_cons_self ..)
    simp only [bsum, List.length_cons]; omega

/-! ### The sweep -/
/-- Where edge number k is; behind the last one: far away. -/
def nxt (zs : List locate_edge) (k : Nat) : Int := if h : k < zs.length then zs[k].at_ else 3000000000
/-- What stands at the k-th edge. F: what is fused. -/
structure Swp (F : Int → Prop) (zs : List locate_edge) (k : Nat) (out : List Range) (count : Int) (inside : Bool) : Prop where
  count : count = bsum (zs.take k)
  len : out.length ≤ k
  off : inside = false → IsRuns (fun p => F p ∧ p < nxt zs k) out ∧ ¬ F (nxt zs k - 1)
  on : inside = true → ∃ out0 s, out = out0 ++ [⟨s, 0⟩] ∧ IsRuns (fun p => F p ∧ p < s) out0 ∧ (∀ r ∈ out0, r.Hi + 1 < s) ∧ s < nxt zs k ∧ ∀ p, s ≤ p → p < nxt zs k → F p
theorem IsRuns.snoc {F G : Int → Prop} {out : List Range} {s e : Int} (h : IsRuns F out) (hs : s ≤ e) (hsep : ∀ r ∈ out, r.Hi + 1 < s) (hG : ∀ p, G p ↔ F p ∨ (s ≤ p ∧ p ≤ e)) : IsRuns G (out ++ [⟨s, e⟩]) := by
  refine ⟨?_, ?_, ?_⟩
  · rw [List.pairwise_append]
    refine ⟨h.sep, List.pairwise_singleton _ _, fun a ha b hb => ?_⟩
    obtain rfl : b = ⟨s, e⟩ := by simpa using hb
    exact hsep a ha
  · intro r hr
    rcases List.mem_append.1 hr with hr | hr
    · exact h.le r hr
    · obtain rfl : r = ⟨s, e⟩ := by simpa using hr
      exact hs
  · intro p
    rw [hG p, h.all p]
    constructor
    · rintro (⟨r, hr, h1⟩ | h1)
      · exact ⟨r, List.mem_append_left _ hr, h1⟩
      · exact ⟨⟨s, e⟩, by simp, h1⟩
    · rintro ⟨r, hr, h1⟩
      rcases List.mem_append.1 hr with hr | hr
      · exact .inl ⟨r, hr, h1⟩
      · obtain rfl : r = ⟨s, e⟩ := by simpa using hr
        exact .inr h1
theorem sorted_at {zs : List locate_edge} (hs : zs.Pairwise fun a b => a.at_ ≤ b.at_) {i j : Nat} (hij : i ≤ j) (hj : j < zs.length) : (zs[i]'(by omega)).at_ ≤ zs[j].at_ := by
  rcases Nat.lt_or_ge i j with h | h
  · exact (List.pairwise_iff_getElem.1 hs) i j (by omega) hj h
  · obtain rfl : i = j := by omega
    exact Int.le_refl _
theorem esum_between {zs : List locate_edge} (hs : zs.Pairwise fun a b => a.at_ ≤ b.at_) {k : Nat} (hk : k ≤ zs.length) {p : Int} (h1 : ∀ (i : Nat) (h : i < zs.length), i < k → zs[i].at_ ≤ p) (h2 : p < nxt zs k) : esum zs p = bsum (zs.take k) := by
  conv => lhs; rw [← List.take_append_drop k zs]
  rw [esum_append, esum_all, esum_none, Int.add_zero]
  · intro e he
    obtain ⟨i, hi, rfl⟩ := List.getElem_of_mem he
    rw [List.getElem_drop]
    have hi' : k + i < zs.length := by simpa [Nat.lt_sub_iff_add_lt, Nat.add_comm] using hi
    have h3 := sorted_at hs (i := k) (j := k + i) (by omega) hi'
    unfold nxt at h2
    rw [dif_pos (by omega)] at h2
    omega
  · intro e he
    obtain ⟨i, hi, rfl⟩ := List.getElem_of_mem he
    rw [List.getElem_take]
    have hi' : i < k := by have := hi; rw [List.length_take] at this; omega
    exact h1 i (by omega) hi'
/-- The state behind the sweep's step, in plain words. -/
def swpF (zs : List locate_edge) (need : Int) (k : Nat) (a : List Range × Int × Bool) (x : locate_edge) : List Range × Int × Bool :=
  let c := a.2.1 + x.by_
  if nxt zs (k + 1) = x.at_ then (a.1, c, a.2.2)
  else if need ≤ c ∧ a.2.2 = false then (a.1 ++ [⟨x.at_, 0⟩], c, true)
  else if ¬ need ≤ c ∧ a.2.2 = true then (a.1.set (a.1.length - 1) ⟨(a.1.getD (a.1.length - 1) rg0).Lo, x.at_ - 1⟩, c, false)
  else (a.1, c, a.2.2)
theorem swp_step {zs : List locate_edge} (hs : zs.Pairwise fun a b => a.at_ ≤ b.at_) (hb : ∀ e ∈ zs, 0 ≤ e.at_ ∧ e.at_ ≤ 1000000001 ∧ -1 ≤ e.by_ ∧ e.by_ ≤ 1) {need : Int} {k : Nat} (hk : k < zs.length) {a : List Range × Int × Bool}
    (h : Swp (fun p => need ≤ esum zs p) zs k a.1 a.2.1 a.2.2) : Swp (fun p => need ≤ esum zs p) zs (k + 1) (swpF zs need k a zs[k]).1 (swpF zs need k a zs[k]).2.1 (swpF zs need k a zs[k]).2.2 := by
  obtain ⟨out, count, inside⟩ := a
  have hct : count + zs[k].by_ = bsum (zs.take (k + 1)) := by
    rw [List.take_succ_eq_append_getElem hk, bsum_append, ← h.count]; simp [bsum]
  have hnk : nxt zs k = zs[k].at_ := by unfold nxt; rw [dif_pos hk]
  have hle : zs[k].at_ ≤ nxt zs (k + 1) := by
    unfold nxt
    split
    · rename_i h'; exact sorted_at hs (by omega) h'
    · have := (hb _ (List.getElem_mem hk)).2.1; omega
  have hF : ∀ p, zs[k].at_ ≤ p → p < nxt zs (k + 1) → esum zs p = count + zs[k].by_ := fun p h1 h2 => by
    rw [hct]
    exact esum_between hs (by omega) (fun i hi hik => by have := sorted_at hs (i := i) (j := k) (by omega) hk; omega) h2
  unfold swpF
  simp only
  by_cases hq : nxt zs (k + 1) = zs[k].at_
  · rw [if_pos hq]
    refine ⟨hct, Nat.le_succ_of_le h.len, ?_, ?_⟩
    · rw [hq, ← hnk]; exact h.off
    · rw [hq, ← hnk]; exact h.on
  · rw [if_neg hq]
    have hlt : zs[k].at_ < nxt zs (k + 1) := by omega
    by_cases hop : need ≤ count + zs[k].by_ ∧ inside = false
    · rw [if_pos hop]
      obtain ⟨h1, h2⟩ := h.off hop.2
      rw [hnk] at h1 h2
      refine ⟨hct, by simp; exact h.len, fun hc => (by cases hc), fun _ => ⟨out, zs[k].at_, rfl, h1, fun r hr => ?_, hlt, fun p hp1 hp2 => by rw [hF p hp1 hp2]; exact hop.1⟩⟩
      have h3 := (h1.all r.Hi).2 ⟨r, hr, h1.le r hr, Int.le_refl _⟩
      rcases Int.lt_or_le (r.Hi + 1) zs[k].at_ with h4 | h4
      · exact h4
      · exfalso
        have : r.Hi = zs[k].at_ - 1 := by omega
        exact h2 (this ▸ h3.1)
    · rw [if_neg hop]
      by_cases hcl : ¬ need ≤ count + zs[k].by_ ∧ inside = true
      · rw [if_pos hcl]
        obtain ⟨out0, s, ho, h1, h2, h3, h4⟩ := h.on hcl.2
        simp only at ho
        subst ho
        rw [hnk] at h3 h4
        have e : (out0 ++ [(⟨s, 0⟩ : Range)]).set ((out0 ++ [(⟨s, 0⟩ : Range)]).length - 1) ⟨((out0 ++ [(⟨s, 0⟩ : Range)]).getD ((out0 ++ [(⟨s, 0⟩ : Range)]).length - 1) rg0).Lo, zs[k].at_ - 1⟩ = out0 ++ [⟨s, zs[k].at_ - 1⟩] := by
          simp [List.getD]
        rw [e]
        refine ⟨hct, by have := h.len; simp at this ⊢; omega, fun _ => ⟨?_, ?_⟩, fun hc => by cases hc⟩
        · refine h1.snoc (by omega) h2 fun p => ?_
          constructor
          · rintro ⟨hp1, hp2⟩
            rcases Int.lt_or_le p s with hps | hps
            · exact .inl ⟨hp1, hps⟩
            · rcases Int.lt_or_le p zs[k].at_ with hpa | hpa
              · exact .inr ⟨hps, by omega⟩
              · exact absurd (by rw [← hF p hpa hp2]; exact hp1) hcl.1
          · rintro (⟨hp1, hp2⟩ | ⟨hp1, hp2⟩)
            · exact ⟨hp1, by omega⟩
            · exact ⟨h4 p hp1 (by omega), by omega⟩
        · rw [hF _ (by omega) (by omega)]; exact hcl.1
      · rw [if_neg hcl]
        refine ⟨hct, Nat.le_succ_of_le h.len, fun hin => ?_, fun hin => ?_⟩
        · simp only at hin
          subst hin
          have hno : ¬ need ≤ count + zs[k].by_ := fun hc => hop ⟨hc, rfl⟩
          obtain ⟨h1, _⟩ := h.off rfl
          rw [hnk] at h1
          refine ⟨h1.congr fun p => ⟨fun ⟨hp1, hp2⟩ => ⟨hp1, by omega⟩, fun ⟨hp1, hp2⟩ => ⟨hp1, ?_⟩⟩, ?_⟩
          · rcases Int.lt_or_le p zs[k].at_ with hpa | hpa
            · exact hpa
            · exact absurd (by rw [← hF p hpa hp2]; exact hp1) hno
          · show ¬ need ≤ esum zs (nxt zs (k + 1) - 1)
            rw [hF _ (by omega) (by omega)]; exact hno
        · simp only at hin
          subst hin
          have hyes : need ≤ count + zs[k].by_ := by
            rcases Int.lt_or_le (count + zs[k].by_) need with hh | hh
            · exact absurd ⟨by omega, rfl⟩ hcl
            · exact hh
          obtain ⟨out0, s, ho, h1, h2, h3, h4⟩ := h.on rfl
          rw [hnk] at h3 h4
          refine ⟨out0, s, ho, h1, h2, by omega, fun p hp1 hp2 => ?_⟩
          rcases Int.lt_or_le p zs[k].at_ with hpa | hpa
          · exact h4 p hp1 hpa
          · rw [hF p hpa hp2]; exact hyes
end Go.Gw
