/- LocateSteps answers true. Condition: none. -/
import Derived.Test.YtgpapebgdnimfaaDoorGwLoc10
import Derived.Test.YtgpapebgdnimfaaDoorGwLawLocateSteps
set_option maxRecDepth 4096
namespace Go.Gw
open Go
/-- A sum over the numbers below n. -/
def sm (g : Nat → Int) (n : Nat) : Int := rng (fun k a => a + g k) 0 n
theorem sm_succ (g : Nat → Int) (n : Nat) : sm g (n + 1) = sm g n + g n := rfl
theorem sm_congr {g h : Nat → Int} {n : Nat} (e : ∀ k, k < n → g k = h k) : sm g n = sm h n := by
  induction n with
  | zero => rfl
  | succ n ih => rw [sm_succ, sm_succ, ih (fun k hk => e k (by omega)), e n (by omega)]
theorem sm_add (g : Nat → Int) (n : Nat) : ∀ m, sm g (n + m) = sm g n + sm (fun k => g (n + k)) m
  | 0 => by simp [sm, rng]
  | m + 1 => by rw [← Nat.add_assoc, sm_succ, sm_succ, sm_add g n m]; omega
theorem sm_front (g : Nat → Int) (n : Nat) : sm g (n + 1) = g 0 + sm (fun k => g (k + 1)) n := by
  rw [Nat.add_comm, sm_add]
  have : sm g 1 = g 0 := by simp [sm, rng]
  rw [this, sm_congr (g := fun k => g (1 + k)) (h := fun k => g (k + 1)) (fun k _ => by rw [Nat.add_comm])]
theorem sm_rev : ∀ (n : Nat) (g : Nat → Int), sm (fun k => g (n - 1 - k)) n = sm g n
  | 0, _ => rfl
  | n + 1, g => by
    rw [sm_front, sm_succ]
    have := sm_rev n g
    have e : sm (fun k => g (n + 1 - 1 - (k + 1))) n = sm (fun k => g (n - 1 - k)) n := sm_congr fun k hk => by rw [show n + 1 - 1 - (k + 1) = n - 1 - k by omega]
    rw [e, this]
    simp only [Nat.add_sub_cancel, Nat.sub_zero]
    omega
theorem sm_neg (g : Nat → Int) (n : Nat) : sm (fun k => -(g k)) n = -(sm g n) := by
  induction n with
  | zero => rfl
  | succ n ih => rw [sm_succ, sm_succ, ih]; omega
def ds (p c : Int) : Int := (stp p c (0, 0)).1
def dk (p c : Int) : Int := (stp p c (0, 0)).2
theorem stp_add (p c : Int) (a : Int × Int) : stp p c a = (a.1 + ds p c, a.2 + dk p c) := by
  unfold ds dk stp
  simp only
  generalize (tn c - tn p + 4) % 4 = d
  by_cases h1 : d = 1
  · simp [h1]
  · by_cases h2 : d = 2
    · simp [h2]
    · by_cases h3 : d = 3
      · simp [h3]; omega
      · simp [h1, h2, h3]
theorem ds_swap {p c : Int} (hp : 0 ≤ p ∧ p ≤ 3) (hc : 0 ≤ c ∧ c ≤ 3) : ds c p = -(ds p c) ∧ dk c p = dk p c := by
  have h1 : p = 0 ∨ p = 1 ∨ p = 2 ∨ p = 3 := by omega
  have h2 : c = 0 ∨ c = 1 ∨ c = 2 ∨ c = 3 := by omega
  rcases h1 with rfl | rfl | rfl | rfl <;> rcases h2 with rfl | rfl | rfl | rfl <;> decide
theorem countF_sm (l : List Int) : countF l = (sm (fun k => ds (l.getD k 0) (l.getD (k + 1) 0)) (l.length - 1), sm (fun k => dk (l.getD k 0) (l.getD (k + 1) 0)) (l.length - 1)) := by
  unfold countF
  generalize l.length - 1 = n
  induction n with
  | zero => rfl
  | succ n ih => simp only [rng]; rw [ih, stp_add]; rfl
theorem getD_take {l : List Int} {n k : Nat} (h : k < n) : (l.take n).getD k 0 = l.getD k 0 := by
  simp [List.getD, List.getElem?_take_of_lt h]
theorem getD_drop {l : List Int} {n k : Nat} : (l.drop n).getD k 0 = l.getD (n + k) 0 := by
  simp [List.getD, List.getElem?_drop]
theorem getD_rev {l : List Int} {k : Nat} (h : k < l.length) : l.reverse.getD k 0 = l.getD (l.length - 1 - k) 0 := by
  simp [List.getD, List.getElem?_reverse h]
theorem count_cut (l : List Int) (c : Nat) (h : c < l.length) : (countF (l.take (c + 1))).1 + (countF (l.drop c)).1 = (countF l).1 ∧ (countF (l.take (c + 1))).2 + (countF (l.drop c)).2 = (countF l).2 := by
  rw [countF_sm, countF_sm, countF_sm]
  have e1 : (l.take (c + 1)).length - 1 = c := by rw [List.length_take]; omega
  have e2 : (l.drop c).length - 1 = l.length - 1 - c := by rw [List.length_drop]; omega
  have e3 : l.length - 1 = c + (l.length - 1 - c) := by omega
  simp only
  rw [e1, e2]
  constructor
  · conv => rhs; rw [e3, sm_add]
    congr 1
    · exact sm_congr fun k hk => by rw [getD_take (by omega), getD_take (by omega)]
    · exact sm_congr fun k hk => by rw [getD_drop, getD_drop, Nat.add_assoc]
  · conv => rhs; rw [e3, sm_add]
    congr 1
    · exact sm_congr fun k hk => by rw [getD_take (by omega), getD_take (by omega)]
    · exact sm_congr fun k hk => by rw [getD_drop, getD_drop, Nat.add_assoc]
theorem count_rev (l : List Int) (h4 : St4 l) : (countF l.reverse).1 = -(countF l).1 ∧ (countF l.reverse).2 = (countF l).2 := by
  rw [countF_sm, countF_sm]
  simp only [List.length_reverse]
  have key : ∀ k, k < l.length - 1 → l.reverse.getD k 0 = l.getD (l.length - 1 - 1 - k + 1) 0 ∧ l.reverse.getD (k + 1) 0 = l.getD (l.length - 1 - 1 - k) 0 := by
    intro k hk
    rw [getD_rev (by omega), getD_rev (by omega)]
    exact ⟨by rw [show l.length - 1 - k = l.length - 1 - 1 - k + 1 by omega], by rw [show l.length - 1 - (k + 1) = l.length - 1 - 1 - k by omega]⟩
  have hst : ∀ k, k < l.length → 0 ≤ l.getD k 0 ∧ l.getD k 0 ≤ 3 := fun k hk => h4 _ (mem_getD hk)
  constructor
  · rw [← sm_neg, ← sm_rev (l.length - 1) (fun k => -(ds (l.getD k 0) (l.getD (k + 1) 0)))]
    refine sm_congr fun k hk => ?_
    obtain ⟨k1, k2⟩ := key k hk
    rw [k1, k2]
    exact (ds_swap (hst _ (by omega)) (hst _ (by omega))).1
  · rw [← sm_rev (l.length - 1) (fun k => dk (l.getD k 0) (l.getD (k + 1) 0))]
    refine sm_congr fun k hk => ?_
    obtain ⟨k1, k2⟩ := key k hk
    rw [k1, k2]
    exact (ds_swap (hst _ (by omega)) (hst _ (by omega))).2
theorem backLoop_ok (l : List Int) (hl : l.length < 1073741824) : loop (law04_LocateSteps_s0 l) (([] : List Int), (l.length : Int) - 1) = some l.reverse := by
  have h := loop_for (step := law04_LocateSteps_s0 l) (o := l.reverse) (fun k => (l.reverse.take k, (l.length : Int) - 1 - k)) l.length (fun k hk => ?_) ?_
  · simpa using h
  · unfold law04_LocateSteps_s0
    simp only
    rw [show (l.length : Int) - 1 - k = ((l.length - 1 - k : Nat) : Int) by omega, idx_nat (by omega), decide_eq_true (by omega), cond_true, Option.bind_some, app_ok (by simp; omega), Option.bind_some, w64_id (by omega)]
    have e : l.reverse.take k ++ [l[l.length - 1 - k]] = l.reverse.take (k + 1) := by
      rw [List.take_succ_eq_append_getElem (by simpa using hk), List.getElem_reverse]
    rw [e]
    congr 3
    omega
  · unfold law04_LocateSteps_s0
    simp only
    rw [decide_eq_false (by omega), cond_false, List.take_of_length_le (by simp)]
theorem St4.sub {l m : List Int} (h : St4 l) (hs : ∀ x ∈ m, x ∈ l) : St4 m := fun v hv => h v (hs v hv)
theorem statesE_of {l : List Int} (h : l.length ≤ 200) (h4 : St4 l) : statesE l = 0 := by
  unfold statesE
  rw [if_neg (by omega), if_neg]
  simp only [List.any_eq_true, not_exists, not_and]
  intro v hv
  have := h4 v hv
  simp [this]
theorem count_bound {l : List Int} (h : l.length ≤ 200) : -200 ≤ (countF l).1 ∧ (countF l).1 ≤ 200 ∧ 0 ≤ (countF l).2 ∧ (countF l).2 ≤ 200 := by
  have key : ∀ n : Nat, -(n : Int) ≤ (rng (fun k a => stp (l.getD k 0) (l.getD (k + 1) 0) a) (0, 0) n).1 ∧ (rng (fun k a => stp (l.getD k 0) (l.getD (k + 1) 0) a) (0, 0) n).1 ≤ n ∧ 0 ≤ (rng (fun k a => stp (l.getD k 0) (l.getD (k + 1) 0) a) (0, 0) n).2 ∧ (rng (fun k a => stp (l.getD k 0) (l.getD (k + 1) 0) a) (0, 0) n).2 ≤ n := by
    intro n
    induction n with
    | zero => simp [rng]
    | succ n ih => exact stp_bound _ _ _ n ih
  have := key (l.length - 1)
  unfold countF
  omega
theorem LocateSteps_true (l : List Int) (at_ : Int) : law04_LocateSteps_spec l at_ = some true := by
  unfold law04_LocateSteps_spec
  rw [awake_ok]
  simp only [Option.bind_some, Bool.not_true, cond_false]
  by_cases hc : 202 < (l.length : Int)
  · simp [hc]
  · simp only [hc, decide_false, cond_false]
    have hl : l.length < 1073741824 := by omega
    rw [CopyInts_ok l hl]
    simp only [Option.bind_some]
    rw [Counted_ok l hl, StatesErr_ok l hl]
    simp only [Option.bind_some]
    by_cases h0 : statesE l = 0
    · obtain ⟨hlen, h4⟩ := statesE_0 h0
      simp only [h0, if_true, decide_true, Bool.not_true, cond_false, Bool.not_false, cond_true]
      rw [rCounted_ok l hl h4]
      simp only [Option.bind_some, decide_true, Bool.not_true, Bool.or_self, cond_false]
      by_cases hz : l.length = 0
      · simp [hz]
      · have hz' : decide ((l.length : Int) = 0) = false := by rw [decide_eq_false_iff_not]; omega
        rw [hz', cond_false, Mod_ok (by omega) (by omega)]
        have hm0 := Int.emod_nonneg at_ (show (l.length : Int) ≠ 0 by omega)
        have hm1 := Int.emod_lt_of_pos at_ (show 0 < (l.length : Int) by omega)
        obtain ⟨c, hcc⟩ : ∃ c : Nat, at_ % (l.length : Int) = c := ⟨(at_ % (l.length : Int)).toNat, by omega⟩
        rw [hcc]
        have hcl : c < l.length := by omega
        simp only [Option.bind_some]
        have e1 : cut l 0 (w64 ((c : Int) + 1)) = some (l.take (c + 1)) := by
          unfold cut
          rw [w64_id (by omega), if_pos (by omega), show ((c : Int) + 1).toNat = c + 1 by omega]; rfl
        have e2 : cut l (c : Int) (l.length : Int) = some (l.drop c) := by
          unfold cut
          rw [if_pos (by omega), Int.toNat_natCast, Int.toNat_natCast, List.take_length]
        have t1 : (l.take (c + 1)).length ≤ 200 := by rw [List.length_take]; omega
        have t2 : (l.drop c).length ≤ 200 := by rw [List.length_drop]; omega
        have t3 : l.reverse.length ≤ 200 := by simpa using hlen
        rw [e1, e2, w64_id (x := (l.length : Int) - 1) (by omega), backLoop_ok l hl]
        simp only [Option.bind_some]
        rw [CopyInts_ok _ (by omega), CopyInts_ok _ (by omega)]
        simp only [Option.bind_some]
        rw [Counted_ok _ (by omega), Counted_ok _ (by omega), Counted_ok _ (by omega)]
        have s1 := statesE_of t1 (h4.sub fun x hx => List.mem_of_mem_take hx)
        have s2 := statesE_of t2 (h4.sub fun x hx => List.mem_of_mem_drop hx)
        have s3 := statesE_of t3 (h4.sub fun x hx => List.mem_reverse.1 hx)
        have b1 := count_bound t1
        have b2 := count_bound t2
        have b0 := count_bound hlen
        obtain ⟨c1, c2⟩ := count_cut l c hcl
        obtain ⟨r1, r2⟩ := count_rev l h4
        simp only [s1, s2, s3, if_true, Option.bind_some]
        rw [w64_id (x := (countF (l.take (c + 1))).1 + (countF (l.drop c)).1) (by omega), w64_id (x := (countF (l.take (c + 1))).2 + (countF (l.drop c)).2) (by omega), w64_id (x := 0 - (countF l).1) (by omega), c1, c2, r1, r2]
        simp
    · simp [h0]
end Go.Gw
