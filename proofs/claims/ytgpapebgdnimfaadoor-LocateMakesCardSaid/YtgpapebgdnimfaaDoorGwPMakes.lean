/- LocateMakes answers true. Condition: none. -/
import Derived.Test.YtgpapebgdnimfaaDoorGwLoc14
import Derived.Test.YtgpapebgdnimfaaDoorGwLawLocateMakes
set_option maxRecDepth 4096
namespace Go.Gw
open Go
/-- The track of a search, and a right one that has the same windows. -/
def T0k (l : List Int) (W : Int) : locate_track := ⟨⟨l, W, 0, 0, 0, 0, 0, 0, false⟩⟩
def T1k (l : List Int) (W : Int) : LocateTrack := ⟨l, W, 1, 1, 0, 1, 0, 0, false⟩
def Bits (l : List Int) : Prop := ∀ v ∈ l, v = 0 ∨ v = 1
theorem T1k_rt {l : List Int} {W : Int} (hb : Bits l) (h1 : 1 ≤ W) (h2 : W ≤ 12) (h3 : W ≤ l.length) (h4 : l.length ≤ 40) : Rt (T1k l W) := by
  constructor <;> simp only [T1k] <;> first | omega | exact hb
/-- At how many positions two windows of a list differ. -/
def dL (l : List Int) (W i k : Nat) : Int := cnt (fun j => l.getD (i + j) 0) (fun j => l.getD (k + j) 0) W
theorem dP_dL {l : List Int} {W : Nat} {i k : Nat} (hi : i + W ≤ l.length) (hk : k + W ≤ l.length) : dP (T1k l W) i k = dL l W i k := by
  unfold dP dL
  have e : (T1k l (W : Int)).Window.toNat = W := by simp [T1k]
  rw [e]
  refine cnt_congr fun j hj => ⟨?_, ?_⟩
  · show l.getD ((i + j) % l.length) 0 = _
    rw [Nat.mod_eq_of_lt (by omega)]
  · show l.getD ((k + j) % l.length) 0 = _
    rw [Nat.mod_eq_of_lt (by omega)]
/-- All windows are far from each other. -/
def Apart (l : List Int) (W : Nat) (d : Int) : Prop := ∀ i k, i < k → k + W ≤ l.length → d ≤ dL l W i k
/-- The last window is far from all before. -/
def Closed1 (l : List Int) (W : Nat) (d : Int) : Prop := ∀ i, i < l.length - W → d ≤ dL l W i (l.length - W)
noncomputable instance closedDec (l : List Int) (W : Nat) (d : Int) : Decidable (Closed1 l W d) := Classical.propDecidable _
theorem dL_pre {l m : List Int} {W i k : Nat} (hi : i + W ≤ l.length) (hk : k + W ≤ l.length) : dL (l ++ m) W i k = dL l W i k := by
  unfold dL
  refine cnt_congr fun j hj => ⟨?_, ?_⟩
  · simp only [List.getD]; rw [List.getElem?_append_left (by omega)]
  · simp only [List.getD]; rw [List.getElem?_append_left (by omega)]
theorem Apart.pre {l m : List Int} {W : Nat} {d : Int} (h : Apart (l ++ m) W d) : Apart l W d := fun i k hik hk => by
  have := h i k hik (by simp; omega)
  rwa [dL_pre (by omega) hk] at this
theorem apart_snoc {l : List Int} {W : Nat} {d v : Int} (h : Apart l W d) : Apart (l ++ [v]) W d ↔ Closed1 (l ++ [v]) W d := by
  constructor
  · intro ha i hi
    exact ha i _ hi (by omega)
  · intro hc i k hik hk
    simp only [List.length_append, List.length_singleton] at hk
    rcases Nat.lt_or_ge l.length (k + W) with h1 | h1
    · have e : k = (l ++ [v]).length - W := by simp; omega
      rw [e]
      exact hc i (by omega)
    · rw [dL_pre (by omega) h1]
      exact h i k hik h1
theorem at_same (l : List Int) (W : Int) (i : Int) : locate_track_at_spec (T0k l W) i = locate_track_at_spec ⟨T1k l W⟩ i := rfl
theorem closed_ok {l : List Int} {W : Nat} {d : Int} (hb : Bits l) (h1 : 1 ≤ W) (h2 : W ≤ 12) (h4 : l.length ≤ 40) : ∃ c, locate_FirstTrack_1_spec (T0k l W) d = some c ∧ (c = true ↔ Closed1 l W d) := by
  unfold locate_FirstTrack_1_spec
  have e : locate_track_windows_spec (T0k l W) = some ((l.length : Int) - W + 1) := by
    unfold locate_track_windows_spec T0k
    simp only [cond_false]
    rw [w64_id (x := (l.length : Int) - W) (by omega), w64_id (by omega)]
  rw [e, Option.bind_some]
  have hr : w64 ((l.length : Int) - W + 1 - 1) = (l.length : Int) - W := by rw [w64_id (by omega)]; omega
  have hR : Runs (loop (locate_FirstTrack_1_s0 d (T0k l W) ((l.length : Int) - W + 1)) 0) fun o => (o = .inl false ∧ ¬ Closed1 l W d) ∨ (o = .inr () ∧ Closed1 l W d) := by
    refine Runs.loop (fun s => ∃ k : Nat, s = k ∧ k ≤ l.length - W ∧ ∀ i, i < k → d ≤ dL l W i (l.length - W)) (fun s => l.length - s.toNat) ⟨0, rfl, by omega, fun i hi => by omega⟩ ?_
    rintro s ⟨k, rfl, hk, hg⟩
    unfold locate_FirstTrack_1_s0
    rw [hr]
    by_cases hc : k < l.length - W
    · have hm : (if 0 < (l.length : Int) - W then (l.length : Int) - W else 0) = ((l.length - W : Nat) : Int) := by rw [if_pos (by omega)]; omega
      have hm2 : (l.length : Int) - W = ((l.length - W : Nat) : Int) := by omega
      rw [hm, hm2, lt_nat hc, cond_true, at_same, at_same]
      have hRt := T1k_rt (W := (W : Int)) hb (by omega) (by omega) (by omega) h4
      rw [at_ok hRt k (by omega), at_ok hRt _ (by omega), Option.bind_some, Option.bind_some, wdP_ok hRt, Option.bind_some, dP_dL (by omega) (by omega)]
      by_cases hd : dL l W k (l.length - W) < d
      · refine ⟨.inr (.inl false), by rw [decide_eq_true hd]; rfl, .inl ⟨rfl, fun h => ?_⟩⟩
        have := h k hc
        omega
      · rw [decide_eq_false hd, cond_false, w64n k (by omega)]
        refine ⟨_, rfl, ⟨k + 1, rfl, by omega, fun i hi => ?_⟩, by simp only; omega⟩
        rcases Nat.lt_or_ge i k with h | h
        · exact hg i h
        · obtain rfl : i = k := by omega
          omega
    · have hm : ¬ (k : Int) < (if 0 < (l.length : Int) - W then (l.length : Int) - W else 0) := by split <;> omega
      rw [decide_eq_false hm]
      exact ⟨_, rfl, .inr ⟨rfl, fun i hi => hg i (by omega)⟩⟩
  obtain ⟨o, ho, hq⟩ := hR
  rw [ho]
  rcases hq with ⟨rfl, hn⟩ | ⟨rfl, hn⟩
  · exact ⟨false, rfl, by simp [hn]⟩
  · exact ⟨true, rfl, by simp [hn]⟩

/-! ### The search -/
noncomputable def fnd1 (W : Nat) (d : Int) : Nat → List Int → Option (List Int)
  | 0, l => some l
  | n + 1, l => ((if Closed1 (l ++ [0]) W d then fnd1 W d n (l ++ [0]) else none).or (if Closed1 (l ++ [1]) W d then fnd1 W d n (l ++ [1]) else none))
def res1 (W : Int) (l : List Int) : Option (List Int) → Bool × locate_track
  | some l' => (true, T0k l' W)
  | none => (false, T0k l W)
theorem Bits.snoc {l : List Int} {v : Int} (h : Bits l) (hv : v = 0 ∨ v = 1) : Bits (l ++ [v]) := fun x hx => by
  rcases List.mem_append.1 hx with h' | h'
  · exact h x h'
  · rw [List.mem_singleton.1 h']; exact hv
theorem cut_snoc {l : List Int} {v : Int} (hl : l.length ≤ 40) : cut (l ++ [v]) 0 (w64 (((l ++ [v]).length : Int) - 1)) = some l := by
  have e : w64 (((l ++ [v]).length : Int) - 1) = (l.length : Int) := by rw [w64_id (by simp; omega)]; simp
  rw [e]
  unfold cut
  rw [if_pos (by simp; omega)]
  simp
/-- One of the two rounds. -/
theorem round1 {W : Nat} {d L : Int} {l : List Int} {k : Nat} (hk : k < 2) {rc : locate_track → Int → Int → Option (Bool × locate_track)} {f : Option (List Int)} (hb : Bits l) (h1 : 1 ≤ W) (h2 : W ≤ 12) (h4 : l.length < 40)
    (ih : Closed1 (l ++ [(k : Int)]) W d → rc (T0k (l ++ [(k : Int)]) W) L d = some (res1 W (l ++ [(k : Int)]) f)) :
    locate_FirstTrack_2_s0 L d rc ((k : Int), l, (W : Int), 0, 0, 0, 0, 0, 0, false) = some (match (if Closed1 (l ++ [(k : Int)]) W d then f else none) with | some l' => .inr (.inl (true, T0k l' W)) | none => .inl (((k + 1 : Nat) : Int), l, (W : Int), 0, 0, 0, 0, 0, 0, false)) := by
  have hkb : (k : Int) = 0 ∨ (k : Int) = 1 := by omega
  unfold locate_FirstTrack_2_s0
  simp only
  rw [decide_eq_true (show (k : Int) < 2 by omega), cond_true, app_ok (by simp; omega), Option.bind_some]
  obtain ⟨c, hc, hc2⟩ := closed_ok (W := W) (d := d) (hb.snoc hkb) h1 h2 (by simp; omega)
  have hc : locate_FirstTrack_1_spec ⟨⟨l ++ [(k : Int)], (W : Int), 0, 0, 0, 0, 0, 0, false⟩⟩ d = some c := hc
  rw [hc, Option.bind_some, w64n k (by omega)]
  cases c with
  | true =>
    have hcl := hc2.1 rfl
    have ih := ih hcl
    have ih : rc ⟨⟨l ++ [(k : Int)], (W : Int), 0, 0, 0, 0, 0, 0, false⟩⟩ L d = some (res1 W (l ++ [(k : Int)]) f) := ih
    rw [cond_true, ih, Option.bind_some, if_pos hcl]
    cases f with
    | some l' => rfl
    | none =>
      simp only [res1, Bool.and_false, cond_false, T0k]
      rw [cut_snoc (by omega)]; rfl
  | false =>
    have hcl : ¬ Closed1 (l ++ [(k : Int)]) W d := fun h => by have := hc2.2 h; cases this
    rw [cond_false, Option.bind_some, if_neg hcl]
    simp only [Bool.false_and, cond_false]
    rw [cut_snoc (by omega)]; rfl
theorem grow_ok {W : Nat} {d : Int} (h1 : 1 ≤ W) (h2 : W ≤ 12) : ∀ (fl n : Nat) (l : List Int), n < fl → l.length + n ≤ 40 → Bits l → locate_FirstTrack_2_spec fl (T0k l W) ((l.length + n : Nat) : Int) d = some (res1 W l (fnd1 W d n l))
  | 0, n, l, h, _, _ => by omega
  | fl + 1, n, l, h, hl, hb => by
    show locate_FirstTrack_2_F (locate_FirstTrack_2_spec fl) (T0k l W) ((l.length + n : Nat) : Int) d = _
    unfold locate_FirstTrack_2_F
    cases n with
    | zero =>
      rw [decide_eq_true (show ((T0k l W).LocateTrack.Vanes.length : Int) = ((l.length + 0 : Nat) : Int) from rfl)]
      rfl
    | succ n =>
      rw [decide_eq_false (show ¬ ((T0k l W).LocateTrack.Vanes.length : Int) = ((l.length + (n + 1) : Nat) : Int) by simp only [T0k]; omega), cond_false]
      have r0 := round1 (W := W) (d := d) (L := ((l.length + (n + 1) : Nat) : Int)) (l := l) (k := 0) (by omega) (rc := locate_FirstTrack_2_spec fl) (f := fnd1 W d n (l ++ [0])) hb h1 h2 (by omega) (fun _ => by
        have := grow_ok (W := W) (d := d) h1 h2 fl n (l ++ [0]) (by omega) (by simp; omega) (hb.snoc (.inl rfl))
        rw [show ((l ++ [(0 : Int)]).length + n) = l.length + (n + 1) by simp; omega] at this
        exact this)
      have r1 := round1 (W := W) (d := d) (L := ((l.length + (n + 1) : Nat) : Int)) (l := l) (k := 1) (by omega) (rc := locate_FirstTrack_2_spec fl) (f := fnd1 W d n (l ++ [1])) hb h1 h2 (by omega) (fun _ => by
        have := grow_ok (W := W) (d := d) h1 h2 fl n (l ++ [1]) (by omega) (by simp; omega) (hb.snoc (.inr rfl))
        rw [show ((l ++ [(1 : Int)]).length + n) = l.length + (n + 1) by simp; omega] at this
        exact this)
      have r2 : locate_FirstTrack_2_s0 ((l.length + (n + 1) : Nat) : Int) d (locate_FirstTrack_2_spec fl) (((1 + 1 : Nat) : Int), l, (W : Int), 0, 0, 0, 0, 0, 0, false) = some (.inr (.inr (l, (W : Int), 0, 0, 0, 0, 0, 0, false))) := by
        unfold locate_FirstTrack_2_s0; rfl
      simp only [T0k]
      show (loop (locate_FirstTrack_2_s0 _ d (locate_FirstTrack_2_spec fl)) (((0 : Nat) : Int), l, (W : Int), 0, 0, 0, 0, 0, 0, false)).bind _ = _
      simp only [fnd1]
      generalize ha : (if Closed1 (l ++ [(0 : Int)]) W d then fnd1 W d n (l ++ [0]) else none) = a
      generalize hbb : (if Closed1 (l ++ [(1 : Int)]) W d then fnd1 W d n (l ++ [1]) else none) = b
      have ha' : (if Closed1 (l ++ [((0 : Nat) : Int)]) W d then fnd1 W d n (l ++ [0]) else none) = a := ha
      have hb' : (if Closed1 (l ++ [((1 : Nat) : Int)]) W d then fnd1 W d n (l ++ [1]) else none) = b := hbb
      rw [ha'] at r0
      rw [hb'] at r1
      cases a with
      | some l' => rw [loop_inr r0]; rfl
      | none =>
        rw [loop_inl r0]
        cases b with
        | some l' => rw [loop_inr r1]; rfl
        | none => rw [loop_inl r1, loop_inr r2]; rfl

/-! ### In the order of numbers -/
def bitsF (n k : Nat) : List Int := (List.range n).map fun i => ((k / 2 ^ (n - 1 - i) % 2 : Nat) : Int)
theorem bitsF_lo {n k : Nat} (h : k < 2 ^ n) : bitsF (n + 1) k = 0 :: bitsF n k := by
  unfold bitsF
  rw [List.range_succ_eq_map, List.map_cons, List.map_map]
  congr 1
  · simp [Nat.div_eq_of_lt h]
  · apply List.map_congr_left
    intro i hi
    have hi : i < n := by simpa using hi
    simp only [Function.comp]
    rw [show n + 1 - 1 - (i + 1) = n - 1 - i by omega]
theorem bitsF_hi {n k : Nat} (h : k < 2 ^ n) : bitsF (n + 1) (2 ^ n + k) = 1 :: bitsF n k := by
  unfold bitsF
  rw [List.range_succ_eq_map, List.map_cons, List.map_map]
  have hp : 0 < 2 ^ n := Nat.pow_pos (by omega)
  congr 1
  · simp only [Nat.add_sub_cancel, Nat.sub_zero]
    rw [Nat.add_div_left _ hp, Nat.div_eq_of_lt h]; rfl
  · apply List.map_congr_left
    intro i hi
    have hi : i < n := by simpa using hi
    simp only [Function.comp]
    rw [show n + 1 - 1 - (i + 1) = n - 1 - i by omega]
    have e : 2 ^ n = 2 ^ (n - 1 - i) * (2 * 2 ^ i) := by
      rw [← Nat.mul_assoc, ← Nat.pow_succ, ← Nat.pow_add]
      congr 1; omega
    rw [e, Nat.mul_add_div (Nat.pow_pos (by omega)), Nat.add_comm, Nat.add_mul_mod_self_left]
theorem bitsF_len (n k : Nat) : (bitsF n k).length = n := by simp [bitsF]
theorem bitsF_bits (n k : Nat) : Bits (bitsF n k) := fun v hv => by
  unfold bitsF at hv
  obtain ⟨i, _, rfl⟩ := List.mem_map.1 hv
  have := Nat.mod_lt (k / 2 ^ (n - 1 - i)) (show 0 < 2 by omega)
  omega
/-- The first number whose bits make the list apart. -/
def Fst (W : Nat) (d : Int) (n : Nat) (l : List Int) : Option (List Int) → Prop
  | some l' => ∃ k, k < 2 ^ n ∧ l' = l ++ bitsF n k ∧ Apart l' W d ∧ ∀ m, m < k → ¬ Apart (l ++ bitsF n m) W d
  | none => ∀ m, m < 2 ^ n → ¬ Apart (l ++ bitsF n m) W d
theorem fnd1_first {W : Nat} {d : Int} : ∀ (n : Nat) (l : List Int), Apart l W d → Fst W d n l (fnd1 W d n l)
  | 0, l, h => ⟨0, by simp, by simp [bitsF], h, fun m hm => by omega⟩
  | n + 1, l, h => by
    have one : ∀ v : Int, Fst W d n (l ++ [v]) (if Closed1 (l ++ [v]) W d then fnd1 W d n (l ++ [v]) else none) := by
      intro v
      by_cases hc : Closed1 (l ++ [v]) W d
      · rw [if_pos hc]
        exact fnd1_first n _ ((apart_snoc h).2 hc)
      · rw [if_neg hc]
        intro m _ ha
        exact hc ((apart_snoc h).1 ha.pre)
    have o0 := one 0
    have o1 := one 1
    simp only [fnd1]
    have e0 : ∀ m, m < 2 ^ n → l ++ bitsF (n + 1) m = (l ++ [0]) ++ bitsF n m := fun m hm => by rw [bitsF_lo hm]; simp
    have e1 : ∀ m, m < 2 ^ n → l ++ bitsF (n + 1) (2 ^ n + m) = (l ++ [1]) ++ bitsF n m := fun m hm => by rw [bitsF_hi hm]; simp
    have hpow : 2 ^ (n + 1) = 2 ^ n + 2 ^ n := by rw [Nat.pow_succ]; omega
    generalize (if Closed1 (l ++ [(0 : Int)]) W d then fnd1 W d n (l ++ [0]) else none) = a at o0
    generalize (if Closed1 (l ++ [(1 : Int)]) W d then fnd1 W d n (l ++ [1]) else none) = b at o1
    cases a with
    | some l' =>
      obtain ⟨k, k1, k2, k3, k4⟩ := o0
      exact ⟨k, by omega, by rw [e0 k k1]; exact k2, k3, fun m hm => by rw [e0 m (by omega)]; exact k4 m hm⟩
    | none =>
      cases b with
      | some l' =>
        obtain ⟨k, k1, k2, k3, k4⟩ := o1
        refine ⟨2 ^ n + k, by omega, by rw [e1 k k1]; exact k2, k3, fun m hm => ?_⟩
        rcases Nat.lt_or_ge m (2 ^ n) with h' | h'
        · rw [e0 m h']; exact o0 m h'
        · obtain ⟨j, rfl⟩ : ∃ j, m = 2 ^ n + j := ⟨m - 2 ^ n, by omega⟩
          rw [e1 j (by omega)]; exact k4 j (by omega)
      | none =>
        intro m hm
        rcases Nat.lt_or_ge m (2 ^ n) with h' | h'
        · rw [e0 m h']; exact o0 m h'
        · obtain ⟨j, rfl⟩ : ∃ j, m = 2 ^ n + j := ⟨m - 2 ^ n, by omega⟩
          rw [e1 j (by omega)]; exact o1 j (by omega)

/-! ### The other text -/
theorem BitsOf_ok (k n : Nat) (hn : n ≤ 40) (hk : k < 1073741824) : base_BitsOf_spec (k : Int) (n : Int) = some (bitsF n k) := by
  unfold base_BitsOf_spec
  have em : mk (n : Int) (0 : Int) = some (List.replicate n 0) := by unfold mk; rw [if_pos (by omega), Int.toNat_natCast]
  rw [em, Option.bind_some, w64_id (x := (n : Int) - 1) (by omega)]
  have hl := loop_for (step := base_BitsOf_s0) (o := bitsF n k) (fun j => (((k / 2 ^ j : Nat) : Int), (List.range n).map (fun i => if n - j ≤ i then ((k / 2 ^ (n - 1 - i) % 2 : Nat) : Int) else 0), (n : Int) - 1 - j)) n (fun j hj => ?_) ?_
  · have e : (List.range n).map (fun i => if n - 0 ≤ i then ((k / 2 ^ (n - 1 - i) % 2 : Nat) : Int) else 0) = List.replicate n 0 := by
      apply List.ext_getElem
      · simp
      · intro i h1 h2
        have : i < n := by simpa using h1
        simp only [List.getElem_map, List.getElem_range, List.getElem_replicate]
        rw [if_neg (by omega)]
    have hl' := hl
    simp only [e, Nat.pow_zero, Nat.div_one] at hl'
    rw [show (n : Int) - 1 - ((0 : Nat) : Int) = (n : Int) - 1 by omega] at hl'
    rw [hl']; rfl
  · have hp : 0 < 2 ^ j := Nat.pow_pos (by omega)
    unfold base_BitsOf_s0
    simp only
    have hle : k / 2 ^ j ≤ k := Nat.div_le_self _ _
    rw [decide_eq_true (show (0 : Int) ≤ (n : Int) - 1 - j by omega), cond_true, show (n : Int) - 1 - j = ((n - 1 - j : Nat) : Int) by omega, idx_nat (by simp; omega), Option.bind_some, Int.toNat_natCast, w64_id (x := ((n - 1 - j : Nat) : Int) - 1) (by omega)]
    have e1 : w64 (((k / 2 ^ j : Nat) : Int).tdiv 2) = ((k / 2 ^ (j + 1) : Nat) : Int) := by
      rw [Nat.pow_succ, ← Nat.div_div_eq_div_mul]
      generalize k / 2 ^ j = q at hle
      rw [Int.tdiv_eq_ediv_of_nonneg (by omega), w64_id (by omega)]; omega
    have e2 : ((k / 2 ^ j : Nat) : Int).tmod 2 = ((k / 2 ^ j % 2 : Nat) : Int) := by
      generalize k / 2 ^ j = q
      rw [Int.tmod_eq_emod_of_nonneg (by omega)]; omega
    rw [e1, e2]
    refine congrArg (fun x => some (Sum.inl x)) ?_
    refine Prod.ext rfl (Prod.ext ?_ ?_)
    · simp only
      apply List.ext_getElem
      · simp
      · intro i h1 h2
        have hi : i < n := by simpa using h2
        rw [List.getElem_set]
        simp only [List.getElem_map, List.getElem_range]
        by_cases h3 : n - 1 - j = i
        · rw [if_pos h3, if_pos (by omega), show n - 1 - i = j by omega]
        · rw [if_neg h3]
          by_cases h4 : n - j ≤ i
          · rw [if_pos h4, if_pos (by omega)]
          · rw [if_neg h4, if_neg (by omega)]
    · simp only; omega
  · unfold base_BitsOf_s0
    simp only
    rw [decide_eq_false (show ¬ (0 : Int) ≤ (n : Int) - 1 - n by omega), cond_false]
    refine congrArg (fun x => some (Sum.inr x)) ?_
    unfold bitsF
    apply List.map_congr_left
    intro i _
    rw [if_pos (by omega)]
theorem cut_win {l : List Int} {i W : Nat} (h : i + W ≤ l.length) (hl : l.length ≤ 40) : cut l (i : Int) (w64 ((i : Int) + W)) = some ((l.drop i).take W) := by
  rw [w64_id (by omega)]
  unfold cut
  rw [if_pos (by omega), show ((i : Int) + (W : Int)).toNat = i + W by omega, Int.toNat_natCast, List.drop_take, Nat.add_sub_cancel_left]
theorem win_getD {l : List Int} {i W j : Nat} (hj : j < W) : ((l.drop i).take W).getD j 0 = l.getD (i + j) 0 := by
  simp only [List.getD]
  rw [List.getElem?_take_of_lt hj, List.getElem?_drop]
theorem IsApart_ok {l : List Int} {W : Nat} {d : Int} (h1 : 1 ≤ W) (h2 : W ≤ 12) (h4 : l.length ≤ 40) : ∃ c, ref04_IsApart_spec l (W : Int) d = some c ∧ (c = true ↔ Apart l W d) := by
  have inner : ∀ i : Nat, i + W ≤ l.length → Runs (loop (ref04_IsApart_s0 d l (W : Int) (i : Int)) (w64 ((i : Int) + 1))) fun o => (o = .inl (.inr (.inl false)) ∧ ¬ Apart l W d) ∨ (o = .inr () ∧ ∀ k, i < k → k + W ≤ l.length → d ≤ dL l W i k) := by
    intro i hi
    rw [w64n i (by omega)]
    refine Runs.loop (fun s => ∃ k : Nat, s = k ∧ i < k ∧ k ≤ l.length + 1 ∧ ∀ k', i < k' → k' < k → k' + W ≤ l.length → d ≤ dL l W i k') (fun s => l.length + 1 - s.toNat) ⟨i + 1, rfl, by omega, by omega, fun k' h h' => by omega⟩ ?_
    rintro s ⟨k, rfl, hik, hk, hg⟩
    unfold ref04_IsApart_s0
    rw [w64_id (x := (k : Int) + W) (by omega)]
    by_cases hc : k + W ≤ l.length
    · have e2 := cut_win (W := W) hc h4
      rw [w64_id (x := (k : Int) + W) (by omega)] at e2
      rw [decide_eq_true (show (k : Int) + W ≤ l.length by omega), cond_true, cut_win (W := W) hi h4, e2, Option.bind_some, Option.bind_some]
      have hlen : ((l.drop i).take W).length = W := by rw [List.length_take, List.length_drop]; omega
      rw [rDiffer_ok _ _ (by omega) (by rw [hlen, List.length_take, List.length_drop]; omega), Option.bind_some, hlen]
      have e : cnt (fun j => ((l.drop i).take W).getD j 0) (fun j => ((l.drop k).take W).getD j 0) W = dL l W i k := cnt_congr fun j hj => ⟨win_getD hj, win_getD hj⟩
      rw [e]
      by_cases hd : dL l W i k < d
      · refine ⟨.inr (.inl (.inr (.inl false))), by rw [decide_eq_true hd]; rfl, .inl ⟨rfl, fun h => ?_⟩⟩
        have := h i k hik hc
        omega
      · rw [decide_eq_false hd, cond_false, w64n k (by omega)]
        refine ⟨_, rfl, ⟨k + 1, rfl, by omega, by omega, fun k' h h' h'' => ?_⟩, by simp only; omega⟩
        rcases Nat.lt_or_ge k' k with h5 | h5
        · exact hg k' h h5 h''
        · obtain rfl : k' = k := by omega
          omega
    · rw [decide_eq_false (show ¬ (k : Int) + W ≤ l.length by omega)]
      exact ⟨_, rfl, .inr ⟨rfl, fun k' h h' => hg k' h (by omega) h'⟩⟩
  unfold ref04_IsApart_spec
  have hR : Runs (loop (ref04_IsApart_s1 d l (W : Int)) 0) fun o => (o = .inl false ∧ ¬ Apart l W d) ∨ (o = .inr () ∧ Apart l W d) := by
    refine Runs.loop (fun s => ∃ i : Nat, s = i ∧ i ≤ l.length + 1 ∧ ∀ i', i' < i → ∀ k, i' < k → k + W ≤ l.length → d ≤ dL l W i' k) (fun s => l.length + 1 - s.toNat) ⟨0, rfl, by omega, fun i' h => by omega⟩ ?_
    rintro s ⟨i, rfl, hi, hg⟩
    unfold ref04_IsApart_s1
    rw [w64_id (x := (i : Int) + W) (by omega)]
    by_cases hc : i + W ≤ l.length
    · rw [decide_eq_true (show (i : Int) + W ≤ l.length by omega), cond_true]
      obtain ⟨o, ho, hq⟩ := inner i hc
      rw [ho, Option.bind_some]
      rcases hq with ⟨rfl, hn⟩ | ⟨rfl, hall⟩
      · exact ⟨.inr (.inl false), rfl, .inl ⟨rfl, hn⟩⟩
      · refine ⟨.inl (w64 ((i : Int) + 1)), rfl, ?_⟩
        rw [w64n i (by omega)]
        refine ⟨⟨i + 1, rfl, by omega, fun i' h k h' h'' => ?_⟩, by simp only; omega⟩
        rcases Nat.lt_or_ge i' i with h5 | h5
        · exact hg i' h5 k h' h''
        · obtain rfl : i' = i := by omega
          exact hall k h' h''
    · rw [decide_eq_false (show ¬ (i : Int) + W ≤ l.length by omega)]
      exact ⟨.inr (.inr ()), rfl, .inr ⟨rfl, fun i' k h' h'' => hg i' (by omega) k h' h''⟩⟩
  obtain ⟨o, ho, hq⟩ := hR
  rw [ho]
  rcases hq with ⟨rfl, hn⟩ | ⟨rfl, hn⟩
  · exact ⟨false, rfl, by simp [hn]⟩
  · exact ⟨true, rfl, by simp [hn]⟩
theorem rFirst_ok {n W : Nat} {d : Int} (h1 : 1 ≤ W) (h2 : W ≤ 12) (hn : n ≤ 20) : Runs (ref04_FirstTrack_spec (n : Int) (W : Int) d) fun o =>
    (∃ k, k < 2 ^ n ∧ o = (bitsF n k, true) ∧ Apart (bitsF n k) W d ∧ ∀ m, m < k → ¬ Apart (bitsF n m) W d) ∨ (o = ([], false) ∧ ∀ m, m < 2 ^ n → ¬ Apart (bitsF n m) W d) := by
  have hp : 2 ^ n ≤ 2 ^ 20 := Nat.pow_le_pow_right (by omega) hn
  have h20 : (2 : Nat) ^ 20 = 1048576 := by decide
  unfold ref04_FirstTrack_spec
  have l0 := loop_for (step := ref04_FirstTrack_s0 (n : Int)) (o := ((2 ^ n : Nat) : Int)) (fun j => (((2 ^ j : Nat) : Int), (j : Int))) n (fun j hj => ?_) ?_
  · have l0' : loop (ref04_FirstTrack_s0 (n : Int)) (1, 0) = some ((2 ^ n : Nat) : Int) := l0
    rw [l0', Option.bind_some]
    have hR : Runs (loop (ref04_FirstTrack_s1 d (n : Int) (W : Int) ((2 ^ n : Nat) : Int)) 0) fun o =>
        (∃ k, k < 2 ^ n ∧ o = .inl (bitsF n k, true) ∧ Apart (bitsF n k) W d ∧ ∀ m, m < k → ¬ Apart (bitsF n m) W d) ∨ (o = .inr () ∧ ∀ m, m < 2 ^ n → ¬ Apart (bitsF n m) W d) := by
      refine Runs.loop (fun s => ∃ k : Nat, s = k ∧ k ≤ 2 ^ n ∧ ∀ m, m < k → ¬ Apart (bitsF n m) W d) (fun s => 2 ^ n - s.toNat) ⟨0, rfl, Nat.zero_le _, fun m h => absurd h (Nat.not_lt_zero _)⟩ ?_
      rintro s ⟨k, rfl, hk, hg⟩
      unfold ref04_FirstTrack_s1
      by_cases hc : k < 2 ^ n
      · rw [lt_nat hc, cond_true, BitsOf_ok k n (by omega) (by omega), Option.bind_some]
        obtain ⟨c, hcs, hc2⟩ := IsApart_ok (l := bitsF n k) (W := W) (d := d) h1 h2 (by rw [bitsF_len]; omega)
        rw [hcs, Option.bind_some]
        cases c with
        | true => exact ⟨.inr (.inl (bitsF n k, true)), rfl, .inl ⟨k, hc, rfl, hc2.1 rfl, hg⟩⟩
        | false =>
          rw [cond_false, w64n k (by omega)]
          refine ⟨_, rfl, ⟨k + 1, rfl, by omega, fun m hm => ?_⟩, by show 2 ^ n - (((k + 1 : Nat) : Int)).toNat < 2 ^ n - ((k : Nat) : Int).toNat; rw [Int.toNat_natCast, Int.toNat_natCast]; omega⟩
          rcases Nat.lt_or_ge m k with h | h
          · exact hg m h
          · obtain rfl : m = k := by omega
            intro ha; have := hc2.2 ha; cases this
      · obtain rfl : k = 2 ^ n := by omega
        rw [lt_nat_no]
        exact ⟨.inr (.inr ()), rfl, .inr ⟨rfl, hg⟩⟩
    obtain ⟨o, ho, hq⟩ := hR
    rw [ho]
    rcases hq with ⟨k, k1, rfl, k3⟩ | ⟨rfl, hg⟩
    · exact ⟨_, rfl, .inl ⟨k, k1, rfl, k3⟩⟩
    · exact ⟨_, rfl, .inr ⟨rfl, hg⟩⟩
  · have hpj : 2 ^ j ≤ 2 ^ n := Nat.pow_le_pow_right (by omega) (by omega)
    unfold ref04_FirstTrack_s0
    simp only
    have e2 : 2 ^ (j + 1) = 2 ^ j * 2 := Nat.pow_succ ..
    rw [e2]
    generalize 2 ^ j = q at hpj
    generalize 2 ^ n = N at hpj hp
    rw [lt_nat hj, cond_true, w64n j (by omega), w64_id (by omega)]
    congr 3
    omega
  · unfold ref04_FirstTrack_s0
    simp only
    rw [lt_nat_no]; rfl
/-- The error of what is asked. -/
def mdE (n W d : Int) : Int := if ¬ ((1 ≤ n ∧ n ≤ 14) ∧ (1 ≤ W ∧ W ≤ 12) ∧ (0 ≤ d ∧ d ≤ 12)) then 2 else if n < W then 10 else 0
theorem MadeErr_ok (n W d : Int) : ref04_MadeErr_spec n W d = some (mdE n W d) := by
  unfold ref04_MadeErr_spec mdE
  simp only [bwithin_ok, Option.bind_some]
  by_cases c1 : 1 ≤ n ∧ n ≤ 14
  · by_cases c2 : 1 ≤ W ∧ W ≤ 12
    · by_cases c3 : 0 ≤ d ∧ d ≤ 12
      · by_cases c4 : n < W
        · simp [c1, c2, c3, c4]
        · simp [c1, c2, c3, c4]
      · have c3' : (decide (0 ≤ d) && decide (d ≤ 12)) = false := by rw [Bool.eq_false_iff]; simp only [ne_eq, Bool.and_eq_true, decide_eq_true_eq]; exact c3
        simp [c1, c2, c3, c3']
    · have c2' : (decide (1 ≤ W) && decide (W ≤ 12)) = false := by rw [Bool.eq_false_iff]; simp only [ne_eq, Bool.and_eq_true, decide_eq_true_eq]; exact c2
      simp [c1, c2, c2']
  · have c1' : (decide (1 ≤ n) && decide (n ≤ 14)) = false := by rw [Bool.eq_false_iff]; simp only [ne_eq, Bool.and_eq_true, decide_eq_true_eq]; exact c1
    simp [c1, c1']
theorem First_ok (n W d : Int) : (mdE n W d ≠ 0 → locate_FirstTrack_spec n W d = some ([], mdE n W d)) ∧ (mdE n W d = 0 → ∃ a b : Nat, n = a ∧ W = b ∧ 1 ≤ b ∧ b ≤ 12 ∧ b ≤ a ∧ a ≤ 14 ∧ locate_FirstTrack_spec n W d = some (match fnd1 b d a [] with | some l => (l, 0) | none => ([], 12))) := by
  have pre : ∀ F : Int → Option (List Int × Int), (Option.bind (locate_within_spec n 1 14) fun r20 => Option.bind (bif r20 then locate_within_spec W 1 12 else some default) fun r26 => Option.bind (bif (r20 && r26) then locate_within_spec d 0 12 else some default) fun r33 =>
      Option.bind (locate_unless_spec ((r20 && r26) && r33) 2) fun r47 => Option.bind (locate_unless_spec (decide (W ≤ n)) 10) fun r54 => Option.bind (locate_first_spec [r47, r54]) F) = F (mdE n W d) := by
    intro F
    simp only [within_ok, unless_ok, Option.bind_some]
    unfold mdE
    by_cases c1 : 1 ≤ n ∧ n ≤ 14
    · by_cases c2 : 1 ≤ W ∧ W ≤ 12
      · by_cases c3 : 0 ≤ d ∧ d ≤ 12
        · by_cases c4 : n < W
          · have c5 : ¬ W ≤ n := by omega
            simp only [c1, c2, c3, c4, c5, decide_true, decide_false, Bool.and_self, Bool.true_and, cond_true, cond_false, Option.bind_some, and_self, not_true_eq_false, if_false, if_true]
            rw [first_ok _ (by simp)]; simp [frst]
          · have c5 : W ≤ n := by omega
            simp only [c1, c2, c3, c4, c5, decide_true, decide_false, Bool.and_self, Bool.true_and, cond_true, cond_false, Option.bind_some, and_self, not_true_eq_false, if_false, if_true]
            rw [first_ok _ (by simp)]; simp [frst]
        · have c3' : (decide (0 ≤ d) && decide (d ≤ 12)) = false := by rw [Bool.eq_false_iff]; simp only [ne_eq, Bool.and_eq_true, decide_eq_true_eq]; exact c3
          simp only [c1, c2, c3, c3', decide_true, Bool.and_self, cond_true, cond_false, Option.bind_some, Bool.and_false, and_self, and_false, not_false_eq_true, if_true]
          rw [first_ok _ (by simp)]; simp [frst]
      · have c2' : (decide (1 ≤ W) && decide (W ≤ 12)) = false := by rw [Bool.eq_false_iff]; simp only [ne_eq, Bool.and_eq_true, decide_eq_true_eq]; exact c2
        simp only [c1, c2, c2', decide_true, Bool.and_self, cond_true, cond_false, Option.bind_some, Bool.and_false, Bool.false_and, false_and, and_false, not_false_eq_true, if_true]
        rw [first_ok _ (by simp)]; simp [frst]
    · have c1' : (decide (1 ≤ n) && decide (n ≤ 14)) = false := by rw [Bool.eq_false_iff]; simp only [ne_eq, Bool.and_eq_true, decide_eq_true_eq]; exact c1
      simp only [c1, c1', cond_false, Option.bind_some, Bool.false_and, false_and, not_false_eq_true, if_true]
      rw [first_ok _ (by simp)]; simp [frst]
  unfold locate_FirstTrack_spec
  rw [pre]
  constructor
  · intro h; simp [h]
  · intro h
    have hc : (1 ≤ n ∧ n ≤ 14) ∧ (1 ≤ W ∧ W ≤ 12) ∧ (0 ≤ d ∧ d ≤ 12) := by
      unfold mdE at h
      split at h
      · cases h
      · rename_i h'; exact Classical.not_not.1 h'
    have hc4 : ¬ n < W := by
      unfold mdE at h
      rw [if_neg (fun h' => h' hc)] at h
      split at h
      · cases h
      · assumption
    refine ⟨n.toNat, W.toNat, by omega, by omega, by omega, by omega, by omega, by omega, ?_⟩
    obtain ⟨a, rfl⟩ : ∃ a : Nat, n = a := ⟨n.toNat, by omega⟩
    obtain ⟨b, rfl⟩ : ∃ b : Nat, W = b := ⟨W.toNat, by omega⟩
    rw [h, Int.toNat_natCast, Int.toNat_natCast]
    simp only [decide_true, Bool.not_true, cond_false]
    have hg := grow_ok (W := b) (d := d) (by omega) (by omega) 20 a [] (by omega) (by simp; omega) (fun v hv => by cases hv)
    have hg : locate_FirstTrack_2_spec 20 ⟨⟨[], (b : Int), 0, 0, 0, 0, 0, 0, false⟩⟩ (a : Int) d = some (res1 b [] (fnd1 b d a [])) := by
      have e : (([] : List Int).length + a : Nat) = a := by simp
      rw [e] at hg; exact hg
    rw [hg, Option.bind_some]
    cases fnd1 b d a [] <;> rfl
theorem LocateMakes_true (n W d : Int) : law04_LocateMakes_spec n W d = some true := by
  unfold law04_LocateMakes_spec
  rw [awake_ok]
  simp only [Option.bind_some, Bool.not_true, cond_false, bwithin_ok]
  by_cases hbig : 10 ≤ n ∧ n ≤ 14
  · simp [hbig]
  · have hb' : (decide (10 ≤ n) && decide (n ≤ 14)) = false := by rw [Bool.eq_false_iff]; simp only [ne_eq, Bool.and_eq_true, decide_eq_true_eq]; exact hbig
    rw [hb', cond_false, MadeErr_ok]
    obtain ⟨he, hok⟩ := First_ok n W d
    by_cases h : mdE n W d = 0
    · obtain ⟨a, b, rfl, rfl, hb1, hb2, hba, ha, hf⟩ := hok h
      rw [hf, h]
      simp only [Option.bind_some, decide_true, Bool.not_true, cond_false]
      obtain ⟨o, ho, hq⟩ := rFirst_ok (n := a) (W := b) (d := d) hb1 hb2 (by omega)
      rw [ho, Option.bind_some]
      have hapart : Apart ([] : List Int) b d := fun i k _ hk => by simp at hk; omega
      have hF := fnd1_first (W := b) (d := d) a [] hapart
      cases hfd : fnd1 b d a [] with
      | none =>
        rw [hfd] at hF
        rcases hq with ⟨k, k1, rfl, k3, _⟩ | ⟨rfl, _⟩
        · exact absurd k3 (by have := hF k k1; simpa using this)
        · simp
      | some l =>
        rw [hfd] at hF
        obtain ⟨k, k1, k2, k3, k4⟩ := hF
        rw [List.nil_append] at k2
        subst k2
        rcases hq with ⟨k', q1, rfl, q3, q4⟩ | ⟨rfl, hno⟩
        · have : k = k' := by
            rcases Nat.lt_trichotomy k k' with h' | h' | h'
            · exact absurd k3 (q4 k h')
            · exact h'
            · exact absurd q3 (by have := k4 k' h'; simpa using this)
          subst this
          simp only [decide_true, Bool.not_true, Bool.not_false, cond_true, cond_false]
          rw [Ints_ok _ _ (by rw [bitsF_len]; omega)]
          simp only [Option.bind_some, decide_true, Bool.not_true, Bool.or_self, cond_false]
          have hRt := T1k_rt (W := (b : Int)) (bitsF_bits a k) (by omega) (by omega) (by rw [bitsF_len]; omega) (by rw [bitsF_len]; omega)
          have hck := rt_chk hRt
          unfold locate_DistanceOf_spec
          have hlen : (T1k (bitsF a k) (b : Int)).Vanes.length < 1073741824 := by simp only [T1k]; rw [bitsF_len]; omega
          have hopen := open_ok (T1k (bitsF a k) (b : Int)) hlen
          rw [show (⟨bitsF a k, (b : Int), 1, 1, 0, 1, 0, 0, false⟩ : LocateTrack) = T1k (bitsF a k) (b : Int) from rfl, hopen, hck]
          simp only [Option.bind_some, decide_true, Bool.not_true, cond_false, unless_ok]
          obtain ⟨f, dd, p, q, h1, h2, h3, h4, hB⟩ := dist_same hRt
          rw [show locate_track_distance_spec ⟨⟨(T1k (bitsF a k) (b : Int)).Vanes, (T1k (bitsF a k) (b : Int)).Window, (T1k (bitsF a k) (b : Int)).Tooth, (T1k (bitsF a k) (b : Int)).PerVane, (T1k (bitsF a k) (b : Int)).First, (T1k (bitsF a k) (b : Int)).Modulus, (T1k (bitsF a k) (b : Int)).Slack, (T1k (bitsF a k) (b : Int)).Errors, (T1k (bitsF a k) (b : Int)).Round⟩⟩ = _ from h1]
          have hnW : nW (T1k (bitsF a k) (b : Int)) = a - b + 1 := by
            unfold nW
            simp only [T1k, Bool.false_eq_true, if_false]
            rw [bitsF_len]; omega
          rcases hB with ⟨rfl, _, _, _, hno⟩ | ⟨rfl, i, j, hij, hd, _⟩
          · have : a = b := by
              apply Classical.byContradiction
              intro hne
              exact hno 0 1 (by unfold PS; rw [hnW]; omega)
            simp [this]
          · have hd2 : d ≤ dd := by
              unfold PS at hij
              rw [hnW] at hij
              rw [hd, dP_dL (by rw [bitsF_len]; omega) (by rw [bitsF_len]; omega)]
              exact k3 i j hij.1 (by rw [bitsF_len]; omega)
            simp [hd2]
        · exact absurd k3 (hno k k1)
    · rw [he h]
      simp [h]
end Go.Gw
