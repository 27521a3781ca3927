/- LevitateFrames answers true. Condition: none. -/
import Derived.Test.YtglaeocolbnpdaaGreatGwLev9
import Derived.Test.YtglaeocolbnpdaaGreatGwLawLevitateFrames
set_option maxRecDepth 8192
set_option linter.unusedSimpArgs false
set_option linter.unusedVariables false
namespace Go.Gw
open Go

theorem CopyFrame_ok (f : LevitateFrame) (h : f.Factors.length ≤ 1073741824) : ref02_CopyFrame_spec f = some f := by
  unfold ref02_CopyFrame_spec
  rw [CopyInts_ok _ h]; rfl
def facB (n : Int) : Bool := decide (1 ≤ n) && decide (n ≤ 1000000000)
def lodB (n : Int) : Bool := decide (0 ≤ n) && decide (n ≤ 1000000)
def curB (n : Int) : Bool := decide (0 ≤ n) && decide (n ≤ 1000)
def gapB (n : Int) : Bool := decide (1 ≤ n) && decide (n ≤ 3000)
def facF (l : List Int) : Option Int := fs (fun k x => if facB x then none else some (k : Int)) 0 l
def ckF (f : LevitateFrame) : Int × Int :=
  if f.Factors.length = 0 then (0, 10) else if 8 < f.Factors.length then (0, 8) else match facF f.Factors with
    | some k => (k, 2)
    | none => if lodB f.Load && (gapB f.Gap.Lo && gapB f.Gap.Hi) && curB f.Current then (if f.Gap.Lo ≤ f.Gap.Hi then (0, 0) else (0, 9)) else (0, 2)
structure Fr (f : LevitateFrame) : Prop where
  n1 : 1 ≤ f.Factors.length
  n8 : f.Factors.length ≤ 8
  fac : ∀ k, k < f.Factors.length → 1 ≤ gi f.Factors k ∧ gi f.Factors k ≤ 1000000000
  l0 : 0 ≤ f.Load
  l1 : f.Load ≤ 1000000
  g0 : 1 ≤ f.Gap.Lo
  g1 : f.Gap.Lo ≤ f.Gap.Hi
  g2 : f.Gap.Hi ≤ 3000
  c0 : 0 ≤ f.Current
  c1 : f.Current ≤ 1000
theorem ckF_right {f : LevitateFrame} (h : (ckF f).2 = 0) : Fr f ∧ ckF f = (0, 0) := by
  unfold ckF at h ⊢
  by_cases h1 : f.Factors.length = 0
  · simp [h1] at h
  by_cases h2 : 8 < f.Factors.length
  · simp [h1, h2] at h
  rw [if_neg h1, if_neg h2] at h ⊢
  cases h3 : facF f.Factors with
  | some k => rw [h3] at h; simp at h
  | none =>
    rw [h3] at h
    dsimp only at h ⊢
    cases h4 : (lodB f.Load && (gapB f.Gap.Lo && gapB f.Gap.Hi) && curB f.Current) with
    | false => simp [h4] at h
    | true =>
      simp only [h4, if_true] at h ⊢
      by_cases h5 : f.Gap.Lo ≤ f.Gap.Hi
      · rw [if_pos h5]
        simp only [lodB, gapB, curB, Bool.and_eq_true, decide_eq_true_eq] at h4
        refine ⟨⟨by omega, by omega, fun k hk => ?_, by omega, by omega, by omega, h5, by omega, by omega, by omega⟩, rfl⟩
        have h6 := fs_none.1 h3 k hk
        split at h6
        · rename_i h7
          simp only [facB, Bool.and_eq_true, decide_eq_true_eq] at h7
          rw [← gi_eq hk]; omega
        · cases h6
      · rw [if_neg h5] at h; simp at h
theorem facIx_ok (l : List Int) (hl : l.length < 1073741824) : slices_IndexFunc_int_120_spec l = some (match facF l with | some k => k | none => -1) := by
  unfold slices_IndexFunc_int_120_spec
  rw [loop_fs l (fun k x => if facB x then none else some (k : Int)), Option.bind_some]
  · change _ = some (match fs (fun k x => if facB x then none else some (k : Int)) 0 l with | some k => k | none => -1)
    cases fs (fun k x => if facB x then none else some (k : Int)) 0 l <;> rfl
  · intro k hk
    unfold slices_IndexFunc_int_120_s0 levitate_CheckFrame_1_spec levitate_isFactor_spec
    rw [lt_nat hk, idx_nat hk, w64n k (by omega), cond_true, Option.bind_some, lwithin_ok]
    change (bif !facB l[k] then _ else _) = _
    cases facB l[k] <;> rfl
  · unfold slices_IndexFunc_int_120_s0
    rw [lt_nat_no]; rfl
theorem facF_ge {l : List Int} {k : Int} (h : facF l = some k) : 0 ≤ k := by
  obtain ⟨i, hi, h1⟩ := fs_mem h
  split at h1
  · cases h1
  · cases h1; omega
theorem lCheckFrame_ok (f : LevitateFrame) (hl : f.Factors.length < 1073741824) : levitate_CheckFrame_spec f = some (ckF f) := by
  unfold levitate_CheckFrame_spec levitate_isLoad_spec levitate_ends_96_spec levitate_isCurrent_spec levitate_isGap_spec
  simp only [lunless_ok, lwithin_ok, first2, Option.bind_some, facIx_ok _ hl]
  unfold ckF
  by_cases h1 : f.Factors.length = 0
  · rw [decide_eq_false (show ¬ (0 : Int) < (f.Factors.length : Int) by omega), if_pos h1]; rfl
  rw [decide_eq_true (show (0 : Int) < (f.Factors.length : Int) by omega), if_neg h1]
  by_cases h2 : 8 < f.Factors.length
  · rw [decide_eq_false (show ¬ (f.Factors.length : Int) ≤ 8 by omega), if_pos h2]; rfl
  rw [decide_eq_true (show (f.Factors.length : Int) ≤ 8 by omega), if_neg h2]
  simp only [cond_true, if_true, decide_true, Bool.not_true, cond_false]
  cases h3 : facF f.Factors with
  | some k => dsimp only; rw [decide_eq_true (facF_ge h3)]; rfl
  | none =>
    dsimp only
    rw [show decide ((0 : Int) ≤ -1) = false from rfl, cond_false]
    have f1 : ∀ n : Int, (decide (0 ≤ n) && decide (n ≤ 1000000)) = lodB n := fun _ => rfl
    have f2 : ∀ n : Int, (decide (1 ≤ n) && decide (n ≤ 3000)) = gapB n := fun _ => rfl
    have f3 : ∀ n : Int, (decide (0 ≤ n) && decide (n ≤ 1000)) = curB n := fun _ => rfl
    simp only [f1, f2, f3]
    cases lodB f.Load <;> cases gapB f.Gap.Lo <;> cases gapB f.Gap.Hi <;> cases curB f.Current <;> simp only [cond_true, cond_false, Option.bind_some, Bool.and_self, Bool.and_false, Bool.and_true, Bool.false_and, Bool.true_and, if_true, Bool.false_eq_true, if_false] <;> first | rfl | skip
    by_cases h5 : f.Gap.Lo ≤ f.Gap.Hi
    · rw [decide_eq_true h5, if_pos h5]; rfl
    · rw [decide_eq_false h5, if_neg h5]; rfl
theorem rCheckFrame_ok (f : LevitateFrame) (hl : f.Factors.length < 1073741824) : ref02_CheckFrame_spec f = some (ckF f) := by
  unfold ref02_CheckFrame_spec ckF
  by_cases h1 : f.Factors.length = 0
  · rw [decide_eq_true (show (f.Factors.length : Int) = 0 by omega), if_pos h1]; rfl
  rw [decide_eq_false (show ¬ (f.Factors.length : Int) = 0 by omega), if_neg h1, cond_false]
  by_cases h2 : 8 < f.Factors.length
  · rw [decide_eq_true (show (8 : Int) < (f.Factors.length : Int) by omega), if_pos h2]; rfl
  rw [decide_eq_false (show ¬ (8 : Int) < (f.Factors.length : Int) by omega), if_neg h2, cond_false]
  rw [loop_fs f.Factors (fun k x => (if facB x then none else some (k : Int)).map fun k => (k, 2)), map_fs, Option.bind_some]
  · change (jn0 (oi ((facF f.Factors).map fun k => (k, 2))) _) = _
    cases h3 : facF f.Factors with
    | some k => rfl
    | none =>
      dsimp only [Option.map, oi, jn0]
      simp only [bwithin_ok, Option.bind_some]
      have f1 : ∀ n : Int, (decide (0 ≤ n) && decide (n ≤ 1000000)) = lodB n := fun _ => rfl
      have f2 : ∀ n : Int, (decide (1 ≤ n) && decide (n ≤ 3000)) = gapB n := fun _ => rfl
      have f3 : ∀ n : Int, (decide (0 ≤ n) && decide (n ≤ 1000)) = curB n := fun _ => rfl
      simp only [f1, f2, f3]
      cases lodB f.Load <;> cases gapB f.Gap.Lo <;> cases gapB f.Gap.Hi <;> cases curB f.Current <;> simp only [cond_true, cond_false, Option.bind_some, Bool.and_self, Bool.and_false, Bool.and_true, Bool.false_and, Bool.true_and, if_true, Bool.false_eq_true, if_false, Bool.not_true, Bool.not_false, Bool.or_false, Bool.or_true, Bool.or_self] <;> first | rfl | skip
      by_cases h5 : f.Gap.Lo ≤ f.Gap.Hi
      · rw [decide_eq_false (show ¬ f.Gap.Hi < f.Gap.Lo by omega), if_pos h5]; rfl
      · rw [decide_eq_true (show f.Gap.Hi < f.Gap.Lo by omega), if_neg h5]; rfl
  · intro k hk
    unfold ref02_CheckFrame_s0
    rw [lt_nat hk, idx_nat hk, w64n k (by omega), cond_true, Option.bind_some, bwithin_ok, Option.bind_some]
    change (bif !facB f.Factors[k] then _ else _) = _
    cases facB f.Factors[k] <;> rfl
  · unfold ref02_CheckFrame_s0
    rw [lt_nat_no]; rfl

/-! ### Which magnets are out -/
def outE (n : Int) : Int → List Int → Int
  | _, [] => 0
  | last, x :: xs => if 0 ≤ x ∧ x ≤ n - 1 then (if last < x then outE n x xs else 9) else 6
def lastO (out : List Int) (k : Nat) : Int := if k = 0 then -1 else gi out (k - 1)
theorem lastO_s {out : List Int} {k : Nat} : lastO out (k + 1) = gi out k := by unfold lastO; rw [if_neg (by omega)]; rfl
theorem rOutErr_ok (f : LevitateFrame) (h : Fr f) (out : List Int) (hl : out.length < 1000) : ref02_OutErr_spec f out = some (outE f.Factors.length (-1) out) := by
  unfold ref02_OutErr_spec
  have hn := h.n1
  have hn8 := h.n8
  have key : ∀ (r l0 : List Int), out = l0 ++ r → (Option.bind (loop (ref02_OutErr_s0 f out) (l0.length : Int)) fun o177 => jn0 o177 fun (_ : Unit) => some 0) = some (outE f.Factors.length (lastO out l0.length) r) := by
    intro r
    induction r with
    | nil =>
      intro l0 he
      have : ref02_OutErr_s0 f out (l0.length : Int) = some (.inr (.inr ())) := by
        unfold ref02_OutErr_s0; rw [he, List.append_nil, lt_nat_no]; rfl
      rw [loop_inr this]; rfl
    | cons x r ih =>
      intro l0 he
      have hlt : l0.length < out.length := by rw [he]; simp
      have hel : gi out l0.length = x := by rw [← gi_eq hlt]; simp [he]
      have hlast : (0 < l0.length → lastO out l0.length = gi out (l0.length - 1)) := fun h => by unfold lastO; rw [if_neg (by omega)]
      have st : ref02_OutErr_s0 f out (l0.length : Int) = if 0 ≤ x ∧ x ≤ (f.Factors.length : Int) - 1 then (if lastO out l0.length < x then some (.inl (((l0 ++ [x]).length : Nat) : Int)) else some (.inr (.inl 9))) else some (.inr (.inl 6)) := by
        unfold ref02_OutErr_s0
        rw [lt_nat hlt, cond_true, idx_gi hlt, Option.bind_some, hel, bwithin_ok, Option.bind_some, w64_id (x := (f.Factors.length : Int) - 1) (by omega), w64n _ (by omega)]
        by_cases h1 : 0 ≤ x ∧ x ≤ (f.Factors.length : Int) - 1
        · rw [if_pos h1, show (decide (0 ≤ x) && decide (x ≤ (f.Factors.length : Int) - 1)) = true by simp; omega]
          simp only [Bool.not_true, cond_false]
          by_cases h2 : 0 < l0.length
          · rw [decide_eq_true (show (0 : Int) < (l0.length : Int) by omega)]
            simp only [cond_true, Bool.true_and]
            rw [Option.bind_some, show w64 ((l0.length : Int) - 1) = ((l0.length - 1 : Nat) : Int) by rw [w64_id (by omega)]; omega, idx_gi (by omega), Option.bind_some, hlast h2]
            by_cases h3 : gi out (l0.length - 1) < x
            · rw [decide_eq_false (by omega), if_pos h3]; simp
            · rw [decide_eq_true (by omega), if_neg h3]; rfl
          · have h0 : l0.length = 0 := by omega
            rw [decide_eq_false (show ¬ (0 : Int) < (l0.length : Int) by omega)]
            simp only [cond_false, Bool.false_and, Option.bind_some]
            have : lastO out l0.length = -1 := by unfold lastO; rw [if_pos h0]
            rw [this, if_pos (by omega)]; simp
        · rw [if_neg h1, show (decide (0 ≤ x) && decide (x ≤ (f.Factors.length : Int) - 1)) = false by simp; omega]; rfl
      rw [outE]
      by_cases h1 : 0 ≤ x ∧ x ≤ (f.Factors.length : Int) - 1
      · by_cases h2 : lastO out l0.length < x
        · rw [if_pos h1, if_pos h2] at st ⊢
          rw [loop_inl st, ih (l0 ++ [x]) (by rw [he]; simp), show (l0 ++ [x]).length = l0.length + 1 by simp, lastO_s, hel]
        · rw [if_pos h1, if_neg h2] at st ⊢
          rw [loop_inr st]; rfl
      · rw [if_neg h1] at st ⊢
        rw [loop_inr st]; rfl
  have := key out [] rfl
  simpa [lastO] using this
def outS (f : LevitateFrame) (out : List Int) : Int := sumN (fun i => if out.contains (i : Int) then 0 else gi f.Factors i) f.Factors.length
def carF (f : LevitateFrame) (out : List Int) : Bool := decide (f.Load * f.Gap.Hi * f.Gap.Hi ≤ outS f out * f.Current * f.Current)
theorem outS_b {f : LevitateFrame} (h : Fr f) (out : List Int) : 0 ≤ outS f out ∧ outS f out ≤ 8000000000 := by
  refine ⟨sumN_nonneg fun k hk => ?_, ?_⟩
  · have := h.fac k hk; split <;> omega
  · have : outS f out ≤ f.Factors.length * 1000000000 := sumN_bound fun k hk => by have := h.fac k hk; split <;> omega
    have := h.n8
    omega
theorem mul3 {a b A B : Int} (h0 : 0 ≤ a) (h1 : a ≤ A) (h2 : 0 ≤ b) (h3 : b ≤ B) : 0 ≤ a * b ∧ a * b ≤ A * B ∧ 0 ≤ a * b * b ∧ a * b * b ≤ A * B * B := by
  have a1 : 0 ≤ a * b := Int.mul_nonneg h0 h2
  have a2 : a * b ≤ A * B := Int.mul_le_mul h1 h3 h2 (by omega)
  exact ⟨a1, a2, Int.mul_nonneg a1 h2, Int.mul_le_mul a2 h3 h2 (by omega)⟩
theorem need_b {f : LevitateFrame} (h : Fr f) : w64 (w64 (f.Load * f.Gap.Hi) * f.Gap.Hi) = f.Load * f.Gap.Hi * f.Gap.Hi := by
  have h1 := h.g0
  have h2 := h.g1
  have a := mul3 (b := f.Gap.Hi) h.l0 h.l1 (by omega) h.g2
  rw [w64_id (x := f.Load * f.Gap.Hi) (by omega), w64_id (by omega)]
theorem index_ok (l : List Int) (v : Int) (hl : l.length < 1073741824) : Runs (slices_Index_int_spec l v) fun r => decide (0 ≤ r) = l.contains v := by
  unfold slices_Index_int_spec
  rw [loop_fs l (fun k x => if (decide (v = x)) then some (k : Int) else none), Option.bind_some]
  · rw [jn_ix]
    refine Runs.some ?_
    rw [ix_ge, List.any_eq]
    rw [Bool.eq_iff_iff]
    simp [eq_comm]
  · intro k hk
    unfold slices_Index_int_s0
    rw [lt_nat hk, idx_nat hk, w64n k (by omega), cond_true, Option.bind_some]
    cases decide (v = l[k]) <;> rfl
  · unfold slices_Index_int_s0
    rw [lt_nat_no]; rfl
theorem contains_ok (l : List Int) (v : Int) (hl : l.length < 1073741824) : slices_Contains_int_spec l v = some (l.contains v) := by
  unfold slices_Contains_int_spec
  obtain ⟨r, hr, h⟩ := index_ok l v hl
  rw [hr, Option.bind_some, h]
theorem has_ok (l : List Int) (v : Int) (hl : l.length < 1073741824) : base_Has_spec l v = some (l.contains v) := by
  unfold base_Has_spec
  rw [loop_fs l (fun k x => if decide (x = v) then some true else none), Option.bind_some]
  · have : ∀ (l : List Int) t, fs (fun _ x => if decide (x = v) then some true else none) t l = if l.contains v then some true else none := by
      intro l
      induction l with
      | nil => intro t; rfl
      | cons y ys ih =>
        intro t
        by_cases hy : y = v
        · simp [fs, hy]
        · have hy' : ¬ v = y := fun h => hy h.symm
          simp only [fs, decide_eq_false hy, Bool.false_eq_true, if_false]
          rw [ih]; simp [hy']
    rw [this]
    cases l.contains v <;> rfl
  · intro k hk
    unfold base_Has_s0
    rw [lt_nat hk, idx_nat hk, w64n k (by omega), cond_true, Option.bind_some]
    cases decide (l[k] = v) <;> rfl
  · unfold base_Has_s0
    rw [lt_nat_no]; rfl
theorem loop_sumE {step : (Int × Int) → Option ((Int × Int) ⊕ Int)} (n : Nat) (t : Nat → Int) (hs : ∀ k, k < n → step (sumN t k, (k : Int)) = some (.inl (sumN t (k + 1), ((k + 1 : Nat) : Int)))) (he : step (sumN t n, (n : Int)) = some (.inr (sumN t n))) :
    loop step (0, 0) = some (sumN t n) := loop_for (fun k => (sumN t k, (k : Int))) n hs he
theorem sumN_mul (t : Nat → Int) (c : Int) : ∀ n, sumN (fun i => t i * c) n = sumN t n * c
  | 0 => by simp [sumN]
  | n + 1 => by rw [sumN, sumN, sumN_mul t c n, Int.add_mul]
def outT (f : LevitateFrame) (out : List Int) (i : Nat) : Int := if out.contains (i : Int) then 0 else gi f.Factors i
theorem outT_b {f : LevitateFrame} (h : Fr f) (out : List Int) {i : Nat} (hi : i < f.Factors.length) : 0 ≤ outT f out i ∧ outT f out i ≤ 1000000000 := by
  have := h.fac i hi; unfold outT; split <;> omega
theorem part_b {t : Nat → Int} {n : Nat} {B : Int} (hB : 0 ≤ B) (h : ∀ i, i < n → 0 ≤ t i ∧ t i ≤ B) {k : Nat} (hk : k ≤ n) (hn : n ≤ 8) : 0 ≤ sumN t k ∧ sumN t k ≤ 8 * B := by
  refine ⟨sumN_nonneg fun i hi => (h i (by omega)).1, ?_⟩
  have h1 : sumN t k ≤ k * B := sumN_bound fun i hi => (h i (by omega)).2
  have h2 : (k : Int) * B ≤ 8 * B := Int.mul_le_mul_of_nonneg_right (by omega) hB
  omega
theorem lcarries_ok {f : LevitateFrame} (h : Fr f) (out : List Int) (hl : out.length < 1000) : levitate_frame_carries_spec ⟨f⟩ out = some (carF f out) := by
  unfold levitate_frame_carries_spec
  have hn := h.n8
  have hb := outS_b h out
  rw [loop_sumE f.Factors.length (outT f out)]
  · rw [Option.bind_some]
    dsimp only
    have a := mul3 (b := f.Current) hb.1 hb.2 h.c0 h.c1
    change some (decide (w64 (w64 (f.Load * f.Gap.Hi) * f.Gap.Hi) ≤ w64 (w64 (outS f out * f.Current) * f.Current))) = _
    rw [need_b h, w64_id (x := outS f out * _) (by omega), w64_id (by omega)]
    rfl
  · intro k hk
    unfold levitate_frame_carries_s0
    dsimp only
    have h1 := part_b (t := outT f out) (B := 1000000000) (by decide) (fun i hi => outT_b h out hi) (k := k) (by omega) hn
    have h2 := outT_b h out hk
    rw [lt_nat hk, cond_true, idx_gi hk, Option.bind_some, contains_ok _ _ (by omega), Option.bind_some, w64n k (by omega), sumN]
    unfold outT at h2 ⊢
    cases hc : out.contains (k : Int)
    · rw [hc] at h2
      simp only [Bool.false_eq_true, if_false] at h2 ⊢
      rw [Bool.not_false, cond_true, w64_id]
      change -9223372036854775808 ≤ sumN (outT f out) k + gi f.Factors k ∧ sumN (outT f out) k + gi f.Factors k ≤ 9223372036854775807
      omega
    · simp
  · unfold levitate_frame_carries_s0
    dsimp only
    rw [lt_nat_no]; rfl
theorem rCarries_ok {f : LevitateFrame} (h : Fr f) (out : List Int) (hl : out.length < 1000) : ref02_Carries_spec f out = some (carF f out) := by
  unfold ref02_Carries_spec
  have hn := h.n8
  have ht : ∀ i, i < f.Factors.length → 0 ≤ outT f out i * f.Current * f.Current ∧ outT f out i * f.Current * f.Current ≤ 1000000000000000 ∧ 0 ≤ outT f out i * f.Current ∧ outT f out i * f.Current ≤ 1000000000000 := fun i hi => by
    have a := outT_b h out hi
    have b := mul3 (b := f.Current) a.1 a.2 h.c0 h.c1
    omega
  rw [loop_sumE f.Factors.length (fun i => outT f out i * f.Current * f.Current)]
  · rw [Option.bind_some, need_b h]
    have e : sumN (fun i => outT f out i * f.Current * f.Current) f.Factors.length = outS f out * f.Current * f.Current := by
      rw [sumN_mul (fun i => outT f out i * f.Current), sumN_mul (outT f out)]; rfl
    rw [e]; rfl
  · intro k hk
    unfold ref02_Carries_s0
    dsimp only
    have h1 := part_b (t := fun i => outT f out i * f.Current * f.Current) (B := 1000000000000000) (by decide) (fun i hi => ⟨(ht i hi).1, (ht i hi).2.1⟩) (k := k) (by omega) hn
    have h2 := ht k hk
    rw [lt_nat hk, cond_true, has_ok _ _ (by omega), Option.bind_some, w64n k (by omega), sumN]
    cases hc : out.contains (k : Int)
    · have e : outT f out k = gi f.Factors k := by unfold outT; rw [hc]; rfl
      rw [e] at h2
      rw [Bool.not_false, cond_true, idx_gi hk, Option.bind_some, w64_id (x := gi f.Factors k * _) (by omega), w64_id (x := gi f.Factors k * _ * _) (by omega), e, w64_id (by omega)]
    · have e : outT f out k = 0 := by unfold outT; rw [hc]; rfl
      rw [e]; simp
  · unfold ref02_Carries_s0
    dsimp only
    rw [lt_nat_no]; rfl
theorem lCarries_ok {f : LevitateFrame} (h : Fr f) (out : List Int) (hl : out.length < 1000) : levitate_Carries_spec f out = some (if outE f.Factors.length (-1) out = 0 then (carF f out, 0) else (false, outE f.Factors.length (-1) out)) := by
  unfold levitate_Carries_spec
  have hn := h.n8
  have h0 : (ckF f).2 = 0 := by
    unfold ckF
    have h1 := h.n1
    rw [if_neg (by omega), if_neg (by omega)]
    have : facF f.Factors = none := fs_none.2 fun i hi => by
      have := h.fac i hi
      rw [if_pos]
      simp only [facB, Bool.and_eq_true, decide_eq_true_eq]; rw [gi_eq hi]; exact this
    rw [this]
    dsimp only
    obtain ⟨_, _, _, a1, a2, a3, a4, a5, a6, a7⟩ := h
    rw [if_pos (by simp only [lodB, gapB, curB, Bool.and_eq_true, decide_eq_true_eq]; omega), if_pos a4]
  rw [lCheckFrame_ok f (by omega), Option.bind_some, decide_eq_true h0]
  simp only [Bool.not_true, cond_false]
  have key : ∀ (r l0 : List Int) (last : Int), out = l0 ++ r → loop (levitate_Carries_s0 f out) (last, (l0.length : Int)) = some (if outE f.Factors.length last r = 0 then .inr () else .inl (false, outE f.Factors.length last r)) := by
    intro r
    induction r with
    | nil =>
      intro l0 last he
      refine loop_inr ?_
      unfold levitate_Carries_s0
      dsimp only
      rw [he, List.append_nil, lt_nat_no]; rfl
    | cons x r ih =>
      intro l0 last he
      have hlt : l0.length < out.length := by rw [he]; simp
      have hel : gi out l0.length = x := by rw [← gi_eq hlt]; simp [he]
      have st : levitate_Carries_s0 f out (last, (l0.length : Int)) = if 0 ≤ x ∧ x ≤ (f.Factors.length : Int) - 1 then (if last < x then some (.inl (x, (((l0 ++ [x]).length : Nat) : Int))) else some (.inr (.inl (false, 9)))) else some (.inr (.inl (false, 6))) := by
        unfold levitate_Carries_s0
        dsimp only
        rw [lt_nat hlt, cond_true, idx_gi hlt, Option.bind_some, hel, lwithin_ok, Option.bind_some, w64_id (x := (f.Factors.length : Int) - 1) (by omega), w64n _ (by omega)]
        simp only [lunless_ok, first2, Option.bind_some]
        by_cases h1 : 0 ≤ x ∧ x ≤ (f.Factors.length : Int) - 1
        · rw [if_pos h1, show (decide (0 ≤ x) && decide (x ≤ (f.Factors.length : Int) - 1)) = true by simp; omega]
          by_cases h2 : last < x
          · rw [decide_eq_true h2, if_pos h2]; simp
          · rw [decide_eq_false h2, if_neg h2]; rfl
        · rw [if_neg h1, show (decide (0 ≤ x) && decide (x ≤ (f.Factors.length : Int) - 1)) = false by simp; omega]; rfl
      rw [outE]
      by_cases h1 : 0 ≤ x ∧ x ≤ (f.Factors.length : Int) - 1
      · by_cases h2 : last < x
        · rw [if_pos h1, if_pos h2] at st ⊢
          rw [loop_inl st, ih (l0 ++ [x]) x (by rw [he]; simp)]
        · rw [if_pos h1, if_neg h2] at st ⊢
          rw [loop_inr st]; rfl
      · rw [if_neg h1] at st ⊢
        rw [loop_inr st]; rfl
  have k := key out [] (-1) rfl
  change loop (levitate_Carries_s0 f out) (-1, 0) = _ at k
  rw [k, Option.bind_some]
  by_cases h2 : outE f.Factors.length (-1) out = 0
  · rw [if_pos h2, if_pos h2]
    dsimp only [jn0]
    rw [lcarries_ok h out hl]; rfl
  · rw [if_neg h2, if_neg h2]; rfl

/-! ### The least set -/
def befB : List Int → List Int → Bool
  | x :: xs, y :: ys => if x = y then befB xs ys else decide (x < y)
  | [], _ :: _ => true
  | _, [] => false
theorem before_ok (a b : List Int) (ha : a.length < 1000) : base_Before_spec a b = some (befB a b) := by
  unfold base_Before_spec
  have key : ∀ (r s la lb : List Int), a = la ++ r → b = lb ++ s → la.length = lb.length → (Option.bind (loop (base_Before_s0 a b) (la.length : Int)) fun o157 => jn0 o157 fun (_ : Unit) => some (decide ((a.length : Int) < (b.length : Int)))) = some (befB r s) := by
    intro r
    induction r with
    | nil =>
      intro s la lb h1 h2 h3
      have : base_Before_s0 a b (la.length : Int) = some (.inr (.inr ())) := by
        unfold base_Before_s0
        rw [h1, List.append_nil, lt_nat_no]; rfl
      rw [loop_inr this]
      cases s with
      | nil => rw [h1, h2]; simp [jn0, befB, h3]
      | cons y ys => rw [h1, h2]; simp [jn0, befB, h3]; omega
    | cons x r ih =>
      intro s la lb h1 h2 h3
      have hla : la.length < a.length := by rw [h1]; simp
      cases s with
      | nil =>
        have : base_Before_s0 a b (la.length : Int) = some (.inr (.inr ())) := by
          unfold base_Before_s0
          rw [lt_nat hla, h2, List.append_nil, h3, lt_nat_no]; rfl
        rw [loop_inr this, h1, h2]; simp [jn0, befB, h3]; omega
      | cons y s =>
        have hlb : la.length < b.length := by rw [h2, h3]; simp
        have e1 : gi a la.length = x := by rw [← gi_eq hla]; simp [h1]
        have e2 : gi b la.length = y := by rw [← gi_eq hlb]; simp [h2, h3]
        have st : base_Before_s0 a b (la.length : Int) = if x = y then some (.inl (((la ++ [x]).length : Nat) : Int)) else some (.inr (.inl (decide (x < y)))) := by
          unfold base_Before_s0
          rw [lt_nat hla, lt_nat hlb, Bool.and_self, cond_true, idx_gi hla, Option.bind_some, idx_gi hlb, Option.bind_some, e1, e2, Option.bind_some, Option.bind_some, w64n _ (by omega)]
          by_cases hxy : x = y
          · rw [decide_eq_true hxy, if_pos hxy]; simp
          · rw [decide_eq_false hxy, if_neg hxy]; rfl
        rw [befB]
        by_cases hxy : x = y
        · rw [if_pos hxy] at st ⊢
          rw [loop_inl st]
          exact ih s (la ++ [x]) (lb ++ [y]) (by rw [h1]; simp) (by rw [h2]; simp) (by simp [h3])
        · rw [if_neg hxy] at st ⊢
          rw [loop_inr st]; rfl
  exact key a b [] [] rfl rfl rfl
theorem cmpc_ok (x y : Int) : cmp_Compare_int_spec x y = some (if x < y then -1 else if y < x then 1 else 0) := by
  unfold cmp_Compare_int_spec cmp_isNaN_int_spec
  simp only [Option.bind_some, decide_true, Bool.not_true, cond_false]
  by_cases h1 : x < y
  · rw [decide_eq_true h1, if_pos h1]; rfl
  · rw [decide_eq_false h1, if_neg h1, cond_false]
    by_cases h2 : y < x
    · rw [decide_eq_true h2, if_pos h2]; rfl
    · rw [decide_eq_false h2, if_neg h2]; rfl
theorem compare_ok (a b : List Int) (ha : a.length < 1000) : Runs (slices_Compare_int_spec a b) fun r => decide (r < 0) = befB a b := by
  unfold slices_Compare_int_spec
  have key : ∀ (r s la lb : List Int), a = la ++ r → b = lb ++ s → la.length = lb.length → Runs (Option.bind (loop (slices_Compare_int_s0 a b) (la.length : Int)) fun o144 => jn0 o144 fun (_ : Unit) => (bif (decide ((a.length : Int) < (b.length : Int))) then (some (-1)) else (some 0))) fun q => decide (q < 0) = befB r s := by
    intro r
    induction r with
    | nil =>
      intro s la lb h1 h2 h3
      have : slices_Compare_int_s0 a b (la.length : Int) = some (.inr (.inr ())) := by
        unfold slices_Compare_int_s0
        rw [h1, List.append_nil, lt_nat_no]; rfl
      rw [loop_inr this]
      cases s with
      | nil =>
        rw [decide_eq_false (show ¬ (a.length : Int) < (b.length : Int) by rw [h1, h2]; simp; omega)]
        exact Runs.some rfl
      | cons y ys =>
        rw [decide_eq_true (show (a.length : Int) < (b.length : Int) by rw [h1, h2]; simp; omega)]
        exact Runs.some rfl
    | cons x r ih =>
      intro s la lb h1 h2 h3
      have hla : la.length < a.length := by rw [h1]; simp
      have e1 : gi a la.length = x := by rw [← gi_eq hla]; simp [h1]
      cases s with
      | nil =>
        have : slices_Compare_int_s0 a b (la.length : Int) = some (.inr (.inl 1)) := by
          unfold slices_Compare_int_s0
          rw [lt_nat hla, cond_true, idx_gi hla, Option.bind_some, decide_eq_true (show (b.length : Int) ≤ (la.length : Int) by rw [h2, h3]; simp)]; rfl
        rw [loop_inr this]; exact Runs.some rfl
      | cons y s =>
        have hlb : la.length < b.length := by rw [h2, h3]; simp
        have e2 : gi b la.length = y := by rw [← gi_eq hlb]; simp [h2, h3]
        have st : slices_Compare_int_s0 a b (la.length : Int) = if x < y then some (.inr (.inl (-1))) else if y < x then some (.inr (.inl 1)) else some (.inl (((la ++ [x]).length : Nat) : Int)) := by
          unfold slices_Compare_int_s0
          rw [lt_nat hla, cond_true, idx_gi hla, Option.bind_some, decide_eq_false (show ¬ (b.length : Int) ≤ (la.length : Int) by omega), cond_false, idx_gi hlb, Option.bind_some, cmpc_ok, Option.bind_some, e1, e2, w64n _ (by omega)]
          by_cases hxy : x < y
          · rw [if_pos hxy, if_pos hxy]; rfl
          · rw [if_neg hxy, if_neg hxy]
            by_cases hyx : y < x
            · rw [if_pos hyx, if_pos hyx]; rfl
            · rw [if_neg hyx, if_neg hyx]; simp
        rw [befB]
        by_cases hxy : x < y
        · rw [if_pos hxy] at st
          rw [loop_inr st, if_neg (by omega), decide_eq_true hxy]; exact Runs.some rfl
        · rw [if_neg hxy] at st
          by_cases hyx : y < x
          · rw [if_pos hyx] at st
            rw [loop_inr st, if_neg (by omega), decide_eq_false hxy]; exact Runs.some rfl
          · rw [if_neg hyx] at st
            rw [loop_inl st, if_pos (by omega)]
            exact ih s (la ++ [x]) (lb ++ [y]) (by rw [h1]; simp) (by rw [h2]; simp) (by simp [h3])
  exact key a b [] [] rfl rfl rfl
def setL (n k : Nat) : List Int := (nums (List.range n)).filter fun x => !offB (k : Int) x
theorem setL_len (n k : Nat) : (setL n k).length ≤ n := by
  unfold setL
  refine Nat.le_trans (List.length_filter_le _ _) ?_
  rw [nums_len, List.length_range]; exact Nat.le_refl _
def fewS (f : LevitateFrame) (k : Nat) (a : List Int × Bool) : List Int × Bool :=
  if !carF f (setL f.Factors.length k) && ((!a.2 || decide ((setL f.Factors.length k).length < a.1.length)) || (decide ((setL f.Factors.length k).length = a.1.length) && befB (setL f.Factors.length k) a.1)) then (setL f.Factors.length k, true) else a
def fewR (f : LevitateFrame) : List Int × Bool := rng (fewS f) ([], false) (2 ^ f.Factors.length)
theorem pow_le256 {n : Nat} (h : n ≤ 8) : 2 ^ n ≤ 256 := by
  have : 2 ^ n ≤ 2 ^ 8 := Nat.pow_le_pow_right (by decide) h
  simpa using this
theorem shl8 {n : Nat} (h : n ≤ 8) : shlS .i64 1 (n : Int) = some ((2 ^ n : Nat) : Int) := by
  match n, h with
  | 0, _ => rfl
  | 1, _ => rfl
  | 2, _ => rfl
  | 3, _ => rfl
  | 4, _ => rfl
  | 5, _ => rfl
  | 6, _ => rfl
  | 7, _ => rfl
  | 8, _ => rfl
theorem lFewest_ok {f : LevitateFrame} (h : Fr f) : levitate_FewestOut_spec f = some (if (fewR f).2 then ((fewR f).1, 0) else ((fewR f).1, 12)) := by
  have hn := h.n8
  have hn1 := h.n1
  unfold levitate_FewestOut_spec
  have h0 : (ckF f).2 = 0 := by
    have := lCarries_ok h [] (by decide)
    unfold levitate_Carries_spec at this
    rw [lCheckFrame_ok f (by omega), Option.bind_some] at this
    cases hd : decide ((ckF f).2 = 0) with
    | true => exact of_decide_eq_true hd
    | false =>
      rw [hd] at this
      simp only [Bool.not_false, cond_true] at this
      have e := Option.some.inj this
      rw [show outE f.Factors.length (-1) [] = 0 from rfl, if_pos rfl] at e
      exact congrArg Prod.snd e
  rw [lCheckFrame_ok f (by omega), Option.bind_some, decide_eq_true h0]
  simp only [Bool.not_true, cond_false]
  rw [shl8 hn, Option.bind_some]
  have hp := pow_le256 hn
  have key := loop_rng (step := levitate_FewestOut_s0 f ((2 ^ f.Factors.length : Nat) : Int)) (2 ^ f.Factors.length) (fewS f) (fun (a : List Int × Bool) (k : Nat) => (a.1, a.2, (k : Int))) (fun a => a) (fun a _ => a.1.length ≤ 8) ([], false) (by decide)
    (by
      rintro k hk ⟨bst, fnd⟩ ha
      dsimp only at ha
      have hsl := setL_len f.Factors.length k
      constructor
      · unfold levitate_FewestOut_s0
        dsimp only
        rw [lt_nat hk, cond_true, numbers_ok _ (by omega), Option.bind_some]
        rw [delF_eq (ys := setL f.Factors.length k) (fun e he => by
          unfold nums at he
          rw [List.mem_map] at he
          obtain ⟨j, hj, rfl⟩ := he
          have := List.mem_range.1 hj
          omega) (by rw [nums_len, List.length_range]; omega) (by rw [nums_len, List.length_range]; omega) rfl, Option.bind_some]
        rw [w64n k (by omega)]
        obtain ⟨c, hc, hc2⟩ := compare_ok (setL f.Factors.length k) bst (by omega)
        rw [lcarries_ok h _ (by omega), hc]
        have hd : decide (((setL f.Factors.length k).length : Int) < (bst.length : Int)) = decide ((setL f.Factors.length k).length < bst.length) := by
          rw [Bool.eq_iff_iff]; simp
        have hd2 : decide (((setL f.Factors.length k).length : Int) = (bst.length : Int)) = decide ((setL f.Factors.length k).length = bst.length) := len_dec _ _
        rw [hd, hd2]
        unfold fewS
        cases fnd <;> cases decide ((setL f.Factors.length k).length < bst.length) <;> cases decide ((setL f.Factors.length k).length = bst.length) <;> cases hcf : carF f (setL f.Factors.length k) <;> cases hbf : befB (setL f.Factors.length k) bst <;> rw [hbf] at hc2 <;> simp [hc2]
      · unfold fewS
        split
        · show (setL f.Factors.length k).length ≤ 8; omega
        · exact ha)
    (by
      intro a ha
      unfold levitate_FewestOut_s0
      dsimp only
      rw [lt_nat_no]; rfl)
  have k1 := key.1
  change loop (levitate_FewestOut_s0 f ((2 ^ f.Factors.length : Nat) : Int)) ([], false, 0) = _ at k1
  rw [k1, Option.bind_some, lunless_ok]
  change Option.bind (some (bif (fewR f).2 then 0 else 12)) (fun r410 => some ((fewR f).1, r410)) = _
  cases (fewR f).2 <;> rfl
theorem rFewest_ok {f : LevitateFrame} (h : Fr f) : ref02_FewestOut_spec f = some (fewR f) := by
  have hn := h.n8
  have hn1 := h.n1
  unfold ref02_FewestOut_spec
  have hp := pow_le256 hn
  have key := loop_rng (step := ref02_FewestOut_s1 f) (2 ^ f.Factors.length) (fewS f) (fun (a : List Int × Bool) (k : Nat) => (a.1, a.2, (k : Int))) (fun a => a) (fun a _ => a.1.length ≤ 8) ([], false) (by decide)
    (by
      rintro k hk ⟨bst, fnd⟩ ha
      dsimp only at ha
      have hsl := setL_len f.Factors.length k
      constructor
      · unfold ref02_FewestOut_s1
        dsimp only
        rw [shl8 hn, Option.bind_some, lt_nat hk, cond_true]
        have hin : loop (ref02_FewestOut_s0 f (k : Int)) (([] : List Int), 0) = some (setL f.Factors.length k) := by
          have kk : ∀ j, j ≤ f.Factors.length → loop (ref02_FewestOut_s0 f (k : Int)) (([] : List Int), 0) = loop (ref02_FewestOut_s0 f (k : Int)) (setL j k, (j : Int)) := by
            intro j
            induction j with
            | zero => intro _; rfl
            | succ j ih =>
              intro hj
              rw [ih (by omega)]
              refine loop_inl ?_
              unfold ref02_FewestOut_s0
              dsimp only
              have hjl := setL_len j k
              have es : shrS .i64 (k : Int) (j : Int) = some ((k : Int).fdiv (2 ^ j)) := by
                unfold shrS
                have : ((IntKind.i64.bits : Nat) : Int) = 64 := by decide
                rw [if_pos (by omega), Int.toNat_natCast]
              have hfd : (k : Int).fdiv (2 ^ j) = ((k / 2 ^ j : Nat) : Int) := by
                rw [Int.fdiv_eq_ediv_of_nonneg _ (Int.pow_nonneg (by decide)), Int.natCast_ediv, Int.natCast_pow]; rfl
              have hle : k / 2 ^ j ≤ k := Nat.div_le_self _ _
              generalize k / 2 ^ j = Q at hfd hle
              have e2 : setL (j + 1) k = setL j k ++ (if offB (k : Int) (j : Int) then [] else [(j : Int)]) := by
                unfold setL nums
                rw [List.range_succ, List.map_append, List.filter_append]
                congr 1
                cases ho : offB (k : Int) (j : Int) <;> simp [ho]
              have hof : offB (k : Int) (j : Int) = decide (((Q : Nat) : Int) % 2 = 0) := by
                unfold offB
                rw [Int.toNat_natCast, hfd, andI1 (by omega)]
              rw [lt_nat (by omega), cond_true, es, Option.bind_some, hfd, andI1 (by omega), app_ok (by simp; omega), Option.bind_some, w64n j (by omega), e2, hof]
              by_cases h2 : ((Q : Nat) : Int) % 2 = 0
              · rw [decide_eq_true h2, decide_eq_false (by omega)]; simp
              · rw [decide_eq_false h2, decide_eq_true (by omega)]; simp
          rw [kk _ (Nat.le_refl _)]
          refine loop_inr ?_
          unfold ref02_FewestOut_s0
          dsimp only
          rw [lt_nat_no]; rfl
        rw [hin, Option.bind_some, rCarries_ok h _ (by omega), Option.bind_some, before_ok _ _ (by omega), w64n k (by omega)]
        have hd : decide (((setL f.Factors.length k).length : Int) < (bst.length : Int)) = decide ((setL f.Factors.length k).length < bst.length) := by
          rw [Bool.eq_iff_iff]; simp
        have hd2 : decide (((setL f.Factors.length k).length : Int) = (bst.length : Int)) = decide ((setL f.Factors.length k).length = bst.length) := len_dec _ _
        rw [hd, hd2]
        unfold fewS
        cases fnd <;> cases decide ((setL f.Factors.length k).length < bst.length) <;> cases decide ((setL f.Factors.length k).length = bst.length) <;> cases hcf : carF f (setL f.Factors.length k) <;> cases hbf : befB (setL f.Factors.length k) bst <;> simp
      · unfold fewS
        split
        · show (setL f.Factors.length k).length ≤ 8; omega
        · exact ha)
    (by
      intro a ha
      unfold ref02_FewestOut_s1
      dsimp only
      rw [shl8 hn, Option.bind_some, lt_nat_no]; rfl)
  have k1 := key.1
  change loop (ref02_FewestOut_s1 f) ([], false, 0) = _ at k1
  rw [k1, Option.bind_some]; rfl
theorem rng_inv {γ : Type} {f : Nat → γ → γ} {a : γ} (P : γ → Prop) (h0 : P a) (hs : ∀ k a, P a → P (f k a)) : ∀ n, P (rng f a n)
  | 0 => h0
  | n + 1 => hs _ _ (rng_inv P h0 hs n)
theorem fewR_inv (f : LevitateFrame) : (fewR f).1.length ≤ f.Factors.length ∧ ((fewR f).2 = false → (fewR f).1 = []) := by
  refine rng_inv (fun a : List Int × Bool => a.1.length ≤ f.Factors.length ∧ (a.2 = false → a.1 = [])) ⟨Nat.zero_le _, fun _ => rfl⟩ (fun k a ha => ?_) _
  unfold fewS
  split
  · exact ⟨setL_len _ _, fun h => by cases h⟩
  · exact ha

/-! ### Fewer magnets out -/
theorem outE_sub {n : Int} : ∀ {l : List Int} {last : Int} (i : Nat), outE n last l = 0 → outE n last (l.eraseIdx i) = 0
  | [], _, _, _ => rfl
  | x :: xs, last, i, h => by
    rw [outE] at h
    split at h
    · rename_i h1
      split at h
      · rename_i h2
        cases i with
        | zero =>
          rw [List.eraseIdx_cons_zero]
          cases xs with
          | nil => rfl
          | cons y ys =>
            rw [outE] at h ⊢
            split at h
            · rename_i h3
              split at h
              · rename_i h4
                rw [if_pos h3, if_pos (by omega)]; exact h
              · omega
            · omega
        | succ i =>
          rw [List.eraseIdx_cons_succ, outE, if_pos h1, if_pos h2]
          exact outE_sub i h
      · omega
    · omega
theorem carF_sub {f : LevitateFrame} (h : Fr f) {out fewer : List Int} (hs : ∀ x ∈ fewer, x ∈ out) (hc : carF f out = true) : carF f fewer = true := by
  unfold carF at hc ⊢
  rw [decide_eq_true_eq] at hc ⊢
  have h1 : outS f out ≤ outS f fewer := sumN_le fun i hi => by
    have := h.fac i hi
    by_cases hm : (i : Int) ∈ fewer
    · rw [if_pos (List.contains_iff_mem.2 (hs _ hm)), if_pos (List.contains_iff_mem.2 hm)]; exact Int.le_refl _
    · have : ¬ fewer.contains (i : Int) = true := fun hh => hm (List.contains_iff_mem.1 hh)
      rw [if_neg this]
      split <;> omega
  have h2 := outS_b h out
  have h3 : outS f out * f.Current ≤ outS f fewer * f.Current := Int.mul_le_mul_of_nonneg_right h1 h.c0
  have h4 := Int.mul_le_mul_of_nonneg_right h3 h.c0
  omega
theorem LevitateFrames_true (f : LevitateFrame) (out : List Int) : law02_LevitateFrames_spec f out = some true := by
  refine Runs.eq ?_
  unfold law02_LevitateFrames_spec
  refine Runs.call awake_ok ?_
  refine Runs.bif_f rfl ?_
  refine Runs.bif (fun _ => Runs.some rfl) fun hc => ?_
  simp only [Bool.or_eq_false_iff, decide_eq_false_iff_not] at hc
  obtain ⟨hf, ho⟩ := hc
  refine Runs.call (CopyFrame_ok f (by omega)) ?_
  refine Runs.call (lCheckFrame_ok f (by omega)) ?_
  refine Runs.call (CopyFrame_ok f (by omega)) ?_
  refine Runs.call (CopyInts_ok out (by omega)) ?_
  by_cases h0 : (ckF f).2 = 0
  · obtain ⟨h, hck⟩ := ckF_right h0
    refine Runs.call (lCarries_ok h out (by omega)) ?_
    refine Runs.call (CopyFrame_ok f (by omega)) ?_
    refine Runs.call (lFewest_ok h) ?_
    refine Runs.call (rCheckFrame_ok f (by omega)) ?_
    refine Runs.bif_f (by simp) ?_
    rw [decide_eq_true h0]
    refine Runs.bif_f rfl ?_
    refine Runs.call (rFewest_ok h) ?_
    have hfl := (fewR_inv f).1
    have tail : Runs (Option.bind (ref02_OutErr_spec f out) fun r165 =>
            (bif (!decide (r165 = 0)) then (
              some ((decide ((if outE f.Factors.length (-1) out = 0 then (carF f out, 0) else (false, outE f.Factors.length (-1) out)).2 = r165)) && (!(if outE f.Factors.length (-1) out = 0 then (carF f out, 0) else (false, outE f.Factors.length (-1) out)).1))
            ) else (
              (Option.bind (bif (!(!decide ((if outE f.Factors.length (-1) out = 0 then (carF f out, 0) else (false, outE f.Factors.length (-1) out)).2 = 0))) then ref02_Carries_spec f out else some default) fun r183 =>
              (bif ((!decide ((if outE f.Factors.length (-1) out = 0 then (carF f out, 0) else (false, outE f.Factors.length (-1) out)).2 = 0)) || (!((if outE f.Factors.length (-1) out = 0 then (carF f out, 0) else (false, outE f.Factors.length (-1) out)).1 == r183))) then (
                some false
              ) else (
                (Option.bind (loop (law02_LevitateFrames_s0 f out (if outE f.Factors.length (-1) out = 0 then (carF f out, 0) else (false, outE f.Factors.length (-1) out))) 0) fun o455 => jn0 o455 fun (_ : Unit) =>
                some true
                )
              ))
              )
            ))
            ) (· = true) := by
      refine Runs.call (rOutErr_ok f h out (by omega)) ?_
      by_cases hoe : outE f.Factors.length (-1) out = 0
      · rw [if_pos hoe, decide_eq_true hoe]
        refine Runs.bif_f rfl ?_
        refine Runs.call (b := carF f out) ?_ ?_
        · exact rCarries_ok h out (by omega)
        refine Runs.bif_f (by simp) ?_
        refine Runs.callR (R := fun o => o = .inr ()) ?_ (fun o ho => by subst ho; exact Runs.jr (Runs.some rfl))
        refine Runs.loop (fun s => ∃ k : Nat, s = (k : Int) ∧ k ≤ out.length) (fun s => out.length - s.toNat) ⟨0, rfl, Nat.zero_le _⟩ ?_
        rintro _ ⟨k, rfl, hk⟩
        unfold law02_LevitateFrames_s0
        by_cases hlt : k < out.length
        · cases hcf : carF f out with
          | false => rw [lt_nat hlt]; exact Runs.some rfl
          | true =>
            rw [lt_nat hlt, Bool.and_self, cond_true, w64n k (by omega)]
            have c1 : cut out 0 (k : Int) = some (out.take k) := by
              unfold cut; rw [if_pos (by omega), Int.toNat_natCast]; rfl
            have c2 : cut out ((k + 1 : Nat) : Int) (out.length : Int) = some (out.drop (k + 1)) := by
              unfold cut; rw [if_pos (by omega), Int.toNat_natCast, Int.toNat_natCast, List.take_length]
            rw [c1, Option.bind_some, c2, Option.bind_some, CopyInts_ok _ (by simp; omega), Option.bind_some, app_ok (by simp; omega), Option.bind_some, CopyFrame_ok f (by omega), Option.bind_some]
            have he : out.take k ++ out.drop (k + 1) = out.eraseIdx k := by rw [List.eraseIdx_eq_take_drop_succ]
            have hel : (out.eraseIdx k).length < 1000 := by rw [← he]; simp; omega
            rw [he, lCarries_ok h _ hel, Option.bind_some, if_pos (outE_sub k hoe), carF_sub h (fun x hx => List.mem_of_mem_eraseIdx hx) hcf]
            exact Runs.some ⟨⟨k + 1, rfl, by omega⟩, by dsimp only; omega⟩
        · obtain rfl : k = out.length := by omega
          rw [lt_nat_no]; exact Runs.some rfl
      · rw [if_neg hoe, decide_eq_false hoe]
        exact Runs.bif_t rfl (Runs.some (by simp))
    cases hfr : (fewR f).2 with
    | true =>
      simp only [if_true, decide_true, Bool.not_true, Bool.not_false, Bool.and_self, cond_true]
      rw [Ints_ok _ _ (by omega)]
      refine Runs.call rfl ?_
      refine Runs.bif_f (by simp) ?_
      exact tail
    | false =>
      have := (fewR_inv f).2 hfr
      refine Runs.call rfl ?_
      refine Runs.bif_f (by simp [this]) ?_
      exact tail
  · have hc : levitate_Carries_spec f out = some (false, (ckF f).2) := by
      unfold levitate_Carries_spec
      rw [lCheckFrame_ok f (by omega), Option.bind_some, decide_eq_false h0]; rfl
    have hw : levitate_FewestOut_spec f = some ([], (ckF f).2) := by
      unfold levitate_FewestOut_spec
      rw [lCheckFrame_ok f (by omega), Option.bind_some, decide_eq_false h0]; rfl
    refine Runs.call hc ?_
    refine Runs.call (CopyFrame_ok f (by omega)) ?_
    refine Runs.call hw ?_
    refine Runs.call (rCheckFrame_ok f (by omega)) ?_
    refine Runs.bif_f (by simp) ?_
    rw [decide_eq_false h0]
    exact Runs.bif_t rfl (Runs.some (by simp))
end Go.Gw
