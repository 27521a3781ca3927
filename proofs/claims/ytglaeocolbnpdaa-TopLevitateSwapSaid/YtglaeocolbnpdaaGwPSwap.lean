/- TopLevitateSwap answers true. Condition: none. -/
import Derived.Test.YtglaeocolbnpdaaGwLev8
import Derived.Test.YtglaeocolbnpdaaGwLawTopLevitateSwap
set_option maxRecDepth 8192
set_option linter.unusedSimpArgs false
set_option linter.unusedVariables false
namespace Go.Gw
open Go

/-! ### The plant in the opposite order -/
def rvP (p : LevitatePlant) : LevitatePlant := ⟨p.Den, p.Maps.map crs, p.Noise.reverse⟩
theorem rvP_n (p : LevitatePlant) : (rvP p).Noise.length = p.Noise.length := by simp [rvP]
theorem rvP_m (p : LevitatePlant) : (rvP p).Maps.length = p.Maps.length := by simp [rvP]
theorem mem_crs {f : List (List Int)} {r : List Int} (h : r ∈ crs f) : ∃ r0 ∈ f, r = r0.reverse := by
  unfold crs at h
  rw [List.mem_reverse, List.mem_map] at h
  obtain ⟨r0, h0, rfl⟩ := h; exact ⟨r0, h0, rfl⟩
theorem rvP_right {p : LevitatePlant} (h : Rp p) : Rp (rvP p) where
  den := h.den
  n1 := by rw [rvP_n]; exact h.n1
  n3 := by rw [rvP_n]; exact h.n3
  noise := fun x hx => h.noise x (by simpa [rvP] using hx)
  m1 := by rw [rvP_m]; exact h.m1
  m4 := by rw [rvP_m]; exact h.m4
  sq := fun m hm => by
    obtain ⟨m0, h0, rfl⟩ := List.mem_map.1 hm
    rw [crs_len, rvP_n]; exact h.sq m0 h0
  row := fun m hm r hr => by
    obtain ⟨m0, h0, rfl⟩ := List.mem_map.1 hm
    obtain ⟨r0, h1, rfl⟩ := mem_crs hr
    rw [List.length_reverse, rvP_n]; exact h.row m0 h0 r0 h1
  ent := fun m hm r hr x hx => by
    obtain ⟨m0, h0, rfl⟩ := List.mem_map.1 hm
    obtain ⟨r0, h1, rfl⟩ := mem_crs hr
    exact h.ent m0 h0 r0 h1 x (by simpa using hx)
theorem gm_rv {p : LevitatePlant} {m : Nat} (hm : m < p.Maps.length) : gm (rvP p) m = crs (gm p m) := by
  rw [← gm_eq (by rw [rvP_m]; exact hm), ← gm_eq hm]; simp [rvP]
theorem Rp.sqm {p : LevitatePlant} (h : Rp p) {m : Nat} (hm : m < p.Maps.length) : Sq p.Noise.length (gm p m) := ⟨h.sq _ (gm_mem hm), fun i hi => h.row_len hm hi⟩
theorem ge_rv {p : LevitatePlant} (h : Rp p) {m i k : Nat} (hm : m < p.Maps.length) (hi : i < p.Noise.length) (hk : k < p.Noise.length) : ge (rvP p) m i k = ge p m (p.Noise.length - 1 - i) (p.Noise.length - 1 - k) := by
  unfold ge
  rw [gm_rv hm]
  exact g2_crs (h.sqm hm) hi hk
theorem noise_rv {p : LevitatePlant} {i : Nat} (hi : i < p.Noise.length) : gi (rvP p).Noise i = gi p.Noise (p.Noise.length - 1 - i) := gi_rev hi
theorem need_rv {p : LevitatePlant} (h : Rp p) {m i : Nat} (hm : m < p.Maps.length) (hi : i < p.Noise.length) {K K' : List Int} (hK : ∀ k, k < p.Noise.length → gi K' k = gi K (p.Noise.length - 1 - k)) : needI (rvP p) m i K' = needI p m (p.Noise.length - 1 - i) K := by
  unfold needI
  have hr : reach (rvP p) m i K' = reach p m (p.Noise.length - 1 - i) K := by
    unfold reach
    rw [rvP_n, ← sumN_rev (t := fun k => ((ge p m (p.Noise.length - 1 - i) k).natAbs : Int) * gi K k)]
    exact sumN_congr fun k hk => by rw [ge_rv h hm hi hk, hK k hk]
  rw [hr, noise_rv hi]; rfl
theorem kept_rv {p : LevitatePlant} (h : Rp p) {K K' : List Int} (hK : ∀ k, k < p.Noise.length → gi K' k = gi K (p.Noise.length - 1 - k)) (hk : Kept p K) : Kept (rvP p) K' := by
  intro m hm i hi
  rw [rvP_m] at hm
  rw [rvP_n] at hi
  rw [need_rv h hm hi hK, hK i hi]
  exact hk m hm _ (by omega)
theorem kept_rv' {p : LevitatePlant} (h : Rp p) {K K' : List Int} (hK : ∀ k, k < p.Noise.length → gi K' k = gi K (p.Noise.length - 1 - k)) (hk : Kept (rvP p) K') : Kept p K := by
  intro m hm i hi
  have h1 := hk m (by rw [rvP_m]; exact hm) (p.Noise.length - 1 - i) (by rw [rvP_n]; omega)
  rw [need_rv h hm (by omega) hK, hK _ (by omega)] at h1
  have e : p.Noise.length - 1 - (p.Noise.length - 1 - i) = i := by omega
  rwa [e] at h1
theorem LbR_rv {p : LevitatePlant} (h : Rp p) {start : List Int} (hs : start.length = p.Noise.length) {r : List Int × Int} (hr : LbR p start r) : LbR (rvP p) start.reverse (r.1.reverse, r.2) := by
  have hst : ∀ k, k < p.Noise.length → gi start.reverse k = gi start (p.Noise.length - 1 - k) := fun k hk => by rw [gi_rev (by omega), hs]
  have inv : ∀ k, k < p.Noise.length → p.Noise.length - 1 - (p.Noise.length - 1 - k) = k := fun k hk => by omega
  rcases hr with ⟨h1, h2⟩ | ⟨h1, h2⟩
  · have hb : ∀ k, k < p.Noise.length → gi r.1.reverse k = gi r.1 (p.Noise.length - 1 - k) := fun k hk => by rw [gi_rev (by rw [h2.len]; exact hk), h2.len]
    refine .inl ⟨h1, by rw [List.length_reverse, rvP_n]; exact h2.len, fun k hk => ?_, fun k hk => ?_, kept_rv h hb h2.kept, fun K hK hsK k hk => ?_⟩
    · rw [rvP_n] at hk
      rw [hst k hk, hb k hk]; exact h2.from_ _ (by omega)
    · rw [rvP_n] at hk
      rw [hb k hk]; exact h2.le _ (by omega)
    · rw [rvP_n] at hk hsK
      have hT : ∀ k, k < p.Noise.length → gi K k = gi (tab p.Noise.length fun k => gi K (p.Noise.length - 1 - k)) (p.Noise.length - 1 - k) := fun k hk => by rw [gi_tab (by omega), inv k hk]
      have h3 := h2.least _ (kept_rv' h hT hK) (fun j hj => by
        have := hsK (p.Noise.length - 1 - j) (by omega)
        rw [hst _ (by omega), inv j hj] at this
        rw [gi_tab hj]; exact this) (p.Noise.length - 1 - k) (by omega)
      rw [← hT k hk] at h3
      rw [hb k hk]; exact h3
  · subst h1
    refine .inr ⟨rfl, fun K hK hsK hle => ?_⟩
    rw [rvP_n] at hsK hle
    have hT : ∀ k, k < p.Noise.length → gi K k = gi (tab p.Noise.length fun k => gi K (p.Noise.length - 1 - k)) (p.Noise.length - 1 - k) := fun k hk => by rw [gi_tab (by omega), inv k hk]
    refine h2 _ (kept_rv' h hT hK) (fun j hj => ?_) (fun j hj => ?_)
    · have := hsK (p.Noise.length - 1 - j) (by omega)
      rw [hst _ (by omega), inv j hj] at this
      rw [gi_tab hj]; exact this
    · rw [gi_tab hj]; exact hle _ (by omega)

/-! ### The form in the opposite order -/
theorem crs_right {f : List (List Int)} (hf : Rf f) : Rf (crs f) where
  n1 := by rw [crs_len]; exact hf.n1
  n3 := by rw [crs_len]; exact hf.n3
  sq := by rw [crs_len]; exact sq_crs hf.sq
  bd := fun i k hi hk => by rw [crs_len] at hi hk; rw [g2_crs hf.sq hi hk]; exact hf.bd _ _ (by omega) (by omega)
  sym := fun i k hi hk => by rw [crs_len] at hi hk; rw [g2_crs hf.sq hi hk, g2_crs hf.sq hk hi]; exact hf.sym _ _ (by omega) (by omega)
/-- Entries that lie the other way round. -/
def Mir (n : Nat) (f f' : List (List Int)) : Prop := ∀ i k, i < n → k < n → g2 f' i k = g2 f (n - 1 - i) (n - 1 - k)
theorem det_full {n : Nat} (h1 : 1 ≤ n) (h3 : n ≤ 3) {f f' : List (List Int)} (h : Mir n f f') : detL f' (List.range n) = detL f (List.range n) := by
  match n, h1, h3, h with
  | 1, _, _, h => show g2 f' 0 0 = g2 f 0 0; exact h 0 0 (by decide) (by decide)
  | 2, _, _, h =>
    show g2 f' 0 0 * g2 f' 1 1 - g2 f' 0 1 * g2 f' 1 0 = g2 f 0 0 * g2 f 1 1 - g2 f 0 1 * g2 f 1 0
    have e00 : g2 f' 0 0 = g2 f 1 1 := h 0 0 (by decide) (by decide)
    have e01 : g2 f' 0 1 = g2 f 1 0 := h 0 1 (by decide) (by decide)
    have e10 : g2 f' 1 0 = g2 f 0 1 := h 1 0 (by decide) (by decide)
    have e11 : g2 f' 1 1 = g2 f 0 0 := h 1 1 (by decide) (by decide)
    rw [e00, e01, e10, e11]; grind
  | 3, _, _, h =>
    have e00 : g2 f' 0 0 = g2 f 2 2 := h 0 0 (by decide) (by decide)
    have e01 : g2 f' 0 1 = g2 f 2 1 := h 0 1 (by decide) (by decide)
    have e02 : g2 f' 0 2 = g2 f 2 0 := h 0 2 (by decide) (by decide)
    have e10 : g2 f' 1 0 = g2 f 1 2 := h 1 0 (by decide) (by decide)
    have e11 : g2 f' 1 1 = g2 f 1 1 := h 1 1 (by decide) (by decide)
    have e12 : g2 f' 1 2 = g2 f 1 0 := h 1 2 (by decide) (by decide)
    have e20 : g2 f' 2 0 = g2 f 0 2 := h 2 0 (by decide) (by decide)
    have e21 : g2 f' 2 1 = g2 f 0 1 := h 2 1 (by decide) (by decide)
    have e22 : g2 f' 2 2 = g2 f 0 0 := h 2 2 (by decide) (by decide)
    show detL f' [0, 1, 2] = detL f [0, 1, 2]
    simp only [detL, e00, e01, e02, e10, e11, e12, e20, e21, e22]; grind
theorem det_pair {n : Nat} {f f' : List (List Int)} (h : Mir n f f') {a b : Nat} (ha : a < n) (hb : b < n) : detL f' [a, b] = detL f [n - 1 - b, n - 1 - a] := by
  simp only [detL]
  rw [h a a ha ha, h b b hb hb, h a b ha hb, h b a hb ha]; grind
theorem det_one {n : Nat} {f f' : List (List Int)} (h : Mir n f f') {a : Nat} (ha : a < n) : detL f' [a] = detL f [n - 1 - a] := h a a ha ha
theorem det_but {n : Nat} (h1 : 1 ≤ n) (h3 : n ≤ 3) {f f' : List (List Int)} (h : Mir n f f') {i : Nat} (hi : i < n) : detL f' (butL n i) = detL f (butL n (n - 1 - i)) := by
  match n, h1, h3, h, i, hi with
  | 1, _, _, h, 0, _ => rfl
  | 2, _, _, h, 0, _ => exact det_one h (a := 1) (by decide)
  | 2, _, _, h, 1, _ => exact det_one h (a := 0) (by decide)
  | 3, _, _, h, 0, _ => exact det_pair h (a := 1) (b := 2) (by decide) (by decide)
  | 3, _, _, h, 1, _ => exact det_pair h (a := 0) (b := 2) (by decide) (by decide)
  | 3, _, _, h, 2, _ => exact det_pair h (a := 0) (b := 1) (by decide) (by decide)
theorem nev_mir {n : Nat} (h1 : 1 ≤ n) (h3 : n ≤ 3) {f f' : List (List Int)} (h : Mir n f f') : nevB n f' = nevB n f := by
  have hd := det_full h1 h3 h
  match n, h1, h3, h, hd with
  | 1, _, _, h, hd =>
    have a0 : detL f' [0] = detL f [0] := det_one h (a := 0) (by decide)
    simp only [nevB, setsOf, List.all_cons, List.all_nil, a0]
  | 2, _, _, h, hd =>
    have a0 : detL f' [0] = detL f [1] := det_one h (a := 0) (by decide)
    have a1 : detL f' [1] = detL f [0] := det_one h (a := 1) (by decide)
    change detL f' [0, 1] = detL f [0, 1] at hd
    simp only [nevB, setsOf, List.all_cons, List.all_nil, a0, a1, hd]
    cases decide (0 ≤ detL f [0]) <;> cases decide (0 ≤ detL f [1]) <;> rfl
  | 3, _, _, h, hd =>
    have a0 : detL f' [0] = detL f [2] := det_one h (a := 0) (by decide)
    have a1 : detL f' [1] = detL f [1] := det_one h (a := 1) (by decide)
    have a2 : detL f' [2] = detL f [0] := det_one h (a := 2) (by decide)
    have a01 : detL f' [0, 1] = detL f [1, 2] := det_pair h (a := 0) (b := 1) (by decide) (by decide)
    have a02 : detL f' [0, 2] = detL f [0, 2] := det_pair h (a := 0) (b := 2) (by decide) (by decide)
    have a12 : detL f' [1, 2] = detL f [0, 1] := det_pair h (a := 1) (b := 2) (by decide) (by decide)
    change detL f' [0, 1, 2] = detL f [0, 1, 2] at hd
    simp only [nevB, setsOf, List.all_cons, List.all_nil, a0, a1, a2, a01, a02, a12, hd]
    cases decide (0 ≤ detL f [0]) <;> cases decide (0 ≤ detL f [1]) <;> cases decide (0 ≤ detL f [2]) <;> cases decide (0 ≤ detL f [0, 1]) <;> cases decide (0 ≤ detL f [0, 2]) <;> cases decide (0 ≤ detL f [1, 2]) <;> rfl
theorem sq_nonneg (x : Int) : 0 ≤ x * x := by
  rcases Int.le_total 0 x with h | h
  · exact Int.mul_nonneg h h
  · exact Int.mul_nonneg_of_nonpos_of_nonpos h h
theorem pos_of_mul {a b : Int} (ha : 0 < a) (h : 0 < a * b) : 0 < b := by
  apply Classical.byContradiction
  intro hb
  have := Int.mul_nonpos_of_nonneg_of_nonpos (Int.le_of_lt ha) (show b ≤ 0 by omega)
  omega
/-- Where the first ones are above 0 so are the last ones. -/
theorem sylv {a b c d e f : Int} (h1 : 0 < a) (h2 : 0 < a * d - b * b) (h3 : 0 < a * (d * f - e * e) + b * (e * c - b * f) + c * (b * e - d * c)) : 0 < f ∧ 0 < f * d - e * e := by
  have hb := sq_nonneg b
  have hd : 0 < d := pos_of_mul h1 (by omega)
  have hid : (a * d - b * b) * (d * f - e * e) = d * (a * (d * f - e * e) + b * (e * c - b * f) + c * (b * e - d * c)) + (b * e - d * c) * (b * e - d * c) := by grind
  have hs := sq_nonneg (b * e - d * c)
  have hp := Int.mul_pos hd h3
  have hm : 0 < d * f - e * e := pos_of_mul h2 (by omega)
  have he := sq_nonneg e
  have hf : 0 < f := pos_of_mul hd (by omega)
  exact ⟨hf, by rw [Int.mul_comm f d]; exact hm⟩
theorem posB_iff {f : List (List Int)} : posB f = true ↔ ∀ k, k < f.length → 0 < detL f (List.range (k + 1)) := by
  unfold posB
  rw [List.all_eq_true]
  simp only [List.mem_range, decide_eq_true_eq]
theorem pos_mir {n : Nat} (h1 : 1 ≤ n) (h3 : n ≤ 3) {f f' : List (List Int)} (h : Mir n f f') (hn : f.length = n) (hn' : f'.length = n) (hs : ∀ i k, i < n → k < n → g2 f k i = g2 f i k) (hp : posB f = true) : posB f' = true := by
  rw [posB_iff] at hp ⊢
  rw [hn] at hp
  rw [hn']
  have hd := det_full h1 h3 h
  match n, h1, h3, h, hs, hp, hd with
  | 1, _, _, h, hs, hp, hd =>
    intro k hk
    obtain rfl : k = 0 := by omega
    rw [hd]; exact hp 0 (by decide)
  | 2, _, _, h, hs, hp, hd =>
    have p1 : 0 < g2 f 0 0 := hp 0 (by decide)
    have p2 : 0 < g2 f 0 0 * g2 f 1 1 - g2 f 0 1 * g2 f 1 0 := hp 1 (by decide)
    have s : g2 f 1 0 = g2 f 0 1 := hs 0 1 (by decide) (by decide)
    intro k hk
    match k, hk with
    | 0, _ =>
      have e : detL f' (List.range 1) = g2 f 1 1 := det_one h (a := 0) (by decide)
      rw [e]
      rw [s] at p2
      have := sq_nonneg (g2 f 0 1)
      exact pos_of_mul p1 (by omega)
    | 1, _ => rw [hd]; exact p2
  | 3, _, _, h, hs, hp, hd =>
    have p1 : 0 < g2 f 0 0 := hp 0 (by decide)
    have p2 : 0 < g2 f 0 0 * g2 f 1 1 - g2 f 0 1 * g2 f 1 0 := hp 1 (by decide)
    have p3 : 0 < detL f [0, 1, 2] := hp 2 (by decide)
    have s1 : g2 f 1 0 = g2 f 0 1 := hs 0 1 (by decide) (by decide)
    have s2 : g2 f 2 0 = g2 f 0 2 := hs 0 2 (by decide) (by decide)
    have s3 : g2 f 2 1 = g2 f 1 2 := hs 1 2 (by decide) (by decide)
    simp only [detL, s1, s2, s3] at p3
    rw [s1] at p2
    have hsy := sylv (a := g2 f 0 0) (b := g2 f 0 1) (c := g2 f 0 2) (d := g2 f 1 1) (e := g2 f 1 2) (f := g2 f 2 2) p1 p2 (by
      have e : g2 f 0 0 * (g2 f 1 1 * g2 f 2 2 - g2 f 1 2 * g2 f 1 2) + g2 f 0 1 * (g2 f 1 2 * g2 f 0 2 - g2 f 0 1 * g2 f 2 2) + g2 f 0 2 * (g2 f 0 1 * g2 f 1 2 - g2 f 1 1 * g2 f 0 2) = g2 f 0 0 * (g2 f 1 1 * g2 f 2 2 - g2 f 1 2 * g2 f 1 2) + g2 f 0 1 * (g2 f 1 2 * g2 f 0 2 - g2 f 0 1 * g2 f 2 2) + g2 f 0 2 * (g2 f 0 1 * g2 f 1 2 - g2 f 1 1 * g2 f 0 2) := rfl
      omega)
    intro k hk
    match k, hk with
    | 0, _ =>
      have e : detL f' (List.range 1) = g2 f 2 2 := det_one h (a := 0) (by decide)
      rw [e]; exact hsy.1
    | 1, _ =>
      have e : detL f' (List.range 2) = detL f [1, 2] := det_pair h (a := 0) (b := 1) (by decide) (by decide)
      rw [e]
      simp only [detL, s3]
      rw [Int.mul_comm]; exact hsy.2
    | 2, _ => rw [hd]; exact hp 2 (by decide)
theorem mir_symm {n : Nat} {f f' : List (List Int)} (h : Mir n f f') : Mir n f' f := fun i k hi hk => by
  rw [h _ _ (by omega) (by omega)]; congr 1 <;> omega
theorem mir_crs {f : List (List Int)} (hf : Rf f) : Mir f.length f (crs f) := fun i k hi hk => g2_crs hf.sq hi hk
theorem posB_crs {f : List (List Int)} (hf : Rf f) : posB (crs f) = posB f := by
  rw [Bool.eq_iff_iff]
  have hc := crs_right hf
  have hm := mir_crs hf
  exact ⟨fun h => pos_mir hf.n1 hf.n3 (mir_symm hm) (crs_len f) rfl (fun i k hi hk => hc.sym i k (by rw [crs_len]; exact hi) (by rw [crs_len]; exact hk)) h,
    fun h => pos_mir hf.n1 hf.n3 hm rfl (crs_len f) hf.sym h⟩

/-! ### What both say -/
theorem imI_rv {p : LevitatePlant} (h : Rp p) {f : List (List Int)} (hf : Sq p.Noise.length f) {m i k : Nat} (hm : m < p.Maps.length) (hi : i < p.Noise.length) (hk : k < p.Noise.length) : imI (rvP p) m (crs f) i k = imI p m f (p.Noise.length - 1 - i) (p.Noise.length - 1 - k) := by
  unfold imI
  rw [rvP_n, ← sumN_rev (t := fun a => ge p m a (p.Noise.length - 1 - i) * sumN (fun b => g2 f a b * ge p m b (p.Noise.length - 1 - k)) p.Noise.length)]
  refine sumN_congr fun a ha => ?_
  rw [ge_rv h hm ha hi, ← sumN_rev (t := fun b => g2 f (p.Noise.length - 1 - a) b * ge p m b (p.Noise.length - 1 - k))]
  congr 1
  exact sumN_congr fun b hb => by rw [g2_crs hf ha hb, ge_rv h hm hb hk]
theorem dM_rv {p : LevitatePlant} (h : Rp p) {f : List (List Int)} (hf : Sq p.Noise.length f) (r : Arr2_Int) {m : Nat} (hm : m < p.Maps.length) : Mir p.Noise.length (dM p m f r) (dM (rvP p) m (crs f) r) := fun i k hi hk => by
  unfold dM
  rw [rvP_n, g2_tab2 hi hk, g2_tab2 (by omega) (by omega)]
  unfold dI
  have e : (rvP p).Den = p.Den := rfl
  rw [imI_rv h hf hm hi hk, g2_crs hf hi hk, e]
theorem fs_mapL {α β ρ : Type} (f : Nat → β → Option ρ) (g : α → β) : ∀ (l : List α) (k : Nat), fs f k (l.map g) = fs (fun i x => f i (g x)) k l
  | [], _ => rfl
  | x :: xs, k => by simp only [List.map_cons, fs, fs_mapL f g xs (k + 1)]
theorem pvV_rv {p : LevitatePlant} (h : Rp p) {f : List (List Int)} (hf : Rf f) (hn : f.length = p.Noise.length) (r : Arr2_Int) : pvV (rvP p) (crs f) r = pvV p f r := by
  unfold pvV
  rw [posB_crs hf]
  have hsq : Sq p.Noise.length f := by rw [← hn]; exact hf.sq
  have hl : lsM (rvP p) (crs f) r = lsM p f r := by
    unfold lsM
    rw [show (rvP p).Maps = p.Maps.map crs from rfl, fs_mapL]
    refine fs_congr fun i hi => ?_
    rw [Nat.zero_add, rvP_n, nev_mir h.n1 h.n3 (dM_rv h hsq r hi)]
  rw [hl]
def rvs (n s : Nat) : Nat := (List.range n).foldl (fun a i => a + s / 2 ^ i % 2 * 2 ^ (n - 1 - i)) 0
theorem rvs_ok {n s : Nat} (h1 : 1 ≤ n) (h3 : n ≤ 3) (hs : s < 2 ^ n) : rvs n s < 2 ^ n ∧ (∀ i, i < n → sgn (rvs n s) (n - 1 - i) = sgn s i) ∧ rvs n (rvs n s) = s := by
  match n, h1, h3, hs with
  | 1, _, _, hs => exact (show ∀ s, s < 2 → rvs 1 s < 2 ^ 1 ∧ (∀ i, i < 1 → sgn (rvs 1 s) (1 - 1 - i) = sgn s i) ∧ rvs 1 (rvs 1 s) = s by decide) s hs
  | 2, _, _, hs => exact (show ∀ s, s < 4 → rvs 2 s < 2 ^ 2 ∧ (∀ i, i < 2 → sgn (rvs 2 s) (2 - 1 - i) = sgn s i) ∧ rvs 2 (rvs 2 s) = s by decide) s hs
  | 3, _, _, hs => exact (show ∀ s, s < 8 → rvs 3 s < 2 ^ 3 ∧ (∀ i, i < 3 → sgn (rvs 3 s) (3 - 1 - i) = sgn s i) ∧ rvs 3 (rvs 3 s) = s by decide) s hs
theorem val_rv {n : Nat} {f f' : List (List Int)} (h : Mir n f f') {x x' : List Int} (hx : ∀ k, k < n → gi x' k = gi x (n - 1 - k)) : valI n f' x' = valI n f x := by
  unfold valI
  rw [← sumN_rev (t := fun i => gi x i * sumN (fun k => g2 f i k * gi x k) n)]
  refine sumN_congr fun i hi => ?_
  rw [hx i hi, ← sumN_rev (t := fun k => g2 f (n - 1 - i) k * gi x k)]
  congr 1
  exact sumN_congr fun k hk => by rw [h i k hi hk, hx k hk]
theorem worst_rv {p : LevitatePlant} (h : Rp p) {f : List (List Int)} (hf : Rf f) (hn : f.length = p.Noise.length) : worstI (rvP p) (crs f) = worstI p f := by
  have hm : Mir p.Noise.length f (crs f) := by have := mir_crs hf; rwa [hn] at this
  have hv : ∀ s, s < 2 ^ p.Noise.length → valI p.Noise.length (crs f) (xv (rvP p) s) = valI p.Noise.length f (xv p (rvs p.Noise.length s)) := fun s hs => by
    have hr := rvs_ok h.n1 h.n3 hs
    refine val_rv hm fun k hk => ?_
    unfold xv
    rw [rvP_n, gi_tab hk, gi_tab (by omega), noise_rv hk, hr.2.1 k hk]
  have h2 : 1 ≤ 2 ^ p.Noise.length := Nat.one_le_two_pow
  obtain ⟨⟨s, hs, e1⟩, m1⟩ := wst_max (fun s => valI p.Noise.length (crs f) (xv (rvP p) s)) (2 ^ p.Noise.length) h2
  obtain ⟨⟨t, ht, e2⟩, m2⟩ := wst_max (fun s => valI p.Noise.length f (xv p s)) (2 ^ p.Noise.length) h2
  unfold worstI
  rw [rvP_n]
  have hrs := rvs_ok h.n1 h.n3 hs
  have hrt := rvs_ok h.n1 h.n3 ht
  have a1 := m2 (rvs p.Noise.length s) hrs.1
  have a2 := m1 (rvs p.Noise.length t) hrt.1
  rw [hv _ hrt.1, hrt.2.2] at a2
  rw [hv s hs] at e1
  omega
theorem cpV_rv {p : LevitatePlant} (h : Rp p) {x : LevitateProof} (hf : Rf x.Form) (hn : x.Form.length = p.Noise.length) : cpV (rvP p) ⟨crs x.Form, x.Rate, x.Level⟩ = ((cpV p x).1.reverse, (cpV p x).2) := by
  unfold cpV
  dsimp only
  rw [pvV_rv h hf hn, worst_rv h hf hn, crs_len]
  have hm := mir_crs hf
  by_cases h1 : (pvV p x.Form x.Rate).2 = 0
  · rw [if_pos h1, if_pos h1]
    by_cases h2 : 0 ≤ x.Level ∧ x.Level ≤ 100000000000000
    · rw [if_pos h2, if_pos h2]
      cases kptB x.Level (worstI p x.Form) x.Rate with
      | false => rfl
      | true =>
        simp only [if_true]
        congr 1
        apply List.ext_getElem
        · simp
        · intro k hk1 hk2
          simp only [List.length_map, List.length_range] at hk1
          simp only [List.getElem_map, List.getElem_range, List.getElem_reverse, List.length_map, List.length_range]
          rw [det_full hf.n1 hf.n3 hm, det_but hf.n1 hf.n3 hm hk1]
    · rw [if_neg h2, if_neg h2]; rfl
  · rw [if_neg h1, if_neg h1]; rfl

/-! ### The law -/
theorem rBoxErr_any {p : LevitatePlant} (h : Rp p) (x : List Int) : ref02_BoxErr_spec p x = some (bxE p x) := by
  by_cases hl : x.length < 1073741824
  · exact rBoxErr_ok p x hl
  · have hne : x.length ≠ p.Noise.length := by have := h.n3; omega
    have e : ref02_StateErr_spec p x = some 10 := by
      unfold ref02_StateErr_spec; rw [len_dec, decide_eq_false hne]; rfl
    unfold ref02_BoxErr_spec
    rw [e]
    unfold bxE stE
    simp [hne]
theorem qMaps_ok {p : LevitatePlant} (h : Rp p) : loop (guidewaytop_TopLevitateSwap_s0 p) (0, ([] : List (List (List Int)))) = some (p.Maps.map crs) := by
  refine loop_mapS p.Maps crs (fun k hk acc hacc => ?_) (fun acc => ?_)
  · unfold guidewaytop_TopLevitateSwap_s0
    dsimp only
    have hm := List.getElem_mem hk
    rw [lt_nat hk, cond_true, idx_nat hk, Option.bind_some, crossed_ok _ (h.sh.rows _ hm) (h.sh.row _ hm), Option.bind_some, app_ok (by simp [hacc]; have := h.m4; omega), Option.bind_some, w64n k (by have := h.m4; omega)]
  · unfold guidewaytop_TopLevitateSwap_s0
    dsimp only
    rw [lt_nat_no]; rfl
theorem bx_rv {p : LevitatePlant} (h : Rp p) {x : List Int} (hb : Bx p x) : Bx (rvP p) x.reverse where
  len := by rw [List.length_reverse, rvP_n]; exact hb.len
  ge := fun k hk => by rw [List.length_reverse] at hk; rw [gi_rev hk]; exact hb.ge _ (by omega)
  le := fun k hk => by rw [List.length_reverse] at hk; rw [gi_rev hk]; exact hb.le _ (by omega)
theorem TopLevitateSwap_true (p : LevitatePlant) (x : LevitateProof) (start : List Int) : guidewaytop_TopLevitateSwap_spec p x start = some true := by
  unfold guidewaytop_TopLevitateSwap_spec
  rw [levitated_ok]
  simp only [Option.bind_some, Bool.not_true, cond_false]
  obtain ⟨few, hfew, hF⟩ := Few_run p
  rw [hfew]
  cases few with
  | false => rfl
  | true =>
    have hsh := sh_few (hF rfl)
    simp only [Option.bind_some, Bool.not_true, Bool.not_false, cond_true, Bool.false_or, rPlantErr_ok p hsh]
    by_cases h1 : (ckP p).2 = 0
    rotate_left
    · simp [h1]
    have h := ckP_right.1 h1
    by_cases h2 : x.Form.length = p.Noise.length
    rotate_left
    · simp [h1, h2, len_dec]
    rw [len_dec, decide_eq_true h1, decide_eq_true h2]
    simp only [Bool.not_true, Bool.or_self, Bool.not_false, cond_true, rFormErr_ok x.Form (by have := h.n3; omega), Option.bind_some, Bool.false_or, rBoxErr_any h start]
    by_cases h3 : frmE x.Form = 0
    rotate_left
    · simp [h3]
    have hf := frmE_right.1 h3
    rw [decide_eq_true h3]
    simp only [Bool.not_true, Bool.not_false, cond_true, Option.bind_some, Bool.false_or]
    by_cases h4 : bxE p start = 0
    rotate_left
    · simp [h4]
    have hb := bxE_right.1 h4
    rw [decide_eq_true h4]
    simp only [Bool.not_true, cond_false]
    obtain ⟨gr_, hg, _⟩ := grows_run h
    rw [hg, Option.bind_some]
    cases gr_ with
    | true => rfl
    | false =>
      simp only [cond_false]
      have hq := rvP_right h
      have hst : start.length < 1073741824 := by have := hb.len; have := h.n3; omega
      rw [backward_ok _ h.sh.noise, Option.bind_some, qMaps_ok h, Option.bind_some, CopyPlant_ok p hsh, Option.bind_some, CopyInts_ok start (by omega), Option.bind_some]
      obtain ⟨a, ha, hA⟩ := lLeastBox_ok h hb
      rw [ha, Option.bind_some]
      have eq : (LevitatePlant.mk p.Den (p.Maps.map crs) p.Noise.reverse) = rvP p := rfl
      rw [eq, CopyPlant_ok _ hq.sh, Option.bind_some, backward_ok start hst, Option.bind_some]
      obtain ⟨b, hb2, hB⟩ := lLeastBox_ok hq (bx_rv h hb)
      rw [hb2, Option.bind_some]
      have hab : b = (a.1.reverse, a.2) := hB.eq (LbR_rv h hb.len hA)
      have hal : a.1.length < 1073741824 := by
        rcases hA with ⟨_, h5⟩ | ⟨h5, _⟩
        · have := h5.len; have := h.n3; omega
        · rw [h5]; decide
      subst hab
      simp only [List.length_reverse, decide_true, Bool.not_true, Bool.or_self, Bool.not_false, cond_true, backward_ok a.1 hal, Option.bind_some, Ints_ok _ _ (show a.1.reverse.length < 1073741824 by rw [List.length_reverse]; exact hal), cond_false]
      have hfl : x.Form.length ≤ 3 := hf.n3
      have hfr : ∀ r ∈ x.Form, r.length ≤ 3 := fun r hr => by
        obtain ⟨i, hi, rfl⟩ := List.getElem_of_mem hr
        rw [gr_eq hi, hf.sq.row i hi]; omega
      rw [CopyLists_ok x.Form (by omega) (fun r hr => by have := hfr r hr; omega), Option.bind_some]
      have ex : (LevitateProof.mk x.Form x.Rate x.Level) = x := rfl
      rw [ex, CheckProof_ok h hf h2, Option.bind_some, crossed_ok x.Form (by omega) (fun r hr => by have := hfr r hr; omega), Option.bind_some]
      rw [CheckProof_ok (x := ⟨crs x.Form, x.Rate, x.Level⟩) hq (crs_right hf) (by rw [crs_len, rvP_n]; exact h2), Option.bind_some, cpV_rv h hf h2]
      have hcl : (cpV p x).1.length < 1073741824 := by
        unfold cpV
        split
        · split
          · split
            · simp; omega
            · simp
          · simp
        · simp
      simp only [List.length_reverse, decide_true, Bool.and_self, cond_true, backward_ok _ hcl, Option.bind_some, Ints_ok _ _ (show (cpV p x).1.reverse.length < 1073741824 by rw [List.length_reverse]; exact hcl)]
end Go.Gw
