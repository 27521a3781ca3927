/- What is spoilt by errors and by what was not read: how near it stays, how far it gets. Condition: the track is right. -/
import Derived.Test.YtgpapebgdnimfaaGwLoc10
import Derived.Test.YtgpapebgdnimfaaGwFnB
set_option maxRecDepth 4096
namespace Go.Gw
open Go
def winE (t : LocateTrack) (i : Int) : Int := if 0 ≤ i ∧ i ≤ (nW t : Int) - 1 then 0 else 6
theorem take12 (f : Nat → Int) (n : Nat) (h : n ≤ 12) : (lst12 f).take n = (List.range n).map f := by
  apply List.ext_getElem?
  intro j
  rcases Nat.lt_or_ge j n with hj | hj
  · rw [List.getElem?_take_of_lt hj, List.getElem?_map, List.getElem?_range hj]
    have := idx12 f j (by omega)
    rw [idx_nat?] at this
    rw [this]; rfl
  · rw [List.getElem?_eq_none (by rw [List.length_take]; omega), List.getElem?_eq_none (by simpa using hj)]
def tooE (t : LocateTrack) (i : Int) : Int := if 0 ≤ i ∧ i ≤ (nT t : Int) - 1 then 0 else 6
theorem nT_pos {t : LocateTrack} (h : Rt t) : 1 ≤ nT t := by
  have h1 := (nW_le h).1; have h2 := h.p1
  have : 1 * 1 ≤ nW t * t.PerVane.toNat := Nat.mul_le_mul h1 (by omega)
  unfold nT; omega
theorem ToothErr_ok {t : LocateTrack} (h : Rt t) (i : Int) : ref04_ToothErr_spec t i = some (tooE t i) := by
  have := nT_le h
  unfold ref04_ToothErr_spec tooE
  rw [rTeethOf_ok h]
  simp only [Option.bind_some, bwithin_ok]
  rw [w64_id (by omega)]
  by_cases hc : 0 ≤ i ∧ i ≤ (nT t : Int) - 1
  · simp [hc]
  · have hc' : (decide (0 ≤ i) && decide (i ≤ (nT t : Int) - 1)) = false := by rw [Bool.eq_false_iff]; simp only [ne_eq, Bool.and_eq_true, decide_eq_true_eq]; exact hc
    simp [hc, hc']
theorem PlacesOf_ok (t : LocateTrack) (i : Int) (ht : t.Vanes.length < 1073741824) : locate_PlacesOf_spec t i = some (if (chk t).2 = 0 then (if tooE t i = 0 then (plc t i, 0) else (⟨0, 0⟩, 6)) else (⟨0, 0⟩, (chk t).2)) := by
  unfold locate_PlacesOf_spec
  rw [open_ok t ht]
  simp only [Option.bind_some, eta_track]
  by_cases h : (chk t).2 = 0
  · have hR := chk_rt h
    have hn := nT_le hR
    simp only [h, decide_true, Bool.not_true, cond_false, if_true]
    rw [teeth_ok hR]
    simp only [Option.bind_some, within_ok]
    rw [w64_id (by omega)]
    by_cases hc : 0 ≤ i ∧ i ≤ (nT t : Int) - 1
    · have e : tooE t i = 0 := by unfold tooE; rw [if_pos hc]
      simp only [hc.1, hc.2, decide_true, Bool.and_self, Bool.not_true, cond_false, e, if_true]
      rw [places_ok hR (by omega) (by omega)]; rfl
    · have e : tooE t i ≠ 0 := by unfold tooE; rw [if_neg hc]; decide
      have hc' : (decide (0 ≤ i) && decide (i ≤ (nT t : Int) - 1)) = false := by rw [Bool.eq_false_iff]; simp only [ne_eq, Bool.and_eq_true, decide_eq_true_eq]; exact hc
      simp [hc', e]
  · simp [h]
theorem only_window {t : LocateTrack} (h : Rt t) {too : Int} (ht : tooE t too = 0) : ∃ w k : Nat, too = k ∧ k < nT t ∧ w = k / t.PerVane.toNat ∧ w < nW t ∧ quo too t.PerVane = some (w : Int) := by
  have hT := nT_le h; have hp1 := h.p1; have hp2 := h.p2
  have hc : 0 ≤ too ∧ too ≤ (nT t : Int) - 1 := by
    unfold tooE at ht
    split at ht
    · assumption
    · cases ht
  obtain ⟨k, rfl⟩ : ∃ k : Nat, too = k := ⟨too.toNat, by omega⟩
  have hk : k < nT t := by omega
  have hdiv : (k : Int).tdiv t.PerVane = ((k / t.PerVane.toNat : Nat) : Int) := by
    conv => lhs; rw [← Int.toNat_of_nonneg (show 0 ≤ t.PerVane by omega)]
    exact (Int.ofNat_tdiv _ _).symm
  have hw : k / t.PerVane.toNat < nW t := Nat.div_lt_of_lt_mul (by rw [Nat.mul_comm]; exact hk)
  have hn := (nW_le h).2
  generalize hW : k / t.PerVane.toNat = w at hdiv hw
  exact ⟨w, k, rfl, hk, hW.symm, hw, by rw [quo_ok (by omega), hdiv, w64_id (by omega)]⟩

/-! ### Which windows are near -/
theorem near_mem {t : LocateTrack} {seen : List Int} {i : Int} : i ∈ nearL t seen ↔ ∃ k : Nat, k < nW t ∧ i = k ∧ dW t k seen ≤ t.Errors := by
  unfold nearL
  generalize nW t = n
  induction n with
  | zero => simp [rng]
  | succ n ih =>
    simp only [rng]
    split
    · rename_i h
      rw [List.mem_append, ih]
      constructor
      · rintro (⟨k, h1, h2, h3⟩ | h1)
        · exact ⟨k, by omega, h2, h3⟩
        · simp only [List.mem_singleton] at h1
          exact ⟨n, by omega, h1, h⟩
      · rintro ⟨k, h1, h2, h3⟩
        rcases Nat.lt_or_ge k n with h4 | h4
        · exact .inl ⟨k, h4, h2, h3⟩
        · obtain rfl : k = n := by omega
          exact .inr (by simp [h2])
    · rename_i h
      rw [ih]
      constructor
      · rintro ⟨k, h1, h2, h3⟩; exact ⟨k, by omega, h2, h3⟩
      · rintro ⟨k, h1, h2, h3⟩
        rcases Nat.lt_or_ge k n with h4 | h4
        · exact ⟨k, h4, h2, h3⟩
        · obtain rfl : k = n := by omega
          exact absurd h3 h
theorem near_one {t : LocateTrack} {seen : List Int} {w : Nat} (hw : w < nW t) (h : ∀ k, k < nW t → (dW t k seen ≤ t.Errors ↔ k = w)) : nearL t seen = [(w : Int)] := by
  unfold nearL
  have key : ∀ n, n ≤ nW t → rng (fun i (a : List Int) => if dW t i seen ≤ t.Errors then a ++ [(i : Int)] else a) [] n = if w < n then [(w : Int)] else [] := by
    intro n
    induction n with
    | zero => intro _; simp [rng]
    | succ n ih =>
      intro hn
      simp only [rng]
      rw [ih (by omega)]
      by_cases hc : n = w
      · subst hc
        rw [if_pos ((h n (by omega)).2 rfl), if_neg (by omega), if_pos (by omega)]; rfl
      · rw [if_neg (fun h' => hc ((h n (by omega)).1 h'))]
        by_cases h2 : w < n
        · rw [if_pos h2, if_pos (by omega)]
        · rw [if_neg h2, if_neg (by omega)]
  rw [key _ (Nat.le_refl _), if_pos hw]
theorem cnt_one {f g g' : Nat → Int} {k : Nat} (h : ∀ j, j ≠ k → g j = g' j) : ∀ n, cnt f g n ≤ cnt f g' n + 1 ∧ (n ≤ k → cnt f g n = cnt f g' n)
  | 0 => ⟨by simp [cnt, rng], fun _ => rfl⟩
  | n + 1 => by
    obtain ⟨h1, h2⟩ := cnt_one (f := f) h n
    by_cases hn : n = k
    · have h2 := h2 (by omega)
      constructor
      · rw [cnt_succ, cnt_succ]; split <;> split <;> omega
      · intro; omega
    · have e := h n hn
      constructor
      · rw [cnt_succ, cnt_succ, e]; split <;> omega
      · intro h3; rw [cnt_succ, cnt_succ, e, h2 (by omega)]
theorem getD_set (l : List Int) (k j : Nat) (v : Int) (h : j ≠ k) : (l.set k v).getD j 0 = l.getD j 0 := by
  simp [List.getD, List.getElem?_set_ne (Ne.symm h)]
/-- One position changed. -/
theorem dW_set (t : LocateTrack) (i : Nat) (l : List Int) (k : Nat) (v : Int) : dW t i (l.set k v) ≤ dW t i l + 1 ∧ dW t i l - 1 ≤ dW t i (l.set k v) := by
  unfold dW
  have h1 := (cnt_one (f := winV t i) (g := fun j => (l.set k v).getD j 0) (g' := fun j => l.getD j 0) (k := k) (fun j hj => getD_set l k j v hj) t.Window.toNat).1
  have h2 := (cnt_one (f := winV t i) (g := fun j => l.getD j 0) (g' := fun j => (l.set k v).getD j 0) (k := k) (fun j hj => (getD_set l k j v hj).symm) t.Window.toNat).1
  omega
/-- One position hidden. -/
theorem dW_hide (t : LocateTrack) (i : Nat) (l : List Int) (k : Nat) : dW t i (l.set k 2) ≤ dW t i l := by
  unfold dW
  generalize t.Window.toNat = n
  induction n with
  | zero => exact Int.le_refl _
  | succ n ih =>
    rw [cnt_succ, cnt_succ]
    by_cases hn : n = k
    · subst hn
      rcases Nat.lt_or_ge n l.length with h | h
      · have e : (l.set n 2).getD n 0 = 2 := by simp [List.getD, h]
        have : dd (winV t i n) 2 = false := by unfold dd; simp
        rw [e, this]; simp only [Bool.false_eq_true, if_false]; split <;> omega
      · rw [List.set_eq_of_length_le h]
        rw [List.set_eq_of_length_le h] at ih
        exact Int.le_refl _
    · rw [getD_set l k n 2 hn]; split <;> omega
theorem dW_win {t : LocateTrack} (i w : Nat) : dW t i (winL t w) = cnt (winV t i) (winV t w) t.Window.toNat := by
  unfold dW
  exact cnt_congr fun j hj => ⟨rfl, winL_get hj⟩
theorem cnt_self (f : Nat → Int) (n : Nat) : cnt f f n = 0 := by
  induction n with
  | zero => rfl
  | succ n ih => rw [cnt_succ, ih]; unfold dd; simp
/-- Up to c positions of window w are wrong, up to m changed, all in all. -/
structure Sp (t : LocateTrack) (w : Nat) (c m : Int) (l : List Int) : Prop where
  len : (l.length : Int) = t.Window
  val : ∀ v ∈ l, v = 0 ∨ v = 1 ∨ v = 2
  near : dW t w l ≤ c
  far : ∀ i, cnt (winV t i) (winV t w) t.Window.toNat - m ≤ dW t i l
theorem Sp.err {t : LocateTrack} {w : Nat} {c m : Int} {l : List Int} (h : Sp t w c m l) (hc : (chk t).2 = 0) : opE t l = 0 := by
  unfold opE seenE
  rw [if_neg (by simpa using hc), if_neg (by simpa using h.len), if_neg]
  rw [List.any_eq_true]
  rintro ⟨v, hv, hn⟩
  rw [isS_iff.2 (h.val v hv)] at hn
  cases hn
theorem set_mem {l : List Int} {k : Nat} {v x : Int} (h : x ∈ l.set k v) : x ∈ l ∨ x = v := List.mem_or_eq_of_mem_set h
noncomputable def flipS (t : LocateTrack) (p : guidewaylaw04_Spoilt) : ((List Int) × Int) → Option (((List Int) × Int) ⊕ ((List Int))) := fun (x332, x337) =>
  (bif (decide (x337 < (p.Wrong.length : Int))) then (
    (Option.bind (idx p.Wrong x337) fun el385 =>
    (Option.bind (base_Mod_spec el385 t.Window) fun r391 =>
    (Option.bind (idx x332 r391) fun el397 =>
    (Option.bind (idx x332 r391) fun _ =>
    some (.inl ((x332.set (r391 : Int).toNat (w64 (1 - el397))), w64 (x337 + 1)))
    )
    )
    )
    )
  ) else (
    some (.inr x332)
  ))
noncomputable def hideS (t : LocateTrack) (p : guidewaylaw04_Spoilt) : ((List Int) × Int) → Option (((List Int) × Int) ⊕ ((List Int))) := fun (x591, x596) =>
  (bif (decide (x596 < (p.Unread.length : Int))) then (
    (Option.bind (idx p.Unread x596) fun el643 =>
    (Option.bind (base_Mod_spec el643 t.Window) fun r649 =>
    (Option.bind (idx x591 r649) fun _ =>
    some (.inl ((x591.set (r649 : Int).toNat 2), w64 (x596 + 1)))
    )
    )
    )
  ) else (
    some (.inr x591)
  ))
theorem win_sp {t : LocateTrack} (h : Rt t) (w : Nat) : Sp t w 0 0 (winL t w) where
  len := by rw [winL_len]; have := h.w1; omega
  val v hv := by
    unfold winL at hv
    obtain ⟨j, _, rfl⟩ := List.mem_map.1 hv
    rcases winV_bit h w j with h | h
    · exact .inl h
    · exact .inr (.inl h)
  near := by rw [dW_win, cnt_self]; exact Int.le_refl _
  far i := by rw [dW_win]; omega
theorem win_bit {t : LocateTrack} (h : Rt t) (w : Nat) : ∀ v ∈ winL t w, v = 0 ∨ v = 1 := by
  intro v hv
  unfold winL at hv
  obtain ⟨j, _, rfl⟩ := List.mem_map.1 hv
  exact winV_bit h w j
theorem flip_ok {t : LocateTrack} (h : Rt t) (p : guidewaylaw04_Spoilt) (w : Nat) (hl : p.Wrong.length < 1073741824) :
    Runs (loop (flipS t p) (winL t w, 0)) fun l => Sp t w p.Wrong.length p.Wrong.length l := by
  have hw1 := h.w1; have hw2 := h.w2
  refine Runs.loop (fun s => ∃ k : Nat, s.2 = k ∧ k ≤ p.Wrong.length ∧ Sp t w k k s.1 ∧ ∀ v ∈ s.1, v = 0 ∨ v = 1) (fun s => p.Wrong.length - s.2.toNat) ⟨0, rfl, by omega, win_sp h w, win_bit h w⟩ ?_
  rintro ⟨l, i⟩ ⟨k, hi, hk, hS, hb⟩
  simp only at hi hS hb
  subst hi
  unfold flipS
  simp only
  by_cases hc : k < p.Wrong.length
  · rw [lt_nat hc, cond_true, idx_nat hc, Option.bind_some, Mod_ok hw1 (by omega), Option.bind_some]
    have m0 := Int.emod_nonneg p.Wrong[k] (show t.Window ≠ 0 by omega)
    have m1 := Int.emod_lt_of_pos p.Wrong[k] (show 0 < t.Window by omega)
    generalize p.Wrong[k] % t.Window = r at m0 m1
    obtain ⟨m, rfl⟩ : ∃ m : Nat, r = m := ⟨r.toNat, by omega⟩
    have hlen := hS.len
    have hm : m < l.length := by omega
    rw [idx_nat hm, Option.bind_some, Option.bind_some, Int.toNat_natCast, w64n k (by omega)]
    have hbit := hb _ (List.getElem_mem hm)
    have hbit2 : w64 (1 - l[m]) = 0 ∨ w64 (1 - l[m]) = 1 := by
      rcases hbit with h | h
      · rw [h]; exact .inr rfl
      · rw [h]; exact .inl rfl
    refine ⟨_, rfl, ⟨k + 1, rfl, by omega, ⟨by rw [List.length_set]; exact hlen, ?_, ?_, ?_⟩, ?_⟩, by simp only; omega⟩
    · intro v hv
      rcases set_mem hv with h | rfl
      · exact hS.val v h
      · rcases hbit2 with h | h
        · exact .inl h
        · exact .inr (.inl h)
    · have := (dW_set t w l m (w64 (1 - l[m]))).1
      have := hS.near
      simp only at this ⊢
      omega
    · intro i
      have := (dW_set t i l m (w64 (1 - l[m]))).2
      have := hS.far i
      simp only at this ⊢
      omega
    · intro v hv
      rcases set_mem hv with h | rfl
      · exact hb v h
      · exact hbit2
  · obtain rfl : k = p.Wrong.length := by omega
    rw [lt_nat_no]
    exact ⟨_, rfl, hS⟩
theorem hide_ok {t : LocateTrack} (h : Rt t) (p : guidewaylaw04_Spoilt) (w : Nat) (hl : p.Unread.length < 1073741824) {c m : Int} {l : List Int} (hS : Sp t w c m l) :
    Runs (loop (hideS t p) (l, 0)) fun l => Sp t w c (m + p.Unread.length) l := by
  have hw1 := h.w1; have hw2 := h.w2
  refine Runs.loop (fun s => ∃ k : Nat, s.2 = k ∧ k ≤ p.Unread.length ∧ Sp t w c (m + k) s.1) (fun s => p.Unread.length - s.2.toNat) ⟨0, rfl, by omega, by simpa using hS⟩ ?_
  rintro ⟨l, i⟩ ⟨k, hi, hk, hS⟩
  simp only at hi hS
  subst hi
  unfold hideS
  simp only
  by_cases hc : k < p.Unread.length
  · rw [lt_nat hc, cond_true, idx_nat hc, Option.bind_some, Mod_ok hw1 (by omega), Option.bind_some]
    have m0 := Int.emod_nonneg p.Unread[k] (show t.Window ≠ 0 by omega)
    have m1 := Int.emod_lt_of_pos p.Unread[k] (show 0 < t.Window by omega)
    generalize p.Unread[k] % t.Window = r at m0 m1
    obtain ⟨j, rfl⟩ : ∃ j : Nat, r = j := ⟨r.toNat, by omega⟩
    have hlen := hS.len
    have hm : j < l.length := by omega
    rw [idx_nat hm, Option.bind_some, Int.toNat_natCast, w64n k (by omega)]
    refine ⟨_, rfl, ⟨k + 1, rfl, by omega, ⟨by rw [List.length_set]; exact hlen, ?_, ?_, ?_⟩⟩, by simp only; omega⟩
    · intro v hv
      rcases set_mem hv with h | rfl
      · exact hS.val v h
      · exact .inr (.inr rfl)
    · have := dW_hide t w l j
      have := hS.near
      simp only
      omega
    · intro i
      have := (dW_set t i l j 2).2
      have := hS.far i
      simp only
      omega
  · obtain rfl : k = p.Unread.length := by omega
    rw [lt_nat_no]
    exact ⟨_, rfl, hS⟩
end Go.Gw
