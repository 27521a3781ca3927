/- Windows, at how many positions they differ, which are near: what both texts compute. Condition: the track is right. -/
import Derived.Test.YtgpapebgdnimfaaGwLoc1
set_option maxRecDepth 4096
namespace Go.Gw
open Go

def dd (x y : Int) : Bool := !decide (x = y) && !decide (x = 2) && !decide (y = 2)
/-- At how many of the first n positions two rows differ. -/
def cnt (f g : Nat → Int) (n : Nat) : Int := rng (fun j a => if dd (f j) (g j) then a + 1 else a) 0 n
theorem cnt_succ (f g : Nat → Int) (n : Nat) : cnt f g (n + 1) = if dd (f n) (g n) then cnt f g n + 1 else cnt f g n := rfl
theorem cnt_bound (f g : Nat → Int) (n : Nat) : 0 ≤ cnt f g n ∧ cnt f g n ≤ n := by
  induction n with
  | zero => simp [cnt, rng]
  | succ n ih => rw [cnt_succ]; split <;> omega
theorem cnt_congr {f g f' g' : Nat → Int} {n : Nat} (h : ∀ j, j < n → f j = f' j ∧ g j = g' j) : cnt f g n = cnt f' g' n := by
  induction n with
  | zero => rfl
  | succ n ih =>
    rw [cnt_succ, cnt_succ, ih (fun j hj => h j (by omega)), (h n (by omega)).1, (h n (by omega)).2]
theorem cnt_tail {f g : Nat → Int} {n m : Nat} (hnm : n ≤ m) (h : ∀ j, n ≤ j → j < m → dd (f j) (g j) = false) : cnt f g m = cnt f g n := by
  induction m with
  | zero => obtain rfl : n = 0 := by omega
            rfl
  | succ m ih =>
    rcases Nat.lt_or_ge m n with hlt | hge
    · obtain rfl : n = m + 1 := by omega
      rfl
    · rw [cnt_succ, h m hge (by omega)]
      exact ih hge (fun j h1 h2 => h j h1 (by omega))
theorem dd_comm (x y : Int) : dd x y = dd y x := by
  have h : decide (x = y) = decide (y = x) := by simp [eq_comm]
  simp only [dd, h]
  cases decide (y = x) <;> cases decide (x = 2) <;> cases decide (y = 2) <;> rfl
theorem getD_in {l : List Int} {k : Nat} (h : k < l.length) : l.getD k 0 = l[k] := by simp [List.getD, h]
theorem cnt_comm (f g : Nat → Int) (n : Nat) : cnt f g n = cnt g f n := by
  induction n with
  | zero => rfl
  | succ n ih => rw [cnt_succ, cnt_succ, ih, dd_comm]

def arr12 (f : Nat → Int) : Arr12_Int := ⟨f 0, f 1, f 2, f 3, f 4, f 5, f 6, f 7, f 8, f 9, f 10, f 11⟩
def lst12 (f : Nat → Int) : List Int := [f 0, f 1, f 2, f 3, f 4, f 5, f 6, f 7, f 8, f 9, f 10, f 11]
theorem idx12 (f : Nat → Int) (k : Nat) (h : k < 12) : idx (lst12 f) (k : Int) = some (f k) := by
  rw [idx_nat?]
  match k, h with
  | 0, _ => rfl
  | 1, _ => rfl
  | 2, _ => rfl
  | 3, _ => rfl
  | 4, _ => rfl
  | 5, _ => rfl
  | 6, _ => rfl
  | 7, _ => rfl
  | 8, _ => rfl
  | 9, _ => rfl
  | 10, _ => rfl
  | 11, _ => rfl
theorem wdiffer_ok (f g : Nat → Int) : locate_window_differ_spec (arr12 f) (arr12 g) = some (cnt f g 12) := by
  unfold locate_window_differ_spec
  have h := loop_rng (step := locate_window_differ_s0 (arr12 g) (arr12 f)) 12 (fun j (a : Int) => if dd (f j) (g j) then a + 1 else a) (fun a k => (a, (k : Int))) (fun a => a) (fun a k => 0 ≤ a ∧ a ≤ k) 0 (by simp) ?_ ?_
  · rw [show ((0 : Int), (0 : Int)) = ((0 : Int), ((0 : Nat) : Int)) from rfl, h.1]; rfl
  · intro k hk a ha
    constructor
    · show locate_window_differ_s0 (arr12 g) (arr12 f) (a, (k : Int)) = _
      unfold locate_window_differ_s0
      have e1 : idx [(arr12 f).e0, (arr12 f).e1, (arr12 f).e2, (arr12 f).e3, (arr12 f).e4, (arr12 f).e5, (arr12 f).e6, (arr12 f).e7, (arr12 f).e8, (arr12 f).e9, (arr12 f).e10, (arr12 f).e11] (k : Int) = some (f k) := idx12 f k hk
      have e2 : idx [(arr12 g).e0, (arr12 g).e1, (arr12 g).e2, (arr12 g).e3, (arr12 g).e4, (arr12 g).e5, (arr12 g).e6, (arr12 g).e7, (arr12 g).e8, (arr12 g).e9, (arr12 g).e10, (arr12 g).e11] (k : Int) = some (g k) := idx12 g k hk
      simp only [e1, e2, Option.bind_some]
      rw [show decide ((k : Int) < 12) = true by simp; omega, w64n k (by omega), w64_id (x := a + 1) (by omega)]
      unfold dd
      cases decide (f k = g k) <;> cases decide (f k = 2) <;> cases hg : decide (g k = 2) <;> simp_all
    · split <;> omega
  · intro a _
    show locate_window_differ_s0 (arr12 g) (arr12 f) (a, ((12 : Nat) : Int)) = _
    unfold locate_window_differ_s0
    rfl

/-- Vane number j of window i. -/
def winV (t : LocateTrack) (i j : Nat) : Int := t.Vanes.getD ((i + j) % t.Vanes.length) 0
theorem winV_mem {t : LocateTrack} (h : 0 < t.Vanes.length) (i j : Nat) : winV t i j ∈ t.Vanes := by
  unfold winV
  have := Nat.mod_lt (i + j) h
  rw [getD_in this]; exact List.getElem_mem _
theorem Rt.pos {t : LocateTrack} (h : Rt t) : 0 < t.Vanes.length := by have := h.w1; have := h.l1; omega
theorem winV_bit {t : LocateTrack} (h : Rt t) (i j : Nat) : winV t i j = 0 ∨ winV t i j = 1 := h.b _ (winV_mem h.pos i j)
theorem vane_ok {t : LocateTrack} (h : Rt t) (i j : Nat) (hi : i < 1073741824) (hj : j < 1073741824) :
    (rem (w64 ((i : Int) + (j : Int))) (t.Vanes.length : Int)).bind (fun q => idx t.Vanes q) = some (winV t i j) := by
  have hp := h.pos
  rw [w64_id (by omega), rem_ok (by omega), Option.bind_some]
  have e : ((i : Int) + (j : Int)).tmod (t.Vanes.length : Int) = (((i + j) % t.Vanes.length : Nat) : Int) := by
    rw [show (i : Int) + (j : Int) = ((i + j : Nat) : Int) by omega]; exact (Int.ofNat_tmod _ _).symm
  have hlt := Nat.mod_lt (i + j) hp
  rw [e, idx_nat hlt]; unfold winV; rw [getD_in hlt]
theorem vane_ok' {α : Type} {t : LocateTrack} (h : Rt t) (i j : Nat) (hi : i < 1073741824) (hj : j < 1073741824) (F : Int → Option α) :
    (Option.bind (rem (w64 ((i : Int) + (j : Int))) (t.Vanes.length : Int)) fun q => Option.bind (idx t.Vanes q) F) = F (winV t i j) := by
  have := vane_ok h i j hi hj
  rw [← Option.bind_assoc, this]; rfl

/-- Window number i, as a list. -/
def winL (t : LocateTrack) (i : Nat) : List Int := (List.range t.Window.toNat).map (winV t i)
theorem rng_map {α : Type} (f : Nat → α) (n : Nat) : rng (fun k (a : List α) => a ++ [f k]) [] n = (List.range n).map f := by
  induction n with
  | zero => rfl
  | succ n ih => rw [List.range_succ, List.map_append, ← ih]; rfl
theorem WindowAt_ok {t : LocateTrack} (h : Rt t) (i : Nat) (hi : i < 1073741824) : ref04_WindowAt_spec t (i : Int) = some (winL t i) := by
  unfold ref04_WindowAt_spec
  have hw := h.w2
  have hw1 := h.w1
  have hn : t.Window = (t.Window.toNat : Int) := by omega
  have hl := loop_rng (step := ref04_WindowAt_s0 (i : Int) t) t.Window.toNat (fun k (a : List Int) => a ++ [winV t i k]) (fun a k => (a, (k : Int))) (fun a => a) (fun a k => a.length = k) [] rfl ?_ ?_
  · rw [show (([] : List Int), (0 : Int)) = (([] : List Int), ((0 : Nat) : Int)) from rfl, hl.1, rng_map]; rfl
  · intro k hk a ha
    constructor
    · show ref04_WindowAt_s0 (i : Int) t (a, (k : Int)) = _
      unfold ref04_WindowAt_s0
      simp only
      rw [vane_ok' h i k hi (by omega), show decide ((k : Int) < t.Window) = true by simp; omega, app_ok (by simp; omega), w64n k (by omega)]
      rfl
    · simp [ha]
  · intro a _
    show ref04_WindowAt_s0 (i : Int) t (a, ((t.Window.toNat : Nat) : Int)) = _
    unfold ref04_WindowAt_s0
    simp only
    rw [show decide (((t.Window.toNat : Nat) : Int) < t.Window) = false by simp; omega]; rfl
theorem winL_len {t : LocateTrack} (i : Nat) : (winL t i).length = t.Window.toNat := by simp [winL]
theorem winL_get {t : LocateTrack} {i j : Nat} (h : j < t.Window.toNat) : (winL t i).getD j 0 = winV t i j := by
  rw [getD_in (by rw [winL_len]; exact h)]; simp [winL]

theorem at_ok {t : LocateTrack} (h : Rt t) (i : Nat) (hi : i < 1073741824) : locate_track_at_spec ⟨t⟩ (i : Int) = some (arr12 fun j => if j < t.Window.toNat then winV t i j else 0) := by
  unfold locate_track_at_spec
  have hw := h.w2
  have hw1 := h.w1
  have hl := loop_for (step := locate_track_at_s0 (i : Int) ⟨t⟩) (o := ((if 0 < t.Window.toNat then winV t i 0 else 0), (if 1 < t.Window.toNat then winV t i 1 else 0), (if 2 < t.Window.toNat then winV t i 2 else 0), (if 3 < t.Window.toNat then winV t i 3 else 0), (if 4 < t.Window.toNat then winV t i 4 else 0), (if 5 < t.Window.toNat then winV t i 5 else 0), (if 6 < t.Window.toNat then winV t i 6 else 0), (if 7 < t.Window.toNat then winV t i 7 else 0), (if 8 < t.Window.toNat then winV t i 8 else 0), (if 9 < t.Window.toNat then winV t i 9 else 0), (if 10 < t.Window.toNat then winV t i 10 else 0), (if 11 < t.Window.toNat then winV t i 11 else 0)))
    (fun k => ((k : Int), (if 0 < k then winV t i 0 else 0), (if 1 < k then winV t i 1 else 0), (if 2 < k then winV t i 2 else 0), (if 3 < k then winV t i 3 else 0), (if 4 < k then winV t i 4 else 0), (if 5 < k then winV t i 5 else 0), (if 6 < k then winV t i 6 else 0), (if 7 < k then winV t i 7 else 0), (if 8 < k then winV t i 8 else 0), (if 9 < k then winV t i 9 else 0), (if 10 < k then winV t i 10 else 0), (if 11 < k then winV t i 11 else 0))) t.Window.toNat ?_ ?_
  · change loop (locate_track_at_s0 (i : Int) ⟨t⟩) (0, 0, 0, 0, 0, 0, 0, 0, 0, 0, 0, 0, 0) = _ at hl
    rw [hl]; rfl
  · intro k hk
    have hk12 : k < 12 := by omega
    unfold locate_track_at_s0
    simp only
    rw [vane_ok' h i k hi (by omega)]
    have e1 : idx [(if 0 < k then winV t i 0 else 0), (if 1 < k then winV t i 1 else 0), (if 2 < k then winV t i 2 else 0), (if 3 < k then winV t i 3 else 0), (if 4 < k then winV t i 4 else 0), (if 5 < k then winV t i 5 else 0), (if 6 < k then winV t i 6 else 0), (if 7 < k then winV t i 7 else 0), (if 8 < k then winV t i 8 else 0), (if 9 < k then winV t i 9 else 0), (if 10 < k then winV t i 10 else 0), (if 11 < k then winV t i 11 else 0)] (k : Int) = some (if k < k then winV t i k else 0) := idx12 (fun j => if j < k then winV t i j else 0) k hk12
    rw [e1, show decide ((k : Int) < t.Window) = true by simp; omega, w64n k (by omega)]
    simp only [Option.bind_some, cond_true, Int.toNat_natCast]
    have key : ∀ j, (bif Nat.beq k j then winV t i k else (if j < k then winV t i j else 0)) = if j < k + 1 then winV t i j else 0 := by
      intro j
      by_cases hj : k = j
      · subst hj; simp
      · rw [nbeq_ne hj, cond_false]
        by_cases h2 : j < k
        · rw [if_pos h2, if_pos (by omega)]
        · rw [if_neg h2, if_neg (by omega)]
    simp only [key]
  · unfold locate_track_at_s0
    simp only
    rw [show decide (((t.Window.toNat : Nat) : Int) < t.Window) = false by simp; omega]; rfl
theorem seen_ok (t : locate_track) (l : List Int) : locate_track_seen_spec t l = some (arr12 fun j => l.getD j 0) := rfl

/-- At how many positions window i and what is seen differ. -/
def dW (t : LocateTrack) (i : Nat) (seen : List Int) : Int := cnt (winV t i) (fun j => seen.getD j 0) t.Window.toNat
theorem getD_out (l : List Int) {j : Nat} (h : l.length ≤ j) : l.getD j 0 = 0 := by simp [List.getD, h]
theorem dW_ok {t : LocateTrack} (h : Rt t) (i : Nat) (seen : List Int) (hs : (seen.length : Int) = t.Window) :
    locate_window_differ_spec (arr12 fun j => if j < t.Window.toNat then winV t i j else 0) (arr12 fun j => seen.getD j 0) = some (dW t i seen) := by
  rw [wdiffer_ok]
  have hw := h.w2
  have hw1 := h.w1
  rw [cnt_tail (n := t.Window.toNat) (by omega)]
  · unfold dW
    rw [cnt_congr (f' := winV t i) (g' := fun j => seen.getD j 0)]
    intro j hj; simp [hj]
  · intro j h1 _
    rw [if_neg (by omega), getD_out seen (by omega)]; rfl

/-- How many windows there are. -/
def nW (t : LocateTrack) : Nat := if t.Round then t.Vanes.length else t.Vanes.length - t.Window.toNat + 1
theorem nW_le {t : LocateTrack} (h : Rt t) : 1 ≤ nW t ∧ nW t ≤ 40 := by
  unfold nW; have := h.l2; have := h.pos; have := h.w1; split <;> omega
theorem windows_ok {t : LocateTrack} (h : Rt t) : locate_track_windows_spec ⟨t⟩ = some (nW t : Int) := by
  unfold locate_track_windows_spec nW
  have := h.l1; have := h.l2; have := h.w1
  cases t.Round with
  | true => rfl
  | false => simp only [cond_false]; rw [w64_id (x := (t.Vanes.length : Int) - t.Window) (by omega), w64_id (by omega)]; simp; omega
theorem rWindowsOf_ok {t : LocateTrack} (h : Rt t) : ref04_WindowsOf_spec t = some (nW t : Int) := by
  unfold ref04_WindowsOf_spec nW
  have := h.l1; have := h.l2; have := h.w1
  cases t.Round with
  | true => rfl
  | false => simp only [cond_false]; rw [w64_id (x := (t.Vanes.length : Int) - t.Window) (by omega), w64_id (by omega)]; simp; omega

/-- The windows that are near. -/
def nearL (t : LocateTrack) (seen : List Int) : List Int := rng (fun i a => if dW t i seen ≤ t.Errors then a ++ [(i : Int)] else a) [] (nW t)
theorem near_ok {t : LocateTrack} (h : Rt t) (seen : List Int) (hs : (seen.length : Int) = t.Window) : locate_track_near_spec ⟨t⟩ seen = some (nearL t seen) := by
  unfold locate_track_near_spec
  rw [seen_ok, windows_ok h]
  simp only [Option.bind_some]
  have hn := nW_le h
  have hl := loop_rng (step := locate_track_near_s0 ⟨t⟩ (arr12 fun j => seen.getD j 0) (nW t : Int)) (nW t) (fun i (a : List Int) => if dW t i seen ≤ t.Errors then a ++ [(i : Int)] else a) (fun a k => (a, (k : Int))) (fun a => a) (fun a k => a.length ≤ k) [] (by simp) ?_ ?_
  · rw [show (([] : List Int), (0 : Int)) = (([] : List Int), ((0 : Nat) : Int)) from rfl, hl.1]; rfl
  · intro k hk a ha
    constructor
    · show locate_track_near_s0 ⟨t⟩ (arr12 fun j => seen.getD j 0) (nW t : Int) (a, (k : Int)) = _
      unfold locate_track_near_s0
      simp only
      rw [lt_nat hk, at_ok h k (by omega), w64n k (by omega), app_ok (by simp; omega)]
      simp only [Option.bind_some, cond_true, dW_ok h k seen hs]
      by_cases hc : dW t k seen ≤ t.Errors
      · simp [hc]
      · simp [hc]
    · split
      · simp; omega
      · omega
  · intro a _
    show locate_track_near_s0 ⟨t⟩ (arr12 fun j => seen.getD j 0) (nW t : Int) (a, ((nW t : Nat) : Int)) = _
    unfold locate_track_near_s0
    simp only
    rw [lt_nat_no]; rfl
end Go.Gw
