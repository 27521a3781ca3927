/- What is possible for a reading: what both texts compute. Condition: the track and the reading are right. -/
import Derived.Test.YtgpapebgdnimfaaGwLoc5
set_option maxRecDepth 4096
namespace Go.Gw
open Go

theorem eta_track (t : LocateTrack) : LocateTrack.mk t.Vanes t.Window t.Tooth t.PerVane t.First t.Modulus t.Slack t.Errors t.Round = t := rfl
/-- The places of a tooth. -/
def plc (t : LocateTrack) (i : Int) : Range := ⟨t.First + i * t.Tooth, t.First + i * t.Tooth + t.Tooth - 1⟩
theorem tooth_bound {t : LocateTrack} (h : Rt t) {i : Int} (h0 : -1 ≤ i) (h1 : i ≤ 1000000) : -1000 ≤ i * t.Tooth ∧ i * t.Tooth ≤ 1000000000 := by
  have ht := h.t1; have ht2 := h.t2
  constructor
  · rcases Int.lt_or_le i 0 with hn | hn
    · obtain rfl : i = -1 := by omega
      omega
    · have : 0 ≤ i * t.Tooth := Int.mul_nonneg hn (by omega)
      omega
  · rcases Int.lt_or_le i 0 with hn | hn
    · obtain rfl : i = -1 := by omega
      omega
    · have : i * t.Tooth ≤ 1000000 * 1000 := Int.mul_le_mul h1 ht2 (by omega) (by omega)
      omega
theorem places_ok {t : LocateTrack} (h : Rt t) {i : Int} (h0 : 0 ≤ i) (h1 : i ≤ 1000000) : locate_track_places_spec ⟨t⟩ i i = some (plc t i) := by
  have hb := tooth_bound h (i := i) (by omega) h1
  have hf := h.f1; have hf2 := h.f2; have ht := h.t1; have ht2 := h.t2
  unfold locate_track_places_spec plc
  simp only
  rw [w64_id (x := i * t.Tooth) (by omega), w64_id (x := t.First + i * t.Tooth) (by omega), w64_id (x := t.First + i * t.Tooth + t.Tooth) (by omega), w64_id (by omega)]
/-- How many teeth. -/
def nT (t : LocateTrack) : Nat := nW t * t.PerVane.toNat
theorem nT_le {t : LocateTrack} (h : Rt t) : nT t ≤ 480 := by
  have h1 := (nW_le h).2; have h2 := h.p2
  have : nW t * t.PerVane.toNat ≤ 40 * 12 := Nat.mul_le_mul h1 (by omega)
  unfold nT; omega
theorem nT_int {t : LocateTrack} (h : Rt t) : (nT t : Int) = nW t * t.PerVane := by
  have := h.p1
  unfold nT; rw [Int.natCast_mul, Int.toNat_of_nonneg (by omega)]
theorem rTeethOf_ok {t : LocateTrack} (h : Rt t) : ref04_TeethOf_spec t = some (nT t : Int) := by
  unfold ref04_TeethOf_spec
  rw [rWindowsOf_ok h]
  have h1 := nT_le h
  have h2 := nT_int h
  simp only [Option.bind_some]
  rw [← h2, w64_id (by omega)]
theorem teeth_ok {t : LocateTrack} (h : Rt t) : locate_track_teeth_spec ⟨t⟩ = some (nT t : Int) := by
  unfold locate_track_teeth_spec
  have h1 := nT_le h
  have h2 := nT_int h
  first
    | (rw [windows_ok h]; simp only [Option.bind_some]; rw [Int.mul_comm, ← h2, w64_id (by omega)])
    | (show (locate_track_windows_spec ⟨t⟩).bind _ = _; rw [windows_ok h]; simp only [Option.bind_some]; rw [Int.mul_comm, ← h2, w64_id (by omega)])

/-- Is a tooth's number close enough to a count? -/
def fitB (t : LocateTrack) (tooth count : Int) : Bool := decide ((tooth - count) % t.Modulus ≤ t.Slack) || decide (t.Modulus - t.Slack ≤ (tooth - count) % t.Modulus)
theorem Mod_ok {n b : Int} (hb : 1 ≤ b) (hb2 : b ≤ 4611686018427387904) : base_Mod_spec n b = some (n % b) := by
  unfold base_Mod_spec
  rw [rem_ok (by omega), Option.bind_some]
  have h1 := Int.emod_nonneg n (show b ≠ 0 by omega)
  have h2 := Int.emod_lt_of_pos n (show 0 < b by omega)
  rcases Int.lt_or_le n 0 with hn | hn
  · have e := Int.tmod_eq_emod (a := n) (b := b)
    by_cases hd : b ∣ n
    · obtain ⟨q, rfl⟩ := hd
      simp [Int.mul_tmod_right]
    · have h3 : n.tmod b = n % b - b := by
        rw [e]; split
        · rename_i h; rcases h with h | h
          · omega
          · exact absurd h hd
        · omega
      have h4 : n.tmod b < 0 := by omega
      rw [h3, decide_eq_true (by omega), cond_true, w64_id (by omega)]
      congr 1; omega
  · rw [Int.tmod_eq_emod_of_nonneg hn, decide_eq_false (by omega), cond_false]
/-- A tooth is put behind what is there: the last run goes on, or another one begins. -/
def mg (t : LocateTrack) (a : List Range × Int) (i : Int) : List Range × Int :=
  if 0 < a.1.length ∧ a.2 = i - 1 then (a.1.set (a.1.length - 1) ⟨(a.1.getD (a.1.length - 1) rg0).Lo, (plc t i).Hi⟩, i) else (a.1 ++ [plc t i], i)
def isP (t : LocateTrack) (x : LocateReading) (i : Nat) : Bool := decide (dW t (i / t.PerVane.toNat) x.Seen ≤ t.Errors) && fitB t i x.Count
def possS (t : LocateTrack) (x : LocateReading) (n : Nat) : List Range × Int := rng (fun i a => if isP t x i then mg t a i else a) ([], -1) n
def possL (t : LocateTrack) (x : LocateReading) : List Range := (possS t x (nT t)).1
theorem mg_len (t : LocateTrack) (a : List Range × Int) (i : Int) : (mg t a i).1.length ≤ a.1.length + 1 ∧ (mg t a i).2 = i ∧ 0 < (mg t a i).1.length := by
  unfold mg
  split
  · rename_i h; simp; exact h.1
  · simp
theorem possS_len (t : LocateTrack) (x : LocateReading) (n : Nat) : (possS t x n).1.length ≤ n ∧ -1 ≤ (possS t x n).2 ∧ (possS t x n).2 < n := by
  induction n with
  | zero => simp [possS, rng]
  | succ n ih =>
    show (if isP t x n then mg t (possS t x n) n else possS t x n).1.length ≤ n + 1 ∧ -1 ≤ (if isP t x n then mg t (possS t x n) n else possS t x n).2 ∧ (if isP t x n then mg t (possS t x n) n else possS t x n).2 < (n + 1 : Nat)
    split
    · have := mg_len t (possS t x n) n; omega
    · omega
/-- What is right of a reading. -/
structure Rr (t : LocateTrack) (x : LocateReading) : Prop where
  l : (x.Seen.length : Int) = t.Window
  s : ∀ v ∈ x.Seen, v = 0 ∨ v = 1 ∨ v = 2
  c1 : 0 ≤ x.Count
  c2 : x.Count < t.Modulus
/-! ### The other text goes through the windows that are near -/
theorem rng_add {γ : Type} (f : Nat → γ → γ) (a : γ) (n : Nat) : ∀ m, rng f a (n + m) = rng (fun k b => f (n + k) b) (rng f a n) m
  | 0 => rfl
  | m + 1 => by rw [show n + (m + 1) = (n + m) + 1 by omega]; simp only [rng]; rw [rng_add f a n m]
theorem rng_mul {γ : Type} (f : Nat → γ → γ) (a : γ) (p : Nat) : ∀ n, rng f a (n * p) = rng (fun w b => rng (fun j c => f (w * p + j) c) b p) a n
  | 0 => by simp [rng]
  | n + 1 => by rw [Nat.succ_mul, rng_add, rng_mul f a p n]; rfl
theorem rng_congr {γ : Type} {f g : Nat → γ → γ} {a : γ} {n : Nat} (h : ∀ k, k < n → ∀ b, f k b = g k b) : rng f a n = rng g a n := by
  induction n with
  | zero => rfl
  | succ n ih => simp only [rng]; rw [ih (fun k hk => h k (by omega)), h n (by omega)]
theorem rng_id {γ : Type} {f : Nat → γ → γ} {a : γ} {n : Nat} (h : ∀ k, k < n → ∀ b, f k b = b) : rng f a n = a := by
  rw [rng_congr (g := fun _ b => b) h]
  induction n with
  | zero => rfl
  | succ n ih => simp only [rng]; exact ih (fun k hk => h k (by omega))
/-- A sweep over what passes a test, collected first. -/
theorem fld_append {α γ : Type} (f : Nat → γ → α → γ) : ∀ (xs ys : List α) (k : Nat) (a : γ), fld f k a (xs ++ ys) = fld f (k + xs.length) (fld f k a xs) ys
  | [], ys, k, a => by simp [fld]
  | x :: xs, ys, k, a => by simp only [List.cons_append, fld]; rw [fld_append f xs ys]; simp only [List.length_cons]; congr 1; omega
theorem fld_rng {γ : Type} (p : Nat → Bool) (f : γ → Int → γ) (a : γ) : ∀ n, fld (fun _ b x => f b x) 0 a (rng (fun i (l : List Int) => if p i then l ++ [(i : Int)] else l) [] n) = rng (fun i b => if p i then f b i else b) a n
  | 0 => rfl
  | n + 1 => by
    simp only [rng]
    rw [← fld_rng p f a n]
    cases p n with
    | true => simp only [if_true]; rw [fld_append]; rfl
    | false => simp
/-- The places of one window's teeth. -/
def inW (t : LocateTrack) (x : LocateReading) (a : List Range × Int) (w : Int) : List Range × Int := rng (fun j b => if fitB t (w * t.PerVane + j) x.Count then mg t b (w * t.PerVane + j) else b) a t.PerVane.toNat
theorem possL_near {t : LocateTrack} (h : Rt t) (x : LocateReading) : possL t x = (fld (fun _ b w => inW t x b w) 0 ([], -1) (nearL t x.Seen)).1 := by
  have hp1 := h.p1
  unfold possL possS nT
  rw [rng_mul]
  congr 1
  unfold nearL
  rw [show (fun i (a : List Int) => if dW t i x.Seen ≤ t.Errors then a ++ [(i : Int)] else a) = (fun i (l : List Int) => if (fun i => decide (dW t i x.Seen ≤ t.Errors)) i then l ++ [(i : Int)] else l) by funext i a; simp]
  rw [fld_rng (fun i => decide (dW t i x.Seen ≤ t.Errors)) (fun b w => inW t x b w)]
  refine rng_congr fun w hw b => ?_
  have key : ∀ j, j < t.PerVane.toNat → ∀ c, (if isP t x (w * t.PerVane.toNat + j) then mg t c ((w * t.PerVane.toNat + j : Nat) : Int) else c) = if decide (dW t w x.Seen ≤ t.Errors) then (if fitB t ((w : Int) * t.PerVane + j) x.Count then mg t c ((w : Int) * t.PerVane + j) else c) else c := by
    intro j hj c
    have e1 : ((w * t.PerVane.toNat + j : Nat) : Int) = (w : Int) * t.PerVane + j := by
      rw [Int.natCast_add, Int.natCast_mul, Int.toNat_of_nonneg (by omega)]
    have e2 : (w * t.PerVane.toNat + j) / t.PerVane.toNat = w := by
      rw [Nat.mul_comm, Nat.mul_add_div (by omega), Nat.div_eq_of_lt hj]; rfl
    unfold isP
    rw [e2, e1]
    cases decide (dW t w x.Seen ≤ t.Errors) <;> simp
  rw [rng_congr key]
  cases decide (dW t w x.Seen ≤ t.Errors) with
  | true => rfl
  | false =>
    simp only [Bool.false_eq_true, if_false]
    exact rng_id fun _ _ _ => rfl
theorem offB {t : LocateTrack} (h : Rt t) {i c : Int} (hi : 0 ≤ i ∧ i ≤ 1000000) (hc1 : 0 ≤ c) (hc2 : c < t.Modulus) :
    (rem i t.Modulus).bind (fun q => rem (w64 (w64 (q + t.Modulus) - c)) t.Modulus) = some ((i - c) % t.Modulus) := by
  have hm := h.m1; have hm2 := h.m2
  have h1 := Int.emod_nonneg i (show t.Modulus ≠ 0 by omega)
  have h2 := Int.emod_lt_of_pos i (show 0 < t.Modulus by omega)
  rw [rem_ok (by omega), Option.bind_some, Int.tmod_eq_emod_of_nonneg hi.1, w64_id (x := i % t.Modulus + t.Modulus) (by omega), w64_id (by omega), rem_ok (by omega), Int.tmod_eq_emod_of_nonneg (by omega)]
  congr 1
  rw [show i % t.Modulus + t.Modulus - c = (i % t.Modulus - c) + t.Modulus by omega, Int.add_emod_right, Int.emod_sub_emod]
theorem inLoop_ok {t : LocateTrack} (h : Rt t) {x : LocateReading} (hr : Rr t x) (e : Int) (w : Int) (hw : 0 ≤ w ∧ w ≤ 100) (a : List Range × Int) (ha : a.1.length ≤ 10000 ∧ -1 ≤ a.2 ∧ a.2 ≤ 1000000) :
    loop (locate_Possible_s0 w t x (⟨t⟩, e)) (a.1, a.2, w64 (w * t.PerVane)) = some (inW t x a w) ∧ (inW t x a w).1.length ≤ a.1.length + t.PerVane.toNat ∧ -1 ≤ (inW t x a w).2 ∧ (inW t x a w).2 ≤ 1000000 := by
  have hp1 := h.p1; have hp2 := h.p2; have hm := h.m1; have hm2 := h.m2; have hc1 := hr.c1; have hc2 := hr.c2; have hs := h.s1; have hs2 := h.s2
  have hb : 0 ≤ w * t.PerVane ∧ w * t.PerVane ≤ 1200 := ⟨Int.mul_nonneg hw.1 (by omega), by
    have : w * t.PerVane ≤ 100 * 12 := Int.mul_le_mul hw.2 hp2 (by omega) (by omega)
    omega⟩
  have hb2 : (w + 1) * t.PerVane = w * t.PerVane + t.PerVane := by rw [Int.add_mul]; omega
  have hl := loop_rng (step := locate_Possible_s0 w t x (⟨t⟩, e)) t.PerVane.toNat (fun j (b : List Range × Int) => if fitB t (w * t.PerVane + j) x.Count then mg t b (w * t.PerVane + j) else b) (fun b k => (b.1, b.2, w * t.PerVane + (k : Int))) (fun b => b) (fun b k => b.1.length ≤ a.1.length + k ∧ -1 ≤ b.2 ∧ b.2 ≤ 1000000) a (by omega) ?_ ?_
  · refine ⟨?_, by have := hl.2; unfold inW; exact this⟩
    rw [w64_id (by omega)]
    have e0 : (a.1, a.2, w * t.PerVane) = (a.1, a.2, w * t.PerVane + ((0 : Nat) : Int)) := by simp
    rw [e0, hl.1]; rfl
  · intro k hk b hbI
    generalize hi : w * t.PerVane + (k : Int) = i
    have hi0 : 0 ≤ i ∧ i ≤ 1300 := by omega
    constructor
    · show locate_Possible_s0 w t x (⟨t⟩, e) (b.1, b.2, i) = _
      have hn : w * t.PerVane + ((k + 1 : Nat) : Int) = i + 1 := by omega
      rw [hn]
      unfold locate_Possible_s0
      simp only [eta_track]
      rw [w64_id (x := w + 1) (by omega), hb2, w64_id (x := w * t.PerVane + t.PerVane) (by omega), decide_eq_true (show i < w * t.PerVane + t.PerVane by omega), cond_true, ← Option.bind_assoc, offB h (by omega) hc1 hc2, Option.bind_some, places_ok h (by omega) (by omega), w64_id (x := i + 1) (by omega), w64_id (x := i - 1) (by omega)]
      have h1 := Int.emod_nonneg (i - x.Count) (show t.Modulus ≠ 0 by omega)
      have h2 := Int.emod_lt_of_pos (i - x.Count) (show 0 < t.Modulus by omega)
      have hfit : fitB t i x.Count = (decide ((i - x.Count) % t.Modulus ≤ t.Slack) || decide (t.Modulus - t.Slack ≤ (i - x.Count) % t.Modulus)) := rfl
      generalize (i - x.Count) % t.Modulus = off at h1 h2 hfit
      rw [w64_id (x := t.Modulus - off) (by omega)]
      have hcond : decide (t.Slack < (if t.Modulus - off < off then t.Modulus - off else off)) = !fitB t i x.Count := by
        rw [hfit, Bool.eq_iff_iff]
        simp only [decide_eq_true_eq, Bool.not_eq_true', Bool.or_eq_false_iff, decide_eq_false_iff_not]
        split <;> omega
      rw [hcond]
      cases hf : fitB t i x.Count with
      | false => simp only [Bool.not_false, cond_true, Bool.false_eq_true, if_false]
      | true =>
        simp only [Bool.not_true, cond_false, if_true]
        by_cases hc : 0 < b.1.length ∧ b.2 = i - 1
        · have hix : idx b.1 (w64 ((b.1.length : Int) - 1)) = some (b.1.getD (b.1.length - 1) rg0) := by
            rw [w64_id (by omega), show (b.1.length : Int) - 1 = ((b.1.length - 1 : Nat) : Int) by omega, idx_nat (by omega)]
            simp [List.getD, show b.1.length - 1 < b.1.length by omega]
          rw [hix, w64_id (x := (b.1.length : Int) - 1) (by omega), show ((b.1.length : Int) - 1).toNat = b.1.length - 1 by omega]
          have hc1' : decide (0 < (b.1.length : Int)) = true := by rw [decide_eq_true_eq]; omega
          simp only [hc1', hc.2, decide_true, Bool.and_self, cond_true, Option.bind_some]
          unfold mg
          rw [if_pos hc]
        · have hc' : (decide (0 < (b.1.length : Int)) && decide (b.2 = i - 1)) = false := by
            rw [Bool.eq_false_iff]; simp only [ne_eq, Bool.and_eq_true, decide_eq_true_eq]; omega
          rw [hc', cond_false, Option.bind_some, app_ok (by simp; omega)]
          simp only [Option.bind_some]
          unfold mg
          rw [if_neg hc]
    · split
      · have := mg_len t b i; omega
      · omega
  · intro b _
    show locate_Possible_s0 w t x (⟨t⟩, e) (b.1, b.2, w * t.PerVane + ((t.PerVane.toNat : Nat) : Int)) = _
    unfold locate_Possible_s0
    simp only [eta_track]
    rw [w64_id (x := w + 1) (by omega), hb2, w64_id (x := w * t.PerVane + t.PerVane) (by omega), decide_eq_false (by omega), cond_false]
theorem nearL_mem {t : LocateTrack} {seen : List Int} {w : Int} (h : w ∈ nearL t seen) : 0 ≤ w ∧ w < nW t ∧ dW t w.toNat seen ≤ t.Errors := by
  have key : ∀ n, w ∈ rng (fun i (a : List Int) => if dW t i seen ≤ t.Errors then a ++ [(i : Int)] else a) [] n → 0 ≤ w ∧ w < n ∧ dW t w.toNat seen ≤ t.Errors := by
    intro n
    induction n with
    | zero => intro h; cases h
    | succ n ih =>
      intro h
      simp only [rng] at h
      split at h
      · rcases List.mem_append.1 h with h | h
        · have := ih h; omega
        · obtain rfl : w = n := by simpa using h
          rw [Int.toNat_natCast]; refine ⟨by omega, by omega, by assumption⟩
      · have := ih h; omega
  exact key _ h
theorem mem_nearL {t : LocateTrack} {seen : List Int} {i : Nat} (h : i < nW t) (hd : dW t i seen ≤ t.Errors) : (i : Int) ∈ nearL t seen := by
  have key : ∀ n, i < n → (i : Int) ∈ rng (fun i (a : List Int) => if dW t i seen ≤ t.Errors then a ++ [(i : Int)] else a) [] n := by
    intro n
    induction n with
    | zero => intro h; omega
    | succ n ih =>
      intro h
      simp only [rng]
      by_cases hin : i = n
      · subst hin; rw [if_pos hd]; simp
      · split
        · exact List.mem_append_left _ (ih (by omega))
        · exact ih (by omega)
  exact key _ h
/-- The error of a reading, by a track that may be wrong. -/
def rdE (t : LocateTrack) (x : LocateReading) : Int := if opE t x.Seen ≠ 0 then opE t x.Seen else if 0 ≤ x.Count ∧ x.Count < t.Modulus then 0 else 2
theorem rdE_rr {t : LocateTrack} {x : LocateReading} (h : rdE t x = 0) : Rt t ∧ Rr t x := by
  unfold rdE at h
  split at h
  · exact absurd h (by assumption)
  · rename_i h1
    obtain ⟨h2, h3, h4⟩ := opE_rt (by simpa using h1)
    split at h
    · rename_i h5
      exact ⟨h2, h3, h4, h5.1, h5.2⟩
    · cases h
theorem Possible_ok (t : LocateTrack) (x : LocateReading) (ht : t.Vanes.length < 1073741824) (hl : x.Seen.length < 1073741824) : locate_Possible_spec t x = some (if rdE t x = 0 then (possL t x, 0) else ([], rdE t x)) := by
  unfold locate_Possible_spec
  rw [openSeen_ok t _ ht hl]
  simp only [Option.bind_some, within_ok, unless_ok]
  rw [first_ok _ (by simp)]
  simp only [Option.bind_some]
  have e : frst [opE t x.Seen, bif (decide (0 ≤ x.Count) && decide (x.Count ≤ w64 (t.Modulus - 1))) then 0 else 2] = rdE t x := by
    unfold rdE
    by_cases h1 : opE t x.Seen = 0
    · obtain ⟨hR, _⟩ := opE_rt h1
      have := hR.m1; have := hR.m2
      rw [w64_id (by omega)]
      by_cases h2 : 0 ≤ x.Count ∧ x.Count < t.Modulus
      · have h3 : x.Count ≤ t.Modulus - 1 := by omega
        simp [frst, h1, h2, h3]
      · have h3 : (decide (0 ≤ x.Count) && decide (x.Count ≤ t.Modulus - 1)) = false := by
          rw [Bool.eq_false_iff]; simp only [ne_eq, Bool.and_eq_true, decide_eq_true_eq]; omega
        simp [frst, h1, h2, h3]
    · simp [frst, h1]
  rw [e]
  by_cases h : rdE t x = 0
  · obtain ⟨hR, hr⟩ := rdE_rr h
    simp only [h, decide_true, Bool.not_true, cond_false, if_true, eta_track]
    rw [near_ok hR _ hr.l]
    simp only [Option.bind_some]
    have hlen := nearL_len hR x.Seen
    have hW := (nW_le hR).2
    have hp := hR.p2
    have hlp := loop_fld (step := locate_Possible_s1 t x (⟨t⟩, opE t x.Seen) (nearL t x.Seen)) (nearL t x.Seen) (fun _ b w => inW t x b w) (fun a k => (a.1, a.2, (k : Int))) (fun a => a.1) (fun a k => a.1.length ≤ k * t.PerVane.toNat ∧ -1 ≤ a.2 ∧ a.2 ≤ 1000000) ([], -1) (by simp) ?_ ?_
    · have e0 : (([] : List Range), (-1 : Int), (0 : Int)) = (([] : List Range), (-1 : Int), ((0 : Nat) : Int)) := rfl
      rw [e0, hlp.1, ← possL_near hR]; rfl
    · intro k hk a ha
      have hm := nearL_mem (List.getElem_mem hk)
      have hkp : k * t.PerVane.toNat ≤ 40 * 12 := Nat.mul_le_mul (by omega) (by omega)
      obtain ⟨h1, h2⟩ := inLoop_ok hR hr (opE t x.Seen) (nearL t x.Seen)[k] (by omega) a (by omega)
      constructor
      · show locate_Possible_s1 t x (⟨t⟩, opE t x.Seen) (nearL t x.Seen) (a.1, a.2, (k : Int)) = _
        unfold locate_Possible_s1
        simp only
        rw [lt_nat hk, idx_nat hk, w64n k (by omega)]
        simp only [Option.bind_some, cond_true]
        rw [h1]; rfl
      · rw [Nat.succ_mul]; omega
    · intro a _
      show locate_Possible_s1 t x (⟨t⟩, opE t x.Seen) (nearL t x.Seen) (a.1, a.2, ((nearL t x.Seen).length : Int)) = _
      unfold locate_Possible_s1
      simp only
      rw [lt_nat_no]; rfl
  · simp [h]
theorem PlaceOf_ok (t : LocateTrack) (x : LocateReading) (ht : t.Vanes.length < 1073741824) (hl : x.Seen.length < 1073741824) : locate_PlaceOf_spec t x = some (if rdE t x = 0 then onlyR (possL t x) 0 else (rg0, rdE t x)) := by
  unfold locate_PlaceOf_spec
  rw [Possible_ok t x ht hl]
  simp only [Option.bind_some, onlyR_ok]
  by_cases h : rdE t x = 0
  · simp [h]
  · simp [h, onlyR]
end Go.Gw
