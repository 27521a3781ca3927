/- Laws of the walk. Condition: each theorem says its own. -/
import Derived.Test.YtglaeocolbnpdaaGreatGwPl2
section
set_option maxRecDepth 4096
set_option linter.unusedSimpArgs false
set_option linter.unusedVariables false
namespace Go.Gw
open Go

/-! ### What a map takes from a form -/
def YM (p : LevitatePlant) (m : Nat) (f : List (List Int)) (i k : Nat) : Int := QV (fun a => ge p m a i * QV (fun b => g2 f a b * ge p m b k) p.Noise.length) p.Noise.length
def dI (p : LevitatePlant) (m : Nat) (f : List (List Int)) (r : Arr2_Int) (i k : Nat) : Int := r.e0 * p.Den * p.Den * g2 f i k - r.e1 * YM p m f i k
def dM (p : LevitatePlant) (m : Nat) (f : List (List Int)) (r : Arr2_Int) : List (List Int) := J9 p.Noise.length (dI p m f r)
structure Rr (r : Arr2_Int) : Prop where
  e1 : 1 ≤ r.e1 ∧ r.e1 ≤ 1000
  e0 : 0 ≤ r.e0 ∧ r.e0 ≤ r.e1
theorem Qjw {p : LevitatePlant} (h : Rp p) {m : Nat} (hm : m < p.Maps.length) {f : List (List Int)} (hb : Bd p.Noise.length f 10000) {i k : Nat} (hi : i < p.Noise.length) (hk : k < p.Noise.length) : -90000000000 ≤ YM p m f i k ∧ YM p m f i k ≤ 90000000000 := by
  have := Qdv (t := fun a => ge p m a i * QV (fun b => g2 f a b * ge p m b k) p.Noise.length) (B := 1000 * (3 * (10000 * 1000))) h.n3 (by decide) fun a ha => XU (h.ge_b hm ha hi) (Qdv h.n3 (by decide) fun b hb' => XU (hb a b ha hb') (h.ge_b hm hb' hk))
  unfold YM; omega
theorem rdd {p : LevitatePlant} (h : Rp p) {r : Arr2_Int} (hr : Rr r) : -1000000 ≤ r.e0 * p.Den ∧ r.e0 * p.Den ≤ 1000000 ∧ -1000000000 ≤ r.e0 * p.Den * p.Den ∧ r.e0 * p.Den * p.Den ≤ 1000000000 := by
  have hd := h.den
  have h0 := hr.e0; have h1 := hr.e1
  have a1 := XU (a := r.e0) (b := p.Den) (A := 1000) (B := 1000) (by omega) (by omega)
  have a2 := XU (a := r.e0 * p.Den) (b := p.Den) (A := 1000000) (B := 1000) (by omega) (by omega)
  omega
theorem Qeq {p : LevitatePlant} (h : Rp p) {m : Nat} (hm : m < p.Maps.length) {f : List (List Int)} (hb : Bd p.Noise.length f 10000) {r : Arr2_Int} (hr : Rr r) {i k : Nat} (hi : i < p.Noise.length) (hk : k < p.Noise.length) :
    (-10000000000000 ≤ r.e0 * p.Den * p.Den * g2 f i k ∧ r.e0 * p.Den * p.Den * g2 f i k ≤ 10000000000000) ∧ (-90000000000000 ≤ r.e1 * YM p m f i k ∧ r.e1 * YM p m f i k ≤ 90000000000000) := by
  have hx := rdd h hr
  have a3 := XU (a := r.e0 * p.Den * p.Den) (A := 1000000000) (by omega) (hb i k hi hk)
  have a4 := XU (a := r.e1) (A := 1000) (by have := hr.e1; omega) (Qjw h hm hb hi hk)
  omega
theorem Qod {p : LevitatePlant} (h : Rp p) {m : Nat} (hm : m < p.Maps.length) {k : Nat} (hk : k < p.Noise.length) : Qda (k : Int) (gm p m) = some (Zp p.Noise.length fun a => ge p m a k) := by
  unfold Qda
  have hl := h.sq _ (JI hm)
  have h3 := h.n3
  have : loop (Qgf (gm p m) (k : Int)) ([], 0) = some (Zp p.Noise.length fun a => ge p m a k) := by
    refine JM p.Noise.length (fun a => ge p m a k) (fun a ha acc hacc => ?_) (fun acc => ?_)
    · unfold Qgf
      dsimp only
      rw [hl, Xi ha, cond_true, Zl (by rw [hl]; exact ha), Option.bind_some, XG (by rw [h.row_len hm ha]; exact hk), Option.bind_some, Ye (by simp [hacc]; omega), Option.bind_some, Xg a (by omega)]; rfl
    · unfold Qgf
      dsimp only
      rw [hl, Xj]; rfl
  rw [this]; rfl
theorem Qxm {p : LevitatePlant} (h : Rp p) {m : Nat} (hm : m < p.Maps.length) {f : List (List Int)} (hf : Sq p.Noise.length f) (hb : Bd p.Noise.length f 10000) {r : Arr2_Int} (hr : Rr r) :
    Qdb ⟨p⟩ (m : Int) f r = some (Yw p.Noise.length (dM p m f r)) := by
  unfold Qdb
  have h3 := h.n3
  rw [Qez hm, Option.bind_some]
  have hx := rdd h hr
  have him : ∀ i k, i < p.Noise.length → k < p.Noise.length → loop (Qgg (gm p m) f (i : Int) (k : Int)) (0, 0) = some (YM p m f i k) := by
    intro i k hi hk
    rw [Qgp p.Noise.length (fun a => ge p m a i * QV (fun b => g2 f a b * ge p m b k) p.Noise.length)]
    · have := Qjw h hm hb hi hk
      rw [Q7 (by unfold YM at this; omega)]; rfl
    · intro a ha acc
      unfold Qgg
      dsimp only
      rw [hf.len, Xi ha, cond_true, Zl (by rw [hf.len]; exact ha), Option.bind_some, Qod h hm hi, Option.bind_some, XG (by rw [Qaa]; exact ha), Option.bind_some, Qod h hm hk, Option.bind_some,
        Qjh (by rw [hf.row a ha, Qaa]; omega) (by rw [hf.row a ha]; omega), Option.bind_some, Jf, hf.row a ha, Qat ha, Xg a (by omega)]
      congr 3
      rw [← Jf, Qsq, Jf]
      congr 3
      exact J8 fun b hb' => by rw [Qat hb']; rfl
    · intro acc
      unfold Qgg
      dsimp only
      rw [hf.len, Xj]; rfl
  have hd : loop (Qgi (gm p m) ⟨p⟩ r f) ([], 0) = some (dM p m f r) := by
    refine JM p.Noise.length (fun i => Zp p.Noise.length (dI p m f r i)) (fun i hi acc hacc => ?_) (fun acc => ?_)
    · unfold Qgi
      dsimp only
      rw [hf.len, Xi hi, cond_true, Zl (by rw [hf.len]; exact hi), Option.bind_some]
      have hrow : loop (Qgh (gm p m) (gr f i) ⟨p⟩ r f (i : Int)) ([], 0) = some (Zp p.Noise.length (dI p m f r i)) := by
        refine JM p.Noise.length (dI p m f r i) (fun k hk acc2 hacc2 => ?_) (fun acc2 => ?_)
        · unfold Qgh
          dsimp only
          have hb2 := Qeq h hm hb hr hi hk
          rw [hf.row i hi, Xi hk, cond_true, XG (by rw [hf.row i hi]; exact hk), Option.bind_some, him i k hi hk, Option.bind_some]
          rw [Q7 (x := r.e0 * p.Den) (by omega), Q7 (x := r.e0 * p.Den * p.Den) (by omega)]
          change Option.bind (XM acc2 [w64 (w64 (r.e0 * p.Den * p.Den * g2 f i k) - w64 (r.e1 * YM p m f i k))]) _ = _
          rw [Q7 (x := r.e0 * p.Den * p.Den * g2 f i k) (by omega), Q7 (x := r.e1 * YM p m f i k) (by omega), Q7 (by omega), Ye (by simp [hacc2]; omega), Option.bind_some, Xg k (by omega)]; rfl
        · unfold Qgh
          dsimp only
          rw [hf.row i hi, Xj]; rfl
      rw [hrow, Option.bind_some, Ye (by simp [hacc]; omega), Option.bind_some, Xg i (by omega)]
    · unfold Qgi
      dsimp only
      rw [hf.len, Xj]; rfl
  rw [hd, Option.bind_some, Qzq (d := dM p m f r) h.n1 h3 (Qry _ _) (fun i k hi hk => by
    unfold dM; rw [Qcs hi hk]
    have := Qeq h hm hb hr hi hk
    unfold dI; omega)]; rfl

/-! ### What proves -/
def Za (r : Arr2_Int) : Bool := (decide (1 ≤ r.e1) && decide (r.e1 ≤ 1000)) && (decide (0 ≤ r.e0) && decide (r.e0 ≤ r.e1))
theorem rateB_iff {r : Arr2_Int} : Za r = true ↔ Rr r := by
  unfold Za
  simp only [Bool.and_eq_true, decide_eq_true_eq]
  exact ⟨fun h => ⟨h.1, h.2⟩, fun h => ⟨h.e1, h.e0⟩⟩
def ZP (p : LevitatePlant) (f : List (List Int)) (r : Arr2_Int) : Option Nat := fs (fun m _ => if Yw p.Noise.length (dM p m f r) then none else some m) 0 p.Maps
def Y9 (p : LevitatePlant) (f : List (List Int)) (r : Arr2_Int) : Int × Int :=
  if Za r then (if Ys f then (match ZP p f r with | some m => ((m : Int), 24) | none => (0, 0)) else (0, 20)) else (0, 2)
theorem Qqy (p : LevitatePlant) (f : List (List Int)) (h : Sh p) (hl : f.length < 1073741824) : Qcy p f = some (⟨p⟩, if (XQ p).2 = 0 then (if YY f = 0 then (if f.length = p.Noise.length then 0 else 13) else YY f) else (XQ p).2) := by
  unfold Qcy
  simp only [Qld p h, Option.bind_some, Qyx f hl, Zf, Qwk, YZ]
  by_cases h1 : (XQ p).2 = 0 <;> by_cases h2 : YY f = 0 <;> by_cases h3 : f.length = p.Noise.length <;> simp [h1, h2, h3]
theorem Qrd {p : LevitatePlant} (h : Rp p) {f : List (List Int)} (hf : Rf f) (hn : f.length = p.Noise.length) (r : Arr2_Int) : J3 p f r = some (⟨p⟩, Y9 p f r) := by
  unfold J3
  have h3 := h.n3
  have hsq : Sq p.Noise.length f := by rw [← hn]; exact hf.sq
  have hbd : Bd p.Noise.length f 10000 := by rw [← hn]; exact hf.bd
  rw [Qqy p f h.sh (by omega)]
  simp only [Option.bind_some, h.ck, frmE_right.2 hf, hn, if_true, J5]
  have e : ∀ b c : Bool, (bif b then some c else some default) = some (b && c) := by intro b c; cases b <;> rfl
  simp only [e, Option.bind_some, Zf, ZN, if_true]
  have e2 : ((decide (1 ≤ r.e1) && decide (r.e1 ≤ 1000)) && ((decide (1 ≤ r.e1) && decide (r.e1 ≤ 1000)) && (decide (0 ≤ r.e0) && decide (r.e0 ≤ r.e1)))) = Za r := by
    unfold Za; cases (decide (1 ≤ r.e1) && decide (r.e1 ≤ 1000)) <;> rfl
  rw [e2]
  unfold Y9
  cases hr : Za r with
  | false => simp
  | true =>
    have hrr := rateB_iff.1 hr
    have hp := QCc hf.sq hf.n3 (hf.bd.mono (by decide))
    simp only [cond_true, decide_true, hp, Option.bind_some, Zf, if_true]
    cases hpos : Ys f with
    | false => simp
    | true =>
      have hloop : loop (Qgm f p r (⟨p⟩, 0)) 0 = some (oi ((ZP p f r).map fun m : Nat => ((⟨p⟩, (m : Int), 24) : levitate_plant × Int × Int))) := by
        rw [X0 p.Maps (fun m _ => (if Yw p.Noise.length (dM p m f r) then none else some m).map fun m : Nat => ((⟨p⟩, (m : Int), 24) : levitate_plant × Int × Int))]
        · rw [JN (fun m : Nat => ((⟨p⟩, (m : Int), 24) : levitate_plant × Int × Int)) (fun m _ => if Yw p.Noise.length (dM p m f r) then none else some m)]; rfl
        · intro m hm
          unfold Qgm
          rw [Xi hm, cond_true]
          change Option.bind (Qdb ⟨p⟩ (m : Int) f r) _ = _
          rw [Qxm h hm hsq hbd hrr, Option.bind_some, Xg m (by have := h.m4; omega)]
          cases Yw p.Noise.length (dM p m f r) <;> rfl
        · unfold Qgm
          rw [Xj]; rfl
      simp only [cond_true, decide_true, Bool.not_true, cond_false, if_true]
      rw [hloop]
      cases ZP p f r <;> rfl

/-! ### Levels -/
def Yn (level worst : Int) (r : Arr2_Int) : Bool :=
  decide (0 ≤ (r.e1 - r.e0) * level - r.e1 * worst) && decide (4 * r.e0 * r.e1 * level * worst ≤ ((r.e1 - r.e0) * level - r.e1 * worst) * ((r.e1 - r.e0) * level - r.e1 * worst))
theorem Qwu {level worst : Int} {r : Arr2_Int} (hr : Rr r) (hl : 0 ≤ level ∧ level ≤ 100000000000000) (hw : -9002000000000000 ≤ worst ∧ worst ≤ 9002000000000000) : Qfy level worst r = some (Yn level worst r) := by
  unfold Qfy
  have h0 := hr.e0; have h1 := hr.e1
  have a1 := XU (a := r.e1 - r.e0) (b := level) (A := 1000) (B := 100000000000000) (by omega) (by omega)
  have a2 := XU (a := r.e1) (b := worst) (A := 1000) (B := 9002000000000000) (by omega) (by omega)
  have a3 := XU (a := 4 * r.e0) (b := r.e1) (A := 4000) (B := 1000) (by omega) (by omega)
  have a4 := XU (a := 4 * r.e0 * r.e1) (b := level) (A := 4000000) (B := 100000000000000) (by omega) (by omega)
  have a5 := XU (a := 4 * r.e0 * r.e1 * level) (b := worst) (A := 400000000000000000000) (B := 9002000000000000) (by omega) (by omega)
  rw [Q7 (x := r.e1 - r.e0) (by omega), Zt (by omega), Option.bind_some, Zt (n := level) (by omega), Option.bind_some, JP, Option.bind_some, Zt (n := r.e1) (by omega), Option.bind_some, Zt (n := worst) (by omega), Option.bind_some, JP, Option.bind_some, Qav, Option.bind_some, Option.bind_some]
  have eta : ∀ x : Int, Arr3_U64.mk (Q5 x).e0 (Q5 x).e1 (Q5 x).e2 = Q5 x := fun _ => rfl
  dsimp only
  rw [eta]
  rw [Q7 (x := 4 * r.e0) (by omega), Q7 (x := 4 * r.e0 * r.e1) (by omega), Zt (n := 4 * r.e0 * r.e1) (by omega)]
  generalize hA : (r.e1 - r.e0) * level - r.e1 * worst = A
  have hA1 : -10000000000000000000 ≤ A ∧ A ≤ 10000000000000000000 := by omega
  have a6 := XU hA1 hA1
  simp only [Qen (x := A) (by omega), Option.bind_some, Zt (n := level) (show -9223372036854775808 ≤ level ∧ level ≤ 9223372036854775807 by omega), Zt (n := worst) (show -9223372036854775808 ≤ worst ∧ worst ≤ 9223372036854775807 by omega), JP, Qav]
  rw [Qen (by omega)]
  unfold Yn
  rw [hA]
  generalize 4 * r.e0 * r.e1 * level * worst = B
  generalize A * A = C
  by_cases h4 : A < 0
  · have : ¬ 0 ≤ A := by omega
    simp [h4, this]
  · have : 0 ≤ A := by omega
    by_cases h5 : C - B < 0
    · have : ¬ B ≤ C := by omega
      simp [h4, *]
    · have : B ≤ C := by omega
      simp [h4, *]

/-! ### The least number -/
theorem Qxj {step : (Int × Int) → Option ((Int × Int) ⊕ Int)} (P : Int → Bool) (most : Int) (h0 : 0 ≤ most) (hm : most ≤ 1000000000000000)
    (hs : ∀ lo hi, -1 ≤ lo → lo < hi → hi ≤ most + 1 → 1 < hi - lo → step (lo, hi) = some (.inl (if P (lo + (hi - lo) / 2) then (lo, lo + (hi - lo) / 2) else (lo + (hi - lo) / 2, hi))))
    (he : ∀ lo hi, -1 ≤ lo → lo < hi → hi ≤ most + 1 → ¬ 1 < hi - lo → step (lo, hi) = some (.inr hi)) :
    Runs (loop step (-1, w64 (most + 1))) fun hi => 0 ≤ hi ∧ hi ≤ most + 1 ∧ (hi ≤ most → P hi = true) ∧ (0 < hi → P (hi - 1) = false) := by
  rw [Q7 (by omega)]
  refine Runs.loop (fun s => -1 ≤ s.1 ∧ s.1 < s.2 ∧ s.2 ≤ most + 1 ∧ (s.2 ≤ most → P s.2 = true) ∧ (0 ≤ s.1 → P s.1 = false)) (fun s => (s.2 - s.1).toNat) ⟨by omega, by show (-1 : Int) < most + 1; omega, by show most + 1 ≤ most + 1; omega, fun h => by exfalso; change most + 1 ≤ most at h; omega, fun h => by exfalso; change (0 : Int) ≤ -1 at h; omega⟩ ?_
  rintro ⟨lo, hi⟩ ⟨h1, h2, h3, h4, h5⟩
  dsimp only at h1 h2 h3 h4 h5
  by_cases hd : 1 < hi - lo
  · rw [hs lo hi h1 h2 h3 hd]
    refine Runs.some ?_
    cases hp : P (lo + (hi - lo) / 2) with
    | true =>
      rw [if_pos rfl]
      refine ⟨⟨h1, by dsimp only; omega, by dsimp only; omega, fun _ => hp, h5⟩, ?_⟩
      dsimp only; omega
    | false =>
      rw [if_neg (by simp)]
      refine ⟨⟨by dsimp only; omega, by dsimp only; omega, h3, h4, fun _ => hp⟩, ?_⟩
      dsimp only; omega
  · rw [he lo hi h1 h2 h3 hd]
    refine Runs.some ⟨by omega, h3, h4, fun h => ?_⟩
    have : hi - 1 = lo := by omega
    rw [this]; exact h5 (by omega)
theorem Qpw {lo hi most : Int} (h1 : -1 ≤ lo) (h2 : lo < hi) (h3 : hi ≤ most + 1) (hm : most ≤ 1000000000000000) : w64 (hi - lo) = hi - lo ∧ w64 (lo + (w64 (Int.tdiv (hi - lo) 2))) = lo + (hi - lo) / 2 := by
  have e1 : w64 (hi - lo) = hi - lo := Q7 (by omega)
  have e2 : Int.tdiv (hi - lo) 2 = (hi - lo) / 2 := Int.tdiv_eq_ediv_of_nonneg (by omega)
  refine ⟨e1, ?_⟩
  rw [e2, Q7 (x := (hi - lo) / 2) (by omega), Q7 (by omega)]
theorem Qoy {worst : Int} {r : Arr2_Int} (hr : Rr r) (hw : -9002000000000000 ≤ worst ∧ worst ≤ 9002000000000000) : Runs (Qfz 100000000000000 worst r) fun q => 0 ≤ q.1 ∧ q.1 ≤ 100000000000001 ∧ (q.1 ≤ 100000000000000 → Yn q.1 worst r = true) ∧ (0 < q.1 → Yn (q.1 - 1) worst r = false) ∧ q.2 = decide (q.1 ≤ 100000000000000) := by
  unfold Qfz
  refine Runs.callR (Qxj (fun n => Yn n worst r) 100000000000000 (by decide) (by decide) (fun lo hi h1 h2 h3 hd => ?_) (fun lo hi h1 h2 h3 hd => ?_)) fun hi hh => Runs.some ⟨hh.1, hh.2.1, hh.2.2.1, hh.2.2.2, rfl⟩
  · unfold Qkn
    dsimp only
    have hm := Qpw h1 h2 h3 (by decide)
    rw [hm.1, hm.2, decide_eq_true hd, cond_true]
    unfold Qkd
    rw [Qwu hr (by omega) hw, Option.bind_some, Option.bind_some]
    cases Yn (lo + (hi - lo) / 2) worst r <;> rfl
  · unfold Qkn
    dsimp only
    have hm := Qpw h1 h2 h3 (by decide)
    rw [hm.1, decide_eq_false hd]; rfl

/-! ### Bounds -/
/-! ### Proofs -/
theorem QCe {p : LevitatePlant} {f : List (List Int)} {r : Arr2_Int} (h : (Y9 p f r).2 = 0) : Rr r := by
  unfold Y9 at h
  cases hr : Za r with
  | true => exact rateB_iff.1 hr
  | false => simp [hr] at h
end Go.Gw

end
section
set_option maxRecDepth 4096
set_option linter.unusedSimpArgs false
set_option linter.unusedVariables false
namespace Go.Gw
open Go

theorem Qza {α β : Type} {step : (Int × List β) → Option ((Int × List β) ⊕ List β)} (xs : List α) (g : α → β)
    (hs : ∀ k (hk : k < xs.length) (acc : List β), acc.length = k → step ((k : Int), acc) = some (.inl (((k + 1 : Nat) : Int), acc ++ [g xs[k]]))) (he : ∀ acc, step ((xs.length : Int), acc) = some (.inr acc)) :
    loop step (0, []) = some (xs.map g) := by
  have key : ∀ k, k ≤ xs.length → loop step (0, []) = loop step ((k : Int), (xs.take k).map g) := by
    intro k
    induction k with
    | zero => intro _; rfl
    | succ k ih =>
      intro hk
      rw [ih (by omega)]
      refine (Yi (hs k (by omega) _ (by simp; omega))).trans ?_
      have e : (xs.take (k + 1)).map g = (xs.take k).map g ++ [g xs[k]] := by rw [List.take_succ_eq_append_getElem (by omega), List.map_append]; rfl
      rw [e]
  rw [key _ (Nat.le_refl _), List.take_length]
  exact XR (he _)
theorem Qip (l : List Int) (h : l.length ≤ 1073741824) : JU l = some l := by
  unfold JU; rw [Ye (by simpa using h)]; simp
theorem Qiq (l : List (List Int)) (h : l.length ≤ 1073741824) (hr : ∀ r ∈ l, r.length ≤ 1073741824) : Qai l = some l := by
  unfold Qai
  rw [Qlc l id]
  · simp
  · intro k hk acc hacc
    unfold Qiy
    dsimp only
    rw [Xi hk, cond_true, XB hk, Option.bind_some, Qip _ (hr _ (List.getElem_mem hk)), Option.bind_some, Ye (by simp [hacc]; omega), Option.bind_some, Xg k (by omega)]; rfl
  · intro acc
    unfold Qiy
    dsimp only
    rw [Xj]; rfl
theorem Qna (p : LevitatePlant) (h : Sh p) : Qdp p = some p := by
  unfold Qdp
  rw [Qip _ (by have := h.noise; omega), Option.bind_some, Qza p.Maps id]
  · simp
  · intro k hk acc hacc
    unfold Qlw
    dsimp only
    have hm := List.getElem_mem hk
    rw [Xi hk, cond_true, XB hk, Option.bind_some, Qiq _ (by have := h.rows _ hm; omega) (fun r hr => by have := h.row _ hm _ hr; omega), Option.bind_some, Ye (by simp [hacc]; have := h.maps; omega), Option.bind_some, Xg k (by have := h.maps; omega)]; rfl
  · intro acc
    unfold Qlw
    dsimp only
    rw [Xj]; rfl
theorem Qnb (a b : List Int) (h : a.length < 1073741824) : Qce a b = some (decide (a = b)) := by
  unfold Qce
  rw [YZ]
  by_cases hl : a.length = b.length
  · rw [X0 a (fun k x => if gi b k = x then none else some false)]
    · simp only [hl, decide_true, Bool.not_true, cond_false, Option.bind_some]
      cases hf : fs (fun k x => if gi b k = x then none else some false) 0 a with
      | none =>
        rw [fs_none] at hf
        have : a = b := Qpr hl fun k hk => by
          have := hf k hk
          simp only [Nat.zero_add] at this
          split at this
          · rename_i e; rw [← Zd hk]; exact e.symm
          · cases this
        simp [oi, Xl, this]
      | some r =>
        obtain ⟨k, hk, h1⟩ := Y5 hf
        simp only [Nat.zero_add] at h1
        split at h1
        · cases h1
        · rename_i e
          cases h1
          have : ¬ a = b := fun e2 => by subst e2; exact e (Zd hk).symm
          simp [oi, Xl, this]
    · intro k hk
      unfold Qiz
      rw [Xi hk, cond_true, XB hk, Option.bind_some, XG (by omega), Option.bind_some, Xg k (by omega)]
      by_cases e : gi b k = a[k]
      · simp [e, XI]
      · have e' : ¬ a[k] = gi b k := fun h => e h.symm
        simp [e, e', XI]
    · unfold Qiz
      rw [Xj]; rfl
  · have : ¬ a = b := fun e => hl (by rw [e])
    simp [hl, this]

/-! ### Which plants have few parts -/
theorem Qtn (p : LevitatePlant) : Runs (Qfh p) fun b => b = true → p.Noise.length ≤ 5 ∧ p.Maps.length ≤ 6 ∧ ∀ m ∈ p.Maps, m.length ≤ 5 ∧ ∀ r ∈ m, r.length ≤ 5 := by
  unfold Qfh
  by_cases h1 : 5 < (p.Noise.length : Int)
  · rw [decide_eq_true h1]; exact Runs.some fun h => by cases h
  · by_cases h2 : 6 < (p.Maps.length : Int)
    · rw [decide_eq_true h2, decide_eq_false h1]; exact Runs.some fun h => by cases h
    · rw [decide_eq_false h1, decide_eq_false h2]
      simp only [Bool.or_self, cond_false]
      have hl : loop (Qfg p) 0 = some (oi (fs (fun _ (m : List (List Int)) => if m.length ≤ 5 ∧ m.all (fun r => decide (r.length ≤ 5)) then none else some false) 0 p.Maps)) := by
        refine X0 p.Maps _ (fun k hk => ?_) ?_
        · unfold Qfg
          rw [Xi hk, cond_true, XB hk, Option.bind_some]
          by_cases h3 : 5 < (p.Maps[k].length : Int)
          · have : ¬ p.Maps[k].length ≤ 5 := by omega
            simp [h3, this, XI]
          · have h3' : p.Maps[k].length ≤ 5 := by omega
            rw [decide_eq_false h3, cond_false]
            have hin : loop (Qff p (k : Int)) 0 = some (oi (if p.Maps[k].all (fun r => decide (r.length ≤ 5)) then none else some (.inr (.inl false) : Int ⊕ (Bool ⊕ Unit)))) := by
              rw [X0 p.Maps[k] (fun _ r => if decide (r.length ≤ 5) then none else some (.inr (.inl false) : Int ⊕ (Bool ⊕ Unit)))]
              · have : ∀ (l : List (List Int)) t, fs (fun _ r => if decide (r.length ≤ 5) then none else some (.inr (.inl false) : Int ⊕ (Bool ⊕ Unit))) t l = if l.all (fun r => decide (r.length ≤ 5)) then none else some (.inr (.inl false)) := by
                  intro l
                  induction l with
                  | nil => intro t; rfl
                  | cons y ys ih =>
                    intro t
                    by_cases hy : y.length ≤ 5
                    · simp [fs, hy]; simpa using ih (t + 1)
                    · simp [fs, hy]
                rw [this]
              · intro i hi
                unfold Qff
                rw [XB hk, Option.bind_some, Xi hi, cond_true, Option.bind_some, XB hi, Option.bind_some, Xg i (by omega)]
                by_cases h4 : 5 < (p.Maps[k][i].length : Int)
                · have : ¬ p.Maps[k][i].length ≤ 5 := by omega
                  simp [h4, this, XI]
                · have : p.Maps[k][i].length ≤ 5 := by omega
                  simp [h4, this, XI]
              · unfold Qff
                rw [XB hk, Option.bind_some, Xj]; rfl
            rw [hin, Option.bind_some, Xg k (by omega)]
            cases h5 : p.Maps[k].all (fun r => decide (r.length ≤ 5)) <;> simp [h3', XI, oi, Xl]
        · unfold Qfg
          rw [Xj]; rfl
      rw [hl]
      cases hf : fs (fun _ (m : List (List Int)) => if m.length ≤ 5 ∧ m.all (fun r => decide (r.length ≤ 5)) then none else some false) 0 p.Maps with
      | some r =>
        obtain ⟨k, hk, h6⟩ := Y5 hf
        split at h6
        · cases h6
        · cases h6; exact Runs.some fun h => by cases h
      | none =>
        refine Runs.some fun _ => ⟨by omega, by omega, fun m hm => ?_⟩
        rw [fs_none] at hf
        obtain ⟨k, hk, rfl⟩ := List.getElem_of_mem hm
        have := hf k hk
        split at this
        · rename_i h7
          exact ⟨h7.1, fun r hr => by simpa using List.all_eq_true.1 h7.2 r hr⟩
        · cases this
theorem QDx {p : LevitatePlant} (h : p.Noise.length ≤ 5 ∧ p.Maps.length ≤ 6 ∧ ∀ m ∈ p.Maps, m.length ≤ 5 ∧ ∀ r ∈ m, r.length ≤ 5) : Sh p :=
  ⟨by omega, by omega, fun m hm => by have := (h.2.2 m hm).1; omega, fun m hm r hr => by have := (h.2.2 m hm).2 r hr; omega⟩
/-! ### The opposite order -/
/-! ### The example -/
def Zi : LevitatePlant := ⟨10, [[[5, 0], [2, 4]]], [3, 1]⟩
def exF : List (List Int) := [[1, 0], [0, 1]]
theorem exP_right : Rp Zi := ckP_right.1 (by decide)
theorem exF_right : Rf exF := frmE_right.1 (by decide)
theorem Qwe : Qaw Zi [0, 0] = some ([6, 4], 0) := by
  obtain ⟨r, hr, h1⟩ := Qwx exP_right (bxE_right.1 (by decide) : Bx Zi [0, 0])
  rw [hr]; congr 1
  refine h1.eq (.inl ⟨rfl, rfl, by decide, by decide, (show ∀ m, m < 1 → ∀ i, i < 2 → Yo Zi m i [6, 4] ≤ gi [6, 4] i from by decide), ?_⟩)
  intro K hK hs k hk
  have a0 := hK 0 (by decide) 0 (by decide)
  have a1 := hK 0 (by decide) 1 (by decide)
  have s0 := hs 0 (by decide)
  have s1 := hs 1 (by decide)
  have e0 : Yo Zi 0 0 K = (0 + 5 * gi K 0 + 0 * gi K 1 + 10 - 1) / 10 + 3 := rfl
  have e1 : Yo Zi 0 1 K = (0 + 2 * gi K 0 + 4 * gi K 1 + 10 - 1) / 10 + 1 := rfl
  rw [e0] at a0
  rw [e1] at a1
  change (0 : Int) ≤ gi K 0 at s0
  change (0 : Int) ≤ gi K 1 at s1
  match k, hk with
  | 0, _ => show (6 : Int) ≤ gi K 0; omega
  | 1, _ => show (4 : Int) ≤ gi K 1; omega
theorem Qwg (q : Int) : Yn q 20 ⟨1, 2⟩ = decide (234 ≤ q) := by
  unfold Yn
  have e1 : (2 - 1) * q - 2 * 20 = q - 40 := by omega
  have e2 : 4 * 1 * 2 * q * 20 = 160 * q := by omega
  have e3 : (q - 40) * (q - 40) = q * q - 80 * q + 1600 := by grind
  rw [e1, e2, e3]
  rw [Bool.eq_iff_iff]
  simp only [Bool.and_eq_true, decide_eq_true_eq]
  constructor
  · rintro ⟨h1, h2⟩
    apply Classical.byContradiction
    intro h3
    have h4 : 0 ≤ (q - 40) * (233 - q) := Int.mul_nonneg (by omega) (by omega)
    have h5 : (q - 40) * (233 - q) = 273 * q - q * q - 9320 := by grind
    omega
  · intro h
    have h4 : 0 ≤ (q - 234) * (q - 6) := Int.mul_nonneg (by omega) (by omega)
    have h5 : (q - 234) * (q - 6) = q * q - 240 * q + 1404 := by grind
    exact ⟨by omega, by omega⟩
theorem Qwh : Z6 Zi exF ⟨1, 2⟩ = some (234, 0) := by
  unfold Z6
  rw [Qrd exP_right exF_right rfl]
  have e : Y9 Zi exF ⟨1, 2⟩ = (0, 0) := by decide
  rw [e]
  simp only [Option.bind_some, decide_true, Bool.not_true, cond_false]
  change Option.bind (Qbf ⟨Zi⟩ exF) _ = _
  rw [Qsy exP_right exF_right.sq exF_right.bd, Option.bind_some, show YW Zi exF = 20 by decide]
  obtain ⟨q, hq, h1, h2, h3, h4, h5⟩ := Qoy (worst := 20) (r := ⟨1, 2⟩) ⟨by decide, by decide⟩ (by decide)
  rw [hq, Option.bind_some]
  rw [Qwg] at h3 h4
  have : q.1 = 234 := by
    simp only [decide_eq_true_eq, decide_eq_false_iff_not] at h3 h4
    omega
  rw [h5, this]; rfl
end Go.Gw

end
section
set_option maxRecDepth 8192
set_option linter.unusedSimpArgs false
set_option linter.unusedVariables false
namespace Go.Gw
open Go

/-! ### Division downwards -/
theorem Qqb {n b : Int} (hb : 1 ≤ b) : -((-n + b - 1) / b) = n / b := by
  have h1 := Int.mul_ediv_add_emod n b
  have h2 := Int.emod_nonneg n (show b ≠ 0 by omega)
  have h3 := Int.emod_lt_of_pos n (show 0 < b by omega)
  have : (-n + b - 1) / b = -(n / b) := by
    rw [show -n + b - 1 = (b - 1 - n % b) + b * (-(n / b)) by rw [Int.mul_neg]; omega, Int.add_mul_ediv_left _ _ (by omega), Int.ediv_eq_zero_of_lt (by omega) (by omega)]; omega
  omega
theorem Qoi {n b : Int} (hb : 1 ≤ b) {M : Int} (h : -M ≤ n ∧ n ≤ M) : -M ≤ n / b ∧ n / b ≤ M := by
  by_cases h0 : 0 ≤ n
  · have h1 : 0 ≤ n / b := Int.ediv_nonneg h0 (by omega)
    have h2 : n / b ≤ n := Int.ediv_le_self _ h0
    omega
  · have h1 : n / b < 0 := Int.ediv_neg_of_neg_of_pos (by omega) (by omega)
    have h2 := Qqb (n := n) hb
    have h3 : (-n + b - 1) / b ≤ -n := by
      apply Int.ediv_le_of_le_mul (by omega)
      have : 0 ≤ (-n - 1) * (b - 1) := Int.mul_nonneg (by omega) (by omega)
      have e : (-n - 1) * (b - 1) = -n * b + n - b + 1 := by grind
      omega
    omega
theorem Qyw {n b : Int} (h : -4000000000000000000 ≤ n ∧ n ≤ 4000000000000000000) (h2 : 1 ≤ b) (h3 : b ≤ 4000000000000000000) : J2 n b = some (n / b) := by
  unfold J2
  by_cases hn : n < 0
  · rw [decide_eq_true hn, cond_true, show w64 (0 - n) = -n by rw [Q7 (by omega)]; omega]
    unfold Qkf
    rw [show decide (-n < 0) = false by simp; omega, cond_false, Q7 (x := -n + b) (by omega), Q7 (by omega), Qlu (by omega), Int.tdiv_eq_ediv_of_nonneg (by omega)]
    have e := Qqb (n := n) h2
    have h4 : 0 ≤ (-n + b - 1) / b := Int.ediv_nonneg (by omega) (by omega)
    have h5 : (-n + b - 1) / b ≤ -n + b - 1 := Int.ediv_le_self _ (by omega)
    simp only [Option.bind_some]
    rw [Q7 (x := (-n + b - 1) / b) (by omega), Q7 (by omega)]
    congr 1; omega
  · rw [decide_eq_false hn, cond_false, Qlu (by omega), Int.tdiv_eq_ediv_of_nonneg (by omega), Option.bind_some]
    have := Qoi h2 h
    rw [Q7 (by omega)]

/-! ### Samples -/
def ZW (p : LevitatePlant) (s : LevitateSample) : Int :=
  if 0 ≤ s.Map ∧ s.Map < p.Maps.length then
    (if s.Noise.length = p.Noise.length then
      (match fs (fun k x => if Xo (gi p.Noise k) x then none else some (2 : Int)) 0 s.Noise with | some e => e | none => 0) else 10) else 6
structure Sm (p : LevitatePlant) (s : LevitateSample) : Prop where
  m0 : 0 ≤ s.Map
  m1 : s.Map < p.Maps.length
  len : s.Noise.length = p.Noise.length
  nz : ∀ k, k < p.Noise.length → -gi p.Noise k ≤ gi s.Noise k ∧ gi s.Noise k ≤ gi p.Noise k
theorem Qwp {α : Type} {P : Nat → α → Bool} {l : List α} {k : Nat} {e : Int} (h : fs (fun k x => if P k x then none else some (2 : Int)) k l = some e) : e = 2 := by
  obtain ⟨i, hi, h1⟩ := Y5 h
  split at h1
  · cases h1
  · cases h1; rfl
theorem smE_right {p : LevitatePlant} {s : LevitateSample} : ZW p s = 0 ↔ Sm p s := by
  unfold ZW
  constructor
  · intro h
    split at h
    · rename_i h1
      split at h
      · rename_i h2
        cases h3 : fs (fun k x => if Xo (gi p.Noise k) x then none else some (2 : Int)) 0 s.Noise with
        | some e => rw [h3] at h; have := Qwp h3; simp only at h; omega
        | none =>
          refine ⟨h1.1, h1.2, h2, fun k hk => ?_⟩
          have h4 := fs_none.1 h3 k (by omega)
          rw [Nat.zero_add, Zd (by omega)] at h4
          split at h4
          · rename_i h5; exact (Jd _ _).1 h5
          · cases h4
      · omega
    · omega
  · intro h
    rw [if_pos ⟨h.m0, h.m1⟩, if_pos h.len]
    have : fs (fun k x => if Xo (gi p.Noise k) x then none else some (2 : Int)) 0 s.Noise = none := fs_none.2 fun i hi => by
      have := h.nz i (by have := h.len; omega)
      rw [Nat.zero_add, Zd hi, if_pos ((Jd _ _).2 this)]
    rw [this]
theorem QEi {p : LevitatePlant} {s : LevitateSample} (hl : s.Noise.length = p.Noise.length) : (Xl (oi (fs (fun k x => if Xo (gi p.Noise k) x then none else some (2 : Int)) 0 s.Noise)) fun (_ : Unit) => some 0) = some (match fs (fun k x => if Xo (gi p.Noise k) x then none else some (2 : Int)) 0 s.Noise with | some e => e | none => 0) := by
  cases fs (fun k x => if Xo (gi p.Noise k) x then none else some (2 : Int)) 0 s.Noise <;> rfl
theorem Qze {p : LevitatePlant} (h : Rp p) {s : LevitateSample} (hs : s.Noise.length < 1073741824) : Qde ⟨p⟩ s = some (ZW p s) := by
  unfold Qde
  have hm1 := h.m1
  have hm4 := h.m4
  rw [Q7 (by dsimp only; omega)]
  simp only [J5, Option.bind_some, Zf, ZN, YZ]
  unfold ZW
  by_cases h1 : 0 ≤ s.Map ∧ s.Map < p.Maps.length
  · have e1 : (decide (0 ≤ s.Map) && decide (s.Map ≤ (p.Maps.length : Int) - 1)) = true := by simp; omega
    rw [if_pos h1, e1]
    by_cases h2 : s.Noise.length = p.Noise.length
    · rw [if_pos h2, decide_eq_true h2]
      simp only [cond_true, decide_true, Bool.not_true, cond_false, if_pos]
      rw [X0 s.Noise (fun k x => if Xo (gi p.Noise k) x then none else some 2), Option.bind_some, QEi h2]
      · intro k hk
        unfold Qku
        rw [Xi hk, XB hk, Xg k (by omega)]
        dsimp only
        have hb := h.noise_b (i := k) (by omega)
        rw [cond_true, Option.bind_some, XG (by omega), Option.bind_some, Qle _ _ (by omega), Option.bind_some]
        cases Xo (gi p.Noise k) s.Noise[k] <;> rfl
      · unfold Qku
        rw [Xj]; rfl
    · rw [if_neg h2, decide_eq_false h2]; rfl
  · have e1 : (decide (0 ≤ s.Map) && decide (s.Map ≤ (p.Maps.length : Int) - 1)) = false := by simp; omega
    rw [if_neg h1, e1]; rfl
def Qbt (p : LevitatePlant) (l : List LevitateSample) : Option Int := fs (fun _ s => if ZW p s = 0 then none else some (ZW p s)) 0 l
def Qih (p : LevitatePlant) (l : List LevitateSample) : Int := match Qbt p l with | some e => e | none => 0
theorem smsE_right {p : LevitatePlant} {l : List LevitateSample} : Qih p l = 0 ↔ ∀ s ∈ l, Sm p s := by
  unfold Qih
  constructor
  · intro h s hs
    cases h1 : Qbt p l with
    | some e =>
      rw [h1] at h
      obtain ⟨i, hi, h2⟩ := Y5 h1
      split at h2
      · cases h2
      · cases h2; exact absurd h (by assumption)
    | none =>
      obtain ⟨i, hi, rfl⟩ := List.mem_iff_getElem.1 hs
      have h2 := fs_none.1 h1 i hi
      split at h2
      · exact smE_right.1 (by assumption)
      · cases h2
  · intro h
    have : Qbt p l = none := fs_none.2 fun i hi => by rw [if_pos (smE_right.2 (h _ (List.getElem_mem hi)))]
    rw [this]
def Jv (p : LevitatePlant) (x : List Int) (l : List LevitateSample) : Int :=
  if (XQ p).2 ≠ 0 then (XQ p).2 else if ZX p x ≠ 0 then ZX p x else if 60 < l.length then 8 else Qih p l
theorem Qzd {p : LevitatePlant} (h : Sh p) {x : List Int} (hx : x.length < 1073741824) {l : List LevitateSample} (hl : l.length < 1073741824) (hs : ∀ s ∈ l, s.Noise.length < 1073741824) :
    Qgc p x l = some (⟨p⟩, Jv p x l) := by
  unfold Qgc
  rw [Qld p h, Option.bind_some]
  dsimp only
  unfold Jv
  by_cases h0 : (XQ p).2 = 0
  · have hp := ckP_right.1 h0
    rw [if_neg (by simp [h0]), decide_eq_true h0]
    simp only [Bool.not_true, cond_false, Zf, Option.bind_some, ZN]
    change Option.bind (Qbd ⟨p⟩ x) _ = _
    rw [Qpt p x hx, Option.bind_some]
    by_cases h1 : ZX p x = 0
    · by_cases h2 : 60 < l.length
      · have e : decide ((l.length : Int) ≤ 60) = false := decide_eq_false (by omega)
        simp [h1, h2, e]
      · have e : decide ((l.length : Int) ≤ 60) = true := decide_eq_true (by omega)
        simp only [e, h1, h2, if_true, if_false, cond_true, decide_true, Bool.not_true, cond_false, ne_eq, not_true_eq_false]
        rw [X0 l (fun _ s => if ZW p s = 0 then none else some (⟨p⟩, ZW p s)), Option.bind_some]
        · have e : fs (fun (_ : Nat) s => if ZW p s = 0 then none else some ((⟨p⟩ : levitate_plant), ZW p s)) 0 l = (Qbt p l).map fun e => (⟨p⟩, e) := by
            unfold Qbt
            rw [← JN]
            exact Qwo fun i hi => by split <;> rfl
          rw [e]
          unfold Qih
          cases Qbt p l <;> rfl
        · intro k hk
          unfold Qkp
          rw [Xi hk, XB hk, Xg k (by omega), cond_true, Option.bind_some]
          change Option.bind (Qde ⟨p⟩ l[k]) _ = _
          rw [Qze hp (hs _ (List.getElem_mem hk)), Option.bind_some]
          by_cases h2 : ZW p l[k] = 0
          · simp [h2, XI]
          · simp only [h2, decide_false, Bool.not_false, cond_true, if_false, XI]
        · unfold Qkp
          rw [Xj]; rfl
    · simp [h1]
  · rw [if_pos h0, decide_eq_false h0]; rfl

/-! ### Steps -/
def YK (p : LevitatePlant) (m i : Nat) (x : List Int) : Int := QV (fun k => ge p m i k * gi x k) p.Noise.length
def X3 (p : LevitatePlant) (x : List Int) (s : LevitateSample) : List Int := Zp p.Noise.length fun i => YK p s.Map.toNat i x / p.Den + gi s.Noise i
def ZU (p : LevitatePlant) : List Int → List LevitateSample → Option (List (List Int))
  | _, [] => some []
  | x, s :: l => if (X3 p x s).all (Xo 100000) then (ZU p (X3 p x s) l).map (X3 p x s :: ·) else none
def rnR : Option (List (List Int)) → List (List Int) × Int
  | some ys => (ys, 0)
  | none => ([], 24)
structure Stt (p : LevitatePlant) (x : List Int) : Prop where
  len : x.length = p.Noise.length
  bd : ∀ k, k < p.Noise.length → -100000 ≤ gi x k ∧ gi x k ≤ 100000
theorem Qeg {x : List Int} {n : Nat} (hl : x.length = n) {M : Int} : x.all (Xo M) = true ↔ ∀ k, k < n → -M ≤ gi x k ∧ gi x k ≤ M := by
  subst hl
  rw [List.all_eq_true]
  constructor
  · intro h k hk; exact (Jd _ _).1 (h _ (Qct hk))
  · intro h y hy
    obtain ⟨k, hk, rfl⟩ := Qgr hy
    exact (Jd _ _).2 (h k hk)
theorem stE_right {p : LevitatePlant} {x : List Int} : ZX p x = 0 ↔ Stt p x := by
  unfold ZX
  constructor
  · intro h
    by_cases h1 : x.length = p.Noise.length
    · refine ⟨h1, ?_⟩
      cases h2 : x.all (Xo 100000) with
      | true => exact (Qeg h1).1 h2
      | false => simp [h1, h2] at h
    · simp [h1] at h
  · intro h
    simp [h.len, (Qeg h.len).2 h.bd]
theorem Qvn {p : LevitatePlant} (h : Rp p) {m i : Nat} (hm : m < p.Maps.length) (hi : i < p.Noise.length) {x : List Int} (hx : ∀ k, k < p.Noise.length → -100000 ≤ gi x k ∧ gi x k ≤ 100000) : -300000000 ≤ YK p m i x ∧ YK p m i x ≤ 300000000 :=
  Qdv h.n3 (by decide) fun k hk => XU (h.ge_b hm hi hk) (hx k hk)
theorem Qmn (p : LevitatePlant) (x : List Int) (s : LevitateSample) : (X3 p x s).length = p.Noise.length := Qaa _ _
theorem stepI_stt {p : LevitatePlant} {x : List Int} {s : LevitateSample} : Stt p (X3 p x s) ↔ (X3 p x s).all (Xo 100000) = true :=
  ⟨fun h => (Qeg h.len).2 h.bd, fun h => ⟨Qmn _ _ _, (Qeg (Qmn _ _ _)).1 h⟩⟩
theorem QEp {p : LevitatePlant} (h : Rp p) {x : List Int} (hx : Stt p x) {s : LevitateSample} (hs : Sm p s) : loop (Qgj s (gm p s.Map.toNat) ⟨p⟩ x) ([], 0) = some (X3 p x s) := by
  have hm : s.Map.toNat < p.Maps.length := by have := hs.m0; have := hs.m1; omega
  have hrl : (gm p s.Map.toNat).length = p.Noise.length := h.sq _ (JI hm)
  have hn := h.n3
  refine JM p.Noise.length _ ?_ ?_
  · intro i hi acc hacc
    unfold Qgj
    dsimp only
    have hd := h.den
    have hb := Qvn h hm hi hx.bd
    have hg : gi (gm p s.Map.toNat)[i]! 0 = gi (gm p s.Map.toNat)[i]! 0 := rfl
    rw [Xi (by omega), cond_true, Zl (by omega), Option.bind_some, XG (by have := hs.len; omega), Option.bind_some, Qjh (by rw [h.row_len hm hi, hx.len]; exact Nat.le_refl _) (by rw [h.row_len hm hi]; omega), Option.bind_some, h.row_len hm hi]
    change Option.bind (J2 (w64 (YK p s.Map.toNat i x)) p.Den) _ = _
    rw [Q7 (by omega), Qyw (by omega) hd.1 (by omega), Option.bind_some]
    have h1 := Qoi hd.1 hb
    have h2 := hs.nz i hi
    have h3 := h.noise_b hi
    rw [Q7 (by omega), Ye (by simp; omega), Option.bind_some, Xg i (by omega)]
  · intro acc
    unfold Qgj
    dsimp only
    rw [hrl, Xj]; rfl
theorem QDk {p : LevitatePlant} (h : Rp p) {l : List LevitateSample} (hl : l.length < 1000) (hs : ∀ s ∈ l, Sm p s) {x : List Int} (hx : Stt p x) : Qdd ⟨p⟩ x l = some (rnR (ZU p x l)) := by
  unfold Qdd
  have key : ∀ (r l0 : List LevitateSample) (x : List Int) (acc : List (List Int)), l = l0 ++ r → acc.length = l0.length → Stt p x →
      loop (Qbc l ⟨p⟩) ((l0.length : Int), acc, x) = some (match ZU p x r with | some ys => .inr (acc ++ ys) | none => .inl ([], 24)) := by
    intro r
    induction r with
    | nil =>
      intro l0 x acc he ha hx
      refine XR ?_
      unfold Qbc
      dsimp only
      rw [he, List.append_nil, Xj]
      simp [ZU]
    | cons s r ih =>
      intro l0 x acc he ha hx
      have hlt : l0.length < l.length := by rw [he]; simp
      have hel : l[l0.length]'hlt = s := by simp [he]
      have hsm := hs s (by rw [he]; simp)
      have hm : s.Map.toNat < p.Maps.length := by have := hsm.m0; have := hsm.m1; omega
      have em : s.Map = (s.Map.toNat : Int) := by have := hsm.m0; omega
      have hstep := QEp h hx hsm
      have hsl := Qmn p x s
      have hn := h.n3
      have ea : JJ 100000 = some 100000 := rfl
      have st : Qbc l ⟨p⟩ ((l0.length : Int), acc, x) = if (X3 p x s).all (Xo 100000) then some (.inl (((l0 ++ [s]).length : Int), acc ++ [X3 p x s], X3 p x s)) else some (.inr (.inl ([], 24))) := by
        unfold Qbc
        dsimp only
        rw [Xi hlt, cond_true, XB hlt, Option.bind_some, hel]
        have ei : idx p.Maps s.Map = some (gm p s.Map.toNat) := by rw [em]; exact Qez hm
        rw [ei, Option.bind_some, hstep, Option.bind_some, ea, Option.bind_some, Qef _ 100000 (by decide) (by omega), Option.bind_some]
        cases hb : (X3 p x s).all (Xo 100000) with
        | false => rfl
        | true =>
          have hal : acc.length < 1000 := by omega
          simp only [Bool.not_true, cond_false, Option.bind_some, if_true]
          rw [Ye (by simp; omega), Option.bind_some, Xg _ (by omega), Qef _ 100000 (by decide) (by omega), Option.bind_some, hb]
          simp
      cases hb : (X3 p x s).all (Xo 100000) with
      | false =>
        rw [hb] at st
        rw [XR st, ZU, if_neg (by simp [hb])]
      | true =>
        rw [hb] at st
        rw [Yi st, ih (l0 ++ [s]) _ _ (by rw [he]; simp) (by simp [ha]) (stepI_stt.2 hb), ZU, if_pos hb]
        cases ZU p (X3 p x s) r <;> simp
  have := key l [] x [] rfl rfl hx
  change loop (Qbc l ⟨p⟩) (0, [], x) = _ at this
  rw [this]
  cases ZU p x l <;> rfl
def Qly (p : LevitatePlant) (x : List Int) (l : List LevitateSample) : List (List Int) × Int := if Jv p x l = 0 then rnR (ZU p x l) else ([], Jv p x l)
theorem Qtq {p : LevitatePlant} (h : Sh p) {x : List Int} (hx : x.length < 1073741824) {l : List LevitateSample} (hl : l.length < 1073741824) (hs : ∀ s ∈ l, s.Noise.length < 1073741824) : Qfr p x l = some (Qly p x l) := by
  unfold Qfr Qly
  rw [Qzd h hx hl hs, Option.bind_some]
  by_cases h0 : Jv p x l = 0
  · rw [if_pos h0, decide_eq_true h0]
    unfold Jv at h0
    split at h0
    · exact absurd h0 (by assumption)
    · rename_i h1
      split at h0
      · exact absurd h0 (by assumption)
      · rename_i h2
        split at h0
        · omega
        · rename_i h3
          have hp := ckP_right.1 (Classical.not_not.1 h1)
          simp only [Bool.not_true, cond_false]
          change Option.bind (Qdd ⟨p⟩ x l) _ = _
          rw [QDk hp (by omega) (smsE_right.1 h0) (stE_right.1 (Classical.not_not.1 h2))]
          rfl
  · rw [if_neg h0, decide_eq_false h0]; rfl
def Qrz (p : LevitatePlant) (x : List Int) (s : LevitateSample) : List Int × Int :=
  if Jv p x [s] = 0 then (if (X3 p x s).all (Xo 100000) then (X3 p x s, 0) else ([], 24)) else ([], Jv p x [s])
theorem Qtr {p : LevitatePlant} (h : Sh p) {x : List Int} (hx : x.length < 1073741824) {s : LevitateSample} (hs : s.Noise.length < 1073741824) : Qax p x s = some (Qrz p x s) := by
  unfold Qax
  rw [Qtq h hx (by simp) (by simpa using hs), Option.bind_some]
  unfold Qly Qrz
  by_cases h0 : Jv p x [s] = 0
  · rw [if_pos h0, if_pos h0]
    cases hb : (X3 p x s).all (Xo 100000) with
    | true => simp [ZU, rnR, hb, idx]
    | false => simp [ZU, rnR, hb]
  · rw [if_neg h0, if_neg h0]
    simp only [h0, decide_false, Bool.not_false, cond_true]

/-! ### The examples -/
theorem Qwj : Qax Zi [20, -10] ⟨0, [1, -1]⟩ = some ([11, -1], 0) := by
  rw [Qtr exP_right.sh (by decide) (by decide)]; decide
theorem Qwf : Qfo 1000 ⟨10, 20⟩ ⟨5, 10⟩ = some (⟨1000, 16000⟩, 0) := by
  unfold Qfo Qkm Qki Qkj Qfw Qfx
  simp only [J5, Zf, ZN, Option.bind_some]
  rw [show J2 (w64 (w64 (1000 * 10) * 10)) (w64 (10 * 10)) = some 1000 by decide, show J1 (w64 (w64 (1000 * 20) * 20)) (w64 (5 * 5)) = some 16000 by decide]
  rfl
theorem ex_read : Qbg 1120403456 = some true ∧ Qbg 1120796672 = some true ∧ Qbg 1132068864 = some true := by decide +kernel
theorem ex_in : (YE 1120403456 0 && Zj 1120403456 1161527296) = true ∧ (YE 1120796672 0 && Zj 1120796672 1161527296) = true ∧ (YE 1132068864 0 && Zj 1132068864 1161527296) = true := by decide +kernel
theorem ex_int : JF 1120403456 = some 100 ∧ JF 1120796672 = some 103 ∧ JF 1132068864 = some 250 := by decide +kernel
theorem QEl {l : List Int} (h : 0 < l.length) (h1 : l.length ≤ 1073741824) (hs : l.Pairwise fun x y => decide (x ≤ y) = true) : Qdu l = some l := by
  unfold Qdu
  rw [if_pos ⟨h, h1⟩, List.mergeSort_of_pairwise hs]
theorem Qwi : Qfq ⟨⟨1120403456, 1120796672, 1132068864⟩, 5⟩ = some (103, 0) := by
  unfold Qfq
  have st : ∀ (k : Nat) (acc : List Int) (f : Nat) (n : Int), k < 3 → idx [(1120403456 : Nat), 1120796672, 1132068864] (k : Int) = some f → Qbg f = some true → (YE f 0 && Zj f 1161527296) = true → JF f = some n → acc.length < 3 →
      Qfp ⟨⟨1120403456, 1120796672, 1132068864⟩, 5⟩ (acc, (k : Int)) = some (.inl (acc ++ [n], ((k + 1 : Nat) : Int))) := by
    intro k acc f n hk hi hw hin hn ha
    unfold Qfp
    dsimp only
    rw [decide_eq_true (show (k : Int) < 3 by omega), cond_true, hi, Option.bind_some, hw, Option.bind_some, Zf, Option.bind_some, hin, Zf, Option.bind_some, cond_true, ZN, Option.bind_some, if_pos rfl]
    rw [show (!decide ((bif true then (0 : Int) else 2) = 0)) = false from rfl, cond_false, hn, Option.bind_some]
    rw [Ye (by simp; omega), Option.bind_some, Xg k (by omega)]
  have key : loop (Qfp ⟨⟨1120403456, 1120796672, 1132068864⟩, 5⟩) ([], 0) = some (.inr [100, 103, 250]) := by
    refine (Yi (st 0 [] _ _ (by decide) rfl ex_read.1 ex_in.1 ex_int.1 (by decide))).trans ?_
    refine (Yi (st 1 _ _ _ (by decide) rfl ex_read.2.1 ex_in.2.1 ex_int.2.1 (by decide))).trans ?_
    refine (Yi (st 2 _ _ _ (by decide) rfl ex_read.2.2 ex_in.2.2 ex_int.2.2 (by decide))).trans ?_
    exact XR rfl
  rw [key, Option.bind_some]
  unfold Xl
  dsimp only
  rw [QEl (by decide) (by decide) (by decide)]
  rfl
theorem Quo : Qfi = some true := by
  unfold Qfi Qcu Qjy
  simp only [Option.bind_some]
  change Option.bind (Qax Zi [20, -10] ⟨0, [1, -1]⟩) _ = _
  rw [Qwj, Option.bind_some]
  change Option.bind (Qaw Zi [0, 0]) _ = _
  rw [Qwe, Option.bind_some]
  change Option.bind (Z6 Zi exF ⟨1, 2⟩) _ = _
  rw [Qwh, Option.bind_some, Qwf, Option.bind_some, Qwi]
  simp only [Option.bind_some, decide_true, cond_true, Bool.and_true, Qnb [11, -1] [11, -1] (by decide), Qnb [6, 4] [6, 4] (by decide)]
end Go.Gw

end
section
set_option maxRecDepth 8192
set_option linter.unusedSimpArgs false
set_option linter.unusedVariables false
namespace Go.Gw
open Go

end Go.Gw

end
section
set_option maxRecDepth 8192
set_option linter.unusedSimpArgs false
set_option linter.unusedVariables false
namespace Go.Gw
open Go

theorem Zs (x : Int) : 0 ≤ x * x := by
  rcases Int.le_total 0 x with h | h
  · exact Int.mul_nonneg h h
  · have := Int.mul_nonneg (show 0 ≤ -x by omega) (show 0 ≤ -x by omega); have e : -x * -x = x * x := by grind
    omega
theorem Qbl {a b : Int} (ha : 0 < a) (h : 0 ≤ a * b) : 0 ≤ b := by
  rcases Int.lt_or_le b 0 with hb | hb
  · have := Int.mul_pos ha (show 0 < -b by omega)
    have e : a * -b = -(a * b) := by grind
    omega
  · exact hb
theorem Qmm {x : Int} (h : x * x ≤ 0) : x = 0 := by
  rcases Int.lt_trichotomy x 0 with h1 | h1 | h1
  · have := Int.mul_pos (show 0 < -x by omega) (show 0 < -x by omega); have e : -x * -x = x * x := by grind
    omega
  · exact h1
  · have := Int.mul_pos h1 h1; omega
theorem Qdn {a b c : Int} (ha : 0 ≤ a) (hc : 0 ≤ c) (hd : 0 ≤ a * c - b * b) (x y : Int) : 0 ≤ a * (x * x) + 2 * (b * (x * y)) + c * (y * y) := by
  rcases Int.lt_or_le 0 a with h | h
  · refine Qbl h ?_
    have e : a * (a * (x * x) + 2 * (b * (x * y)) + c * (y * y)) = (a * x + b * y) * (a * x + b * y) + (a * c - b * b) * (y * y) := by grind
    rw [e]
    have := Zs (a * x + b * y); have := Int.mul_nonneg hd (Zs y); omega
  · obtain rfl : a = 0 := by omega
    obtain rfl := Qmm (x := b) (by omega)
    have := Int.mul_nonneg hc (Zs y); simpa using this
theorem QCd {a b c d e f : Int} (ha : 0 ≤ a) (hd : 0 ≤ d) (hf : 0 ≤ f) (h1 : 0 ≤ a * d - b * b) (h2 : 0 ≤ a * f - c * c) (h3 : 0 ≤ d * f - e * e)
    (hD : 0 ≤ a * (d * f - e * e) + b * (e * c - b * f) + c * (b * e - d * c)) (x y z : Int) :
    0 ≤ a * (x * x) + d * (y * y) + f * (z * z) + 2 * (b * (x * y)) + 2 * (c * (x * z)) + 2 * (e * (y * z)) := by
  rcases Int.lt_or_le 0 a with h | h
  · refine Qbl h ?_
    have e1 : a * (a * (x * x) + d * (y * y) + f * (z * z) + 2 * (b * (x * y)) + 2 * (c * (x * z)) + 2 * (e * (y * z))) = (a * x + b * y + c * z) * (a * x + b * y + c * z) + ((a * d - b * b) * (y * y) + 2 * ((a * e - b * c) * (y * z)) + (a * f - c * c) * (z * z)) := by grind
    rw [e1]
    have e2 : (a * d - b * b) * (a * f - c * c) - (a * e - b * c) * (a * e - b * c) = a * (a * (d * f - e * e) + b * (e * c - b * f) + c * (b * e - d * c)) := by grind
    have := Qdn h1 h2 (by rw [e2]; exact Int.mul_nonneg ha hD) y z
    have := Zs (a * x + b * y + c * z); omega
  · obtain rfl : a = 0 := by omega
    obtain rfl := Qmm (x := b) (by omega)
    obtain rfl := Qmm (x := c) (by omega)
    have := Qdn hd hf h3 y z
    simp; omega
theorem Qvc {U E B : Int} (h : ∀ s t : Int, 0 ≤ s * s * U + 2 * (s * t * B) + t * t * E) : B * B ≤ U * E := by
  have hE : 0 ≤ E := by have := h 0 1; simpa using this
  have hU : 0 ≤ U := by have := h 1 0; simpa using this
  rcases Int.lt_or_le 0 E with h1 | h1
  · have h2 := h E (-B)
    have e : E * E * U + 2 * (E * -B * B) + -B * -B * E = E * (U * E - B * B) := by grind
    rw [e] at h2
    have := Qbl h1 h2; omega
  · obtain rfl : E = 0 := by omega
    have h2 := h 1 (-(B * (U + 1)))
    have e : 1 * 1 * U + 2 * (1 * -(B * (U + 1)) * B) + -(B * (U + 1)) * -(B * (U + 1)) * 0 = U - 2 * (B * B * (U + 1)) := by grind
    rw [e] at h2
    rcases Int.lt_or_le 0 (B * B) with h3 | h3
    · have h4 : 1 * (U + 1) ≤ B * B * (U + 1) := Int.mul_le_mul_of_nonneg_right (by omega) (by omega)
      omega
    · rw [Int.mul_zero]; omega
theorem QEj {a b : Int} (h0 : 0 ≤ a) (h : a < b) : a * a < b * b := Int.lt_of_le_of_lt (Int.mul_le_mul_of_nonneg_left (Int.le_of_lt h) h0) (Int.mul_lt_mul_of_pos_right h (by omega))
theorem Qwt {U E B L W D r0 r1 a : Int} (hD : 0 ≤ D) (hE : 0 ≤ E) (hB : B * B ≤ U * E) (hr0 : 0 ≤ r0) (hr1 : 0 < r1) (hL : 0 ≤ L) (h1 : r1 * U ≤ r0 * D * L) (h2 : E ≤ D * W)
    (ha : a = (r1 - r0) * L - r1 * W) (ha0 : 0 ≤ a) (ha1 : 4 * r0 * r1 * (L * W) ≤ a * a) : U + 2 * B + E ≤ D * L := by
  rcases Int.lt_or_le (D * L) (U + 2 * B + E) with h | h
  · exfalso
    have h3 : r1 * E ≤ r1 * (D * W) := Int.mul_le_mul_of_nonneg_left h2 (by omega)
    have h4 : r1 * (D * L) < r1 * (U + 2 * B + E) := Int.mul_lt_mul_of_pos_left h hr1
    have e1 : r1 * (U + 2 * B + E) = r1 * U + 2 * (r1 * B) + r1 * E := by grind
    have e2 : D * a = r1 * (D * L) - r0 * D * L - r1 * (D * W) := by rw [ha]; grind
    have h5 : D * a < 2 * (r1 * B) := by omega
    have h6 := QEj (Int.mul_nonneg hD ha0) h5
    have h7 : r1 * U * (r1 * E) ≤ r0 * D * L * (r1 * (D * W)) := Int.mul_le_mul h1 h3 (Int.mul_nonneg (by omega) hE) (Int.mul_nonneg (Int.mul_nonneg hr0 hD) hL)
    have h8 : r1 * r1 * (B * B) ≤ r1 * r1 * (U * E) := Int.mul_le_mul_of_nonneg_left hB (Zs r1)
    have h9 : D * D * (4 * r0 * r1 * (L * W)) ≤ D * D * (a * a) := Int.mul_le_mul_of_nonneg_left ha1 (Zs D)
    have e3 : D * a * (D * a) = D * D * (a * a) := by grind
    have e4 : 2 * (r1 * B) * (2 * (r1 * B)) = 4 * (r1 * r1 * (B * B)) := by grind
    have e5 : r1 * U * (r1 * E) = r1 * r1 * (U * E) := by grind
    have e6 : D * D * (4 * r0 * r1 * (L * W)) = 4 * (r0 * D * L * (r1 * (D * W))) := by grind
    omega
  · exact h
theorem Qvi {α β c t : Int} (ha : 0 ≤ α) (ht : -c ≤ t ∧ t ≤ c) : α * (t * t) + β * t ≤ α * (c * c) + β * c ∨ α * (t * t) + β * t ≤ α * (c * c) + β * (-c) := by
  have h1 : t * t ≤ c * c := by
    have := Int.mul_nonneg (show 0 ≤ c - t by omega) (show 0 ≤ c + t by omega)
    have e : (c - t) * (c + t) = c * c - t * t := by grind
    omega
  have h2 := Int.mul_le_mul_of_nonneg_left h1 ha
  rcases Int.le_total 0 β with hb | hb
  · have := Int.mul_le_mul_of_nonneg_left ht.2 hb; left; omega
  · have := Int.mul_le_mul_of_nonpos_left hb ht.1; right; omega
/-! ### Values over functions -/
def Zc (n : Nat) (f : List (List Int)) (u v : Nat → Int) : Int := QV (fun i => u i * QV (fun k => g2 f i k * v k) n) n
abbrev valF (n : Nat) (f : List (List Int)) (u : Nat → Int) : Int := Zc n f u u
theorem QFd (n : Nat) (f : List (List Int)) (x : List Int) : X4 n f x = valF n f (gi x) := rfl
theorem Qbx {n : Nat} {f : List (List Int)} {u v : Nat → Int} (h : ∀ k, k < n → u k = v k) : valF n f u = valF n f v :=
  J8 fun i hi => by rw [h i hi]; congr 1; exact J8 fun k hk => by rw [h k hk]
def Zw (n : Nat) (f : List (List Int)) : Prop := ∀ i k, i < n → k < n → g2 f k i = g2 f i k
theorem Qsn (f : List (List Int)) (u : Nat → Int) : valF 1 f u = g2 f 0 0 * (u 0 * u 0) := by
  simp only [Zc, QV]; grind
theorem Qso {f : List (List Int)} (h : Zw 2 f) (u : Nat → Int) : valF 2 f u = g2 f 0 0 * (u 0 * u 0) + 2 * (g2 f 0 1 * (u 0 * u 1)) + g2 f 1 1 * (u 1 * u 1) := by
  simp only [Zc, QV, h 0 1 (by decide) (by decide)]; grind
theorem Qsp {f : List (List Int)} (h : Zw 3 f) (u : Nat → Int) : valF 3 f u = g2 f 0 0 * (u 0 * u 0) + g2 f 1 1 * (u 1 * u 1) + g2 f 2 2 * (u 2 * u 2) + 2 * (g2 f 0 1 * (u 0 * u 1)) + 2 * (g2 f 0 2 * (u 0 * u 2)) + 2 * (g2 f 1 2 * (u 1 * u 2)) := by
  simp only [Zc, QV, h 0 1 (by decide) (by decide), h 0 2 (by decide) (by decide), h 1 2 (by decide) (by decide)]; grind
theorem Qzp {n : Nat} (h1 : 1 ≤ n) (h3 : n ≤ 3) {d : List (List Int)} (hs : Zw n d) (hn : Yw n d = true) (u : Nat → Int) : 0 ≤ valF n d u := by
  have ha : ∀ l ∈ ZH n, 0 ≤ Xy d l := fun l hl => by have := List.all_eq_true.1 hn l hl; simpa only [decide_eq_true_eq] using this
  have hc : n = 1 ∨ n = 2 ∨ n = 3 := by omega
  rcases hc with rfl | rfl | rfl
  · have a : 0 ≤ g2 d 0 0 := ha [0] (by decide)
    rw [Qsn]; exact Int.mul_nonneg a (Zs _)
  · have a : 0 ≤ g2 d 0 0 := ha [0] (by decide)
    have b : 0 ≤ g2 d 1 1 := ha [1] (by decide)
    have c := ha [0, 1] (by decide)
    simp only [Xy] at c
    rw [hs 0 1 (by decide) (by decide)] at c
    rw [Qso hs]
    exact Qdn a b c _ _
  · have a : 0 ≤ g2 d 0 0 := ha [0] (by decide)
    have b : 0 ≤ g2 d 1 1 := ha [1] (by decide)
    have b' : 0 ≤ g2 d 2 2 := ha [2] (by decide)
    have c := ha [0, 1] (by decide)
    have c1 := ha [0, 2] (by decide)
    have c2 := ha [1, 2] (by decide)
    have c3 := ha [0, 1, 2] (by decide)
    simp only [Xy] at c c1 c2 c3
    rw [hs 0 1 (by decide) (by decide)] at c c3
    rw [hs 0 2 (by decide) (by decide)] at c1 c3
    rw [hs 1 2 (by decide) (by decide)] at c2 c3
    rw [Qsp hs]
    exact QCd a b b' c c1 c2 c3 _ _ _
theorem Qrc {f : List (List Int)} (h1 : 1 ≤ f.length) (h3 : f.length ≤ 3) (hs : Zw f.length f) (hp : Ys f = true) (u : Nat → Int) : 0 ≤ valF f.length f u := by
  have hk : ∀ k, k < f.length → 0 < Xy f (List.range (k + 1)) := by simpa [Ys] using hp
  generalize f.length = n at h1 h3 hs hk ⊢
  have hc : n = 1 ∨ n = 2 ∨ n = 3 := by omega
  rcases hc with rfl | rfl | rfl
  · have a := hk 0 (by decide)
    simp [Xy, List.range, List.range.loop] at a
    rw [Qsn]; exact Int.mul_nonneg (by omega) (Zs _)
  · have a := hk 0 (by decide); have b := hk 1 (by decide)
    simp [Xy, List.range, List.range.loop] at a b
    rw [hs 0 1 (by decide) (by decide)] at b
    rw [Qso hs]
    refine Qdn (by omega) ?_ (by omega) _ _
    have := Zs (g2 f 0 1)
    exact Qbl a (by omega)
  · have a := hk 0 (by decide); have b := hk 1 (by decide); have c := hk 2 (by decide)
    simp [Xy, List.range, List.range.loop] at a b c
    rw [hs 0 1 (by decide) (by decide)] at b c
    rw [hs 0 2 (by decide) (by decide), hs 1 2 (by decide) (by decide)] at c
    rw [Qsp hs]
    generalize g2 f 0 0 = a0, g2 f 0 1 = b0, g2 f 0 2 = c0, g2 f 1 1 = d0, g2 f 1 2 = e0, g2 f 2 2 = f0 at a b c ⊢
    generalize u 0 = x, u 1 = y, u 2 = z
    refine Qbl a ?_
    have e1 : a0 * (a0 * (x * x) + d0 * (y * y) + f0 * (z * z) + 2 * (b0 * (x * y)) + 2 * (c0 * (x * z)) + 2 * (e0 * (y * z))) = (a0 * x + b0 * y + c0 * z) * (a0 * x + b0 * y + c0 * z) + ((a0 * d0 - b0 * b0) * (y * y) + 2 * ((a0 * e0 - b0 * c0) * (y * z)) + (a0 * f0 - c0 * c0) * (z * z)) := by grind
    rw [e1]
    have e2 : (a0 * d0 - b0 * b0) * (a0 * f0 - c0 * c0) - (a0 * e0 - b0 * c0) * (a0 * e0 - b0 * c0) = a0 * (a0 * (d0 * f0 - e0 * e0) + b0 * (e0 * c0 - b0 * f0) + c0 * (b0 * e0 - d0 * c0)) := by grind
    have h2 : 0 ≤ (a0 * d0 - b0 * b0) * (a0 * f0 - c0 * c0) - (a0 * e0 - b0 * c0) * (a0 * e0 - b0 * c0) := by rw [e2]; exact Int.mul_nonneg (by omega) (by omega)
    have h4 := Zs (a0 * e0 - b0 * c0)
    have b' : 0 < a0 * d0 - b0 * b0 := by omega
    have := Qdn (a := a0 * d0 - b0 * b0) (b := a0 * e0 - b0 * c0) (c := a0 * f0 - c0 * c0) (by omega) (Qbl b' (by omega)) h2 y z
    have := Zs (a0 * x + b0 * y + c0 * z); omega
theorem Qdw {n : Nat} (h1 : 1 ≤ n) (h3 : n ≤ 3) {f : List (List Int)} (hs : Zw n f) (u v : Nat → Int) (s t : Int) : valF n f (fun k => s * u k + t * v k) = s * s * valF n f u + 2 * (s * t * Zc n f u v) + t * t * valF n f v := by
  have hc : n = 1 ∨ n = 2 ∨ n = 3 := by omega
  rcases hc with rfl | rfl | rfl
  · simp only [Zc, QV]; grind
  · simp only [Zc, QV, hs 0 1 (by decide) (by decide)]; grind
  · simp only [Zc, QV, hs 0 1 (by decide) (by decide), hs 0 2 (by decide) (by decide), hs 1 2 (by decide) (by decide)]; grind
theorem Qvd {n : Nat} (h1 : 1 ≤ n) (h3 : n ≤ 3) {f : List (List Int)} (hs : Zw n f) (hp : ∀ u, 0 ≤ valF n f u) (u v : Nat → Int) : Zc n f u v * Zc n f u v ≤ valF n f u * valF n f v :=
  Qvc fun s t => by rw [← Qdw h1 h3 hs]; exact hp _
theorem Qws {p : LevitatePlant} (h1 : 1 ≤ p.Noise.length) (h3 : p.Noise.length ≤ 3) {m : Nat} {f : List (List Int)} (r : Arr2_Int) (x : List Int) :
    valF p.Noise.length (dM p m f r) (gi x) = r.e0 * p.Den * p.Den * valF p.Noise.length f (gi x) - r.e1 * valF p.Noise.length f (fun i => YK p m i x) := by
  have e : valF p.Noise.length (dM p m f r) (gi x) = QV (fun i => gi x i * QV (fun k => dI p m f r i k * gi x k) p.Noise.length) p.Noise.length :=
    J8 fun i hi => by congr 1; exact J8 fun k hk => by unfold dM; rw [Qcs hi hk]
  rw [e]
  unfold YK dI YM valF Zc
  generalize p.Noise.length = n at h1 h3 ⊢
  have hc : n = 1 ∨ n = 2 ∨ n = 3 := by omega
  rcases hc with rfl | rfl | rfl
  · simp only [QV]; grind
  · simp only [QV]; grind
  · simp only [QV]; grind
theorem QEq {p : LevitatePlant} (h1 : 1 ≤ p.Noise.length) (h3 : p.Noise.length ≤ 3) {m : Nat} {f : List (List Int)} (hs : Zw p.Noise.length f) (r : Arr2_Int) : Zw p.Noise.length (dM p m f r) := fun i k hi hk => by
  unfold dM
  rw [Qcs hk hi, Qcs hi hk]
  unfold dI
  rw [hs i k hi hk]
  have : YM p m f k i = YM p m f i k := by
    unfold YM
    revert hs hi hk
    generalize p.Noise.length = n at h1 h3 ⊢
    intro hs hi hk
    have hc : n = 1 ∨ n = 2 ∨ n = 3 := by omega
    rcases hc with rfl | rfl | rfl
    · simp only [QV]; grind
    · simp only [QV, hs 0 1 (by decide) (by decide)]; grind
    · simp only [QV, hs 0 1 (by decide) (by decide), hs 0 2 (by decide) (by decide), hs 1 2 (by decide) (by decide)]; grind
  rw [this]
theorem QFe {n : Nat} (h1 : 1 ≤ n) (h3 : n ≤ 3) {f : List (List Int)} (hs : Zw n f) (hp : ∀ u, 0 ≤ valF n f u) {c e : Nat → Int} {j : Nat} (hj : j < n) (he : -c j ≤ e j ∧ e j ≤ c j) :
    ∃ s : Int, (s = 1 ∨ s = -1) ∧ valF n f e ≤ valF n f (fun k => if k = j then c j * s else e k) := by
  have ha : 0 ≤ valF n f (fun k => if k = j then 1 else 0) := hp _
  have lin : ∀ t : Int, valF n f (fun k => if k = j then t else e k) = valF n f (fun k => if k = j then 1 else 0) * (t * t) + 2 * Zc n f (fun k => if k = j then 1 else 0) (fun k => if k = j then 0 else e k) * t + valF n f (fun k => if k = j then 0 else e k) := fun t => by
    have := Qdw h1 h3 hs (fun k => if k = j then 1 else 0) (fun k => if k = j then 0 else e k) t 1
    have e1 : valF n f (fun k => if k = j then t else e k) = valF n f (fun k => t * (if k = j then 1 else 0) + 1 * (if k = j then 0 else e k)) := Qbx fun k _ => by by_cases h : k = j <;> simp [h]
    rw [e1, this]; grind
  have e0 : valF n f e = valF n f (fun k => if k = j then e j else e k) := Qbx fun k _ => by by_cases h : k = j <;> simp [h]
  rw [e0, lin (e j)]
  rcases Qvi (α := valF n f (fun k => if k = j then 1 else 0)) (β := 2 * Zc n f (fun k => if k = j then 1 else 0) (fun k => if k = j then 0 else e k)) ha he with h | h
  · refine ⟨1, .inl rfl, ?_⟩
    rw [lin (c j * 1), Int.mul_one]; omega
  · refine ⟨-1, .inr rfl, ?_⟩
    rw [lin (c j * -1)]
    have e2 : c j * -1 = -c j := by omega
    have e3 : -c j * -c j = c j * c j := by grind
    rw [e2, e3]; omega
theorem QDv {n : Nat} (h3 : n ≤ 3) (s : Nat → Int) (hs : ∀ k, k < n → s k = 1 ∨ s k = -1) : ∃ q, q < 2 ^ n ∧ ∀ k, k < n → ZV q k = s k := by
  have key : ∀ n, n ≤ 3 → (∀ k, k < n → s k = 1 ∨ s k = -1) → ∃ q, q < 2 ^ n ∧ ∀ k, k < n → ZV q k = s k := by
    intro n
    induction n with
    | zero => intro _ _; exact ⟨0, by decide, fun k hk => by omega⟩
    | succ n ih =>
      intro h3 hs
      obtain ⟨q, hq, h⟩ := ih (by omega) fun k hk => hs k (by omega)
      have hp : 2 ^ (n + 1) = 2 * 2 ^ n := by rw [Nat.pow_succ]; omega
      rcases hs n (by omega) with h1 | h1
      · refine ⟨q, by omega, fun k hk => ?_⟩
        by_cases hkn : k = n
        · subst hkn; unfold ZV; rw [Nat.div_eq_of_lt hq, h1]; rfl
        · exact h k (by omega)
      · refine ⟨q + 2 ^ n, by omega, fun k hk => ?_⟩
        by_cases hkn : k = n
        · subst hkn
          unfold ZV
          rw [Nat.add_div_right _ (Nat.pow_pos (by decide)), Nat.div_eq_of_lt hq, h1]; rfl
        · have hlt : k < n := by omega
          rw [← h k hlt]
          unfold ZV
          have e : 2 ^ n = 2 ^ k * (2 * 2 ^ (n - 1 - k)) := by rw [← Nat.mul_assoc, ← Nat.pow_succ, ← Nat.pow_add]; congr 1; omega
          rw [e, Nat.add_mul_div_left _ _ (Nat.pow_pos (by decide)), Nat.add_mul_mod_self_left]
  exact key n h3 hs
theorem QFf {p : LevitatePlant} (h1 : 1 ≤ p.Noise.length) (h3 : p.Noise.length ≤ 3) {f : List (List Int)} (hs : Zw p.Noise.length f) (hp : ∀ u, 0 ≤ valF p.Noise.length f u) {D : Int} {e : Nat → Int}
    (he : ∀ k, k < p.Noise.length → -(D * (gi p.Noise k + 1)) ≤ e k ∧ e k ≤ D * (gi p.Noise k + 1)) : valF p.Noise.length f e ≤ D * D * YW p f := by
  have ends : ∃ s : Nat → Int, (∀ k, k < p.Noise.length → s k = 1 ∨ s k = -1) ∧ valF p.Noise.length f e ≤ valF p.Noise.length f (fun k => D * (gi p.Noise k + 1) * s k) := by
    have key : ∀ j, j ≤ p.Noise.length → ∃ s : Nat → Int, (∀ k, k < p.Noise.length → s k = 1 ∨ s k = -1) ∧ valF p.Noise.length f e ≤ valF p.Noise.length f (fun k => if k < j then D * (gi p.Noise k + 1) * s k else e k) := by
      intro j
      induction j with
      | zero => intro _; exact ⟨fun _ => 1, fun _ _ => .inl rfl, by simp⟩
      | succ j ih =>
        intro hj
        obtain ⟨s, hsg, hv⟩ := ih (by omega)
        obtain ⟨q, hq, hv2⟩ := QFe h1 h3 hs hp (c := fun k => D * (gi p.Noise k + 1)) (e := fun k => if k < j then D * (gi p.Noise k + 1) * s k else e k) (j := j) (by omega) (by simpa using he j (by omega))
        refine ⟨fun k => if k = j then q else s k, fun k hk => by by_cases h : k = j <;> simp [h, hq]; exact hsg k hk, Int.le_trans hv (Int.le_trans hv2 (Int.le_of_eq (Qbx fun k _ => ?_)))⟩
        by_cases h : k = j
        · subst h; simp
        · by_cases h2 : k < j
          · simp [h, h2, show k < j + 1 by omega]
          · simp [h, h2, show ¬ k < j + 1 by omega]
    obtain ⟨s, hsg, hv⟩ := key p.Noise.length (Nat.le_refl _)
    exact ⟨s, hsg, Int.le_trans hv (Int.le_of_eq (Qbx fun k hk => by simp [hk]))⟩
  obtain ⟨s, hsg, hv⟩ := ends
  obtain ⟨q, hq, hqs⟩ := QDv h3 s hsg
  have e1 : valF p.Noise.length f (fun k => D * (gi p.Noise k + 1) * s k) = D * D * X4 p.Noise.length f (xv p q) := by
    have e2 : valF p.Noise.length f (fun k => D * (gi p.Noise k + 1) * s k) = valF p.Noise.length f (fun k => D * gi (xv p q) k + 0 * 0) := Qbx fun k hk => by
      unfold xv; rw [Qat hk, hqs k hk]; grind
    rw [e2, Qdw h1 h3 hs (gi (xv p q)) (fun _ => 0) D 0, QFd]; grind
  have h4 : X4 p.Noise.length f (xv p q) ≤ YW p f := (Qil (fun s => X4 p.Noise.length f (xv p s)) (2 ^ p.Noise.length) (Nat.pow_pos (by decide))).2 q hq
  rw [e1] at hv
  exact Int.le_trans hv (Int.mul_le_mul_of_nonneg_left h4 (Zs D))
theorem Qsx {p : LevitatePlant} (h1 : 1 ≤ p.Noise.length) (h3 : p.Noise.length ≤ 3) {f : List (List Int)} (hs : Zw p.Noise.length f) (hp : ∀ u, 0 ≤ valF p.Noise.length f u) : 0 ≤ YW p f := by
  obtain ⟨⟨s, _, he⟩, _⟩ := Qil (fun s => X4 p.Noise.length f (xv p s)) (2 ^ p.Noise.length) (Nat.pow_pos (by decide))
  unfold YW; rw [he]; exact hp _
/-! ### An accepted proof -/
structure Prf (p : LevitatePlant) (f : List (List Int)) (r : Arr2_Int) (L : Int) : Prop where
  rp : Rp p
  rf : Rf f
  len : f.length = p.Noise.length
  rr : Rr r
  pos : Ys f = true
  les : ∀ m, m < p.Maps.length → Yw p.Noise.length (dM p m f r) = true
  lev : 0 ≤ L ∧ L ≤ 100000000000000
  kpt : Yn L (YW p f) r = true
theorem lsM_none {p : LevitatePlant} {f : List (List Int)} {r : Arr2_Int} : ZP p f r = none ↔ ∀ m, m < p.Maps.length → Yw p.Noise.length (dM p m f r) = true := by
  unfold ZP
  rw [fs_none]
  constructor
  · intro h m hm
    have := h m hm
    rw [Nat.zero_add] at this
    split at this
    · assumption
    · cases this
  · intro h m hm
    rw [Nat.zero_add, if_pos (h m hm)]
theorem pvV_zero {p : LevitatePlant} {f : List (List Int)} {r : Arr2_Int} : (Y9 p f r).2 = 0 ↔ Rr r ∧ Ys f = true ∧ ∀ m, m < p.Maps.length → Yw p.Noise.length (dM p m f r) = true := by
  rw [← lsM_none, ← rateB_iff]
  unfold Y9
  cases hr : Za r <;> cases hp : Ys f <;> cases hl : ZP p f r <;> simp
section
variable {p : LevitatePlant} {f : List (List Int)} {r : Arr2_Int} {L : Int}
theorem Prf.n1 (h : Prf p f r L) : 1 ≤ p.Noise.length := by have := h.rf.n1; have := h.len; omega
theorem Prf.sym (h : Prf p f r L) : Zw p.Noise.length f := by rw [← h.len]; exact h.rf.sym
theorem Prf.psd (h : Prf p f r L) (u : Nat → Int) : 0 ≤ valF p.Noise.length f u := by rw [← h.len]; exact Qrc h.rf.n1 h.rf.n3 h.rf.sym h.pos u
theorem Prf.wst (h : Prf p f r L) : 0 ≤ YW p f := Qsx h.n1 h.rp.n3 h.sym h.psd
theorem Prf.step (h : Prf p f r L) {x : List Int} {s : LevitateSample} (hs : Sm p s) (hv : valF p.Noise.length f (gi x) ≤ L) : valF p.Noise.length f (gi (X3 p x s)) ≤ L := by
  have hm : s.Map.toNat < p.Maps.length := by have := hs.m0; have := hs.m1; omega
  have hd := h.rp.den
  have hD : 0 < p.Den * p.Den := Int.mul_pos (by omega) (by omega)
  have h1 := Qzp h.n1 h.rp.n3 (QEq h.n1 h.rp.n3 h.sym r) (h.les _ hm) (gi x)
  rw [Qws h.n1 h.rp.n3] at h1
  have hr0 := h.rr.e0; have hr1 := h.rr.e1
  -- what rounding and the disturbance add
  let e : Nat → Int := fun i => p.Den * gi (X3 p x s) i - YK p s.Map.toNat i x
  have he : ∀ k, k < p.Noise.length → -(p.Den * (gi p.Noise k + 1)) ≤ e k ∧ e k ≤ p.Den * (gi p.Noise k + 1) := fun k hk => by
    have h3 := hs.nz k hk
    have h4 : gi (X3 p x s) k = YK p s.Map.toNat k x / p.Den + gi s.Noise k := by unfold X3; rw [Qat hk]
    have h5 := Int.mul_ediv_add_emod (YK p s.Map.toNat k x) p.Den
    have h6 := Int.emod_nonneg (YK p s.Map.toNat k x) (show p.Den ≠ 0 by omega)
    have h7 := Int.emod_lt_of_pos (YK p s.Map.toNat k x) (show 0 < p.Den by omega)
    have h8 : p.Den * -gi p.Noise k ≤ p.Den * gi s.Noise k := Int.mul_le_mul_of_nonneg_left h3.1 (by omega)
    have h9 : p.Den * gi s.Noise k ≤ p.Den * gi p.Noise k := Int.mul_le_mul_of_nonneg_left h3.2 (by omega)
    show -(p.Den * (gi p.Noise k + 1)) ≤ p.Den * gi (X3 p x s) k - YK p s.Map.toNat k x ∧ p.Den * gi (X3 p x s) k - YK p s.Map.toNat k x ≤ p.Den * (gi p.Noise k + 1)
    rw [h4, Int.mul_add, Int.mul_add, Int.mul_one]
    rw [Int.mul_neg] at h8
    omega
  have h2 := QFf h.n1 h.rp.n3 h.sym h.psd he
  have e1 : valF p.Noise.length f (fun i => 1 * YK p s.Map.toNat i x + 1 * e i) = valF p.Noise.length f (fun i => p.Den * gi (X3 p x s) i + 0 * 0) := Qbx fun k _ => by show 1 * _ + 1 * (p.Den * gi (X3 p x s) k - YK p s.Map.toNat k x) = _; omega
  rw [Qdw h.n1 h.rp.n3 h.sym, Qdw h.n1 h.rp.n3 h.sym (gi (X3 p x s)) (fun _ => 0) p.Den 0] at e1
  have hk := h.kpt
  unfold Yn at hk
  simp only [Bool.and_eq_true, decide_eq_true_eq] at hk
  have key := Qwt (U := valF p.Noise.length f (fun i => YK p s.Map.toNat i x)) (E := valF p.Noise.length f e) (B := Zc p.Noise.length f (fun i => YK p s.Map.toNat i x) e) (L := L) (W := YW p f) (D := p.Den * p.Den) (r0 := r.e0) (r1 := r.e1)
    (Int.le_of_lt hD) (h.psd e) (Qvd h.n1 h.rp.n3 h.sym h.psd _ _) hr0.1 (by omega) h.lev.1 (by
      have := Int.mul_le_mul_of_nonneg_left hv (show 0 ≤ r.e0 * p.Den * p.Den from Int.mul_nonneg (Int.mul_nonneg hr0.1 (by omega)) (by omega))
      have e2 : r.e0 * (p.Den * p.Den) * L = r.e0 * p.Den * p.Den * L := by grind
      rw [e2]; omega) h2 rfl hk.1 (by have e3 : 4 * r.e0 * r.e1 * (L * YW p f) = 4 * r.e0 * r.e1 * L * YW p f := by grind
                                      rw [e3]; exact hk.2)
  refine Int.le_of_mul_le_mul_left (a := p.Den * p.Den) ?_ hD
  have e4 : p.Den * p.Den * valF p.Noise.length f (gi (X3 p x s)) = 1 * 1 * valF p.Noise.length f (fun i => YK p s.Map.toNat i x) + 2 * (1 * 1 * Zc p.Noise.length f (fun i => YK p s.Map.toNat i x) e) + 1 * 1 * valF p.Noise.length f e := by rw [e1]; simp
  rw [e4]; omega
end
end Go.Gw

end
section
set_option maxRecDepth 8192
set_option linter.unusedSimpArgs false
set_option linter.unusedVariables false
namespace Go.Gw
open Go

theorem QCh (f : List (List Int)) (hl : f.length < 1073741824) : Qhl f = some (YY f) := by
  unfold Qhl
  have e1 : (decide ((f.length : Int) = 0)) = decide (f.length = 0) := YZ _ 0
  have e2 : (decide (3 < (f.length : Int))) = decide (3 < f.length) := by rw [Bool.eq_iff_iff, decide_eq_true_iff, decide_eq_true_iff]; omega
  rw [e1, e2]
  unfold YY
  by_cases h1 : f.length = 0
  · simp [h1]
  · by_cases h2 : 3 < f.length
    · simp [h1, h2]
    · have hsh : loop (Qhi f) 0 = some (oi (if f.any (YS f) then some 10 else none)) := by
        rw [X0 f (fun _ r => if YS f r then some (10 : Int) else none)]
        · have : ∀ (l : List (List Int)) t, fs (fun _ r => if YS f r then some (10 : Int) else none) t l = if l.any (YS f) then some 10 else none := by
            intro l
            induction l with
            | nil => intro t; rfl
            | cons y ys ih =>
              intro t
              cases hy : YS f y with
              | true => simp [fs, hy]
              | false => simp [fs, hy]; simpa using ih (t + 1)
          rw [this]
        · intro k hk
          unfold Qhi
          rw [Xi hk, cond_true, XB hk, Option.bind_some, YZ, Xg k (by omega)]
          show (bif YS f f[k] then _ else _) = _
          cases YS f f[k] <;> rfl
        · unfold Qhi
          rw [Xj]; rfl
      rw [hsh]
      cases h3 : f.any (YS f) with
      | true => simp [h1, h2, oi, Xl]
      | false =>
        have hq := Qml h3
        have hloop : loop (Qhk f) 0 = some (oi (fs (Zk f) 0 f)) := by
          refine X0 f _ (fun i hi => ?_) ?_
          · unfold Qhk
            rw [Xi hi, cond_true]
            have hri : f[i].length = f.length := by rw [ZB hi]; exact hq.row i hi
            have hin : loop (Qhj f (i : Int)) 0 = some (oi ((Zk f i f[i]).map fun r => (.inr (.inl r) : Int ⊕ (Int ⊕ Unit)))) := by
              rw [X0 f[i] (fun k x => (if Xo 10000 x then (if g2 f k i = x then none else some (3 : Int)) else some 2).map fun r => (.inr (.inl r) : Int ⊕ (Int ⊕ Unit)))]
              · rw [JN (fun r => (.inr (.inl r) : Int ⊕ (Int ⊕ Unit)))]; rfl
              · intro k hk
                have hkf : k < f.length := by omega
                have hki : i < (gr f k).length := by rw [hq.row k hkf]; exact hi
                unfold Qhj
                rw [Xi hkf, cond_true, XB hi, Option.bind_some, XB hk, Option.bind_some, Qco, Option.bind_some, Zl hkf]
                simp only [Option.bind_some, XB hk, XG hki]
                rw [Xg k (by omega)]
                show (bif !Xo 10000 f[i][k] then _ else _) = XI (Option.map _ (if Xo 10000 f[i][k] then (if g2 f k i = f[i][k] then none else some 3) else some 2)) k
                unfold g2
                generalize f[i][k] = a
                generalize gi (gr f k) i = b
                by_cases h5 : b = a
                · subst h5; cases Xo 10000 b <;> simp [XI]
                · have h5' : ¬ a = b := fun e => h5 e.symm
                  cases Xo 10000 a <;> simp [h5, h5', XI]
              · unfold Qhj
                rw [hri, Xj]; rfl
            rw [hin, Option.bind_some, Xg i (by omega)]
            cases Zk f i f[i] <;> rfl
          · unfold Qhk
            rw [Xj]; rfl
        simp only [h1, h2, hloop, decide_false, cond_false, if_false, Option.bind_some, Bool.false_eq_true, oi, Xl]
        cases fs (Zk f) 0 f <;> rfl
end Go.Gw

end
section
set_option maxRecDepth 8192
set_option linter.unusedSimpArgs false
set_option linter.unusedVariables false
namespace Go.Gw
open Go

theorem Runs.gd {α β : Type} {Q : α → Prop} [Inhabited β] {g : Bool} {e : Option β} {f : β → Option α} (ht : g = true → Runs (Option.bind e f) Q) (hf : g = false → Runs (f default) Q) : Runs (Option.bind (bif g then e else Option.some default) f) Q := by
  cases g
  · exact hf rfl
  · exact ht rfl
theorem QDy (f : List (List Int)) : Runs (Qfj f) fun b => b = true → f.length ≤ 5 ∧ ∀ r ∈ f, r.length ≤ 5 := by
  unfold Qfj
  refine Runs.bif (fun _ => Runs.some (fun h => by cases h)) fun hc => ?_
  rw [decide_eq_false_iff_not] at hc
  rw [X0 f (fun _ r => if 5 < r.length then some false else none), Option.bind_some]
  · cases hf : fs (fun (_ : Nat) (r : List Int) => if 5 < r.length then some false else none) 0 f with
    | some b =>
      obtain ⟨i, hi, h2⟩ := Y5 hf
      split at h2
      · cases h2; exact ⟨false, rfl, fun h => by cases h⟩
      · cases h2
    | none =>
      refine ⟨true, rfl, fun _ => ⟨by omega, fun s hs => ?_⟩⟩
      obtain ⟨i, hi, rfl⟩ := List.mem_iff_getElem.1 hs
      have h2 := fs_none.1 hf i hi
      split at h2
      · cases h2
      · omega
  · intro k hk
    unfold Qkb
    rw [Xi hk, XB hk, Xg k (by omega), cond_true, Option.bind_some]
    by_cases h2 : 5 < f[k].length
    · rw [decide_eq_true (by omega), if_pos h2]; rfl
    · rw [decide_eq_false (by omega), if_neg h2]; rfl
  · unfold Qkb
    rw [Xj]; rfl
def ZT (p : LevitatePlant) (f : List (List Int)) : Int := if YY f ≠ 0 then YY f else if f.length = p.Noise.length then 0 else 13
theorem QCl (p : LevitatePlant) (f : List (List Int)) (hl : f.length < 1073741824) : Qhp p f = some (ZT p f) := by
  unfold Qhp ZT
  rw [QCh f hl, Option.bind_some, YZ]
  by_cases h : YY f = 0
  · by_cases h2 : f.length = p.Noise.length <;> simp [h, h2]
  · simp [h]
theorem pfE_zero {p : LevitatePlant} {f : List (List Int)} : ZT p f = 0 ↔ Rf f ∧ f.length = p.Noise.length := by
  rw [← frmE_right]
  unfold ZT
  by_cases h : YY f = 0
  · by_cases h2 : f.length = p.Noise.length <;> simp [h, h2]
  · simp [h]
theorem Qps {step : (Int × Int) → Option ((Int × Int) ⊕ Int)} (n : Nat) (t : Nat → Int) (a0 : Int) (hs : ∀ k, k < n → ∀ a, step (a, (k : Int)) = some (.inl (w64 (a + t k), ((k + 1 : Nat) : Int)))) (he : ∀ a, step (a, (n : Int)) = some (.inr a)) (ha : w64 a0 = a0) :
    loop step (a0, 0) = some (w64 (a0 + QV t n)) := by
  have key : ∀ k, k ≤ n → loop step (a0, 0) = loop step (w64 (a0 + QV t k), (k : Int)) := by
    intro k
    induction k with
    | zero => intro _; simp only [QV, Int.add_zero, ha]; rfl
    | succ k ih => intro hk; rw [ih (by omega), Yi (hs k (by omega) _), Qdx]; simp only [QV, Int.add_assoc]
  rw [key n (Nat.le_refl _)]
  exact XR (he _)
theorem Qmp (c : Int) (t : Nat → Int) : ∀ n, QV (fun k => c * t k) n = c * QV t n
  | 0 => by simp [QV]
  | n + 1 => by simp only [QV]; rw [Qmp c t n, Int.mul_add]
theorem Qsr (x : Int) : w64 (w64 x) = w64 x := by have := Qdx x 0; simpa using this
theorem QCn {n : Nat} {f : List (List Int)} (h : Sq n f) {x : List Int} (hx : x.length = n) (hn : n < 1000) : Qhs f x = some (w64 (X4 n f x)) := by
  unfold Qhs
  have key : ∀ k, k ≤ n → loop (Qdr f x) (0, 0) = loop (Qdr f x) (w64 (QV (fun i => gi x i * QV (fun k => g2 f i k * gi x k) n) k), (k : Int)) := by
    intro i
    induction i with
    | zero => intro _; rfl
    | succ i ih =>
      intro hi
      rw [ih (by omega)]
      have inner : loop (Qhr f x (i : Int)) (w64 (QV (fun i => gi x i * QV (fun k => g2 f i k * gi x k) n) i), 0) = some (w64 (QV (fun i => gi x i * QV (fun k => g2 f i k * gi x k) n) (i + 1))) := by
        rw [Qps n (fun k => gi x i * (g2 f i k * gi x k))]
        · rw [Qmp, Qdx]; rfl
        · intro k hk a
          unfold Qhr
          dsimp only
          rw [hx, Xi hk, cond_true, Zl (by rw [h.len]; omega), Option.bind_some, XG (by omega), Option.bind_some, XG (by omega), Option.bind_some, XG (by rw [h.row i (by omega)]; exact hk), Option.bind_some, Xg k (by omega), Qmv, Jf]
          congr 4
          show a + gi (gr f i) k * gi x i * gi x k = a + gi x i * (g2 f i k * gi x k)
          unfold g2; grind
        · intro a
          unfold Qhr
          dsimp only
          rw [hx, Xj]; rfl
        · exact Qsr _
      rw [Yi (s' := (w64 (QV (fun i => gi x i * QV (fun k => g2 f i k * gi x k) n) (i + 1)), ((i + 1 : Nat) : Int)))]
      unfold Qdr
      dsimp only
      rw [hx, Xi (by omega), cond_true, inner, Option.bind_some, Xg i (by omega)]
  rw [key n (Nat.le_refl _), XR (o := w64 (X4 n f x))]
  · rfl
  · unfold Qdr
    dsimp only
    rw [hx, Xj]; rfl
end Go.Gw

end
section
set_option maxRecDepth 8192
set_option linter.unusedSimpArgs false
set_option linter.unusedVariables false
namespace Go.Gw
open Go

theorem QCk (p : LevitatePlant) (h : Sh p) : Qho p = some (XQ p).2 := by
  unfold Qho; rw [QCg p h]; rfl
end Go.Gw

end
section
set_option maxRecDepth 8192
set_option linter.unusedSimpArgs false
set_option linter.unusedVariables false
namespace Go.Gw
open Go

end Go.Gw

end
section
set_option maxRecDepth 8192
set_option linter.unusedSimpArgs false
set_option linter.unusedVariables false
namespace Go.Gw
open Go

theorem Bx.rng {p : LevitatePlant} {x : List Int} (h : Bx p x) : ∀ k, k < p.Noise.length → 0 ≤ gi x k ∧ gi x k ≤ 100000 := fun k hk => ⟨h.ge k (by rw [h.len]; exact hk), h.le k (by rw [h.len]; exact hk)⟩
/-! ### What lies in a box -/
end Go.Gw

end
section
set_option maxRecDepth 8192
set_option linter.unusedSimpArgs false
set_option linter.unusedVariables false
namespace Go.Gw
open Go

theorem Qzj {α : Type} {n : Nat} {z : α} (h : n ≤ 1048576) : mk (n : Int) z = some (List.replicate n z) := by
  unfold mk; rw [if_pos (by omega), Int.toNat_natCast]
theorem Qjs {n k : Nat} : gi (List.replicate n 0) k = 0 := by
  unfold gi; rw [List.getD_eq_getElem?_getD, List.getElem?_replicate]; split <;> rfl
end Go.Gw

end
section
set_option maxRecDepth 8192
set_option linter.unusedSimpArgs false
set_option linter.unusedVariables false
namespace Go.Gw
open Go

def bw : Nat → Int
  | 0 => 1
  | n + 1 => bw n * 1000000000
theorem JD : ∀ n, 0 < bw n
  | 0 => by decide
  | n + 1 => by have := JD n; simp only [bw]; omega
theorem Qje (m : Nat) : ∀ n, bw (m + n) = bw m * bw n
  | 0 => by simp [bw]
  | n + 1 => by
    have : m + (n + 1) = (m + n) + 1 := by omega
    rw [this]; simp only [bw]; rw [Qje m n, Int.mul_assoc]
def Xa (l : List Int) (n : Nat) : Int := QV (fun k => gi l k * bw k) n
def dv (l : List Int) : Int := Xa l l.length
def Dg (l : List Int) : Prop := ∀ k, 0 ≤ gi l k ∧ gi l k ≤ 999999999
theorem JZ {l : List Int} {k : Nat} (h : l.length ≤ k) : gi l k = 0 := by
  unfold gi; simp [List.getD_eq_getElem?_getD, List.getElem?_eq_none h]
theorem Qok {l m : List Int} {n : Nat} (h : ∀ k, k < n → gi l k = gi m k) : Xa l n = Xa m n := J8 fun k hk => by rw [h k hk]
theorem Qew {l : List Int} {n : Nat} : ∀ j, (∀ k, n ≤ k → k < n + j → gi l k = 0) → Xa l (n + j) = Xa l n
  | 0, _ => rfl
  | j + 1, h => by
    have e : n + (j + 1) = (n + j) + 1 := by omega
    rw [e]
    unfold Xa
    simp only [QV]
    rw [h (n + j) (by omega) (by omega)]
    have := Qew (l := l) (n := n) j fun k h1 h2 => h k h1 (by omega)
    unfold Xa at this
    omega
theorem Qjj {l : List Int} {n : Nat} (h : l.length ≤ n) : Xa l n = dv l := by
  have := Qew (l := l) (n := l.length) (n - l.length) fun k h1 _ => JZ h1
  rw [show l.length + (n - l.length) = n by omega] at this
  exact this
theorem Qap {l : List Int} (h : Dg l) : ∀ n, 0 ≤ Xa l n ∧ Xa l n ≤ bw n - 1
  | 0 => by simp [Xa, QV, bw]
  | n + 1 => by
    have ih := Qap h n
    have hd := h n
    have hb := JD n
    unfold Xa at ih ⊢
    simp only [QV, bw]
    have h1 : 0 ≤ gi l n * bw n := Int.mul_nonneg hd.1 (by omega)
    have h2 : gi l n * bw n ≤ 999999999 * bw n := Int.mul_le_mul_of_nonneg_right hd.2 (by omega)
    omega
theorem Qju {l : List Int} {n k : Nat} (h : k < n) : gi (l.take n) k = gi l k := by
  unfold gi; simp only [List.getD_eq_getElem?_getD, List.getElem?_take]; rw [if_pos h]
theorem Qjt {l : List Int} {x : Int} {k : Nat} : gi (l ++ [x]) k = if k < l.length then gi l k else if k = l.length then x else 0 := by
  unfold gi
  simp only [List.getD_eq_getElem?_getD]
  by_cases h : k < l.length
  · rw [if_pos h, List.getElem?_append_left h]
  · rw [if_neg h]
    by_cases h2 : k = l.length
    · subst h2; simp
    · rw [if_neg h2, List.getElem?_eq_none (by simp; omega)]; rfl
theorem Qev {l : List Int} {x : Int} {n : Nat} (h : l.length = n) : Xa (l ++ [x]) (n + 1) = Xa l n + x * bw n := by
  have this : Xa (l ++ [x]) n = Xa l n := Qok fun k hk => by rw [Qjt, if_pos (by omega)]
  have e : Xa (l ++ [x]) (n + 1) = Xa (l ++ [x]) n + gi (l ++ [x]) n * bw n := rfl
  rw [e, this, Qjt, if_neg (by omega), if_pos h.symm]
theorem Qes {l : List Int} {x : Int} (h : Dg l) (hx : 0 ≤ x ∧ x ≤ 999999999) : Dg (l ++ [x]) := fun k => by
  rw [Qjt]
  split
  · exact h k
  · split
    · exact hx
    · omega
theorem Qer : Dg [] := fun k => by simp [gi]
theorem Qjg (l : List Int) (k : Nat) (hk : k < 1000000) : Qam l (k : Int) = some (gi l k) := by
  unfold Qam
  by_cases h : k < l.length
  · rw [Xi h, cond_true, XG h]; rfl
  · rw [decide_eq_false (by omega), cond_false, JZ (by omega)]

/-! ### Without noughts at the end -/
def YP (l : List Int) : Nat → Nat
  | 0 => 0
  | n + 1 => if gi l n = 0 then YP l n else n + 1
theorem Qbw (l : List Int) : ∀ n, YP l n ≤ n
  | 0 => Nat.le_refl _
  | n + 1 => by simp only [YP]; split
                · have := Qbw l n; omega
                · omega
theorem Qsh (l : List Int) : ∀ n k, YP l n ≤ k → k < n → gi l k = 0
  | 0, k, _, h => by omega
  | n + 1, k, h1, h2 => by
    simp only [YP] at h1
    split at h1
    · rename_i h0
      by_cases hk : k = n
      · subst hk; exact h0
      · exact Qsh l n k h1 (by omega)
    · omega
theorem Qsg (l : List Int) : ∀ n, 0 < YP l n → gi l (YP l n - 1) ≠ 0
  | 0, h => by simp [YP] at h
  | n + 1, h => by
    simp only [YP] at h ⊢
    split
    · rename_i h0; rw [if_pos h0] at h; exact Qsg l n h
    · rename_i h0; simpa using h0
def Y3 (l : List Int) : List Int := l.take (YP l l.length)
theorem Qsi (l : List Int) (hl : l.length < 1000000) : Qck l = some (Y3 l) := by
  unfold Qck
  have key : ∀ n, n ≤ l.length → loop (Qem l) (n : Int) = some ((YP l n : Nat) : Int) := by
    intro n
    induction n with
    | zero => intro _; exact XR rfl
    | succ n ih =>
      intro hn
      have e1 : w64 (((n + 1 : Nat) : Int) - 1) = (n : Int) := by rw [Q7 (by omega)]; omega
      have st : Qem l ((n + 1 : Nat) : Int) = if gi l n = 0 then some (.inl (n : Int)) else some (.inr ((n + 1 : Nat) : Int)) := by
        unfold Qem
        have h0 : decide ((0 : Int) < ((n + 1 : Nat) : Int)) = true := by rw [decide_eq_true_eq]; omega
        rw [h0, cond_true, e1, XG (by omega), Option.bind_some]
        by_cases hz : gi l n = 0
        · rw [if_pos hz, decide_eq_true hz]; rfl
        · rw [if_neg hz, decide_eq_false hz]; rfl
      simp only [YP]
      by_cases hz : gi l n = 0
      · rw [if_pos hz] at st ⊢; rw [Yi st]; exact ih (by omega)
      · rw [if_neg hz] at st ⊢; exact XR st
  rw [key _ (Nat.le_refl _), Option.bind_some]
  have := Qbw l l.length
  unfold cut
  rw [if_pos (by omega)]
  simp [Y3]
theorem Qbv (l : List Int) : (Y3 l).length = YP l l.length := by have := Qbw l l.length; simp [Y3]; omega
theorem Qol (l : List Int) : dv (Y3 l) = dv l := by
  unfold dv
  rw [Qbv]
  have h1 := Qbw l l.length
  have h2 := Qew (l := l) (n := YP l l.length) (l.length - YP l l.length) fun k a b => Qsh l l.length k a (by omega)
  rw [show YP l l.length + (l.length - YP l l.length) = l.length by omega] at h2
  rw [h2]
  exact Qok fun k hk => Qju hk
theorem Qet {l : List Int} (h : Dg l) : Dg (Y3 l) := fun k => by
  by_cases hk : k < YP l l.length
  · unfold Y3; rw [Qju hk]; exact h k
  · rw [JZ (by rw [Qbv]; omega)]; omega
def Tr (l : List Int) : Prop := l = [] ∨ gi l (l.length - 1) ≠ 0
theorem Qmt (l : List Int) : Tr (Y3 l) := by
  by_cases h : 0 < YP l l.length
  · right
    rw [Qbv]
    unfold Y3
    rw [Qju (by omega)]
    exact Qsg l _ h
  · left
    have : (Y3 l).length = 0 := by rw [Qbv]; omega
    exact List.eq_nil_of_length_eq_zero this
theorem Qms {l : List Int} (hd : Dg l) (ht : Tr l) (hl : 0 < l.length) : bw (l.length - 1) ≤ dv l := by
  have hne : gi l (l.length - 1) ≠ 0 := by
    rcases ht with h | h
    · rw [h] at hl; exact absurd hl (by simp)
    · exact h
  have h1 := hd (l.length - 1)
  have h2 := (Qap hd (l.length - 1)).1
  have hb := JD (l.length - 1)
  have e : dv l = Xa l (l.length - 1) + gi l (l.length - 1) * bw (l.length - 1) := by
    unfold dv
    obtain ⟨n, hn⟩ : ∃ n, l.length = n + 1 := ⟨l.length - 1, by omega⟩
    rw [hn]; rfl
  have h3 : 1 * bw (l.length - 1) ≤ gi l (l.length - 1) * bw (l.length - 1) := Int.mul_le_mul_of_nonneg_right (by omega) (by omega)
  omega

/-! ### Numbers -/
structure WV (N : Nat) (a : guidewaybase_Wide) (x : Int) : Prop where
  dg : Dg a.Digits
  tr : Tr a.Digits
  sg : a.Sign = Int.sign x
  vl : dv a.Digits = (x.natAbs : Int)
  ln : a.Digits.length ≤ N
theorem WV.mono {N M : Nat} {a : guidewaybase_Wide} {x : Int} (h : WV N a x) (hm : N ≤ M) : WV M a x := ⟨h.dg, h.tr, h.sg, h.vl, Nat.le_trans h.ln hm⟩
theorem WV.nil {N : Nat} {a : guidewaybase_Wide} {x : Int} (h : WV N a x) : a.Digits = [] ↔ x = 0 := by
  constructor
  · intro e
    have := h.vl
    rw [e] at this
    have e2 : dv [] = 0 := rfl
    omega
  · intro e
    have hv := h.vl
    rcases Nat.eq_zero_or_pos a.Digits.length with h0 | h0
    · exact List.eq_nil_of_length_eq_zero h0
    · have := Qms h.dg h.tr h0
      have := JD (a.Digits.length - 1)
      omega
theorem Qdz {N : Nat} {l : List Int} {s x : Int} (hd : Dg l) (hl : l.length ≤ N) (hN : N < 1000000) (hv : dv l = (x.natAbs : Int)) (hs : x ≠ 0 → s = Int.sign x) : Runs (JC s l) fun c => WV N c x := by
  unfold JC
  rw [Qsi l (by omega), Option.bind_some]
  have h1 := Qbv l
  have h2 := Qbw l l.length
  have hvt := Qol l
  refine Runs.bif (fun hc => ?_) fun hc => ?_
  · rw [decide_eq_true_eq] at hc
    have e : Y3 l = [] := List.eq_nil_of_length_eq_zero (by omega)
    have hx : x = 0 := by
      have : dv (Y3 l) = 0 := by rw [e]; rfl
      omega
    exact Runs.some ⟨Qet hd, Qmt l, by rw [hx]; rfl, by show dv (Y3 l) = _; rw [hvt, hv], by show (Y3 l).length ≤ N; omega⟩
  · rw [decide_eq_false_iff_not] at hc
    have hx : x ≠ 0 := fun e => by
      have h3 := Qms (Qet hd) (Qmt l) (by omega)
      have := JD ((Y3 l).length - 1)
      rw [e] at hv
      simp at hv
      omega
    exact Runs.some ⟨Qet hd, Qmt l, hs hx, by show dv (Y3 l) = _; rw [hvt, hv], by show (Y3 l).length ≤ N; omega⟩
theorem Z2 {n : Int} (h : -9000000000000000000 ≤ n ∧ n ≤ 9000000000000000000) : Runs (Zq n) fun c => WV 3 c n := by
  unfold Zq
  refine Runs.call (b := ((n.natAbs : Int), if n < 0 then -1 else 1)) (by
    by_cases hn : n < 0
    · rw [decide_eq_true hn, cond_true, Q7 (by omega), if_pos hn]; congr 2; omega
    · rw [decide_eq_false hn, cond_false, if_neg hn]; congr 2; omega) ?_
  refine Runs.callR (R := fun l => Dg l ∧ l.length ≤ 3 ∧ dv l = (n.natAbs : Int)) ?_ fun l hl => ?_
  · refine Runs.loop (fun s => 0 ≤ s.1 ∧ Dg s.2 ∧ s.2.length ≤ 3 ∧ dv s.2 + s.1 * bw s.2.length = (n.natAbs : Int) ∧ (s.2.length = 1 → s.1 ≤ 9000000000) ∧ (s.2.length = 2 → s.1 ≤ 9) ∧ (s.2.length = 3 → s.1 = 0) ∧ s.1 ≤ 9000000000000000000) (fun s => s.1.toNat)
      ⟨by show (0 : Int) ≤ (n.natAbs : Int); omega, Qer, by show (0 : Nat) ≤ 3; decide, by show (0 : Int) + (n.natAbs : Int) * 1 = _; omega, (fun h => absurd (show (0 : Nat) = 1 from h) (by decide)), (fun h => absurd (show (0 : Nat) = 2 from h) (by decide)), (fun h => absurd (show (0 : Nat) = 3 from h) (by decide)), by show (n.natAbs : Int) ≤ _; omega⟩ ?_
    rintro ⟨m, l⟩ ⟨h0, hd, hl, hv, h1, h2, h3, hm⟩
    dsimp only at h0 hd hl hv h1 h2 h3 hm
    unfold Qnt
    dsimp only
    by_cases hp : 0 < m
    · have hl3 : l.length < 3 := by
        rcases Nat.lt_or_ge l.length 3 with h | h
        · exact h
        · have := h3 (by omega); omega
      have e1 : Int.tmod m 1000000000 = m % 1000000000 := Int.tmod_eq_emod_of_nonneg (by omega)
      have e2 : Int.tdiv m 1000000000 = m / 1000000000 := Int.tdiv_eq_ediv_of_nonneg (by omega)
      rw [decide_eq_true hp, cond_true, Ye (by simp; omega), Option.bind_some, e1, e2, Q7 (by omega)]
      have h4 := Int.mul_ediv_add_emod m 1000000000
      refine Runs.some ⟨⟨by dsimp only; omega, Qes hd (by omega), by simp; omega, ?_, ?_, ?_, ?_, by dsimp only; omega⟩, by dsimp only; omega⟩
      · dsimp only
        rw [List.length_append, List.length_singleton]
        unfold dv
        rw [List.length_append, List.length_singleton, Qev rfl]
        unfold dv at hv
        have e3 : m / 1000000000 * bw (l.length + 1) = 1000000000 * (m / 1000000000) * bw l.length := by simp only [bw]; grind
        have e4 : m * bw l.length = 1000000000 * (m / 1000000000) * bw l.length + m % 1000000000 * bw l.length := by rw [← Int.add_mul, h4]
        omega
      · dsimp only; rw [List.length_append, List.length_singleton]; intro h5; omega
      · dsimp only; rw [List.length_append, List.length_singleton]; intro h5; have := h1 (by omega); omega
      · dsimp only; rw [List.length_append, List.length_singleton]; intro h5; have := h2 (by omega); omega
    · rw [decide_eq_false hp]
      have : m = 0 := by omega
      subst this
      exact Runs.some ⟨hd, hl, by omega⟩
  · refine Runs.bind (Runs.mono (Qdz (N := 3) (x := n) hl.1 hl.2.1 (by decide) hl.2.2 fun hn => ?_) fun c hc => Runs.some hc)
    by_cases h0 : n < 0
    · rw [if_pos h0, Int.sign_eq_neg_one_of_neg h0]
    · rw [if_neg h0, Int.sign_eq_one_of_pos (by omega)]
theorem Quh {a b : List Int} (ha : Dg a) (hb : Dg b) {N : Nat} (la : a.length ≤ N) (lb : b.length ≤ N) (hN : N < 100000) : Runs (Qek a b) fun c => Dg c ∧ c.length ≤ N + 1 ∧ dv c = dv a + dv b := by
  unfold Qek
  refine Runs.callR (R := fun c => Dg c ∧ c.length ≤ N + 1 ∧ dv c = dv a + dv b) ?_ fun c hc => Runs.some hc
  refine Runs.loop (fun s => ∃ k : Nat, s.2.2 = (k : Int) ∧ s.1.length = k ∧ Dg s.1 ∧ (0 ≤ s.2.1 ∧ s.2.1 ≤ 1) ∧ k ≤ N + 1 ∧ (k = N + 1 → s.2.1 = 0) ∧ Xa s.1 k + s.2.1 * bw k = Xa a k + Xa b k) (fun s => N + 2 - s.2.2.toNat)
    ⟨0, rfl, rfl, Qer, by decide, Nat.zero_le _, fun h => rfl, by simp [Xa, QV]⟩ ?_
  rintro ⟨c, cr, _⟩ ⟨k, rfl, hc, hd, hcr, hk, hkz, hv⟩
  dsimp only at hc hd hcr hk hkz hv
  unfold Qnu
  dsimp only
  by_cases hgo : k < a.length ∨ k < b.length ∨ 0 < cr
  · have hcond : (((decide ((k : Int) < (a.length : Int))) || (decide ((k : Int) < (b.length : Int)))) || (decide (0 < cr))) = true := by
      simp only [Bool.or_eq_true, decide_eq_true_eq]; omega
    have hkN : k ≤ N := by
      rcases Nat.lt_or_ge N k with h | h
      · have := hkz (by omega); omega
      · exact h
    have hda := ha k
    have hdb := hb k
    rw [hcond, cond_true, Qjg a k (by omega), Option.bind_some, Qjg b k (by omega), Option.bind_some, Q7 (x := gi a k + gi b k) (by omega), Q7 (x := gi a k + gi b k + cr) (by omega), Ye (by simp; omega), Option.bind_some]
    have e1 : Int.tmod (gi a k + gi b k + cr) 1000000000 = (gi a k + gi b k + cr) % 1000000000 := Int.tmod_eq_emod_of_nonneg (by omega)
    have e2 : Int.tdiv (gi a k + gi b k + cr) 1000000000 = (gi a k + gi b k + cr) / 1000000000 := Int.tdiv_eq_ediv_of_nonneg (by omega)
    rw [e1, e2, Q7 (by omega), Xg k (by omega)]
    have h4 := Int.mul_ediv_add_emod (gi a k + gi b k + cr) 1000000000
    refine Runs.some ⟨⟨k + 1, rfl, by simp [hc], Qes hd (by omega), by dsimp only; omega, by omega, ?_, ?_⟩, by dsimp only; omega⟩
    · intro h5
      dsimp only
      have hkN' : k = N := by omega
      rw [JZ (l := a) (by omega), JZ (l := b) (by omega)]; omega
    · dsimp only
      rw [Qev hc]
      show _ = (Xa a k + gi a k * bw k) + (Xa b k + gi b k * bw k)
      have e3 : (gi a k + gi b k + cr) / 1000000000 * bw (k + 1) = 1000000000 * ((gi a k + gi b k + cr) / 1000000000) * bw k := by simp only [bw]; grind
      have e4 : (gi a k + gi b k + cr) * bw k = 1000000000 * ((gi a k + gi b k + cr) / 1000000000) * bw k + (gi a k + gi b k + cr) % 1000000000 * bw k := by rw [← Int.add_mul, h4]
      have e5 : (gi a k + gi b k + cr) * bw k = gi a k * bw k + gi b k * bw k + cr * bw k := by rw [Int.add_mul, Int.add_mul]
      omega
  · have hcond : (((decide ((k : Int) < (a.length : Int))) || (decide ((k : Int) < (b.length : Int)))) || (decide (0 < cr))) = false := by
      simp only [Bool.or_eq_false_iff, decide_eq_false_iff_not]; omega
    rw [hcond]
    have hz : cr = 0 := by omega
    refine Runs.some ⟨hd, by omega, ?_⟩
    rw [hz, Qjj (l := a) (by omega), Qjj (l := b) (by omega)] at hv
    have : dv c = Xa c k := by unfold dv; rw [hc]
    omega
theorem Qsa {a b : List Int} (ha : Dg a) (hb : Dg b) (hlb : b.length ≤ a.length) (hle : dv b ≤ dv a) {N : Nat} (la : a.length ≤ N) (hN : N < 100000) : Runs (Qcj a b) fun c => Dg c ∧ c.length ≤ N ∧ dv c = dv a - dv b := by
  unfold Qcj
  refine Runs.callR (R := fun c => Dg c ∧ c.length = a.length ∧ dv c = dv a - dv b) ?_ fun c hc => ?_
  · refine Runs.loop (fun s => ∃ k : Nat, s.2.2 = (k : Int) ∧ s.1.length = k ∧ Dg s.1 ∧ (0 ≤ s.2.1 ∧ s.2.1 ≤ 1) ∧ k ≤ a.length ∧ Xa s.1 k - s.2.1 * bw k = Xa a k - Xa b k) (fun s => a.length - s.2.2.toNat)
      ⟨0, rfl, rfl, Qer, by decide, Nat.zero_le _, by simp [Xa, QV]⟩ ?_
    rintro ⟨c, cr, _⟩ ⟨k, rfl, hc, hd, hcr, hk, hv⟩
    dsimp only at hc hd hcr hk hv
    unfold Qnw
    dsimp only
    by_cases hlt : k < a.length
    · have hda := ha k
      have hdb := hb k
      rw [Xi hlt, cond_true, XG hlt, Option.bind_some, Qjg b k (by omega), Option.bind_some, Q7 (x := gi a k - gi b k) (by omega), Q7 (x := gi a k - gi b k - cr) (by omega)]
      have e5 : (gi a k - gi b k - cr) * bw k = gi a k * bw k - gi b k * bw k - cr * bw k := by rw [Int.sub_mul, Int.sub_mul]
      by_cases hn : gi a k - gi b k - cr < 0
      · rw [decide_eq_true hn, cond_true, Q7 (x := gi a k - gi b k - cr + 1000000000) (by omega), Ye (by simp; omega), Option.bind_some, Xg k (by omega)]
        refine Runs.some ⟨⟨k + 1, rfl, by simp [hc], Qes hd (by omega), by dsimp only; omega, by omega, ?_⟩, by dsimp only; omega⟩
        dsimp only
        rw [Qev hc]
        show _ = (Xa a k + gi a k * bw k) - (Xa b k + gi b k * bw k)
        rw [Int.add_mul]
        simp only [bw]
        omega
      · rw [decide_eq_false hn, cond_false, Ye (by simp; omega), Option.bind_some, Xg k (by omega)]
        refine Runs.some ⟨⟨k + 1, rfl, by simp [hc], Qes hd (by omega), by dsimp only; omega, by omega, ?_⟩, by dsimp only; omega⟩
        dsimp only
        rw [Qev hc]
        show _ = (Xa a k + gi a k * bw k) - (Xa b k + gi b k * bw k)
        omega
    · obtain rfl : k = a.length := by omega
      rw [Xj]
      have h1 := Qap hd a.length
      rw [Qjj (l := b) hlb] at hv
      have e : Xa a a.length = dv a := rfl
      rw [e] at hv
      have hz : cr = 0 := by
        rcases Int.lt_or_le 0 cr with h | h
        · have : cr = 1 := by omega
          subst this
          omega
        · omega
      subst hz
      refine Runs.some ⟨hd, hc, ?_⟩
      have : dv c = Xa c a.length := by unfold dv; rw [hc]
      omega
  · rw [Qsi c (by omega), Option.bind_some]
    have h1 := Qbv c
    have h2 := Qbw c c.length
    exact Runs.some ⟨Qet hc.1, by omega, by rw [Qol]; exact hc.2.2⟩
theorem Qvg {a b : List Int} (ha : Dg a) (hb : Dg b) (ta : Tr a) (tb : Tr b) (hl : a.length < 100000) : Runs (Qel a b) fun c => (c = 0 ∧ dv a = dv b) ∨ (0 < c ∧ dv b < dv a ∧ b.length ≤ a.length) ∨ (c < 0 ∧ dv a < dv b ∧ a.length ≤ b.length) := by
  have longer : ∀ {a b : List Int}, Dg a → Dg b → Tr a → a.length ≠ b.length → b.length ≤ a.length → dv b < dv a := by
    intro a b ha hb ta hne hle
    have h1 := Qms ha ta (by omega)
    have h2 := (Qap hb b.length).2
    have e : a.length - 1 = b.length + (a.length - 1 - b.length) := by omega
    have h3 : bw b.length ≤ bw (a.length - 1) := by
      rw [e, Qje]
      have := Int.mul_le_mul_of_nonneg_left (show (1 : Int) ≤ bw (a.length - 1 - b.length) by have := JD (a.length - 1 - b.length); omega) (show (0 : Int) ≤ bw b.length by have := JD b.length; omega)
      rw [Int.mul_one] at this; exact this
    have e2 : dv b = Xa b b.length := rfl
    omega
  unfold Qel
  rw [YZ]
  by_cases hlen : a.length = b.length
  · rw [decide_eq_true hlen]
    simp only [Bool.not_true, cond_false]
    -- from the last digit on
    refine Runs.callR (R := fun o => match o with | .inl c => (0 < c ∧ dv b < dv a) ∨ (c < 0 ∧ dv a < dv b) | .inr _ => dv a = dv b) ?_ fun o ho => ?_
    · have key : ∀ k, k ≤ a.length → (∀ j, k ≤ j → gi a j = gi b j) → Runs (loop (Qci a b) ((k : Int) - 1)) fun o => match o with | .inl c => (0 < c ∧ Xa b k < Xa a k) ∨ (c < 0 ∧ Xa a k < Xa b k) | .inr _ => Xa a k = Xa b k := by
        intro k
        induction k with
        | zero =>
          intro _ _
          refine Runs.of_eq (a := .inr ()) (XR ?_) ?_
          · unfold Qci; rfl
          · rfl
        | succ k ih =>
          intro hk he
          have e1 : ((k + 1 : Nat) : Int) - 1 = (k : Int) := by omega
          rw [e1]
          have hda := ha k
          have hdb := hb k
          have l1 := Qap ha k
          have l2 := Qap hb k
          have hbp := JD k
          have u1 : Xa a (k + 1) = Xa a k + gi a k * bw k := rfl
          have u2 : Xa b (k + 1) = Xa b k + gi b k * bw k := rfl
          have st : Qci a b (k : Int) = if gi a k < gi b k then some (.inr (.inl (-1))) else if gi b k < gi a k then some (.inr (.inl 1)) else some (.inl ((k : Int) - 1)) := by
            unfold Qci
            rw [decide_eq_true (show (0 : Int) ≤ (k : Int) by omega), cond_true, XG (by omega), Option.bind_some, XG (by omega), Option.bind_some]
            by_cases h1 : gi a k < gi b k
            · rw [decide_eq_true h1, if_pos h1]; rfl
            · rw [decide_eq_false h1, if_neg h1, cond_false, Option.bind_some, Option.bind_some]
              by_cases h2 : gi b k < gi a k
              · rw [decide_eq_true h2, if_pos h2]; rfl
              · rw [decide_eq_false h2, if_neg h2, cond_false, Q7 (by omega)]
          by_cases h1 : gi a k < gi b k
          · rw [if_pos h1] at st
            refine Runs.of_eq (XR st) (.inr ⟨by decide, ?_⟩)
            have := Int.mul_le_mul_of_nonneg_right (show gi a k + 1 ≤ gi b k by omega) (show (0 : Int) ≤ bw k by omega)
            rw [Int.add_mul, Int.one_mul] at this
            omega
          · rw [if_neg h1] at st
            by_cases h2 : gi b k < gi a k
            · rw [if_pos h2] at st
              refine Runs.of_eq (XR st) (.inl ⟨by decide, ?_⟩)
              have := Int.mul_le_mul_of_nonneg_right (show gi b k + 1 ≤ gi a k by omega) (show (0 : Int) ≤ bw k by omega)
              rw [Int.add_mul, Int.one_mul] at this
              omega
            · rw [if_neg h2] at st
              rw [Yi st]
              have he2 : gi a k = gi b k := by omega
              refine Runs.mono (ih (by omega) fun j hj => by
                by_cases hjk : j = k
                · subst hjk; exact he2
                · exact he j (by omega)) fun o ho => ?_
              rw [u1, u2, he2]
              cases o with
              | inl c => dsimp only at ho ⊢; omega
              | inr _ => dsimp only at ho ⊢; omega
      have := key a.length (Nat.le_refl _) fun j hj => by rw [JZ hj, JZ (by omega)]
      rw [show w64 ((a.length : Int) - 1) = (a.length : Int) - 1 by rw [Q7 (by omega)]]
      refine Runs.mono this fun o ho => ?_
      have e2 : Xa b a.length = dv b := by rw [hlen]; rfl
      have e3 : Xa a a.length = dv a := rfl
      cases o with
      | inl c => dsimp only at ho ⊢; rw [e2, e3] at ho; exact ho
      | inr _ => dsimp only at ho ⊢; rw [e2, e3] at ho; exact ho
    · cases o with
      | inl c =>
        dsimp only at ho
        refine Runs.jl ?_
        rcases ho with h | h
        · exact .inr (.inl ⟨h.1, h.2, by omega⟩)
        · exact .inr (.inr ⟨h.1, h.2, by omega⟩)
      | inr _ => exact Runs.jr (Runs.some (.inl ⟨rfl, ho⟩))
  · rw [decide_eq_false hlen]
    refine Runs.bif_t rfl ?_
    refine Runs.bif (fun hc => ?_) fun hc => ?_
    · rw [decide_eq_true_eq] at hc
      exact Runs.some (.inr (.inr ⟨by decide, longer hb ha tb (Ne.symm hlen) (by omega), by omega⟩))
    · rw [decide_eq_false_iff_not] at hc
      exact Runs.some (.inr (.inl ⟨by decide, longer ha hb ta hlen (by omega), by omega⟩))
theorem X2 (x : Int) : (x < 0 ∧ x.sign = -1) ∨ (x = 0 ∧ x.sign = 0) ∨ (0 < x ∧ x.sign = 1) := by
  rcases Int.lt_trichotomy x 0 with h | h | h
  · exact .inl ⟨h, Int.sign_eq_neg_one_of_neg h⟩
  · exact .inr (.inl ⟨h, by rw [h]; rfl⟩)
  · exact .inr (.inr ⟨h, Int.sign_eq_one_of_pos h⟩)
theorem Qnm {N : Nat} {a : guidewaybase_Wide} {x : Int} (h : WV N a x) : Runs (Qcg a) fun c => WV N c (-x) := by
  unfold Qcg
  have hs := h.sg
  refine Runs.some ⟨h.dg, h.tr, ?_, ?_, h.ln⟩
  · show w64 (0 - a.Sign) = _
    have h1 : x.sign = 0 ∨ x.sign = 1 ∨ x.sign = -1 := by rcases X2 x with h | h | h <;> omega
    rw [hs, Int.sign_neg, Q7 (by omega)]; omega
  · show dv a.Digits = _
    rw [h.vl, Int.natAbs_neg]
theorem Qir {N : Nat} {a b : guidewaybase_Wide} {x y : Int} (ha : WV N a x) (hb : WV N b y) (hN : N < 10000) : Runs (Qaj a b) fun c => WV (N + 1) c (x + y) := by
  unfold Qaj
  have sa := ha.sg
  have sb := hb.sg
  have va := ha.vl
  have vb := hb.vl
  refine Runs.bif (fun hc => ?_) fun hc => ?_
  · rw [decide_eq_true_eq] at hc
    have : x = 0 := by rcases X2 x with h | h | h <;> omega
    subst this
    rw [Int.zero_add]; exact Runs.some (hb.mono (by omega))
  rw [decide_eq_false_iff_not] at hc
  refine Runs.bif (fun hc2 => ?_) fun hc2 => ?_
  · rw [decide_eq_true_eq] at hc2
    have : y = 0 := by rcases X2 y with h | h | h <;> omega
    subst this
    rw [Int.add_zero]; exact Runs.some (ha.mono (by omega))
  rw [decide_eq_false_iff_not] at hc2
  refine Runs.bif (fun hc3 => ?_) fun hc3 => ?_
  · rw [decide_eq_true_eq] at hc3
    refine Runs.callR (Quh ha.dg hb.dg ha.ln hb.ln (by omega)) fun l hl => ?_
    refine Runs.bind (Runs.mono (Qdz (N := N + 1) (x := x + y) hl.1 hl.2.1 (by omega) ?_ ?_) fun c hc => Runs.some hc)
    · rcases X2 x with h | h | h <;> rcases X2 y with h' | h' | h' <;> omega
    · intro _
      rcases X2 x with h | h | h <;> rcases X2 y with h' | h' | h' <;> rcases X2 (x + y) with h2 | h2 | h2 <;> omega
  rw [decide_eq_false_iff_not] at hc3
  refine Runs.callR (Qvg ha.dg hb.dg ha.tr hb.tr (by have := ha.ln; omega)) fun r hr => ?_
  refine Runs.bif (fun hc4 => ?_) fun hc4 => ?_
  · rw [decide_eq_true_eq] at hc4
    have hv : dv a.Digits = dv b.Digits := by omega
    have : x + y = 0 := by rcases X2 x with h | h | h <;> rcases X2 y with h' | h' | h' <;> omega
    rw [this]
    exact Runs.some ⟨Qer, .inl rfl, rfl, rfl, Nat.zero_le _⟩
  rw [decide_eq_false_iff_not] at hc4
  refine Runs.bif (fun hc5 => ?_) fun hc5 => ?_
  · rw [decide_eq_true_eq] at hc5
    have hv : dv b.Digits < dv a.Digits ∧ b.Digits.length ≤ a.Digits.length := by omega
    refine Runs.callR (Qsa ha.dg hb.dg hv.2 (by omega) (N := N) ha.ln (by omega)) fun l hl => ?_
    refine Runs.bind (Runs.mono (Qdz (N := N + 1) (x := x + y) hl.1 (by omega) (by omega) ?_ ?_) fun c hc => Runs.some hc)
    · rcases X2 x with h | h | h <;> rcases X2 y with h' | h' | h' <;> omega
    · intro _
      rcases X2 x with h | h | h <;> rcases X2 y with h' | h' | h' <;> rcases X2 (x + y) with h2 | h2 | h2 <;> omega
  · rw [decide_eq_false_iff_not] at hc5
    have hv : dv a.Digits < dv b.Digits ∧ a.Digits.length ≤ b.Digits.length := by omega
    refine Runs.callR (Qsa hb.dg ha.dg hv.2 (by omega) (N := N) hb.ln (by omega)) fun l hl => ?_
    refine Runs.bind (Runs.mono (Qdz (N := N + 1) (x := x + y) hl.1 (by omega) (by omega) ?_ ?_) fun c hc => Runs.some hc)
    · rcases X2 x with h | h | h <;> rcases X2 y with h' | h' | h' <;> omega
    · intro _
      rcases X2 x with h | h | h <;> rcases X2 y with h' | h' | h' <;> rcases X2 (x + y) with h2 | h2 | h2 <;> omega
theorem Qnn {N : Nat} {a b : guidewaybase_Wide} {x y : Int} (ha : WV N a x) (hb : WV N b y) (hN : N < 10000) : Runs (Qch a b) fun c => WV (N + 1) c (x - y) := by
  unfold Qch
  refine Runs.callR (Qnm hb) fun c hc => ?_
  refine Runs.bind (Runs.mono (Qir ha hc hN) fun d hd => Runs.some ?_)
  rw [Int.sub_eq_add_neg]; exact hd
theorem Qis {N : Nat} {a : guidewaybase_Wide} {x : Int} (h : WV N a x) : Qak a = some (Int.sign x) := by unfold Qak; rw [h.sg]
theorem Quf {N : Nat} {a b : guidewaybase_Wide} {x y : Int} (ha : WV N a x) (hb : WV N b y) (hN : N < 10000) : Qej a b = some (Int.sign (x - y)) := by
  refine Runs.eq ?_
  unfold Qej
  exact Runs.callR (Qnn ha hb hN) fun c hc => Runs.some hc.sg
end Go.Gw

end
