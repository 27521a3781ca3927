/- Laws of the walk. Condition: each theorem says its own. -/
import Derived.Test.YtglaeocolbnpdaaGreatGwPl2
section
set_option maxRecDepth 4096
set_option linter.unusedSimpArgs false
set_option linter.unusedVariables false
namespace Go.Gw
open Go

/-! ### What a map takes from a form -/
def YW (p : LevitatePlant) (m : Nat) (f : List (List Int)) (i k : Nat) : Int := Q0 (fun a => ge p m a i * Q0 (fun b => g2 f a b * ge p m b k) p.Noise.length) p.Noise.length
def dI (p : LevitatePlant) (m : Nat) (f : List (List Int)) (r : Arr2_Int) (i k : Nat) : Int := r.e0 * p.Den * p.Den * g2 f i k - r.e1 * YW p m f i k
def dM (p : LevitatePlant) (m : Nat) (f : List (List Int)) (r : Arr2_Int) : List (List Int) := Qav p.Noise.length (dI p m f r)
structure Rr (r : Arr2_Int) : Prop where
  e1 : 1 ≤ r.e1 ∧ r.e1 ≤ 1000
  e0 : 0 ≤ r.e0 ∧ r.e0 ≤ r.e1
theorem Qkv {p : LevitatePlant} (h : Rp p) {m : Nat} (hm : m < p.Maps.length) {f : List (List Int)} (hb : Bd p.Noise.length f 10000) {i k : Nat} (hi : i < p.Noise.length) (hk : k < p.Noise.length) : -90000000000 ≤ YW p m f i k ∧ YW p m f i k ≤ 90000000000 := by
  have := Qen (t := fun a => ge p m a i * Q0 (fun b => g2 f a b * ge p m b k) p.Noise.length) (B := 1000 * (3 * (10000 * 1000))) h.n3 (by decide) fun a ha => XG (h.ge_b hm ha hi) (Qen h.n3 (by decide) fun b hb' => XG (hb a b ha hb') (h.ge_b hm hb' hk))
  unfold YW; omega
theorem rdd {p : LevitatePlant} (h : Rp p) {r : Arr2_Int} (hr : Rr r) : -1000000 ≤ r.e0 * p.Den ∧ r.e0 * p.Den ≤ 1000000 ∧ -1000000000 ≤ r.e0 * p.Den * p.Den ∧ r.e0 * p.Den * p.Den ≤ 1000000000 := by
  have hd := h.den
  have h0 := hr.e0; have h1 := hr.e1
  have a1 := XG (a := r.e0) (b := p.Den) (A := 1000) (B := 1000) (by omega) (by omega)
  have a2 := XG (a := r.e0 * p.Den) (b := p.Den) (A := 1000000) (B := 1000) (by omega) (by omega)
  omega
theorem Qfh {p : LevitatePlant} (h : Rp p) {m : Nat} (hm : m < p.Maps.length) {f : List (List Int)} (hb : Bd p.Noise.length f 10000) {r : Arr2_Int} (hr : Rr r) {i k : Nat} (hi : i < p.Noise.length) (hk : k < p.Noise.length) :
    (-10000000000000 ≤ r.e0 * p.Den * p.Den * g2 f i k ∧ r.e0 * p.Den * p.Den * g2 f i k ≤ 10000000000000) ∧ (-90000000000000 ≤ r.e1 * YW p m f i k ∧ r.e1 * YW p m f i k ≤ 90000000000000) := by
  have hx := rdd h hr
  have a3 := XG (a := r.e0 * p.Den * p.Den) (A := 1000000000) (by omega) (hb i k hi hk)
  have a4 := XG (a := r.e1) (A := 1000) (by have := hr.e1; omega) (Qkv h hm hb hi hk)
  omega
theorem Qpx {p : LevitatePlant} (h : Rp p) {m : Nat} (hm : m < p.Maps.length) {k : Nat} (hk : k < p.Noise.length) : Qdx (k : Int) (gm p m) = some (Zw p.Noise.length fun a => ge p m a k) := by
  unfold Qdx
  have hl := h.sq _ (J0 hm)
  have h3 := h.n3
  have : loop (Qgx (gm p m) (k : Int)) ([], 0) = some (Zw p.Noise.length fun a => ge p m a k) := by
    refine JE p.Noise.length (fun a => ge p m a k) (fun a ha acc hacc => ?_) (fun acc => ?_)
    · unfold Qgx
      dsimp only
      rw [hl, Xm ha, cond_true, Zt (by rw [hl]; exact ha), Qq, XO (by rw [h.row_len hm ha]; exact hk), Qq, Yh (by simp [hacc]; omega), Qq, Xk a (by omega)]; rfl
    · unfold Qgx
      dsimp only
      rw [hl, Xn]; rfl
  rw [this]; rfl
theorem Qyj {p : LevitatePlant} (h : Rp p) {m : Nat} (hm : m < p.Maps.length) {f : List (List Int)} (hf : Sq p.Noise.length f) (hb : Bd p.Noise.length f 10000) {r : Arr2_Int} (hr : Rr r) :
    Qdy ⟨p⟩ (m : Int) f r = some (YL p.Noise.length (dM p m f r)) := by
  unfold Qdy
  have h3 := h.n3
  rw [Qfq hm, Qq]
  have hx := rdd h hr
  have him : ∀ i k, i < p.Noise.length → k < p.Noise.length → loop (Qgy (gm p m) f (i : Int) (k : Int)) (0, 0) = some (YW p m f i k) := by
    intro i k hi hk
    rw [Qhg p.Noise.length (fun a => ge p m a i * Q0 (fun b => g2 f a b * ge p m b k) p.Noise.length)]
    · have := Qkv h hm hb hi hk
      rw [Xa (by unfold YW at this; omega)]; rfl
    · intro a ha acc
      unfold Qgy
      dsimp only
      rw [hf.len, Xm ha, cond_true, Zt (by rw [hf.len]; exact ha), Qq, Qpx h hm hi, Qq, XO (by rw [Qaw]; exact ha), Qq, Qpx h hm hk, Qq,
        Qkg (by rw [hf.row a ha, Qaw]; omega) (by rw [hf.row a ha]; omega), Qq, Jt, hf.row a ha, Qbo ha, Xk a (by omega)]
      congr 3
      rw [← Jt, Qtn, Jt]
      congr 3
      exact Qau fun b hb' => by rw [Qbo hb']; rfl
    · intro acc
      unfold Qgy
      dsimp only
      rw [hf.len, Xn]; rfl
  have hd : loop (Qha (gm p m) ⟨p⟩ r f) ([], 0) = some (dM p m f r) := by
    refine JE p.Noise.length (fun i => Zw p.Noise.length (dI p m f r i)) (fun i hi acc hacc => ?_) (fun acc => ?_)
    · unfold Qha
      dsimp only
      rw [hf.len, Xm hi, cond_true, Zt (by rw [hf.len]; exact hi), Qq]
      have hrow : loop (Qgz (gm p m) (gr f i) ⟨p⟩ r f (i : Int)) ([], 0) = some (Zw p.Noise.length (dI p m f r i)) := by
        refine JE p.Noise.length (dI p m f r i) (fun k hk acc2 hacc2 => ?_) (fun acc2 => ?_)
        · unfold Qgz
          dsimp only
          have hb2 := Qfh h hm hb hr hi hk
          rw [hf.row i hi, Xm hk, cond_true, XO (by rw [hf.row i hi]; exact hk), Qq, him i k hi hk, Qq]
          rw [Xa (x := r.e0 * p.Den) (by omega), Xa (x := r.e0 * p.Den * p.Den) (by omega)]
          change Option.bind (XM acc2 [w64 (w64 (r.e0 * p.Den * p.Den * g2 f i k) - w64 (r.e1 * YW p m f i k))]) _ = _
          rw [Xa (x := r.e0 * p.Den * p.Den * g2 f i k) (by omega), Xa (x := r.e1 * YW p m f i k) (by omega), Xa (by omega), Yh (by simp [hacc2]; omega), Qq, Xk k (by omega)]; rfl
        · unfold Qgz
          dsimp only
          rw [hf.row i hi, Xn]; rfl
      rw [hrow, Qq, Yh (by simp [hacc]; omega), Qq, Xk i (by omega)]
    · unfold Qha
      dsimp only
      rw [hf.len, Xn]; rfl
  rw [hd, Qq, QAo (d := dM p m f r) h.n1 h3 (Qsy _ _) (fun i k hi hk => by
    unfold dM; rw [Qdn hi hk]
    have := Qfh h hm hb hr hi hk
    unfold dI; omega)]; rfl

/-! ### What proves -/
def ZJ (r : Arr2_Int) : Bool := (decide (1 ≤ r.e1) && decide (r.e1 ≤ 1000)) && (decide (0 ≤ r.e0) && decide (r.e0 ≤ r.e1))
theorem rateB_iff {r : Arr2_Int} : ZJ r = true ↔ Rr r := by
  unfold ZJ
  simp only [Bool.and_eq_true, decide_eq_true_eq]
  exact ⟨fun h => ⟨h.1, h.2⟩, fun h => ⟨h.e1, h.e0⟩⟩
def Jk (p : LevitatePlant) (f : List (List Int)) (r : Arr2_Int) : Option Nat := fs (fun m _ => if YL p.Noise.length (dM p m f r) then none else some m) 0 p.Maps
def ZH (p : LevitatePlant) (f : List (List Int)) (r : Arr2_Int) : Int × Int :=
  if ZJ r then (if Yn f then (match Jk p f r with | some m => ((m : Int), 24) | none => (0, 0)) else (0, 20)) else (0, 2)
theorem Qsm (p : LevitatePlant) (f : List (List Int)) (h : Sh p) (hl : f.length < 1073741824) : Qdv p f = some (⟨p⟩, if (X1 p).2 = 0 then (if Zk f = 0 then (if f.length = p.Noise.length then 0 else 13) else Zk f) else (X1 p).2) := by
  unfold Qdv
  simp only [Qme p h, Qq, Qzv f hl, Y9, Qxm, Y7]
  by_cases h1 : (X1 p).2 = 0 <;> by_cases h2 : Zk f = 0 <;> by_cases h3 : f.length = p.Noise.length <;> simp [h1, h2, h3]
theorem Qnd {p : LevitatePlant} (h : Rp p) {f : List (List Int)} (hf : Rf f) (hn : f.length = p.Noise.length) (r : Arr2_Int) : Qan p f r = some (⟨p⟩, ZH p f r) := by
  unfold Qan
  have h3 := h.n3
  have hsq : Sq p.Noise.length f := by rw [← hn]; exact hf.sq
  have hbd : Bd p.Noise.length f 10000 := by rw [← hn]; exact hf.bd
  rw [Qsm p f h.sh (by omega)]
  simp only [Qq, h.ck, frmE_right.2 hf, hn, if_true, JG]
  have e : ∀ b c : Bool, (bif b then some c else some default) = some (b && c) := by intro b c; cases b <;> rfl
  simp only [e, Qq, Y9, ZB, if_true]
  have e2 : ((decide (1 ≤ r.e1) && decide (r.e1 ≤ 1000)) && ((decide (1 ≤ r.e1) && decide (r.e1 ≤ 1000)) && (decide (0 ≤ r.e0) && decide (r.e0 ≤ r.e1)))) = ZJ r := by
    unfold ZJ; cases (decide (1 ≤ r.e1) && decide (r.e1 ≤ 1000)) <;> rfl
  rw [e2]
  unfold ZH
  cases hr : ZJ r with
  | false => simp
  | true =>
    have hrr := rateB_iff.1 hr
    have hp := QDd hf.sq hf.n3 (hf.bd.mono (by decide))
    simp only [cond_true, decide_true, hp, Qq, Y9, if_true]
    cases hpos : Yn f with
    | false => simp
    | true =>
      have hloop : loop (Qhe f p r (⟨p⟩, 0)) 0 = some (oi ((Jk p f r).map fun m : Nat => ((⟨p⟩, (m : Int), 24) : levitate_plant × Int × Int))) := by
        rw [Ya p.Maps (fun m _ => (if YL p.Noise.length (dM p m f r) then none else some m).map fun m : Nat => ((⟨p⟩, (m : Int), 24) : levitate_plant × Int × Int))]
        · rw [J4 (fun m : Nat => ((⟨p⟩, (m : Int), 24) : levitate_plant × Int × Int)) (fun m _ => if YL p.Noise.length (dM p m f r) then none else some m)]; rfl
        · intro m hm
          unfold Qhe
          rw [Xm hm, cond_true]
          change Option.bind (Qdy ⟨p⟩ (m : Int) f r) _ = _
          rw [Qyj h hm hsq hbd hrr, Qq, Xk m (by have := h.m4; omega)]
          cases YL p.Noise.length (dM p m f r) <;> rfl
        · unfold Qhe
          rw [Xn]; rfl
      simp only [cond_true, decide_true, Bool.not_true, cond_false, if_true]
      rw [hloop]
      cases Jk p f r <;> rfl

/-! ### Levels -/
def YT (level worst : Int) (r : Arr2_Int) : Bool :=
  decide (0 ≤ (r.e1 - r.e0) * level - r.e1 * worst) && decide (4 * r.e0 * r.e1 * level * worst ≤ ((r.e1 - r.e0) * level - r.e1 * worst) * ((r.e1 - r.e0) * level - r.e1 * worst))
theorem Qqs {level worst : Int} {r : Arr2_Int} (hr : Rr r) (hl : 0 ≤ level ∧ level ≤ 100000000000000) (hw : -9002000000000000 ≤ worst ∧ worst ≤ 9002000000000000) : Qdt level worst r = some (YT level worst r) := by
  unfold Qdt
  have h0 := hr.e0; have h1 := hr.e1
  have a1 := XG (a := r.e1 - r.e0) (b := level) (A := 1000) (B := 100000000000000) (by omega) (by omega)
  have a2 := XG (a := r.e1) (b := worst) (A := 1000) (B := 9002000000000000) (by omega) (by omega)
  have a3 := XG (a := 4 * r.e0) (b := r.e1) (A := 4000) (B := 1000) (by omega) (by omega)
  have a4 := XG (a := 4 * r.e0 * r.e1) (b := level) (A := 4000000) (B := 100000000000000) (by omega) (by omega)
  have a5 := XG (a := 4 * r.e0 * r.e1 * level) (b := worst) (A := 400000000000000000000) (B := 9002000000000000) (by omega) (by omega)
  rw [Xa (x := r.e1 - r.e0) (by omega), Zo (by omega), Qq, Zo (n := level) (by omega), Qq, Jr, Qq, Zo (n := r.e1) (by omega), Qq, Zo (n := worst) (by omega), Qq, Jr, Qq, Qag, Qq, Qq]
  have eta : ∀ x : Int, Arr3_U64.mk (Q7 x).e0 (Q7 x).e1 (Q7 x).e2 = Q7 x := fun _ => rfl
  dsimp only
  rw [eta]
  rw [Xa (x := 4 * r.e0) (by omega), Xa (x := 4 * r.e0 * r.e1) (by omega), Zo (n := 4 * r.e0 * r.e1) (by omega)]
  generalize hA : (r.e1 - r.e0) * level - r.e1 * worst = A
  have hA1 : -10000000000000000000 ≤ A ∧ A ≤ 10000000000000000000 := by omega
  have a6 := XG hA1 hA1
  simp only [Qfe (x := A) (by omega), Qq, Zo (n := level) (show -9223372036854775808 ≤ level ∧ level ≤ 9223372036854775807 by omega), Zo (n := worst) (show -9223372036854775808 ≤ worst ∧ worst ≤ 9223372036854775807 by omega), Jr, Qag]
  rw [Qfe (by omega)]
  unfold YT
  rw [hA]
  generalize 4 * r.e0 * r.e1 * level * worst = B
  generalize A * A = C
  by_cases h4 : A < 0
  · have : ¬ 0 ≤ A := by omega
    simp [h4, this]
  · have : 0 ≤ A := by omega
    by_cases h5 : C - B < 0
    · have : ¬ B ≤ C := by omega
      simp [h4, *]
    · have : B ≤ C := by omega
      simp [h4, *]

/-! ### The least number -/
theorem Qqv {step : (Int × Int) → Option ((Int × Int) ⊕ Int)} (P : Int → Bool) (most : Int) (h0 : 0 ≤ most) (hm : most ≤ 1000000000000000)
    (hs : ∀ lo hi, -1 ≤ lo → lo < hi → hi ≤ most + 1 → 1 < hi - lo → step (lo, hi) = some (.inl (if P (lo + (hi - lo) / 2) then (lo, lo + (hi - lo) / 2) else (lo + (hi - lo) / 2, hi))))
    (he : ∀ lo hi, -1 ≤ lo → lo < hi → hi ≤ most + 1 → ¬ 1 < hi - lo → step (lo, hi) = some (.inr hi)) :
    Runs (loop step (-1, w64 (most + 1))) fun hi => 0 ≤ hi ∧ hi ≤ most + 1 ∧ (hi ≤ most → P hi = true) ∧ (0 < hi → P (hi - 1) = false) := by
  rw [Xa (by omega)]
  refine Runs.loop (fun s => -1 ≤ s.1 ∧ s.1 < s.2 ∧ s.2 ≤ most + 1 ∧ (s.2 ≤ most → P s.2 = true) ∧ (0 ≤ s.1 → P s.1 = false)) (fun s => (s.2 - s.1).toNat) ⟨by omega, by show (-1 : Int) < most + 1; omega, by show most + 1 ≤ most + 1; omega, fun h => by exfalso; change most + 1 ≤ most at h; omega, fun h => by exfalso; change (0 : Int) ≤ -1 at h; omega⟩ ?_
  rintro ⟨lo, hi⟩ ⟨h1, h2, h3, h4, h5⟩
  dsimp only at h1 h2 h3 h4 h5
  by_cases hd : 1 < hi - lo
  · rw [hs lo hi h1 h2 h3 hd]
    refine Runs.some ?_
    cases hp : P (lo + (hi - lo) / 2) with
    | true =>
      rw [if_pos rfl]
      refine ⟨⟨h1, by dsimp only; omega, by dsimp only; omega, fun _ => hp, h5⟩, ?_⟩
      dsimp only; omega
    | false =>
      rw [if_neg (by simp)]
      refine ⟨⟨by dsimp only; omega, by dsimp only; omega, h3, h4, fun _ => hp⟩, ?_⟩
      dsimp only; omega
  · rw [he lo hi h1 h2 h3 hd]
    refine Runs.some ⟨by omega, h3, h4, fun h => ?_⟩
    have : hi - 1 = lo := by omega
    rw [this]; exact h5 (by omega)
theorem Qhj {lo hi most : Int} (h1 : -1 ≤ lo) (h2 : lo < hi) (h3 : hi ≤ most + 1) (hm : most ≤ 1000000000000000) : w64 (hi - lo) = hi - lo ∧ w64 (lo + (w64 (Int.tdiv (hi - lo) 2))) = lo + (hi - lo) / 2 := by
  have e1 : w64 (hi - lo) = hi - lo := Xa (by omega)
  have e2 : Int.tdiv (hi - lo) 2 = (hi - lo) / 2 := Int.tdiv_eq_ediv_of_nonneg (by omega)
  refine ⟨e1, ?_⟩
  rw [e2, Xa (x := (hi - lo) / 2) (by omega), Xa (by omega)]
theorem Qyg {worst : Int} {r : Arr2_Int} (hr : Rr r) (hw : -9002000000000000 ≤ worst ∧ worst ≤ 9002000000000000) : Runs (Qgq 100000000000000 worst r) fun q => 0 ≤ q.1 ∧ q.1 ≤ 100000000000001 ∧ (q.1 ≤ 100000000000000 → YT q.1 worst r = true) ∧ (0 < q.1 → YT (q.1 - 1) worst r = false) ∧ q.2 = decide (q.1 ≤ 100000000000000) := by
  unfold Qgq
  refine Runs.callR (Qqv (fun n => YT n worst r) 100000000000000 (by decide) (by decide) (fun lo hi h1 h2 h3 hd => ?_) (fun lo hi h1 h2 h3 hd => ?_)) fun hi hh => Runs.some ⟨hh.1, hh.2.1, hh.2.2.1, hh.2.2.2, rfl⟩
  · unfold Qln
    dsimp only
    have hm := Qhj h1 h2 h3 (by decide)
    rw [hm.1, hm.2, decide_eq_true hd, cond_true]
    unfold Qlc
    rw [Qqs hr (by omega) hw, Qq, Qq]
    cases YT (lo + (hi - lo) / 2) worst r <;> rfl
  · unfold Qln
    dsimp only
    have hm := Qhj h1 h2 h3 (by decide)
    rw [hm.1, decide_eq_false hd]; rfl

/-! ### Bounds -/
/-! ### Proofs -/
theorem QDg {p : LevitatePlant} {f : List (List Int)} {r : Arr2_Int} (h : (ZH p f r).2 = 0) : Rr r := by
  unfold ZH at h
  cases hr : ZJ r with
  | true => exact rateB_iff.1 hr
  | false => simp [hr] at h
end Go.Gw

end
section
set_option maxRecDepth 4096
set_option linter.unusedSimpArgs false
set_option linter.unusedVariables false
namespace Go.Gw
open Go

theorem Qzy {α β : Type} {step : (Int × List β) → Option ((Int × List β) ⊕ List β)} (xs : List α) (g : α → β)
    (hs : ∀ k (hk : k < xs.length) (acc : List β), acc.length = k → step ((k : Int), acc) = some (.inl (((k + 1 : Nat) : Int), acc ++ [g xs[k]]))) (he : ∀ acc, step ((xs.length : Int), acc) = some (.inr acc)) :
    loop step (0, []) = some (xs.map g) := by
  have key : ∀ k, k ≤ xs.length → loop step (0, []) = loop step ((k : Int), (xs.take k).map g) := by
    intro k
    induction k with
    | zero => intro _; rfl
    | succ k ih =>
      intro hk
      rw [ih (by omega)]
      refine (YC (hs k (by omega) _ (by simp; omega))).trans ?_
      have e : (xs.take (k + 1)).map g = (xs.take k).map g ++ [g xs[k]] := by rw [List.take_succ_eq_append_getElem (by omega), List.map_append]; rfl
      rw [e]
  rw [key _ (Nat.le_refl _), List.take_length]
  exact XZ (he _)
theorem Qjk (l : List Int) (h : l.length ≤ 1073741824) : Qab l = some l := by
  unfold Qab; rw [Yh (by simpa using h)]; simp
theorem Qos (l : List (List Int)) (h : l.length ≤ 1073741824) (hr : ∀ r ∈ l, r.length ≤ 1073741824) : Qcx l = some l := by
  unfold Qcx
  rw [Qmd l id]
  · simp
  · intro k hk acc hacc
    unfold Qjv
    dsimp only
    rw [Xm hk, cond_true, XI hk, Qq, Qjk _ (hr _ (List.getElem_mem hk)), Qq, Yh (by simp [hacc]; omega), Qq, Xk k (by omega)]; rfl
  · intro acc
    unfold Qjv
    dsimp only
    rw [Xn]; rfl
theorem Quk (p : LevitatePlant) (h : Sh p) : Qic p = some p := by
  unfold Qic
  rw [Qjk _ (by have := h.noise; omega), Qq, Qzy p.Maps id]
  · simp
  · intro k hk acc hacc
    unfold Qnj
    dsimp only
    have hm := List.getElem_mem hk
    rw [Xm hk, cond_true, XI hk, Qq, Qos _ (by have := h.rows _ hm; omega) (fun r hr => by have := h.row _ hm _ hr; omega), Qq, Yh (by simp [hacc]; have := h.maps; omega), Qq, Xk k (by have := h.maps; omega)]; rfl
  · intro acc
    unfold Qnj
    dsimp only
    rw [Xn]; rfl
theorem Qjl (a b : List Int) (h : a.length < 1073741824) : Qbd a b = some (decide (a = b)) := by
  unfold Qbd
  rw [Y7]
  by_cases hl : a.length = b.length
  · rw [Ya a (fun k x => if gi b k = x then none else some false)]
    · simp only [hl, decide_true, Bool.not_true, cond_false, Qq]
      cases hf : fs (fun k x => if gi b k = x then none else some false) 0 a with
      | none =>
        rw [fs_none] at hf
        have : a = b := Qro hl fun k hk => by
          have := hf k hk
          simp only [Nat.zero_add] at this
          split at this
          · rename_i e; rw [← Zl hk]; exact e.symm
          · cases this
        simp [oi, Xt, this]
      | some r =>
        obtain ⟨k, hk, h1⟩ := ZP hf
        simp only [Nat.zero_add] at h1
        split at h1
        · cases h1
        · rename_i e
          cases h1
          have : ¬ a = b := fun e2 => by subst e2; exact e (Zl hk).symm
          simp [oi, Xt, this]
    · intro k hk
      unfold Qjx
      rw [Xm hk, cond_true, XI hk, Qq, XO (by omega), Qq, Xk k (by omega)]
      by_cases e : gi b k = a[k]
      · simp [e, XS]
      · have e' : ¬ a[k] = gi b k := fun h => e h.symm
        simp [e, e', XS]
    · unfold Qjx
      rw [Xn]; rfl
  · have : ¬ a = b := fun e => hl (by rw [e])
    simp [hl, this]

/-! ### Which plants have few parts -/
theorem Qul (p : LevitatePlant) : Runs (Qfx p) fun b => b = true → p.Noise.length ≤ 5 ∧ p.Maps.length ≤ 6 ∧ ∀ m ∈ p.Maps, m.length ≤ 5 ∧ ∀ r ∈ m, r.length ≤ 5 := by
  unfold Qfx
  by_cases h1 : 5 < (p.Noise.length : Int)
  · rw [decide_eq_true h1]; exact Runs.some fun h => by cases h
  · by_cases h2 : 6 < (p.Maps.length : Int)
    · rw [decide_eq_true h2, decide_eq_false h1]; exact Runs.some fun h => by cases h
    · rw [decide_eq_false h1, decide_eq_false h2]
      simp only [Bool.or_self, cond_false]
      have hl : loop (Qfw p) 0 = some (oi (fs (fun _ (m : List (List Int)) => if m.length ≤ 5 ∧ m.all (fun r => decide (r.length ≤ 5)) then none else some false) 0 p.Maps)) := by
        refine Ya p.Maps _ (fun k hk => ?_) ?_
        · unfold Qfw
          rw [Xm hk, cond_true, XI hk, Qq]
          by_cases h3 : 5 < (p.Maps[k].length : Int)
          · have : ¬ p.Maps[k].length ≤ 5 := by omega
            simp [h3, this, XS]
          · have h3' : p.Maps[k].length ≤ 5 := by omega
            rw [decide_eq_false h3, cond_false]
            have hin : loop (Qfv p (k : Int)) 0 = some (oi (if p.Maps[k].all (fun r => decide (r.length ≤ 5)) then none else some (.inr (.inl false) : Int ⊕ (Bool ⊕ Unit)))) := by
              rw [Ya p.Maps[k] (fun _ r => if decide (r.length ≤ 5) then none else some (.inr (.inl false) : Int ⊕ (Bool ⊕ Unit)))]
              · have : ∀ (l : List (List Int)) t, fs (fun _ r => if decide (r.length ≤ 5) then none else some (.inr (.inl false) : Int ⊕ (Bool ⊕ Unit))) t l = if l.all (fun r => decide (r.length ≤ 5)) then none else some (.inr (.inl false)) := by
                  intro l
                  induction l with
                  | nil => intro t; rfl
                  | cons y ys ih =>
                    intro t
                    by_cases hy : y.length ≤ 5
                    · simp [fs, hy]; simpa using ih (t + 1)
                    · simp [fs, hy]
                rw [this]
              · intro i hi
                unfold Qfv
                rw [XI hk, Qq, Xm hi, cond_true, Qq, XI hi, Qq, Xk i (by omega)]
                by_cases h4 : 5 < (p.Maps[k][i].length : Int)
                · have : ¬ p.Maps[k][i].length ≤ 5 := by omega
                  simp [h4, this, XS]
                · have : p.Maps[k][i].length ≤ 5 := by omega
                  simp [h4, this, XS]
              · unfold Qfv
                rw [XI hk, Qq, Xn]; rfl
            rw [hin, Qq, Xk k (by omega)]
            cases h5 : p.Maps[k].all (fun r => decide (r.length ≤ 5)) <;> simp [h3', XS, oi, Xt]
        · unfold Qfw
          rw [Xn]; rfl
      rw [hl]
      cases hf : fs (fun _ (m : List (List Int)) => if m.length ≤ 5 ∧ m.all (fun r => decide (r.length ≤ 5)) then none else some false) 0 p.Maps with
      | some r =>
        obtain ⟨k, hk, h6⟩ := ZP hf
        split at h6
        · cases h6
        · cases h6; exact Runs.some fun h => by cases h
      | none =>
        refine Runs.some fun _ => ⟨by omega, by omega, fun m hm => ?_⟩
        rw [fs_none] at hf
        obtain ⟨k, hk, rfl⟩ := List.getElem_of_mem hm
        have := hf k hk
        split at this
        · rename_i h7
          exact ⟨h7.1, fun r hr => by simpa using List.all_eq_true.1 h7.2 r hr⟩
        · cases this
theorem QFf {p : LevitatePlant} (h : p.Noise.length ≤ 5 ∧ p.Maps.length ≤ 6 ∧ ∀ m ∈ p.Maps, m.length ≤ 5 ∧ ∀ r ∈ m, r.length ≤ 5) : Sh p :=
  ⟨by omega, by omega, fun m hm => by have := (h.2.2 m hm).1; omega, fun m hm r hr => by have := (h.2.2 m hm).2 r hr; omega⟩
/-! ### The opposite order -/
/-! ### The example -/
def Zr : LevitatePlant := ⟨10, [[[5, 0], [2, 4]]], [3, 1]⟩
def exF : List (List Int) := [[1, 0], [0, 1]]
theorem exP_right : Rp Zr := ckP_right.1 (by decide)
theorem exF_right : Rf exF := frmE_right.1 (by decide)
theorem Qxg : Qbr Zr [0, 0] = some ([6, 4], 0) := by
  obtain ⟨r, hr, h1⟩ := Qxw exP_right (bxE_right.1 (by decide) : Bx Zr [0, 0])
  rw [hr]; congr 1
  refine h1.eq (.inl ⟨rfl, rfl, by decide, by decide, (show ∀ m, m < 1 → ∀ i, i < 2 → YF Zr m i [6, 4] ≤ gi [6, 4] i from by decide), ?_⟩)
  intro K hK hs k hk
  have a0 := hK 0 (by decide) 0 (by decide)
  have a1 := hK 0 (by decide) 1 (by decide)
  have s0 := hs 0 (by decide)
  have s1 := hs 1 (by decide)
  have e0 : YF Zr 0 0 K = (0 + 5 * gi K 0 + 0 * gi K 1 + 10 - 1) / 10 + 3 := rfl
  have e1 : YF Zr 0 1 K = (0 + 2 * gi K 0 + 4 * gi K 1 + 10 - 1) / 10 + 1 := rfl
  rw [e0] at a0
  rw [e1] at a1
  change (0 : Int) ≤ gi K 0 at s0
  change (0 : Int) ≤ gi K 1 at s1
  match k, hk with
  | 0, _ => show (6 : Int) ≤ gi K 0; omega
  | 1, _ => show (4 : Int) ≤ gi K 1; omega
theorem Qxi (q : Int) : YT q 20 ⟨1, 2⟩ = decide (234 ≤ q) := by
  unfold YT
  have e1 : (2 - 1) * q - 2 * 20 = q - 40 := by omega
  have e2 : 4 * 1 * 2 * q * 20 = 160 * q := by omega
  have e3 : (q - 40) * (q - 40) = q * q - 80 * q + 1600 := by grind
  rw [e1, e2, e3]
  rw [Bool.eq_iff_iff]
  simp only [Bool.and_eq_true, decide_eq_true_eq]
  constructor
  · rintro ⟨h1, h2⟩
    apply Classical.byContradiction
    intro h3
    have h4 : 0 ≤ (q - 40) * (233 - q) := Int.mul_nonneg (by omega) (by omega)
    have h5 : (q - 40) * (233 - q) = 273 * q - q * q - 9320 := by grind
    omega
  · intro h
    have h4 : 0 ≤ (q - 234) * (q - 6) := Int.mul_nonneg (by omega) (by omega)
    have h5 : (q - 234) * (q - 6) = q * q - 240 * q + 1404 := by grind
    exact ⟨by omega, by omega⟩
theorem Qxj : Qdr Zr exF ⟨1, 2⟩ = some (234, 0) := by
  unfold Qdr
  rw [Qnd exP_right exF_right rfl]
  have e : ZH Zr exF ⟨1, 2⟩ = (0, 0) := by decide
  rw [e]
  simp only [Qq, decide_true, Bool.not_true, cond_false]
  change Option.bind (Qam ⟨Zr⟩ exF) _ = _
  rw [Qtt exP_right exF_right.sq exF_right.bd, Qq, show Y5 Zr exF = 20 by decide]
  obtain ⟨q, hq, h1, h2, h3, h4, h5⟩ := Qyg (worst := 20) (r := ⟨1, 2⟩) ⟨by decide, by decide⟩ (by decide)
  rw [hq, Qq]
  rw [Qxi] at h3 h4
  have : q.1 = 234 := by
    simp only [decide_eq_true_eq, decide_eq_false_iff_not] at h3 h4
    omega
  rw [h5, this]; rfl
end Go.Gw

end
section
set_option maxRecDepth 8192
set_option linter.unusedSimpArgs false
set_option linter.unusedVariables false
namespace Go.Gw
open Go

/-! ### Division downwards -/
theorem Qrv {n b : Int} (hb : 1 ≤ b) : -((-n + b - 1) / b) = n / b := by
  have h1 := Int.mul_ediv_add_emod n b
  have h2 := Int.emod_nonneg n (show b ≠ 0 by omega)
  have h3 := Int.emod_lt_of_pos n (show 0 < b by omega)
  have : (-n + b - 1) / b = -(n / b) := by
    rw [show -n + b - 1 = (b - 1 - n % b) + b * (-(n / b)) by rw [Int.mul_neg]; omega, Int.add_mul_ediv_left _ _ (by omega), Int.ediv_eq_zero_of_lt (by omega) (by omega)]; omega
  omega
theorem Qqc {n b : Int} (hb : 1 ≤ b) {M : Int} (h : -M ≤ n ∧ n ≤ M) : -M ≤ n / b ∧ n / b ≤ M := by
  by_cases h0 : 0 ≤ n
  · have h1 : 0 ≤ n / b := Int.ediv_nonneg h0 (by omega)
    have h2 : n / b ≤ n := Int.ediv_le_self _ h0
    omega
  · have h1 : n / b < 0 := Int.ediv_neg_of_neg_of_pos (by omega) (by omega)
    have h2 := Qrv (n := n) hb
    have h3 : (-n + b - 1) / b ≤ -n := by
      apply Int.ediv_le_of_le_mul (by omega)
      have : 0 ≤ (-n - 1) * (b - 1) := Int.mul_nonneg (by omega) (by omega)
      have e : (-n - 1) * (b - 1) = -n * b + n - b + 1 := by grind
      omega
    omega
theorem Qzu {n b : Int} (h : -4000000000000000000 ≤ n ∧ n ≤ 4000000000000000000) (h2 : 1 ≤ b) (h3 : b ≤ 4000000000000000000) : Qaj n b = some (n / b) := by
  unfold Qaj
  by_cases hn : n < 0
  · rw [decide_eq_true hn, cond_true, show w64 (0 - n) = -n by rw [Xa (by omega)]; omega]
    unfold Qle
    rw [show decide (-n < 0) = false by simp; omega, cond_false, Xa (x := -n + b) (by omega), Xa (by omega), Qng (by omega), Int.tdiv_eq_ediv_of_nonneg (by omega)]
    have e := Qrv (n := n) h2
    have h4 : 0 ≤ (-n + b - 1) / b := Int.ediv_nonneg (by omega) (by omega)
    have h5 : (-n + b - 1) / b ≤ -n + b - 1 := Int.ediv_le_self _ (by omega)
    simp only [Qq]
    rw [Xa (x := (-n + b - 1) / b) (by omega), Xa (by omega)]
    congr 1; omega
  · rw [decide_eq_false hn, cond_false, Qng (by omega), Int.tdiv_eq_ediv_of_nonneg (by omega), Qq]
    have := Qqc h2 h
    rw [Xa (by omega)]

/-! ### Samples -/
def Z9 (p : LevitatePlant) (s : LevitateSample) : Int :=
  if 0 ≤ s.Map ∧ s.Map < p.Maps.length then
    (if s.Noise.length = p.Noise.length then
      (match fs (fun k x => if Xy (gi p.Noise k) x then none else some (2 : Int)) 0 s.Noise with | some e => e | none => 0) else 10) else 6
structure Sm (p : LevitatePlant) (s : LevitateSample) : Prop where
  m0 : 0 ≤ s.Map
  m1 : s.Map < p.Maps.length
  len : s.Noise.length = p.Noise.length
  nz : ∀ k, k < p.Noise.length → -gi p.Noise k ≤ gi s.Noise k ∧ gi s.Noise k ≤ gi p.Noise k
theorem Qxq {α : Type} {P : Nat → α → Bool} {l : List α} {k : Nat} {e : Int} (h : fs (fun k x => if P k x then none else some (2 : Int)) k l = some e) : e = 2 := by
  obtain ⟨i, hi, h1⟩ := ZP h
  split at h1
  · cases h1
  · cases h1; rfl
theorem smE_right {p : LevitatePlant} {s : LevitateSample} : Z9 p s = 0 ↔ Sm p s := by
  unfold Z9
  constructor
  · intro h
    split at h
    · rename_i h1
      split at h
      · rename_i h2
        cases h3 : fs (fun k x => if Xy (gi p.Noise k) x then none else some (2 : Int)) 0 s.Noise with
        | some e => rw [h3] at h; have := Qxq h3; simp only at h; omega
        | none =>
          refine ⟨h1.1, h1.2, h2, fun k hk => ?_⟩
          have h4 := fs_none.1 h3 k (by omega)
          rw [Nat.zero_add, Zl (by omega)] at h4
          split at h4
          · rename_i h5; exact (Jq _ _).1 h5
          · cases h4
      · omega
    · omega
  · intro h
    rw [if_pos ⟨h.m0, h.m1⟩, if_pos h.len]
    have : fs (fun k x => if Xy (gi p.Noise k) x then none else some (2 : Int)) 0 s.Noise = none := fs_none.2 fun i hi => by
      have := h.nz i (by have := h.len; omega)
      rw [Nat.zero_add, Zl hi, if_pos ((Jq _ _).2 this)]
    rw [this]
theorem QFq {p : LevitatePlant} {s : LevitateSample} (hl : s.Noise.length = p.Noise.length) : (Xt (oi (fs (fun k x => if Xy (gi p.Noise k) x then none else some (2 : Int)) 0 s.Noise)) fun (_ : Unit) => some 0) = some (match fs (fun k x => if Xy (gi p.Noise k) x then none else some (2 : Int)) 0 s.Noise with | some e => e | none => 0) := by
  cases fs (fun k x => if Xy (gi p.Noise k) x then none else some (2 : Int)) 0 s.Noise <;> rfl
theorem QAd {p : LevitatePlant} (h : Rp p) {s : LevitateSample} (hs : s.Noise.length < 1073741824) : Qeb ⟨p⟩ s = some (Z9 p s) := by
  unfold Qeb
  have hm1 := h.m1
  have hm4 := h.m4
  rw [Xa (by dsimp only; omega)]
  simp only [JG, Qq, Y9, ZB, Y7]
  unfold Z9
  by_cases h1 : 0 ≤ s.Map ∧ s.Map < p.Maps.length
  · have e1 : (decide (0 ≤ s.Map) && decide (s.Map ≤ (p.Maps.length : Int) - 1)) = true := by simp; omega
    rw [if_pos h1, e1]
    by_cases h2 : s.Noise.length = p.Noise.length
    · rw [if_pos h2, decide_eq_true h2]
      simp only [cond_true, decide_true, Bool.not_true, cond_false, if_pos]
      rw [Ya s.Noise (fun k x => if Xy (gi p.Noise k) x then none else some 2), Qq, QFq h2]
      · intro k hk
        unfold Qlu
        rw [Xm hk, XI hk, Xk k (by omega)]
        dsimp only
        have hb := h.noise_b (i := k) (by omega)
        rw [cond_true, Qq, XO (by omega), Qq, Qmf _ _ (by omega), Qq]
        cases Xy (gi p.Noise k) s.Noise[k] <;> rfl
      · unfold Qlu
        rw [Xn]; rfl
    · rw [if_neg h2, decide_eq_false h2]; rfl
  · have e1 : (decide (0 ≤ s.Map) && decide (s.Map ≤ (p.Maps.length : Int) - 1)) = false := by simp; omega
    rw [if_neg h1, e1]; rfl
def Qcn (p : LevitatePlant) (l : List LevitateSample) : Option Int := fs (fun _ s => if Z9 p s = 0 then none else some (Z9 p s)) 0 l
def Qjb (p : LevitatePlant) (l : List LevitateSample) : Int := match Qcn p l with | some e => e | none => 0
theorem smsE_right {p : LevitatePlant} {l : List LevitateSample} : Qjb p l = 0 ↔ ∀ s ∈ l, Sm p s := by
  unfold Qjb
  constructor
  · intro h s hs
    cases h1 : Qcn p l with
    | some e =>
      rw [h1] at h
      obtain ⟨i, hi, h2⟩ := ZP h1
      split at h2
      · cases h2
      · cases h2; exact absurd h (by assumption)
    | none =>
      obtain ⟨i, hi, rfl⟩ := List.mem_iff_getElem.1 hs
      have h2 := fs_none.1 h1 i hi
      split at h2
      · exact smE_right.1 (by assumption)
      · cases h2
  · intro h
    have : Qcn p l = none := fs_none.2 fun i hi => by rw [if_pos (smE_right.2 (h _ (List.getElem_mem hi)))]
    rw [this]
def JM (p : LevitatePlant) (x : List Int) (l : List LevitateSample) : Int :=
  if (X1 p).2 ≠ 0 then (X1 p).2 else if Ja p x ≠ 0 then Ja p x else if 60 < l.length then 8 else Qjb p l
theorem QAb {p : LevitatePlant} (h : Sh p) {x : List Int} (hx : x.length < 1073741824) {l : List LevitateSample} (hl : l.length < 1073741824) (hs : ∀ s ∈ l, s.Noise.length < 1073741824) :
    Qgu p x l = some (⟨p⟩, JM p x l) := by
  unfold Qgu
  rw [Qme p h, Qq]
  dsimp only
  unfold JM
  by_cases h0 : (X1 p).2 = 0
  · have hp := ckP_right.1 h0
    rw [if_neg (by simp [h0]), decide_eq_true h0]
    simp only [Bool.not_true, cond_false, Y9, Qq, ZB]
    change Option.bind (Qbx ⟨p⟩ x) _ = _
    rw [Qrq p x hx, Qq]
    by_cases h1 : Ja p x = 0
    · by_cases h2 : 60 < l.length
      · have e : decide ((l.length : Int) ≤ 60) = false := decide_eq_false (by omega)
        simp [h1, h2, e]
      · have e : decide ((l.length : Int) ≤ 60) = true := decide_eq_true (by omega)
        simp only [e, h1, h2, if_true, if_false, cond_true, decide_true, Bool.not_true, cond_false, ne_eq, not_true_eq_false]
        rw [Ya l (fun _ s => if Z9 p s = 0 then none else some (⟨p⟩, Z9 p s)), Qq]
        · have e : fs (fun (_ : Nat) s => if Z9 p s = 0 then none else some ((⟨p⟩ : levitate_plant), Z9 p s)) 0 l = (Qcn p l).map fun e => (⟨p⟩, e) := by
            unfold Qcn
            rw [← J4]
            exact Qxp fun i hi => by split <;> rfl
          rw [e]
          unfold Qjb
          cases Qcn p l <;> rfl
        · intro k hk
          unfold Qlp
          rw [Xm hk, XI hk, Xk k (by omega), cond_true, Qq]
          change Option.bind (Qeb ⟨p⟩ l[k]) _ = _
          rw [QAd hp (hs _ (List.getElem_mem hk)), Qq]
          by_cases h2 : Z9 p l[k] = 0
          · simp [h2, XS]
          · simp only [h2, decide_false, Bool.not_false, cond_true, if_false, XS]
        · unfold Qlp
          rw [Xn]; rfl
    · simp [h1]
  · rw [if_pos h0, decide_eq_false h0]; rfl

/-! ### Steps -/
def YV (p : LevitatePlant) (m i : Nat) (x : List Int) : Int := Q0 (fun k => ge p m i k * gi x k) p.Noise.length
def Yo (p : LevitatePlant) (x : List Int) (s : LevitateSample) : List Int := Zw p.Noise.length fun i => YV p s.Map.toNat i x / p.Den + gi s.Noise i
def Z7 (p : LevitatePlant) : List Int → List LevitateSample → Option (List (List Int))
  | _, [] => some []
  | x, s :: l => if (Yo p x s).all (Xy 100000) then (Z7 p (Yo p x s) l).map (Yo p x s :: ·) else none
def rnR : Option (List (List Int)) → List (List Int) × Int
  | some ys => (ys, 0)
  | none => ([], 24)
structure Stt (p : LevitatePlant) (x : List Int) : Prop where
  len : x.length = p.Noise.length
  bd : ∀ k, k < p.Noise.length → -100000 ≤ gi x k ∧ gi x k ≤ 100000
theorem Qez {x : List Int} {n : Nat} (hl : x.length = n) {M : Int} : x.all (Xy M) = true ↔ ∀ k, k < n → -M ≤ gi x k ∧ gi x k ≤ M := by
  subst hl
  rw [List.all_eq_true]
  constructor
  · intro h k hk; exact (Jq _ _).1 (h _ (Qdo hk))
  · intro h y hy
    obtain ⟨k, hk, rfl⟩ := Qhi hy
    exact (Jq _ _).2 (h k hk)
theorem stE_right {p : LevitatePlant} {x : List Int} : Ja p x = 0 ↔ Stt p x := by
  unfold Ja
  constructor
  · intro h
    by_cases h1 : x.length = p.Noise.length
    · refine ⟨h1, ?_⟩
      cases h2 : x.all (Xy 100000) with
      | true => exact (Qez h1).1 h2
      | false => simp [h1, h2] at h
    · simp [h1] at h
  · intro h
    simp [h.len, (Qez h.len).2 h.bd]
theorem Qwp {p : LevitatePlant} (h : Rp p) {m i : Nat} (hm : m < p.Maps.length) (hi : i < p.Noise.length) {x : List Int} (hx : ∀ k, k < p.Noise.length → -100000 ≤ gi x k ∧ gi x k ≤ 100000) : -300000000 ≤ YV p m i x ∧ YV p m i x ≤ 300000000 :=
  Qen h.n3 (by decide) fun k hk => XG (h.ge_b hm hi hk) (hx k hk)
theorem Qoc (p : LevitatePlant) (x : List Int) (s : LevitateSample) : (Yo p x s).length = p.Noise.length := Qaw _ _
theorem stepI_stt {p : LevitatePlant} {x : List Int} {s : LevitateSample} : Stt p (Yo p x s) ↔ (Yo p x s).all (Xy 100000) = true :=
  ⟨fun h => (Qez h.len).2 h.bd, fun h => ⟨Qoc _ _ _, (Qez (Qoc _ _ _)).1 h⟩⟩
theorem QFx {p : LevitatePlant} (h : Rp p) {x : List Int} (hx : Stt p x) {s : LevitateSample} (hs : Sm p s) : loop (Qhb s (gm p s.Map.toNat) ⟨p⟩ x) ([], 0) = some (Yo p x s) := by
  have hm : s.Map.toNat < p.Maps.length := by have := hs.m0; have := hs.m1; omega
  have hrl : (gm p s.Map.toNat).length = p.Noise.length := h.sq _ (J0 hm)
  have hn := h.n3
  refine JE p.Noise.length _ ?_ ?_
  · intro i hi acc hacc
    unfold Qhb
    dsimp only
    have hd := h.den
    have hb := Qwp h hm hi hx.bd
    have hg : gi (gm p s.Map.toNat)[i]! 0 = gi (gm p s.Map.toNat)[i]! 0 := rfl
    rw [Xm (by omega), cond_true, Zt (by omega), Qq, XO (by have := hs.len; omega), Qq, Qkg (by rw [h.row_len hm hi, hx.len]; exact Nat.le_refl _) (by rw [h.row_len hm hi]; omega), Qq, h.row_len hm hi]
    change Option.bind (Qaj (w64 (YV p s.Map.toNat i x)) p.Den) _ = _
    rw [Xa (by omega), Qzu (by omega) hd.1 (by omega), Qq]
    have h1 := Qqc hd.1 hb
    have h2 := hs.nz i hi
    have h3 := h.noise_b hi
    rw [Xa (by omega), Yh (by simp; omega), Qq, Xk i (by omega)]
  · intro acc
    unfold Qhb
    dsimp only
    rw [hrl, Xn]; rfl
theorem QEs {p : LevitatePlant} (h : Rp p) {l : List LevitateSample} (hl : l.length < 1000) (hs : ∀ s ∈ l, Sm p s) {x : List Int} (hx : Stt p x) : Qea ⟨p⟩ x l = some (rnR (Z7 p x l)) := by
  unfold Qea
  have key : ∀ (r l0 : List LevitateSample) (x : List Int) (acc : List (List Int)), l = l0 ++ r → acc.length = l0.length → Stt p x →
      loop (Qbw l ⟨p⟩) ((l0.length : Int), acc, x) = some (match Z7 p x r with | some ys => .inr (acc ++ ys) | none => .inl ([], 24)) := by
    intro r
    induction r with
    | nil =>
      intro l0 x acc he ha hx
      refine XZ ?_
      unfold Qbw
      dsimp only
      rw [he, List.append_nil, Xn]
      simp [Z7]
    | cons s r ih =>
      intro l0 x acc he ha hx
      have hlt : l0.length < l.length := by rw [he]; simp
      have hel : l[l0.length]'hlt = s := by simp [he]
      have hsm := hs s (by rw [he]; simp)
      have hm : s.Map.toNat < p.Maps.length := by have := hsm.m0; have := hsm.m1; omega
      have em : s.Map = (s.Map.toNat : Int) := by have := hsm.m0; omega
      have hstep := QFx h hx hsm
      have hsl := Qoc p x s
      have hn := h.n3
      have ea : J1 100000 = some 100000 := rfl
      have st : Qbw l ⟨p⟩ ((l0.length : Int), acc, x) = if (Yo p x s).all (Xy 100000) then some (.inl (((l0 ++ [s]).length : Int), acc ++ [Yo p x s], Yo p x s)) else some (.inr (.inl ([], 24))) := by
        unfold Qbw
        dsimp only
        rw [Xm hlt, cond_true, XI hlt, Qq, hel]
        have ei : idx p.Maps s.Map = some (gm p s.Map.toNat) := by rw [em]; exact Qfq hm
        rw [ei, Qq, hstep, Qq, ea, Qq, Qey _ 100000 (by decide) (by omega), Qq]
        cases hb : (Yo p x s).all (Xy 100000) with
        | false => rfl
        | true =>
          have hal : acc.length < 1000 := by omega
          simp only [Bool.not_true, cond_false, Qq, if_true]
          rw [Yh (by simp; omega), Qq, Xk _ (by omega), Qey _ 100000 (by decide) (by omega), Qq, hb]
          simp
      cases hb : (Yo p x s).all (Xy 100000) with
      | false =>
        rw [hb] at st
        rw [XZ st, Z7, if_neg (by simp [hb])]
      | true =>
        rw [hb] at st
        rw [YC st, ih (l0 ++ [s]) _ _ (by rw [he]; simp) (by simp [ha]) (stepI_stt.2 hb), Z7, if_pos hb]
        cases Z7 p (Yo p x s) r <;> simp
  have := key l [] x [] rfl rfl hx
  change loop (Qbw l ⟨p⟩) (0, [], x) = _ at this
  rw [this]
  cases Z7 p x l <;> rfl
def Qnn (p : LevitatePlant) (x : List Int) (l : List LevitateSample) : List (List Int) × Int := if JM p x l = 0 then rnR (Z7 p x l) else ([], JM p x l)
theorem Quo {p : LevitatePlant} (h : Sh p) {x : List Int} (hx : x.length < 1073741824) {l : List LevitateSample} (hl : l.length < 1073741824) (hs : ∀ s ∈ l, s.Noise.length < 1073741824) : Qgh p x l = some (Qnn p x l) := by
  unfold Qgh Qnn
  rw [QAb h hx hl hs, Qq]
  by_cases h0 : JM p x l = 0
  · rw [if_pos h0, decide_eq_true h0]
    unfold JM at h0
    split at h0
    · exact absurd h0 (by assumption)
    · rename_i h1
      split at h0
      · exact absurd h0 (by assumption)
      · rename_i h2
        split at h0
        · omega
        · rename_i h3
          have hp := ckP_right.1 (Classical.not_not.1 h1)
          simp only [Bool.not_true, cond_false]
          change Option.bind (Qea ⟨p⟩ x l) _ = _
          rw [QEs hp (by omega) (smsE_right.1 h0) (stE_right.1 (Classical.not_not.1 h2))]
          rfl
  · rw [if_neg h0, decide_eq_false h0]; rfl
def Qsz (p : LevitatePlant) (x : List Int) (s : LevitateSample) : List Int × Int :=
  if JM p x [s] = 0 then (if (Yo p x s).all (Xy 100000) then (Yo p x s, 0) else ([], 24)) else ([], JM p x [s])
theorem Qup {p : LevitatePlant} (h : Sh p) {x : List Int} (hx : x.length < 1073741824) {s : LevitateSample} (hs : s.Noise.length < 1073741824) : Qbs p x s = some (Qsz p x s) := by
  unfold Qbs
  rw [Quo h hx (by simp) (by simpa using hs), Qq]
  unfold Qnn Qsz
  by_cases h0 : JM p x [s] = 0
  · rw [if_pos h0, if_pos h0]
    cases hb : (Yo p x s).all (Xy 100000) with
    | true => simp [Z7, rnR, hb, idx]
    | false => simp [Z7, rnR, hb]
  · rw [if_neg h0, if_neg h0]
    simp only [h0, decide_false, Bool.not_false, cond_true]

/-! ### The examples -/
theorem Qxl : Qbs Zr [20, -10] ⟨0, [1, -1]⟩ = some ([11, -1], 0) := by
  rw [Qup exP_right.sh (by decide) (by decide)]; decide
theorem Qxh : Qge 1000 ⟨10, 20⟩ ⟨5, 10⟩ = some (⟨1000, 16000⟩, 0) := by
  unfold Qge Qll Qlh Qli Qgo Qgp
  simp only [JG, Y9, ZB, Qq]
  rw [show Qaj (w64 (w64 (1000 * 10) * 10)) (w64 (10 * 10)) = some 1000 by decide, show Qai (w64 (w64 (1000 * 20) * 20)) (w64 (5 * 5)) = some 16000 by decide]
  rfl
theorem ex_read : Qbz 1120403456 = some true ∧ Qbz 1120796672 = some true ∧ Qbz 1132068864 = some true := by decide +kernel
theorem ex_in : (YS 1120403456 0 && Zs 1120403456 1161527296) = true ∧ (YS 1120796672 0 && Zs 1120796672 1161527296) = true ∧ (YS 1132068864 0 && Zs 1132068864 1161527296) = true := by decide +kernel
theorem ex_int : JX 1120403456 = some 100 ∧ JX 1120796672 = some 103 ∧ JX 1132068864 = some 250 := by decide +kernel
theorem QFt {l : List Int} (h : 0 < l.length) (h1 : l.length ≤ 1073741824) (hs : l.Pairwise fun x y => decide (x ≤ y) = true) : Qem l = some l := by
  unfold Qem
  rw [if_pos ⟨h, h1⟩, List.mergeSort_of_pairwise hs]
theorem Qxk : Qgg ⟨⟨1120403456, 1120796672, 1132068864⟩, 5⟩ = some (103, 0) := by
  unfold Qgg
  have st : ∀ (k : Nat) (acc : List Int) (f : Nat) (n : Int), k < 3 → idx [(1120403456 : Nat), 1120796672, 1132068864] (k : Int) = some f → Qbz f = some true → (YS f 0 && Zs f 1161527296) = true → JX f = some n → acc.length < 3 →
      Qgf ⟨⟨1120403456, 1120796672, 1132068864⟩, 5⟩ (acc, (k : Int)) = some (.inl (acc ++ [n], ((k + 1 : Nat) : Int))) := by
    intro k acc f n hk hi hw hin hn ha
    unfold Qgf
    dsimp only
    rw [decide_eq_true (show (k : Int) < 3 by omega), cond_true, hi, Qq, hw, Qq, Y9, Qq, hin, Y9, Qq, cond_true, ZB, Qq, if_pos rfl]
    rw [show (!decide ((bif true then (0 : Int) else 2) = 0)) = false from rfl, cond_false, hn, Qq]
    rw [Yh (by simp; omega), Qq, Xk k (by omega)]
  have key : loop (Qgf ⟨⟨1120403456, 1120796672, 1132068864⟩, 5⟩) ([], 0) = some (.inr [100, 103, 250]) := by
    refine (YC (st 0 [] _ _ (by decide) rfl ex_read.1 ex_in.1 ex_int.1 (by decide))).trans ?_
    refine (YC (st 1 _ _ _ (by decide) rfl ex_read.2.1 ex_in.2.1 ex_int.2.1 (by decide))).trans ?_
    refine (YC (st 2 _ _ _ (by decide) rfl ex_read.2.2 ex_in.2.2 ex_int.2.2 (by decide))).trans ?_
    exact XZ rfl
  rw [key, Qq]
  unfold Xt
  dsimp only
  rw [QFt (by decide) (by decide) (by decide)]
  rfl
theorem Qvi : Qfy = some true := by
  unfold Qfy Qdp Qkx
  simp only [Qq]
  change Option.bind (Qbs Zr [20, -10] ⟨0, [1, -1]⟩) _ = _
  rw [Qxl, Qq]
  change Option.bind (Qbr Zr [0, 0]) _ = _
  rw [Qxg, Qq]
  change Option.bind (Qdr Zr exF ⟨1, 2⟩) _ = _
  rw [Qxj, Qq, Qxh, Qq, Qxk]
  simp only [Qq, decide_true, cond_true, Bool.and_true, Qjl [11, -1] [11, -1] (by decide), Qjl [6, 4] [6, 4] (by decide)]
end Go.Gw

end
section
set_option maxRecDepth 8192
set_option linter.unusedSimpArgs false
set_option linter.unusedVariables false
namespace Go.Gw
open Go

def bpr (A D n : Int) : Bool := decide (3138550867693340381917894711603833208051177722232017256448 ≤ (A - n * n * D) % 6277101735386680763835789423207666416102355444464034512896)
theorem Qvu {n A D : Int} (h : -9223372036854775808 ≤ n ∧ n ≤ 9223372036854775807) : Qgj n (Q7 A) (Q7 D) = some (bpr A D n) := by
  unfold Qgj
  simp only [Zo h, Qq, Jr, Qag, Qpp]; rfl
theorem Qqu (A D : Int) : Runs (Qdu 274877906944 (Q7 A) (Q7 D)) fun r => 0 ≤ r.1 ∧ r.1 ≤ 274877906945 ∧ (r.1 ≤ 274877906944 → bpr A D r.1 = true) ∧ (0 < r.1 → bpr A D (r.1 - 1) = false) := by
  unfold Qdu
  refine Runs.callR (Qqv (bpr A D) 274877906944 (by decide) (by decide) (fun lo hi h1 h2 h3 hd => ?_) (fun lo hi h1 h2 h3 hd => ?_)) fun hi hh => Runs.some hh
  · unfold Qlm
    dsimp only
    have hm := Qhj h1 h2 h3 (by decide)
    rw [hm.1, hm.2, decide_eq_true hd, cond_true, Qvu (by omega), Qq]
    cases bpr A D (lo + (hi - lo) / 2) <;> rfl
  · unfold Qlm
    dsimp only
    have hm := Qhj h1 h2 h3 (by decide)
    rw [hm.1, decide_eq_false hd]; rfl
def X7 (n i : Nat) : List Nat := (List.range i) ++ (List.range n).drop (i + 1)
noncomputable def Jg (A D : Int) : Int := w64 (((Qdu 274877906944 (Q7 A) (Q7 D)).getD default).1 - 1)
theorem Qvv {f : List (List Int)} (hf : Rf f) {i : Nat} (hi : i < f.length) {level : Int} (hl : 0 ≤ level ∧ level ≤ 100000000000000) : Qgk f (i : Int) level = some (Jg (level * Q2 f (X7 f.length i)) (Q2 f (List.range f.length))) := by
  unfold Qgk
  have h3 := hf.n3
  have hrange : ∀ x ∈ List.range f.length, x < f.length := fun x hx => List.mem_range.1 hx
  have hbut : ∀ x ∈ X7 f.length i, x < f.length := fun x hx => by
    rcases List.mem_append.1 hx with h | h
    · have := List.mem_range.1 h; omega
    · exact hrange x (List.mem_of_mem_drop h)
  rw [Qoo hf.sq h3 (hf.bd.mono (by decide)), Qq, Qmx _ (by omega), Qq, Qhk hf.sq hrange (by simp; omega), Qq, Zo (by omega), Qq, Xk i (by omega)]
  have hd : Qdk (QZ (List.range f.length)) (i : Int) ((i + 1 : Nat) : Int) = some (QZ (X7 f.length i)) := by
    unfold Qdk
    rw [if_pos ⟨by omega, by omega, by rw [ZG, List.length_range]; omega, by rw [ZG, List.length_range]; omega, by rw [ZG, List.length_range]; omega⟩]
    congr 1
    simp only [Int.toNat_natCast]
    unfold X7 QZ
    rw [List.map_append, ← List.map_take, ← List.map_drop, List.take_range, Nat.min_eq_left (by omega)]
  rw [hd, Qq, Qhk hf.sq hbut (by unfold X7; simp; omega), Qq, Jr, Qq]
  obtain ⟨q, hq, _⟩ := Qqu (level * Q2 f (X7 f.length i)) (Q2 f (List.range f.length))
  unfold Jg
  rw [hq]; rfl

noncomputable def JC (p : LevitatePlant) (x : LevitateProof) : List Int × Int :=
  if (ZH p x.Form x.Rate).2 = 0 then
    (if 0 ≤ x.Level ∧ x.Level ≤ 100000000000000 then
      (if YT x.Level (Y5 p x.Form) x.Rate then ((List.range x.Form.length).map fun i => Jg (x.Level * Q2 x.Form (X7 x.Form.length i)) (Q2 x.Form (List.range x.Form.length)), 0) else ([], 20))
    else ([], 2))
  else ([], (ZH p x.Form x.Rate).2)
theorem Quj {p : LevitatePlant} (h : Rp p) {x : LevitateProof} (hf : Rf x.Form) (hn : x.Form.length = p.Noise.length) : Qbq p x = some (JC p x) := by
  unfold Qbq
  have h3 := h.n3
  have hsq : Sq p.Noise.length x.Form := by rw [← hn]; exact hf.sq
  have hbd : Bd p.Noise.length x.Form 10000 := by rw [← hn]; exact hf.bd
  rw [Qnd h hf hn]
  simp only [Qq, JG, Y9, ZB]
  unfold JC
  have e5 : (decide (0 ≤ x.Level) && decide (x.Level ≤ 100000000000000)) = decide (0 ≤ x.Level ∧ x.Level ≤ 100000000000000) := by rw [Bool.eq_iff_iff]; simp
  rw [e5]
  by_cases h1 : (ZH p x.Form x.Rate).2 = 0
  · by_cases h2 : 0 ≤ x.Level ∧ x.Level ≤ 100000000000000
    · simp only [h1, h2, if_true, decide_true, cond_true, Bool.not_true, cond_false, and_self]
      change Option.bind (Qam ⟨p⟩ x.Form) _ = _
      rw [Qtt h hsq hbd, Qq, Qqs (QDg h1) h2 (Qts h hbd), Qq]
      cases YT x.Level (Y5 p x.Form) x.Rate with
      | false => simp
      | true =>
        have hl : loop (Qgd x) (([] : List Int), 0) = some ((List.range x.Form.length).map fun i => Jg (x.Level * Q2 x.Form (X7 x.Form.length i)) (Q2 x.Form (List.range x.Form.length))) := by
          refine JE x.Form.length _ (fun i hi acc hacc => ?_) (fun acc => ?_)
          · unfold Qgd
            dsimp only
            rw [Xm hi, cond_true, Qvv hf hi h2, Qq, Yh (by simp [hacc]; omega), Qq, Xk i (by omega)]
          · unfold Qgd
            dsimp only
            rw [Xn]; rfl
        rw [hl]; rfl
    · simp [h1, h2]
  · simp [h1]
end Go.Gw

end
section
set_option maxRecDepth 8192
set_option linter.unusedSimpArgs false
set_option linter.unusedVariables false
namespace Go.Gw
open Go

theorem Zh (x : Int) : 0 ≤ x * x := by
  rcases Int.le_total 0 x with h | h
  · exact Int.mul_nonneg h h
  · have := Int.mul_nonneg (show 0 ≤ -x by omega) (show 0 ≤ -x by omega); have e : -x * -x = x * x := by grind
    omega
theorem J5 {a b : Int} (ha : 0 < a) (h : 0 ≤ a * b) : 0 ≤ b := by
  rcases Int.lt_or_le b 0 with hb | hb
  · have := Int.mul_pos ha (show 0 < -b by omega)
    have e : a * -b = -(a * b) := by grind
    omega
  · exact hb
theorem Qob {x : Int} (h : x * x ≤ 0) : x = 0 := by
  rcases Int.lt_trichotomy x 0 with h1 | h1 | h1
  · have := Int.mul_pos (show 0 < -x by omega) (show 0 < -x by omega); have e : -x * -x = x * x := by grind
    omega
  · exact h1
  · have := Int.mul_pos h1 h1; omega
theorem Qcf {a b c : Int} (ha : 0 ≤ a) (hc : 0 ≤ c) (hd : 0 ≤ a * c - b * b) (x y : Int) : 0 ≤ a * (x * x) + 2 * (b * (x * y)) + c * (y * y) := by
  rcases Int.lt_or_le 0 a with h | h
  · refine J5 h ?_
    have e : a * (a * (x * x) + 2 * (b * (x * y)) + c * (y * y)) = (a * x + b * y) * (a * x + b * y) + (a * c - b * b) * (y * y) := by grind
    rw [e]
    have := Zh (a * x + b * y); have := Int.mul_nonneg hd (Zh y); omega
  · obtain rfl : a = 0 := by omega
    obtain rfl := Qob (x := b) (by omega)
    have := Int.mul_nonneg hc (Zh y); simpa using this
theorem QDf {a b c d e f : Int} (ha : 0 ≤ a) (hd : 0 ≤ d) (hf : 0 ≤ f) (h1 : 0 ≤ a * d - b * b) (h2 : 0 ≤ a * f - c * c) (h3 : 0 ≤ d * f - e * e)
    (hD : 0 ≤ a * (d * f - e * e) + b * (e * c - b * f) + c * (b * e - d * c)) (x y z : Int) :
    0 ≤ a * (x * x) + d * (y * y) + f * (z * z) + 2 * (b * (x * y)) + 2 * (c * (x * z)) + 2 * (e * (y * z)) := by
  rcases Int.lt_or_le 0 a with h | h
  · refine J5 h ?_
    have e1 : a * (a * (x * x) + d * (y * y) + f * (z * z) + 2 * (b * (x * y)) + 2 * (c * (x * z)) + 2 * (e * (y * z))) = (a * x + b * y + c * z) * (a * x + b * y + c * z) + ((a * d - b * b) * (y * y) + 2 * ((a * e - b * c) * (y * z)) + (a * f - c * c) * (z * z)) := by grind
    rw [e1]
    have e2 : (a * d - b * b) * (a * f - c * c) - (a * e - b * c) * (a * e - b * c) = a * (a * (d * f - e * e) + b * (e * c - b * f) + c * (b * e - d * c)) := by grind
    have := Qcf h1 h2 (by rw [e2]; exact Int.mul_nonneg ha hD) y z
    have := Zh (a * x + b * y + c * z); omega
  · obtain rfl : a = 0 := by omega
    obtain rfl := Qob (x := b) (by omega)
    obtain rfl := Qob (x := c) (by omega)
    have := Qcf hd hf h3 y z
    simp; omega
theorem Qpu {U E B : Int} (h : ∀ s t : Int, 0 ≤ s * s * U + 2 * (s * t * B) + t * t * E) : B * B ≤ U * E := by
  have hE : 0 ≤ E := by have := h 0 1; simpa using this
  have hU : 0 ≤ U := by have := h 1 0; simpa using this
  rcases Int.lt_or_le 0 E with h1 | h1
  · have h2 := h E (-B)
    have e : E * E * U + 2 * (E * -B * B) + -B * -B * E = E * (U * E - B * B) := by grind
    rw [e] at h2
    have := J5 h1 h2; omega
  · obtain rfl : E = 0 := by omega
    have h2 := h 1 (-(B * (U + 1)))
    have e : 1 * 1 * U + 2 * (1 * -(B * (U + 1)) * B) + -(B * (U + 1)) * -(B * (U + 1)) * 0 = U - 2 * (B * B * (U + 1)) := by grind
    rw [e] at h2
    rcases Int.lt_or_le 0 (B * B) with h3 | h3
    · have h4 : 1 * (U + 1) ≤ B * B * (U + 1) := Int.mul_le_mul_of_nonneg_right (by omega) (by omega)
      omega
    · rw [Int.mul_zero]; omega
theorem QFr {a b : Int} (h0 : 0 ≤ a) (h : a < b) : a * a < b * b := Int.lt_of_le_of_lt (Int.mul_le_mul_of_nonneg_left (Int.le_of_lt h) h0) (Int.mul_lt_mul_of_pos_right h (by omega))
theorem Qxu {U E B L W D r0 r1 a : Int} (hD : 0 ≤ D) (hE : 0 ≤ E) (hB : B * B ≤ U * E) (hr0 : 0 ≤ r0) (hr1 : 0 < r1) (hL : 0 ≤ L) (h1 : r1 * U ≤ r0 * D * L) (h2 : E ≤ D * W)
    (ha : a = (r1 - r0) * L - r1 * W) (ha0 : 0 ≤ a) (ha1 : 4 * r0 * r1 * (L * W) ≤ a * a) : U + 2 * B + E ≤ D * L := by
  rcases Int.lt_or_le (D * L) (U + 2 * B + E) with h | h
  · exfalso
    have h3 : r1 * E ≤ r1 * (D * W) := Int.mul_le_mul_of_nonneg_left h2 (by omega)
    have h4 : r1 * (D * L) < r1 * (U + 2 * B + E) := Int.mul_lt_mul_of_pos_left h hr1
    have e1 : r1 * (U + 2 * B + E) = r1 * U + 2 * (r1 * B) + r1 * E := by grind
    have e2 : D * a = r1 * (D * L) - r0 * D * L - r1 * (D * W) := by rw [ha]; grind
    have h5 : D * a < 2 * (r1 * B) := by omega
    have h6 := QFr (Int.mul_nonneg hD ha0) h5
    have h7 : r1 * U * (r1 * E) ≤ r0 * D * L * (r1 * (D * W)) := Int.mul_le_mul h1 h3 (Int.mul_nonneg (by omega) hE) (Int.mul_nonneg (Int.mul_nonneg hr0 hD) hL)
    have h8 : r1 * r1 * (B * B) ≤ r1 * r1 * (U * E) := Int.mul_le_mul_of_nonneg_left hB (Zh r1)
    have h9 : D * D * (4 * r0 * r1 * (L * W)) ≤ D * D * (a * a) := Int.mul_le_mul_of_nonneg_left ha1 (Zh D)
    have e3 : D * a * (D * a) = D * D * (a * a) := by grind
    have e4 : 2 * (r1 * B) * (2 * (r1 * B)) = 4 * (r1 * r1 * (B * B)) := by grind
    have e5 : r1 * U * (r1 * E) = r1 * r1 * (U * E) := by grind
    have e6 : D * D * (4 * r0 * r1 * (L * W)) = 4 * (r0 * D * L * (r1 * (D * W))) := by grind
    omega
  · exact h
theorem Qwf {α β c t : Int} (ha : 0 ≤ α) (ht : -c ≤ t ∧ t ≤ c) : α * (t * t) + β * t ≤ α * (c * c) + β * c ∨ α * (t * t) + β * t ≤ α * (c * c) + β * (-c) := by
  have h1 : t * t ≤ c * c := by
    have := Int.mul_nonneg (show 0 ≤ c - t by omega) (show 0 ≤ c + t by omega)
    have e : (c - t) * (c + t) = c * c - t * t := by grind
    omega
  have h2 := Int.mul_le_mul_of_nonneg_left h1 ha
  rcases Int.le_total 0 β with hb | hb
  · have := Int.mul_le_mul_of_nonneg_left ht.2 hb; left; omega
  · have := Int.mul_le_mul_of_nonpos_left hb ht.1; right; omega
theorem Qkc {A B C Dd E F : Int} (psd : ∀ x y z : Int, 0 ≤ A * (x * x) + Dd * (y * y) + F * (z * z) + 2 * (B * (x * y)) + 2 * (C * (x * z)) + 2 * (E * (y * z)))
    (hd : 0 < A * (Dd * F - E * E) + B * (E * C - B * F) + C * (B * E - Dd * C)) (x y z : Int) :
    x * x * (A * (Dd * F - E * E) + B * (E * C - B * F) + C * (B * E - Dd * C)) ≤ (A * (x * x) + Dd * (y * y) + F * (z * z) + 2 * (B * (x * y)) + 2 * (C * (x * z)) + 2 * (E * (y * z))) * (Dd * F - E * E) := by
  have hM : 0 ≤ Dd * F - E * E := by
    have := Qpu (U := Dd) (E := F) (B := E) fun s t => by have := psd 0 s t; grind
    omega
  have h0 : 0 < Dd * F - E * E := by
    rcases Int.lt_or_le 0 (Dd * F - E * E) with h | h
    · exact h
    · exfalso
      have hz : Dd * F - E * E = 0 := by omega
      have hDd : 0 ≤ Dd := by have := psd 0 1 0; grind
      have hF : 0 ≤ F := by have := psd 0 0 1; grind
      have h1 := Qcf (a := F) (b := -E) (c := Dd) hF hDd (show (0 : Int) ≤ F * Dd - -E * -E from Int.le_of_eq (by grind)) B C
      have e1 : A * (Dd * F - E * E) + B * (E * C - B * F) + C * (B * E - Dd * C) = A * (Dd * F - E * E) - (F * (B * B) + 2 * (-E * (B * C)) + Dd * (C * C)) := by grind
      rw [e1, hz] at hd
      omega
  refine Int.le_of_sub_nonneg (J5 h0 ?_)
  have hq := psd 0 (( Dd * F - E * E) * y + (B * F - E * C) * x) ((Dd * F - E * E) * z + (C * Dd - E * B) * x)
  have e1 : (Dd * F - E * E) * ((A * (x * x) + Dd * (y * y) + F * (z * z) + 2 * (B * (x * y)) + 2 * (C * (x * z)) + 2 * (E * (y * z))) * (Dd * F - E * E) - x * x * (A * (Dd * F - E * E) + B * (E * C - B * F) + C * (B * E - Dd * C))) = A * (0 * 0) + Dd * (((Dd * F - E * E) * y + (B * F - E * C) * x) * ((Dd * F - E * E) * y + (B * F - E * C) * x)) + F * (((Dd * F - E * E) * z + (C * Dd - E * B) * x) * ((Dd * F - E * E) * z + (C * Dd - E * B) * x)) + 2 * (B * (0 * ((Dd * F - E * E) * y + (B * F - E * C) * x))) + 2 * (C * (0 * ((Dd * F - E * E) * z + (C * Dd - E * B) * x))) + 2 * (E * (((Dd * F - E * E) * y + (B * F - E * C) * x) * ((Dd * F - E * E) * z + (C * Dd - E * B) * x))) := by grind
  rw [e1]; exact hq
/-! ### Values over functions -/
def Zi (n : Nat) (f : List (List Int)) (u v : Nat → Int) : Int := Q0 (fun i => u i * Q0 (fun k => g2 f i k * v k) n) n
abbrev valF (n : Nat) (f : List (List Int)) (u : Nat → Int) : Int := Zi n f u u
theorem QGm (n : Nat) (f : List (List Int)) (x : List Int) : Yp n f x = valF n f (gi x) := rfl
theorem Qcr {n : Nat} {f : List (List Int)} {u v : Nat → Int} (h : ∀ k, k < n → u k = v k) : valF n f u = valF n f v :=
  Qau fun i hi => by rw [h i hi]; congr 1; exact Qau fun k hk => by rw [h k hk]
def Zx (n : Nat) (f : List (List Int)) : Prop := ∀ i k, i < n → k < n → g2 f k i = g2 f i k
theorem Qoj (f : List (List Int)) (u : Nat → Int) : valF 1 f u = g2 f 0 0 * (u 0 * u 0) := by
  simp only [Zi, Q0]; grind
theorem Qok {f : List (List Int)} (h : Zx 2 f) (u : Nat → Int) : valF 2 f u = g2 f 0 0 * (u 0 * u 0) + 2 * (g2 f 0 1 * (u 0 * u 1)) + g2 f 1 1 * (u 1 * u 1) := by
  simp only [Zi, Q0, h 0 1 (by decide) (by decide)]; grind
theorem Qje {f : List (List Int)} (h : Zx 3 f) (u : Nat → Int) : valF 3 f u = g2 f 0 0 * (u 0 * u 0) + g2 f 1 1 * (u 1 * u 1) + g2 f 2 2 * (u 2 * u 2) + 2 * (g2 f 0 1 * (u 0 * u 1)) + 2 * (g2 f 0 2 * (u 0 * u 2)) + 2 * (g2 f 1 2 * (u 1 * u 2)) := by
  simp only [Zi, Q0, h 0 1 (by decide) (by decide), h 0 2 (by decide) (by decide), h 1 2 (by decide) (by decide)]; grind
theorem QAn {n : Nat} (h1 : 1 ≤ n) (h3 : n ≤ 3) {d : List (List Int)} (hs : Zx n d) (hn : YL n d = true) (u : Nat → Int) : 0 ≤ valF n d u := by
  have ha : ∀ l ∈ ZV n, 0 ≤ Q2 d l := fun l hl => by have := List.all_eq_true.1 hn l hl; simpa only [decide_eq_true_eq] using this
  have hc : n = 1 ∨ n = 2 ∨ n = 3 := by omega
  rcases hc with rfl | rfl | rfl
  · have a : 0 ≤ g2 d 0 0 := ha [0] (by decide)
    rw [Qoj]; exact Int.mul_nonneg a (Zh _)
  · have a : 0 ≤ g2 d 0 0 := ha [0] (by decide)
    have b : 0 ≤ g2 d 1 1 := ha [1] (by decide)
    have c := ha [0, 1] (by decide)
    simp only [Q2] at c
    rw [hs 0 1 (by decide) (by decide)] at c
    rw [Qok hs]
    exact Qcf a b c _ _
  · have a : 0 ≤ g2 d 0 0 := ha [0] (by decide)
    have b : 0 ≤ g2 d 1 1 := ha [1] (by decide)
    have b' : 0 ≤ g2 d 2 2 := ha [2] (by decide)
    have c := ha [0, 1] (by decide)
    have c1 := ha [0, 2] (by decide)
    have c2 := ha [1, 2] (by decide)
    have c3 := ha [0, 1, 2] (by decide)
    simp only [Q2] at c c1 c2 c3
    rw [hs 0 1 (by decide) (by decide)] at c c3
    rw [hs 0 2 (by decide) (by decide)] at c1 c3
    rw [hs 1 2 (by decide) (by decide)] at c2 c3
    rw [Qje hs]
    exact QDf a b b' c c1 c2 c3 _ _ _
theorem Qnc {f : List (List Int)} (h1 : 1 ≤ f.length) (h3 : f.length ≤ 3) (hs : Zx f.length f) (hp : Yn f = true) (u : Nat → Int) : 0 ≤ valF f.length f u := by
  have hk : ∀ k, k < f.length → 0 < Q2 f (List.range (k + 1)) := by simpa [Yn] using hp
  generalize f.length = n at h1 h3 hs hk ⊢
  have hc : n = 1 ∨ n = 2 ∨ n = 3 := by omega
  rcases hc with rfl | rfl | rfl
  · have a := hk 0 (by decide)
    simp [Q2, List.range, List.range.loop] at a
    rw [Qoj]; exact Int.mul_nonneg (by omega) (Zh _)
  · have a := hk 0 (by decide); have b := hk 1 (by decide)
    simp [Q2, List.range, List.range.loop] at a b
    rw [hs 0 1 (by decide) (by decide)] at b
    rw [Qok hs]
    refine Qcf (by omega) ?_ (by omega) _ _
    have := Zh (g2 f 0 1)
    exact J5 a (by omega)
  · have a := hk 0 (by decide); have b := hk 1 (by decide); have c := hk 2 (by decide)
    simp [Q2, List.range, List.range.loop] at a b c
    rw [hs 0 1 (by decide) (by decide)] at b c
    rw [hs 0 2 (by decide) (by decide), hs 1 2 (by decide) (by decide)] at c
    rw [Qje hs]
    generalize g2 f 0 0 = a0, g2 f 0 1 = b0, g2 f 0 2 = c0, g2 f 1 1 = d0, g2 f 1 2 = e0, g2 f 2 2 = f0 at a b c ⊢
    generalize u 0 = x, u 1 = y, u 2 = z
    refine J5 a ?_
    have e1 : a0 * (a0 * (x * x) + d0 * (y * y) + f0 * (z * z) + 2 * (b0 * (x * y)) + 2 * (c0 * (x * z)) + 2 * (e0 * (y * z))) = (a0 * x + b0 * y + c0 * z) * (a0 * x + b0 * y + c0 * z) + ((a0 * d0 - b0 * b0) * (y * y) + 2 * ((a0 * e0 - b0 * c0) * (y * z)) + (a0 * f0 - c0 * c0) * (z * z)) := by grind
    rw [e1]
    have e2 : (a0 * d0 - b0 * b0) * (a0 * f0 - c0 * c0) - (a0 * e0 - b0 * c0) * (a0 * e0 - b0 * c0) = a0 * (a0 * (d0 * f0 - e0 * e0) + b0 * (e0 * c0 - b0 * f0) + c0 * (b0 * e0 - d0 * c0)) := by grind
    have h2 : 0 ≤ (a0 * d0 - b0 * b0) * (a0 * f0 - c0 * c0) - (a0 * e0 - b0 * c0) * (a0 * e0 - b0 * c0) := by rw [e2]; exact Int.mul_nonneg (by omega) (by omega)
    have h4 := Zh (a0 * e0 - b0 * c0)
    have b' : 0 < a0 * d0 - b0 * b0 := by omega
    have := Qcf (a := a0 * d0 - b0 * b0) (b := a0 * e0 - b0 * c0) (c := a0 * f0 - c0 * c0) (by omega) (J5 b' (by omega)) h2 y z
    have := Zh (a0 * x + b0 * y + c0 * z); omega
theorem Qep {n : Nat} (h1 : 1 ≤ n) (h3 : n ≤ 3) {f : List (List Int)} (hs : Zx n f) (u v : Nat → Int) (s t : Int) : valF n f (fun k => s * u k + t * v k) = s * s * valF n f u + 2 * (s * t * Zi n f u v) + t * t * valF n f v := by
  have hc : n = 1 ∨ n = 2 ∨ n = 3 := by omega
  rcases hc with rfl | rfl | rfl
  · simp only [Zi, Q0]; grind
  · simp only [Zi, Q0, hs 0 1 (by decide) (by decide)]; grind
  · simp only [Zi, Q0, hs 0 1 (by decide) (by decide), hs 0 2 (by decide) (by decide), hs 1 2 (by decide) (by decide)]; grind
theorem Qwb {n : Nat} (h1 : 1 ≤ n) (h3 : n ≤ 3) {f : List (List Int)} (hs : Zx n f) (hp : ∀ u, 0 ≤ valF n f u) (u v : Nat → Int) : Zi n f u v * Zi n f u v ≤ valF n f u * valF n f v :=
  Qpu fun s t => by rw [← Qep h1 h3 hs]; exact hp _
theorem Qxt {p : LevitatePlant} (h1 : 1 ≤ p.Noise.length) (h3 : p.Noise.length ≤ 3) {m : Nat} {f : List (List Int)} (r : Arr2_Int) (x : List Int) :
    valF p.Noise.length (dM p m f r) (gi x) = r.e0 * p.Den * p.Den * valF p.Noise.length f (gi x) - r.e1 * valF p.Noise.length f (fun i => YV p m i x) := by
  have e : valF p.Noise.length (dM p m f r) (gi x) = Q0 (fun i => gi x i * Q0 (fun k => dI p m f r i k * gi x k) p.Noise.length) p.Noise.length :=
    Qau fun i hi => by congr 1; exact Qau fun k hk => by unfold dM; rw [Qdn hi hk]
  rw [e]
  unfold YV dI YW valF Zi
  generalize p.Noise.length = n at h1 h3 ⊢
  have hc : n = 1 ∨ n = 2 ∨ n = 3 := by omega
  rcases hc with rfl | rfl | rfl
  · simp only [Q0]; grind
  · simp only [Q0]; grind
  · simp only [Q0]; grind
theorem QFz {p : LevitatePlant} (h1 : 1 ≤ p.Noise.length) (h3 : p.Noise.length ≤ 3) {m : Nat} {f : List (List Int)} (hs : Zx p.Noise.length f) (r : Arr2_Int) : Zx p.Noise.length (dM p m f r) := fun i k hi hk => by
  unfold dM
  rw [Qdn hk hi, Qdn hi hk]
  unfold dI
  rw [hs i k hi hk]
  have : YW p m f k i = YW p m f i k := by
    unfold YW
    revert hs hi hk
    generalize p.Noise.length = n at h1 h3 ⊢
    intro hs hi hk
    have hc : n = 1 ∨ n = 2 ∨ n = 3 := by omega
    rcases hc with rfl | rfl | rfl
    · simp only [Q0]; grind
    · simp only [Q0, hs 0 1 (by decide) (by decide)]; grind
    · simp only [Q0, hs 0 1 (by decide) (by decide), hs 0 2 (by decide) (by decide), hs 1 2 (by decide) (by decide)]; grind
  rw [this]
theorem QGn {n : Nat} (h1 : 1 ≤ n) (h3 : n ≤ 3) {f : List (List Int)} (hs : Zx n f) (hp : ∀ u, 0 ≤ valF n f u) {c e : Nat → Int} {j : Nat} (hj : j < n) (he : -c j ≤ e j ∧ e j ≤ c j) :
    ∃ s : Int, (s = 1 ∨ s = -1) ∧ valF n f e ≤ valF n f (fun k => if k = j then c j * s else e k) := by
  have ha : 0 ≤ valF n f (fun k => if k = j then 1 else 0) := hp _
  have lin : ∀ t : Int, valF n f (fun k => if k = j then t else e k) = valF n f (fun k => if k = j then 1 else 0) * (t * t) + 2 * Zi n f (fun k => if k = j then 1 else 0) (fun k => if k = j then 0 else e k) * t + valF n f (fun k => if k = j then 0 else e k) := fun t => by
    have := Qep h1 h3 hs (fun k => if k = j then 1 else 0) (fun k => if k = j then 0 else e k) t 1
    have e1 : valF n f (fun k => if k = j then t else e k) = valF n f (fun k => t * (if k = j then 1 else 0) + 1 * (if k = j then 0 else e k)) := Qcr fun k _ => by by_cases h : k = j <;> simp [h]
    rw [e1, this]; grind
  have e0 : valF n f e = valF n f (fun k => if k = j then e j else e k) := Qcr fun k _ => by by_cases h : k = j <;> simp [h]
  rw [e0, lin (e j)]
  rcases Qwf (α := valF n f (fun k => if k = j then 1 else 0)) (β := 2 * Zi n f (fun k => if k = j then 1 else 0) (fun k => if k = j then 0 else e k)) ha he with h | h
  · refine ⟨1, .inl rfl, ?_⟩
    rw [lin (c j * 1), Int.mul_one]; omega
  · refine ⟨-1, .inr rfl, ?_⟩
    rw [lin (c j * -1)]
    have e2 : c j * -1 = -c j := by omega
    have e3 : -c j * -c j = c j * c j := by grind
    rw [e2, e3]; omega
theorem QFd {n : Nat} (h3 : n ≤ 3) (s : Nat → Int) (hs : ∀ k, k < n → s k = 1 ∨ s k = -1) : ∃ q, q < 2 ^ n ∧ ∀ k, k < n → Z8 q k = s k := by
  have key : ∀ n, n ≤ 3 → (∀ k, k < n → s k = 1 ∨ s k = -1) → ∃ q, q < 2 ^ n ∧ ∀ k, k < n → Z8 q k = s k := by
    intro n
    induction n with
    | zero => intro _ _; exact ⟨0, by decide, fun k hk => by omega⟩
    | succ n ih =>
      intro h3 hs
      obtain ⟨q, hq, h⟩ := ih (by omega) fun k hk => hs k (by omega)
      have hp : 2 ^ (n + 1) = 2 * 2 ^ n := by rw [Nat.pow_succ]; omega
      rcases hs n (by omega) with h1 | h1
      · refine ⟨q, by omega, fun k hk => ?_⟩
        by_cases hkn : k = n
        · subst hkn; unfold Z8; rw [Nat.div_eq_of_lt hq, h1]; rfl
        · exact h k (by omega)
      · refine ⟨q + 2 ^ n, by omega, fun k hk => ?_⟩
        by_cases hkn : k = n
        · subst hkn
          unfold Z8
          rw [Nat.add_div_right _ (Nat.pow_pos (by decide)), Nat.div_eq_of_lt hq, h1]; rfl
        · have hlt : k < n := by omega
          rw [← h k hlt]
          unfold Z8
          have e : 2 ^ n = 2 ^ k * (2 * 2 ^ (n - 1 - k)) := by rw [← Nat.mul_assoc, ← Nat.pow_succ, ← Nat.pow_add]; congr 1; omega
          rw [e, Nat.add_mul_div_left _ _ (Nat.pow_pos (by decide)), Nat.add_mul_mod_self_left]
  exact key n h3 hs
theorem QGo {p : LevitatePlant} (h1 : 1 ≤ p.Noise.length) (h3 : p.Noise.length ≤ 3) {f : List (List Int)} (hs : Zx p.Noise.length f) (hp : ∀ u, 0 ≤ valF p.Noise.length f u) {D : Int} {e : Nat → Int}
    (he : ∀ k, k < p.Noise.length → -(D * (gi p.Noise k + 1)) ≤ e k ∧ e k ≤ D * (gi p.Noise k + 1)) : valF p.Noise.length f e ≤ D * D * Y5 p f := by
  have ends : ∃ s : Nat → Int, (∀ k, k < p.Noise.length → s k = 1 ∨ s k = -1) ∧ valF p.Noise.length f e ≤ valF p.Noise.length f (fun k => D * (gi p.Noise k + 1) * s k) := by
    have key : ∀ j, j ≤ p.Noise.length → ∃ s : Nat → Int, (∀ k, k < p.Noise.length → s k = 1 ∨ s k = -1) ∧ valF p.Noise.length f e ≤ valF p.Noise.length f (fun k => if k < j then D * (gi p.Noise k + 1) * s k else e k) := by
      intro j
      induction j with
      | zero => intro _; exact ⟨fun _ => 1, fun _ _ => .inl rfl, by simp⟩
      | succ j ih =>
        intro hj
        obtain ⟨s, hsg, hv⟩ := ih (by omega)
        obtain ⟨q, hq, hv2⟩ := QGn h1 h3 hs hp (c := fun k => D * (gi p.Noise k + 1)) (e := fun k => if k < j then D * (gi p.Noise k + 1) * s k else e k) (j := j) (by omega) (by simpa using he j (by omega))
        refine ⟨fun k => if k = j then q else s k, fun k hk => by by_cases h : k = j <;> simp [h, hq]; exact hsg k hk, Int.le_trans hv (Int.le_trans hv2 (Int.le_of_eq (Qcr fun k _ => ?_)))⟩
        by_cases h : k = j
        · subst h; simp
        · by_cases h2 : k < j
          · simp [h, h2, show k < j + 1 by omega]
          · simp [h, h2, show ¬ k < j + 1 by omega]
    obtain ⟨s, hsg, hv⟩ := key p.Noise.length (Nat.le_refl _)
    exact ⟨s, hsg, Int.le_trans hv (Int.le_of_eq (Qcr fun k hk => by simp [hk]))⟩
  obtain ⟨s, hsg, hv⟩ := ends
  obtain ⟨q, hq, hqs⟩ := QFd h3 s hsg
  have e1 : valF p.Noise.length f (fun k => D * (gi p.Noise k + 1) * s k) = D * D * Yp p.Noise.length f (xv p q) := by
    have e2 : valF p.Noise.length f (fun k => D * (gi p.Noise k + 1) * s k) = valF p.Noise.length f (fun k => D * gi (xv p q) k + 0 * 0) := Qcr fun k hk => by
      unfold xv; rw [Qbo hk, hqs k hk]; grind
    rw [e2, Qep h1 h3 hs (gi (xv p q)) (fun _ => 0) D 0, QGm]; grind
  have h4 : Yp p.Noise.length f (xv p q) ≤ Y5 p f := (Qjg (fun s => Yp p.Noise.length f (xv p s)) (2 ^ p.Noise.length) (Nat.pow_pos (by decide))).2 q hq
  rw [e1] at hv
  exact Int.le_trans hv (Int.mul_le_mul_of_nonneg_left h4 (Zh D))
theorem QGw {p : LevitatePlant} (h1 : 1 ≤ p.Noise.length) (h3 : p.Noise.length ≤ 3) {f : List (List Int)} (hs : Zx p.Noise.length f) (hp : ∀ u, 0 ≤ valF p.Noise.length f u) : 0 ≤ Y5 p f := by
  obtain ⟨⟨s, _, he⟩, _⟩ := Qjg (fun s => Yp p.Noise.length f (xv p s)) (2 ^ p.Noise.length) (Nat.pow_pos (by decide))
  unfold Y5; rw [he]; exact hp _
theorem Qvw {f : List (List Int)} (h1 : 1 ≤ f.length) (h3 : f.length ≤ 3) (hs : Zx f.length f) (hp : Yn f = true) {u : Nat → Int} {i : Nat} (hi : i < f.length) :
    0 < Q2 f (List.range f.length) ∧ u i * u i * Q2 f (List.range f.length) ≤ valF f.length f u * Q2 f (X7 f.length i) := by
  have hk : ∀ k, k < f.length → 0 < Q2 f (List.range (k + 1)) := by simpa [Yn] using hp
  have hpd := fun u => Qnc h1 h3 hs hp u
  have hd : 0 < Q2 f (List.range f.length) := by have := hk (f.length - 1) (by omega); rwa [Nat.sub_add_cancel h1] at this
  refine ⟨hd, ?_⟩
  clear hp
  generalize f.length = n at h1 h3 hs hi hk hpd hd ⊢
  have hc : n = 1 ∨ n = 2 ∨ n = 3 := by omega
  rcases hc with rfl | rfl | rfl
  · obtain rfl : i = 0 := by omega
    have e1 : Q2 f (List.range 1) = g2 f 0 0 := rfl
    have e2 : Q2 f (X7 1 0) = 1 := rfl
    rw [e1, e2, Qoj]
    exact Int.le_of_eq (by grind)
  · have a : 0 < g2 f 0 0 := hk 0 (by decide)
    have e1 : Q2 f (List.range 2) = g2 f 0 0 * g2 f 1 1 - g2 f 0 1 * g2 f 1 0 := rfl
    rw [hs 0 1 (by decide) (by decide)] at e1
    have b : 0 ≤ g2 f 1 1 := J5 a (by have := Zh (g2 f 0 1); omega)
    rw [e1, Qok hs]
    have hc : i = 0 ∨ i = 1 := by omega
    rcases hc with rfl | rfl
    · have e2 : Q2 f (X7 2 0) = g2 f 1 1 := rfl
      rw [e2]
      have e3 : (g2 f 0 0 * (u 0 * u 0) + 2 * (g2 f 0 1 * (u 0 * u 1)) + g2 f 1 1 * (u 1 * u 1)) * g2 f 1 1 - u 0 * u 0 * (g2 f 0 0 * g2 f 1 1 - g2 f 0 1 * g2 f 0 1) = (g2 f 0 1 * u 0 + g2 f 1 1 * u 1) * (g2 f 0 1 * u 0 + g2 f 1 1 * u 1) := by grind
      have := Zh (g2 f 0 1 * u 0 + g2 f 1 1 * u 1); omega
    · have e2 : Q2 f (X7 2 1) = g2 f 0 0 := rfl
      rw [e2]
      have e3 : (g2 f 0 0 * (u 0 * u 0) + 2 * (g2 f 0 1 * (u 0 * u 1)) + g2 f 1 1 * (u 1 * u 1)) * g2 f 0 0 - u 1 * u 1 * (g2 f 0 0 * g2 f 1 1 - g2 f 0 1 * g2 f 0 1) = (g2 f 0 1 * u 1 + g2 f 0 0 * u 0) * (g2 f 0 1 * u 1 + g2 f 0 0 * u 0) := by grind
      have := Zh (g2 f 0 1 * u 1 + g2 f 0 0 * u 0); omega
  · have a : 0 < g2 f 0 0 := hk 0 (by decide)
    have b1 : 0 < g2 f 0 0 * g2 f 1 1 - g2 f 0 1 * g2 f 1 0 := hk 1 (by decide)
    have e1 : Q2 f (List.range 3) = g2 f 0 0 * (g2 f 1 1 * g2 f 2 2 - g2 f 1 2 * g2 f 2 1) + g2 f 0 1 * (g2 f 1 2 * g2 f 2 0 - g2 f 1 0 * g2 f 2 2) + g2 f 0 2 * (g2 f 1 0 * g2 f 2 1 - g2 f 1 1 * g2 f 2 0) := rfl
    rw [hs 0 1 (by decide) (by decide)] at e1 b1
    rw [hs 0 2 (by decide) (by decide), hs 1 2 (by decide) (by decide)] at e1
    rw [e1] at hd ⊢
    have psd : ∀ x y z : Int, 0 ≤ g2 f 0 0 * (x * x) + g2 f 1 1 * (y * y) + g2 f 2 2 * (z * z) + 2 * (g2 f 0 1 * (x * y)) + 2 * (g2 f 0 2 * (x * z)) + 2 * (g2 f 1 2 * (y * z)) := fun x y z => by
      have := hpd (fun k => if k = 0 then x else if k = 1 then y else z)
      rw [Qje hs] at this; simpa using this
    rw [Qje hs]
    have hc : i = 0 ∨ i = 1 ∨ i = 2 := by omega
    rcases hc with rfl | rfl | rfl
    · have e2 : Q2 f (X7 3 0) = g2 f 1 1 * g2 f 2 2 - g2 f 1 2 * g2 f 2 1 := rfl
      rw [hs 1 2 (by decide) (by decide)] at e2
      rw [e2]
      exact Qkc psd (A := g2 f 0 0) (B := g2 f 0 1) (C := g2 f 0 2) (Dd := g2 f 1 1) (E := g2 f 1 2) (F := g2 f 2 2) hd _ _ _
    · have e2 : Q2 f (X7 3 1) = g2 f 0 0 * g2 f 2 2 - g2 f 0 2 * g2 f 2 0 := rfl
      rw [hs 0 2 (by decide) (by decide)] at e2
      rw [e2]
      have := Qkc (A := g2 f 1 1) (B := g2 f 0 1) (C := g2 f 1 2) (Dd := g2 f 0 0) (E := g2 f 0 2) (F := g2 f 2 2) (fun x y z => by have := psd y x z; grind) (by grind) (u 1) (u 0) (u 2)
      grind
    · have e2 : Q2 f (X7 3 2) = g2 f 0 0 * g2 f 1 1 - g2 f 0 1 * g2 f 1 0 := rfl
      rw [hs 0 1 (by decide) (by decide)] at e2
      rw [e2]
      have := Qkc (A := g2 f 2 2) (B := g2 f 0 2) (C := g2 f 1 2) (Dd := g2 f 0 0) (E := g2 f 0 1) (F := g2 f 1 1) (fun x y z => by have := psd y z x; grind) (by grind) (u 2) (u 0) (u 1)
      grind

/-! ### An accepted proof -/
structure Prf (p : LevitatePlant) (f : List (List Int)) (r : Arr2_Int) (L : Int) : Prop where
  rp : Rp p
  rf : Rf f
  len : f.length = p.Noise.length
  rr : Rr r
  pos : Yn f = true
  les : ∀ m, m < p.Maps.length → YL p.Noise.length (dM p m f r) = true
  lev : 0 ≤ L ∧ L ≤ 100000000000000
  kpt : YT L (Y5 p f) r = true
theorem QAc {p : LevitatePlant} {f : List (List Int)} {r : Arr2_Int} : Jk p f r = none ↔ ∀ m, m < p.Maps.length → YL p.Noise.length (dM p m f r) = true := by
  unfold Jk
  rw [fs_none]
  constructor
  · intro h m hm
    have := h m hm
    rw [Nat.zero_add] at this
    split at this
    · assumption
    · cases this
  · intro h m hm
    rw [Nat.zero_add, if_pos (h m hm)]
theorem pvV_zero {p : LevitatePlant} {f : List (List Int)} {r : Arr2_Int} : (ZH p f r).2 = 0 ↔ Rr r ∧ Yn f = true ∧ ∀ m, m < p.Maps.length → YL p.Noise.length (dM p m f r) = true := by
  rw [← QAc, ← rateB_iff]
  unfold ZH
  cases hr : ZJ r <;> cases hp : Yn f <;> cases hl : Jk p f r <;> simp
section
variable {p : LevitatePlant} {f : List (List Int)} {r : Arr2_Int} {L : Int}
theorem Prf.n1 (h : Prf p f r L) : 1 ≤ p.Noise.length := by have := h.rf.n1; have := h.len; omega
theorem Prf.sym (h : Prf p f r L) : Zx p.Noise.length f := by rw [← h.len]; exact h.rf.sym
theorem Prf.psd (h : Prf p f r L) (u : Nat → Int) : 0 ≤ valF p.Noise.length f u := by rw [← h.len]; exact Qnc h.rf.n1 h.rf.n3 h.rf.sym h.pos u
theorem Prf.wst (h : Prf p f r L) : 0 ≤ Y5 p f := QGw h.n1 h.rp.n3 h.sym h.psd
theorem Prf.step (h : Prf p f r L) {x : List Int} {s : LevitateSample} (hs : Sm p s) (hv : valF p.Noise.length f (gi x) ≤ L) : valF p.Noise.length f (gi (Yo p x s)) ≤ L := by
  have hm : s.Map.toNat < p.Maps.length := by have := hs.m0; have := hs.m1; omega
  have hd := h.rp.den
  have hD : 0 < p.Den * p.Den := Int.mul_pos (by omega) (by omega)
  have h1 := QAn h.n1 h.rp.n3 (QFz h.n1 h.rp.n3 h.sym r) (h.les _ hm) (gi x)
  rw [Qxt h.n1 h.rp.n3] at h1
  have hr0 := h.rr.e0; have hr1 := h.rr.e1
  -- what rounding and the disturbance add
  let e : Nat → Int := fun i => p.Den * gi (Yo p x s) i - YV p s.Map.toNat i x
  have he : ∀ k, k < p.Noise.length → -(p.Den * (gi p.Noise k + 1)) ≤ e k ∧ e k ≤ p.Den * (gi p.Noise k + 1) := fun k hk => by
    have h3 := hs.nz k hk
    have h4 : gi (Yo p x s) k = YV p s.Map.toNat k x / p.Den + gi s.Noise k := by unfold Yo; rw [Qbo hk]
    have h5 := Int.mul_ediv_add_emod (YV p s.Map.toNat k x) p.Den
    have h6 := Int.emod_nonneg (YV p s.Map.toNat k x) (show p.Den ≠ 0 by omega)
    have h7 := Int.emod_lt_of_pos (YV p s.Map.toNat k x) (show 0 < p.Den by omega)
    have h8 : p.Den * -gi p.Noise k ≤ p.Den * gi s.Noise k := Int.mul_le_mul_of_nonneg_left h3.1 (by omega)
    have h9 : p.Den * gi s.Noise k ≤ p.Den * gi p.Noise k := Int.mul_le_mul_of_nonneg_left h3.2 (by omega)
    show -(p.Den * (gi p.Noise k + 1)) ≤ p.Den * gi (Yo p x s) k - YV p s.Map.toNat k x ∧ p.Den * gi (Yo p x s) k - YV p s.Map.toNat k x ≤ p.Den * (gi p.Noise k + 1)
    rw [h4, Int.mul_add, Int.mul_add, Int.mul_one]
    rw [Int.mul_neg] at h8
    omega
  have h2 := QGo h.n1 h.rp.n3 h.sym h.psd he
  have e1 : valF p.Noise.length f (fun i => 1 * YV p s.Map.toNat i x + 1 * e i) = valF p.Noise.length f (fun i => p.Den * gi (Yo p x s) i + 0 * 0) := Qcr fun k _ => by show 1 * _ + 1 * (p.Den * gi (Yo p x s) k - YV p s.Map.toNat k x) = _; omega
  rw [Qep h.n1 h.rp.n3 h.sym, Qep h.n1 h.rp.n3 h.sym (gi (Yo p x s)) (fun _ => 0) p.Den 0] at e1
  have hk := h.kpt
  unfold YT at hk
  simp only [Bool.and_eq_true, decide_eq_true_eq] at hk
  have key := Qxu (U := valF p.Noise.length f (fun i => YV p s.Map.toNat i x)) (E := valF p.Noise.length f e) (B := Zi p.Noise.length f (fun i => YV p s.Map.toNat i x) e) (L := L) (W := Y5 p f) (D := p.Den * p.Den) (r0 := r.e0) (r1 := r.e1)
    (Int.le_of_lt hD) (h.psd e) (Qwb h.n1 h.rp.n3 h.sym h.psd _ _) hr0.1 (by omega) h.lev.1 (by
      have := Int.mul_le_mul_of_nonneg_left hv (show 0 ≤ r.e0 * p.Den * p.Den from Int.mul_nonneg (Int.mul_nonneg hr0.1 (by omega)) (by omega))
      have e2 : r.e0 * (p.Den * p.Den) * L = r.e0 * p.Den * p.Den * L := by grind
      rw [e2]; omega) h2 rfl hk.1 (by
      have e3 : 4 * r.e0 * r.e1 * (L * Y5 p f) = 4 * r.e0 * r.e1 * L * Y5 p f := by grind
      rw [e3]; exact hk.2)
  refine Int.le_of_mul_le_mul_left (a := p.Den * p.Den) ?_ hD
  have e4 : p.Den * p.Den * valF p.Noise.length f (gi (Yo p x s)) = 1 * 1 * valF p.Noise.length f (fun i => YV p s.Map.toNat i x) + 2 * (1 * 1 * Zi p.Noise.length f (fun i => YV p s.Map.toNat i x) e) + 1 * 1 * valF p.Noise.length f e := by rw [e1]; simp
  rw [e4]; omega
theorem Qwo {n : Nat} {f : List (List Int)} (hb : Bd n f 10000) {l : List Nat} (hl : ∀ x ∈ l, x < n) : -6000000000000 ≤ Q2 f l ∧ Q2 f l ≤ 6000000000000 := by
  match l, hl with
  | [], _ => simp [Q2]
  | [a], hl => have := hb a a (hl a (by simp)) (hl a (by simp)); simp only [Q2]; omega
  | [a, b], hl =>
    have ha := hl a (by simp); have hb' := hl b (by simp)
    have h1 := XG (hb a a ha ha) (hb b b hb' hb')
    have h2 := XG (hb a b ha hb') (hb b a hb' ha)
    simp only [Q2]; omega
  | [a, b, c], hl =>
    have ha := hl a (by simp); have hb' := hl b (by simp); have hc := hl c (by simp)
    have q1 := XG (hb b b hb' hb') (hb c c hc hc)
    have q2 := XG (hb b c hb' hc) (hb c b hc hb')
    have q3 := XG (hb b c hb' hc) (hb c a hc ha)
    have q4 := XG (hb b a hb' ha) (hb c c hc hc)
    have q5 := XG (hb b a hb' ha) (hb c b hc hb')
    have q6 := XG (hb b b hb' hb') (hb c a hc ha)
    have t1 := XG (B := 200000000) (hb a a ha ha) (b := g2 f b b * g2 f c c - g2 f b c * g2 f c b) (by omega)
    have t2 := XG (B := 200000000) (hb a b ha hb') (b := g2 f b c * g2 f c a - g2 f b a * g2 f c c) (by omega)
    have t3 := XG (B := 200000000) (hb a c ha hc) (b := g2 f b a * g2 f c b - g2 f b b * g2 f c a) (by omega)
    simp only [Q2]; omega
  | a :: b :: c :: d :: l, _ => simp [Q2]
end
noncomputable def Qdh (f : List (List Int)) (L : Int) : List Int := (List.range f.length).map fun i => Jg (L * Q2 f (X7 f.length i)) (Q2 f (List.range f.length))
theorem Qvs (f : List (List Int)) (L : Int) : (Qdh f L).length = f.length := by simp [Qdh]
end Go.Gw

end
section
set_option maxRecDepth 8192
set_option linter.unusedSimpArgs false
set_option linter.unusedVariables false
namespace Go.Gw
open Go

theorem QDm (f : List (List Int)) (hl : f.length < 1073741824) : Qig f = some (Zk f) := by
  unfold Qig
  have e1 : (decide ((f.length : Int) = 0)) = decide (f.length = 0) := Y7 _ 0
  have e2 : (decide (3 < (f.length : Int))) = decide (3 < f.length) := by rw [Bool.eq_iff_iff, decide_eq_true_iff, decide_eq_true_iff]; omega
  rw [e1, e2]
  unfold Zk
  by_cases h1 : f.length = 0
  · simp [h1]
  · by_cases h2 : 3 < f.length
    · simp [h1, h2]
    · have hsh : loop (Qid f) 0 = some (oi (if f.any (Y1 f) then some 10 else none)) := by
        rw [Ya f (fun _ r => if Y1 f r then some (10 : Int) else none)]
        · have : ∀ (l : List (List Int)) t, fs (fun _ r => if Y1 f r then some (10 : Int) else none) t l = if l.any (Y1 f) then some 10 else none := by
            intro l
            induction l with
            | nil => intro t; rfl
            | cons y ys ih =>
              intro t
              cases hy : Y1 f y with
              | true => simp [fs, hy]
              | false => simp [fs, hy]; simpa using ih (t + 1)
          rw [this]
        · intro k hk
          unfold Qid
          rw [Xm hk, cond_true, XI hk, Qq, Y7, Xk k (by omega)]
          show (bif Y1 f f[k] then _ else _) = _
          cases Y1 f f[k] <;> rfl
        · unfold Qid
          rw [Xn]; rfl
      rw [hsh]
      cases h3 : f.any (Y1 f) with
      | true => simp [h1, h2, oi, Xt]
      | false =>
        have hq := Qoa h3
        have hloop : loop (Qif f) 0 = some (oi (fs (ZC f) 0 f)) := by
          refine Ya f _ (fun i hi => ?_) ?_
          · unfold Qif
            rw [Xm hi, cond_true]
            have hri : f[i].length = f.length := by rw [ZQ hi]; exact hq.row i hi
            have hin : loop (Qie f (i : Int)) 0 = some (oi ((ZC f i f[i]).map fun r => (.inr (.inl r) : Int ⊕ (Int ⊕ Unit)))) := by
              rw [Ya f[i] (fun k x => (if Xy 10000 x then (if g2 f k i = x then none else some (3 : Int)) else some 2).map fun r => (.inr (.inl r) : Int ⊕ (Int ⊕ Unit)))]
              · rw [J4 (fun r => (.inr (.inl r) : Int ⊕ (Int ⊕ Unit)))]; rfl
              · intro k hk
                have hkf : k < f.length := by omega
                have hki : i < (gr f k).length := by rw [hq.row k hkf]; exact hi
                unfold Qie
                rw [Xm hkf, cond_true, XI hi, Qq, XI hk, Qq, Qbh, Qq, Zt hkf]
                simp only [Qq, XI hk, XO hki]
                rw [Xk k (by omega)]
                show (bif !Xy 10000 f[i][k] then _ else _) = XS (Option.map _ (if Xy 10000 f[i][k] then (if g2 f k i = f[i][k] then none else some 3) else some 2)) k
                unfold g2
                generalize f[i][k] = a
                generalize gi (gr f k) i = b
                by_cases h5 : b = a
                · subst h5; cases Xy 10000 b <;> simp [XS]
                · have h5' : ¬ a = b := fun e => h5 e.symm
                  cases Xy 10000 a <;> simp [h5, h5', XS]
              · unfold Qie
                rw [hri, Xn]; rfl
            rw [hin, Qq, Xk i (by omega)]
            cases ZC f i f[i] <;> rfl
          · unfold Qif
            rw [Xn]; rfl
        simp only [h1, h2, hloop, decide_false, cond_false, if_false, Qq, Bool.false_eq_true, oi, Xt]
        cases fs (ZC f) 0 f <;> rfl
end Go.Gw

end
section
set_option maxRecDepth 8192
set_option linter.unusedSimpArgs false
set_option linter.unusedVariables false
namespace Go.Gw
open Go

theorem Runs.gd {α β : Type} {Q : α → Prop} [Inhabited β] {g : Bool} {e : Option β} {f : β → Option α} (ht : g = true → Runs (Option.bind e f) Q) (hf : g = false → Runs (f default) Q) : Runs (Option.bind (bif g then e else Option.some default) f) Q := by
  cases g
  · exact hf rfl
  · exact ht rfl
theorem QFg (f : List (List Int)) : Runs (Qfz f) fun b => b = true → f.length ≤ 5 ∧ ∀ r ∈ f, r.length ≤ 5 := by
  unfold Qfz
  refine Runs.bif (fun _ => Runs.some (fun h => by cases h)) fun hc => ?_
  rw [decide_eq_false_iff_not] at hc
  rw [Ya f (fun _ r => if 5 < r.length then some false else none), Qq]
  · cases hf : fs (fun (_ : Nat) (r : List Int) => if 5 < r.length then some false else none) 0 f with
    | some b =>
      obtain ⟨i, hi, h2⟩ := ZP hf
      split at h2
      · cases h2; exact ⟨false, rfl, fun h => by cases h⟩
      · cases h2
    | none =>
      refine ⟨true, rfl, fun _ => ⟨by omega, fun s hs => ?_⟩⟩
      obtain ⟨i, hi, rfl⟩ := List.mem_iff_getElem.1 hs
      have h2 := fs_none.1 hf i hi
      split at h2
      · cases h2
      · omega
  · intro k hk
    unfold Qla
    rw [Xm hk, XI hk, Xk k (by omega), cond_true, Qq]
    by_cases h2 : 5 < f[k].length
    · rw [decide_eq_true (by omega), if_pos h2]; rfl
    · rw [decide_eq_false (by omega), if_neg h2]; rfl
  · unfold Qla
    rw [Xn]; rfl
def Jn (p : LevitatePlant) (f : List (List Int)) : Int := if Zk f ≠ 0 then Zk f else if f.length = p.Noise.length then 0 else 13
theorem QDq (p : LevitatePlant) (f : List (List Int)) (hl : f.length < 1073741824) : Qik p f = some (Jn p f) := by
  unfold Qik Jn
  rw [QDm f hl, Qq, Y7]
  by_cases h : Zk f = 0
  · by_cases h2 : f.length = p.Noise.length <;> simp [h, h2]
  · simp [h]
theorem pfE_zero {p : LevitatePlant} {f : List (List Int)} : Jn p f = 0 ↔ Rf f ∧ f.length = p.Noise.length := by
  rw [← frmE_right]
  unfold Jn
  by_cases h : Zk f = 0
  · by_cases h2 : f.length = p.Noise.length <;> simp [h, h2]
  · simp [h]
theorem Qrp {step : (Int × Int) → Option ((Int × Int) ⊕ Int)} (n : Nat) (t : Nat → Int) (a0 : Int) (hs : ∀ k, k < n → ∀ a, step (a, (k : Int)) = some (.inl (w64 (a + t k), ((k + 1 : Nat) : Int)))) (he : ∀ a, step (a, (n : Int)) = some (.inr a)) (ha : w64 a0 = a0) :
    loop step (a0, 0) = some (w64 (a0 + Q0 t n)) := by
  have key : ∀ k, k ≤ n → loop step (a0, 0) = loop step (w64 (a0 + Q0 t k), (k : Int)) := by
    intro k
    induction k with
    | zero => intro _; simp only [Q0, Int.add_zero, ha]; rfl
    | succ k ih => intro hk; rw [ih (by omega), YC (hs k (by omega) _), Qeq]; simp only [Q0, Int.add_assoc]
  rw [key n (Nat.le_refl _)]
  exact XZ (he _)
theorem Qoe (c : Int) (t : Nat → Int) : ∀ n, Q0 (fun k => c * t k) n = c * Q0 t n
  | 0 => by simp [Q0]
  | n + 1 => by simp only [Q0]; rw [Qoe c t n, Int.mul_add]
theorem Qto (x : Int) : w64 (w64 x) = w64 x := by have := Qeq x 0; simpa using this
theorem QDs {n : Nat} {f : List (List Int)} (h : Sq n f) {x : List Int} (hx : x.length = n) (hn : n < 1000) : Qin f x = some (w64 (Yp n f x)) := by
  unfold Qin
  have key : ∀ k, k ≤ n → loop (Qek f x) (0, 0) = loop (Qek f x) (w64 (Q0 (fun i => gi x i * Q0 (fun k => g2 f i k * gi x k) n) k), (k : Int)) := by
    intro i
    induction i with
    | zero => intro _; rfl
    | succ i ih =>
      intro hi
      rw [ih (by omega)]
      have inner : loop (Qim f x (i : Int)) (w64 (Q0 (fun i => gi x i * Q0 (fun k => g2 f i k * gi x k) n) i), 0) = some (w64 (Q0 (fun i => gi x i * Q0 (fun k => g2 f i k * gi x k) n) (i + 1))) := by
        rw [Qrp n (fun k => gi x i * (g2 f i k * gi x k))]
        · rw [Qoe, Qeq]; rfl
        · intro k hk a
          unfold Qim
          dsimp only
          rw [hx, Xm hk, cond_true, Zt (by rw [h.len]; omega), Qq, XO (by omega), Qq, XO (by omega), Qq, XO (by rw [h.row i (by omega)]; exact hk), Qq, Xk k (by omega), Qom, Jt]
          congr 4
          show a + gi (gr f i) k * gi x i * gi x k = a + gi x i * (g2 f i k * gi x k)
          unfold g2; grind
        · intro a
          unfold Qim
          dsimp only
          rw [hx, Xn]; rfl
        · exact Qto _
      rw [YC (s' := (w64 (Q0 (fun i => gi x i * Q0 (fun k => g2 f i k * gi x k) n) (i + 1)), ((i + 1 : Nat) : Int)))]
      unfold Qek
      dsimp only
      rw [hx, Xm (by omega), cond_true, inner, Qq, Xk i (by omega)]
  rw [key n (Nat.le_refl _), XZ (o := w64 (Yp n f x))]
  · rfl
  · unfold Qek
    dsimp only
    rw [hx, Xn]; rfl
end Go.Gw

end
section
set_option maxRecDepth 8192
set_option linter.unusedSimpArgs false
set_option linter.unusedVariables false
namespace Go.Gw
open Go

theorem QDp (p : LevitatePlant) (h : Sh p) : Qij p = some (X1 p).2 := by
  unfold Qij; rw [QDl p h]; rfl
end Go.Gw

end
section
set_option maxRecDepth 8192
set_option linter.unusedSimpArgs false
set_option linter.unusedVariables false
namespace Go.Gw
open Go

end Go.Gw

end
section
set_option maxRecDepth 8192
set_option linter.unusedSimpArgs false
set_option linter.unusedVariables false
namespace Go.Gw
open Go

theorem Bx.rng {p : LevitatePlant} {x : List Int} (h : Bx p x) : ∀ k, k < p.Noise.length → 0 ≤ gi x k ∧ gi x k ≤ 100000 := fun k hk => ⟨h.ge k (by rw [h.len]; exact hk), h.le k (by rw [h.len]; exact hk)⟩
/-! ### What lies in a box -/
end Go.Gw

end
section
set_option maxRecDepth 8192
set_option linter.unusedSimpArgs false
set_option linter.unusedVariables false
namespace Go.Gw
open Go

theorem QAh {α : Type} {n : Nat} {z : α} (h : n ≤ 1048576) : mk (n : Int) z = some (List.replicate n z) := by
  unfold mk; rw [if_pos (by omega), Int.toNat_natCast]
theorem Qkr {n k : Nat} : gi (List.replicate n 0) k = 0 := by
  unfold gi; rw [List.getD_eq_getElem?_getD, List.getElem?_replicate]; split <;> rfl
end Go.Gw

end
