/- LevitateForces answers true. Condition: none. -/
import Derived.Test.YtglaeocolbnpdaaGreatGwLev14
import Derived.Test.YtglaeocolbnpdaaGreatGwLawLevitateForces
set_option maxRecDepth 8192
set_option linter.unusedSimpArgs false
set_option linter.unusedVariables false
namespace Go.Gw
open Go

def rgR (lo hi : Int) (r : Range) : Bool := (decide (lo ≤ r.Lo) && decide (r.Lo ≤ hi)) && (decide (lo ≤ r.Hi) && decide (r.Hi ≤ hi))
def facB (n : Int) : Bool := decide (1 ≤ n) && decide (n ≤ 1000000000)
def mgE (f : Int) (c g : Range) : Int := if facB f && (rgR 0 1000 c && rgR 1 3000 g) then (if c.Lo ≤ c.Hi ∧ g.Lo ≤ g.Hi then 0 else 9) else 2
structure Mg (f : Int) (c g : Range) : Prop where
  f1 : 1 ≤ f
  f2 : f ≤ 1000000000
  c0 : 0 ≤ c.Lo
  c1 : c.Lo ≤ c.Hi
  c2 : c.Hi ≤ 1000
  g0 : 1 ≤ g.Lo
  g1 : g.Lo ≤ g.Hi
  g2 : g.Hi ≤ 3000
theorem mgE_right {f : Int} {c g : Range} : mgE f c g = 0 ↔ Mg f c g := by
  unfold mgE facB rgR
  constructor
  · intro h
    split at h
    · rename_i h1
      split at h
      · rename_i h2
        simp only [Bool.and_eq_true, decide_eq_true_eq] at h1
        exact ⟨by omega, by omega, by omega, by omega, by omega, by omega, by omega, by omega⟩
      · omega
    · omega
  · intro h
    obtain ⟨a, b, c1, d, e, f1, g1, h1⟩ := h
    rw [if_pos (by simp only [Bool.and_eq_true, decide_eq_true_eq]; omega), if_pos (by omega)]
def frV (f : Int) (c g : Range) : Range := ⟨(f * c.Lo * c.Lo) / (g.Hi * g.Hi), (f * c.Hi * c.Hi + g.Lo * g.Lo - 1) / (g.Lo * g.Lo)⟩
theorem sq_b {x m : Int} (h0 : 0 ≤ x) (h1 : x ≤ m) : 0 ≤ x * x ∧ x * x ≤ m * m := ⟨Int.mul_nonneg h0 h0, Int.mul_le_mul h1 h1 h0 (by omega)⟩
theorem fcc {f x : Int} (h0 : 0 ≤ f) (h1 : f ≤ 1000000000) (h2 : 0 ≤ x) (h3 : x ≤ 1000) : w64 (w64 (f * x) * x) = f * x * x ∧ 0 ≤ f * x * x ∧ f * x * x ≤ 1000000000000000 := by
  have a : 0 ≤ f * x := Int.mul_nonneg h0 h2
  have b : f * x ≤ 1000000000 * 1000 := Int.mul_le_mul h1 h3 h2 (by omega)
  have c : 0 ≤ f * x * x := Int.mul_nonneg a h2
  have d : f * x * x ≤ (1000000000 * 1000) * 1000 := Int.mul_le_mul b h3 h2 (by omega)
  rw [w64_id (x := f * x) (by omega), w64_id (by omega)]
  exact ⟨rfl, c, by omega⟩
theorem gsq {x : Int} (h2 : 1 ≤ x) (h3 : x ≤ 3000) : w64 (x * x) = x * x ∧ 1 ≤ x * x ∧ x * x ≤ 9000000 := by
  have a := sq_b (x := x) (m := 3000) (by omega) h3
  have b : 1 * 1 ≤ x * x := Int.mul_le_mul h2 h2 (by omega) (by omega)
  rw [w64_id (by omega)]
  exact ⟨rfl, by omega, by omega⟩
theorem ForceOf_ok (f : Int) (c g : Range) : levitate_ForceOf_spec f c g = some (if mgE f c g = 0 then (frV f c g, 0) else (⟨0, 0⟩, mgE f c g)) := by
  unfold levitate_ForceOf_spec levitate_isFactor_spec levitate_ends_95_spec levitate_ends_96_spec levitate_isCurrent_spec levitate_isGap_spec
  simp only [lwithin_ok, lunless_ok, first2, Option.bind_some]
  by_cases h0 : mgE f c g = 0
  · have h := mgE_right.1 h0
    obtain ⟨a1, a2, a3, a4, a5, a6, a7, a8⟩ := h
    have h := mgE_right.1 h0
    have e1 : (decide (1 ≤ f) && decide (f ≤ 1000000000)) = true := by simp; omega
    have e2 : (decide (0 ≤ c.Lo) && decide (c.Lo ≤ 1000)) = true := by simp; omega
    have e3 : (decide (0 ≤ c.Hi) && decide (c.Hi ≤ 1000)) = true := by simp; omega
    have e4 : (decide (1 ≤ g.Lo) && decide (g.Lo ≤ 3000)) = true := by simp; omega
    have e5 : (decide (1 ≤ g.Hi) && decide (g.Hi ≤ 3000)) = true := by simp; omega
    have e6 : (decide (c.Lo ≤ c.Hi) && decide (g.Lo ≤ g.Hi)) = true := by simp; omega
    rw [if_pos h0]
    simp only [e1, e2, e3, e4, e5, e6, cond_true, Option.bind_some, Bool.and_self, if_true, decide_true, Bool.not_true, cond_false]
    have a := fcc (f := f) (x := c.Lo) (by omega) a2 a3 (by omega)
    have b := fcc (f := f) (x := c.Hi) (by omega) a2 (by omega) a5
    have c1 := gsq (x := g.Lo) a6 (by omega)
    have d := gsq (x := g.Hi) (by omega) a8
    rw [a.1, b.1, c1.1, d.1, lfloor_ok (by omega) (by omega) (by omega), Option.bind_some, lceil_ok b.2.1 (by omega) (by omega) (by omega), Option.bind_some]
    rfl
  · rw [if_neg h0]
    unfold mgE facB rgR at h0 ⊢
    cases h1 : (decide (1 ≤ f) && decide (f ≤ 1000000000)) <;> cases h2 : (decide (0 ≤ c.Lo) && decide (c.Lo ≤ 1000)) <;> cases h3 : (decide (0 ≤ c.Hi) && decide (c.Hi ≤ 1000)) <;> cases h4 : (decide (1 ≤ g.Lo) && decide (g.Lo ≤ 3000)) <;> cases h5 : (decide (1 ≤ g.Hi) && decide (g.Hi ≤ 3000)) <;> simp only [h1, h2, h3, h4, h5, cond_true, cond_false, Option.bind_some, Bool.and_self, Bool.and_false, Bool.and_true, Bool.false_and, Bool.true_and, if_true, Bool.false_eq_true, if_false] at h0 ⊢ <;> first | rfl | skip
    have : (decide (c.Lo ≤ c.Hi) && decide (g.Lo ≤ g.Hi)) = false := by
      rw [Bool.eq_false_iff]; intro h; simp only [Bool.and_eq_true, decide_eq_true_eq] at h; rw [if_pos h] at h0; exact h0 rfl
    have h6 : ¬ (c.Lo ≤ c.Hi ∧ g.Lo ≤ g.Hi) := fun h => by rw [if_pos h] at h0; exact h0 rfl
    rw [this, if_neg h6]
    rfl
theorem rMagnetErr_ok (f : Int) (c g : Range) : ref02_MagnetErr_spec f c g = some (mgE f c g) := by
  unfold ref02_MagnetErr_spec mgE facB rgR
  simp only [bwithin_ok]
  cases h1 : (decide (1 ≤ f) && decide (f ≤ 1000000000)) <;> cases h2 : (decide (0 ≤ c.Lo) && decide (c.Lo ≤ 1000)) <;> cases h3 : (decide (0 ≤ c.Hi) && decide (c.Hi ≤ 1000)) <;> cases h4 : (decide (1 ≤ g.Lo) && decide (g.Lo ≤ 3000)) <;> cases h5 : (decide (1 ≤ g.Hi) && decide (g.Hi ≤ 3000)) <;> simp only [cond_true, cond_false, Option.bind_some, Bool.and_self, Bool.and_false, Bool.and_true, Bool.false_and, Bool.true_and, if_true, Bool.false_eq_true, if_false, Bool.not_true, Bool.not_false, Bool.or_false, Bool.or_true, Bool.or_self] <;> first | rfl | skip
  by_cases h6 : c.Lo ≤ c.Hi ∧ g.Lo ≤ g.Hi
  · have : (decide (c.Hi < c.Lo) || decide (g.Hi < g.Lo)) = false := by simp; omega
    rw [this, if_pos h6]; rfl
  · have : (decide (c.Hi < c.Lo) || decide (g.Hi < g.Lo)) = true := by simp; omega
    rw [this, if_neg h6]; rfl
theorem rForce_ok {f : Int} {c g : Range} (h : Mg f c g) : ref02_Force_spec f c g = some (frV f c g) := by
  obtain ⟨a1, a2, a3, a4, a5, a6, a7, a8⟩ := h
  unfold ref02_Force_spec
  have a := fcc (f := f) (x := c.Lo) (by omega) a2 a3 (by omega)
  have b := fcc (f := f) (x := c.Hi) (by omega) a2 (by omega) a5
  have c1 := gsq (x := g.Lo) a6 (by omega)
  have d := gsq (x := g.Hi) (by omega) a8
  rw [a.1, b.1, c1.1, d.1, bfloor_ok (by omega) (by omega) (by omega), Option.bind_some, bceil_ok b.2.1 (by omega) (by omega) (by omega), Option.bind_some]
  rfl
def ldE (f load : Int) (g : Range) : Int := if decide (0 ≤ load) && decide (load ≤ 1000000) then mgE f ⟨0, 0⟩ g else 2
theorem rLoadErr_ok (f load : Int) (g : Range) : ref02_LoadErr_spec f load g = some (ldE f load g) := by
  unfold ref02_LoadErr_spec ldE
  rw [bwithin_ok, rMagnetErr_ok]
  cases (decide (0 ≤ load) && decide (load ≤ 1000000)) <;> rfl
def carB (f load : Int) (g : Range) (i : Int) : Bool := decide (load * g.Hi * g.Hi ≤ f * i * i)
theorem lgg {l x : Int} (h0 : 0 ≤ l) (h1 : l ≤ 1000000) (h2 : 1 ≤ x) (h3 : x ≤ 3000) : w64 (w64 (l * x) * x) = l * x * x ∧ 0 ≤ l * x * x ∧ l * x * x ≤ 9000000000000 := by
  have a : 0 ≤ l * x := Int.mul_nonneg h0 (by omega)
  have b : l * x ≤ 1000000 * 3000 := Int.mul_le_mul h1 h3 (by omega) (by omega)
  have c : 0 ≤ l * x * x := Int.mul_nonneg a (by omega)
  have d : l * x * x ≤ (1000000 * 3000) * 3000 := Int.mul_le_mul b h3 (by omega) (by omega)
  rw [w64_id (x := l * x) (by omega), w64_id (by omega)]
  exact ⟨rfl, c, by omega⟩
theorem carB_mono {f load : Int} {g : Range} (hf : 1 ≤ f) {i k : Int} (h0 : 0 ≤ i) (hik : i ≤ k) (h : carB f load g i = true) : carB f load g k = true := by
  unfold carB at h ⊢
  rw [decide_eq_true_eq] at h ⊢
  have a : f * i ≤ f * k := Int.mul_le_mul_of_nonneg_left hik (by omega)
  have b : f * i * i ≤ f * k * k := Int.mul_le_mul a hik h0 (Int.mul_nonneg (by omega) (by omega))
  omega
structure Ld (f load : Int) (g : Range) : Prop where
  f1 : 1 ≤ f
  f2 : f ≤ 1000000000
  l0 : 0 ≤ load
  l1 : load ≤ 1000000
  g0 : 1 ≤ g.Lo
  g1 : g.Lo ≤ g.Hi
  g2 : g.Hi ≤ 3000
theorem ldE_right {f load : Int} {g : Range} : ldE f load g = 0 ↔ Ld f load g := by
  unfold ldE
  constructor
  · intro h
    split at h
    · rename_i h1
      simp only [Bool.and_eq_true, decide_eq_true_eq] at h1
      obtain ⟨a1, a2, a3, a4, a5, a6, a7, a8⟩ := mgE_right.1 h
      exact ⟨a1, a2, h1.1, h1.2, a6, a7, a8⟩
    · omega
  · intro h
    obtain ⟨a1, a2, a3, a4, a5, a6, a7⟩ := h
    rw [if_pos (by simp; omega)]
    exact mgE_right.2 ⟨a1, a2, by decide, by decide, by decide, a5, a6, a7⟩
def curR (f load : Int) (g : Range) (r : Int) : Prop := 0 ≤ r ∧ r ≤ 1001 ∧ (r ≤ 1000 → carB f load g r = true) ∧ (0 < r → carB f load g (r - 1) = false)
theorem curR_one {f load : Int} {g : Range} (hf : 1 ≤ f) {r s : Int} (hr : curR f load g r) (hs : curR f load g s) : r = s := by
  obtain ⟨a1, a2, a3, a4⟩ := hr
  obtain ⟨b1, b2, b3, b4⟩ := hs
  rcases Int.lt_trichotomy r s with h | h | h
  · have := carB_mono hf a1 (show r ≤ s - 1 by omega) (a3 (by omega))
    rw [b4 (by omega)] at this; cases this
  · exact h
  · have := carB_mono hf b1 (show s ≤ r - 1 by omega) (b3 (by omega))
    rw [a4 (by omega)] at this; cases this
theorem rCurrent_ok {f load : Int} {g : Range} (h : Ld f load g) : Runs (ref02_Current_spec f load g) fun q => curR f load g (if q.2 then q.1 else 1001) ∧ (q.2 = true → q.1 ≤ 1000) := by
  obtain ⟨a1, a2, a3, a4, a5, a6, a7⟩ := h
  unfold ref02_Current_spec
  have hl := lgg (l := load) (x := g.Hi) a3 a4 (by omega) a7
  refine Runs.callR (R := fun o => match o with | .inl q => q.2 = true ∧ q.1 ≤ 1000 ∧ curR f load g q.1 | .inr _ => curR f load g 1001) ?_ ?_
  · refine Runs.loop (fun s => 0 ≤ s ∧ s ≤ 1001 ∧ (0 < s → carB f load g (s - 1) = false)) (fun s => (1001 - s).toNat) ⟨by decide, by decide, fun h => absurd h (by decide)⟩ ?_
    rintro x ⟨h1, h2, h3⟩
    unfold ref02_Current_s0
    by_cases hx : x ≤ 1000
    · have hf := fcc (f := f) (x := x) (by omega) a2 h1 hx
      rw [decide_eq_true hx, cond_true, hl.1, hf.1]
      change Runs (bif carB f load g x then _ else _) _
      cases hc : carB f load g x with
      | true => exact Runs.some ⟨rfl, hx, h1, by omega, fun _ => hc, h3⟩
      | false =>
        rw [cond_false, w64_id (by omega)]
        exact Runs.some ⟨⟨by omega, by omega, fun _ => by rw [Int.add_sub_cancel]; exact hc⟩, by dsimp only; omega⟩
    · rw [decide_eq_false hx]
      obtain rfl : x = 1001 := by omega
      exact Runs.some ⟨by decide, by decide, fun h => absurd h (by decide), h3⟩
  · intro o ho
    cases o with
    | inl q => exact Runs.jl (by rw [ho.1]; exact ⟨ho.2.2, fun _ => ho.2.1⟩)
    | inr u => exact Runs.jr (Runs.some ⟨ho, fun h => by cases h⟩)
theorem lCurrentFor_ok {f load : Int} {g : Range} (h : Ld f load g) : Runs (levitate_least_101_spec 1000 f load g) fun q => curR f load g q.1 ∧ q.2 = decide (q.1 ≤ 1000) := by
  obtain ⟨a1, a2, a3, a4, a5, a6, a7⟩ := h
  unfold levitate_least_101_spec
  have hl := lgg (l := load) (x := g.Hi) a3 a4 (by omega) a7
  obtain ⟨q, hq, h1, h2, h3, h4⟩ := least_run (step := levitate_least_101_s0 g f load) (carB f load g) 1000 (by decide) (by decide)
    (by
      intro lo hi b1 b2 b3 b4
      unfold levitate_least_101_s0
      dsimp only
      have hm := mid_ok (most := 1000) b1 (by omega) b3 (by decide)
      rw [hm.1, decide_eq_true b4, cond_true, hm.2]
      unfold levitate_CurrentFor_1_spec
      have hf := fcc (f := f) (x := lo + (hi - lo) / 2) (by omega) a2 (by omega) (by omega)
      rw [hl.1, hf.1, Option.bind_some]
      change (bif carB f load g (lo + (hi - lo) / 2) then _ else _) = _
      cases carB f load g (lo + (hi - lo) / 2) <;> rfl)
    (by
      intro lo hi b1 b2 b3 b4
      unfold levitate_least_101_s0
      dsimp only
      have hm := mid_ok (most := 1000) b1 (by omega) b3 (by decide)
      rw [hm.1, decide_eq_false b4]; rfl)
  refine Runs.call hq (Runs.some ⟨⟨h1, h2, h3, h4⟩, rfl⟩)
theorem CurrentFor_ok (f load : Int) (g : Range) : Runs (levitate_CurrentFor_spec f load g) fun q => if ldE f load g = 0 then (∃ r, curR f load g r ∧ q = if r ≤ 1000 then (r, 0) else (0, 12)) else q = (0, ldE f load g) := by
  unfold levitate_CurrentFor_spec levitate_isFactor_spec levitate_isLoad_spec levitate_ends_96_spec levitate_isGap_spec
  simp only [lwithin_ok, lunless_ok, first2, Option.bind_some]
  by_cases h0 : ldE f load g = 0
  · have h := ldE_right.1 h0
    have h' := h
    obtain ⟨a1, a2, a3, a4, a5, a6, a7⟩ := h'
    have e1 : (decide (1 ≤ f) && decide (f ≤ 1000000000)) = true := by simp; omega
    have e2 : (decide (0 ≤ load) && decide (load ≤ 1000000)) = true := by simp; omega
    have e4 : (decide (1 ≤ g.Lo) && decide (g.Lo ≤ 3000)) = true := by simp; omega
    have e5 : (decide (1 ≤ g.Hi) && decide (g.Hi ≤ 3000)) = true := by simp; omega
    have e6 : decide (g.Lo ≤ g.Hi) = true := by simp; omega
    simp only [e1, e2, e4, e5, e6, h0, cond_true, Option.bind_some, Bool.and_self, if_true, decide_true, Bool.not_true, cond_false]
    refine Runs.callR (lCurrentFor_ok h) fun q hq => ?_
    rw [hq.2]
    by_cases hle : q.1 ≤ 1000
    · rw [decide_eq_true hle]; exact Runs.some ⟨q.1, hq.1, by rw [if_pos hle]⟩
    · rw [decide_eq_false hle]; exact Runs.some ⟨q.1, hq.1, by rw [if_neg hle]⟩
  · simp only [h0, if_false]
    unfold ldE mgE facB rgR at h0 ⊢
    have z : (decide ((0 : Int) ≤ 0) && decide ((0 : Int) ≤ 1000)) = true := by decide
    simp only [z, Bool.and_self, Bool.true_and] at h0 ⊢
    cases h1 : (decide (1 ≤ f) && decide (f ≤ 1000000000)) <;> cases h2 : (decide (0 ≤ load) && decide (load ≤ 1000000)) <;> cases h4 : (decide (1 ≤ g.Lo) && decide (g.Lo ≤ 3000)) <;> cases h5 : (decide (1 ≤ g.Hi) && decide (g.Hi ≤ 3000)) <;> simp only [h1, h2, h4, h5, cond_true, cond_false, Option.bind_some, Bool.and_self, Bool.and_false, Bool.and_true, Bool.false_and, Bool.true_and, if_true, Bool.false_eq_true, if_false] at h0 ⊢ <;> first | exact Runs.some rfl | skip
    have h6 : ¬ ((0 : Int) ≤ 0 ∧ g.Lo ≤ g.Hi) := fun h => by rw [if_pos h] at h0; exact h0 rfl
    rw [decide_eq_false (show ¬ g.Lo ≤ g.Hi by omega), if_neg h6]
    exact Runs.some rfl
theorem frV_lo {f load : Int} {g : Range} (h : Ld f load g) {i : Int} (h0 : 0 ≤ i) (h1 : i ≤ 1000) (hc : carB f load g i = true) : load ≤ (frV f ⟨i, i⟩ g).Lo := by
  obtain ⟨a1, a2, a3, a4, a5, a6, a7⟩ := h
  have d := gsq (x := g.Hi) (by omega) a7
  unfold carB at hc
  rw [decide_eq_true_eq] at hc
  show load ≤ (f * i * i) / (g.Hi * g.Hi)
  refine Int.le_ediv_of_mul_le (by omega) ?_
  rw [← Int.mul_assoc]; exact hc
theorem LevitateForces_true (f : Int) (x : Arr2_Range) (load : Int) : law02_LevitateForces_spec f x load = some true := by
  refine Runs.eq ?_
  unfold law02_LevitateForces_spec
  refine Runs.call awake_ok ?_
  refine Runs.bif_f rfl ?_
  refine Runs.call (ForceOf_ok f x.e0 x.e1) ?_
  refine Runs.callR (CurrentFor_ok f load x.e1) fun q hq => ?_
  refine Runs.call (rMagnetErr_ok f x.e0 x.e1) ?_
  have fin : Runs (Option.bind (ref02_LoadErr_spec f load x.e1) fun r149 =>
      (bif (!decide (r149 = 0)) then (
        some ((decide (q.2 = r149)) && (decide (q.1 = 0)))
      ) else (
        (Option.bind (ref02_Current_spec f load x.e1) fun r158 =>
        (bif (!r158.2) then (
          some ((decide (q.2 = 12)) && (decide (q.1 = 0)))
        ) else (
          (Option.bind (levitate_ForceOf_spec f (Range.mk r158.1 r158.1) x.e1) fun r169 =>
          some ((((decide (q.2 = 0)) && (decide (q.1 = r158.1))) && (decide (r169.2 = 0))) && (decide (load ≤ r169.1.Lo)))
          )
        ))
        )
      ))) (· = true) := by
    refine Runs.call (rLoadErr_ok f load x.e1) ?_
    by_cases h0 : ldE f load x.e1 = 0
    · rw [if_pos h0] at hq
      have hl := ldE_right.1 h0
      obtain ⟨r, hr, rfl⟩ := hq
      rw [decide_eq_true h0]
      refine Runs.bif_f rfl ?_
      refine Runs.callR (rCurrent_ok hl) fun s hs => ?_
      have he := curR_one hl.f1 hr hs.1
      cases hs2 : s.2 with
      | false =>
        rw [hs2] at he
        simp only [Bool.false_eq_true, if_false] at he
        subst he
        exact Runs.some rfl
      | true =>
        rw [hs2] at he
        simp only [if_true] at he
        subst he
        have hle := hs.2 hs2
        have h00 := hr.1
        have hm : mgE f ⟨s.1, s.1⟩ x.e1 = 0 := mgE_right.2 ⟨hl.f1, hl.f2, h00, Int.le_refl _, hle, hl.g0, hl.g1, hl.g2⟩
        refine Runs.bif_f rfl ?_
        refine Runs.call (ForceOf_ok f ⟨s.1, s.1⟩ x.e1) ?_
        rw [if_pos hm, if_pos hle]
        have hlo := frV_lo hl h00 hle (hr.2.2.1 hle)
        exact Runs.some (by simp; exact hlo)
    · rw [if_neg h0] at hq
      subst hq
      rw [decide_eq_false h0]
      exact Runs.bif_t rfl (Runs.some (by simp))
  by_cases h0 : mgE f x.e0 x.e1 = 0
  · have hm := mgE_right.1 h0
    obtain ⟨a1, a2, a3, a4, a5, a6, a7, a8⟩ := id hm
    simp only [h0, if_true, decide_true, Bool.not_true, Bool.false_and, Bool.not_false, Bool.and_self, Bool.true_and, cond_true]
    refine Runs.call (rForce_ok hm) ?_
    refine Runs.bif_f (by simp) ?_
    refine Runs.call (b := .inr ()) ?_ (Runs.jr fin)
    have hm2 : mgE f ⟨x.e0.Hi, x.e0.Hi⟩ x.e1 = 0 := mgE_right.2 ⟨a1, a2, Int.le_trans a3 a4, Int.le_refl _, a5, a6, a7, a8⟩
    rw [ForceOf_ok, if_pos hm2, Option.bind_some]
    have c1 := gsq (x := x.e1.Lo) a6 (by omega)
    have d := gsq (x := x.e1.Hi) (by omega) a8
    have hlo : ¬ (frV f ⟨x.e0.Hi, x.e0.Hi⟩ x.e1).Lo < (frV f x.e0 x.e1).Lo := by
      have a : f * x.e0.Lo ≤ f * x.e0.Hi := Int.mul_le_mul_of_nonneg_left a4 (by omega)
      have b : f * x.e0.Lo * x.e0.Lo ≤ f * x.e0.Hi * x.e0.Hi := Int.mul_le_mul a a4 a3 (Int.mul_nonneg (by omega) (by omega))
      have c : (f * x.e0.Lo * x.e0.Lo) / (x.e1.Hi * x.e1.Hi) ≤ (f * x.e0.Hi * x.e0.Hi) / (x.e1.Hi * x.e1.Hi) := Int.ediv_le_ediv (by omega) b
      exact Int.not_lt.2 c
    have hhi : ¬ (frV f x.e0 x.e1).Hi < (frV f ⟨x.e0.Hi, x.e0.Hi⟩ x.e1).Hi := Int.not_lt.2 (Int.le_refl _)
    rw [decide_eq_false hlo, decide_eq_false hhi]
    rfl
  · simp only [h0, if_false, decide_false, decide_true, Bool.not_true, Bool.not_false, Bool.or_self, Bool.and_false, Bool.false_and, cond_false, Bool.and_self]
    refine Runs.call rfl ?_
    first | exact Runs.jr fin | exact Runs.call rfl (Runs.jr fin)
end Go.Gw
