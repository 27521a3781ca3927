/- Numbers of 192 bits: what sums, products and differences come to. Condition: none. -/
import Derived.Test.YtglaeocolbnpdaaGreatGwLev3
set_option maxRecDepth 4096
set_option linter.unusedSimpArgs false
set_option linter.unusedVariables false
namespace Go.Gw
open Go

theorem wrapU (x : Int) : IntKind.wrap .u64 x = x % 18446744073709551616 := by simp [IntKind.wrap, IntKind.bits, IntKind.signed]
def wOf (x : Int) : Arr3_U64 := ⟨x % 18446744073709551616, x / 18446744073709551616 % 18446744073709551616, x / 340282366920938463463374607431768211456 % 18446744073709551616⟩
theorem wOf_eq {x : Int} {a b c : Int} (h0 : x % 18446744073709551616 = a) (h1 : x / 18446744073709551616 % 18446744073709551616 = b) (h2 : x / 340282366920938463463374607431768211456 % 18446744073709551616 = c) : wOf x = ⟨a, b, c⟩ := by
  subst h0 h1 h2; rfl
theorem wOf_congr {x y : Int} (h : x % 6277101735386680763835789423207666416102355444464034512896 = y % 6277101735386680763835789423207666416102355444464034512896) : wOf x = wOf y := by
  unfold wOf; congr 1
  · omega
  · omega
  · omega
theorem wOf_inj {x y : Int} (h : wOf x = wOf y) : x % 6277101735386680763835789423207666416102355444464034512896 = y % 6277101735386680763835789423207666416102355444464034512896 := by
  unfold wOf at h
  simp only [Arr3_U64.mk.injEq] at h
  omega
theorem shrU (x : Int) (k : Nat) (hk : k ≤ 64) : shrS .u64 x (k : Int) = some (x / 2 ^ k) := by
  unfold shrS
  rw [if_pos ⟨by omega, by simp [IntKind.bits]; omega⟩, Int.toNat_natCast, Int.fdiv_eq_ediv_of_nonneg _ (Int.le_of_lt (Int.pow_pos (by decide)))]
theorem shrI (x : Int) (k : Nat) (hk : k ≤ 64) : shrS .i64 x (k : Int) = some (x / 2 ^ k) := by
  unfold shrS
  rw [if_pos ⟨by omega, by simp [IntKind.bits]; omega⟩, Int.toNat_natCast, Int.fdiv_eq_ediv_of_nonneg _ (Int.le_of_lt (Int.pow_pos (by decide)))]
theorem wideOf_ok {n : Int} (h : -9223372036854775808 ≤ n ∧ n ≤ 9223372036854775807) : levitate_wideOf_spec n = some (wOf n) := by
  unfold levitate_wideOf_spec
  rw [show (63 : Int) = ((63 : Nat) : Int) from rfl, shrI n 63 (by omega), Option.bind_some, wrapU, wrapU]
  congr 1
  symm
  simp only [show ((2 : Int) ^ 63) = 9223372036854775808 by decide]
  have h1 : n / 340282366920938463463374607431768211456 = n / 9223372036854775808 := by omega
  have h2 : n / 18446744073709551616 = n / 9223372036854775808 := by omega
  refine wOf_eq rfl ?_ ?_
  · rw [h2]
  · rw [h1]
theorem below_ok (x : Int) : levitate_wide_below_spec (wOf x) = some (decide (3138550867693340381917894711603833208051177722232017256448 ≤ x % 6277101735386680763835789423207666416102355444464034512896)) := by
  unfold levitate_wide_below_spec
  rw [show (63 : Int) = ((63 : Nat) : Int) from rfl, shrU _ 63 (by omega), Option.bind_some]
  congr 1
  rw [decide_eq_decide]
  simp only [wOf]
  omega
theorem addC_ok {a b c : Int} (h0 : 0 ≤ a) (h1 : 0 ≤ b) (h2 : 0 ≤ c ∧ c ≤ 1) : addC a b c = some ((a + b + c) % 18446744073709551616, (a + b + c) / 18446744073709551616) := by
  unfold addC; rw [if_pos ⟨h0, h1, h2⟩]
theorem loop_inl' {σ β : Type} {step : σ → Option (σ ⊕ β)} {s s' : σ} {r : Option β} (h : step s = some (.inl s')) (h2 : loop step s' = r) : loop step s = r := by rw [loop_inl h]; exact h2
theorem div2 (x : Int) : x / 340282366920938463463374607431768211456 = x / 18446744073709551616 / 18446744073709551616 := by omega
theorem plus_ok (x y : Int) : levitate_wide_plus_spec (wOf x) (wOf y) = some (wOf (x + y)) := by
  unfold levitate_wide_plus_spec
  have hl : loop (levitate_wide_plus_s0 (wOf x) (wOf y)) (0, 0, 0, 0, 0) = some ((wOf (x + y)).e0, (wOf (x + y)).e1, (wOf (x + y)).e2) := by
    simp only [wOf]
    generalize hx0 : x % 18446744073709551616 = x0
    generalize hx1 : x / 18446744073709551616 % 18446744073709551616 = x1
    generalize hx2 : x / 340282366920938463463374607431768211456 % 18446744073709551616 = x2
    generalize hy0 : y % 18446744073709551616 = y0
    generalize hy1 : y / 18446744073709551616 % 18446744073709551616 = y1
    generalize hy2 : y / 340282366920938463463374607431768211456 % 18446744073709551616 = y2
    have a0 : addC x0 y0 0 = some ((x0 + y0 + 0) % 18446744073709551616, (x0 + y0 + 0) / 18446744073709551616) := addC_ok (by omega) (by omega) (by omega)
    generalize hc0 : (x0 + y0 + 0) / 18446744073709551616 = c0 at a0
    have a1 : addC x1 y1 c0 = some ((x1 + y1 + c0) % 18446744073709551616, (x1 + y1 + c0) / 18446744073709551616) := addC_ok (by omega) (by omega) (by omega)
    generalize hc1 : (x1 + y1 + c0) / 18446744073709551616 = c1 at a1
    have a2 : addC x2 y2 c1 = some ((x2 + y2 + c1) % 18446744073709551616, (x2 + y2 + c1) / 18446744073709551616) := addC_ok (by omega) (by omega) (by omega)
    refine loop_inl' (s' := (c0, 1, (x0 + y0 + 0) % 18446744073709551616, 0, 0)) ?_ (loop_inl' (s' := (c1, 2, (x0 + y0 + 0) % 18446744073709551616, (x1 + y1 + c0) % 18446744073709551616, 0)) ?_ (loop_inl' (s' := ((x2 + y2 + c1) / 18446744073709551616, 3, (x0 + y0 + 0) % 18446744073709551616, (x1 + y1 + c0) % 18446744073709551616, (x2 + y2 + c1) % 18446744073709551616)) ?_ ((loop_inr (o := ((x0 + y0 + 0) % 18446744073709551616, (x1 + y1 + c0) % 18446744073709551616, (x2 + y2 + c1) % 18446744073709551616)) rfl).trans ?_)))
    · show (Option.bind (addC x0 y0 0) fun r => _) = _
      rw [a0]; rfl
    · show (Option.bind (addC x1 y1 c0) fun r => _) = _
      rw [a1]; rfl
    · show (Option.bind (addC x2 y2 c1) fun r => _) = _
      rw [a2]; rfl
    · have k1 : (x + y) / 18446744073709551616 = x / 18446744073709551616 + y / 18446744073709551616 + c0 := by omega
      have k2 : (x + y) / 18446744073709551616 / 18446744073709551616 = x / 18446744073709551616 / 18446744073709551616 + y / 18446744073709551616 / 18446744073709551616 + c1 := by rw [k1]; omega
      rw [div2] at hx2 hy2
      rw [div2 (x + y), k2, k1]
      congr 2
      · omega
      · congr 1
        · omega
        · omega
  rw [hl]; rfl

theorem andU (x : Int) (h : 0 ≤ x ∧ x < 18446744073709551616) : andS .u64 x 4294967295 = x % 4294967296 := by
  unfold andS
  rw [wrapU]
  have e1 : (BitVec.ofInt IntKind.u64.bits x &&& BitVec.ofInt IntKind.u64.bits 4294967295).toNat = x.toNat % 4294967296 := by
    rw [BitVec.toNat_and]
    have h1 : (BitVec.ofInt IntKind.u64.bits x).toNat = x.toNat := by
      rw [BitVec.toNat_ofInt]
      have : ((2 ^ IntKind.u64.bits : Nat) : Int) = 18446744073709551616 := by decide
      rw [this]; omega
    have h2 : (BitVec.ofInt IntKind.u64.bits 4294967295).toNat = 2 ^ 32 - 1 := by decide
    rw [h1, h2, Nat.and_two_pow_sub_one_eq_mod]
  rw [e1]; omega
theorem mul_bd {a b m n : Int} (ha : 0 ≤ a ∧ a ≤ m) (hb : 0 ≤ b ∧ b ≤ n) : 0 ≤ a * b ∧ a * b ≤ m * n :=
  ⟨Int.mul_nonneg ha.1 hb.1, Int.mul_le_mul ha.2 hb.2 hb.1 (by omega)⟩
theorem mul64_ok {x y : Int} (hx : 0 ≤ x ∧ x < 18446744073709551616) (hy : 0 ≤ y ∧ y < 18446744073709551616) : math_bits_Mul64_spec x y = some (x * y / 18446744073709551616, x * y % 18446744073709551616) := by
  unfold math_bits_Mul64_spec
  simp only [show (32 : Int) = ((32 : Nat) : Int) from rfl, shrU _ 32 (by omega), Option.bind_some, wrapU, andU x hx, andU y hy]
  simp only [show ((2 : Int) ^ 32) = 4294967296 by decide]
  generalize hx1 : x / 4294967296 = x1
  generalize hx0 : x % 4294967296 = x0
  generalize hy1 : y / 4294967296 = y1
  generalize hy0 : y % 4294967296 = y0
  have e : x * y = (x1 * y1) * 18446744073709551616 + (x1 * y0 + x0 * y1) * 4294967296 + x0 * y0 := by
    have ex : x = x1 * 4294967296 + x0 := by omega
    have ey : y = y1 * 4294967296 + y0 := by omega
    rw [ex, ey]; grind
  have b00 := mul_bd (a := x0) (b := y0) (m := 4294967295) (n := 4294967295) (by omega) (by omega)
  have b10 := mul_bd (a := x1) (b := y0) (m := 4294967295) (n := 4294967295) (by omega) (by omega)
  have b01 := mul_bd (a := x0) (b := y1) (m := 4294967295) (n := 4294967295) (by omega) (by omega)
  have b11 := mul_bd (a := x1) (b := y1) (m := 4294967295) (n := 4294967295) (by omega) (by omega)
  rw [e]
  generalize x0 * y0 = p00 at *
  generalize x1 * y0 = p10 at *
  generalize x0 * y1 = p01 at *
  generalize x1 * y1 = p11 at *
  rw [andU _ (by omega)]
  congr 2
  omega
theorem limb {o a b v : Int} (ho : 0 ≤ o ∧ o < 18446744073709551616) (ha : 0 ≤ a ∧ a < 18446744073709551616) (hb : 0 ≤ b ∧ b < 18446744073709551616) (hv : 0 ≤ v ∧ v < 18446744073709551616) {β : Type} (f : Int → Int → Option β) :
    (Option.bind (math_bits_Mul64_spec a b) fun r12 => Option.bind (some o) fun el18 => Option.bind (addC el18 r12.2 0) fun r20 => Option.bind (addC r20.1 v 0) fun r23 =>
      Option.bind (some o) fun _ => f (IntKind.wrap .u64 ((IntKind.wrap .u64 (r12.1 + r20.2)) + r23.2)) r23.1) = f ((o + a * b + v) / 18446744073709551616) ((o + a * b + v) % 18446744073709551616) := by
  have hab := mul_bd (a := a) (b := b) (m := 18446744073709551615) (n := 18446744073709551615) (by omega) (by omega)
  rw [mul64_ok ha hb]
  generalize a * b = ab at *
  simp only [Option.bind_some]
  rw [addC_ok (by omega) (by omega) (by omega)]
  simp only [Option.bind_some]
  rw [addC_ok (by omega) (by omega) (by omega)]
  simp only [Option.bind_some, wrapU]
  congr 1
  · omega
  · omega
theorem w64k : w64 (0 + 0) = 0 ∧ w64 (0 + 1) = 1 ∧ w64 (1 + 1) = 2 ∧ w64 (2 + 1) = 3 ∧ w64 (0 + 2) = 2 ∧ w64 (0 + 3) = 3 ∧ w64 (1 + 0) = 1 ∧ w64 (1 + 2) = 3 ∧ w64 (2 + 0) = 2 := by decide
section
variable (a y0 y1 y2 v o0 o1 o2 : Int)
theorem ts00 : levitate_wide_times_s0 a ⟨y0, y1, y2⟩ 0 (v, 0, o0, o1, o2) = (Option.bind (math_bits_Mul64_spec a y0) fun r12 => Option.bind (some o0) fun el18 => Option.bind (addC el18 r12.2 0) fun r20 => Option.bind (addC r20.1 v 0) fun r23 =>
      Option.bind (some o0) fun _ => (fun v s => some (Sum.inl (v, 1, s, o1, o2))) (IntKind.wrap .u64 ((IntKind.wrap .u64 (r12.1 + r20.2)) + r23.2)) r23.1) := by
  simp only [levitate_wide_times_s0, w64k]; rfl
theorem ts01 : levitate_wide_times_s0 a ⟨y0, y1, y2⟩ 0 (v, 1, o0, o1, o2) = (Option.bind (math_bits_Mul64_spec a y1) fun r12 => Option.bind (some o1) fun el18 => Option.bind (addC el18 r12.2 0) fun r20 => Option.bind (addC r20.1 v 0) fun r23 =>
      Option.bind (some o1) fun _ => (fun v s => some (Sum.inl (v, 2, o0, s, o2))) (IntKind.wrap .u64 ((IntKind.wrap .u64 (r12.1 + r20.2)) + r23.2)) r23.1) := by
  simp only [levitate_wide_times_s0, w64k]; rfl
theorem ts02 : levitate_wide_times_s0 a ⟨y0, y1, y2⟩ 0 (v, 2, o0, o1, o2) = (Option.bind (math_bits_Mul64_spec a y2) fun r12 => Option.bind (some o2) fun el18 => Option.bind (addC el18 r12.2 0) fun r20 => Option.bind (addC r20.1 v 0) fun r23 =>
      Option.bind (some o2) fun _ => (fun v s => some (Sum.inl (v, 3, o0, o1, s))) (IntKind.wrap .u64 ((IntKind.wrap .u64 (r12.1 + r20.2)) + r23.2)) r23.1) := by
  simp only [levitate_wide_times_s0, w64k]; rfl
theorem ts03 : levitate_wide_times_s0 a ⟨y0, y1, y2⟩ 0 (v, 3, o0, o1, o2) = some (.inr (o0, o1, o2)) := by
  simp only [levitate_wide_times_s0, w64k]; rfl
theorem ts10 : levitate_wide_times_s0 a ⟨y0, y1, y2⟩ 1 (v, 0, o0, o1, o2) = (Option.bind (math_bits_Mul64_spec a y0) fun r12 => Option.bind (some o1) fun el18 => Option.bind (addC el18 r12.2 0) fun r20 => Option.bind (addC r20.1 v 0) fun r23 =>
      Option.bind (some o1) fun _ => (fun v s => some (Sum.inl (v, 1, o0, s, o2))) (IntKind.wrap .u64 ((IntKind.wrap .u64 (r12.1 + r20.2)) + r23.2)) r23.1) := by
  simp only [levitate_wide_times_s0, w64k]; rfl
theorem ts11 : levitate_wide_times_s0 a ⟨y0, y1, y2⟩ 1 (v, 1, o0, o1, o2) = (Option.bind (math_bits_Mul64_spec a y1) fun r12 => Option.bind (some o2) fun el18 => Option.bind (addC el18 r12.2 0) fun r20 => Option.bind (addC r20.1 v 0) fun r23 =>
      Option.bind (some o2) fun _ => (fun v s => some (Sum.inl (v, 2, o0, o1, s))) (IntKind.wrap .u64 ((IntKind.wrap .u64 (r12.1 + r20.2)) + r23.2)) r23.1) := by
  simp only [levitate_wide_times_s0, w64k]; rfl
theorem ts12 : levitate_wide_times_s0 a ⟨y0, y1, y2⟩ 1 (v, 2, o0, o1, o2) = some (.inr (o0, o1, o2)) := by
  simp only [levitate_wide_times_s0, w64k]; rfl
theorem ts20 : levitate_wide_times_s0 a ⟨y0, y1, y2⟩ 2 (v, 0, o0, o1, o2) = (Option.bind (math_bits_Mul64_spec a y0) fun r12 => Option.bind (some o2) fun el18 => Option.bind (addC el18 r12.2 0) fun r20 => Option.bind (addC r20.1 v 0) fun r23 =>
      Option.bind (some o2) fun _ => (fun v s => some (Sum.inl (v, 1, o0, o1, s))) (IntKind.wrap .u64 ((IntKind.wrap .u64 (r12.1 + r20.2)) + r23.2)) r23.1) := by
  simp only [levitate_wide_times_s0, w64k]; rfl
theorem ts21 : levitate_wide_times_s0 a ⟨y0, y1, y2⟩ 2 (v, 1, o0, o1, o2) = some (.inr (o0, o1, o2)) := by
  simp only [levitate_wide_times_s0, w64k]; rfl
end
abbrev TSt := (Int × Int × Int × Int × Int) ⊕ (Int × Int × Int)
theorem times_ok (x y : Int) : levitate_wide_times_spec (wOf x) (wOf y) = some (wOf (x * y)) := by
  unfold levitate_wide_times_spec
  obtain ⟨x0, hx0⟩ : ∃ x0, x % 18446744073709551616 = x0 := ⟨_, rfl⟩
  obtain ⟨x1, hx1⟩ : ∃ x1, x / 18446744073709551616 % 18446744073709551616 = x1 := ⟨_, rfl⟩
  obtain ⟨x2, hx2⟩ : ∃ x2, x / 340282366920938463463374607431768211456 % 18446744073709551616 = x2 := ⟨_, rfl⟩
  obtain ⟨y0, hy0⟩ : ∃ y0, y % 18446744073709551616 = y0 := ⟨_, rfl⟩
  obtain ⟨y1, hy1⟩ : ∃ y1, y / 18446744073709551616 % 18446744073709551616 = y1 := ⟨_, rfl⟩
  obtain ⟨y2, hy2⟩ : ∃ y2, y / 340282366920938463463374607431768211456 % 18446744073709551616 = y2 := ⟨_, rfl⟩
  have ex : wOf x = ⟨x0, x1, x2⟩ := wOf_eq hx0 hx1 hx2
  have ey : wOf y = ⟨y0, y1, y2⟩ := wOf_eq hy0 hy1 hy2
  have bx0 : 0 ≤ x0 ∧ x0 < 18446744073709551616 := by omega
  have bx1 : 0 ≤ x1 ∧ x1 < 18446744073709551616 := by omega
  have bx2 : 0 ≤ x2 ∧ x2 < 18446744073709551616 := by omega
  have by0 : 0 ≤ y0 ∧ y0 < 18446744073709551616 := by omega
  have by1 : 0 ≤ y1 ∧ y1 < 18446744073709551616 := by omega
  have by2 : 0 ≤ y2 ∧ y2 < 18446744073709551616 := by omega
  have Ex : x % 6277101735386680763835789423207666416102355444464034512896 = x0 + x1 * 18446744073709551616 + x2 * 340282366920938463463374607431768211456 := by omega
  have Ey : y % 6277101735386680763835789423207666416102355444464034512896 = y0 + y1 * 18446744073709551616 + y2 * 340282366920938463463374607431768211456 := by omega
  have z0 : (0 : Int) ≤ 0 ∧ (0 : Int) < 18446744073709551616 := by omega
  -- a row of the product
  have h00 := mul_bd (a := x0) (b := y0) (m := 18446744073709551615) (n := 18446744073709551615) (by omega) (by omega)
  have h01 := mul_bd (a := x0) (b := y1) (m := 18446744073709551615) (n := 18446744073709551615) (by omega) (by omega)
  have h02 := mul_bd (a := x0) (b := y2) (m := 18446744073709551615) (n := 18446744073709551615) (by omega) (by omega)
  have h10 := mul_bd (a := x1) (b := y0) (m := 18446744073709551615) (n := 18446744073709551615) (by omega) (by omega)
  have h11 := mul_bd (a := x1) (b := y1) (m := 18446744073709551615) (n := 18446744073709551615) (by omega) (by omega)
  have h20 := mul_bd (a := x2) (b := y0) (m := 18446744073709551615) (n := 18446744073709551615) (by omega) (by omega)
  have r0 : ∀ o0 o1 o2, 0 ≤ o0 ∧ o0 < 18446744073709551616 → 0 ≤ o1 ∧ o1 < 18446744073709551616 → 0 ≤ o2 ∧ o2 < 18446744073709551616 → loop (levitate_wide_times_s0 x0 ⟨y0, y1, y2⟩ 0) (0, 0, o0, o1, o2) =
      some ((o0 + x0 * y0 + 0) % 18446744073709551616, (o1 + x0 * y1 + (o0 + x0 * y0 + 0) / 18446744073709551616) % 18446744073709551616, (o2 + x0 * y2 + (o1 + x0 * y1 + (o0 + x0 * y0 + 0) / 18446744073709551616) / 18446744073709551616) % 18446744073709551616) := by
    intro o0 o1 o2 b0 b1 b2
    refine loop_inl' ((ts00 ..).trans (limb b0 bx0 by0 (v := 0) z0 (fun v s => (some (Sum.inl (v, 1, s, o1, o2)) : Option TSt)))) ?_
    refine loop_inl' ((ts01 ..).trans (limb b1 bx0 by1 (by omega) (fun v s => (some (Sum.inl (v, 2, _, s, o2)) : Option TSt)))) ?_
    refine loop_inl' ((ts02 ..).trans (limb b2 bx0 by2 (by omega) (fun v s => (some (Sum.inl (v, 3, _, _, s)) : Option TSt)))) ?_
    exact loop_inr (ts03 ..)
  have r1 : ∀ o0 o1 o2, 0 ≤ o0 ∧ o0 < 18446744073709551616 → 0 ≤ o1 ∧ o1 < 18446744073709551616 → 0 ≤ o2 ∧ o2 < 18446744073709551616 → loop (levitate_wide_times_s0 x1 ⟨y0, y1, y2⟩ 1) (0, 0, o0, o1, o2) =
      some (o0, (o1 + x1 * y0 + 0) % 18446744073709551616, (o2 + x1 * y1 + (o1 + x1 * y0 + 0) / 18446744073709551616) % 18446744073709551616) := by
    intro o0 o1 o2 b0 b1 b2
    refine loop_inl' ((ts10 ..).trans (limb b1 bx1 by0 (v := 0) z0 (fun v s => (some (Sum.inl (v, 1, o0, s, o2)) : Option TSt)))) ?_
    refine loop_inl' ((ts11 ..).trans (limb b2 bx1 by1 (by omega) (fun v s => (some (Sum.inl (v, 2, o0, _, s)) : Option TSt)))) ?_
    exact loop_inr (ts12 ..)
  have r2 : ∀ o0 o1 o2, 0 ≤ o0 ∧ o0 < 18446744073709551616 → 0 ≤ o1 ∧ o1 < 18446744073709551616 → 0 ≤ o2 ∧ o2 < 18446744073709551616 → loop (levitate_wide_times_s0 x2 ⟨y0, y1, y2⟩ 2) (0, 0, o0, o1, o2) =
      some (o0, o1, (o2 + x2 * y0 + 0) % 18446744073709551616) := by
    intro o0 o1 o2 b0 b1 b2
    refine loop_inl' ((ts20 ..).trans (limb b2 bx2 by0 (v := 0) z0 (fun v s => (some (Sum.inl (v, 1, o0, o1, s)) : Option TSt)))) ?_
    exact loop_inr (ts21 ..)
  rw [ex, ey]
  have hT : wOf (x * y) = wOf (x0 * y0 + (x0 * y1 + x1 * y0) * 18446744073709551616 + (x0 * y2 + x1 * y1 + x2 * y0) * 340282366920938463463374607431768211456) := by
    apply wOf_congr
    rw [Int.mul_emod, Ex, Ey]
    rw [show (x0 + x1 * 18446744073709551616 + x2 * 340282366920938463463374607431768211456) * (y0 + y1 * 18446744073709551616 + y2 * 340282366920938463463374607431768211456) =
      (x0 * y0 + (x0 * y1 + x1 * y0) * 18446744073709551616 + (x0 * y2 + x1 * y1 + x2 * y0) * 340282366920938463463374607431768211456) + 6277101735386680763835789423207666416102355444464034512896 * (x1 * y2 + x2 * y1 + x2 * y2 * 18446744073709551616) by grind]
    rw [Int.add_mul_emod_self_left]
  rw [hT]
  have hl : loop (levitate_wide_times_s1 ⟨x0, x1, x2⟩ ⟨y0, y1, y2⟩) (0, 0, 0, 0) = some ((wOf (x0 * y0 + (x0 * y1 + x1 * y0) * 18446744073709551616 + (x0 * y2 + x1 * y1 + x2 * y0) * 340282366920938463463374607431768211456)).e0, (wOf (x0 * y0 + (x0 * y1 + x1 * y0) * 18446744073709551616 + (x0 * y2 + x1 * y1 + x2 * y0) * 340282366920938463463374607431768211456)).e1, (wOf (x0 * y0 + (x0 * y1 + x1 * y0) * 18446744073709551616 + (x0 * y2 + x1 * y1 + x2 * y0) * 340282366920938463463374607431768211456)).e2) := by
    have z : (0 : Int) ≤ 0 ∧ (0 : Int) < 18446744073709551616 := by omega
    have q0 := r0 0 0 0 z z z
    generalize x0 * y0 = p00 at *
    generalize x0 * y1 = p01 at *
    generalize x0 * y2 = p02 at *
    generalize hc0 : (0 + p00 + 0) % 18446744073709551616 = c0 at q0
    generalize hv0 : (0 + p00 + 0) / 18446744073709551616 = v0 at q0
    generalize hc1 : (0 + p01 + v0) % 18446744073709551616 = c1 at q0
    generalize hv1 : (0 + p01 + v0) / 18446744073709551616 = v1 at q0
    generalize hc2 : (0 + p02 + v1) % 18446744073709551616 = c2 at q0
    have q1 := r1 c0 c1 c2 (by omega) (by omega) (by omega)
    generalize x1 * y0 = p10 at *
    generalize x1 * y1 = p11 at *
    generalize hd1 : (c1 + p10 + 0) % 18446744073709551616 = d1 at q1
    generalize hw1 : (c1 + p10 + 0) / 18446744073709551616 = w1 at q1
    generalize hd2 : (c2 + p11 + w1) % 18446744073709551616 = d2 at q1
    have q2 := r2 c0 d1 d2 (by omega) (by omega) (by omega)
    generalize x2 * y0 = p20 at *
    generalize he2 : (d2 + p20 + 0) % 18446744073709551616 = e2 at q2
    refine loop_inl' (s' := (1, c0, c1, c2)) ?_ (loop_inl' (s' := (2, c0, d1, d2)) ?_ (loop_inl' (s' := (3, c0, d1, e2)) ?_ ((loop_inr (o := (c0, d1, e2)) rfl).trans ?_)))
    · show (Option.bind (loop (levitate_wide_times_s0 x0 ⟨y0, y1, y2⟩ 0) (0, 0, 0, 0, 0)) fun _ => _) = _
      rw [q0]; rfl
    · show (Option.bind (loop (levitate_wide_times_s0 x1 ⟨y0, y1, y2⟩ 1) (0, 0, c0, c1, c2)) fun _ => _) = _
      rw [q1]; rfl
    · show (Option.bind (loop (levitate_wide_times_s0 x2 ⟨y0, y1, y2⟩ 2) (0, 0, c0, d1, d2)) fun _ => _) = _
      rw [q2]; rfl
    · simp only [wOf]
      congr 2
      · omega
      · congr 1
        · omega
        · omega
  rw [hl]; rfl
theorem less_ok (x y : Int) : levitate_wide_less_spec (wOf x) (wOf y) = some (wOf (x - y)) := by
  unfold levitate_wide_less_spec
  rw [wideOf_ok (by decide), Option.bind_some, times_ok, Option.bind_some, plus_ok, Option.bind_some]
  congr 2; omega
end Go.Gw
