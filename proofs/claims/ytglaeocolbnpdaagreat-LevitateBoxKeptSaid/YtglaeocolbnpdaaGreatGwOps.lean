/- One law an operation: what it yields, over environments. No condition. -/
import Derived.Test.YtglaeocolbnpdaaGreatGwMem
import Derived.Conc.MuLone
import Derived.Laws.Strings
import Derived.Laws.StructEq
import Derived.Laws.Build
import Derived.Laws.Entries
import Derived.Laws.NewBlocks
namespace Go.Gw
open Go

section
variable {P : Program} {n : Nat} {ρ : Env} {w : World}

def Yl (P : Program) (n : Nat) (ρ : Env) (o : Oper) (w : World) (v : Value) : Prop := (execOp (evO n ρ) o).run P w = .ok (.value v) w

def gd (g : Bool) (v : Value) : Value := bif g then v else undef
theorem gd_true {g : Bool} {v : Value} (h : g = true) : gd g v = v := by subst h; rfl
theorem gd_false {g : Bool} {v : Value} (h : g = false) : gd g v = undef := by subst h; rfl

theorem wanted_none (ops : Array Oper) {o : Oper} (h : o.guard = none) : Wanted ops o n ρ = true := by simp [Wanted, Region.wanted, h]

theorem yielded_act {ops : Array Oper} {j d : Nat} (hd : (ops[j]?).bind (·.dst) = some d) (hn : Nat.blt d n = true) : yielded ops (act n ρ).tmps j = match ρ d with | .bool b => some b | _ => none := by
  have hlt : d < n := by simpa [Nat.blt_eq] using hn
  simp only [yielded, hd, act, Option.bind_some]
  rw [Array.getElem?_ofFn]
  simp only [hlt, dif_pos]
  cases ρ d <;> rfl

theorem wanted_t {ops : Array Oper} {o : Oper} {j d : Nat} {b : Bool} (hg : o.guard = some (j, true)) (hd : (ops[j]?).bind (·.dst) = some d) (hn : Nat.blt d n = true) (hv : ρ d = .bool b) : Wanted ops o n ρ = b := by
  simp only [Wanted, Region.wanted, hg, yielded_act hd hn, hv]; cases b <;> rfl
theorem wanted_f {ops : Array Oper} {o : Oper} {j d : Nat} {b : Bool} (hg : o.guard = some (j, false)) (hd : (ops[j]?).bind (·.dst) = some d) (hn : Nat.blt d n = true) (hv : ρ d = .bool b) : Wanted ops o n ρ = !b := by
  simp only [Wanted, Region.wanted, hg, yielded_act hd hn, hv]; cases b <;> rfl
/-! ### Stepping a region -/
section
variable {ops : Array Oper} {K : Env → World → Prop} {o : Oper} {os : List Oper}

theorem T0_nil (h : K ρ w) : T0 P n ops K [] ρ w := h
theorem T0_q {v : Value} (hg : o.guard = none) (hy : Yl P n ρ o w v) (h : T0 P n ops K os (updo ρ o.dst v) w) : T0 P n ops K (o :: os) ρ w := by
  simp only [T0, Stp, wanted_none ops hg, if_true, Eff]
  simp only [Yl] at hy
  simp only [hy]; exact h
theorem T0_g {v : Value} (b : Bool) (hw : Wanted ops o n ρ = b) (hy : b = true → Yl P n ρ o w v) (h : T0 P n ops K os (updo ρ o.dst (gd b v)) w) : T0 P n ops K (o :: os) ρ w := by
  simp only [T0, Stp, hw]
  cases b
  · exact h
  · have hy := hy rfl
    simp only [Yl] at hy
    simp only [if_true, Eff, hy]; exact h
theorem T0_e (hg : o.guard = none) (h : Eff P o n ρ w (fun v w' => T0 P n ops K os (updo ρ o.dst v) w')) : T0 P n ops K (o :: os) ρ w := by
  simp only [T0, Stp, wanted_none ops hg, if_true]; exact h
variable {S : World → Prop} {Kt : Env → World → Prop} {i : Nat} {rest : List (Nat × Bool)} {trest : List Nat} {ol : List Oper}
theorem T0_ge (b : Bool) (hw : Wanted ops o n ρ = b) (ht : b = true → Eff P o n ρ w (fun v w' => T0 P n ops K os (updo ρ o.dst v) w')) (hf : b = false → T0 P n ops K os (updo ρ o.dst undef) w) : T0 P n ops K (o :: os) ρ w := by
  simp only [T0, Stp, hw]
  cases b
  · exact hf rfl
  · exact ht rfl
end

/-! ### What operations yield -/
section
variable {d : Option Nat} {t T U : TypeId} {p : String} {af : Array Edge} {gu : Option (Nat × Bool)} {x y z : Operand}

theorem yl_move {v : Value} (hx : evO n ρ x = v) : Yl P n ρ ⟨d, .move x, t, p, af, gu⟩ w v := by subst hx; rfl
theorem yl_assign {v : Value} (hx : evO n ρ x = v) : Yl P n ρ ⟨d, .assign x, t, p, af, gu⟩ w v := by subst hx; rfl
theorem yl_pick {b : Bool} {v : Value} (hx : evO n ρ x = .bool b) (hy : b = true → evO n ρ y = v) (hz : b = false → evO n ρ z = v) : Yl P n ρ ⟨d, .pick x y z, t, p, af, gu⟩ w v := by
  cases b
  · simp [Yl, execOp, hx, asBool, hz rfl]
  · simp [Yl, execOp, hx, asBool, hy rfl]
theorem yl_and {b c : Bool} (hx : evO n ρ x = .bool b) (hy : b = true → evO n ρ y = .bool c) (hz : evO n ρ z = .bool false) : Yl P n ρ ⟨d, .pick x y z, t, p, af, gu⟩ w (.bool (b && c)) :=
  yl_pick hx (fun h => by rw [hy h, h]; rfl) (fun h => by rw [hz, h]; rfl)
theorem yl_or {b c : Bool} (hx : evO n ρ x = .bool b) (hy : evO n ρ y = .bool true) (hz : b = false → evO n ρ z = .bool c) : Yl P n ρ ⟨d, .pick x y z, t, p, af, gu⟩ w (.bool (b || c)) :=
  yl_pick hx (fun h => by rw [hy, h]; rfl) (fun h => by rw [hz h, h]; rfl)

theorem yl_add {k : IntKind} {a b : Int} (hx : evO n ρ x = .int k a) (hy : evO n ρ y = .int k b) : Yl P n ρ ⟨d, .binOp .add T x y U, t, p, af, gu⟩ w (.int k (k.wrap (a + b))) := by
  simp [Yl, execOp, hx, hy, eqGuard, binOp, Op.intArith]
theorem yl_sub {k : IntKind} {a b : Int} (hx : evO n ρ x = .int k a) (hy : evO n ρ y = .int k b) : Yl P n ρ ⟨d, .binOp .sub T x y U, t, p, af, gu⟩ w (.int k (k.wrap (a - b))) := by
  simp [Yl, execOp, hx, hy, eqGuard, binOp, Op.intArith]
theorem yl_mul {k : IntKind} {a b : Int} (hx : evO n ρ x = .int k a) (hy : evO n ρ y = .int k b) : Yl P n ρ ⟨d, .binOp .mul T x y U, t, p, af, gu⟩ w (.int k (k.wrap (a * b))) := by
  simp [Yl, execOp, hx, hy, eqGuard, binOp, Op.intArith]
theorem yl_quo {k : IntKind} {a b : Int} (hb : b ≠ 0) (hx : evO n ρ x = .int k a) (hy : evO n ρ y = .int k b) : Yl P n ρ ⟨d, .binOp .quo T x y U, t, p, af, gu⟩ w (.int k (k.wrap (a.tdiv b))) := by
  simp [Yl, execOp, hx, hy, eqGuard, binOp, Op.intDiv, hb]
theorem yl_rem {k : IntKind} {a b : Int} (hb : b ≠ 0) (hx : evO n ρ x = .int k a) (hy : evO n ρ y = .int k b) : Yl P n ρ ⟨d, .binOp .rem T x y U, t, p, af, gu⟩ w (.int k (a.tmod b)) := by
  simp [Yl, execOp, hx, hy, eqGuard, binOp, Op.intDiv, hb]
theorem yl_lss {k : IntKind} {a b : Int} (hx : evO n ρ x = .int k a) (hy : evO n ρ y = .int k b) : Yl P n ρ ⟨d, .binOp .lss T x y U, t, p, af, gu⟩ w (.bool (decide (a < b))) := by
  simp [Yl, execOp, hx, hy, eqGuard, binOp, Op.intCmp]
theorem yl_leq {k : IntKind} {a b : Int} (hx : evO n ρ x = .int k a) (hy : evO n ρ y = .int k b) : Yl P n ρ ⟨d, .binOp .leq T x y U, t, p, af, gu⟩ w (.bool (decide (a ≤ b))) := by
  simp [Yl, execOp, hx, hy, eqGuard, binOp, Op.intCmp]
theorem yl_gtr {k : IntKind} {a b : Int} (hx : evO n ρ x = .int k a) (hy : evO n ρ y = .int k b) : Yl P n ρ ⟨d, .binOp .gtr T x y U, t, p, af, gu⟩ w (.bool (decide (b < a))) := by
  simp [Yl, execOp, hx, hy, eqGuard, binOp, Op.intCmp]
theorem yl_geq {k : IntKind} {a b : Int} (hx : evO n ρ x = .int k a) (hy : evO n ρ y = .int k b) : Yl P n ρ ⟨d, .binOp .geq T x y U, t, p, af, gu⟩ w (.bool (decide (b ≤ a))) := by
  simp [Yl, execOp, hx, hy, eqGuard, binOp, Op.intCmp]
theorem int_beq (a b : Int) : (a == b) = decide (a = b) := by rw [Bool.eq_iff_iff]; simp
theorem yl_eql {k : IntKind} {a b : Int} (hx : evO n ρ x = .int k a) (hy : evO n ρ y = .int k b) : Yl P n ρ ⟨d, .binOp .eql T x y U, t, p, af, gu⟩ w (.bool (decide (a = b))) := by
  simp [Yl, execOp, hx, hy, eqGuard, binOp, Op.intCmp, int_beq]
theorem yl_neq {k : IntKind} {a b : Int} (hx : evO n ρ x = .int k a) (hy : evO n ρ y = .int k b) : Yl P n ρ ⟨d, .binOp .neq T x y U, t, p, af, gu⟩ w (.bool (!decide (a = b))) := by
  simp [Yl, execOp, hx, hy, eqGuard, binOp, Op.intCmp, bne, int_beq]
theorem yl_not {b : Bool} (hx : evO n ρ x = .bool b) : Yl P n ρ ⟨d, .unOp .not T x, t, p, af, gu⟩ w (.bool (!b)) := by
  simp [Yl, execOp, hx, Op.unary]
theorem yl_neg {k : IntKind} {a : Int} (hx : evO n ρ x = .int k a) : Yl P n ρ ⟨d, .unOp .neg T x, t, p, af, gu⟩ w (.int k (k.wrap (0 - a))) := by
  simp [Yl, execOp, hx, Op.unary, Op.intArith]
theorem yl_conv {k k' : IntKind} {a : Int} (hu : P.underlying T = some (.int k')) (hv : P.underlying U = some (.int k)) (hx : evO n ρ x = .int k' a) : Yl P n ρ ⟨d, .convert T U x, t, p, af, gu⟩ w (.int k (k.wrap a)) := by
  simp [Yl, execOp, hx, convert, run_underlying hu, run_underlying hv, Conv.intToInt]
theorem yl_extract {i : Nat} {vs : Array Value} {v : Value} (hx : evO n ρ x = .tuple vs) (hv : vs[i]? = some v) : Yl P n ρ ⟨d, .extract x i, t, p, af, gu⟩ w v := by
  simp [Yl, execOp, hx, Instr.extract, hv]
theorem yl_lenS {e : TypeId} {a : Option Addr} {m c : Nat} {aT : Array TypeId} (hT : aT[0]? = some T) (hu : P.underlying T = some (.slice e)) (hx : evO n ρ x = .slice a m c) : Yl P n ρ ⟨d, .call ⟨.builtin .len, #[x], aT⟩, t, p, af, gu⟩ w (.int .i64 m) := by
  simp [Yl, execOp, resolve, invoke, builtin, Builtin.len_, hT, hx, run_underlying hu, goInt]
theorem yl_max {k k' : IntKind} {a b : Int} {aT : Array TypeId} (hx : evO n ρ x = .int k a) (hy : evO n ρ y = .int k' b) : Yl P n ρ ⟨d, .call ⟨.builtin .max, #[x, y], aT⟩, t, p, af, gu⟩ w (.int k (if a < b then b else a)) := by
  simp [Yl, execOp, resolve, invoke, builtin, Builtin.max_, Builtin.max2, hx, hy]
end
end
end Go.Gw
