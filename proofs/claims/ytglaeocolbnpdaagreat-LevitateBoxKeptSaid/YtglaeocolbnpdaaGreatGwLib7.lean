/- Arrays as rows of cells, parts of values. No condition. -/
import Derived.Test.YtglaeocolbnpdaaGreatGwLib6
namespace Go.Gw
open Go
section
variable {P : Program} {n : Nat} {ρ : Env} {w : World}
variable {d : Option Nat} {t T U : TypeId} {p : String} {af : Array Edge} {gu : Option (Nat × Bool)} {x y z : Operand}

theorem yl_buildA {cells zero : List Value} {m e sz : Nat} {parts : List (Nat × Operand)} {pc : List (Nat × List Value)} (hu : P.underlying T = some (.array m e)) (hs : Size P e sz) (hz : ZI P T zero) (hp : PC n ρ parts pc)
    (h : fillC (fun i => some (i * sz, sz)) zero pc = some cells) : Yl P n ρ ⟨d, .build T parts.toArray, t, p, af, gu⟩ w (.agg cells.toArray) := by
  obtain ⟨it, z, h1, h3, h4⟩ := hz.ex
  obtain ⟨ie, he, hsz⟩ := hs
  have h' : P.built T (parts.toArray.map fun (i, x) => (i, evO n ρ x)).toList = some cells.toArray := by
    simp only [Program.built, h1, hu, h3, he, hsz]
    have := fill_of_fillL _ _ _ (hp.fill h)
    have hz' : z.cells = zero.toArray := by rw [← h4]
    rw [hz', Array.toList_map]
    simpa using this
  simp only [Yl, execOp, Sem.run_bind, run_build w T _ _ h', Result.andThen, Sem.run_pure]

theorem yl_ixC {e m sz : Nat} {k : IntKind} {i : Int} {a : Addr} {v : Value} (hu : P.underlying T = some (.array m e)) (hs : Size P e sz) (h0 : 0 ≤ i) (h1 : i < m) (hx : evO n ρ x = .pointer (some a)) (hy : evO n ρ y = .int k i)
    (hv : v = .pointer (some (a.add (i.toNat * sz)))) : Yl P n ρ ⟨d, .indexAddr T x y, t, p, af, gu⟩ w v := by subst hv; exact yl_indexAddrA hu hs h0 h1 hx hy

theorem run_partS {cs : List Value} {off : Nat} {v : Value} (hT : Scalar P T) (h : cs[off]? = some v) : (part T cs.toArray off).run P w = .ok v w := by
  simp [part, run_isAgg_no hT, h]
theorem yl_index1 {m e : Nat} {k : IntKind} {i el : Int} {xs : List Int} {ke : IntKind} (hu : P.underlying T = some (.array m e)) (hs : Scalar P e) (hz : Size P e 1) (hl : xs.length = m) (hx : evO n ρ x = .agg (xs.map (Value.int ke)).toArray) (hy : evO n ρ y = .int k i)
    (h : idx xs i = some el) : Yl P n ρ ⟨d, .index T x y, t, p, af, gu⟩ w (.int ke el) := by
  obtain ⟨h0, h1, h2⟩ := idx_some h
  have hp : (part e (xs.map (Value.int ke)).toArray (i.toNat * 1)).run P w = .ok (.int ke el) w := run_partS hs (by rw [Nat.mul_one, List.getElem?_map, h2]; rfl)
  have h1' : i < (m : Int) := by omega
  simp [Yl, execOp, hx, hy, Instr.index, asIntOf, run_underlying hu, h0, h1', run_sizeOf hz] at hp ⊢
  simp [hp]

def setI {α : Type} (i : Nat) (v : α) : Nat → List α → List α
  | _, [] => []
  | k, x :: xs => (bif Nat.beq i k then v else x) :: setI i v (k + 1) xs
theorem setI_eq {α : Type} (i : Nat) (v : α) : ∀ (xs : List α) (k : Nat), setI (i + k) v k xs = xs.set i v := by
  intro xs
  induction xs generalizing i with
  | nil => intro k; rfl
  | cons x xs ih =>
    intro k
    cases i with
    | zero =>
      simp only [setI, List.set_cons_zero, Nat.zero_add, nbeq_self, cond_true]
      congr 1
      have key : ∀ (ys : List α) (j : Nat), k < j → setI k v j ys = ys := by
        intro ys
        induction ys with
        | nil => intro j _; rfl
        | cons y ys ih' => intro j hj; simp only [setI]; rw [nbeq_ne (by omega), ih' (j + 1) (by omega)]; rfl
      exact key xs (k + 1) (by omega)
    | succ i =>
      simp only [setI, List.set_cons_succ]
      rw [nbeq_ne (by omega)]
      have := ih i (k + 1)
      rw [show i + (k + 1) = i + 1 + k by omega] at this
      rw [this]; rfl
theorem set_setI {α : Type} (i : Nat) (v : α) (xs : List α) : xs.set i v = setI i v 0 xs := (setI_eq i v xs 0).symm

theorem eff_storeI {b : Nat} {i el v : Int} {xs ys : List Int} {ke : IntKind} {cs : List Value} {T' : TypeId} {K : Value → World → Prop} (hs : Size P T 1) (hx : evO n ρ x = .pointer (some (Addr.add ⟨b, 0, none⟩ (i.toNat * 1)))) (hy : evO n ρ y = .int ke v)
    (hi : idx xs i = some el) (hcs : cs = xs.map (Value.int ke)) (hb : Box w b cs T') (hys : setI i.toNat v 0 xs = ys)
    (h : ∀ w', Chg [.pointer (some ⟨b, 0, none⟩)] w w' → Box w' b (ys.map (Value.int ke)) T' → K undef w') : Eff P ⟨d, .store T x y, t, p, af, gu⟩ n ρ w K := by
  obtain ⟨h0, h1, h2⟩ := idx_some hi
  subst hcs
  rw [addr_add, Nat.mul_one, Nat.zero_add] at hx
  refine eff_storeC (vs := [.int ke v]) (k := 1) hs rfl rfl hx hy hb (by simp [Nat.ble_eq]; omega) (by simp [Value.oneCell']) (cs' := ys.map (Value.int ke)) ?_ h
  rw [← hys, ← set_setI]
  simp [setAt, List.map_set]
end
end Go.Gw
