/- The laws of operations that touch memory. No condition. -/
import Derived.Test.YtglaeocolbnpdaaGreatGwOps
namespace Go.Gw
open Go

section
variable {P : Program} {n : Nat} {ρ : Env} {w : World}
variable {d : Option Nat} {t T U : TypeId} {p : String} {af : Array Edge} {gu : Option (Nat × Bool)} {x y z : Operand}

def Scalar (P : Program) (T : TypeId) : Prop := ∃ dsc, P.underlying T = some dsc ∧ (match dsc with | .struct _ | .array _ _ => False | _ => True)
def Aggr (P : Program) (T : TypeId) (k : Nat) : Prop := ∃ dsc i, P.underlying T = some dsc ∧ (match dsc with | .struct _ | .array _ _ => True | _ => False) ∧ P.info? T = some i ∧ i.size = k
def Size (P : Program) (T : TypeId) (k : Nat) : Prop := ∃ i, P.info? T = some i ∧ i.size = k

theorem run_sizeOf {T k : Nat} (h : Size P T k) : (sizeOf T).run P w = .ok k w := by
  obtain ⟨i, hi, hk⟩ := h
  simp [sizeOf, typeInfo, hi, hk]

theorem run_isAgg_no (h : Scalar P T) : (isAgg T).run P w = .ok false w := by
  obtain ⟨dsc, hd, hm⟩ := h
  simp only [isAgg, Sem.run_bind, run_underlying hd, Result.andThen]
  cases dsc <;> simp at hm <;> rfl
theorem run_isAgg_yes {k : Nat} (h : Aggr P T k) : (isAgg T).run P w = .ok true w := by
  obtain ⟨dsc, i, hd, hm, _⟩ := h
  simp only [isAgg, Sem.run_bind, run_underlying hd, Result.andThen]
  cases dsc <;> simp at hm <;> rfl
theorem Aggr.size {k : Nat} (h : Aggr P T k) : Size P T k := by obtain ⟨_, i, _, _, hi, hk⟩ := h; exact ⟨i, hi, hk⟩

theorem yl_fieldAddr {fs : Array Field} {i : Nat} {f : Field} {k : Nat} {a : Addr} (hu : P.underlying T = some (.struct fs)) (hf : fs[i]? = some f) (hs : Size P f.type (k + 1)) (hx : evO n ρ x = .pointer (some a)) :
    Yl P n ρ ⟨d, .fieldAddr T x i, t, p, af, gu⟩ w (.pointer (some (a.add f.offset))) := by
  simp [Yl, execOp, hx, Instr.fieldAt, run_underlying hu, hf, Instr.sureAddr, fieldPlace, run_sizeOf hs]

theorem yl_load {a : Addr} {v : Value} {cs : List Value} (hT : Scalar P T) (hx : evO n ρ x = .pointer (some a)) (hat : At w a (v :: cs)) : Yl P n ρ ⟨d, .load T x, t, p, af, gu⟩ w v := by
  have h0 := hat.2 0 v rfl
  have e : a.add 0 = a := by simp [Addr.add]
  rw [e] at h0
  simp [Yl, execOp, hx, Instr.loadAt, Instr.sureAddr, loadVar, run_isAgg_no hT, h0]

theorem yl_loadA {a : Addr} {cs : List Value} (hT : Aggr P T cs.length) (hx : evO n ρ x = .pointer (some a)) (hat : At w a cs) : Yl P n ρ ⟨d, .load T x, t, p, af, gu⟩ w (.agg cs.toArray) := by
  simp [Yl, execOp, hx, Instr.loadAt, Instr.sureAddr, loadVar, run_isAgg_yes hT, run_sizeOf hT.size, run_loadCells_list w a cs hat.2]

def elemAddr (v : Value) (i k : Nat) : Addr := match v with | .slice (some a) _ _ => a.add (i * k) | _ => default

def idx {α : Type} (xs : List α) (i : Int) : Option α := if 0 ≤ i then xs[i.toNat]? else none

theorem idx_some {α : Type} {xs : List α} {i : Int} {x : α} (h : idx xs i = some x) : 0 ≤ i ∧ i.toNat < xs.length ∧ xs[i.toNat]? = some x := by
  unfold idx at h
  split at h
  · rename_i h0; exact ⟨h0, (List.getElem?_eq_some_iff.1 h).1, h⟩
  · cases h

theorem yl_indexAddr {α : Type} [Rep α] {e : TypeId} {L : List Value} {w2 : World} {v : Value} {xs : List α} {k : IntKind} {i : Int} {el : α} (hu : P.underlying T = some (.slice e)) (hs : Size P e (Rep.n α)) (hsl : SlRd L w2 v xs)
    (hel : idx xs i = some el) (hx : evO n ρ x = v) (hy : evO n ρ y = .int k i) : Yl P n ρ ⟨d, .indexAddr T x y, t, p, af, gu⟩ w (.pointer (some (elemAddr v i.toNat (Rep.n α)))) := by
  obtain ⟨h0, h1, _⟩ := idx_some hel
  rcases hsl with ⟨_, _, rfl⟩ | ⟨b, off, cap, cur, e', fz, rfl, _⟩
  · simp at h1
  · have h2 : i < (xs.length : Int) := by omega
    simp [Yl, execOp, hx, hy, Instr.indexAt, asIntOf, run_underlying hu, h0, h2, run_sizeOf hs, elemAddr]

theorem SlRd.at {α : Type} [Rep α] {L : List Value} {v : Value} {xs : List α} {i : Int} {el : α} (hsl : SlRd L w v xs) (hel : idx xs i = some el) : ∃ cs, At w (elemAddr v i.toNat (Rep.n α)) cs ∧ Rep.rd L w cs el := by
  obtain ⟨h0, h1, h2⟩ := idx_some hel
  rcases hsl with ⟨_, _, rfl⟩ | ⟨b, off, cap, cur, e', fz, rfl, hb, _, h4, _, h6, h7⟩
  · simp at h1
  · refine ⟨_, ?_, h7.2 _ el h2⟩
    simp only [elemAddr, addr_add]
    refine At.of_block hb fun j u hu => ?_
    have hj : j < Rep.n α := by
      rcases Nat.lt_or_ge j (Rep.n α) with h | h
      · exact h
      · rw [List.getElem?_eq_none (by simp; omega)] at hu; cases hu
    rw [List.getElem?_take_of_lt hj, List.getElem?_drop] at hu
    have hlt : i.toNat * Rep.n α + j < xs.length * Rep.n α := by
      have : (i.toNat + 1) * Rep.n α ≤ xs.length * Rep.n α := Nat.mul_le_mul_right _ h1
      rw [Nat.succ_mul] at this; omega
    rw [List.getElem?_take_of_lt hlt, List.getElem?_drop] at hu
    rw [← Array.getElem?_toList, ← hu, Nat.add_assoc]

/-! ### New blocks -/
theorem eff_box {v : Value} {K : Value → World → Prop} (hx : evO n ρ x = v)
    (h : ∀ b w', b = w.heap.size → Ext w w' → w'.heap.size = w.heap.size + 1 → Box w' b v.cells.toList T → K (.pointer (some ⟨b, 0, none⟩)) w') : Eff P ⟨d, .box T x, t, p, af, gu⟩ n ρ w K := by
  simp only [Eff, execOp, hx]
  have : (Instr.box T v).run P w = .ok (.pointer (some ⟨w.heap.size, 0, none⟩)) { w with heap := w.heap.push (.cells v.cells T (0, 0)) } := by
    simp [Instr.box, newVar, newRow, newObj]; rfl
  simp only [Sem.run_bind, this, Result.andThen, Sem.run_pure]
  exact h _ _ rfl (Ext.alloc ..) (by simp) (by simp [Box])

theorem eff_alloc {z : Value} {i : TypeInfo} {K : Value → World → Prop} (hi : P.info? T = some i) (hz : i.zero = some z)
    (h : ∀ b w', b = w.heap.size → Ext w w' → w'.heap.size = w.heap.size + 1 → Box w' b z.cells.toList T → K (.pointer (some ⟨b, 0, none⟩)) w') : Eff P ⟨d, .alloc T, t, p, af, gu⟩ n ρ w K := by
  simp only [Eff, execOp]
  have : (Instr.alloc T true (.tuple #[])).run P w = .ok (.pointer (some ⟨w.heap.size, 0, none⟩)) { w with heap := w.heap.push (.cells z.cells T (0, 0)) } := by
    simp [Instr.alloc, zeroValue, typeInfo, hi, hz, newVar, newRow, newObj]; rfl
  simp only [Sem.run_bind, this, Result.andThen, Sem.run_pure]
  exact h _ _ rfl (Ext.alloc ..) (by simp) (by simp [Box])

/-! ### Stores -/
def setAt (cs : List Value) (off : Nat) : List Value → List Value
  | [] => cs
  | v :: vs => setAt (cs.set off v) (off + 1) vs

theorem chg_setCell (w : World) (b off : Nat) (v : Value) : Chg [.pointer (some ⟨b, 0, none⟩)] w (w.setCell ⟨b, off, none⟩ v) :=
  ⟨rfl, rfl, rfl, by simp [World.setCell], fun k _ hA => by
    have hne : b ≠ k := fun e => hA _ (List.mem_singleton.2 rfl) (by simp [blk, e])
    simp [World.setCell, Array.getElem?_modify, hne]⟩

theorem run_storeCells_box (T : TypeId) (b : Nat) : ∀ (vs : List Value) (off i : Nat) (cs : List Value) (w : World), Box w b cs T → off + i + vs.length ≤ cs.length → (∀ v ∈ vs, v.oneCell' = true) →
    ∃ w', (storeCells ⟨b, off, none⟩ vs i).run P w = .ok () w' ∧ Box w' b (setAt cs (off + i) vs) T ∧ Chg [.pointer (some ⟨b, 0, none⟩)] w w' ∧ w'.heap.size = w.heap.size
  | [], off, i, cs, w, hb, _, _ => ⟨w, rfl, hb, Chg.refl _ _, rfl⟩
  | v :: vs, off, i, cs, w, hb, hl, h1 => by
    have hlt : off + i < cs.length := by simp at hl; omega
    have hc : w.cell? ⟨b, off + i, none⟩ = some cs[off + i] := by simp [World.cell?, show w.heap[b]? = _ from hb, hlt]
    have hfz : w.frozen? ⟨b, off + i, none⟩ = false := by simp [World.frozen?, show w.heap[b]? = _ from hb]
    have hbox : Box (w.setCell ⟨b, off + i, none⟩ v) b (cs.set (off + i) v) T := by
      have hb' : w.heap[b]? = some (.cells cs.toArray T (0, 0)) := hb
      simp [Box, World.setCell, Array.getElem?_modify, hb']
    obtain ⟨w', hr, hb2, hc2, hs2⟩ := run_storeCells_box T b vs off (i + 1) (cs.set (off + i) v) (w.setCell ⟨b, off + i, none⟩ v) hbox (by simp at hl ⊢; omega) (fun u hu => h1 u (List.mem_cons_of_mem _ hu))
    refine ⟨w', ?_, hb2, (chg_setCell ..).trans hc2, by rw [hs2]; simp [World.setCell]⟩
    have hst : (store ((⟨b, off, none⟩ : Addr).add i) v).run P w = .ok () (w.setCell ⟨b, off + i, none⟩ v) := by
      have := h1 v (List.mem_cons_self ..)
      rw [addr_add]
      cases v <;> simp [Value.oneCell'] at this <;> simp [store, Sem.run, hc, hfz]
    simp only [storeCells, Sem.run_bind, hst, Result.andThen]
    exact hr

theorem eff_store {v : Value} {b off : Nat} {cs : List Value} {T' : TypeId} {K : Value → World → Prop} (hs : Size P T v.cells.size) (hx : evO n ρ x = .pointer (some ⟨b, off, none⟩)) (hy : evO n ρ y = v)
    (hb : Box w b cs T') (hl : off + v.cells.size ≤ cs.length) (h1 : ∀ u ∈ v.cells.toList, u.oneCell' = true)
    (h : ∀ w', Chg [.pointer (some ⟨b, 0, none⟩)] w w' → Box w' b (setAt cs off v.cells.toList) T' → K undef w') : Eff P ⟨d, .store T x y, t, p, af, gu⟩ n ρ w K := by
  obtain ⟨w', hr, hb2, hc2, _⟩ := run_storeCells_box (P := P) T' b v.cells.toList off 0 cs w hb (by simpa using hl) h1
  simp only [Eff, execOp, hx, hy]
  have : (Instr.storeAt T (.pointer (some ⟨b, off, none⟩)) v).run P w = .ok () w' := by
    simp [Instr.storeAt, Instr.sureAddr, storeVar, run_sizeOf hs, hr]
  simp only [Sem.run_bind, this, Result.andThen, Sem.run_pure]
  exact h w' hc2 (by simpa using hb2)

/-! ### Calls -/
theorem eff_call {f : FuncId} {fn : Func} {c : Code} {xs : Array Operand} {aT : Array TypeId} {args : List Value} {K Φ : Value → World → Prop} (hf : P.funcs[f]? = some fn) (hname : (fn.name == "runtime.NumGoroutine") = false) (hb : fn.body = some c)
    (ha : (xs.map (evO n ρ)).toList = args) (hc : CallsTo P f args w Φ) (h : ∀ v w', Φ v w' → K v w') : Eff P ⟨d, .call ⟨.value (.func f), xs, aT⟩, t, p, af, gu⟩ n ρ w K := by
  have e : xs.map (evO n ρ) = args.toArray := by rw [← ha]
  have : (execOp (evO n ρ) ⟨d, .call ⟨.value (.func f), xs, aT⟩, t, p, af, gu⟩).run P w = .ok (.enter f args.toArray) w := by
    simp [execOp, resolve, Deferred.ofValue, invoke, e, evO, MuLone.run_callFunc_enter hf hname hb]
  simp only [Eff, this]
  exact CallsTo.mono hc h

end
end Go.Gw
