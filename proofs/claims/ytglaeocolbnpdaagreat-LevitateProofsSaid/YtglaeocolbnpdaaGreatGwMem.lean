/- Laws of the walk. Condition: each theorem says its own. -/
import Derived.Test.YtglaeocolbnpdaaGreatGwCore
import Derived.Laws.AppendOwn
import Derived.Laws.Cells
import Derived.Laws.OwnMore
import Derived.Laws.Tables
import Derived.Laws.Slices
import Derived.Great.BuildSlice
import Derived.Below
import Derived.Conc.MuLone
import Derived.Laws.Strings
import Derived.Laws.StructEq
import Derived.Laws.Build
import Derived.Laws.Entries
import Derived.Laws.NewBlocks
import Derived.Laws.MakeOwn
import Derived.KernelRfl
section
namespace Go.Gw
open Go

def Qr : Value → Option Nat
  | .pointer (some a) => some a.block
  | .slice (some a) _ _ => some a.block
  | _ => none

def Avoids (L : List Value) (b : Nat) : Prop := ∀ h ∈ L, Qr h ≠ some b

structure Chg (H : List Value) (w w' : World) : Prop where
  os : w'.os = w.os
  tape : w'.tape = w.tape
  output : w'.output = w.output
  size : w.heap.size ≤ w'.heap.size
  block : ∀ b, b < w.heap.size → Avoids H b → w'.heap[b]? = w.heap[b]?

abbrev Ext (w w' : World) : Prop := Chg [] w w'

theorem Avoids.nil (b : Nat) : Avoids [] b := fun _ h => by cases h
theorem Avoids.mono {L L' : List Value} {b : Nat} (h : Avoids L b) (hs : ∀ x ∈ L', x ∈ L) : Avoids L' b := fun x hx => h x (hs x hx)
theorem Avoids.cons {L : List Value} {b : Nat} {v : Value} (h : Avoids L b) (hv : Qr v ≠ some b) : Avoids (v :: L) b := fun x hx => by
  rcases List.mem_cons.1 hx with rfl | hx
  · exact hv
  · exact h x hx

theorem Chg.refl (H : List Value) (w : World) : Chg H w w := ⟨rfl, rfl, rfl, Nat.le_refl _, fun _ _ _ => rfl⟩
theorem Chg.trans {H : List Value} {a b c : World} (h : Chg H a b) (k : Chg H b c) : Chg H a c :=
  ⟨k.os.trans h.os, k.tape.trans h.tape, k.output.trans h.output, Nat.le_trans h.size k.size, fun i hi hA => (k.block i (Nat.lt_of_lt_of_le hi h.size) hA).trans (h.block i hi hA)⟩
theorem Chg.mono {H H' : List Value} {w w' : World} (h : Chg H w w') (hs : ∀ x ∈ H, x ∈ H') : Chg H' w w' := ⟨h.os, h.tape, h.output, h.size, fun b hb hA => h.block b hb (hA.mono hs)⟩
theorem Chg.fresh {H : List Value} {a b c : World} (h : Ext a b) (k : Chg H b c) (hf : ∀ x ∈ H, ∀ n, Qr x = some n → a.heap.size ≤ n) : Ext a c :=
  ⟨k.os.trans h.os, k.tape.trans h.tape, k.output.trans h.output, Nat.le_trans h.size k.size, fun i hi _ => (k.block i (Nat.lt_of_lt_of_le hi h.size) (fun x hx e => by have := hf x hx i e; omega)).trans (h.block i hi (Avoids.nil _))⟩

theorem Ext.drew (w : World) : Ext w { w with drawn := w.drawn + 1 } := ⟨rfl, rfl, rfl, Nat.le_refl _, fun _ _ _ => rfl⟩
theorem Ext.alloc (w : World) (o : Obj) : Ext w { w with heap := w.heap.push o } :=
  ⟨rfl, rfl, rfl, by simp, fun b hb _ => by rw [Array.getElem?_push_lt hb, Array.getElem?_eq_getElem hb]⟩
theorem Ext.below {w w' : World} (h : Ext w w') : Go.RowKit.Below w.heap.size w w' := ⟨h.os, h.tape, h.output, h.size, fun k hk => h.block k hk (Avoids.nil _)⟩
theorem Chg.of_grown {w w' : World} {v : Value} (h : w.grownBy w' v.ownBlock) : Chg [v] w w' :=
  ⟨h.os, h.tape, h.output, h.size, fun b hb hA => h.block b hb (fun e => by
    have := hA v (by simp)
    cases v <;> simp [Value.ownBlock] at e
    rename_i a _ _
    cases a <;> simp at e
    exact this (by simp [Qr, e]))⟩

theorem JF {w : World} {b : Nat} {o : Obj} (h : w.heap[b]? = some o) : b < w.heap.size := (Array.getElem?_eq_some_iff.1 h).1

/-! ### A step: handles L become L' -/
structure Stepp (L : List Value) (w : World) (L' : List Value) (w' : World) : Prop where
  chg : Chg L w w'
  new : ∀ x ∈ L', ∀ b, Qr x = some b → ¬ Avoids L b ∨ w.heap.size ≤ b

theorem Stepp.keeps {L L' : List Value} {w w' : World} (s : Stepp L w L' w') {b : Nat} {o : Obj} (h : w.heap[b]? = some o) (hA : Avoids L b) : w'.heap[b]? = some o ∧ Avoids L' b :=
  ⟨(s.chg.block b (JF h) hA).trans h, fun x hx e => by
    rcases s.new x hx b e with h1 | h1
    · exact h1 hA
    · have := JF h; omega⟩

theorem Qar {L : List Value} {x : Value} {b : Nat} (hx : x ∈ L) (e : Qr x = some b) : ¬ Avoids L b := fun h => h x hx e

theorem Stepp.ext {L : List Value} {w w' : World} (h : Ext w w') : Stepp L w L w' := ⟨h.mono (fun _ h => by cases h), fun _ hx _ e => .inl (Qar hx e)⟩
theorem Stepp.sub {L L' : List Value} (w : World) (hs : ∀ x ∈ L', x ∈ L) : Stepp L w L' w := ⟨Chg.refl _ _, fun _ hx _ e => .inl (Qar (hs _ hx) e)⟩
theorem Stepp.add {L : List Value} {w w' : World} (x : Value) (h : Ext w w') (hx : ∀ b, Qr x = some b → w.heap.size ≤ b) : Stepp L w (x :: L) w' :=
  ⟨h.mono (fun _ h => by cases h), fun y hy b e => by
    rcases List.mem_cons.1 hy with rfl | hy
    · exact .inr (hx b e)
    · exact .inl (Qar hy e)⟩
theorem Qt {L : List Value} {w w' : World} {x : Value} (h : Chg [x] w w') (hx : x ∈ L) : Stepp L w L w' :=
  ⟨h.mono (fun y hy => by rcases List.mem_cons.1 hy with rfl | hy; exact hx; cases hy), fun _ hx _ e => .inl (Qar hx e)⟩
theorem Stepp.swap {L : List Value} {w w' : World} {v v' : Value} (h : Chg [v] w w') (hv : ∀ b, Qr v' = some b → Qr v = some b ∨ w.heap.size ≤ b) : Stepp (v :: L) w (v' :: L) w' :=
  ⟨h.mono (fun y hy => by rcases List.mem_cons.1 hy with rfl | hy; simp; cases hy), fun y hy b e => by
    rcases List.mem_cons.1 hy with rfl | hy
    · rcases hv b e with h | h
      · exact .inl (Qar (List.mem_cons_self ..) h)
      · exact .inr h
    · exact .inl (Qar (List.mem_cons_of_mem _ hy) e)⟩
/-! ### Readings -/
class Rep (α : Type) where
  n : Nat
  rd : List Value → World → List Value → α → Prop
  len : ∀ {L w cs d}, rd L w cs d → cs.length = n
  one : ∀ {L w cs d}, rd L w cs d → ∀ u ∈ cs, u.oneCell' = true
  step : ∀ {L w L' w' cs d}, Stepp L w L' w' → rd L w cs d → rd L' w' cs d

instance : Rep Int := ⟨1, fun _ _ cs d => cs = [.int .i64 d], fun h => by subst h; rfl, fun h => by subst h; simp [Value.oneCell'], fun _ h => h⟩
instance : Rep Bool := ⟨1, fun _ _ cs d => cs = [.bool d], fun h => by subst h; rfl, fun h => by subst h; simp [Value.oneCell'], fun _ h => h⟩
instance : Rep ByteArray := ⟨1, fun _ _ cs d => cs = [.string d], fun h => by subst h; rfl, fun h => by subst h; simp [Value.oneCell'], fun _ h => h⟩

def Elems {α : Type} [Rep α] (L : List Value) (w : World) (cells : List Value) (xs : List α) : Prop :=
  cells.length = xs.length * Rep.n α ∧ ∀ i x, xs[i]? = some x → Rep.rd L w ((cells.drop (i * Rep.n α)).take (Rep.n α)) x

theorem Elems.step {α : Type} [Rep α] {L L' : List Value} {w w' : World} {cells : List Value} {xs : List α} (s : Stepp L w L' w') (h : Elems L w cells xs) : Elems L' w' cells xs :=
  ⟨h.1, fun i x hx => Rep.step s (h.2 i x hx)⟩

theorem Elems.nil {α : Type} [Rep α] {L : List Value} {w : World} : Elems L w [] ([] : List α) := ⟨by simp, fun i x h => by simp at h⟩

theorem Elems.append {α : Type} [Rep α] {L : List Value} {w : World} {c1 c2 : List Value} {xs ys : List α} (h1 : Elems L w c1 xs) (h2 : Elems L w c2 ys) : Elems L w (c1 ++ c2) (xs ++ ys) := by
  refine ⟨by simp [h1.1, h2.1, Nat.add_mul], fun i x hx => ?_⟩
  by_cases hi : i < xs.length
  · rw [List.getElem?_append_left hi] at hx
    have hle : i * Rep.n α + Rep.n α ≤ c1.length := by
      rw [h1.1, ← Nat.succ_mul]; exact Nat.mul_le_mul_right _ hi
    rw [List.drop_append_of_le_length (by omega), List.take_append_of_le_length (by simp; omega)]
    exact h1.2 i x hx
  · have hi := Nat.le_of_not_lt hi
    rw [List.getElem?_append_right hi] at hx
    have := h2.2 _ x hx
    rw [List.drop_append, List.drop_eq_nil_of_le (by rw [h1.1]; exact Nat.mul_le_mul_right _ hi), List.nil_append, h1.1, ← Nat.sub_mul]
    exact this

theorem Elems.one {α : Type} [Rep α] {L : List Value} {w : World} {cs : List Value} {x : α} (h : Rep.rd L w cs x) : Elems L w cs [x] := by
  refine ⟨by simp [Rep.len h], fun i y hy => ?_⟩
  cases i with
  | zero => simp at hy; subst hy; simp [← Rep.len h]; exact h
  | succ i => simp at hy

theorem Elems.cells1 {α : Type} [Rep α] {L : List Value} {w : World} {cs : List Value} {xs : List α} (h : Elems L w cs xs) : ∀ u ∈ cs, u.oneCell' = true := by
  intro u hu
  obtain ⟨k, hk, rfl⟩ := List.getElem_of_mem hu
  rcases Nat.eq_zero_or_pos (Rep.n α) with h0 | h0
  · rw [h.1, h0] at hk; omega
  · have hi : k / Rep.n α < xs.length := by rw [h.1] at hk; exact Nat.div_lt_of_lt_mul (by rwa [Nat.mul_comm] at hk)
    have := Rep.one (h.2 (k / Rep.n α) _ (List.getElem?_eq_getElem hi)) (cs[k])
    refine this ?_
    have hm := Nat.mod_lt k h0
    have hd := Nat.div_add_mod k (Rep.n α)
    rw [Nat.mul_comm] at hd
    refine List.mem_of_getElem? (i := k % Rep.n α) ?_
    rw [List.getElem?_take_of_lt hm, List.getElem?_drop, hd, List.getElem?_eq_getElem hk]

def SlRd {α : Type} [Rep α] (L : List Value) (w : World) (v : Value) (xs : List α) : Prop :=
  (∃ a0, v = .slice a0 0 0 ∧ xs = []) ∨
  ∃ b off cap cur e fz, v = .slice (some ⟨b, off, none⟩) xs.length cap ∧ w.heap[b]? = some (.cells cur e fz) ∧ Avoids L b ∧ xs.length ≤ cap ∧ cap ≤ maxLen ∧
    off + cap * Rep.n α ≤ cur.size ∧ Elems L w ((cur.toList.drop off).take (xs.length * Rep.n α)) xs

theorem SlRd.step {α : Type} [Rep α] {L L' : List Value} {w w' : World} {v : Value} {xs : List α} (s : Stepp L w L' w') (h : SlRd L w v xs) : SlRd L' w' v xs := by
  rcases h with h | ⟨b, off, cap, cur, e, fz, h1, h2, h3, h4, h5, h6, h7⟩
  · exact .inl h
  · obtain ⟨k1, k2⟩ := s.keeps h2 h3
    exact .inr ⟨b, off, cap, cur, e, fz, h1, k1, k2, h4, h5, h6, h7.step s⟩

theorem SlRd.nil {α : Type} [Rep α] (L : List Value) (w : World) : SlRd L w (.slice none 0 0) ([] : List α) := .inl ⟨none, rfl, rfl⟩

instance {α : Type} [Rep α] : Rep (List α) := ⟨1, fun L w cs xs => ∃ v, cs = [v] ∧ SlRd L w v xs, fun ⟨_, h, _⟩ => by subst h; rfl,
  fun ⟨v, h, hs⟩ => by
    subst h
    rcases hs with ⟨_, rfl, _⟩ | ⟨b, off, cap, cur, e, fz, rfl, _⟩ <;> simp [Value.oneCell'],
  fun s ⟨v, h, hs⟩ => ⟨v, h, hs.step s⟩⟩

theorem SlRd.shape {α : Type} [Rep α] {L : List Value} {w : World} {v : Value} {xs : List α} (h : SlRd L w v xs) : ∃ a cap, v = .slice a xs.length cap ∧ xs.length ≤ maxLen := by
  rcases h with ⟨a0, rfl, rfl⟩ | ⟨b, off, cap, cur, e, fz, rfl, _, _, h4, h5, _⟩
  · exact ⟨a0, 0, rfl, Nat.zero_le _⟩
  · exact ⟨_, cap, rfl, Nat.le_trans h4 h5⟩

theorem SlRd.lt {α : Type} [Rep α] {L : List Value} {w : World} {v : Value} {xs : List α} (h : SlRd L w v xs) : (xs.length : Int) ≤ 9223372036854775807 := by
  obtain ⟨_, _, _, h⟩ := h.shape; unfold maxLen at h; omega

/-! ### Cells at an address -/
def At (w : World) (a : Addr) (cs : List Value) : Prop := a.spot = none ∧ ∀ j v, cs[j]? = some v → w.cell? (a.add j) = some v

theorem YQ (b o k : Nat) : (Addr.add ⟨b, o, none⟩ k) = ⟨b, o + k, none⟩ := by
  unfold Addr.add; split
  · subst_vars; rfl
  · rfl
theorem Qpf {a : Addr} (h : a.spot = none) : a = ⟨a.block, a.off, none⟩ := by cases a; simp at h; subst h; rfl
theorem Qjq {a : Addr} (h : a.spot = none) (k : Nat) : a.add k = ⟨a.block, a.off + k, none⟩ := by rw [Qpf h, YQ]

theorem At.ext {w w' : World} {a : Addr} {cs : List Value} (e : Ext w w') (h : At w a cs) : At w' a cs := ⟨h.1, fun j v hv => by
  have := h.2 j v hv
  rw [Qjq h.1] at this ⊢
  have hb : a.block < w.heap.size := by
    unfold World.cell? at this
    split at this
    · rename_i hh; exact JF hh
    · cases this
  rw [World.cell?_of_block (w := w) (w' := w') (a := ⟨a.block, a.off + j, none⟩) (e.block _ hb (Avoids.nil _))]
  exact this⟩

theorem At.drop {w : World} {a : Addr} {cs : List Value} (h : At w a cs) (k : Nat) : At w (a.add k) (cs.drop k) := ⟨by rw [Qjq h.1], fun j v hv => by
  rw [List.getElem?_drop] at hv
  have := h.2 _ v hv
  rw [Qjq h.1] at this ⊢
  rw [YQ]
  rwa [← Nat.add_assoc] at this⟩

theorem At.take {w : World} {a : Addr} {cs : List Value} (h : At w a cs) (k : Nat) : At w a (cs.take k) := ⟨h.1, fun j v hv => by
  by_cases hj : j < k
  · rw [List.getElem?_take_of_lt hj] at hv; exact h.2 j v hv
  · rw [List.getElem?_eq_none (by simp; omega)] at hv; cases hv⟩

theorem At.of_block {w : World} {b off : Nat} {cur : Array Value} {e : TypeId} {fz : Nat × Nat} {cs : List Value} (h : w.heap[b]? = some (.cells cur e fz)) (hc : ∀ j v, cs[j]? = some v → cur[off + j]? = some v) : At w ⟨b, off, none⟩ cs :=
  ⟨rfl, fun j v hv => by rw [YQ]; simp [World.cell?, h, hc j v hv]⟩

def Box (w : World) (b : Nat) (cs : List Value) (T : TypeId) : Prop := w.heap[b]? = some (.cells cs.toArray T (0, 0))

theorem Box.at {w : World} {b : Nat} {cs : List Value} {T : TypeId} (h : Box w b cs T) : At w ⟨b, 0, none⟩ cs := At.of_block h (fun j v hv => by simpa using hv)
theorem Box.lt {w : World} {b : Nat} {cs : List Value} {T : TypeId} (h : Box w b cs T) : b < w.heap.size := JF h
theorem Box.chg {w w' : World} {b : Nat} {cs : List Value} {T : TypeId} {H : List Value} (h : Box w b cs T) (c : Chg H w w') (hA : Avoids H b) : Box w' b cs T := (c.block b h.lt hA).trans h
theorem Box.ext {w w' : World} {b : Nat} {cs : List Value} {T : TypeId} (h : Box w b cs T) (c : Ext w w') : Box w' b cs T := h.chg c (Avoids.nil _)

/-! ### A slice of the call's own -/
def Own {α : Type} [Rep α] (e : TypeId) (L : List Value) (w : World) (v : Value) (xs : List α) : Prop :=
  ∃ cells, w.ownsRow 0 e (Rep.n α) v xs.length cells ∧ Elems L w cells xs

theorem QDc (v : Value) (hv : ∃ a n c, v = .slice a n c) : v.ownBlock = Qr v := by
  obtain ⟨a, n, c, rfl⟩ := hv
  cases a <;> rfl

theorem Own.shape {α : Type} [Rep α] {e : TypeId} {L : List Value} {w : World} {v : Value} {xs : List α} (h : Own e L w v xs) : ∃ a cap, v = .slice a xs.length cap ∧ xs.length ≤ maxLen := by
  obtain ⟨cells, ⟨_, h⟩, _⟩ := h
  rcases h with ⟨rfl, h⟩ | ⟨g, cap, cur, rfl, _, _, h4, h5, _⟩
  · exact ⟨none, 0, by rw [h], by rw [h]; exact Nat.zero_le _⟩
  · exact ⟨_, cap, rfl, Nat.le_trans h4 h5⟩

theorem Own.nil {α : Type} [Rep α] (e : TypeId) (L : List Value) (w : World) : Own e L w (.slice none 0 0) ([] : List α) := ⟨[], World.ownsRow_nil w 0 e _, Elems.nil⟩

theorem Own.blk_lt {α : Type} [Rep α] {e : TypeId} {L : List Value} {w : World} {v : Value} {xs : List α} (h : Own e L w v xs) {b : Nat} (hb : Qr v = some b) : b < w.heap.size := by
  obtain ⟨a, cap, hv, _⟩ := h.shape
  obtain ⟨cells, ho, _⟩ := h
  exact (World.ownsRow.lt ho b (by rw [QDc v ⟨_, _, _, hv⟩]; exact hb)).2

theorem Own.step {α : Type} [Rep α] {e : TypeId} {L L' : List Value} {w w' : World} {v : Value} {xs : List α} (s : Stepp L w L' w') (h : Own e L w v xs) {H : List Value} (c : Chg H w w') (hA : ∀ b, Qr v = some b → Avoids H b) : Own e L' w' v xs := by
  obtain ⟨cells, ⟨h0, h⟩, hel⟩ := h
  refine ⟨cells, ⟨h0, ?_⟩, hel.step s⟩
  rcases h with h | ⟨g, cap, cur, rfl, h2, h3, h4⟩
  · exact .inl h
  · exact .inr ⟨g, cap, cur, rfl, h2, (c.block g (JF h3) (hA g rfl)).trans h3, h4⟩

theorem Own.rd {α : Type} [Rep α] {e : TypeId} {L : List Value} {w : World} {v : Value} {xs : List α} (h : Own e L w v xs) (hA : ∀ b, Qr v = some b → Avoids L b) : SlRd L w v xs := by
  obtain ⟨cells, ⟨h0, h⟩, hel⟩ := h
  rcases h with ⟨rfl, h⟩ | ⟨g, cap, cur, rfl, h2, h3, h4, h5, h6, h7⟩
  · exact .inl ⟨none, rfl, List.length_eq_zero_iff.1 h⟩
  · refine .inr ⟨g, 0, cap, cur, e, (0, 0), rfl, h3, hA g rfl, h4, h5, by omega, ?_⟩
    rw [List.drop_zero, h7]
    exact hel

end Go.Gw

end
section
namespace Go.Gw
open Go

section
variable {P : Program} {n : Nat} {ρ : Env} {w : World}

def Yl (P : Program) (n : Nat) (ρ : Env) (o : Oper) (w : World) (v : Value) : Prop := (execOp (QE n ρ) o).run P w = .ok (.value v) w

def gd (g : Bool) (v : Value) : Value := bif g then v else undef
theorem QQ {g : Bool} {v : Value} (h : g = true) : gd g v = v := by subst h; rfl
theorem Qbm {g : Bool} {v : Value} (h : g = false) : gd g v = undef := by subst h; rfl

theorem Qtq (ops : Array Oper) {o : Oper} (h : o.guard = none) : XL ops o n ρ = true := by simp [XL, Region.wanted, h]

theorem Qtu {ops : Array Oper} {j d : Nat} (hd : (ops[j]?).bind (·.dst) = some d) (hn : Nat.blt d n = true) : yielded ops (Xi n ρ).tmps j = match ρ d with | .bool b => some b | _ => none := by
  have hlt : d < n := by simpa [Nat.blt_eq] using hn
  simp only [yielded, hd, Xi, Qq]
  rw [Array.getElem?_ofFn]
  simp only [hlt, dif_pos]
  cases ρ d <;> rfl

theorem QX {ops : Array Oper} {o : Oper} {j d : Nat} {b : Bool} (hg : o.guard = some (j, true)) (hd : (ops[j]?).bind (·.dst) = some d) (hn : Nat.blt d n = true) (hv : ρ d = .bool b) : XL ops o n ρ = b := by
  simp only [XL, Region.wanted, hg, Qtu hd hn, hv]; cases b <;> rfl
theorem XE {ops : Array Oper} {o : Oper} {j d : Nat} {b : Bool} (hg : o.guard = some (j, false)) (hd : (ops[j]?).bind (·.dst) = some d) (hn : Nat.blt d n = true) (hv : ρ d = .bool b) : XL ops o n ρ = !b := by
  simp only [XL, Region.wanted, hg, Qtu hd hn, hv]; cases b <;> rfl
/-! ### Stepping a region -/
section
variable {ops : Array Oper} {K : Env → World → Prop} {o : Oper} {os : List Oper}

theorem Qe (h : K ρ w) : T0 P n ops K [] ρ w := h
theorem Qa {v : Value} (hg : o.guard = none) (hy : Yl P n ρ o w v) (h : T0 P n ops K os (XA ρ o.dst v) w) : T0 P n ops K (o :: os) ρ w := by
  simp only [T0, Stp, Qtq ops hg, if_true, Eff]
  simp only [Yl] at hy
  simp only [hy]; exact h
theorem Q9 {v : Value} (b : Bool) (hw : XL ops o n ρ = b) (hy : b = true → Yl P n ρ o w v) (h : T0 P n ops K os (XA ρ o.dst (gd b v)) w) : T0 P n ops K (o :: os) ρ w := by
  simp only [T0, Stp, hw]
  cases b
  · exact h
  · have hy := hy rfl
    simp only [Yl] at hy
    simp only [if_true, Eff, hy]; exact h
theorem Ql (hg : o.guard = none) (h : Eff P o n ρ w (fun v w' => T0 P n ops K os (XA ρ o.dst v) w')) : T0 P n ops K (o :: os) ρ w := by
  simp only [T0, Stp, Qtq ops hg, if_true]; exact h
variable {S : World → Prop} {Kt : Env → World → Prop} {i : Nat} {rest : List (Nat × Bool)} {trest : List Nat} {ol : List Oper}
theorem Qou (b : Bool) (hw : XL ops o n ρ = b) (ht : b = true → Eff P o n ρ w (fun v w' => T0 P n ops K os (XA ρ o.dst v) w')) (hf : b = false → T0 P n ops K os (XA ρ o.dst undef) w) : T0 P n ops K (o :: os) ρ w := by
  simp only [T0, Stp, hw]
  cases b
  · exact hf rfl
  · exact ht rfl
end

/-! ### What operations yield -/
section
variable {d : Option Nat} {t T U : TypeId} {p : String} {af : Array Edge} {gu : Option (Nat × Bool)} {x y z : Operand}

theorem Qd {v : Value} (hx : QE n ρ x = v) : Yl P n ρ ⟨d, .move x, t, p, af, gu⟩ w v := by subst hx; rfl
theorem Qi {v : Value} (hx : QE n ρ x = v) : Yl P n ρ ⟨d, .assign x, t, p, af, gu⟩ w v := by subst hx; rfl
theorem Qjh {b : Bool} {v : Value} (hx : QE n ρ x = .bool b) (hy : b = true → QE n ρ y = v) (hz : b = false → QE n ρ z = v) : Yl P n ρ ⟨d, .pick x y z, t, p, af, gu⟩ w v := by
  cases b
  · simp [Yl, execOp, hx, asBool, hz rfl]
  · simp [Yl, execOp, hx, asBool, hy rfl]
theorem Yw {b c : Bool} (hx : QE n ρ x = .bool b) (hy : b = true → QE n ρ y = .bool c) (hz : QE n ρ z = .bool false) : Yl P n ρ ⟨d, .pick x y z, t, p, af, gu⟩ w (.bool (b && c)) :=
  Qjh hx (fun h => by rw [hy h, h]; rfl) (fun h => by rw [hz, h]; rfl)
theorem JP {b c : Bool} (hx : QE n ρ x = .bool b) (hy : QE n ρ y = .bool true) (hz : b = false → QE n ρ z = .bool c) : Yl P n ρ ⟨d, .pick x y z, t, p, af, gu⟩ w (.bool (b || c)) :=
  Qjh hx (fun h => by rw [hy, h]; rfl) (fun h => by rw [hz h, h]; rfl)

theorem QS {k : IntKind} {a b : Int} (hx : QE n ρ x = .int k a) (hy : QE n ρ y = .int k b) : Yl P n ρ ⟨d, .binOp .add T x y U, t, p, af, gu⟩ w (.int k (k.wrap (a + b))) := by
  simp [Yl, execOp, hx, hy, eqGuard, binOp, Op.intArith]
theorem Yy {k : IntKind} {a b : Int} (hx : QE n ρ x = .int k a) (hy : QE n ρ y = .int k b) : Yl P n ρ ⟨d, .binOp .sub T x y U, t, p, af, gu⟩ w (.int k (k.wrap (a - b))) := by
  simp [Yl, execOp, hx, hy, eqGuard, binOp, Op.intArith]
theorem XQ {k : IntKind} {a b : Int} (hx : QE n ρ x = .int k a) (hy : QE n ρ y = .int k b) : Yl P n ρ ⟨d, .binOp .mul T x y U, t, p, af, gu⟩ w (.int k (k.wrap (a * b))) := by
  simp [Yl, execOp, hx, hy, eqGuard, binOp, Op.intArith]
theorem Qaz {k : IntKind} {a b : Int} (hb : b ≠ 0) (hx : QE n ρ x = .int k a) (hy : QE n ρ y = .int k b) : Yl P n ρ ⟨d, .binOp .quo T x y U, t, p, af, gu⟩ w (.int k (k.wrap (a.tdiv b))) := by
  simp [Yl, execOp, hx, hy, eqGuard, binOp, Op.intDiv, hb]
theorem JQ {k : IntKind} {a b : Int} (hb : b ≠ 0) (hx : QE n ρ x = .int k a) (hy : QE n ρ y = .int k b) : Yl P n ρ ⟨d, .binOp .rem T x y U, t, p, af, gu⟩ w (.int k (a.tmod b)) := by
  simp [Yl, execOp, hx, hy, eqGuard, binOp, Op.intDiv, hb]
theorem Q8 {k : IntKind} {a b : Int} (hx : QE n ρ x = .int k a) (hy : QE n ρ y = .int k b) : Yl P n ρ ⟨d, .binOp .lss T x y U, t, p, af, gu⟩ w (.bool (decide (a < b))) := by
  simp [Yl, execOp, hx, hy, eqGuard, binOp, Op.intCmp]
theorem Zp {k : IntKind} {a b : Int} (hx : QE n ρ x = .int k a) (hy : QE n ρ y = .int k b) : Yl P n ρ ⟨d, .binOp .leq T x y U, t, p, af, gu⟩ w (.bool (decide (a ≤ b))) := by
  simp [Yl, execOp, hx, hy, eqGuard, binOp, Op.intCmp]
theorem Yx {k : IntKind} {a b : Int} (hx : QE n ρ x = .int k a) (hy : QE n ρ y = .int k b) : Yl P n ρ ⟨d, .binOp .gtr T x y U, t, p, af, gu⟩ w (.bool (decide (b < a))) := by
  simp [Yl, execOp, hx, hy, eqGuard, binOp, Op.intCmp]
theorem Qax {k : IntKind} {a b : Int} (hx : QE n ρ x = .int k a) (hy : QE n ρ y = .int k b) : Yl P n ρ ⟨d, .binOp .geq T x y U, t, p, af, gu⟩ w (.bool (decide (b ≤ a))) := by
  simp [Yl, execOp, hx, hy, eqGuard, binOp, Op.intCmp]
theorem Qkw (a b : Int) : (a == b) = decide (a = b) := by rw [Bool.eq_iff_iff]; simp
theorem XH {k : IntKind} {a b : Int} (hx : QE n ρ x = .int k a) (hy : QE n ρ y = .int k b) : Yl P n ρ ⟨d, .binOp .eql T x y U, t, p, af, gu⟩ w (.bool (decide (a = b))) := by
  simp [Yl, execOp, hx, hy, eqGuard, binOp, Op.intCmp, Qkw]
theorem XV {k : IntKind} {a b : Int} (hx : QE n ρ x = .int k a) (hy : QE n ρ y = .int k b) : Yl P n ρ ⟨d, .binOp .neq T x y U, t, p, af, gu⟩ w (.bool (!decide (a = b))) := by
  simp [Yl, execOp, hx, hy, eqGuard, binOp, Op.intCmp, bne, Qkw]
theorem X4 {b : Bool} (hx : QE n ρ x = .bool b) : Yl P n ρ ⟨d, .unOp .not T x, t, p, af, gu⟩ w (.bool (!b)) := by
  simp [Yl, execOp, hx, Op.unary]
theorem Je {k : IntKind} {a : Int} (hx : QE n ρ x = .int k a) : Yl P n ρ ⟨d, .unOp .neg T x, t, p, af, gu⟩ w (.int k (k.wrap (0 - a))) := by
  simp [Yl, execOp, hx, Op.unary, Op.intArith]
theorem Qtv {k k' : IntKind} {a : Int} (hu : P.underlying T = some (.int k')) (hv : P.underlying U = some (.int k)) (hx : QE n ρ x = .int k' a) : Yl P n ρ ⟨d, .convert T U x, t, p, af, gu⟩ w (.int k (k.wrap a)) := by
  simp [Yl, execOp, hx, convert, run_underlying hu, run_underlying hv, Conv.intToInt]
theorem Xr {i : Nat} {vs : Array Value} {v : Value} (hx : QE n ρ x = .tuple vs) (hv : vs[i]? = some v) : Yl P n ρ ⟨d, .extract x i, t, p, af, gu⟩ w v := by
  simp [Yl, execOp, hx, Instr.extract, hv]
theorem QHh {e : TypeId} {a : Option Addr} {m c : Nat} {aT : Array TypeId} (hT : aT[0]? = some T) (hu : P.underlying T = some (.slice e)) (hx : QE n ρ x = .slice a m c) : Yl P n ρ ⟨d, .call ⟨.builtin .len, #[x], aT⟩, t, p, af, gu⟩ w (.int .i64 m) := by
  simp [Yl, execOp, resolve, invoke, builtin, Builtin.len_, hT, hx, run_underlying hu, goInt]
theorem QHi {k k' : IntKind} {a b : Int} {aT : Array TypeId} (hx : QE n ρ x = .int k a) (hy : QE n ρ y = .int k' b) : Yl P n ρ ⟨d, .call ⟨.builtin .max, #[x, y], aT⟩, t, p, af, gu⟩ w (.int k (if a < b then b else a)) := by
  simp [Yl, execOp, resolve, invoke, builtin, Builtin.max_, Builtin.max2, hx, hy]
theorem QHa {fs : Array Field} {f : Field} {cs : Array Value} {i : Nat} {v : Value} (hu : P.underlying T = some (.struct fs)) (hf : fs[i]? = some f) (hx : QE n ρ x = .agg cs)
    (hp : (part f.type cs f.offset).run P w = .ok v w) : Yl P n ρ ⟨d, .field T x i, t, p, af, gu⟩ w v := by
  simp [Yl, execOp, hx, Instr.field, run_underlying hu, hf, asAgg, hp]
end
end
end Go.Gw

end
section
namespace Go.Gw
open Go

section
variable {P : Program} {n : Nat} {ρ : Env} {w : World}
variable {d : Option Nat} {t T U : TypeId} {p : String} {af : Array Edge} {gu : Option (Nat × Bool)} {x y z : Operand}

def Y6 (P : Program) (T : TypeId) : Prop := ∃ dsc, P.underlying T = some dsc ∧ (match dsc with | .struct _ | .array _ _ => False | _ => True)
def Aggr (P : Program) (T : TypeId) (k : Nat) : Prop := ∃ dsc i, P.underlying T = some dsc ∧ (match dsc with | .struct _ | .array _ _ => True | _ => False) ∧ P.info? T = some i ∧ i.size = k
def XK (P : Program) (T : TypeId) (k : Nat) : Prop := ∃ i, P.info? T = some i ∧ i.size = k

theorem Zv {T k : Nat} (h : XK P T k) : (sizeOf T).run P w = .ok k w := by
  obtain ⟨i, hi, hk⟩ := h
  simp [sizeOf, typeInfo, hi, hk]

theorem Qno (h : Y6 P T) : (isAgg T).run P w = .ok false w := by
  obtain ⟨dsc, hd, hm⟩ := h
  simp only [isAgg, Sem.run_bind, run_underlying hd, Result.andThen]
  cases dsc <;> simp at hm <;> rfl
theorem Qst {k : Nat} (h : Aggr P T k) : (isAgg T).run P w = .ok true w := by
  obtain ⟨dsc, i, hd, hm, _⟩ := h
  simp only [isAgg, Sem.run_bind, run_underlying hd, Result.andThen]
  cases dsc <;> simp at hm <;> rfl
theorem Aggr.size {k : Nat} (h : Aggr P T k) : XK P T k := by obtain ⟨_, i, _, _, hi, hk⟩ := h; exact ⟨i, hi, hk⟩

theorem QHb {fs : Array Field} {i : Nat} {f : Field} {k : Nat} {a : Addr} (hu : P.underlying T = some (.struct fs)) (hf : fs[i]? = some f) (hs : XK P f.type (k + 1)) (hx : QE n ρ x = .pointer (some a)) :
    Yl P n ρ ⟨d, .fieldAddr T x i, t, p, af, gu⟩ w (.pointer (some (a.add f.offset))) := by
  simp [Yl, execOp, hx, Instr.fieldAt, run_underlying hu, hf, Instr.sureAddr, fieldPlace, Zv hs]

theorem Qs {a : Addr} {v : Value} {cs : List Value} (hT : Y6 P T) (hx : QE n ρ x = .pointer (some a)) (hat : At w a (v :: cs)) : Yl P n ρ ⟨d, .load T x, t, p, af, gu⟩ w v := by
  have h0 := hat.2 0 v rfl
  have e : a.add 0 = a := by simp [Addr.add]
  rw [e] at h0
  simp [Yl, execOp, hx, Instr.loadAt, Instr.sureAddr, loadVar, Qno hT, h0]

theorem QT {a : Addr} {cs : List Value} (hT : Aggr P T cs.length) (hx : QE n ρ x = .pointer (some a)) (hat : At w a cs) : Yl P n ρ ⟨d, .load T x, t, p, af, gu⟩ w (.agg cs.toArray) := by
  simp [Yl, execOp, hx, Instr.loadAt, Instr.sureAddr, loadVar, Qst hT, Zv hT.size, run_loadCells_list w a cs hat.2]

def QU (v : Value) (i k : Nat) : Addr := match v with | .slice (some a) _ _ => a.add (i * k) | _ => default

def idx {α : Type} (xs : List α) (i : Int) : Option α := if 0 ≤ i then xs[i.toNat]? else none

theorem Ze {α : Type} {xs : List α} {i : Int} {x : α} (h : idx xs i = some x) : 0 ≤ i ∧ i.toNat < xs.length ∧ xs[i.toNat]? = some x := by
  unfold idx at h
  split at h
  · rename_i h0; exact ⟨h0, (List.getElem?_eq_some_iff.1 h).1, h⟩
  · cases h

theorem QY {α : Type} [Rep α] {e : TypeId} {L : List Value} {w2 : World} {v : Value} {xs : List α} {k : IntKind} {i : Int} {el : α} (hu : P.underlying T = some (.slice e)) (hs : XK P e (Rep.n α)) (hsl : SlRd L w2 v xs)
    (hel : idx xs i = some el) (hx : QE n ρ x = v) (hy : QE n ρ y = .int k i) : Yl P n ρ ⟨d, .indexAddr T x y, t, p, af, gu⟩ w (.pointer (some (QU v i.toNat (Rep.n α)))) := by
  obtain ⟨h0, h1, _⟩ := Ze hel
  rcases hsl with ⟨_, _, rfl⟩ | ⟨b, off, cap, cur, e', fz, rfl, _⟩
  · simp at h1
  · have h2 : i < (xs.length : Int) := by omega
    simp [Yl, execOp, hx, hy, Instr.indexAt, asIntOf, run_underlying hu, h0, h2, Zv hs, QU]

theorem SlRd.at {α : Type} [Rep α] {L : List Value} {v : Value} {xs : List α} {i : Int} {el : α} (hsl : SlRd L w v xs) (hel : idx xs i = some el) : ∃ cs, At w (QU v i.toNat (Rep.n α)) cs ∧ Rep.rd L w cs el := by
  obtain ⟨h0, h1, h2⟩ := Ze hel
  rcases hsl with ⟨_, _, rfl⟩ | ⟨b, off, cap, cur, e', fz, rfl, hb, _, h4, _, h6, h7⟩
  · simp at h1
  · refine ⟨_, ?_, h7.2 _ el h2⟩
    simp only [QU, YQ]
    refine At.of_block hb fun j u hu => ?_
    have hj : j < Rep.n α := by
      rcases Nat.lt_or_ge j (Rep.n α) with h | h
      · exact h
      · rw [List.getElem?_eq_none (by simp; omega)] at hu; cases hu
    rw [List.getElem?_take_of_lt hj, List.getElem?_drop] at hu
    have hlt : i.toNat * Rep.n α + j < xs.length * Rep.n α := by
      have : (i.toNat + 1) * Rep.n α ≤ xs.length * Rep.n α := Nat.mul_le_mul_right _ h1
      rw [Nat.succ_mul] at this; omega
    rw [List.getElem?_take_of_lt hlt, List.getElem?_drop] at hu
    rw [← Array.getElem?_toList, ← hu, Nat.add_assoc]

/-! ### New blocks -/
theorem Qwt {v : Value} {K : Value → World → Prop} (hx : QE n ρ x = v)
    (h : ∀ b w', b = w.heap.size → Ext w w' → w'.heap.size = w.heap.size + 1 → Box w' b v.cells.toList T → K (.pointer (some ⟨b, 0, none⟩)) w') : Eff P ⟨d, .box T x, t, p, af, gu⟩ n ρ w K := by
  simp only [Eff, execOp, hx]
  have : (Instr.box T v).run P w = .ok (.pointer (some ⟨w.heap.size, 0, none⟩)) { w with heap := w.heap.push (.cells v.cells T (0, 0)) } := by
    simp [Instr.box, newVar, newRow, newObj]; rfl
  simp only [Sem.run_bind, this, Result.andThen, Sem.run_pure]
  exact h _ _ rfl (Ext.alloc ..) (by simp) (by simp [Box])

theorem Qwr {z : Value} {i : TypeInfo} {K : Value → World → Prop} (hi : P.info? T = some i) (hz : i.zero = some z)
    (h : ∀ b w', b = w.heap.size → Ext w w' → w'.heap.size = w.heap.size + 1 → Box w' b z.cells.toList T → K (.pointer (some ⟨b, 0, none⟩)) w') : Eff P ⟨d, .alloc T, t, p, af, gu⟩ n ρ w K := by
  simp only [Eff, execOp]
  have : (Instr.alloc T true (.tuple #[])).run P w = .ok (.pointer (some ⟨w.heap.size, 0, none⟩)) { w with heap := w.heap.push (.cells z.cells T (0, 0)) } := by
    simp [Instr.alloc, zeroValue, typeInfo, hi, hz, newVar, newRow, newObj]; rfl
  simp only [Sem.run_bind, this, Result.andThen, Sem.run_pure]
  exact h _ _ rfl (Ext.alloc ..) (by simp) (by simp [Box])

/-! ### Stores -/
def YN (cs : List Value) (off : Nat) : List Value → List Value
  | [] => cs
  | v :: vs => YN (cs.set off v) (off + 1) vs

theorem Qwc (w : World) (b off : Nat) (v : Value) : Chg [.pointer (some ⟨b, 0, none⟩)] w (w.setCell ⟨b, off, none⟩ v) :=
  ⟨rfl, rfl, rfl, by simp [World.setCell], fun k _ hA => by
    have hne : b ≠ k := fun e => hA _ (List.mem_singleton.2 rfl) (by simp [Qr, e])
    simp [World.setCell, Array.getElem?_modify, hne]⟩

theorem Qsu (T : TypeId) (b : Nat) : ∀ (vs : List Value) (off i : Nat) (cs : List Value) (w : World), Box w b cs T → off + i + vs.length ≤ cs.length → (∀ v ∈ vs, v.oneCell' = true) →
    ∃ w', (storeCells ⟨b, off, none⟩ vs i).run P w = .ok () w' ∧ Box w' b (YN cs (off + i) vs) T ∧ Chg [.pointer (some ⟨b, 0, none⟩)] w w' ∧ w'.heap.size = w.heap.size
  | [], off, i, cs, w, hb, _, _ => ⟨w, rfl, hb, Chg.refl _ _, rfl⟩
  | v :: vs, off, i, cs, w, hb, hl, h1 => by
    have hlt : off + i < cs.length := by simp at hl; omega
    have hc : w.cell? ⟨b, off + i, none⟩ = some cs[off + i] := by simp [World.cell?, show w.heap[b]? = _ from hb, hlt]
    have hfz : w.frozen? ⟨b, off + i, none⟩ = false := by simp [World.frozen?, show w.heap[b]? = _ from hb]
    have hbox : Box (w.setCell ⟨b, off + i, none⟩ v) b (cs.set (off + i) v) T := by
      have hb' : w.heap[b]? = some (.cells cs.toArray T (0, 0)) := hb
      simp [Box, World.setCell, Array.getElem?_modify, hb']
    obtain ⟨w', hr, hb2, hc2, hs2⟩ := Qsu T b vs off (i + 1) (cs.set (off + i) v) (w.setCell ⟨b, off + i, none⟩ v) hbox (by simp at hl ⊢; omega) (fun u hu => h1 u (List.mem_cons_of_mem _ hu))
    refine ⟨w', ?_, hb2, (Qwc ..).trans hc2, by rw [hs2]; simp [World.setCell]⟩
    have hst : (store ((⟨b, off, none⟩ : Addr).add i) v).run P w = .ok () (w.setCell ⟨b, off + i, none⟩ v) := by
      have := h1 v (List.mem_cons_self ..)
      rw [YQ]
      cases v <;> simp [Value.oneCell'] at this <;> simp [store, Sem.run, hc, hfz]
    simp only [storeCells, Sem.run_bind, hst, Result.andThen]
    exact hr

theorem Qwy {v : Value} {b off : Nat} {cs : List Value} {T' : TypeId} {K : Value → World → Prop} (hs : XK P T v.cells.size) (hx : QE n ρ x = .pointer (some ⟨b, off, none⟩)) (hy : QE n ρ y = v)
    (hb : Box w b cs T') (hl : off + v.cells.size ≤ cs.length) (h1 : ∀ u ∈ v.cells.toList, u.oneCell' = true)
    (h : ∀ w', Chg [.pointer (some ⟨b, 0, none⟩)] w w' → Box w' b (YN cs off v.cells.toList) T' → K undef w') : Eff P ⟨d, .store T x y, t, p, af, gu⟩ n ρ w K := by
  obtain ⟨w', hr, hb2, hc2, _⟩ := Qsu (P := P) T' b v.cells.toList off 0 cs w hb (by simpa using hl) h1
  simp only [Eff, execOp, hx, hy]
  have : (Instr.storeAt T (.pointer (some ⟨b, off, none⟩)) v).run P w = .ok () w' := by
    simp [Instr.storeAt, Instr.sureAddr, storeVar, Zv hs, hr]
  simp only [Sem.run_bind, this, Result.andThen, Sem.run_pure]
  exact h w' hc2 (by simpa using hb2)

/-! ### Calls -/
theorem Qp {f : FuncId} {fn : Func} {c : Code} {xs : Array Operand} {aT : Array TypeId} {args : List Value} {K Φ : Value → World → Prop} (hf : P.funcs[f]? = some fn) (hname : (fn.name == "runtime.NumGoroutine") = false) (hb : fn.body = some c)
    (ha : (xs.map (QE n ρ)).toList = args) (hc : CallsTo P f args w Φ) (h : ∀ v w', Φ v w' → K v w') : Eff P ⟨d, .call ⟨.value (.func f), xs, aT⟩, t, p, af, gu⟩ n ρ w K := by
  have e : xs.map (QE n ρ) = args.toArray := by rw [← ha]
  have : (execOp (QE n ρ) ⟨d, .call ⟨.value (.func f), xs, aT⟩, t, p, af, gu⟩).run P w = .ok (.enter f args.toArray) w := by
    simp [execOp, resolve, Deferred.ofValue, invoke, e, QE, MuLone.run_callFunc_enter hf hname hb]
  simp only [Eff, this]
  exact CallsTo.mono hc h

end
end Go.Gw

end
section
namespace Go.Gw
open Go

section
variable {P : Program} {n : Nat} {ρ : Env} {w : World}
variable {d : Option Nat} {t T U : TypeId} {p : String} {af : Array Edge} {gu : Option (Nat × Bool)} {x y z : Operand}

structure EInfo (P : Program) (e : TypeId) (k bytes : Nat) (z : Value) : Prop where
  ex : ∃ i, P.info? e = some i ∧ i.size = k ∧ i.bytes = bytes ∧ i.zero = some z ∧ z.cells.size = k ∧ 0 < k

theorem EInfo.size {e : TypeId} {k bytes : Nat} {z : Value} (h : EInfo P e k bytes z) : XK P e k := by
  obtain ⟨i, hi, hk, _⟩ := h.ex; exact ⟨i, hi, hk⟩

theorem Own.made {α : Type} [Rep α] {e : TypeId} {L L' : List Value} {xs : List α} {cells : List Value} (h : Elems L w cells xs) (hcap : xs.length ≤ maxLen) (st : Stepp L w L' { w with heap := w.heap.push (.cells cells.toArray e (0, 0)) }) :
    Own e L' { w with heap := w.heap.push (.cells cells.toArray e (0, 0)) } (.slice (some ⟨w.heap.size, 0, none⟩) xs.length xs.length) xs := by
  refine ⟨cells, ⟨h.1, .inr ⟨w.heap.size, xs.length, cells.toArray, rfl, Nat.zero_le _, by simp, Nat.le_refl _, hcap, by simpa using h.1, ?_⟩⟩, h.step st⟩
  rw [← h.1]; simp


/-! ### Filling, over lists -/
def Z2 (place : Nat → Option (Nat × Nat)) (cells : List Value) : List (Nat × Value) → Option (List Value)
  | [] => some cells
  | (i, v) :: rest =>
    match place i with
    | none => none
    | some (off, size) => bif Nat.beq v.cells.toList.length size && Nat.ble (off + v.cells.toList.length) cells.length then Z2 place (YN cells off v.cells.toList) rest else none

theorem Qxn (vs : List Value) : ∀ (cs : Array Value) (off j : Nat), ((vs.zipIdx j).foldl (fun (cs : Array Value) (q : Value × Nat) => cs.setIfInBounds (off + q.2) q.1) cs) = (YN cs.toList (off + j) vs).toArray := by
  induction vs with
  | nil => intro cs off j; simp [YN]
  | cons v vs ih =>
    intro cs off j
    simp only [List.zipIdx_cons, List.foldl_cons, YN]
    rw [ih]
    simp [Nat.add_assoc]

theorem Qfo {place : Nat → Option (Nat × Nat)} : ∀ (parts : List (Nat × Value)) (cells out : List Value), Z2 place cells parts = some out → Instr.fill place cells.toArray parts = some out.toArray
  | [], cells, out, h => by simp [Z2] at h; simp [Instr.fill, h]
  | (i, v) :: rest, cells, out, h => by
    simp only [Z2] at h
    simp only [Instr.fill]
    cases hp : place i with
    | none => simp [hp] at h
    | some q =>
      obtain ⟨off, size⟩ := q
      simp only [hp] at h
      cases hb : (Nat.beq v.cells.toList.length size && Nat.ble (off + v.cells.toList.length) cells.length) with
      | false => simp only [hb, cond_false] at h; cases h
      | true =>
        simp only [hb, cond_true] at h
        simp only [Bool.and_eq_true, Nat.beq_eq, Nat.ble_eq, Array.length_toList] at hb
        have h1 : ¬ (v.cells.size ≠ size || decide (off + v.cells.size > cells.toArray.size)) = true := by simp; omega
        have h2 := Qxn v.cells.toList cells.toArray off 0
        have h3 : v.cells.zipIdx.foldl (fun cs (c, j) => cs.setIfInBounds (off + j) c) cells.toArray = (YN cells off v.cells.toList).toArray := by
          rw [← Array.foldl_toList]
          simpa using h2
        simp only [h3]
        rw [if_neg h1]
        exact Qfo rest _ _ h

def Qba (z : List Value) (k : Nat) : List Value := (List.range k).map fun i => z.getD (i % z.length) undef

theorem QHj (z : Array Value) (k : Nat) (h : 0 < z.size ∨ k = 0) : (Array.range k).map (z[· % z.size]!) = (Qba z.toList k).toArray := by
  apply Array.ext'
  simp only [Array.toList_map, Array.toList_range, Qba]
  apply List.map_congr_left
  intro i hi
  rcases h with h | h
  · have := Nat.mod_lt i h
    simp [List.getD, this]
  · subst h; simp at hi

theorem Qqg {α : Type} [Rep α] {e : TypeId} {bytes : Nat} {z : Value} {L : List Value} {len : Nat} {xs : List α} {cells : List Value} {parts : Array (Nat × Operand)} {K : Value → World → Prop}
    (hu : P.underlying T = some (.slice e)) (hi : EInfo P e (Rep.n α) bytes z) (hsmall : Nat.ble (len * Rep.n α) 16777216 = true)
    (hf' : Z2 (fun i => some (i * Rep.n α, Rep.n α)) (Qba z.cells.toList (len * Rep.n α)) (parts.toList.map fun q => (q.1, QE n ρ q.2)) = some cells)
    (hel : Elems L w cells xs) (hl : xs.length = len)
    (h : ∀ b w', b = w.heap.size → Ext w w' → w'.heap.size = w.heap.size + 1 → Own e L w' (.slice (some ⟨b, 0, none⟩) len len) xs → Own e (.slice (some ⟨b, 0, none⟩) len len :: L) w' (.slice (some ⟨b, 0, none⟩) len len) xs → K (.slice (some ⟨b, 0, none⟩) len len) w') : Eff P ⟨d, .buildSlice T len parts, t, p, af, gu⟩ n ρ w K := by
  obtain ⟨i, h1, h2, h3, h4, h5, h6⟩ := hi.ex
  have hsm : ¬ len * Rep.n α > 2 ^ 24 := by
    have : len * Rep.n α ≤ 16777216 := by simpa using hsmall
    omega
  have hcap : xs.length ≤ maxLen := by
    have h7 : len * 1 ≤ len * Rep.n α := Nat.mul_le_mul_left _ h6
    have : len * Rep.n α ≤ 16777216 := by simpa using hsmall
    unfold maxLen; omega
  have hf : Instr.fill (fun i => some (i * Rep.n α, Rep.n α)) ((Array.range (len * Rep.n α)).map (z.cells[· % z.cells.size]!)) (parts.map fun q => (q.1, QE n ρ q.2)).toList = some cells.toArray := by
    rw [QHj z.cells _ (.inl (by omega)), Array.toList_map]
    exact Qfo _ _ _ hf'
  have hz : (Array.map (fun q : Nat × Operand => (q.1, QE n ρ q.2)) parts) = Array.map (fun (i, x) => (i, QE n ρ x)) parts := rfl
  have hr : (Instr.buildSlice T len (parts.map fun (i, x) => (i, QE n ρ x))).run P w = .ok (.slice (some ⟨w.heap.size, 0, none⟩) len len) { w with heap := w.heap.push (.cells cells.toArray e (0, 0)) } := by
    rw [hz] at hf
    have hzv : (zeroValue e).run P w = .ok z w := by simp [zeroValue, typeInfo, h1, h4]
    by_cases h0 : len * Rep.n α = 0
    · have hl0 : len = 0 := by rcases Nat.mul_eq_zero.1 h0 with h | h; exact h; omega
      subst hl0
      have hf' : Instr.fill (fun i => some (i * Rep.n α, Rep.n α)) #[] (parts.map fun (i, x) => (i, QE n ρ x)).toList = some cells.toArray := by rw [← hf]; congr 1; simp
      have e0 : (Array.map (fun x => (#[] : Array Value)[x % (#[] : Array Value).size]!) (Array.range 0)) = #[] := by simp
      simp only [Instr.buildSlice, Sem.run_bind, run_underlying hu, Result.andThen, Zv hi.size, Nat.zero_mul]
      rw [if_neg (by decide), if_pos trivial, Sem.run_bind, Sem.run_pure]
      simp only [Result.andThen, e0, hf']
      rfl
    · simp only [Instr.buildSlice, Sem.run_bind, run_underlying hu, Result.andThen, Zv hi.size, if_neg hsm, if_neg h0, hzv, Sem.run_pure]
      rw [hf]
      rfl
  simp only [Eff, execOp, Sem.run_bind, hr, Result.andThen, Sem.run_pure]
  have o1 := Own.made (e := e) hel hcap (Stepp.ext (Ext.alloc ..))
  have o2 := Own.made (e := e) hel hcap (Stepp.add (.slice (some ⟨w.heap.size, 0, none⟩) len len) (Ext.alloc ..) (fun b hb => by simp [Qr] at hb; omega))
  rw [hl] at o1 o2
  exact h _ _ rfl (Ext.alloc ..) (by simp) o1 o2

theorem Qws {α : Type} [Rep α] {e : TypeId} {bytes : Nat} {zz : Value} {L : List Value} {v vx : Value} {xs ys : List α} {K : Value → World → Prop} {aT : Array TypeId}
    (hu : P.underlying T = some (.slice e)) (hi : EInfo P e (Rep.n α) bytes zz) (hT : aT = #[T, T]) (hx : QE n ρ x = v) (hy : QE n ρ y = vx) (hown : Own e (v :: L) w v xs) (hs : SlRd (v :: L) w vx ys)
    (hb : (xs.length + ys.length) * bytes ≤ 140737488355328) (hm : xs.length + ys.length ≤ maxLen)
    (h : ∀ v' w', Chg [v] w w' → (∀ b, Qr v' = some b → Qr v = some b ∨ w.heap.size ≤ b) → Own e (v' :: L) w' v' (xs ++ ys) → K v' w') : Eff P ⟨d, .call ⟨.builtin .append, #[x, y], aT⟩, t, p, af, gu⟩ n ρ w K := by
  subst hT
  obtain ⟨i, h1, h2, h3, h4, h5, h6⟩ := hi.ex
  obtain ⟨av, capv, hv, _⟩ := hown.shape
  obtain ⟨cells, ho, hel⟩ := hown
  have key : ∀ r : Result Value, (Builtin.append_ #[T, T] t #[v, vx]).run P w = r → (match r with | .ok v' w' => K v' w' | _ => False) → Eff P ⟨d, .call ⟨.builtin .append, #[x, y], #[T, T]⟩, t, p, af, gu⟩ n ρ w K := by
    intro r hr hK
    have : (execOp (QE n ρ) ⟨d, .call ⟨.builtin .append, #[x, y], #[T, T]⟩, t, p, af, gu⟩).run P w = ((Builtin.append_ #[T, T] t #[v, vx]).run P w).andThen fun v w => .ok (.value v) w := by
      simp [execOp, resolve, invoke, builtin, hx, hy]
    simp only [Eff, this, hr]
    cases r with
    | ok v' w' => exact hK
    | halt _ _ => exact hK.elim
  rcases hs with ⟨a0, rfl, rfl⟩ | ⟨b, off, cap, cur, e', fz, rfl, hblk, hA, hcap, hcm, hsz, hely⟩
  · refine key (.ok v w) ?_ (h v w (Chg.refl _ _) (fun b hb => .inl hb) ?_)
    · subst hv
      have hle : xs.length ≤ capv := by
        rcases ho.2 with ⟨hh, h0⟩ | ⟨g, cap, cur, hh, _, _, h4, _⟩
        · omega
        · cases hh; exact h4
      have hnot : ∀ q, P.underlying T = some q → (match q with | .int _ => true | _ => false) = false := by intro q hq; rw [hu] at hq; cases hq; rfl
      simp [Builtin.append_, run_underlying hu, sizeOf, typeInfo, h1, Builtin.lenOf, Builtin.firstCells, hle]
      have hl0 : ∀ a : Addr, (loadCells a 0).run P w = .ok #[] w := fun a => run_loadCells_list (P := P) w a [] (fun j v hv => by simp at hv)
      cases av <;> cases a0 <;> simp [storeCells, hl0]
    · rw [List.append_nil]; exact ⟨cells, ho, hel⟩
  · have hnl : (((cur.toList.drop off).take (ys.length * Rep.n α))).length = ys.length * Rep.n α := hely.1
    have hbase : (0 : Nat) ≤ w.heap.size := Nat.zero_le _
    obtain ⟨v', w', hr, ho', hg, _⟩ := run_append_own (P := P) w 0 T t e i zz (Rep.n α) bytes hu h1 h4 h2 h3 h5 h6 v xs.length cells ho ⟨b, off, none⟩ ys.length cap ((cur.toList.drop off).take (ys.length * Rep.n α)) hnl
      (fun j u hu => by
        rw [YQ]
        have hj : j < ys.length * Rep.n α := by
          rcases Nat.lt_or_ge j (ys.length * Rep.n α) with h | h
          · exact h
          · rw [List.getElem?_eq_none (by rw [hnl]; exact h)] at hu; cases hu
        rw [List.getElem?_take_of_lt hj, List.getElem?_drop] at hu
        simp [World.cell?, hblk, ← hu])
      hely.cells1 hm hb hbase
    have hc : Chg [v] w w' := Chg.of_grown hg
    have hnews : ∀ j u, ((cur.toList.drop off).take (ys.length * Rep.n α))[j]? = some u → w.cell? ((⟨b, off, none⟩ : Addr).add j) = some u := fun j u hu => by
      rw [YQ]
      have hj : j < ys.length * Rep.n α := by
        rcases Nat.lt_or_ge j (ys.length * Rep.n α) with h | h
        · exact h
        · rw [List.getElem?_eq_none (by rw [hnl]; exact h)] at hu; cases hu
      rw [List.getElem?_take_of_lt hj, List.getElem?_drop] at hu
      simp [World.cell?, hblk, ← hu]
    have hbl : ∀ b, Qr v' = some b → Qr v = some b ∨ w.heap.size ≤ b := by
      intro k hk
      rcases ho.2 with ⟨hh, h0⟩ | ⟨g, cap', cur', hh, _, hg', h4', _, hcs, htake⟩
      · have hown2 : w.ownsRow w.heap.size e (Rep.n α) v xs.length cells := ⟨ho.1, .inl ⟨hh, h0⟩⟩
        obtain ⟨v2, w2, hr2, ho2, _⟩ := run_append_own (P := P) w w.heap.size T t e i zz (Rep.n α) bytes hu h1 h4 h2 h3 h5 h6 v xs.length cells hown2 ⟨b, off, none⟩ ys.length cap _ hnl hnews hely.cells1 hm hb (Nat.le_refl _)
        rw [hr] at hr2
        cases hr2
        have hw : v'.ownBlock = some k := by
          rcases ho2.2 with ⟨hh, _⟩ | ⟨g2, _, _, hh, _⟩ <;> subst hh
          · cases hk
          · exact hk
        exact .inr (ho2.lt k hw).1
      · subst hh
        by_cases hroom : xs.length + ys.length ≤ cap'
        · have hr2 := run_append_room (P := P) w T t e i hu h1 g xs.length cap' cur' hg' ⟨b, off, none⟩ ys.length cap _ (by rw [h2]; exact hnl) hnews hely.cells1 hroom (by rw [h2, hnl, hcs, ← Nat.add_mul]; exact Nat.mul_le_mul_right _ hroom)
          rw [hr] at hr2
          cases hr2
          exact .inl hk
        · have holds : ∀ j u, cells[j]? = some u → w.cell? ((⟨g, 0, none⟩ : Addr).add j) = some u := World.ownsRow.cells ho (g := g) rfl
          have hr2 := run_append_grow (P := P) w T t e i zz hu h1 h4 ⟨g, 0, none⟩ xs.length cap' cells (by rw [h2]; exact ho.1) holds ⟨b, off, none⟩ ys.length cap _ (by rw [h2]; exact hnl) hnews (by omega) (by unfold maxLen at hm; omega) (growslice_fits (by omega) (by rw [h3]; exact hb))
          rw [hr] at hr2
          cases hr2
          right
          have : w.heap.size = k := by simpa [Qr] using hk
          omega
    refine key _ hr (h v' w' hc hbl ?_)
    have st : Stepp (v :: L) w (v' :: L) w' := Stepp.swap hc hbl
    exact ⟨cells ++ _, by simpa using ho', (hel.step st).append (Elems.step st hely)⟩

end
end Go.Gw

end
section
namespace Go.Gw
open Go

section
variable {P : Program} {n : Nat} {ρ : Env} {w : World}
variable {d : Option Nat} {t T U : TypeId} {p : String} {af : Array Edge} {gu : Option (Nat × Bool)} {x y z : Operand}

theorem SlRd.ext {α : Type} [Rep α] {L : List Value} {w w' : World} {v : Value} {xs : List α} (h : SlRd L w v xs) (e : Ext w w') : SlRd L w' v xs := h.step (Stepp.ext e)
theorem At.ext' {w w' : World} {a : Addr} {cs : List Value} (h : At w a cs) (e : Ext w w') : At w' a cs := At.ext e h
theorem Own.ext {α : Type} [Rep α] {e : TypeId} {L : List Value} {w w' : World} {v : Value} {xs : List α} (h : Own e L w v xs) (c : Ext w w') : Own e L w' v xs := h.step (Stepp.ext c) c (fun _ _ => Avoids.nil _)
theorem Rep.ext {α : Type} [Rep α] {L : List Value} {w w' : World} {cs : List Value} {a : α} (h : Rep.rd L w cs a) (c : Ext w w') : Rep.rd L w' cs a := Rep.step (Stepp.ext c) h

theorem Jd {α : Type} [Rep α] {e : TypeId} {L : List Value} {w2 : World} {v : Value} {xs : List α} {k : IntKind} {i : Int} {el : α} (hu : P.underlying T = some (.slice e)) (hs : XK P e (Rep.n α)) (hown : Own e L w2 v xs)
    (hel : idx xs i = some el) (hx : QE n ρ x = v) (hy : QE n ρ y = .int k i) : Yl P n ρ ⟨d, .indexAddr T x y, t, p, af, gu⟩ w (.pointer (some (QU v i.toNat (Rep.n α)))) := by
  obtain ⟨h0, h1, _⟩ := Ze hel
  obtain ⟨cells, ho, _⟩ := hown
  rcases ho.2 with ⟨_, h⟩ | ⟨g, cap, cur, rfl, _⟩
  · omega
  · have h2 : i < (xs.length : Int) := by omega
    simp [Yl, execOp, hx, hy, Instr.indexAt, asIntOf, run_underlying hu, h0, h2, Zv hs, QU]

theorem Own.at {α : Type} [Rep α] {e : TypeId} {L : List Value} {v : Value} {xs : List α} {i : Int} {el : α} (hown : Own e L w v xs) (hel : idx xs i = some el) : ∃ cs, At w (QU v i.toNat (Rep.n α)) cs ∧ Rep.rd L w cs el := by
  obtain ⟨h0, h1, h2⟩ := Ze hel
  obtain ⟨cells, ho, hE⟩ := hown
  rcases ho.2 with ⟨_, h⟩ | ⟨g, cap, cur, rfl, _, hg, h4, h5, hcs, htake⟩
  · omega
  · refine ⟨_, ?_, hE.2 _ el h2⟩
    simp only [QU, YQ, Nat.zero_add]
    refine At.of_block hg fun j u hu => ?_
    have hj : j < Rep.n α := by
      rcases Nat.lt_or_ge j (Rep.n α) with h | h
      · exact h
      · rw [List.getElem?_eq_none (by simp; omega)] at hu; cases hu
    rw [List.getElem?_take_of_lt hj, List.getElem?_drop, ← htake] at hu
    have hlt : i.toNat * Rep.n α + j < xs.length * Rep.n α := by
      have : (i.toNat + 1) * Rep.n α ≤ xs.length * Rep.n α := Nat.mul_le_mul_right _ h1
      rw [Nat.succ_mul] at this; omega
    rw [List.getElem?_take_of_lt hlt] at hu
    rw [← Array.getElem?_toList, ← hu]

theorem Qsv {e : TypeId} {size g m cap : Nat} : ∀ (vs : List Value) (off i : Nat) (cells : List Value) (w : World), w.ownsRow 0 e size (.slice (some ⟨g, 0, none⟩) m cap) m cells → off + i + vs.length ≤ cells.length → (∀ v ∈ vs, v.oneCell' = true) →
    ∃ w', (storeCells ⟨g, off, none⟩ vs i).run P w = .ok () w' ∧ w'.ownsRow 0 e size (.slice (some ⟨g, 0, none⟩) m cap) m (YN cells (off + i) vs) ∧ w.grownBy w' (some g)
  | [], off, i, cells, w, ho, _, _ => ⟨w, rfl, ho, ⟨rfl, rfl, rfl, Nat.le_refl _, fun _ _ _ => rfl⟩⟩
  | v :: vs, off, i, cells, w, ho, hl, h1 => by
    have hlt : off + i < cells.length := by simp at hl; omega
    have hc : w.cell? ⟨g, off + i, none⟩ = some cells[off + i] := by
      have := World.ownsRow.cells ho (g := g) rfl (off + i) _ (List.getElem?_eq_getElem hlt)
      rwa [YQ, Nat.zero_add] at this
    have hfz : w.frozen? ⟨g, off + i, none⟩ = false := by
      rcases ho.2 with ⟨h, _⟩ | ⟨g', cap', cur, h, _, hg, _⟩
      · cases h
      · cases h; simp [World.frozen?, hg]
    obtain ⟨ho1, hg1⟩ := World.ownsRow.stored (w := w) (e := e) (size := size) (base := 0) ho (off + i) v
    obtain ⟨w', hr, ho2, hg2⟩ := Qsv vs off (i + 1) (cells.set (off + i) v) (w.setCell ⟨g, off + i, none⟩ v) ho1 (by simp at hl ⊢; omega) (fun u hu => h1 u (List.mem_cons_of_mem _ hu))
    refine ⟨w', ?_, ho2, ⟨hg2.os.trans hg1.os, hg2.tape.trans hg1.tape, hg2.output.trans hg1.output, Nat.le_trans hg1.size hg2.size, fun k hk hne => (hg2.block k (Nat.lt_of_lt_of_le hk hg1.size) hne).trans (hg1.block k hk hne)⟩⟩
    have hst : (store ((⟨g, off, none⟩ : Addr).add i) v).run P w = .ok () (w.setCell ⟨g, off + i, none⟩ v) := by
      have := h1 v (List.mem_cons_self ..)
      rw [YQ]
      cases v <;> simp [Value.oneCell'] at this <;> simp [store, Sem.run, hc, hfz]
    simp only [storeCells, Sem.run_bind, hst, Result.andThen]
    exact hr

theorem QEx (vs : List Value) : ∀ (cs : List Value) (k : Nat), (YN cs k vs).length = cs.length := by
  induction vs with
  | nil => intro cs k; rfl
  | cons v vs ih => intro cs k; simp [YN, ih]

theorem QEz (vs : List Value) : ∀ (cells : List Value) (a b k : Nat), k + vs.length ≤ b → ((YN cells (a + k) vs).drop a).take b = YN ((cells.drop a).take b) k vs := by
  induction vs with
  | nil => intro cells a b k _; rfl
  | cons v vs ih =>
    intro cells a b k hk
    simp only [YN]
    have h1 : k + 1 + vs.length ≤ b := by simp at hk; omega
    rw [Nat.add_assoc, ih (cells.set (a + k) v) a b (k + 1) h1]
    congr 1
    rw [List.drop_set, if_neg (by omega), List.take_set, Nat.add_sub_cancel_left]

theorem QEy (vs : List Value) : ∀ (cells : List Value) (a b k : Nat), (a + b ≤ k ∨ k + vs.length ≤ a) → ((YN cells k vs).drop a).take b = (cells.drop a).take b := by
  induction vs with
  | nil => intro cells a b k _; rfl
  | cons v vs ih =>
    intro cells a b k hk
    simp only [YN]
    rw [ih _ a b (k + 1) (by simp at hk; omega)]
    rw [List.drop_set]
    split
    · rfl
    · rw [List.take_set, List.set_eq_of_length_le]
      simp; simp at hk; omega

theorem Qwz {α : Type} [Rep α] {e : TypeId} {L : List Value} {v : Value} {xs : List α} {i : Int} {el y' : α} {off : Nat} {u : Value} {K : Value → World → Prop} (hs : XK P T u.cells.size) (hown : Own e L w v xs) (hv : v ∈ L) (hel : idx xs i = some el)
    (hx : QE n ρ x = .pointer (some ((QU v i.toNat (Rep.n α)).add off))) (hy : QE n ρ y = u) (hl : off + u.cells.size ≤ Rep.n α) (h1 : ∀ c ∈ u.cells.toList, c.oneCell' = true)
    (hset : ∀ w' cs, Rep.rd L w' cs el → Rep.rd L w' (YN cs off u.cells.toList) y')
    (h : ∀ w', Chg [v] w w' → Own e L w' v (xs.set i.toNat y') → K undef w') : Eff P ⟨d, .store T x y, t, p, af, gu⟩ n ρ w K := by
  obtain ⟨h0, hi, h2⟩ := Ze hel
  obtain ⟨cells, ho, hE⟩ := hown
  rcases ho.2 with ⟨_, hh⟩ | ⟨g, cap, cur, rfl, _, hg, h4, h5, hcs, htake⟩
  · omega
  · have hlen : i.toNat * Rep.n α + off + 0 + u.cells.toList.length ≤ cells.length := by
      have : (i.toNat + 1) * Rep.n α ≤ xs.length * Rep.n α := Nat.mul_le_mul_right _ hi
      rw [Nat.succ_mul] at this
      rw [hE.1]; simp; omega
    obtain ⟨w', hr, ho2, hg2⟩ := Qsv (P := P) u.cells.toList (i.toNat * Rep.n α + off) 0 cells w ho hlen h1
    have hx' : QE n ρ x = .pointer (some ⟨g, i.toNat * Rep.n α + off, none⟩) := by rw [hx]; simp [QU, YQ]
    have hst : (Instr.storeAt T (.pointer (some ⟨g, i.toNat * Rep.n α + off, none⟩)) u).run P w = .ok () w' := by
      simp [Instr.storeAt, Instr.sureAddr, storeVar, Zv hs, hr]
    simp only [Eff, execOp, hx', hy, Sem.run_bind, hst, Result.andThen, Sem.run_pure]
    have hc : Chg [Value.slice (some ⟨g, 0, none⟩) xs.length cap] w w' := ⟨hg2.os, hg2.tape, hg2.output, hg2.size, fun b hb hA => hg2.block b hb (fun e => hA _ (List.mem_singleton.2 rfl) (by cases e; rfl))⟩
    refine h w' hc ⟨_, by rw [List.length_set]; exact ho2, ?_⟩
    have hE' := hE.step (Qt hc hv)
    refine ⟨by rw [QEx, List.length_set]; exact hE.1, fun j b hb => ?_⟩
    by_cases hj : j = i.toNat
    · subst hj
      rw [List.getElem?_set_self hi] at hb
      cases hb
      rw [Nat.add_zero, QEz _ _ _ _ _ (by simpa using hl)]
      exact hset _ _ (hE'.2 _ _ h2)
    · rw [List.getElem?_set_ne (Ne.symm hj)] at hb
      rw [Nat.add_zero, QEy]
      · exact hE'.2 _ _ hb
      · rcases Nat.lt_or_ge j i.toNat with hlt | hge
        · left
          have : (j + 1) * Rep.n α ≤ i.toNat * Rep.n α := Nat.mul_le_mul_right _ hlt
          rw [Nat.succ_mul] at this; omega
        · right
          have : (i.toNat + 1) * Rep.n α ≤ j * Rep.n α := Nat.mul_le_mul_right _ (by omega)
          rw [Nat.succ_mul] at this; simp; omega

/-! ### Cuts -/
def cut {α : Type} (xs : List α) (lo hi : Int) : Option (List α) := if 0 ≤ lo ∧ lo ≤ hi ∧ hi ≤ xs.length then some ((xs.take hi.toNat).drop lo.toNat) else none

theorem Qke {α : Type} {xs ys : List α} {lo hi : Int} (h : cut xs lo hi = some ys) : 0 ≤ lo ∧ lo ≤ hi ∧ hi ≤ xs.length ∧ ys = (xs.take hi.toNat).drop lo.toNat := by
  unfold cut at h
  split at h
  · rename_i hc; exact ⟨hc.1, hc.2.1, hc.2.2, by cases h; rfl⟩
  · cases h

def YU (v : Value) (lo hi k : Nat) : Value := match v with
  | .slice a _ c => .slice (if c = lo then a else a.map (·.add (lo * k))) (hi - lo) (c - lo)
  | v => v

theorem SlRd.cut {α : Type} [Rep α] {L : List Value} {w : World} {v : Value} {xs ys : List α} {lo hi : Int} (hs : SlRd L w v xs) (hc : cut xs lo hi = some ys) : SlRd L w (YU v lo.toNat hi.toNat (Rep.n α)) ys := by
  obtain ⟨h0, h1, h2, rfl⟩ := Qke hc
  rcases hs with ⟨a0, rfl, rfl⟩ | ⟨b, off, cap, cur, e, fz, rfl, hb, hA, h4, h5, h6, h7⟩
  · have : hi = 0 := by simp at h2; omega
    subst this
    have : lo = 0 := by omega
    subst this
    exact .inl ⟨a0, by simp [YU], by simp⟩
  · have hlen : ((xs.take hi.toNat).drop lo.toNat).length = hi.toNat - lo.toNat := by simp; omega
    have elem : ∀ off', off' = off + lo.toNat * Rep.n α → Elems L w ((cur.toList.drop off').take (((xs.take hi.toNat).drop lo.toNat).length * Rep.n α)) ((xs.take hi.toNat).drop lo.toNat) := by
      rintro off' rfl
      have hmul : (lo.toNat + (hi.toNat - lo.toNat)) * Rep.n α ≤ xs.length * Rep.n α := Nat.mul_le_mul_right _ (by omega)
      have hmul2 : xs.length * Rep.n α ≤ cap * Rep.n α := Nat.mul_le_mul_right _ h4
      rw [Nat.add_mul] at hmul
      refine ⟨by rw [hlen]; simp; omega, fun j b hb => ?_⟩
      have hj : j < hi.toNat - lo.toNat := by
        rcases Nat.lt_or_ge j (hi.toNat - lo.toNat) with h | h
        · exact h
        · rw [List.getElem?_eq_none (by rw [hlen]; exact h)] at hb; cases hb
      have hb' : xs[lo.toNat + j]? = some b := by
        rw [List.getElem?_drop, List.getElem?_take_of_lt (by omega)] at hb; exact hb
      have := h7.2 _ b hb'
      have hj2 : (j + 1) * Rep.n α ≤ (hi.toNat - lo.toNat) * Rep.n α := Nat.mul_le_mul_right _ hj
      rw [Nat.succ_mul] at hj2
      have hj3 : (lo.toNat + j) * Rep.n α = lo.toNat * Rep.n α + j * Rep.n α := Nat.add_mul ..
      rw [List.drop_take, List.take_take, List.drop_drop] at this ⊢
      rw [hlen]
      rw [Nat.min_eq_left (by omega)] at this ⊢
      rw [hj3, ← Nat.add_assoc] at this
      exact this
    by_cases hcl : cap = lo.toNat
    · refine .inr ⟨b, off, cap - lo.toNat, cur, e, fz, by simp [YU, hcl, hlen], hb, hA, by rw [hlen]; omega, by omega, ?_, ?_⟩
      · have : (cap - lo.toNat) * Rep.n α ≤ cap * Rep.n α := Nat.mul_le_mul_right _ (by omega)
        omega
      · have hz : ((xs.take hi.toNat).drop lo.toNat) = [] := List.eq_nil_of_length_eq_zero (by rw [hlen]; omega)
        rw [hz]; simp [Elems]
    · refine .inr ⟨b, off + lo.toNat * Rep.n α, cap - lo.toNat, cur, e, fz, by simp [YU, hcl, hlen, YQ], hb, hA, by rw [hlen]; omega, by omega, ?_, elem _ rfl⟩
      have : (lo.toNat + (cap - lo.toNat)) * Rep.n α ≤ cap * Rep.n α := Nat.mul_le_mul_right _ (by omega)
      rw [Nat.add_mul] at this
      omega

theorem Qss {k : IntKind} {i : Int} {y : Nat} {c : BoundsCode} (h0 : 0 ≤ i) (h1 : i ≤ y) : (Instr.sliceBound (.int k i) y c).run P w = .ok i.toNat w := by
  simp [Instr.sliceBound, asIntOf, h0, h1]

theorem Qtw {α : Type} [Rep α] {e : TypeId} {L : List Value} {w2 : World} {v : Value} {xs ys : List α} {k' : IntKind} {hi : Int} (hu : P.underlying T = some (.slice e)) (hz : XK P e (Rep.n α)) (hs : SlRd L w2 v xs) (hc : cut xs 0 hi = some ys)
    (hx : QE n ρ x = v) (hh : QE n ρ z = .int k' hi) : Yl P n ρ ⟨d, .slice T x none (some z) none, t, p, af, gu⟩ w (YU v 0 hi.toNat (Rep.n α)) := by
  obtain ⟨h0, h1, h2, _⟩ := Qke hc
  obtain ⟨a, cap, hv, _⟩ := hs.shape
  have hcap : xs.length ≤ cap := by
    rcases hs with ⟨a0, rfl, rfl⟩ | ⟨b, off, cap', cur, e, fz, rfl, hb, hA, h4, _⟩
    · exact Nat.zero_le _
    · cases hv; exact h4
  subst hv
  have e1 := Qss (P := P) (w := w) (k := k') (i := hi) (y := cap) (c := .sliceAcap) (by omega) (by omega)
  simp [Yl, execOp, hx, hh, Instr.sliceAt, Instr.slice, run_underlying hu, Instr.sliceBounds, e1, Zv hz, YU]

theorem Qtx {α : Type} [Rep α] {e : TypeId} {L : List Value} {w2 : World} {v : Value} {xs ys : List α} {k : IntKind} {lo : Int} (hu : P.underlying T = some (.slice e)) (hz : XK P e (Rep.n α)) (hs : SlRd L w2 v xs) (hc : cut xs lo xs.length = some ys)
    (hx : QE n ρ x = v) (hl : QE n ρ y = .int k lo) : Yl P n ρ ⟨d, .slice T x (some y) none none, t, p, af, gu⟩ w (YU v lo.toNat ((xs.length : Int).toNat) (Rep.n α)) := by
  obtain ⟨h0, h1, h2, _⟩ := Qke hc
  obtain ⟨a, cap, hv, _⟩ := hs.shape
  subst hv
  have e2 := Qss (P := P) (w := w) (k := k) (i := lo) (y := xs.length) (c := .sliceB) h0 (by omega)
  simp [Yl, execOp, hx, hl, Instr.sliceAt, Instr.slice, run_underlying hu, Instr.sliceBounds, e2, Zv hz, YU]

/-! ### Structs and arrays built; made slices -/
structure BI (P : Program) (T : TypeId) (places : List (Nat × Nat)) (zero : List Value) : Prop where
  ex : ∃ it fs z, P.info? T = some it ∧ P.underlying T = some (.struct fs) ∧ it.zero = some z ∧ z.cells = zero.toArray ∧ fs.toList.mapM (fun f => (P.info? f.type).map fun i => (f.offset, i.size)) = some places

theorem QGy {cells zero : List Value} {places : List (Nat × Nat)} {parts : Array (Nat × Operand)} (hB : BI P T places zero) (h : Z2 (places[·]?) zero (parts.toList.map fun q => (q.1, QE n ρ q.2)) = some cells) :
    Yl P n ρ ⟨d, .build T parts, t, p, af, gu⟩ w (.agg cells.toArray) := by
  obtain ⟨it, fs, z, h1, h2, h3, h4, h5⟩ := hB.ex
  have h' : P.built T (parts.map fun (i, x) => (i, QE n ρ x)).toList = some cells.toArray := by
    simp only [Program.built, h1, h2, h3, h5, h4]
    have := Qfo _ _ _ h
    rw [Array.toList_map]
    simpa using this
  simp only [Yl, execOp, Sem.run_bind, run_build w T _ _ h', Result.andThen, Sem.run_pure]

theorem Qay {e m sz : Nat} {k : IntKind} {i : Int} {a : Addr} (hu : P.underlying T = some (.array m e)) (hs : XK P e sz) (h0 : 0 ≤ i) (h1 : i < m) (hx : QE n ρ x = .pointer (some a)) (hy : QE n ρ y = .int k i) :
    Yl P n ρ ⟨d, .indexAddr T x y, t, p, af, gu⟩ w (.pointer (some (a.add (i.toNat * sz)))) := by
  simp [Yl, execOp, hx, hy, Instr.indexAt, asIntOf, run_underlying hu, Instr.sureAddr, h0, h1, Zv hs]

end
end Go.Gw

end
section
namespace Go.Gw
open Go

abbrev w64 (x : Int) : Int := IntKind.wrap .i64 x

theorem Qv {α : Type} {b : Bool} {x y z : α} (hb : b = true) (h : cond b x y = z) : x = z := by subst hb; exact h
theorem QA {α : Type} {b : Bool} {x y z : α} (hb : b = false) (h : cond b x y = z) : y = z := by subst hb; exact h
theorem Qj {α β : Type} {e : Option α} {f : α → Option β} {r : β} (h : e.bind f = some r) : ∃ x, e = some x ∧ f x = some r := by
  cases e with
  | none => cases h
  | some x => exact ⟨x, rfl, h⟩

noncomputable def loop {σ β : Type} (step : σ → Option (σ ⊕ β)) (s : σ) : Option β :=
  open Classical in if h : ∃ o, ∃ k, YB step k s = some o then some (Classical.choose h) else none

theorem Qqr {σ β : Type} {step : σ → Option (σ ⊕ β)} : ∀ {k k' : Nat} {s : σ} {o o' : β}, YB step k s = some o → YB step k' s = some o' → o = o'
  | 0, _, _, _, _, h, _ => by cases h
  | _ + 1, 0, _, _, _, _, h => by cases h
  | k + 1, k' + 1, s, o, o', h, h' => by
    simp only [YB] at h h'
    cases hs : step s with
    | none => simp [hs] at h
    | some x =>
      cases x with
      | inl s' => simp only [hs] at h h'; exact Qqr h h'
      | inr b => simp only [hs] at h h'; cases h; cases h'; rfl

theorem loop_iff {σ β : Type} {step : σ → Option (σ ⊕ β)} {s : σ} {o : β} : loop step s = some o ↔ ∃ k, YB step k s = some o := by
  classical
  unfold loop
  constructor
  · intro h
    split at h
    · rename_i hh
      obtain ⟨k, hk⟩ := Classical.choose_spec hh
      cases h
      exact ⟨k, hk⟩
    · cases h
  · rintro ⟨k, hk⟩
    have hh : ∃ o, ∃ k, YB step k s = some o := ⟨o, k, hk⟩
    rw [dif_pos hh]
    obtain ⟨k', hk'⟩ := Classical.choose_spec hh
    rw [Qqr hk' hk]

theorem YC {σ β : Type} {step : σ → Option (σ ⊕ β)} {s s' : σ} (h : step s = some (.inl s')) : loop step s = loop step s' := by
  apply Option.ext
  intro o
  rw [loop_iff, loop_iff]
  constructor
  · rintro ⟨k, hk⟩
    cases k with
    | zero => cases hk
    | succ k => simp only [YB, h] at hk; exact ⟨k, hk⟩
  · rintro ⟨k, hk⟩
    exact ⟨k + 1, by simp only [YB, h]; exact hk⟩
theorem XZ {σ β : Type} {step : σ → Option (σ ⊕ β)} {s : σ} {o : β} (h : step s = some (.inr o)) : loop step s = some o := by
  rw [loop_iff]; exact ⟨1, by simp only [YB, h]⟩

section
variable {P : Program} {n : Nat} {q : Post} {ρ : Env} {w : World}

theorem Quz {c : Code} {σ β : Type} {step : σ → Option (σ ⊕ β)} {s : σ} {o : β} (I : σ → Env → World → Prop) (h : loop step s = some o) (h0 : I s ρ w)
    (round : ∀ s ρ w, I s ρ w → ∀ x, step s = some x → (∀ y, x = .inr y → y = o) → WC P n c ⟨fun ρ w => ∃ s', x = .inl s' ∧ I s' ρ w, q.ex, q.ret⟩ ρ w) : WC P n (.loop c) q ρ w := by
  obtain ⟨k, hk⟩ := loop_iff.1 h
  refine Quy (step := step) (k := k) (s := s) (o := o) I hk h0 fun s ρ w hI => ⟨fun s' hs => ?_, fun hs => ?_⟩
  · exact (round s ρ w hI _ hs (fun y hy => by cases hy)).mono (fun ρ w ⟨s'', he, hI'⟩ => by cases he; exact hI') (fun _ _ _ h => h) (fun _ _ h => h)
  · exact (round s ρ w hI _ hs (fun y hy => by cases hy; rfl)).mono (fun ρ w ⟨s'', he, _⟩ => by cases he) (fun _ _ _ h => h) (fun _ _ h => h)

theorem ZY {ops : Array Oper} {K : Env → World → Prop} {o : Oper} {os : List Oper} (b : Bool) (V : Value) (hw : XL ops o n ρ = b) (ht : b = true → Eff P o n ρ w (fun v w' => v = V ∧ Ext w w'))
    (h : ∀ w', Ext w w' → T0 P n ops K os (XA ρ o.dst (gd b V)) w') : T0 P n ops K (o :: os) ρ w :=
  Qou b hw (fun hb => (ht hb).mono fun v w' ⟨hv, he⟩ => by have := h w' he; rw [QQ hb] at this; rw [hv]; exact this)
    (fun hb => by have := h w (Chg.refl _ _); rw [Qbm hb] at this; exact this)
section ev
variable {x1 x2 x3 x4 x5 x6 x7 x8 : Operand} {v1 v2 v3 v4 v5 v6 v7 v8 : Value}
theorem ev0 : ((#[] : Array Operand).map (QE n ρ)).toList = [] := by simp
theorem QN (h1 : QE n ρ x1 = v1) : (#[x1].map (QE n ρ)).toList = [v1] := by subst h1; simp
theorem Qx (h1 : QE n ρ x1 = v1) (h2 : QE n ρ x2 = v2) : (#[x1, x2].map (QE n ρ)).toList = [v1, v2] := by subst h1 h2; simp
theorem XF (h1 : QE n ρ x1 = v1) (h2 : QE n ρ x2 = v2) (h3 : QE n ρ x3 = v3) : (#[x1, x2, x3].map (QE n ρ)).toList = [v1, v2, v3] := by subst h1 h2 h3; simp
theorem ev4 (h1 : QE n ρ x1 = v1) (h2 : QE n ρ x2 = v2) (h3 : QE n ρ x3 = v3) (h4 : QE n ρ x4 = v4) : (#[x1, x2, x3, x4].map (QE n ρ)).toList = [v1, v2, v3, v4] := by subst h1 h2 h3 h4; simp
end ev

variable {d : Option Nat} {t T U : TypeId} {p : String} {af : Array Edge} {gu : Option (Nat × Bool)} {x y z : Operand}
theorem QJ {fs : Array Field} {i : Nat} {f : Field} {a : Addr} {v : Value} (off : Nat) (hu : P.underlying T = some (.struct fs)) (hf : fs[i]? = some f) (ho : f.offset = off) (hs : ∃ k, XK P f.type (k + 1)) (hx : QE n ρ x = .pointer (some a))
    (hv : v = .pointer (some (a.add off))) : Yl P n ρ ⟨d, .fieldAddr T x i, t, p, af, gu⟩ w v := by
  subst hv; subst ho
  obtain ⟨k, hs⟩ := hs
  exact QHb hu hf hs hx

theorem Xq {a : Addr} {cs : List Value} (hT : Aggr P T cs.length) (hat : At w a cs) : (loadVar T a).run P w = .ok (.agg cs.toArray) w := by
  simp [loadVar, Qst hT, Zv hT.size, run_loadCells_list w a cs hat.2]
theorem Qcl {a : Addr} {v : Value} {cs : List Value} (hT : Y6 P T) (hat : At w a (v :: cs)) : (loadVar T a).run P w = .ok v w := by
  have h0 := hat.2 0 v rfl
  have e : a.add 0 = a := by simp [Addr.add]
  rw [e] at h0
  simp [loadVar, Qno hT, h0]

def LtL (L : List Value) (w : World) : Prop := ∀ h ∈ L, ∀ b, Qr h = some b → b < w.heap.size
theorem LtL.chg {L H : List Value} {w w' : World} (h : LtL L w) (c : Chg H w w') : LtL L w' := fun x hx b hb => Nat.lt_of_lt_of_le (h x hx b hb) c.size
theorem LtL.nil (w : World) : LtL [] w := fun _ h => by cases h
theorem LtL.cons {L : List Value} {w : World} {v : Value} (h : LtL L w) (hv : ∀ b, Qr v = some b → b < w.heap.size) : LtL (v :: L) w := fun x hx b hb => by
  rcases List.mem_cons.1 hx with rfl | hx
  · exact hv b hb
  · exact h x hx b hb

theorem Own.sub {α : Type} [Rep α] {e : TypeId} {L L' : List Value} {v : Value} {xs : List α} (h : Own e L w v xs) (hs : ∀ x ∈ L', x ∈ L) : Own e L' w v xs := h.step (Stepp.sub w hs) (Chg.refl [] w) (fun _ _ => Avoids.nil _)
theorem SlRd.sub {α : Type} [Rep α] {L L' : List Value} {v : Value} {xs : List α} (h : SlRd L w v xs) (hs : ∀ x ∈ L', x ∈ L) : SlRd L' w v xs := h.step (Stepp.sub w hs)
theorem Own.rdL {α : Type} [Rep α] {e : TypeId} {L L0 : List Value} {w0 : World} {v : Value} {xs : List α} (h : Own e L w v xs) (hs : ∀ x ∈ L0, x ∈ L) (hL : LtL L0 w0) (hf : ∀ b, Qr v = some b → w0.heap.size ≤ b) : SlRd L0 w v xs :=
  (h.sub hs).rd (fun b hb x hx e => by have := hL x hx b e; have := hf b hb; omega)
theorem Xs {v : Value} {b : Nat} (h : Qr v ≠ some b) : Avoids [v] b := fun x hx e => by rcases List.mem_singleton.1 hx with rfl; exact h e
theorem QF {b b' : Nat} (h : b' ≠ b) : Avoids [.pointer (some ⟨b', 0, none⟩)] b := fun x hx e => by rcases List.mem_singleton.1 hx with rfl; simp [Qr] at e; exact h e
end
end Go.Gw
namespace Go.Gw
section
variable {P : Program} {n : Nat} {q : Post} {ρ : Env} {w : World}
theorem Xc {c : Code} {σ β : Type} {step : σ → Option (σ ⊕ β)} {s : σ} {o : β} (I : σ → Env → World → Prop) (h : loop step s = some o) (h0 : I s ρ w)
    (round : ∀ s ρ w, I s ρ w → ∀ x, step s = some x → (∀ y, x = .inr y → y = o) → ∀ K : Env → World → Prop, (∀ s' ρ w, x = .inl s' → I s' ρ w → K ρ w) → WC P n c ⟨K, q.ex, q.ret⟩ ρ w) : WC P n (.loop c) q ρ w :=
  Quz I h h0 fun s ρ w hI x hx ho => round s ρ w hI x hx ho _ fun s' _ _ he hI' => ⟨s', he, hI'⟩
theorem Qk {α : Type} {a : α} {L L' : List α} (h : a ∈ L') (hs : ∀ x ∈ L, x ∈ L') : ∀ x ∈ a :: L, x ∈ L' := fun x hx => by
  rcases List.mem_cons.1 hx with rfl | hx
  · exact h
  · exact hs x hx
theorem Qu {α : Type} (L : List α) : ∀ x ∈ L, x ∈ L := fun _ h => h
theorem Qh {α : Type} {a : α} {L L' : List α} (hs : ∀ x ∈ L, x ∈ L') : ∀ x ∈ L, x ∈ a :: L' := fun x hx => List.mem_cons_of_mem _ (hs x hx)
theorem Qg {α : Type} {a : α} {L : List α} : a ∈ a :: L := List.mem_cons_self ..
theorem Qb {α : Type} {a b : α} {L : List α} (h : a ∈ L) : a ∈ b :: L := List.mem_cons_of_mem _ h
end
end Go.Gw
namespace Go.Gw
def Xt {β μ : Type} (o : β ⊕ μ) (f : μ → Option β) : Option β := match o with | .inl b => some b | .inr m => f m
def jn1 {σ β μ μ' : Type} (o : β ⊕ μ) (f : μ → Option (σ ⊕ (β ⊕ μ'))) : Option (σ ⊕ (β ⊕ μ')) := match o with | .inl b => some (.inr (.inl b)) | .inr m => f m
def jn2 {β μ μ' : Type} (o : β ⊕ μ) (f : μ → Option (β ⊕ μ')) : Option (β ⊕ μ') := match o with | .inl b => some (.inl b) | .inr m => f m
theorem XD {β μ : Type} {a : β} {f : μ → Option β} {x : β} (h : Xt (.inl a) f = some x) : some a = some x := h
theorem XT {β μ : Type} {a : μ} {f : μ → Option β} {x : β} (h : Xt (.inr a) f = some x) : f a = some x := h
section
variable {α : Type} [Rep α] {w w' : World}
theorem Jl {e : TypeId} {L : List Value} {v : Value} {xs : List α} {b : Nat} (h : Own e L w v xs) (hb : b = w.heap.size) : Qr v ≠ some b := fun e => by have := h.blk_lt e; omega
theorem XJ {v v' : Value} {b : Nat} {cs : List Value} {T : TypeId} (hbl : ∀ b, Qr v' = some b → Qr v = some b ∨ w.heap.size ≤ b) (h : Qr v ≠ some b) (hB : Box w b cs T) : Qr v' ≠ some b := fun e => by
  rcases hbl b e with h1 | h1
  · exact h h1
  · have := hB.lt; omega
theorem Qfl {e : TypeId} {L : List Value} {u v v' : Value} {xs : List α} (hbl : ∀ b, Qr v' = some b → Qr v = some b ∨ w.heap.size ≤ b) (h : ∀ b, Qr u = some b → Qr v ≠ some b) (hu : Own e L w u xs) : ∀ b, Qr u = some b → Qr v' ≠ some b := fun b hb e => by
  rcases hbl b e with h1 | h1
  · exact h b hb h1
  · have := hu.blk_lt hb; omega
theorem XY {v v' : Value} {w0 : World} (hbl : ∀ b, Qr v' = some b → Qr v = some b ∨ w.heap.size ≤ b) (h : ∀ b, Qr v = some b → w0.heap.size ≤ b) (hs : w0.heap.size ≤ w.heap.size) : ∀ b, Qr v' = some b → w0.heap.size ≤ b := fun b hb => by
  rcases hbl b hb with h1 | h1
  · exact h b h1
  · omega
theorem Qbj {u v : Value} (h : ∀ b, Qr u = some b → Qr v ≠ some b) : ∀ b, Qr v = some b → Qr u ≠ some b := fun b hb e => h b e hb
theorem Yj (b : Nat) {p : Prop} (h : Qr (.slice none 0 0) = some b) : p := by cases h
theorem Qfa {v : Value} {u : Value} (h : ∀ b, Qr u = some b → Qr v ≠ some b) : ∀ b, Qr u = some b → Avoids [v] b := fun b hb => Xs (h b hb)
theorem Yi {v : Value} {b : Nat} (h : Qr v ≠ some b) : ∀ k, Qr v = some k → Avoids [.pointer (some ⟨b, 0, none⟩)] k := fun k hk => QF (fun e => h (by rw [e]; exact hk))
theorem XN {v : Value} {w0 : World} (h : Ext w0 w) (c : Chg [v] w w') (hf : ∀ b, Qr v = some b → w0.heap.size ≤ b) : Ext w0 w' := Chg.fresh h c (fun x hx n e => by rcases List.mem_singleton.1 hx with rfl; exact hf n e)
theorem QL {b : Nat} {w0 : World} (h : Ext w0 w) (c : Chg [.pointer (some ⟨b, 0, none⟩)] w w') (hf : w0.heap.size ≤ b) : Ext w0 w' := Chg.fresh h c (fun x hx n e => by rcases List.mem_singleton.1 hx with rfl; simp [Qr] at e; omega)
end
end Go.Gw
namespace Go.Gw
def XM {α : Type} (xs ys : List α) : Option (List α) := if xs.length + ys.length ≤ 1073741824 then some (xs ++ ys) else none
theorem Qvh {α : Type} {xs ys zs : List α} (h : XM xs ys = some zs) : xs.length + ys.length ≤ 1073741824 ∧ zs = xs ++ ys := by
  unfold XM at h
  split at h
  · rename_i hc; exact ⟨hc, by cases h; rfl⟩
  · cases h
def quo (a b : Int) : Option Int := if b = 0 then none else some (w64 (a.tdiv b))
def rem (a b : Int) : Option Int := if b = 0 then none else some (a.tmod b)
theorem QDh {a b c : Int} (h : quo a b = some c) : b ≠ 0 ∧ c = w64 (a.tdiv b) := by
  unfold quo at h; split at h
  · cases h
  · rename_i hb; exact ⟨hb, by cases h; rfl⟩
section
variable {P : Program} {n : Nat} {ρ : Env} {w : World}
variable {d : Option Nat} {t T U : TypeId} {p : String} {af : Array Edge} {gu : Option (Nat × Bool)} {x y z : Operand}
theorem Qji {a b c : Int} (h : quo a b = some c) (hx : QE n ρ x = .int .i64 a) (hy : QE n ρ y = .int .i64 b) : Yl P n ρ ⟨d, .binOp .quo T x y U, t, p, af, gu⟩ w (.int .i64 c) := by
  obtain ⟨hb, rfl⟩ := QDh h; exact Qaz hb hx hy
theorem Qwv {α : Type} [Rep α] {e : TypeId} {bytes : Nat} {z : Value} {L : List Value} {len : Nat} {xs : List α} {cells : List Value} {parts : Array (Nat × Operand)} {K : Value → World → Prop}
    (hu : P.underlying T = some (.slice e)) (hi : EInfo P e (Rep.n α) bytes z) (hsmall : Nat.ble (len * Rep.n α) 16777216 = true)
    (hf : Z2 (fun i => some (i * Rep.n α, Rep.n α)) (Qba z.cells.toList (len * Rep.n α)) (parts.toList.map fun q => (q.1, QE n ρ q.2)) = some cells)
    (hel : Elems L w cells xs) (hl : xs.length = len) (hlt : LtL L w)
    (h : ∀ b w', Ext w w' → SlRd L w' (.slice (some ⟨b, 0, none⟩) len len) xs → K (.slice (some ⟨b, 0, none⟩) len len) w') : Eff P ⟨d, .buildSlice T len parts, t, p, af, gu⟩ n ρ w K :=
  Qqg hu hi hsmall hf hel hl fun b w' hb he _ ho _ => h b w' he (ho.rd fun k hk x hx e => by
    have := hlt x hx k e
    simp [Qr] at hk; omega)

theorem Qwu {α : Type} [Rep α] {e : TypeId} {bytes : Nat} {z : Value} {L : List Value} {len : Nat} {xs : List α} {cells : List Value} {parts : Array (Nat × Operand)} {K : Value → World → Prop}
    (hu : P.underlying T = some (.slice e)) (hi : EInfo P e (Rep.n α) bytes z) (hsmall : Nat.ble (len * Rep.n α) 16777216 = true)
    (hf : Z2 (fun i => some (i * Rep.n α, Rep.n α)) (Qba z.cells.toList (len * Rep.n α)) (parts.toList.map fun q => (q.1, QE n ρ q.2)) = some cells)
    (hel : Elems L w cells xs) (hl : xs.length = len)
    (h : ∀ v w', Ext w w' → (∀ b, Qr v = some b → w.heap.size ≤ b) → Own e (v :: L) w' v xs → K v w') : Eff P ⟨d, .buildSlice T len parts, t, p, af, gu⟩ n ρ w K :=
  Qqg hu hi hsmall hf hel hl fun _ w' hb he _ _ ho => h _ w' he (fun k hk => by simp [Qr] at hk; omega) ho

theorem X0 {α : Type} [Rep α] {e : TypeId} {bytes : Nat} {zz : Value} {L : List Value} {v vx : Value} {xs ys zs : List α} {K : Value → World → Prop} {aT : Array TypeId}
    (hu : P.underlying T = some (.slice e)) (hi : EInfo P e (Rep.n α) bytes zz) (hbm : Nat.ble bytes 65536 = true) (hT : aT = #[T, T]) (hx : QE n ρ x = v) (hy : QE n ρ y = vx) (hown : Own e (v :: L) w v xs) (hs : SlRd (v :: L) w vx ys)
    (hz : XM xs ys = some zs)
    (h : ∀ v' w', Chg [v] w w' → (∀ b, Qr v' = some b → Qr v = some b ∨ w.heap.size ≤ b) → Own e (v' :: L) w' v' zs → K v' w') : Eff P ⟨d, .call ⟨.builtin .append, #[x, y], aT⟩, t, p, af, gu⟩ n ρ w K := by
  obtain ⟨hb, rfl⟩ := Qvh hz
  have hbm : bytes ≤ 65536 := by simpa using hbm
  have : (xs.length + ys.length) * bytes ≤ 1073741824 * 65536 := Nat.mul_le_mul hb hbm
  exact Qws hu hi hT hx hy hown hs (by omega) (by unfold maxLen; omega) h
end
end Go.Gw
namespace Go.Gw
section
variable {P : Program} {n : Nat} {ρ : Env} {w : World}
variable {d : Option Nat} {t T U : TypeId} {p : String} {af : Array Edge} {gu : Option (Nat × Bool)} {x y z : Operand}
theorem JL {b : Bool} (h : b = false) : (!b) = true := by subst h; rfl
theorem QV {α : Type} [Rep α] {e : TypeId} {L : List Value} {w2 : World} {v : Value} {xs : List α} {aT : Array TypeId} (hT : aT[0]? = some T) (hu : P.underlying T = some (.slice e)) (hs : SlRd L w2 v xs) (hx : QE n ρ x = v) :
    Yl P n ρ ⟨d, .call ⟨.builtin .len, #[x], aT⟩, t, p, af, gu⟩ w (.int .i64 xs.length) := by
  obtain ⟨a, c, rfl, _⟩ := hs.shape; exact QHh hT hu hx
structure ZI (P : Program) (T : TypeId) (cs : List Value) : Prop where
  ex : ∃ i z, P.info? T = some i ∧ i.zero = some z ∧ z.cells.toList = cs
theorem Q3 {cs : List Value} {K : Value → World → Prop} (hZ : ZI P T cs)
    (h : ∀ b w', b = w.heap.size → Ext w w' → Box w' b cs T → K (.pointer (some ⟨b, 0, none⟩)) w') : Eff P ⟨d, .alloc T, t, p, af, gu⟩ n ρ w K := by
  obtain ⟨i, z, hi, hz, hc⟩ := hZ.ex
  exact Qwr hi hz fun b w' hb he _ hB => h b w' hb he (hc ▸ hB)
theorem Xh {v : Value} {cs : List Value} {K : Value → World → Prop} (hx : QE n ρ x = v) (hc : v.cells.toList = cs)
    (h : ∀ b w', b = w.heap.size → Ext w w' → Box w' b cs T → K (.pointer (some ⟨b, 0, none⟩)) w') : Eff P ⟨d, .box T x, t, p, af, gu⟩ n ρ w K :=
  Qwt hx fun b w' hb he _ hB => h b w' hb he (hc ▸ hB)
theorem QO {v : Value} {b off : Nat} {cs cs' vs : List Value} {T' : TypeId} {K : Value → World → Prop} {k : Nat} (hs : XK P T k) (hv : v.cells.toList = vs) (hk : vs.length = k) (hx : QE n ρ x = .pointer (some ⟨b, off, none⟩)) (hy : QE n ρ y = v)
    (hb : Box w b cs T') (hl : Nat.ble (off + k) cs.length = true) (h1 : ∀ u ∈ vs, u.oneCell' = true) (hcs : YN cs off vs = cs')
    (h : ∀ w', Chg [.pointer (some ⟨b, 0, none⟩)] w w' → Box w' b cs' T' → K undef w') : Eff P ⟨d, .store T x y, t, p, af, gu⟩ n ρ w K := by
  subst hv; subst hk; subst hcs
  have e : v.cells.toList.length = v.cells.size := by simp
  exact Qwy (by rw [← e]; exact hs) hx hy hb (by rw [← e]; simpa using hl) h1 h
theorem QH : ∀ u ∈ ([] : List Value), u.oneCell' = true := fun _ h => by cases h
theorem Qo {v : Value} {vs : List Value} (h : v.oneCell' = true) (hs : ∀ u ∈ vs, u.oneCell' = true) : ∀ u ∈ v :: vs, u.oneCell' = true := fun u hu => by
  rcases List.mem_cons.1 hu with rfl | hu
  · exact h
  · exact hs u hu
theorem SlRd.one1 {α : Type} [Rep α] {L : List Value} {v : Value} {xs : List α} (h : SlRd L w v xs) : v.oneCell' = true := by obtain ⟨a, c, rfl, _⟩ := h.shape; rfl
theorem Own.one1 {α : Type} [Rep α] {e : TypeId} {L : List Value} {v : Value} {xs : List α} (h : Own e L w v xs) : v.oneCell' = true := by obtain ⟨a, c, rfl, _⟩ := h.shape; rfl
theorem Qy {L : List Value} {w' : World} {b : Nat} (he : Ext w w') (hb : b = w.heap.size) : Stepp L w (.pointer (some ⟨b, 0, none⟩) :: L) w' := Stepp.add _ he (fun k hk => by simp [Qr] at hk; omega)
theorem Xp {L : List Value} (w : World) : Stepp L w (.slice none 0 0 :: L) w := Stepp.add _ (Chg.refl [] _) (fun _ h => by cases h)
theorem Q4 {b b' : Nat} {cs : List Value} {T : TypeId} (h : Box w b' cs T) (hb : b = w.heap.size) : b ≠ b' := fun e => by have := h.lt; omega
theorem Q1 {w0 : World} {b : Nat} (h : Ext w0 w) (hb : b = w.heap.size) : w0.heap.size ≤ b := by rw [hb]; exact h.size

section
variable {i1 i2 i3 i4 i5 i6 i7 i8 i9 : Nat} {x1 x2 x3 x4 x5 x6 x7 x8 x9 : Operand} {v1 v2 v3 v4 v5 v6 v7 v8 v9 : Value}
end
end
end Go.Gw

end
section
namespace Go.Gw
open Go
section
variable {P : Program} {n : Nat} {q : Post} {ρ : Env} {w : World}
variable {d : Option Nat} {t T U : TypeId} {p : String} {af : Array Edge} {gu : Option (Nat × Bool)} {x y z : Operand}

theorem Qm {α : Type} {a x : α} (h : some a = some x) : a = x := Option.some.inj h

theorem Q6 {c : Code} (M : Env → World → Prop) (h : ∀ K : Env → World → Prop, (∀ ρ w, M ρ w → K ρ w) → WC P n c ⟨K, q.ex, q.ret⟩ ρ w) (h2 : ∀ ρ w, M ρ w → q.norm ρ w) : WC P n c q ρ w :=
  (h M fun _ _ h => h).mono h2 (fun _ _ _ h => h) (fun _ _ h => h)

theorem QEq {X Y : Value} {r : Bool} (h : (Op.equalIn (9999 + 1) T X Y).run P w = .ok r w) : (Op.equal T X Y).run P w = .ok r w := by
  rw [Op.equal, show Op.maxDepth = 9999 + 1 from rfl]; exact h
theorem Qty {X Y : Array Value} {r : Bool} (hg : P.eqGuardType P.depth T = false) (hx : QE n ρ x = .agg X) (hy : QE n ρ y = .agg Y) (h : (Op.equalIn (9999 + 1) T (.agg X) (.agg Y)).run P w = .ok r w) : Yl P n ρ ⟨d, .binOp .eql T x y U, t, p, af, gu⟩ w (.bool r) := by
  simp [Yl, execOp, hx, hy, eqGuard, binOp, QEq h, hg, Result.andThen]
theorem Elems.cons {α : Type} [Rep α] {L : List Value} {cs rest : List Value} {x : α} {xs : List α} (h : Rep.rd L w cs x) (hs : Elems L w rest xs) : Elems L w (cs ++ rest) (x :: xs) := (Elems.one h).append hs

end
end Go.Gw
namespace Go.Gw
open Go
section
variable {P : Program} {T : TypeId}
theorem Y4 {k : Nat} (h : (P.info? T).map (·.size) = some k) : XK P T k := by
  cases hi : P.info? T with
  | none => simp [hi] at h
  | some i => simp [hi] at h; exact ⟨i, hi, h⟩
theorem Jy {k : Nat} {dsc : TypeDesc} (hm : match dsc with | .struct _ | .array _ _ => True | _ => False) (hu : P.underlying T = some dsc) (h : (P.info? T).map (·.size) = some k) : Aggr P T k := by
  obtain ⟨i, hi, hk⟩ := Y4 h
  exact ⟨dsc, i, hu, hm, hi, hk⟩
theorem JV {k bytes : Nat} {z : Value} (h : (P.info? T).bind (fun i => i.zero.map fun z => (i.size, i.bytes, z)) = some (k, bytes, z)) (hz : z.cells.size = k) (hk : 0 < k) : EInfo P T k bytes z := by
  cases hi : P.info? T with
  | none => simp [hi] at h
  | some i =>
    simp only [hi, Qq, Option.map_eq_some_iff, Prod.mk.injEq] at h
    obtain ⟨z', h1, h2, h3, h4⟩ := h
    exact ⟨⟨i, hi, h2, h3, by rw [h1, h4], hz, hk⟩⟩
theorem JT {places : List (Nat × Nat)} {zero : List Value} {fs : Array Field} (hu : P.underlying T = some (.struct fs)) (hz : (P.info? T).bind (fun i => i.zero.map fun z => z.cells) = some zero.toArray)
    (hp : fs.toList.mapM (fun f => (P.info? f.type).map fun i => (f.offset, i.size)) = some places) : BI P T places zero := by
  cases hi : P.info? T with
  | none => simp [hi] at hz
  | some i =>
    simp only [hi, Qq, Option.map_eq_some_iff] at hz
    obtain ⟨z, h1, h2⟩ := hz
    exact ⟨⟨i, fs, z, hi, hu, h1, h2, hp⟩⟩
theorem ZX {cs : List Value} (hz : (P.info? T).bind (fun i => i.zero.map fun z => z.cells.toList) = some cs) : ZI P T cs := by
  cases hi : P.info? T with
  | none => simp [hi] at hz
  | some i =>
    simp only [hi, Qq, Option.map_eq_some_iff] at hz
    obtain ⟨z, h1, h2⟩ := hz
    exact ⟨⟨i, z, hi, h1, h2⟩⟩
end
end Go.Gw
namespace Go.Gw
open Go
theorem QD {L : List Value} {w : World} {b : Nat} {cs : List Value} {T : TypeId} (h : LtL L w) (hB : Box w b cs T) : LtL (.pointer (some ⟨b, 0, none⟩) :: L) w := h.cons fun k hk => by
  have e : b = k := by simpa [Qr] using hk
  subst e; exact hB.lt
theorem Xx {α : Type} [Rep α] {e : TypeId} {L L' : List Value} {w : World} {v : Value} {xs : List α} (h : LtL L w) (hO : Own e L' w v xs) : LtL (v :: L) w := h.cons fun _ hk => hO.blk_lt hk
end Go.Gw
namespace Go.Gw
open Go
theorem XU {v : Value} (h : v.oneCell' = true) : v.cells.toList = [v] := by
  cases v <;> first | rfl | cases h

def JY (place : Nat → Option (Nat × Nat)) (cells : List Value) : List (Nat × List Value) → Option (List Value)
  | [] => some cells
  | (i, vs) :: rest =>
    match place i with
    | none => none
    | some (off, size) => bif Nat.beq vs.length size && Nat.ble (off + vs.length) cells.length then JY place (YN cells off vs) rest else none
theorem Qqk (place : Nat → Option (Nat × Nat)) : ∀ (pv : List (Nat × Value)) (cells : List Value), Z2 place cells pv = JY place cells (pv.map fun q => (q.1, q.2.cells.toList))
  | [], _ => rfl
  | (i, v) :: rest, cells => by
    simp only [Z2, JY, List.map_cons]
    cases place i with
    | none => rfl
    | some p => simp only [Qqk place rest]

section
variable {P : Program} {n : Nat} {q : Post} {ρ : Env} {w : World}
variable {d : Option Nat} {t T U : TypeId} {p : String} {af : Array Edge} {gu : Option (Nat × Bool)} {x y z : Operand}
def PC (n : Nat) (ρ : Env) (parts : List (Nat × Operand)) (pc : List (Nat × List Value)) : Prop := parts.map (fun q => (q.1, (QE n ρ q.2).cells.toList)) = pc
theorem Q5 : PC n ρ [] [] := rfl
theorem QR {i : Nat} {v : Value} {cs : List Value} {ps : List (Nat × Operand)} {pc : List (Nat × List Value)} (h : QE n ρ x = v) (hc : v.cells.toList = cs) (hs : PC n ρ ps pc) : PC n ρ ((i, x) :: ps) ((i, cs) :: pc) := by
  subst h; subst hc; unfold PC at hs ⊢; rw [List.map_cons, hs]
theorem PC.fill {parts : List (Nat × Operand)} {pc : List (Nat × List Value)} {place : Nat → Option (Nat × Nat)} {cells out : List Value} (h : PC n ρ parts pc) (hf : JY place cells pc = some out) : Z2 place cells (parts.map fun q => (q.1, QE n ρ q.2)) = some out := by
  rw [Qqk, List.map_map]; unfold PC at h; rw [← hf, ← h]; rfl
theorem Yr {cells zero : List Value} {places : List (Nat × Nat)} {parts : List (Nat × Operand)} {pc : List (Nat × List Value)} (hB : BI P T places zero) (hp : PC n ρ parts pc) (h : JY (places[·]?) zero pc = some cells) :
    Yl P n ρ ⟨d, .build T parts.toArray, t, p, af, gu⟩ w (.agg cells.toArray) := QGy hB (hp.fill h)
theorem Xv {α : Type} [Rep α] {e : TypeId} {bytes : Nat} {z : Value} {L : List Value} {len : Nat} {xs : List α} {cells : List Value} {parts : List (Nat × Operand)} {pc : List (Nat × List Value)} {K : Value → World → Prop}
    (hu : P.underlying T = some (.slice e)) (hi : EInfo P e (Rep.n α) bytes z) (hsmall : Nat.ble (len * Rep.n α) 16777216 = true)
    (hp : PC n ρ parts pc) (hf : JY (fun i => some (i * Rep.n α, Rep.n α)) (Qba z.cells.toList (len * Rep.n α)) pc = some cells)
    (hel : Elems L w cells xs) (hl : xs.length = len) (hlt : LtL L w)
    (h : ∀ b w', Ext w w' → SlRd L w' (.slice (some ⟨b, 0, none⟩) len len) xs → K (.slice (some ⟨b, 0, none⟩) len len) w') : Eff P ⟨d, .buildSlice T len parts.toArray, t, p, af, gu⟩ n ρ w K :=
  Qwv hu hi hsmall (hp.fill hf) hel hl hlt h
theorem Qkk {α : Type} [Rep α] {e : TypeId} {bytes : Nat} {z : Value} {L : List Value} {len : Nat} {xs : List α} {cells : List Value} {parts : List (Nat × Operand)} {pc : List (Nat × List Value)} {K : Value → World → Prop}
    (hu : P.underlying T = some (.slice e)) (hi : EInfo P e (Rep.n α) bytes z) (hsmall : Nat.ble (len * Rep.n α) 16777216 = true)
    (hp : PC n ρ parts pc) (hf : JY (fun i => some (i * Rep.n α, Rep.n α)) (Qba z.cells.toList (len * Rep.n α)) pc = some cells)
    (hel : Elems L w cells xs) (hl : xs.length = len)
    (h : ∀ v w', Ext w w' → (∀ b, Qr v = some b → w.heap.size ≤ b) → Own e (v :: L) w' v xs → K v w') : Eff P ⟨d, .buildSlice T len parts.toArray, t, p, af, gu⟩ n ρ w K :=
  Qwu hu hi hsmall (hp.fill hf) hel hl h
end
end Go.Gw
namespace Go.Gw
open Go
section
variable {P : Program} {n : Nat} {ρ : Env} {w : World}
variable {d : Option Nat} {t T U : TypeId} {p : String} {af : Array Edge} {gu : Option (Nat × Bool)} {x y z : Operand}
theorem Qbl {f : FuncId} {fn : Func} {c : Code} {xs : Array Operand} {aT : Array TypeId} {args : List Value} {K Φ : Value → World → Prop} (hy : QE n ρ y = .func (.func f) #[] #[]) (hf : P.funcs[f]? = some fn) (hname : (fn.name == "runtime.NumGoroutine") = false) (hb : fn.body = some c)
    (ha : (xs.map (QE n ρ)).toList = args) (hc : CallsTo P f args w Φ) (h : ∀ v w', Φ v w' → K v w') : Eff P ⟨d, .call ⟨.value y, xs, aT⟩, t, p, af, gu⟩ n ρ w K := by
  have e : xs.map (QE n ρ) = args.toArray := by rw [← ha]
  have : (execOp (QE n ρ) ⟨d, .call ⟨.value y, xs, aT⟩, t, p, af, gu⟩).run P w = .ok (.enter f args.toArray) w := by
    simp [execOp, resolve, Deferred.ofValue, invoke, e, hy, MuLone.run_callFunc_enter hf hname hb]
  simp only [Eff, this]
  exact CallsTo.mono hc h
theorem At.elem {a : Addr} {cs : List Value} {i : Nat} {u : Value} (h : At w a cs) (hi : cs[i]? = some u) : At w (a.add (i * 1)) [u] := by
  have h2 := (At.drop h i).take 1
  rw [Nat.mul_one]
  obtain ⟨hl, he⟩ := List.getElem?_eq_some_iff.1 hi
  have : (cs.drop i).take 1 = [u] := by rw [List.drop_eq_getElem_cons hl]; simp [he]
  rwa [this] at h2
end
end Go.Gw
namespace Go.Gw
open Go
theorem Qbp {xs : List Int} {i el : Int} (h : idx xs i = some el) : i < xs.length := by obtain ⟨h0, h1, _⟩ := Ze h; omega
end Go.Gw

end
section
namespace Go.Gw
open Go
section
variable {P : Program} {n : Nat} {ρ : Env} {w : World}
variable {d : Option Nat} {t T U : TypeId} {p : String} {af : Array Edge} {gu : Option (Nat × Bool)} {x y z : Operand}

theorem Qoq {cells zero : List Value} {m e sz : Nat} {parts : List (Nat × Operand)} {pc : List (Nat × List Value)} (hu : P.underlying T = some (.array m e)) (hs : XK P e sz) (hz : ZI P T zero) (hp : PC n ρ parts pc)
    (h : JY (fun i => some (i * sz, sz)) zero pc = some cells) : Yl P n ρ ⟨d, .build T parts.toArray, t, p, af, gu⟩ w (.agg cells.toArray) := by
  obtain ⟨it, z, h1, h3, h4⟩ := hz.ex
  obtain ⟨ie, he, hsz⟩ := hs
  have h' : P.built T (parts.toArray.map fun (i, x) => (i, QE n ρ x)).toList = some cells.toArray := by
    simp only [Program.built, h1, hu, h3, he, hsz]
    have := Qfo _ _ _ (hp.fill h)
    have hz' : z.cells = zero.toArray := by rw [← h4]
    rw [hz', Array.toList_map]
    simpa using this
  simp only [Yl, execOp, Sem.run_bind, run_build w T _ _ h', Result.andThen, Sem.run_pure]

theorem YO {e m sz : Nat} {k : IntKind} {i : Int} {a : Addr} {v : Value} (hu : P.underlying T = some (.array m e)) (hs : XK P e sz) (h0 : 0 ≤ i) (h1 : i < m) (hx : QE n ρ x = .pointer (some a)) (hy : QE n ρ y = .int k i)
    (hv : v = .pointer (some (a.add (i.toNat * sz)))) : Yl P n ρ ⟨d, .indexAddr T x y, t, p, af, gu⟩ w v := by subst hv; exact Qay hu hs h0 h1 hx hy

theorem Qnp {cs : List Value} {off : Nat} {v : Value} (hT : Y6 P T) (h : cs[off]? = some v) : (part T cs.toArray off).run P w = .ok v w := by
  simp [part, Qno hT, h]
theorem QHc {fs : Array Field} {f : Field} {cs : List Value} {i : Nat} {v : Value} (hu : P.underlying T = some (.struct fs)) (hf : fs[i]? = some f) (hT : Y6 P f.type) (hx : QE n ρ x = .agg cs.toArray)
    (h : cs[f.offset]? = some v) : Yl P n ρ ⟨d, .field T x i, t, p, af, gu⟩ w v := QHa hu hf hx (Qnp hT h)
theorem QHe {m e : Nat} {k : IntKind} {i el : Int} {xs : List Int} {ke : IntKind} (hu : P.underlying T = some (.array m e)) (hs : Y6 P e) (hz : XK P e 1) (hl : xs.length = m) (hx : QE n ρ x = .agg (xs.map (Value.int ke)).toArray) (hy : QE n ρ y = .int k i)
    (h : idx xs i = some el) : Yl P n ρ ⟨d, .index T x y, t, p, af, gu⟩ w (.int ke el) := by
  obtain ⟨h0, h1, h2⟩ := Ze h
  have hp : (part e (xs.map (Value.int ke)).toArray (i.toNat * 1)).run P w = .ok (.int ke el) w := Qnp hs (by rw [Nat.mul_one, List.getElem?_map, h2]; rfl)
  have h1' : i < (m : Int) := by omega
  simp [Yl, execOp, hx, hy, Instr.index, asIntOf, run_underlying hu, h0, h1', Zv hz] at hp ⊢
  simp [hp]

def J6 {α : Type} (i : Nat) (v : α) : Nat → List α → List α
  | _, [] => []
  | k, x :: xs => (bif Nat.beq i k then v else x) :: J6 i v (k + 1) xs
theorem QFa {α : Type} (i : Nat) (v : α) : ∀ (xs : List α) (k : Nat), J6 (i + k) v k xs = xs.set i v := by
  intro xs
  induction xs generalizing i with
  | nil => intro k; rfl
  | cons x xs ih =>
    intro k
    cases i with
    | zero =>
      simp only [J6, List.set_cons_zero, Nat.zero_add, Qef, cond_true]
      congr 1
      have key : ∀ (ys : List α) (j : Nat), k < j → J6 k v j ys = ys := by
        intro ys
        induction ys with
        | nil => intro j _; rfl
        | cons y ys ih' => intro j hj; simp only [J6]; rw [JH (by omega), ih' (j + 1) (by omega)]; rfl
      exact key xs (k + 1) (by omega)
    | succ i =>
      simp only [J6, List.set_cons_succ]
      rw [JH (by omega)]
      have := ih i (k + 1)
      rw [show i + (k + 1) = i + 1 + k by omega] at this
      rw [this]; rfl
theorem QFb {α : Type} (i : Nat) (v : α) (xs : List α) : xs.set i v = J6 i v 0 xs := (QFa i v xs 0).symm

theorem Qqh {b : Nat} {i el v : Int} {xs ys : List Int} {ke : IntKind} {cs : List Value} {T' : TypeId} {K : Value → World → Prop} (hs : XK P T 1) (hx : QE n ρ x = .pointer (some (Addr.add ⟨b, 0, none⟩ (i.toNat * 1)))) (hy : QE n ρ y = .int ke v)
    (hi : idx xs i = some el) (hcs : cs = xs.map (Value.int ke)) (hb : Box w b cs T') (hys : J6 i.toNat v 0 xs = ys)
    (h : ∀ w', Chg [.pointer (some ⟨b, 0, none⟩)] w w' → Box w' b (ys.map (Value.int ke)) T' → K undef w') : Eff P ⟨d, .store T x y, t, p, af, gu⟩ n ρ w K := by
  obtain ⟨h0, h1, h2⟩ := Ze hi
  subst hcs
  rw [YQ, Nat.mul_one, Nat.zero_add] at hx
  refine QO (vs := [.int ke v]) (k := 1) hs rfl rfl hx hy hb (by simp [Nat.ble_eq]; omega) (by simp [Value.oneCell']) (cs' := ys.map (Value.int ke)) ?_ h
  rw [← hys, ← QFb]
  simp [YN, List.map_set]
end
end Go.Gw

end
