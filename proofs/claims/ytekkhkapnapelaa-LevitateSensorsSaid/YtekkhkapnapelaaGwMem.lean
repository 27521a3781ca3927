/- Laws of the walk. Condition: each theorem says its own. -/
import Derived.Test.YtekkhkapnapelaaGwCore
import Derived.Laws.AppendOwn
import Derived.Laws.Cells
import Derived.Laws.OwnMore
import Derived.Laws.Tables
import Derived.Laws.Slices
import Derived.Great.BuildSlice
import Derived.Below
import Derived.Conc.MuLone
import Derived.Laws.Strings
import Derived.Laws.StructEq
import Derived.Laws.Build
import Derived.Laws.Entries
import Derived.Laws.NewBlocks
import Derived.Laws.MakeOwn
import Derived.KernelRfl
set_option linter.unusedVariables false
set_option linter.unusedSimpArgs false
set_option linter.unusedSectionVars false
section
namespace Go.Gw
open Go

def Qn : Value → Option Nat
  | .pointer (some a)=>some a.block
  | .slice (some a) _ _=>some a.block
  | _=>none

def Avoids (L : List Value) (b : Nat) : Prop:=∀ h ∈ L,Qn h ≠ some b

structure Chg (H : List Value) (w w' : World) : Prop where
  os : w'.os = w.os
  tape : w'.tape = w.tape
  output : w'.output = w.output
  size : w.heap.size ≤ w'.heap.size
  block : ∀ b,b < w.heap.size → Avoids H b → w'.heap[b]? = w.heap[b]?

abbrev Ext (w w' : World) : Prop:=Chg [] w w'

theorem Avoids.nil (b : Nat) : Avoids [] b:=fun _ h=>by cases h
theorem Avoids.mono {L L' : List Value} {b : Nat} (h : Avoids L b) (hs : ∀ x ∈ L',x ∈ L) : Avoids L' b:=fun x hx=>h x (hs x hx)
theorem Avoids.cons {L : List Value} {b : Nat} {v : Value} (h : Avoids L b) (hv : Qn v ≠ some b) : Avoids (v :: L) b:=fun x hx=>by
  rcases List.mem_cons.1 hx with rfl | hx
  · exact hv
  · exact h x hx

theorem Chg.refl (H : List Value) (w : World) : Chg H w w:=⟨rfl,rfl,rfl,Nat.le_refl _,fun _ _ _=>rfl⟩
theorem Chg.trans {H : List Value} {a b c : World} (h : Chg H a b) (k : Chg H b c) : Chg H a c :=
  ⟨k.os.trans h.os,k.tape.trans h.tape,k.output.trans h.output,Nat.le_trans h.size k.size,fun i hi hA=>(k.block i (Nat.lt_of_lt_of_le hi h.size) hA).trans (h.block i hi hA)⟩
theorem Chg.mono {H H' : List Value} {w w' : World} (h : Chg H w w') (hs : ∀ x ∈ H,x ∈ H') : Chg H' w w':=⟨h.os,h.tape,h.output,h.size,fun b hb hA=>h.block b hb (hA.mono hs)⟩
theorem Chg.fresh {H : List Value} {a b c : World} (h : Ext a b) (k : Chg H b c) (hf : ∀ x ∈ H,∀ n,Qn x = some n → a.heap.size ≤ n) : Ext a c :=
  ⟨k.os.trans h.os,k.tape.trans h.tape,k.output.trans h.output,Nat.le_trans h.size k.size,fun i hi _=>(k.block i (Nat.lt_of_lt_of_le hi h.size) (fun x hx e=>by have:=hf x hx i e; omega)).trans (h.block i hi (Avoids.nil _))⟩

theorem Ext.drew (w : World) : Ext w { w with drawn:=w.drawn + 1 }:=⟨rfl,rfl,rfl,Nat.le_refl _,fun _ _ _=>rfl⟩
theorem Ext.alloc (w : World) (o : Obj) : Ext w { w with heap:=w.heap.push o } :=
  ⟨rfl,rfl,rfl,by simp,fun b hb _=>by rw [Array.getElem?_push_lt hb,Array.getElem?_eq_getElem hb]⟩
theorem Ext.below {w w' : World} (h : Ext w w') : Go.RowKit.Below w.heap.size w w':=⟨h.os,h.tape,h.output,h.size,fun k hk=>h.block k hk (Avoids.nil _)⟩
theorem Chg.of_grown {w w' : World} {v : Value} (h : w.grownBy w' v.ownBlock) : Chg [v] w w' :=
  ⟨h.os,h.tape,h.output,h.size,fun b hb hA=>h.block b hb (fun e=>by
    have:=hA v (by simp)
    cases v <;> simp [Value.ownBlock] at e
    rename_i a _ _
    cases a <;> simp at e
    exact this (by simp [Qn,e]))⟩

theorem ZV {w : World} {b : Nat} {o : Obj} (h : w.heap[b]? = some o) : b < w.heap.size:=(Array.getElem?_eq_some_iff.1 h).1

/-! ### A step: handles L become L' -/
structure Stepp (L : List Value) (w : World) (L' : List Value) (w' : World) : Prop where
  chg : Chg L w w'
  new : ∀ x ∈ L',∀ b,Qn x = some b → ¬ Avoids L b ∨ w.heap.size ≤ b

theorem Stepp.keeps {L L' : List Value} {w w' : World} (s : Stepp L w L' w') {b : Nat} {o : Obj} (h : w.heap[b]? = some o) (hA : Avoids L b) : w'.heap[b]? = some o ∧ Avoids L' b :=
  ⟨(s.chg.block b (ZV h) hA).trans h,fun x hx e=>by
    rcases s.new x hx b e with h1 | h1
    · exact h1 hA
    · have:=ZV h; omega⟩

theorem JN {L : List Value} {x : Value} {b : Nat} (hx : x ∈ L) (e : Qn x = some b) : ¬ Avoids L b:=fun h=>h x hx e

theorem Stepp.ext {L : List Value} {w w' : World} (h : Ext w w') : Stepp L w L w':=⟨h.mono (fun _ h=>by cases h),fun _ hx _ e=>.inl (JN hx e)⟩
theorem Stepp.sub {L L' : List Value} (w : World) (hs : ∀ x ∈ L',x ∈ L) : Stepp L w L' w:=⟨Chg.refl _ _,fun _ hx _ e=>.inl (JN (hs _ hx) e)⟩
theorem Stepp.add {L : List Value} {w w' : World} (x : Value) (h : Ext w w') (hx : ∀ b,Qn x = some b → w.heap.size ≤ b) : Stepp L w (x :: L) w' :=
  ⟨h.mono (fun _ h=>by cases h),fun y hy b e=>by
    rcases List.mem_cons.1 hy with rfl | hy
    · exact .inr (hx b e)
    · exact .inl (JN hy e)⟩
theorem Qt {L : List Value} {w w' : World} {x : Value} (h : Chg [x] w w') (hx : x ∈ L) : Stepp L w L w' :=
  ⟨h.mono (fun y hy=>by rcases List.mem_cons.1 hy with rfl | hy; exact hx; cases hy),fun _ hx _ e=>.inl (JN hx e)⟩
theorem Stepp.swap {L : List Value} {w w' : World} {v v' : Value} (h : Chg [v] w w') (hv : ∀ b,Qn v' = some b → Qn v = some b ∨ w.heap.size ≤ b) : Stepp (v :: L) w (v' :: L) w' :=
  ⟨h.mono (fun y hy=>by rcases List.mem_cons.1 hy with rfl | hy; simp; cases hy),fun y hy b e=>by
    rcases List.mem_cons.1 hy with rfl | hy
    · rcases hv b e with h | h
      · exact .inl (JN (List.mem_cons_self ..) h)
      · exact .inr h
    · exact .inl (JN (List.mem_cons_of_mem _ hy) e)⟩
/-! ### Readings -/
class Rep (α : Type) where
  n : Nat
  rd : List Value → World → List Value → α → Prop
  len : ∀ {L w cs d},rd L w cs d → cs.length = n
  one : ∀ {L w cs d},rd L w cs d → ∀ u ∈ cs,u.oneCell' = true
  step : ∀ {L w L' w' cs d},Stepp L w L' w' → rd L w cs d → rd L' w' cs d

instance : Rep Int:=⟨1,fun _ _ cs d=>cs = [.int .i64 d],fun h=>by subst h; rfl,fun h=>by subst h; simp [Value.oneCell'],fun _ h=>h⟩
instance : Rep Bool:=⟨1,fun _ _ cs d=>cs = [.bool d],fun h=>by subst h; rfl,fun h=>by subst h; simp [Value.oneCell'],fun _ h=>h⟩
instance : Rep ByteArray:=⟨1,fun _ _ cs d=>cs = [.string d],fun h=>by subst h; rfl,fun h=>by subst h; simp [Value.oneCell'],fun _ h=>h⟩

def Elems {α : Type} [Rep α] (L : List Value) (w : World) (cells : List Value) (xs : List α) : Prop :=
  cells.length = xs.length * Rep.n α ∧ ∀ i x,xs[i]? = some x → Rep.rd L w ((cells.drop (i * Rep.n α)).take (Rep.n α)) x

theorem Elems.step {α : Type} [Rep α] {L L' : List Value} {w w' : World} {cells : List Value} {xs : List α} (s : Stepp L w L' w') (h : Elems L w cells xs) : Elems L' w' cells xs :=
  ⟨h.1,fun i x hx=>Rep.step s (h.2 i x hx)⟩

theorem Elems.nil {α : Type} [Rep α] {L : List Value} {w : World} : Elems L w [] ([] : List α):=⟨by simp,fun i x h=>by simp at h⟩

theorem Elems.append {α : Type} [Rep α] {L : List Value} {w : World} {c1 c2 : List Value} {xs ys : List α} (h1 : Elems L w c1 xs) (h2 : Elems L w c2 ys) : Elems L w (c1 ++ c2) (xs ++ ys):=by
  refine ⟨by simp [h1.1,h2.1,Nat.add_mul],fun i x hx=>?_⟩
  by_cases hi : i < xs.length
  · rw [List.getElem?_append_left hi] at hx
    have hle : i * Rep.n α + Rep.n α ≤ c1.length:=by
      rw [h1.1,← Nat.succ_mul]; exact Nat.mul_le_mul_right _ hi
    rw [List.drop_append_of_le_length (by omega),List.take_append_of_le_length (by simp; omega)]
    exact h1.2 i x hx
  · have hi:=Nat.le_of_not_lt hi
    rw [List.getElem?_append_right hi] at hx
    have:=h2.2 _ x hx
    rw [List.drop_append,List.drop_eq_nil_of_le (by rw [h1.1]; exact Nat.mul_le_mul_right _ hi),List.nil_append,h1.1,← Nat.sub_mul]
    exact this

theorem Elems.one {α : Type} [Rep α] {L : List Value} {w : World} {cs : List Value} {x : α} (h : Rep.rd L w cs x) : Elems L w cs [x]:=by
  refine ⟨by simp [Rep.len h],fun i y hy=>?_⟩
  cases i with
  | zero=>simp at hy; subst hy; simp [← Rep.len h]; exact h
  | succ i=>simp at hy

theorem Elems.cells1 {α : Type} [Rep α] {L : List Value} {w : World} {cs : List Value} {xs : List α} (h : Elems L w cs xs) : ∀ u ∈ cs,u.oneCell' = true:=by
  intro u hu
  obtain ⟨k,hk,rfl⟩:=List.getElem_of_mem hu
  rcases Nat.eq_zero_or_pos (Rep.n α) with h0 | h0
  · rw [h.1,h0] at hk; omega
  · have hi : k / Rep.n α < xs.length:=by rw [h.1] at hk; exact Nat.div_lt_of_lt_mul (by rwa [Nat.mul_comm] at hk)
    have:=Rep.one (h.2 (k / Rep.n α) _ (List.getElem?_eq_getElem hi)) (cs[k])
    refine this ?_
    have hm:=Nat.mod_lt k h0
    have hd:=Nat.div_add_mod k (Rep.n α)
    rw [Nat.mul_comm] at hd
    refine List.mem_of_getElem? (i:=k % Rep.n α) ?_
    rw [List.getElem?_take_of_lt hm,List.getElem?_drop,hd,List.getElem?_eq_getElem hk]

def SlRd {α : Type} [Rep α] (L : List Value) (w : World) (v : Value) (xs : List α) : Prop :=
  (∃ a0,v = .slice a0 0 0 ∧ xs = []) ∨
  ∃ b off cap cur e fz,v = .slice (some ⟨b,off,none⟩) xs.length cap ∧ w.heap[b]? = some (.cells cur e fz) ∧ Avoids L b ∧ xs.length ≤ cap ∧ cap ≤ maxLen ∧
    off + cap * Rep.n α ≤ cur.size ∧ Elems L w ((cur.toList.drop off).take (xs.length * Rep.n α)) xs

theorem SlRd.step {α : Type} [Rep α] {L L' : List Value} {w w' : World} {v : Value} {xs : List α} (s : Stepp L w L' w') (h : SlRd L w v xs) : SlRd L' w' v xs:=by
  rcases h with h | ⟨b,off,cap,cur,e,fz,h1,h2,h3,h4,h5,h6,h7⟩
  · exact .inl h
  · obtain ⟨k1,k2⟩:=s.keeps h2 h3
    exact .inr ⟨b,off,cap,cur,e,fz,h1,k1,k2,h4,h5,h6,h7.step s⟩

theorem SlRd.nil {α : Type} [Rep α] (L : List Value) (w : World) : SlRd L w (.slice none 0 0) ([] : List α):=.inl ⟨none,rfl,rfl⟩

instance {α : Type} [Rep α] : Rep (List α):=⟨1,fun L w cs xs=>∃ v,cs = [v] ∧ SlRd L w v xs,fun ⟨_,h,_⟩=>by subst h; rfl,
  fun ⟨v,h,hs⟩=>by
    subst h
    rcases hs with ⟨_,rfl,_⟩ | ⟨b,off,cap,cur,e,fz,rfl,_⟩ <;> simp [Value.oneCell'],
  fun s ⟨v,h,hs⟩=>⟨v,h,hs.step s⟩⟩

theorem SlRd.shape {α : Type} [Rep α] {L : List Value} {w : World} {v : Value} {xs : List α} (h : SlRd L w v xs) : ∃ a cap,v = .slice a xs.length cap ∧ xs.length ≤ maxLen:=by
  rcases h with ⟨a0,rfl,rfl⟩ | ⟨b,off,cap,cur,e,fz,rfl,_,_,h4,h5,_⟩
  · exact ⟨a0,0,rfl,Nat.zero_le _⟩
  · exact ⟨_,cap,rfl,Nat.le_trans h4 h5⟩

theorem SlRd.lt {α : Type} [Rep α] {L : List Value} {w : World} {v : Value} {xs : List α} (h : SlRd L w v xs) : (xs.length : Int) ≤ 9223372036854775807:=by
  obtain ⟨_,_,_,h⟩:=h.shape; unfold maxLen at h; omega

/-! ### Cells at an address -/
def At (w : World) (a : Addr) (cs : List Value) : Prop:=a.spot = none ∧ ∀ j v,cs[j]? = some v → w.cell? (a.add j) = some v

theorem YW (b o k : Nat) : (Addr.add ⟨b,o,none⟩ k) = ⟨b,o + k,none⟩:=by
  unfold Addr.add; split
  · subst_vars; rfl
  · rfl
theorem Qpc {a : Addr} (h : a.spot = none) : a = ⟨a.block,a.off,none⟩:=by cases a; simp at h; subst h; rfl
theorem Qfk {a : Addr} (h : a.spot = none) (k : Nat) : a.add k = ⟨a.block,a.off + k,none⟩:=by rw [Qpc h,YW]

theorem At.ext {w w' : World} {a : Addr} {cs : List Value} (e : Ext w w') (h : At w a cs) : At w' a cs:=⟨h.1,fun j v hv=>by
  have:=h.2 j v hv
  rw [Qfk h.1] at this ⊢
  have hb : a.block < w.heap.size:=by
    unfold World.cell? at this
    split at this
    · rename_i hh; exact ZV hh
    · cases this
  rw [World.cell?_of_block (w:=w) (w':=w') (a:=⟨a.block,a.off + j,none⟩) (e.block _ hb (Avoids.nil _))]
  exact this⟩

theorem At.drop {w : World} {a : Addr} {cs : List Value} (h : At w a cs) (k : Nat) : At w (a.add k) (cs.drop k):=⟨by rw [Qfk h.1],fun j v hv=>by
  rw [List.getElem?_drop] at hv
  have:=h.2 _ v hv
  rw [Qfk h.1] at this ⊢
  rw [YW]
  rwa [← Nat.add_assoc] at this⟩

theorem At.take {w : World} {a : Addr} {cs : List Value} (h : At w a cs) (k : Nat) : At w a (cs.take k):=⟨h.1,fun j v hv=>by
  by_cases hj : j < k
  · rw [List.getElem?_take_of_lt hj] at hv; exact h.2 j v hv
  · rw [List.getElem?_eq_none (by simp; omega)] at hv; cases hv⟩

theorem At.of_block {w : World} {b off : Nat} {cur : Array Value} {e : TypeId} {fz : Nat × Nat} {cs : List Value} (h : w.heap[b]? = some (.cells cur e fz)) (hc : ∀ j v,cs[j]? = some v → cur[off + j]? = some v) : At w ⟨b,off,none⟩ cs :=
  ⟨rfl,fun j v hv=>by rw [YW]; simp [World.cell?,h,hc j v hv]⟩

def Box (w : World) (b : Nat) (cs : List Value) (T : TypeId) : Prop:=w.heap[b]? = some (.cells cs.toArray T (0,0))

theorem Box.at {w : World} {b : Nat} {cs : List Value} {T : TypeId} (h : Box w b cs T) : At w ⟨b,0,none⟩ cs:=At.of_block h (fun j v hv=>by simpa using hv)
theorem Box.lt {w : World} {b : Nat} {cs : List Value} {T : TypeId} (h : Box w b cs T) : b < w.heap.size:=ZV h
theorem Box.chg {w w' : World} {b : Nat} {cs : List Value} {T : TypeId} {H : List Value} (h : Box w b cs T) (c : Chg H w w') (hA : Avoids H b) : Box w' b cs T:=(c.block b h.lt hA).trans h
theorem Box.ext {w w' : World} {b : Nat} {cs : List Value} {T : TypeId} (h : Box w b cs T) (c : Ext w w') : Box w' b cs T:=h.chg c (Avoids.nil _)

/-! ### A slice of the call's own -/
def Own {α : Type} [Rep α] (e : TypeId) (L : List Value) (w : World) (v : Value) (xs : List α) : Prop :=
  ∃ cells,w.ownsRow 0 e (Rep.n α) v xs.length cells ∧ Elems L w cells xs

theorem Qvp (v : Value) (hv : ∃ a n c,v = .slice a n c) : v.ownBlock = Qn v:=by
  obtain ⟨a,n,c,rfl⟩:=hv
  cases a <;> rfl

theorem Own.shape {α : Type} [Rep α] {e : TypeId} {L : List Value} {w : World} {v : Value} {xs : List α} (h : Own e L w v xs) : ∃ a cap,v = .slice a xs.length cap ∧ xs.length ≤ maxLen:=by
  obtain ⟨cells,⟨_,h⟩,_⟩:=h
  rcases h with ⟨rfl,h⟩ | ⟨g,cap,cur,rfl,_,_,h4,h5,_⟩
  · exact ⟨none,0,by rw [h],by rw [h]; exact Nat.zero_le _⟩
  · exact ⟨_,cap,rfl,Nat.le_trans h4 h5⟩

theorem Own.nil {α : Type} [Rep α] (e : TypeId) (L : List Value) (w : World) : Own e L w (.slice none 0 0) ([] : List α):=⟨[],World.ownsRow_nil w 0 e _,Elems.nil⟩

theorem Own.blk_lt {α : Type} [Rep α] {e : TypeId} {L : List Value} {w : World} {v : Value} {xs : List α} (h : Own e L w v xs) {b : Nat} (hb : Qn v = some b) : b < w.heap.size:=by
  obtain ⟨a,cap,hv,_⟩:=h.shape
  obtain ⟨cells,ho,_⟩:=h
  exact (World.ownsRow.lt ho b (by rw [Qvp v ⟨_,_,_,hv⟩]; exact hb)).2

theorem Own.step {α : Type} [Rep α] {e : TypeId} {L L' : List Value} {w w' : World} {v : Value} {xs : List α} (s : Stepp L w L' w') (h : Own e L w v xs) {H : List Value} (c : Chg H w w') (hA : ∀ b,Qn v = some b → Avoids H b) : Own e L' w' v xs:=by
  obtain ⟨cells,⟨h0,h⟩,hel⟩:=h
  refine ⟨cells,⟨h0,?_⟩,hel.step s⟩
  rcases h with h | ⟨g,cap,cur,rfl,h2,h3,h4⟩
  · exact .inl h
  · exact .inr ⟨g,cap,cur,rfl,h2,(c.block g (ZV h3) (hA g rfl)).trans h3,h4⟩

theorem Own.rd {α : Type} [Rep α] {e : TypeId} {L : List Value} {w : World} {v : Value} {xs : List α} (h : Own e L w v xs) (hA : ∀ b,Qn v = some b → Avoids L b) : SlRd L w v xs:=by
  obtain ⟨cells,⟨h0,h⟩,hel⟩:=h
  rcases h with ⟨rfl,h⟩ | ⟨g,cap,cur,rfl,h2,h3,h4,h5,h6,h7⟩
  · exact .inl ⟨none,rfl,List.length_eq_zero_iff.1 h⟩
  · refine .inr ⟨g,0,cap,cur,e,(0,0),rfl,h3,hA g rfl,h4,h5,by omega,?_⟩
    rw [List.drop_zero,h7]
    exact hel

end Go.Gw

end
section
namespace Go.Gw
open Go

section
variable {P : Program} {n : Nat} {ρ : Env} {w : World}

def Yl (P : Program) (n : Nat) (ρ : Env) (o : Oper) (w : World) (v : Value) : Prop:=(execOp (Qo n ρ) o).run P w = .ok (.value v) w

def gd (g : Bool) (v : Value) : Value:=bif g then v else undef
theorem Qw {g : Bool} {v : Value} (h : g = true) : gd g v = v:=by subst h; rfl
theorem Qbh {g : Bool} {v : Value} (h : g = false) : gd g v = undef:=by subst h; rfl

theorem Qnu (ops : Array Oper) {o : Oper} (h : o.guard = none) : Xl ops o n ρ = true:=by simp [Xl,Region.wanted,h]

theorem Qnz {ops : Array Oper} {j d : Nat} (hd : (ops[j]?).bind (·.dst) = some d) (hn : Nat.blt d n = true) : yielded ops (QT n ρ).tmps j = match ρ d with | .bool b=>some b | _=>none:=by
  have hlt : d < n:=by simpa [Nat.blt_eq] using hn
  simp only [yielded,hd,QT,Ql]
  rw [Array.getElem?_ofFn]
  simp only [hlt,dif_pos]
  cases ρ d <;> rfl

theorem QU {ops : Array Oper} {o : Oper} {j d : Nat} {b : Bool} (hg : o.guard = some (j,true)) (hd : (ops[j]?).bind (·.dst) = some d) (hn : Nat.blt d n = true) (hv : ρ d = .bool b) : Xl ops o n ρ = b:=by
  simp only [Xl,Region.wanted,hg,Qnz hd hn,hv]; cases b <;> rfl
theorem Q3 {ops : Array Oper} {o : Oper} {j d : Nat} {b : Bool} (hg : o.guard = some (j,false)) (hd : (ops[j]?).bind (·.dst) = some d) (hn : Nat.blt d n = true) (hv : ρ d = .bool b) : Xl ops o n ρ = !b:=by
  simp only [Xl,Region.wanted,hg,Qnz hd hn,hv]; cases b <;> rfl
/-! ### Stepping a region -/
section
variable {ops : Array Oper} {K : Env → World → Prop} {o : Oper} {os : List Oper}

theorem Qd (h : K ρ w) : T0 P n ops K [] ρ w:=h
theorem Qa {v : Value} (hg : o.guard = none) (hy : Yl P n ρ o w v) (h : T0 P n ops K os (Xa ρ o.dst v) w) : T0 P n ops K (o :: os) ρ w:=by
  simp only [T0,Stp,Qnu ops hg,if_true,Eff]
  simp only [Yl] at hy
  simp only [hy]; exact h
theorem QK {v : Value} (b : Bool) (hw : Xl ops o n ρ = b) (hy : b = true → Yl P n ρ o w v) (h : T0 P n ops K os (Xa ρ o.dst (gd b v)) w) : T0 P n ops K (o :: os) ρ w:=by
  simp only [T0,Stp,hw]
  cases b
  · exact h
  · have hy:=hy rfl
    simp only [Yl] at hy
    simp only [if_true,Eff,hy]; exact h
theorem Qh (hg : o.guard = none) (h : Eff P o n ρ w (fun v w'=>T0 P n ops K os (Xa ρ o.dst v) w')) : T0 P n ops K (o :: os) ρ w:=by
  simp only [T0,Stp,Qnu ops hg,if_true]; exact h
variable {S : World → Prop} {Kt : Env → World → Prop} {i : Nat} {rest : List (Nat × Bool)} {trest : List Nat} {ol : List Oper}
theorem Qjk (b : Bool) (hw : Xl ops o n ρ = b) (ht : b = true → Eff P o n ρ w (fun v w'=>T0 P n ops K os (Xa ρ o.dst v) w')) (hf : b = false → T0 P n ops K os (Xa ρ o.dst undef) w) : T0 P n ops K (o :: os) ρ w:=by
  simp only [T0,Stp,hw]
  cases b
  · exact hf rfl
  · exact ht rfl
end

/-! ### What operations yield -/
section
variable {d : Option Nat} {t T U : TypeId} {p : String} {af : Array Edge} {gu : Option (Nat × Bool)} {x y z : Operand}

theorem Qc {v : Value} (hx : Qo n ρ x = v) : Yl P n ρ ⟨d,.move x,t,p,af,gu⟩ w v:=by subst hx; rfl
theorem Qf {v : Value} (hx : Qo n ρ x = v) : Yl P n ρ ⟨d,.assign x,t,p,af,gu⟩ w v:=by subst hx; rfl
theorem Qfg {b : Bool} {v : Value} (hx : Qo n ρ x = .bool b) (hy : b = true → Qo n ρ y = v) (hz : b = false → Qo n ρ z = v) : Yl P n ρ ⟨d,.pick x y z,t,p,af,gu⟩ w v:=by
  cases b
  · simp [Yl,execOp,hx,asBool,hz rfl]
  · simp [Yl,execOp,hx,asBool,hy rfl]
theorem Ym {b c : Bool} (hx : Qo n ρ x = .bool b) (hy : b = true → Qo n ρ y = .bool c) (hz : Qo n ρ z = .bool false) : Yl P n ρ ⟨d,.pick x y z,t,p,af,gu⟩ w (.bool (b && c)) :=
  Qfg hx (fun h=>by rw [hy h,h]; rfl) (fun h=>by rw [hz,h]; rfl)
theorem YU {b c : Bool} (hx : Qo n ρ x = .bool b) (hy : Qo n ρ y = .bool true) (hz : b = false → Qo n ρ z = .bool c) : Yl P n ρ ⟨d,.pick x y z,t,p,af,gu⟩ w (.bool (b || c)) :=
  Qfg hx (fun h=>by rw [hy,h]; rfl) (fun h=>by rw [hz h,h]; rfl)

theorem QW {k : IntKind} {a b : Int} (hx : Qo n ρ x = .int k a) (hy : Qo n ρ y = .int k b) : Yl P n ρ ⟨d,.binOp .add T x y U,t,p,af,gu⟩ w (.int k (k.wrap (a + b))):=by
  simp [Yl,execOp,hx,hy,eqGuard,binOp,Op.intArith]
theorem YV {k : IntKind} {a b : Int} (hx : Qo n ρ x = .int k a) (hy : Qo n ρ y = .int k b) : Yl P n ρ ⟨d,.binOp .sub T x y U,t,p,af,gu⟩ w (.int k (k.wrap (a - b))):=by
  simp [Yl,execOp,hx,hy,eqGuard,binOp,Op.intArith]
theorem XS {k : IntKind} {a b : Int} (hx : Qo n ρ x = .int k a) (hy : Qo n ρ y = .int k b) : Yl P n ρ ⟨d,.binOp .mul T x y U,t,p,af,gu⟩ w (.int k (k.wrap (a * b))):=by
  simp [Yl,execOp,hx,hy,eqGuard,binOp,Op.intArith]
theorem Qof {k : IntKind} {a b : Int} (hb : b ≠ 0) (hx : Qo n ρ x = .int k a) (hy : Qo n ρ y = .int k b) : Yl P n ρ ⟨d,.binOp .quo T x y U,t,p,af,gu⟩ w (.int k (k.wrap (a.tdiv b))):=by
  simp [Yl,execOp,hx,hy,eqGuard,binOp,Op.intDiv,hb]
theorem Qjf {k : IntKind} {a b : Int} (hb : b ≠ 0) (hx : Qo n ρ x = .int k a) (hy : Qo n ρ y = .int k b) : Yl P n ρ ⟨d,.binOp .rem T x y U,t,p,af,gu⟩ w (.int k (a.tmod b)):=by
  simp [Yl,execOp,hx,hy,eqGuard,binOp,Op.intDiv,hb]
theorem Xe {k : IntKind} {a b : Int} (hx : Qo n ρ x = .int k a) (hy : Qo n ρ y = .int k b) : Yl P n ρ ⟨d,.binOp .lss T x y U,t,p,af,gu⟩ w (.bool (decide (a < b))):=by
  simp [Yl,execOp,hx,hy,eqGuard,binOp,Op.intCmp]
theorem ZC {k : IntKind} {a b : Int} (hx : Qo n ρ x = .int k a) (hy : Qo n ρ y = .int k b) : Yl P n ρ ⟨d,.binOp .leq T x y U,t,p,af,gu⟩ w (.bool (decide (a ≤ b))):=by
  simp [Yl,execOp,hx,hy,eqGuard,binOp,Op.intCmp]
theorem ZB {k : IntKind} {a b : Int} (hx : Qo n ρ x = .int k a) (hy : Qo n ρ y = .int k b) : Yl P n ρ ⟨d,.binOp .gtr T x y U,t,p,af,gu⟩ w (.bool (decide (b < a))):=by
  simp [Yl,execOp,hx,hy,eqGuard,binOp,Op.intCmp]
theorem Qff {k : IntKind} {a b : Int} (hx : Qo n ρ x = .int k a) (hy : Qo n ρ y = .int k b) : Yl P n ρ ⟨d,.binOp .geq T x y U,t,p,af,gu⟩ w (.bool (decide (b ≤ a))):=by
  simp [Yl,execOp,hx,hy,eqGuard,binOp,Op.intCmp]
theorem Qgj (a b : Int) : (a == b) = decide (a = b):=by rw [Bool.eq_iff_iff]; simp
theorem X5 {k : IntKind} {a b : Int} (hx : Qo n ρ x = .int k a) (hy : Qo n ρ y = .int k b) : Yl P n ρ ⟨d,.binOp .eql T x y U,t,p,af,gu⟩ w (.bool (decide (a = b))):=by
  simp [Yl,execOp,hx,hy,eqGuard,binOp,Op.intCmp,Qgj]
theorem XH {k : IntKind} {a b : Int} (hx : Qo n ρ x = .int k a) (hy : Qo n ρ y = .int k b) : Yl P n ρ ⟨d,.binOp .neq T x y U,t,p,af,gu⟩ w (.bool (!decide (a = b))):=by
  simp [Yl,execOp,hx,hy,eqGuard,binOp,Op.intCmp,bne,Qgj]
theorem Yu {b : Bool} (hx : Qo n ρ x = .bool b) : Yl P n ρ ⟨d,.unOp .not T x,t,p,af,gu⟩ w (.bool (!b)):=by
  simp [Yl,execOp,hx,Op.unary]
theorem Js {k : IntKind} {a : Int} (hx : Qo n ρ x = .int k a) : Yl P n ρ ⟨d,.unOp .neg T x,t,p,af,gu⟩ w (.int k (k.wrap (0 - a))):=by
  simp [Yl,execOp,hx,Op.unary,Op.intArith]
theorem Qoa {k k' : IntKind} {a : Int} (hu : P.underlying T = some (.int k')) (hv : P.underlying U = some (.int k)) (hx : Qo n ρ x = .int k' a) : Yl P n ρ ⟨d,.convert T U x,t,p,af,gu⟩ w (.int k (k.wrap a)):=by
  simp [Yl,execOp,hx,convert,run_underlying hu,run_underlying hv,Conv.intToInt]
theorem Q4 {i : Nat} {vs : Array Value} {v : Value} (hx : Qo n ρ x = .tuple vs) (hv : vs[i]? = some v) : Yl P n ρ ⟨d,.extract x i,t,p,af,gu⟩ w v:=by
  simp [Yl,execOp,hx,Instr.extract,hv]
theorem Qyp {e : TypeId} {a : Option Addr} {m c : Nat} {aT : Array TypeId} (hT : aT[0]? = some T) (hu : P.underlying T = some (.slice e)) (hx : Qo n ρ x = .slice a m c) : Yl P n ρ ⟨d,.call ⟨.builtin .len,#[x],aT⟩,t,p,af,gu⟩ w (.int .i64 m):=by
  simp [Yl,execOp,resolve,invoke,builtin,Builtin.len_,hT,hx,run_underlying hu,goInt]
theorem Qyq {k k' : IntKind} {a b : Int} {aT : Array TypeId} (hx : Qo n ρ x = .int k a) (hy : Qo n ρ y = .int k' b) : Yl P n ρ ⟨d,.call ⟨.builtin .max,#[x,y],aT⟩,t,p,af,gu⟩ w (.int k (if a < b then b else a)):=by
  simp [Yl,execOp,resolve,invoke,builtin,Builtin.max_,Builtin.max2,hx,hy]
end
end
end Go.Gw

end
section
namespace Go.Gw
open Go

section
variable {P : Program} {n : Nat} {ρ : Env} {w : World}
variable {d : Option Nat} {t T U : TypeId} {p : String} {af : Array Edge} {gu : Option (Nat × Bool)} {x y z : Operand}

def YB (P : Program) (T : TypeId) : Prop:=∃ dsc,P.underlying T = some dsc ∧ (match dsc with | .struct _ | .array _ _=>False | _=>True)
def Aggr (P : Program) (T : TypeId) (k : Nat) : Prop:=∃ dsc i,P.underlying T = some dsc ∧ (match dsc with | .struct _ | .array _ _=>True | _=>False) ∧ P.info? T = some i ∧ i.size = k
def Xs (P : Program) (T : TypeId) (k : Nat) : Prop:=∃ i,P.info? T = some i ∧ i.size = k

theorem Zh {T k : Nat} (h : Xs P T k) : (sizeOf T).run P w = .ok k w:=by
  obtain ⟨i,hi,hk⟩:=h
  simp [sizeOf,typeInfo,hi,hk]

theorem Qih (h : YB P T) : (isAgg T).run P w = .ok false w:=by
  obtain ⟨dsc,hd,hm⟩:=h
  simp only [isAgg,Sem.run_bind,run_underlying hd,Result.andThen]
  cases dsc <;> simp at hm <;> rfl
theorem Qnc {k : Nat} (h : Aggr P T k) : (isAgg T).run P w = .ok true w:=by
  obtain ⟨dsc,i,hd,hm,_⟩:=h
  simp only [isAgg,Sem.run_bind,run_underlying hd,Result.andThen]
  cases dsc <;> simp at hm <;> rfl
theorem Aggr.size {k : Nat} (h : Aggr P T k) : Xs P T k:=by obtain ⟨_,i,_,_,hi,hk⟩:=h; exact ⟨i,hi,hk⟩

theorem Qym {fs : Array Field} {i : Nat} {f : Field} {k : Nat} {a : Addr} (hu : P.underlying T = some (.struct fs)) (hf : fs[i]? = some f) (hs : Xs P f.type (k + 1)) (hx : Qo n ρ x = .pointer (some a)) :
    Yl P n ρ ⟨d,.fieldAddr T x i,t,p,af,gu⟩ w (.pointer (some (a.add f.offset))):=by
  simp [Yl,execOp,hx,Instr.fieldAt,run_underlying hu,hf,Instr.sureAddr,fieldPlace,Zh hs]

theorem Qp {a : Addr} {v : Value} {cs : List Value} (hT : YB P T) (hx : Qo n ρ x = .pointer (some a)) (hat : At w a (v :: cs)) : Yl P n ρ ⟨d,.load T x,t,p,af,gu⟩ w v:=by
  have h0:=hat.2 0 v rfl
  have e : a.add 0 = a:=by simp [Addr.add]
  rw [e] at h0
  simp [Yl,execOp,hx,Instr.loadAt,Instr.sureAddr,loadVar,Qih hT,h0]

theorem QZ {a : Addr} {cs : List Value} (hT : Aggr P T cs.length) (hx : Qo n ρ x = .pointer (some a)) (hat : At w a cs) : Yl P n ρ ⟨d,.load T x,t,p,af,gu⟩ w (.agg cs.toArray):=by
  simp [Yl,execOp,hx,Instr.loadAt,Instr.sureAddr,loadVar,Qnc hT,Zh hT.size,run_loadCells_list w a cs hat.2]

def QV (v : Value) (i k : Nat) : Addr:=match v with | .slice (some a) _ _=>a.add (i * k) | _=>default

def idx {α : Type} (xs : List α) (i : Int) : Option α:=if 0 ≤ i then xs[i.toNat]? else none

theorem YF {α : Type} {xs : List α} {i : Int} {x : α} (h : idx xs i = some x) : 0 ≤ i ∧ i.toNat < xs.length ∧ xs[i.toNat]? = some x:=by
  unfold idx at h
  split at h
  · rename_i h0; exact ⟨h0,(List.getElem?_eq_some_iff.1 h).1,h⟩
  · cases h

theorem Xc {α : Type} [Rep α] {e : TypeId} {L : List Value} {w2 : World} {v : Value} {xs : List α} {k : IntKind} {i : Int} {el : α} (hu : P.underlying T = some (.slice e)) (hs : Xs P e (Rep.n α)) (hsl : SlRd L w2 v xs)
    (hel : idx xs i = some el) (hx : Qo n ρ x = v) (hy : Qo n ρ y = .int k i) : Yl P n ρ ⟨d,.indexAddr T x y,t,p,af,gu⟩ w (.pointer (some (QV v i.toNat (Rep.n α)))):=by
  obtain ⟨h0,h1,_⟩:=YF hel
  rcases hsl with ⟨_,_,rfl⟩ | ⟨b,off,cap,cur,e',fz,rfl,_⟩
  · simp at h1
  · have h2 : i < (xs.length : Int):=by omega
    simp [Yl,execOp,hx,hy,Instr.indexAt,asIntOf,run_underlying hu,h0,h2,Zh hs,QV]

theorem SlRd.at {α : Type} [Rep α] {L : List Value} {v : Value} {xs : List α} {i : Int} {el : α} (hsl : SlRd L w v xs) (hel : idx xs i = some el) : ∃ cs,At w (QV v i.toNat (Rep.n α)) cs ∧ Rep.rd L w cs el:=by
  obtain ⟨h0,h1,h2⟩:=YF hel
  rcases hsl with ⟨_,_,rfl⟩ | ⟨b,off,cap,cur,e',fz,rfl,hb,_,h4,_,h6,h7⟩
  · simp at h1
  · refine ⟨_,?_,h7.2 _ el h2⟩
    simp only [QV,YW]
    refine At.of_block hb fun j u hu=>?_
    have hj : j < Rep.n α:=by
      rcases Nat.lt_or_ge j (Rep.n α) with h | h
      · exact h
      · rw [List.getElem?_eq_none (by simp; omega)] at hu; cases hu
    rw [List.getElem?_take_of_lt hj,List.getElem?_drop] at hu
    have hlt : i.toNat * Rep.n α + j < xs.length * Rep.n α:=by
      have : (i.toNat + 1) * Rep.n α ≤ xs.length * Rep.n α:=Nat.mul_le_mul_right _ h1
      rw [Nat.succ_mul] at this; omega
    rw [List.getElem?_take_of_lt hlt,List.getElem?_drop] at hu
    rw [← Array.getElem?_toList,← hu,Nat.add_assoc]

/-! ### New blocks -/
theorem Qqd {v : Value} {K : Value → World → Prop} (hx : Qo n ρ x = v)
    (h : ∀ b w',b = w.heap.size → Ext w w' → w'.heap.size = w.heap.size + 1 → Box w' b v.cells.toList T → K (.pointer (some ⟨b,0,none⟩)) w') : Eff P ⟨d,.box T x,t,p,af,gu⟩ n ρ w K:=by
  simp only [Eff,execOp,hx]
  have : (Instr.box T v).run P w = .ok (.pointer (some ⟨w.heap.size,0,none⟩)) { w with heap:=w.heap.push (.cells v.cells T (0,0)) }:=by
    simp [Instr.box,newVar,newRow,newObj]; rfl
  simp only [Sem.run_bind,this,Result.andThen,Sem.run_pure]
  exact h _ _ rfl (Ext.alloc ..) (by simp) (by simp [Box])

theorem Qqb {z : Value} {i : TypeInfo} {K : Value → World → Prop} (hi : P.info? T = some i) (hz : i.zero = some z)
    (h : ∀ b w',b = w.heap.size → Ext w w' → w'.heap.size = w.heap.size + 1 → Box w' b z.cells.toList T → K (.pointer (some ⟨b,0,none⟩)) w') : Eff P ⟨d,.alloc T,t,p,af,gu⟩ n ρ w K:=by
  simp only [Eff,execOp]
  have : (Instr.alloc T true (.tuple #[])).run P w = .ok (.pointer (some ⟨w.heap.size,0,none⟩)) { w with heap:=w.heap.push (.cells z.cells T (0,0)) }:=by
    simp [Instr.alloc,zeroValue,typeInfo,hi,hz,newVar,newRow,newObj]; rfl
  simp only [Sem.run_bind,this,Result.andThen,Sem.run_pure]
  exact h _ _ rfl (Ext.alloc ..) (by simp) (by simp [Box])

/-! ### Stores -/
def Ye (cs : List Value) (off : Nat) : List Value → List Value
  | []=>cs
  | v :: vs=>Ye (cs.set off v) (off + 1) vs

theorem Qpp (w : World) (b off : Nat) (v : Value) : Chg [.pointer (some ⟨b,0,none⟩)] w (w.setCell ⟨b,off,none⟩ v) :=
  ⟨rfl,rfl,rfl,by simp [World.setCell],fun k _ hA=>by
    have hne : b ≠ k:=fun e=>hA _ (List.mem_singleton.2 rfl) (by simp [Qn,e])
    simp [World.setCell,Array.getElem?_modify,hne]⟩

theorem Qne (T : TypeId) (b : Nat) : ∀ (vs : List Value) (off i : Nat) (cs : List Value) (w : World), Box w b cs T → off + i + vs.length ≤ cs.length → (∀ v ∈ vs, v.oneCell' = true) →
    ∃ w',(storeCells ⟨b,off,none⟩ vs i).run P w = .ok () w' ∧ Box w' b (Ye cs (off + i) vs) T ∧ Chg [.pointer (some ⟨b,0,none⟩)] w w' ∧ w'.heap.size = w.heap.size
  | [],off,i,cs,w,hb,_,_=>⟨w,rfl,hb,Chg.refl _ _,rfl⟩
  | v :: vs,off,i,cs,w,hb,hl,h1=>by
    have hlt : off + i < cs.length:=by simp at hl; omega
    have hc : w.cell? ⟨b,off + i,none⟩ = some cs[off + i]:=by simp [World.cell?,show w.heap[b]? = _ from hb,hlt]
    have hfz : w.frozen? ⟨b,off + i,none⟩ = false:=by simp [World.frozen?,show w.heap[b]? = _ from hb]
    have hbox : Box (w.setCell ⟨b,off + i,none⟩ v) b (cs.set (off + i) v) T:=by
      have hb' : w.heap[b]? = some (.cells cs.toArray T (0,0)):=hb
      simp [Box,World.setCell,Array.getElem?_modify,hb']
    obtain ⟨w',hr,hb2,hc2,hs2⟩:=Qne T b vs off (i + 1) (cs.set (off + i) v) (w.setCell ⟨b,off + i,none⟩ v) hbox (by simp at hl ⊢; omega) (fun u hu=>h1 u (List.mem_cons_of_mem _ hu))
    refine ⟨w',?_,hb2,(Qpp ..).trans hc2,by rw [hs2]; simp [World.setCell]⟩
    have hst : (store ((⟨b,off,none⟩ : Addr).add i) v).run P w = .ok () (w.setCell ⟨b,off + i,none⟩ v):=by
      have:=h1 v (List.mem_cons_self ..)
      rw [YW]
      cases v <;> simp [Value.oneCell'] at this <;> simp [store,Sem.run,hc,hfz]
    simp only [storeCells,Sem.run_bind,hst,Result.andThen]
    exact hr

theorem Qqk {v : Value} {b off : Nat} {cs : List Value} {T' : TypeId} {K : Value → World → Prop} (hs : Xs P T v.cells.size) (hx : Qo n ρ x = .pointer (some ⟨b, off, none⟩)) (hy : Qo n ρ y = v)
    (hb : Box w b cs T') (hl : off + v.cells.size ≤ cs.length) (h1 : ∀ u ∈ v.cells.toList,u.oneCell' = true)
    (h : ∀ w',Chg [.pointer (some ⟨b,0,none⟩)] w w' → Box w' b (Ye cs off v.cells.toList) T' → K undef w') : Eff P ⟨d,.store T x y,t,p,af,gu⟩ n ρ w K:=by
  obtain ⟨w',hr,hb2,hc2,_⟩:=Qne (P:=P) T' b v.cells.toList off 0 cs w hb (by simpa using hl) h1
  simp only [Eff,execOp,hx,hy]
  have : (Instr.storeAt T (.pointer (some ⟨b,off,none⟩)) v).run P w = .ok () w':=by
    simp [Instr.storeAt,Instr.sureAddr,storeVar,Zh hs,hr]
  simp only [Sem.run_bind,this,Result.andThen,Sem.run_pure]
  exact h w' hc2 (by simpa using hb2)

/-! ### Calls -/
theorem Qm {f : FuncId} {fn : Func} {c : Code} {xs : Array Operand} {aT : Array TypeId} {args : List Value} {K Φ : Value → World → Prop} (hf : P.funcs[f]? = some fn) (hname : (fn.name == "runtime.NumGoroutine") = false) (hb : fn.body = some c)
    (ha : (xs.map (Qo n ρ)).toList = args) (hc : CallsTo P f args w Φ) (h : ∀ v w',Φ v w' → K v w') : Eff P ⟨d,.call ⟨.value (.func f),xs,aT⟩,t,p,af,gu⟩ n ρ w K:=by
  have e : xs.map (Qo n ρ) = args.toArray:=by rw [← ha]
  have : (execOp (Qo n ρ) ⟨d,.call ⟨.value (.func f),xs,aT⟩,t,p,af,gu⟩).run P w = .ok (.enter f args.toArray) w:=by
    simp [execOp,resolve,Deferred.ofValue,invoke,e,Qo,MuLone.run_callFunc_enter hf hname hb]
  simp only [Eff,this]
  exact CallsTo.mono hc h

end
end Go.Gw

end
section
namespace Go.Gw
open Go

section
variable {P : Program} {n : Nat} {ρ : Env} {w : World}
variable {d : Option Nat} {t T U : TypeId} {p : String} {af : Array Edge} {gu : Option (Nat × Bool)} {x y z : Operand}

structure EInfo (P : Program) (e : TypeId) (k bytes : Nat) (z : Value) : Prop where
  ex : ∃ i,P.info? e = some i ∧ i.size = k ∧ i.bytes = bytes ∧ i.zero = some z ∧ z.cells.size = k ∧ 0 < k

theorem EInfo.size {e : TypeId} {k bytes : Nat} {z : Value} (h : EInfo P e k bytes z) : Xs P e k:=by
  obtain ⟨i,hi,hk,_⟩:=h.ex; exact ⟨i,hi,hk⟩

theorem Own.made {α : Type} [Rep α] {e : TypeId} {L L' : List Value} {xs : List α} {cells : List Value} (h : Elems L w cells xs) (hcap : xs.length ≤ maxLen) (st : Stepp L w L' { w with heap := w.heap.push (.cells cells.toArray e (0, 0)) }) :
    Own e L' { w with heap:=w.heap.push (.cells cells.toArray e (0,0)) } (.slice (some ⟨w.heap.size,0,none⟩) xs.length xs.length) xs:=by
  refine ⟨cells,⟨h.1,.inr ⟨w.heap.size,xs.length,cells.toArray,rfl,Nat.zero_le _,by simp,Nat.le_refl _,hcap,by simpa using h.1,?_⟩⟩,h.step st⟩
  rw [← h.1]; simp


/-! ### Filling, over lists -/
def Zp (place : Nat → Option (Nat × Nat)) (cells : List Value) : List (Nat × Value) → Option (List Value)
  | []=>some cells
  | (i,v) :: rest =>
    match place i with
    | none=>none
    | some (off,size)=>bif Nat.beq v.cells.toList.length size && Nat.ble (off + v.cells.toList.length) cells.length then Zp place (Ye cells off v.cells.toList) rest else none

theorem Qre (vs : List Value) : ∀ (cs : Array Value) (off j : Nat),((vs.zipIdx j).foldl (fun (cs : Array Value) (q : Value × Nat)=>cs.setIfInBounds (off + q.2) q.1) cs) = (Ye cs.toList (off + j) vs).toArray:=by
  induction vs with
  | nil=>intro cs off j; simp [Ye]
  | cons v vs ih =>
    intro cs off j
    simp only [List.zipIdx_cons,List.foldl_cons,Ye]
    rw [ih]
    simp [Nat.add_assoc]

theorem Qcv {place : Nat → Option (Nat × Nat)} : ∀ (parts : List (Nat × Value)) (cells out : List Value),Zp place cells parts = some out → Instr.fill place cells.toArray parts = some out.toArray
  | [],cells,out,h=>by simp [Zp] at h; simp [Instr.fill,h]
  | (i,v) :: rest,cells,out,h=>by
    simp only [Zp] at h
    simp only [Instr.fill]
    cases hp : place i with
    | none=>simp [hp] at h
    | some q =>
      obtain ⟨off,size⟩:=q
      simp only [hp] at h
      cases hb : (Nat.beq v.cells.toList.length size && Nat.ble (off + v.cells.toList.length) cells.length) with
      | false=>simp only [hb,cond_false] at h; cases h
      | true =>
        simp only [hb,cond_true] at h
        simp only [Bool.and_eq_true,Nat.beq_eq,Nat.ble_eq,Array.length_toList] at hb
        have h1 : ¬ (v.cells.size ≠ size || decide (off + v.cells.size > cells.toArray.size)) = true:=by simp; omega
        have h2:=Qre v.cells.toList cells.toArray off 0
        have h3 : v.cells.zipIdx.foldl (fun cs (c,j)=>cs.setIfInBounds (off + j) c) cells.toArray = (Ye cells off v.cells.toList).toArray:=by
          rw [← Array.foldl_toList]
          simpa using h2
        simp only [h3]
        rw [if_neg h1]
        exact Qcv rest _ _ h

def JV (z : List Value) (k : Nat) : List Value:=(List.range k).map fun i=>z.getD (i % z.length) undef

theorem Qyu (z : Array Value) (k : Nat) (h : 0 < z.size ∨ k = 0) : (Array.range k).map (z[· % z.size]!) = (JV z.toList k).toArray:=by
  apply Array.ext'
  simp only [Array.toList_map,Array.toList_range,JV]
  apply List.map_congr_left
  intro i hi
  rcases h with h | h
  · have:=Nat.mod_lt i h
    simp [List.getD,this]
  · subst h; simp at hi

theorem Qki {α : Type} [Rep α] {e : TypeId} {bytes : Nat} {z : Value} {L : List Value} {len : Nat} {xs : List α} {cells : List Value} {parts : Array (Nat × Operand)} {K : Value → World → Prop}
    (hu : P.underlying T = some (.slice e)) (hi : EInfo P e (Rep.n α) bytes z) (hsmall : Nat.ble (len * Rep.n α) 16777216 = true)
    (hf' : Zp (fun i=>some (i * Rep.n α,Rep.n α)) (JV z.cells.toList (len * Rep.n α)) (parts.toList.map fun q=>(q.1,Qo n ρ q.2)) = some cells)
    (hel : Elems L w cells xs) (hl : xs.length = len)
    (h : ∀ b w',b = w.heap.size → Ext w w' → w'.heap.size = w.heap.size + 1 → Own e L w' (.slice (some ⟨b,0,none⟩) len len) xs → Own e (.slice (some ⟨b,0,none⟩) len len :: L) w' (.slice (some ⟨b,0,none⟩) len len) xs → K (.slice (some ⟨b,0,none⟩) len len) w') : Eff P ⟨d,.buildSlice T len parts,t,p,af,gu⟩ n ρ w K:=by
  obtain ⟨i,h1,h2,h3,h4,h5,h6⟩:=hi.ex
  have hsm : ¬ len * Rep.n α > 2 ^ 24:=by
    have : len * Rep.n α ≤ 16777216:=by simpa using hsmall
    omega
  have hcap : xs.length ≤ maxLen:=by
    have h7 : len * 1 ≤ len * Rep.n α:=Nat.mul_le_mul_left _ h6
    have : len * Rep.n α ≤ 16777216:=by simpa using hsmall
    unfold maxLen; omega
  have hf : Instr.fill (fun i=>some (i * Rep.n α,Rep.n α)) ((Array.range (len * Rep.n α)).map (z.cells[· % z.cells.size]!)) (parts.map fun q=>(q.1,Qo n ρ q.2)).toList = some cells.toArray:=by
    rw [Qyu z.cells _ (.inl (by omega)),Array.toList_map]
    exact Qcv _ _ _ hf'
  have hz : (Array.map (fun q : Nat × Operand=>(q.1,Qo n ρ q.2)) parts) = Array.map (fun (i,x)=>(i,Qo n ρ x)) parts:=rfl
  have hr : (Instr.buildSlice T len (parts.map fun (i,x)=>(i,Qo n ρ x))).run P w = .ok (.slice (some ⟨w.heap.size,0,none⟩) len len) { w with heap:=w.heap.push (.cells cells.toArray e (0,0)) }:=by
    rw [hz] at hf
    have hzv : (zeroValue e).run P w = .ok z w:=by simp [zeroValue,typeInfo,h1,h4]
    by_cases h0 : len * Rep.n α = 0
    · have hl0 : len = 0:=by rcases Nat.mul_eq_zero.1 h0 with h | h; exact h; omega
      subst hl0
      have hf' : Instr.fill (fun i=>some (i * Rep.n α,Rep.n α)) #[] (parts.map fun (i,x)=>(i,Qo n ρ x)).toList = some cells.toArray:=by rw [← hf]; congr 1; simp
      have e0 : (Array.map (fun x=>(#[] : Array Value)[x % (#[] : Array Value).size]!) (Array.range 0)) = #[]:=by simp
      simp only [Instr.buildSlice,Sem.run_bind,run_underlying hu,Result.andThen,Zh hi.size,Nat.zero_mul]
      rw [if_neg (by decide),if_pos trivial,Sem.run_bind,Sem.run_pure]
      simp only [Result.andThen,e0,hf']
      rfl
    · simp only [Instr.buildSlice,Sem.run_bind,run_underlying hu,Result.andThen,Zh hi.size,if_neg hsm,if_neg h0,hzv,Sem.run_pure]
      rw [hf]
      rfl
  simp only [Eff,execOp,Sem.run_bind,hr,Result.andThen,Sem.run_pure]
  have o1:=Own.made (e:=e) hel hcap (Stepp.ext (Ext.alloc ..))
  have o2:=Own.made (e:=e) hel hcap (Stepp.add (.slice (some ⟨w.heap.size,0,none⟩) len len) (Ext.alloc ..) (fun b hb=>by simp [Qn] at hb; omega))
  rw [hl] at o1 o2
  exact h _ _ rfl (Ext.alloc ..) (by simp) o1 o2

theorem Qqc {α : Type} [Rep α] {e : TypeId} {bytes : Nat} {zz : Value} {L : List Value} {v vx : Value} {xs ys : List α} {K : Value → World → Prop} {aT : Array TypeId}
    (hu : P.underlying T = some (.slice e)) (hi : EInfo P e (Rep.n α) bytes zz) (hT : aT = #[T,T]) (hx : Qo n ρ x = v) (hy : Qo n ρ y = vx) (hown : Own e (v :: L) w v xs) (hs : SlRd (v :: L) w vx ys)
    (hb : (xs.length + ys.length) * bytes ≤ 140737488355328) (hm : xs.length + ys.length ≤ maxLen)
    (h : ∀ v' w',Chg [v] w w' → (∀ b,Qn v' = some b → Qn v = some b ∨ w.heap.size ≤ b) → Own e (v' :: L) w' v' (xs ++ ys) → K v' w') : Eff P ⟨d,.call ⟨.builtin .append,#[x,y],aT⟩,t,p,af,gu⟩ n ρ w K:=by
  subst hT
  obtain ⟨i,h1,h2,h3,h4,h5,h6⟩:=hi.ex
  obtain ⟨av,capv,hv,_⟩:=hown.shape
  obtain ⟨cells,ho,hel⟩:=hown
  have key : ∀ r : Result Value,(Builtin.append_ #[T,T] t #[v,vx]).run P w = r → (match r with | .ok v' w'=>K v' w' | _=>False) → Eff P ⟨d,.call ⟨.builtin .append,#[x,y],#[T,T]⟩,t,p,af,gu⟩ n ρ w K:=by
    intro r hr hK
    have : (execOp (Qo n ρ) ⟨d,.call ⟨.builtin .append,#[x,y],#[T,T]⟩,t,p,af,gu⟩).run P w = ((Builtin.append_ #[T,T] t #[v,vx]).run P w).andThen fun v w=>.ok (.value v) w:=by
      simp [execOp,resolve,invoke,builtin,hx,hy]
    simp only [Eff,this,hr]
    cases r with
    | ok v' w'=>exact hK
    | halt _ _=>exact hK.elim
  rcases hs with ⟨a0,rfl,rfl⟩ | ⟨b,off,cap,cur,e',fz,rfl,hblk,hA,hcap,hcm,hsz,hely⟩
  · refine key (.ok v w) ?_ (h v w (Chg.refl _ _) (fun b hb=>.inl hb) ?_)
    · subst hv
      have hle : xs.length ≤ capv:=by
        rcases ho.2 with ⟨hh,h0⟩ | ⟨g,cap,cur,hh,_,_,h4,_⟩
        · omega
        · cases hh; exact h4
      have hnot : ∀ q,P.underlying T = some q → (match q with | .int _=>true | _=>false) = false:=by intro q hq; rw [hu] at hq; cases hq; rfl
      simp [Builtin.append_,run_underlying hu,sizeOf,typeInfo,h1,Builtin.lenOf,Builtin.firstCells,hle]
      have hl0 : ∀ a : Addr,(loadCells a 0).run P w = .ok #[] w:=fun a=>run_loadCells_list (P:=P) w a [] (fun j v hv=>by simp at hv)
      cases av <;> cases a0 <;> simp [storeCells,hl0]
    · rw [List.append_nil]; exact ⟨cells,ho,hel⟩
  · have hnl : (((cur.toList.drop off).take (ys.length * Rep.n α))).length = ys.length * Rep.n α:=hely.1
    have hbase : (0 : Nat) ≤ w.heap.size:=Nat.zero_le _
    obtain ⟨v',w',hr,ho',hg,_⟩:=run_append_own (P:=P) w 0 T t e i zz (Rep.n α) bytes hu h1 h4 h2 h3 h5 h6 v xs.length cells ho ⟨b,off,none⟩ ys.length cap ((cur.toList.drop off).take (ys.length * Rep.n α)) hnl
      (fun j u hu=>by
        rw [YW]
        have hj : j < ys.length * Rep.n α:=by
          rcases Nat.lt_or_ge j (ys.length * Rep.n α) with h | h
          · exact h
          · rw [List.getElem?_eq_none (by rw [hnl]; exact h)] at hu; cases hu
        rw [List.getElem?_take_of_lt hj,List.getElem?_drop] at hu
        simp [World.cell?,hblk,← hu])
      hely.cells1 hm hb hbase
    have hc : Chg [v] w w':=Chg.of_grown hg
    have hnews : ∀ j u,((cur.toList.drop off).take (ys.length * Rep.n α))[j]? = some u → w.cell? ((⟨b,off,none⟩ : Addr).add j) = some u:=fun j u hu=>by
      rw [YW]
      have hj : j < ys.length * Rep.n α:=by
        rcases Nat.lt_or_ge j (ys.length * Rep.n α) with h | h
        · exact h
        · rw [List.getElem?_eq_none (by rw [hnl]; exact h)] at hu; cases hu
      rw [List.getElem?_take_of_lt hj,List.getElem?_drop] at hu
      simp [World.cell?,hblk,← hu]
    have hbl : ∀ b,Qn v' = some b → Qn v = some b ∨ w.heap.size ≤ b:=by
      intro k hk
      rcases ho.2 with ⟨hh,h0⟩ | ⟨g,cap',cur',hh,_,hg',h4',_,hcs,htake⟩
      · have hown2 : w.ownsRow w.heap.size e (Rep.n α) v xs.length cells:=⟨ho.1,.inl ⟨hh,h0⟩⟩
        obtain ⟨v2,w2,hr2,ho2,_⟩:=run_append_own (P:=P) w w.heap.size T t e i zz (Rep.n α) bytes hu h1 h4 h2 h3 h5 h6 v xs.length cells hown2 ⟨b,off,none⟩ ys.length cap _ hnl hnews hely.cells1 hm hb (Nat.le_refl _)
        rw [hr] at hr2
        cases hr2
        have hw : v'.ownBlock = some k:=by
          rcases ho2.2 with ⟨hh,_⟩ | ⟨g2,_,_,hh,_⟩ <;> subst hh
          · cases hk
          · exact hk
        exact .inr (ho2.lt k hw).1
      · subst hh
        by_cases hroom : xs.length + ys.length ≤ cap'
        · have hr2:=run_append_room (P:=P) w T t e i hu h1 g xs.length cap' cur' hg' ⟨b,off,none⟩ ys.length cap _ (by rw [h2]; exact hnl) hnews hely.cells1 hroom (by rw [h2,hnl,hcs,← Nat.add_mul]; exact Nat.mul_le_mul_right _ hroom)
          rw [hr] at hr2
          cases hr2
          exact .inl hk
        · have holds : ∀ j u,cells[j]? = some u → w.cell? ((⟨g,0,none⟩ : Addr).add j) = some u:=World.ownsRow.cells ho (g:=g) rfl
          have hr2:=run_append_grow (P:=P) w T t e i zz hu h1 h4 ⟨g,0,none⟩ xs.length cap' cells (by rw [h2]; exact ho.1) holds ⟨b,off,none⟩ ys.length cap _ (by rw [h2]; exact hnl) hnews (by omega) (by unfold maxLen at hm; omega) (growslice_fits (by omega) (by rw [h3]; exact hb))
          rw [hr] at hr2
          cases hr2
          right
          have : w.heap.size = k:=by simpa [Qn] using hk
          omega
    refine key _ hr (h v' w' hc hbl ?_)
    have st : Stepp (v :: L) w (v' :: L) w':=Stepp.swap hc hbl
    exact ⟨cells ++ _,by simpa using ho',(hel.step st).append (Elems.step st hely)⟩

end
end Go.Gw

end
section
namespace Go.Gw
open Go

section
variable {P : Program} {n : Nat} {ρ : Env} {w : World}
variable {d : Option Nat} {t T U : TypeId} {p : String} {af : Array Edge} {gu : Option (Nat × Bool)} {x y z : Operand}

theorem SlRd.ext {α : Type} [Rep α] {L : List Value} {w w' : World} {v : Value} {xs : List α} (h : SlRd L w v xs) (e : Ext w w') : SlRd L w' v xs:=h.step (Stepp.ext e)
theorem At.ext' {w w' : World} {a : Addr} {cs : List Value} (h : At w a cs) (e : Ext w w') : At w' a cs:=At.ext e h
theorem Own.ext {α : Type} [Rep α] {e : TypeId} {L : List Value} {w w' : World} {v : Value} {xs : List α} (h : Own e L w v xs) (c : Ext w w') : Own e L w' v xs:=h.step (Stepp.ext c) c (fun _ _=>Avoids.nil _)
theorem Rep.ext {α : Type} [Rep α] {L : List Value} {w w' : World} {cs : List Value} {a : α} (h : Rep.rd L w cs a) (c : Ext w w') : Rep.rd L w' cs a:=Rep.step (Stepp.ext c) h

theorem JU {α : Type} [Rep α] {e : TypeId} {L : List Value} {w2 : World} {v : Value} {xs : List α} {k : IntKind} {i : Int} {el : α} (hu : P.underlying T = some (.slice e)) (hs : Xs P e (Rep.n α)) (hown : Own e L w2 v xs)
    (hel : idx xs i = some el) (hx : Qo n ρ x = v) (hy : Qo n ρ y = .int k i) : Yl P n ρ ⟨d,.indexAddr T x y,t,p,af,gu⟩ w (.pointer (some (QV v i.toNat (Rep.n α)))):=by
  obtain ⟨h0,h1,_⟩:=YF hel
  obtain ⟨cells,ho,_⟩:=hown
  rcases ho.2 with ⟨_,h⟩ | ⟨g,cap,cur,rfl,_⟩
  · omega
  · have h2 : i < (xs.length : Int):=by omega
    simp [Yl,execOp,hx,hy,Instr.indexAt,asIntOf,run_underlying hu,h0,h2,Zh hs,QV]

theorem Own.at {α : Type} [Rep α] {e : TypeId} {L : List Value} {v : Value} {xs : List α} {i : Int} {el : α} (hown : Own e L w v xs) (hel : idx xs i = some el) : ∃ cs,At w (QV v i.toNat (Rep.n α)) cs ∧ Rep.rd L w cs el:=by
  obtain ⟨h0,h1,h2⟩:=YF hel
  obtain ⟨cells,ho,hE⟩:=hown
  rcases ho.2 with ⟨_,h⟩ | ⟨g,cap,cur,rfl,_,hg,h4,h5,hcs,htake⟩
  · omega
  · refine ⟨_,?_,hE.2 _ el h2⟩
    simp only [QV,YW,Nat.zero_add]
    refine At.of_block hg fun j u hu=>?_
    have hj : j < Rep.n α:=by
      rcases Nat.lt_or_ge j (Rep.n α) with h | h
      · exact h
      · rw [List.getElem?_eq_none (by simp; omega)] at hu; cases hu
    rw [List.getElem?_take_of_lt hj,List.getElem?_drop,← htake] at hu
    have hlt : i.toNat * Rep.n α + j < xs.length * Rep.n α:=by
      have : (i.toNat + 1) * Rep.n α ≤ xs.length * Rep.n α:=Nat.mul_le_mul_right _ h1
      rw [Nat.succ_mul] at this; omega
    rw [List.getElem?_take_of_lt hlt] at hu
    rw [← Array.getElem?_toList,← hu]

theorem Qnf {e : TypeId} {size g m cap : Nat} : ∀ (vs : List Value) (off i : Nat) (cells : List Value) (w : World), w.ownsRow 0 e size (.slice (some ⟨g, 0, none⟩) m cap) m cells → off + i + vs.length ≤ cells.length → (∀ v ∈ vs, v.oneCell' = true) →
    ∃ w',(storeCells ⟨g,off,none⟩ vs i).run P w = .ok () w' ∧ w'.ownsRow 0 e size (.slice (some ⟨g,0,none⟩) m cap) m (Ye cells (off + i) vs) ∧ w.grownBy w' (some g)
  | [],off,i,cells,w,ho,_,_=>⟨w,rfl,ho,⟨rfl,rfl,rfl,Nat.le_refl _,fun _ _ _=>rfl⟩⟩
  | v :: vs,off,i,cells,w,ho,hl,h1=>by
    have hlt : off + i < cells.length:=by simp at hl; omega
    have hc : w.cell? ⟨g,off + i,none⟩ = some cells[off + i]:=by
      have:=World.ownsRow.cells ho (g:=g) rfl (off + i) _ (List.getElem?_eq_getElem hlt)
      rwa [YW,Nat.zero_add] at this
    have hfz : w.frozen? ⟨g,off + i,none⟩ = false:=by
      rcases ho.2 with ⟨h,_⟩ | ⟨g',cap',cur,h,_,hg,_⟩
      · cases h
      · cases h; simp [World.frozen?,hg]
    obtain ⟨ho1,hg1⟩:=World.ownsRow.stored (w:=w) (e:=e) (size:=size) (base:=0) ho (off + i) v
    obtain ⟨w',hr,ho2,hg2⟩:=Qnf vs off (i + 1) (cells.set (off + i) v) (w.setCell ⟨g,off + i,none⟩ v) ho1 (by simp at hl ⊢; omega) (fun u hu=>h1 u (List.mem_cons_of_mem _ hu))
    refine ⟨w',?_,ho2,⟨hg2.os.trans hg1.os,hg2.tape.trans hg1.tape,hg2.output.trans hg1.output,Nat.le_trans hg1.size hg2.size,fun k hk hne=>(hg2.block k (Nat.lt_of_lt_of_le hk hg1.size) hne).trans (hg1.block k hk hne)⟩⟩
    have hst : (store ((⟨g,off,none⟩ : Addr).add i) v).run P w = .ok () (w.setCell ⟨g,off + i,none⟩ v):=by
      have:=h1 v (List.mem_cons_self ..)
      rw [YW]
      cases v <;> simp [Value.oneCell'] at this <;> simp [store,Sem.run,hc,hfz]
    simp only [storeCells,Sem.run_bind,hst,Result.andThen]
    exact hr

theorem Qwj (vs : List Value) : ∀ (cs : List Value) (k : Nat),(Ye cs k vs).length = cs.length:=by
  induction vs with
  | nil=>intro cs k; rfl
  | cons v vs ih=>intro cs k; simp [Ye,ih]

theorem Qwl (vs : List Value) : ∀ (cells : List Value) (a b k : Nat),k + vs.length ≤ b → ((Ye cells (a + k) vs).drop a).take b = Ye ((cells.drop a).take b) k vs:=by
  induction vs with
  | nil=>intro cells a b k _; rfl
  | cons v vs ih =>
    intro cells a b k hk
    simp only [Ye]
    have h1 : k + 1 + vs.length ≤ b:=by simp at hk; omega
    rw [Nat.add_assoc,ih (cells.set (a + k) v) a b (k + 1) h1]
    congr 1
    rw [List.drop_set,if_neg (by omega),List.take_set,Nat.add_sub_cancel_left]

theorem Qwk (vs : List Value) : ∀ (cells : List Value) (a b k : Nat),(a + b ≤ k ∨ k + vs.length ≤ a) → ((Ye cells k vs).drop a).take b = (cells.drop a).take b:=by
  induction vs with
  | nil=>intro cells a b k _; rfl
  | cons v vs ih =>
    intro cells a b k hk
    simp only [Ye]
    rw [ih _ a b (k + 1) (by simp at hk; omega)]
    rw [List.drop_set]
    split
    · rfl
    · rw [List.take_set,List.set_eq_of_length_le]
      simp; simp at hk; omega

theorem Qql {α : Type} [Rep α] {e : TypeId} {L : List Value} {v : Value} {xs : List α} {i : Int} {el y' : α} {off : Nat} {u : Value} {K : Value → World → Prop} (hs : Xs P T u.cells.size) (hown : Own e L w v xs) (hv : v ∈ L) (hel : idx xs i = some el)
    (hx : Qo n ρ x = .pointer (some ((QV v i.toNat (Rep.n α)).add off))) (hy : Qo n ρ y = u) (hl : off + u.cells.size ≤ Rep.n α) (h1 : ∀ c ∈ u.cells.toList,c.oneCell' = true)
    (hset : ∀ w' cs,Rep.rd L w' cs el → Rep.rd L w' (Ye cs off u.cells.toList) y')
    (h : ∀ w',Chg [v] w w' → Own e L w' v (xs.set i.toNat y') → K undef w') : Eff P ⟨d,.store T x y,t,p,af,gu⟩ n ρ w K:=by
  obtain ⟨h0,hi,h2⟩:=YF hel
  obtain ⟨cells,ho,hE⟩:=hown
  rcases ho.2 with ⟨_,hh⟩ | ⟨g,cap,cur,rfl,_,hg,h4,h5,hcs,htake⟩
  · omega
  · have hlen : i.toNat * Rep.n α + off + 0 + u.cells.toList.length ≤ cells.length := by
      have : (i.toNat + 1) * Rep.n α ≤ xs.length * Rep.n α:=Nat.mul_le_mul_right _ hi
      rw [Nat.succ_mul] at this
      rw [hE.1]; simp; omega
    obtain ⟨w',hr,ho2,hg2⟩:=Qnf (P:=P) u.cells.toList (i.toNat * Rep.n α + off) 0 cells w ho hlen h1
    have hx' : Qo n ρ x = .pointer (some ⟨g,i.toNat * Rep.n α + off,none⟩):=by rw [hx]; simp [QV,YW]
    have hst : (Instr.storeAt T (.pointer (some ⟨g,i.toNat * Rep.n α + off,none⟩)) u).run P w = .ok () w':=by
      simp [Instr.storeAt,Instr.sureAddr,storeVar,Zh hs,hr]
    simp only [Eff,execOp,hx',hy,Sem.run_bind,hst,Result.andThen,Sem.run_pure]
    have hc : Chg [Value.slice (some ⟨g,0,none⟩) xs.length cap] w w':=⟨hg2.os,hg2.tape,hg2.output,hg2.size,fun b hb hA=>hg2.block b hb (fun e=>hA _ (List.mem_singleton.2 rfl) (by cases e; rfl))⟩
    refine h w' hc ⟨_,by rw [List.length_set]; exact ho2,?_⟩
    have hE':=hE.step (Qt hc hv)
    refine ⟨by rw [Qwj,List.length_set]; exact hE.1,fun j b hb=>?_⟩
    by_cases hj : j = i.toNat
    · subst hj
      rw [List.getElem?_set_self hi] at hb
      cases hb
      rw [Nat.add_zero,Qwl _ _ _ _ _ (by simpa using hl)]
      exact hset _ _ (hE'.2 _ _ h2)
    · rw [List.getElem?_set_ne (Ne.symm hj)] at hb
      rw [Nat.add_zero,Qwk]
      · exact hE'.2 _ _ hb
      · rcases Nat.lt_or_ge j i.toNat with hlt | hge
        · left
          have : (j + 1) * Rep.n α ≤ i.toNat * Rep.n α:=Nat.mul_le_mul_right _ hlt
          rw [Nat.succ_mul] at this; omega
        · right
          have : (i.toNat + 1) * Rep.n α ≤ j * Rep.n α:=Nat.mul_le_mul_right _ (by omega)
          rw [Nat.succ_mul] at this; simp; omega

/-! ### Cuts -/
def cut {α : Type} (xs : List α) (lo hi : Int) : Option (List α):=if 0 ≤ lo ∧ lo ≤ hi ∧ hi ≤ xs.length then some ((xs.take hi.toNat).drop lo.toNat) else none

theorem Qpv {α : Type} {xs ys : List α} {lo hi : Int} (h : cut xs lo hi = some ys) : 0 ≤ lo ∧ lo ≤ hi ∧ hi ≤ xs.length ∧ ys = (xs.take hi.toNat).drop lo.toNat:=by
  unfold cut at h
  split at h
  · rename_i hc; exact ⟨hc.1,hc.2.1,hc.2.2,by cases h; rfl⟩
  · cases h

def Qct (v : Value) (lo hi k : Nat) : Value:=match v with
  | .slice a _ c=>.slice (if c = lo then a else a.map (·.add (lo * k))) (hi - lo) (c - lo)
  | v=>v

theorem SlRd.cut {α : Type} [Rep α] {L : List Value} {w : World} {v : Value} {xs ys : List α} {lo hi : Int} (hs : SlRd L w v xs) (hc : cut xs lo hi = some ys) : SlRd L w (Qct v lo.toNat hi.toNat (Rep.n α)) ys:=by
  obtain ⟨h0,h1,h2,rfl⟩:=Qpv hc
  rcases hs with ⟨a0,rfl,rfl⟩ | ⟨b,off,cap,cur,e,fz,rfl,hb,hA,h4,h5,h6,h7⟩
  · have : hi = 0:=by simp at h2; omega
    subst this
    have : lo = 0:=by omega
    subst this
    exact .inl ⟨a0,by simp [Qct],by simp⟩
  · have hlen : ((xs.take hi.toNat).drop lo.toNat).length = hi.toNat - lo.toNat:=by simp; omega
    have elem : ∀ off',off' = off + lo.toNat * Rep.n α → Elems L w ((cur.toList.drop off').take (((xs.take hi.toNat).drop lo.toNat).length * Rep.n α)) ((xs.take hi.toNat).drop lo.toNat):=by
      rintro off' rfl
      have hmul : (lo.toNat + (hi.toNat - lo.toNat)) * Rep.n α ≤ xs.length * Rep.n α:=Nat.mul_le_mul_right _ (by omega)
      have hmul2 : xs.length * Rep.n α ≤ cap * Rep.n α:=Nat.mul_le_mul_right _ h4
      rw [Nat.add_mul] at hmul
      refine ⟨by rw [hlen]; simp; omega,fun j b hb=>?_⟩
      have hj : j < hi.toNat - lo.toNat:=by
        rcases Nat.lt_or_ge j (hi.toNat - lo.toNat) with h | h
        · exact h
        · rw [List.getElem?_eq_none (by rw [hlen]; exact h)] at hb; cases hb
      have hb' : xs[lo.toNat + j]? = some b:=by
        rw [List.getElem?_drop,List.getElem?_take_of_lt (by omega)] at hb; exact hb
      have:=h7.2 _ b hb'
      have hj2 : (j + 1) * Rep.n α ≤ (hi.toNat - lo.toNat) * Rep.n α:=Nat.mul_le_mul_right _ hj
      rw [Nat.succ_mul] at hj2
      have hj3 : (lo.toNat + j) * Rep.n α = lo.toNat * Rep.n α + j * Rep.n α:=Nat.add_mul ..
      rw [List.drop_take,List.take_take,List.drop_drop] at this ⊢
      rw [hlen]
      rw [Nat.min_eq_left (by omega)] at this ⊢
      rw [hj3,← Nat.add_assoc] at this
      exact this
    by_cases hcl : cap = lo.toNat
    · refine .inr ⟨b,off,cap - lo.toNat,cur,e,fz,by simp [Qct,hcl,hlen],hb,hA,by rw [hlen]; omega,by omega,?_,?_⟩
      · have : (cap - lo.toNat) * Rep.n α ≤ cap * Rep.n α:=Nat.mul_le_mul_right _ (by omega)
        omega
      · have hz : ((xs.take hi.toNat).drop lo.toNat) = []:=List.eq_nil_of_length_eq_zero (by rw [hlen]; omega)
        rw [hz]; simp [Elems]
    · refine .inr ⟨b,off + lo.toNat * Rep.n α,cap - lo.toNat,cur,e,fz,by simp [Qct,hcl,hlen,YW],hb,hA,by rw [hlen]; omega,by omega,?_,elem _ rfl⟩
      have : (lo.toNat + (cap - lo.toNat)) * Rep.n α ≤ cap * Rep.n α:=Nat.mul_le_mul_right _ (by omega)
      rw [Nat.add_mul] at this
      omega

/-! ### Structs and arrays built; made slices -/
structure BI (P : Program) (T : TypeId) (places : List (Nat × Nat)) (zero : List Value) : Prop where
  ex : ∃ it fs z,P.info? T = some it ∧ P.underlying T = some (.struct fs) ∧ it.zero = some z ∧ z.cells = zero.toArray ∧ fs.toList.mapM (fun f=>(P.info? f.type).map fun i=>(f.offset,i.size)) = some places

theorem Qyk {cells zero : List Value} {places : List (Nat × Nat)} {parts : Array (Nat × Operand)} (hB : BI P T places zero) (h : Zp (places[·]?) zero (parts.toList.map fun q => (q.1, Qo n ρ q.2)) = some cells) :
    Yl P n ρ ⟨d,.build T parts,t,p,af,gu⟩ w (.agg cells.toArray):=by
  obtain ⟨it,fs,z,h1,h2,h3,h4,h5⟩:=hB.ex
  have h' : P.built T (parts.map fun (i,x)=>(i,Qo n ρ x)).toList = some cells.toArray:=by
    simp only [Program.built,h1,h2,h3,h5,h4]
    have:=Qcv _ _ _ h
    rw [Array.toList_map]
    simpa using this
  simp only [Yl,execOp,Sem.run_bind,run_build w T _ _ h',Result.andThen,Sem.run_pure]

theorem JT {e m sz : Nat} {k : IntKind} {i : Int} {a : Addr} (hu : P.underlying T = some (.array m e)) (hs : Xs P e sz) (h0 : 0 ≤ i) (h1 : i < m) (hx : Qo n ρ x = .pointer (some a)) (hy : Qo n ρ y = .int k i) :
    Yl P n ρ ⟨d,.indexAddr T x y,t,p,af,gu⟩ w (.pointer (some (a.add (i.toNat * sz)))):=by
  simp [Yl,execOp,hx,hy,Instr.indexAt,asIntOf,run_underlying hu,Instr.sureAddr,h0,h1,Zh hs]

end
end Go.Gw

end
section
namespace Go.Gw
open Go

abbrev w64 (x : Int) : Int:=IntKind.wrap .i64 x

theorem Qx {α : Type} {b : Bool} {x y z : α} (hb : b = true) (h : cond b x y = z) : x = z:=by subst hb; exact h
theorem QA {α : Type} {b : Bool} {x y z : α} (hb : b = false) (h : cond b x y = z) : y = z:=by subst hb; exact h
theorem Qg {α β : Type} {e : Option α} {f : α → Option β} {r : β} (h : e.bind f = some r) : ∃ x,e = some x ∧ f x = some r:=by
  cases e with
  | none=>cases h
  | some x=>exact ⟨x,rfl,h⟩

noncomputable def loop {σ β : Type} (step : σ → Option (σ ⊕ β)) (s : σ) : Option β :=
  open Classical in if h : ∃ o, ∃ k, XU step k s = some o then some (Classical.choose h) else none

theorem Qld {σ β : Type} {step : σ → Option (σ ⊕ β)} : ∀ {k k' : Nat} {s : σ} {o o' : β},XU step k s = some o → XU step k' s = some o' → o = o'
  | 0,_,_,_,_,h,_=>by cases h
  | _ + 1,0,_,_,_,_,h=>by cases h
  | k + 1,k' + 1,s,o,o',h,h'=>by
    simp only [XU] at h h'
    cases hs : step s with
    | none=>simp [hs] at h
    | some x =>
      cases x with
      | inl s'=>simp only [hs] at h h'; exact Qld h h'
      | inr b=>simp only [hs] at h h'; cases h; cases h'; rfl

theorem loop_iff {σ β : Type} {step : σ → Option (σ ⊕ β)} {s : σ} {o : β} : loop step s = some o ↔ ∃ k,XU step k s = some o:=by
  classical
  unfold loop
  constructor
  · intro h
    split at h
    · rename_i hh
      obtain ⟨k,hk⟩:=Classical.choose_spec hh
      cases h
      exact ⟨k,hk⟩
    · cases h
  · rintro ⟨k,hk⟩
    have hh : ∃ o,∃ k,XU step k s = some o:=⟨o,k,hk⟩
    rw [dif_pos hh]
    obtain ⟨k',hk'⟩:=Classical.choose_spec hh
    rw [Qld hk' hk]

theorem Yp {σ β : Type} {step : σ → Option (σ ⊕ β)} {s s' : σ} (h : step s = some (.inl s')) : loop step s = loop step s':=by
  apply Option.ext
  intro o
  rw [loop_iff,loop_iff]
  constructor
  · rintro ⟨k,hk⟩
    cases k with
    | zero=>cases hk
    | succ k=>simp only [XU,h] at hk; exact ⟨k,hk⟩
  · rintro ⟨k,hk⟩
    exact ⟨k + 1,by simp only [XU,h]; exact hk⟩
theorem X2 {σ β : Type} {step : σ → Option (σ ⊕ β)} {s : σ} {o : β} (h : step s = some (.inr o)) : loop step s = some o:=by
  rw [loop_iff]; exact ⟨1,by simp only [XU,h]⟩

section
variable {P : Program} {n : Nat} {q : Post} {ρ : Env} {w : World}

theorem Qox {c : Code} {σ β : Type} {step : σ → Option (σ ⊕ β)} {s : σ} {o : β} (I : σ → Env → World → Prop) (h : loop step s = some o) (h0 : I s ρ w)
    (round : ∀ s ρ w,I s ρ w → ∀ x,step s = some x → (∀ y,x = .inr y → y = o) → WC P n c ⟨fun ρ w=>∃ s',x = .inl s' ∧ I s' ρ w,q.ex,q.ret⟩ ρ w) : WC P n (.loop c) q ρ w:=by
  obtain ⟨k,hk⟩:=loop_iff.1 h
  refine Qjq (step:=step) (k:=k) (s:=s) (o:=o) I hk h0 fun s ρ w hI=>⟨fun s' hs=>?_,fun hs=>?_⟩
  · exact (round s ρ w hI _ hs (fun y hy=>by cases hy)).mono (fun ρ w ⟨s'',he,hI'⟩=>by cases he; exact hI') (fun _ _ _ h=>h) (fun _ _ h=>h)
  · exact (round s ρ w hI _ hs (fun y hy=>by cases hy; rfl)).mono (fun ρ w ⟨s'',he,_⟩=>by cases he) (fun _ _ _ h=>h) (fun _ _ h=>h)

theorem Jt {ops : Array Oper} {K : Env → World → Prop} {o : Oper} {os : List Oper} (b : Bool) (V : Value) (hw : Xl ops o n ρ = b) (ht : b = true → Eff P o n ρ w (fun v w' => v = V ∧ Ext w w'))
    (h : ∀ w',Ext w w' → T0 P n ops K os (Xa ρ o.dst (gd b V)) w') : T0 P n ops K (o :: os) ρ w :=
  Qjk b hw (fun hb=>(ht hb).mono fun v w' ⟨hv,he⟩=>by have:=h w' he; rw [Qw hb] at this; rw [hv]; exact this)
    (fun hb=>by have:=h w (Chg.refl _ _); rw [Qbh hb] at this; exact this)
section ev
variable {x1 x2 x3 x4 x5 x6 x7 x8 : Operand} {v1 v2 v3 v4 v5 v6 v7 v8 : Value}
theorem ev0 : ((#[] : Array Operand).map (Qo n ρ)).toList = []:=by simp
theorem QH (h1 : Qo n ρ x1 = v1) : (#[x1].map (Qo n ρ)).toList = [v1]:=by subst h1; simp
theorem Qy (h1 : Qo n ρ x1 = v1) (h2 : Qo n ρ x2 = v2) : (#[x1,x2].map (Qo n ρ)).toList = [v1,v2]:=by subst h1 h2; simp
theorem XP (h1 : Qo n ρ x1 = v1) (h2 : Qo n ρ x2 = v2) (h3 : Qo n ρ x3 = v3) : (#[x1,x2,x3].map (Qo n ρ)).toList = [v1,v2,v3]:=by subst h1 h2 h3; simp
theorem ev4 (h1 : Qo n ρ x1 = v1) (h2 : Qo n ρ x2 = v2) (h3 : Qo n ρ x3 = v3) (h4 : Qo n ρ x4 = v4) : (#[x1,x2,x3,x4].map (Qo n ρ)).toList = [v1,v2,v3,v4]:=by subst h1 h2 h3 h4; simp
end ev

variable {d : Option Nat} {t T U : TypeId} {p : String} {af : Array Edge} {gu : Option (Nat × Bool)} {x y z : Operand}
theorem QM {fs : Array Field} {i : Nat} {f : Field} {a : Addr} {v : Value} (off : Nat) (hu : P.underlying T = some (.struct fs)) (hf : fs[i]? = some f) (ho : f.offset = off) (hs : ∃ k, Xs P f.type (k + 1)) (hx : Qo n ρ x = .pointer (some a))
    (hv : v = .pointer (some (a.add off))) : Yl P n ρ ⟨d,.fieldAddr T x i,t,p,af,gu⟩ w v:=by
  subst hv; subst ho
  obtain ⟨k,hs⟩:=hs
  exact Qym hu hf hs hx

theorem XE {a : Addr} {cs : List Value} (hT : Aggr P T cs.length) (hat : At w a cs) : (loadVar T a).run P w = .ok (.agg cs.toArray) w:=by
  simp [loadVar,Qnc hT,Zh hT.size,run_loadCells_list w a cs hat.2]
theorem Qam {a : Addr} {v : Value} {cs : List Value} (hT : YB P T) (hat : At w a (v :: cs)) : (loadVar T a).run P w = .ok v w:=by
  have h0:=hat.2 0 v rfl
  have e : a.add 0 = a:=by simp [Addr.add]
  rw [e] at h0
  simp [loadVar,Qih hT,h0]

def LtL (L : List Value) (w : World) : Prop:=∀ h ∈ L,∀ b,Qn h = some b → b < w.heap.size
theorem LtL.chg {L H : List Value} {w w' : World} (h : LtL L w) (c : Chg H w w') : LtL L w':=fun x hx b hb=>Nat.lt_of_lt_of_le (h x hx b hb) c.size
theorem LtL.nil (w : World) : LtL [] w:=fun _ h=>by cases h
theorem LtL.cons {L : List Value} {w : World} {v : Value} (h : LtL L w) (hv : ∀ b,Qn v = some b → b < w.heap.size) : LtL (v :: L) w:=fun x hx b hb=>by
  rcases List.mem_cons.1 hx with rfl | hx
  · exact hv b hb
  · exact h x hx b hb

theorem Own.sub {α : Type} [Rep α] {e : TypeId} {L L' : List Value} {v : Value} {xs : List α} (h : Own e L w v xs) (hs : ∀ x ∈ L',x ∈ L) : Own e L' w v xs:=h.step (Stepp.sub w hs) (Chg.refl [] w) (fun _ _=>Avoids.nil _)
theorem SlRd.sub {α : Type} [Rep α] {L L' : List Value} {v : Value} {xs : List α} (h : SlRd L w v xs) (hs : ∀ x ∈ L',x ∈ L) : SlRd L' w v xs:=h.step (Stepp.sub w hs)
theorem Own.rdL {α : Type} [Rep α] {e : TypeId} {L L0 : List Value} {w0 : World} {v : Value} {xs : List α} (h : Own e L w v xs) (hs : ∀ x ∈ L0,x ∈ L) (hL : LtL L0 w0) (hf : ∀ b,Qn v = some b → w0.heap.size ≤ b) : SlRd L0 w v xs :=
  (h.sub hs).rd (fun b hb x hx e=>by have:=hL x hx b e; have:=hf b hb; omega)
theorem XC {v : Value} {b : Nat} (h : Qn v ≠ some b) : Avoids [v] b:=fun x hx e=>by rcases List.mem_singleton.1 hx with rfl; exact h e
theorem Qu {b b' : Nat} (h : b' ≠ b) : Avoids [.pointer (some ⟨b',0,none⟩)] b:=fun x hx e=>by rcases List.mem_singleton.1 hx with rfl; simp [Qn] at e; exact h e
end
end Go.Gw
namespace Go.Gw
section
variable {P : Program} {n : Nat} {q : Post} {ρ : Env} {w : World}
theorem Xh {c : Code} {σ β : Type} {step : σ → Option (σ ⊕ β)} {s : σ} {o : β} (I : σ → Env → World → Prop) (h : loop step s = some o) (h0 : I s ρ w)
    (round : ∀ s ρ w,I s ρ w → ∀ x,step s = some x → (∀ y,x = .inr y → y = o) → ∀ K : Env → World → Prop,(∀ s' ρ w,x = .inl s' → I s' ρ w → K ρ w) → WC P n c ⟨K,q.ex,q.ret⟩ ρ w) : WC P n (.loop c) q ρ w :=
  Qox I h h0 fun s ρ w hI x hx ho=>round s ρ w hI x hx ho _ fun s' _ _ he hI'=>⟨s',he,hI'⟩
theorem Q5 {α : Type} {a : α} {L L' : List α} (h : a ∈ L') (hs : ∀ x ∈ L,x ∈ L') : ∀ x ∈ a :: L,x ∈ L':=fun x hx=>by
  rcases List.mem_cons.1 hx with rfl | hx
  · exact h
  · exact hs x hx
theorem XR {α : Type} (L : List α) : ∀ x ∈ L,x ∈ L:=fun _ h=>h
theorem QO {α : Type} {a : α} {L L' : List α} (hs : ∀ x ∈ L,x ∈ L') : ∀ x ∈ L,x ∈ a :: L':=fun x hx=>List.mem_cons_of_mem _ (hs x hx)
abbrev AgV (l : List Value) : Value:=.agg l.toArray
theorem Qs {α : Type} {a : α} {L : List α} : a ∈ a :: L:=List.mem_cons_self ..
theorem Qq {α : Type} {a b : α} {L : List α} (h : a ∈ L) : a ∈ b :: L:=List.mem_cons_of_mem _ h
theorem Xj {α : Type} {x0 x1 : α} {L : List α} : x1 ∈ x0 :: x1 :: L:=Qq Qs
theorem YR {α : Type} {x0 x1 x2 x3 x4 : α} {L : List α} : x4 ∈ x0 :: x1 :: x2 :: x3 :: x4 :: L:=Qq (Qq (Qq (Qq Qs)))
theorem Xz {α : Type} {x0 x1 : α} {L : List α} : ∀ x ∈ L,x ∈ x0 :: x1 :: L:=QO (QO (XR _))
theorem Qiu {α : Type} {x0 x1 x2 x3 x4 x5 x6 : α} {L : List α} : ∀ x ∈ x0 :: x1 :: x2 :: x4 :: x5 :: x6 :: L,x ∈ x0 :: x1 :: x2 :: x3 :: x4 :: x5 :: x6 :: L:=Q5 Qs (Q5 (Qq Qs) (Q5 (Qq (Qq Qs)) (Q5 (Qq (Qq (Qq (Qq Qs)))) (Q5 (Qq (Qq (Qq (Qq (Qq Qs))))) (Q5 (Qq (Qq (Qq (Qq (Qq (Qq Qs)))))) (QO (QO (QO (QO (QO (QO (QO (XR _)))))))))))))
theorem Qap {α : Type} {x0 x1 x2 x3 x4 x5 x6 x7 x8 : α} {L : List α} : ∀ x ∈ x0 :: x1 :: x3 :: x4 :: x5 :: x6 :: x7 :: x8 :: L,x ∈ x0 :: x1 :: x2 :: x3 :: x4 :: x5 :: x6 :: x7 :: x8 :: L:=Q5 Qs (Q5 (Qq Qs) (Q5 (Qq (Qq (Qq Qs))) (Q5 (Qq (Qq (Qq (Qq Qs)))) (Q5 (Qq (Qq (Qq (Qq (Qq Qs))))) (Q5 (Qq (Qq (Qq (Qq (Qq (Qq Qs)))))) (Q5 (Qq (Qq (Qq (Qq (Qq (Qq (Qq Qs))))))) (Q5 (Qq (Qq (Qq (Qq (Qq (Qq (Qq (Qq Qs)))))))) (QO (QO (QO (QO (QO (QO (QO (QO (QO (XR _)))))))))))))))))
theorem Qaq {α : Type} {x0 x1 x2 : α} {L : List α} : ∀ x ∈ x0 :: x2 :: L,x ∈ x0 :: x1 :: x2 :: L:=Q5 Qs (Q5 (Qq (Qq Qs)) (QO (QO (QO (XR _)))))
theorem Jk {α : Type} {x0 x1 x2 x3 x4 x5 x6 x7 x8 : α} {L : List α} : ∀ x ∈ x0 :: x2 :: x1 :: x3 :: x4 :: x5 :: x6 :: x7 :: x8 :: L,x ∈ x0 :: x1 :: x2 :: x3 :: x4 :: x5 :: x6 :: x7 :: x8 :: L:=Q5 Qs (Q5 (Qq (Qq Qs)) (Q5 (Qq Qs) (Q5 (Qq (Qq (Qq Qs))) (Q5 (Qq (Qq (Qq (Qq Qs)))) (Q5 (Qq (Qq (Qq (Qq (Qq Qs))))) (Q5 (Qq (Qq (Qq (Qq (Qq (Qq Qs)))))) (Q5 (Qq (Qq (Qq (Qq (Qq (Qq (Qq Qs))))))) (Q5 (Qq (Qq (Qq (Qq (Qq (Qq (Qq (Qq Qs)))))))) (QO (QO (QO (QO (QO (QO (QO (QO (QO (XR _))))))))))))))))))
theorem Y1 {α : Type} {x0 x1 : α} {L : List α} : ∀ x ∈ x1 :: x0 :: L,x ∈ x0 :: x1 :: L:=Q5 (Qq Qs) (Q5 Qs (QO (QO (XR _))))
theorem X8 {α : Type} {x0 x1 x2 : α} {L : List α} : ∀ x ∈ x1 :: x0 :: x2 :: L,x ∈ x0 :: x1 :: x2 :: L:=Q5 (Qq Qs) (Q5 Qs (Q5 (Qq (Qq Qs)) (QO (QO (QO (XR _))))))
theorem Qcg {α : Type} {x0 x1 x2 : α} {L : List α} : ∀ x ∈ x1 :: x2 :: L,x ∈ x0 :: x1 :: x2 :: L:=Q5 (Qq Qs) (Q5 (Qq (Qq Qs)) (QO (QO (QO (XR _)))))
theorem Qiv {α : Type} {x0 x1 x2 : α} {L : List α} : ∀ x ∈ x1 :: x2 :: x0 :: L,x ∈ x0 :: x1 :: x2 :: L:=Q5 (Qq Qs) (Q5 (Qq (Qq Qs)) (Q5 Qs (QO (QO (QO (XR _))))))
theorem Qiw {α : Type} {x0 x1 x2 x3 : α} {L : List α} : ∀ x ∈ x1 :: x2 :: x0 :: L,x ∈ x0 :: x1 :: x2 :: x3 :: L:=Q5 (Qq Qs) (Q5 (Qq (Qq Qs)) (Q5 Qs (QO (QO (QO (QO (XR _)))))))
theorem Qcf {α : Type} {x0 x1 x2 x3 x4 x5 x6 x7 : α} {L : List α} : ∀ x ∈ x1 :: x2 :: x3 :: x4 :: x5 :: x6 :: x7 :: L,x ∈ x0 :: x1 :: x2 :: x3 :: x4 :: x5 :: x6 :: x7 :: L:=Q5 (Qq Qs) (Q5 (Qq (Qq Qs)) (Q5 (Qq (Qq (Qq Qs))) (Q5 (Qq (Qq (Qq (Qq Qs)))) (Q5 (Qq (Qq (Qq (Qq (Qq Qs))))) (Q5 (Qq (Qq (Qq (Qq (Qq (Qq Qs)))))) (Q5 (Qq (Qq (Qq (Qq (Qq (Qq (Qq Qs))))))) (QO (QO (QO (QO (QO (QO (QO (QO (XR _)))))))))))))))
end
end Go.Gw
namespace Go.Gw
def Xx {β μ : Type} (o : β ⊕ μ) (f : μ → Option β) : Option β:=match o with | .inl b=>some b | .inr m=>f m
def jn1 {σ β μ μ' : Type} (o : β ⊕ μ) (f : μ → Option (σ ⊕ (β ⊕ μ'))) : Option (σ ⊕ (β ⊕ μ')):=match o with | .inl b=>some (.inr (.inl b)) | .inr m=>f m
def jn2 {β μ μ' : Type} (o : β ⊕ μ) (f : μ → Option (β ⊕ μ')) : Option (β ⊕ μ'):=match o with | .inl b=>some (.inl b) | .inr m=>f m
theorem X7 {β μ : Type} {a : β} {f : μ → Option β} {x : β} (h : Xx (.inl a) f = some x) : some a = some x:=h
theorem Yh {β μ : Type} {a : μ} {f : μ → Option β} {x : β} (h : Xx (.inr a) f = some x) : f a = some x:=h
section
variable {α : Type} [Rep α] {w w' : World}
theorem Qhr {e : TypeId} {L : List Value} {v : Value} {xs : List α} {b : Nat} (h : Own e L w v xs) (hb : b = w.heap.size) : Qn v ≠ some b:=fun e=>by have:=h.blk_lt e; omega
theorem Yc {v v' : Value} {b : Nat} {cs : List Value} {T : TypeId} (hbl : ∀ b,Qn v' = some b → Qn v = some b ∨ w.heap.size ≤ b) (h : Qn v ≠ some b) (hB : Box w b cs T) : Qn v' ≠ some b:=fun e=>by
  rcases hbl b e with h1 | h1
  · exact h h1
  · have:=hB.lt; omega
theorem Qfu {e : TypeId} {L : List Value} {u v v' : Value} {xs : List α} (hbl : ∀ b,Qn v' = some b → Qn v = some b ∨ w.heap.size ≤ b) (h : ∀ b,Qn u = some b → Qn v ≠ some b) (hu : Own e L w u xs) : ∀ b,Qn u = some b → Qn v' ≠ some b:=fun b hb e=>by
  rcases hbl b e with h1 | h1
  · exact h b hb h1
  · have:=hu.blk_lt hb; omega
theorem YY {v v' : Value} {w0 : World} (hbl : ∀ b,Qn v' = some b → Qn v = some b ∨ w.heap.size ≤ b) (h : ∀ b,Qn v = some b → w0.heap.size ≤ b) (hs : w0.heap.size ≤ w.heap.size) : ∀ b,Qn v' = some b → w0.heap.size ≤ b:=fun b hb=>by
  rcases hbl b hb with h1 | h1
  · exact h b h1
  · omega
theorem Qbc {u v : Value} (h : ∀ b,Qn u = some b → Qn v ≠ some b) : ∀ b,Qn v = some b → Qn u ≠ some b:=fun b hb e=>h b e hb
theorem YN (b : Nat) {p : Prop} (h : Qn (.slice none 0 0) = some b) : p:=by cases h
theorem Qfq {v : Value} {u : Value} (h : ∀ b,Qn u = some b → Qn v ≠ some b) : ∀ b,Qn u = some b → Avoids [v] b:=fun b hb=>XC (h b hb)
theorem Yv {v : Value} {b : Nat} (h : Qn v ≠ some b) : ∀ k,Qn v = some k → Avoids [.pointer (some ⟨b,0,none⟩)] k:=fun k hk=>Qu (fun e=>h (by rw [e]; exact hk))
theorem YJ {v : Value} {w0 : World} (h : Ext w0 w) (c : Chg [v] w w') (hf : ∀ b,Qn v = some b → w0.heap.size ≤ b) : Ext w0 w':=Chg.fresh h c (fun x hx n e=>by rcases List.mem_singleton.1 hx with rfl; exact hf n e)
theorem QG {b : Nat} {w0 : World} (h : Ext w0 w) (c : Chg [.pointer (some ⟨b,0,none⟩)] w w') (hf : w0.heap.size ≤ b) : Ext w0 w':=Chg.fresh h c (fun x hx n e=>by rcases List.mem_singleton.1 hx with rfl; simp [Qn] at e; omega)
end
end Go.Gw
namespace Go.Gw
def Yn {α : Type} (xs ys : List α) : Option (List α):=if xs.length + ys.length ≤ 1073741824 then some (xs ++ ys) else none
theorem Qpf {α : Type} {xs ys zs : List α} (h : Yn xs ys = some zs) : xs.length + ys.length ≤ 1073741824 ∧ zs = xs ++ ys:=by
  unfold Yn at h
  split at h
  · rename_i hc; exact ⟨hc,by cases h; rfl⟩
  · cases h
def quo (a b : Int) : Option Int:=if b = 0 then none else some (w64 (a.tdiv b))
def rem (a b : Int) : Option Int:=if b = 0 then none else some (a.tmod b)
theorem Qvs {a b c : Int} (h : quo a b = some c) : b ≠ 0 ∧ c = w64 (a.tdiv b):=by
  unfold quo at h; split at h
  · cases h
  · rename_i hb; exact ⟨hb,by cases h; rfl⟩
section
variable {P : Program} {n : Nat} {ρ : Env} {w : World}
variable {d : Option Nat} {t T U : TypeId} {p : String} {af : Array Edge} {gu : Option (Nat × Bool)} {x y z : Operand}
theorem Qfh {a b c : Int} (h : quo a b = some c) (hx : Qo n ρ x = .int .i64 a) (hy : Qo n ρ y = .int .i64 b) : Yl P n ρ ⟨d,.binOp .quo T x y U,t,p,af,gu⟩ w (.int .i64 c):=by
  obtain ⟨hb,rfl⟩:=Qvs h; exact Qof hb hx hy
theorem Qqg {α : Type} [Rep α] {e : TypeId} {bytes : Nat} {z : Value} {L : List Value} {len : Nat} {xs : List α} {cells : List Value} {parts : Array (Nat × Operand)} {K : Value → World → Prop}
    (hu : P.underlying T = some (.slice e)) (hi : EInfo P e (Rep.n α) bytes z) (hsmall : Nat.ble (len * Rep.n α) 16777216 = true)
    (hf : Zp (fun i=>some (i * Rep.n α,Rep.n α)) (JV z.cells.toList (len * Rep.n α)) (parts.toList.map fun q=>(q.1,Qo n ρ q.2)) = some cells)
    (hel : Elems L w cells xs) (hl : xs.length = len) (hlt : LtL L w)
    (h : ∀ b w',Ext w w' → SlRd L w' (.slice (some ⟨b,0,none⟩) len len) xs → K (.slice (some ⟨b,0,none⟩) len len) w') : Eff P ⟨d,.buildSlice T len parts,t,p,af,gu⟩ n ρ w K :=
  Qki hu hi hsmall hf hel hl fun b w' hb he _ ho _=>h b w' he (ho.rd fun k hk x hx e=>by
    have:=hlt x hx k e
    simp [Qn] at hk; omega)

theorem Qqe {α : Type} [Rep α] {e : TypeId} {bytes : Nat} {z : Value} {L : List Value} {len : Nat} {xs : List α} {cells : List Value} {parts : Array (Nat × Operand)} {K : Value → World → Prop}
    (hu : P.underlying T = some (.slice e)) (hi : EInfo P e (Rep.n α) bytes z) (hsmall : Nat.ble (len * Rep.n α) 16777216 = true)
    (hf : Zp (fun i=>some (i * Rep.n α,Rep.n α)) (JV z.cells.toList (len * Rep.n α)) (parts.toList.map fun q=>(q.1,Qo n ρ q.2)) = some cells)
    (hel : Elems L w cells xs) (hl : xs.length = len)
    (h : ∀ v w',Ext w w' → (∀ b,Qn v = some b → w.heap.size ≤ b) → Own e (v :: L) w' v xs → K v w') : Eff P ⟨d,.buildSlice T len parts,t,p,af,gu⟩ n ρ w K :=
  Qki hu hi hsmall hf hel hl fun _ w' hb he _ _ ho=>h _ w' he (fun k hk=>by simp [Qn] at hk; omega) ho

theorem Y7 {α : Type} [Rep α] {e : TypeId} {bytes : Nat} {zz : Value} {L : List Value} {v vx : Value} {xs ys zs : List α} {K : Value → World → Prop} {aT : Array TypeId}
    (hu : P.underlying T = some (.slice e)) (hi : EInfo P e (Rep.n α) bytes zz) (hbm : Nat.ble bytes 65536 = true) (hT : aT = #[T,T]) (hx : Qo n ρ x = v) (hy : Qo n ρ y = vx) (hown : Own e (v :: L) w v xs) (hs : SlRd (v :: L) w vx ys)
    (hz : Yn xs ys = some zs)
    (h : ∀ v' w',Chg [v] w w' → (∀ b,Qn v' = some b → Qn v = some b ∨ w.heap.size ≤ b) → Own e (v' :: L) w' v' zs → K v' w') : Eff P ⟨d,.call ⟨.builtin .append,#[x,y],aT⟩,t,p,af,gu⟩ n ρ w K:=by
  obtain ⟨hb,rfl⟩:=Qpf hz
  have hbm : bytes ≤ 65536:=by simpa using hbm
  have : (xs.length + ys.length) * bytes ≤ 1073741824 * 65536:=Nat.mul_le_mul hb hbm
  exact Qqc hu hi hT hx hy hown hs (by omega) (by unfold maxLen; omega) h
end
end Go.Gw
namespace Go.Gw
section
variable {P : Program} {n : Nat} {ρ : Env} {w : World}
variable {d : Option Nat} {t T U : TypeId} {p : String} {af : Array Edge} {gu : Option (Nat × Bool)} {x y z : Operand}
theorem YS {b : Bool} (h : b = false) : (!b) = true:=by subst h; rfl
theorem Q7 {α : Type} [Rep α] {e : TypeId} {L : List Value} {w2 : World} {v : Value} {xs : List α} {aT : Array TypeId} (hT : aT[0]? = some T) (hu : P.underlying T = some (.slice e)) (hs : SlRd L w2 v xs) (hx : Qo n ρ x = v) :
    Yl P n ρ ⟨d,.call ⟨.builtin .len,#[x],aT⟩,t,p,af,gu⟩ w (.int .i64 xs.length):=by
  obtain ⟨a,c,rfl,_⟩:=hs.shape; exact Qyp hT hu hx
structure ZI (P : Program) (T : TypeId) (cs : List Value) : Prop where
  ex : ∃ i z,P.info? T = some i ∧ i.zero = some z ∧ z.cells.toList = cs
theorem Q9 {cs : List Value} {K : Value → World → Prop} (hZ : ZI P T cs)
    (h : ∀ b w',b = w.heap.size → Ext w w' → Box w' b cs T → K (.pointer (some ⟨b,0,none⟩)) w') : Eff P ⟨d,.alloc T,t,p,af,gu⟩ n ρ w K:=by
  obtain ⟨i,z,hi,hz,hc⟩:=hZ.ex
  exact Qqb hi hz fun b w' hb he _ hB=>h b w' hb he (hc ▸ hB)
theorem Xb {v : Value} {cs : List Value} {K : Value → World → Prop} (hx : Qo n ρ x = v) (hc : v.cells.toList = cs)
    (h : ∀ b w',b = w.heap.size → Ext w w' → Box w' b cs T → K (.pointer (some ⟨b,0,none⟩)) w') : Eff P ⟨d,.box T x,t,p,af,gu⟩ n ρ w K :=
  Qqd hx fun b w' hb he _ hB=>h b w' hb he (hc ▸ hB)
theorem QR {v : Value} {b off : Nat} {cs cs' vs : List Value} {T' : TypeId} {K : Value → World → Prop} {k : Nat} (hs : Xs P T k) (hv : v.cells.toList = vs) (hk : vs.length = k) (hx : Qo n ρ x = .pointer (some ⟨b, off, none⟩)) (hy : Qo n ρ y = v)
    (hb : Box w b cs T') (hl : Nat.ble (off + k) cs.length = true) (h1 : ∀ u ∈ vs,u.oneCell' = true) (hcs : Ye cs off vs = cs')
    (h : ∀ w',Chg [.pointer (some ⟨b,0,none⟩)] w w' → Box w' b cs' T' → K undef w') : Eff P ⟨d,.store T x y,t,p,af,gu⟩ n ρ w K:=by
  subst hv; subst hk; subst hcs
  have e : v.cells.toList.length = v.cells.size:=by simp
  exact Qqk (by rw [← e]; exact hs) hx hy hb (by rw [← e]; simpa using hl) h1 h
theorem QI : ∀ u ∈ ([] : List Value),u.oneCell' = true:=fun _ h=>by cases h
theorem Qk {v : Value} {vs : List Value} (h : v.oneCell' = true) (hs : ∀ u ∈ vs,u.oneCell' = true) : ∀ u ∈ v :: vs,u.oneCell' = true:=fun u hu=>by
  rcases List.mem_cons.1 hu with rfl | hu
  · exact h
  · exact hs u hu
theorem SlRd.one1 {α : Type} [Rep α] {L : List Value} {v : Value} {xs : List α} (h : SlRd L w v xs) : v.oneCell' = true:=by obtain ⟨a,c,rfl,_⟩:=h.shape; rfl
theorem Own.one1 {α : Type} [Rep α] {e : TypeId} {L : List Value} {v : Value} {xs : List α} (h : Own e L w v xs) : v.oneCell' = true:=by obtain ⟨a,c,rfl,_⟩:=h.shape; rfl
theorem QC {L : List Value} {w' : World} {b : Nat} (he : Ext w w') (hb : b = w.heap.size) : Stepp L w (.pointer (some ⟨b,0,none⟩) :: L) w':=Stepp.add _ he (fun k hk=>by simp [Qn] at hk; omega)
theorem XD {L : List Value} (w : World) : Stepp L w (.slice none 0 0 :: L) w:=Stepp.add _ (Chg.refl [] _) (fun _ h=>by cases h)
theorem Q2 {b b' : Nat} {cs : List Value} {T : TypeId} (h : Box w b' cs T) (hb : b = w.heap.size) : b ≠ b':=fun e=>by have:=h.lt; omega
theorem Q6 {w0 : World} {b : Nat} (h : Ext w0 w) (hb : b = w.heap.size) : w0.heap.size ≤ b:=by rw [hb]; exact h.size

section
variable {i1 i2 i3 i4 i5 i6 i7 i8 i9 : Nat} {x1 x2 x3 x4 x5 x6 x7 x8 x9 : Operand} {v1 v2 v3 v4 v5 v6 v7 v8 v9 : Value}
end
end
end Go.Gw

end
section
namespace Go.Gw
open Go
section
variable {P : Program} {n : Nat} {q : Post} {ρ : Env} {w : World}
variable {d : Option Nat} {t T U : TypeId} {p : String} {af : Array Edge} {gu : Option (Nat × Bool)} {x y z : Operand}

theorem Qi {α : Type} {a x : α} (h : some a = some x) : a = x:=Option.some.inj h

theorem Xg {c : Code} (M : Env → World → Prop) (h : ∀ K : Env → World → Prop,(∀ ρ w,M ρ w → K ρ w) → WC P n c ⟨K,q.ex,q.ret⟩ ρ w) (h2 : ∀ ρ w,M ρ w → q.norm ρ w) : WC P n c q ρ w :=
  (h M fun _ _ h=>h).mono h2 (fun _ _ _ h=>h) (fun _ _ h=>h)

theorem Qwd {a b : Bool} (hu : P.underlying T = some .bool) : (Op.equal T (.bool a) (.bool b)).run P w = .ok (a == b) w:=by
  rw [Op.equal,show Op.maxDepth = 9999 + 1 from rfl,Op.equalIn]
  simp only [Sem.run_bind,run_underlying hu,Result.andThen]
  rfl
theorem Qyt {a b : Bool} (hu : P.underlying T = some .bool) (hx : Qo n ρ x = .bool a) (hy : Qo n ρ y = .bool b) : Yl P n ρ ⟨d,.binOp .neq T x y U,t,p,af,gu⟩ w (.bool (!(a == b))):=by
  simp [Yl,execOp,hx,hy,eqGuard,binOp,Qwd hu,Result.andThen]
theorem Qwc {X Y : Value} {r : Bool} (h : (Op.equalIn (9999 + 1) T X Y).run P w = .ok r w) : (Op.equal T X Y).run P w = .ok r w:=by
  rw [Op.equal,show Op.maxDepth = 9999 + 1 from rfl]; exact h
theorem Qob {X Y : Array Value} {r : Bool} (hg : P.eqGuardType P.depth T = false) (hx : Qo n ρ x = .agg X) (hy : Qo n ρ y = .agg Y) (h : (Op.equalIn (9999 + 1) T (.agg X) (.agg Y)).run P w = .ok r w) : Yl P n ρ ⟨d,.binOp .eql T x y U,t,p,af,gu⟩ w (.bool r):=by
  simp [Yl,execOp,hx,hy,eqGuard,binOp,Qwc h,hg,Result.andThen]
theorem Elems.cons {α : Type} [Rep α] {L : List Value} {cs rest : List Value} {x : α} {xs : List α} (h : Rep.rd L w cs x) (hs : Elems L w rest xs) : Elems L w (cs ++ rest) (x :: xs):=(Elems.one h).append hs

end
end Go.Gw
namespace Go.Gw
open Go
section
variable {P : Program} {T : TypeId}
theorem Yz {k : Nat} (h : (P.info? T).map (·.size) = some k) : Xs P T k:=by
  cases hi : P.info? T with
  | none=>simp [hi] at h
  | some i=>simp [hi] at h; exact ⟨i,hi,h⟩
theorem ZT {k : Nat} {dsc : TypeDesc} (hm : match dsc with | .struct _ | .array _ _=>True | _=>False) (hu : P.underlying T = some dsc) (h : (P.info? T).map (·.size) = some k) : Aggr P T k:=by
  obtain ⟨i,hi,hk⟩:=Yz h
  exact ⟨dsc,i,hu,hm,hi,hk⟩
theorem JC {k bytes : Nat} {z : Value} (h : (P.info? T).bind (fun i=>i.zero.map fun z=>(i.size,i.bytes,z)) = some (k,bytes,z)) (hz : z.cells.size = k) (hk : 0 < k) : EInfo P T k bytes z:=by
  cases hi : P.info? T with
  | none=>simp [hi] at h
  | some i =>
    simp only [hi,Ql,Option.map_eq_some_iff,Prod.mk.injEq] at h
    obtain ⟨z',h1,h2,h3,h4⟩:=h
    exact ⟨⟨i,hi,h2,h3,by rw [h1,h4],hz,hk⟩⟩
theorem J0 {places : List (Nat × Nat)} {zero : List Value} {fs : Array Field} (hu : P.underlying T = some (.struct fs)) (hz : (P.info? T).bind (fun i => i.zero.map fun z => z.cells) = some zero.toArray)
    (hp : fs.toList.mapM (fun f=>(P.info? f.type).map fun i=>(f.offset,i.size)) = some places) : BI P T places zero:=by
  cases hi : P.info? T with
  | none=>simp [hi] at hz
  | some i =>
    simp only [hi,Ql,Option.map_eq_some_iff] at hz
    obtain ⟨z,h1,h2⟩:=hz
    exact ⟨⟨i,fs,z,hi,hu,h1,h2,hp⟩⟩
theorem Y4 {cs : List Value} (hz : (P.info? T).bind (fun i=>i.zero.map fun z=>z.cells.toList) = some cs) : ZI P T cs:=by
  cases hi : P.info? T with
  | none=>simp [hi] at hz
  | some i =>
    simp only [hi,Ql,Option.map_eq_some_iff] at hz
    obtain ⟨z,h1,h2⟩:=hz
    exact ⟨⟨i,z,hi,h1,h2⟩⟩
end
end Go.Gw
namespace Go.Gw
open Go
theorem Xo {L : List Value} {w : World} {b : Nat} {cs : List Value} {T : TypeId} (h : LtL L w) (hB : Box w b cs T) : LtL (.pointer (some ⟨b,0,none⟩) :: L) w:=h.cons fun k hk=>by
  have e : b = k:=by simpa [Qn] using hk
  subst e; exact hB.lt
theorem Yr {α : Type} [Rep α] {e : TypeId} {L L' : List Value} {w : World} {v : Value} {xs : List α} (h : LtL L w) (hO : Own e L' w v xs) : LtL (v :: L) w:=h.cons fun _ hk=>hO.blk_lt hk
end Go.Gw
namespace Go.Gw
open Go
theorem X9 {v : Value} (h : v.oneCell' = true) : v.cells.toList = [v]:=by
  cases v <;> first | rfl | cases h

def Z9 (place : Nat → Option (Nat × Nat)) (cells : List Value) : List (Nat × List Value) → Option (List Value)
  | []=>some cells
  | (i,vs) :: rest =>
    match place i with
    | none=>none
    | some (off,size)=>bif Nat.beq vs.length size && Nat.ble (off + vs.length) cells.length then Z9 place (Ye cells off vs) rest else none
theorem Qkt (place : Nat → Option (Nat × Nat)) : ∀ (pv : List (Nat × Value)) (cells : List Value),Zp place cells pv = Z9 place cells (pv.map fun q=>(q.1,q.2.cells.toList))
  | [],_=>rfl
  | (i,v) :: rest,cells=>by
    simp only [Zp,Z9,List.map_cons]
    cases place i with
    | none=>rfl
    | some p=>simp only [Qkt place rest]

section
variable {P : Program} {n : Nat} {q : Post} {ρ : Env} {w : World}
variable {d : Option Nat} {t T U : TypeId} {p : String} {af : Array Edge} {gu : Option (Nat × Bool)} {x y z : Operand}
def PC (n : Nat) (ρ : Env) (parts : List (Nat × Operand)) (pc : List (Nat × List Value)) : Prop:=parts.map (fun q=>(q.1,(Qo n ρ q.2).cells.toList)) = pc
theorem Q1 : PC n ρ [] []:=rfl
theorem QB {i : Nat} {v : Value} {cs : List Value} {ps : List (Nat × Operand)} {pc : List (Nat × List Value)} (h : Qo n ρ x = v) (hc : v.cells.toList = cs) (hs : PC n ρ ps pc) : PC n ρ ((i,x) :: ps) ((i,cs) :: pc):=by
  subst h; subst hc; unfold PC at hs ⊢; rw [List.map_cons,hs]
theorem PC.fill {parts : List (Nat × Operand)} {pc : List (Nat × List Value)} {place : Nat → Option (Nat × Nat)} {cells out : List Value} (h : PC n ρ parts pc) (hf : Z9 place cells pc = some out) : Zp place cells (parts.map fun q=>(q.1,Qo n ρ q.2)) = some out:=by
  rw [Qkt,List.map_map]; unfold PC at h; rw [← hf,← h]; rfl
theorem YA {cells zero : List Value} {places : List (Nat × Nat)} {parts : List (Nat × Operand)} {pc : List (Nat × List Value)} (hB : BI P T places zero) (hp : PC n ρ parts pc) (h : Z9 (places[·]?) zero pc = some cells) :
    Yl P n ρ ⟨d,.build T parts.toArray,t,p,af,gu⟩ w (.agg cells.toArray):=Qyk hB (hp.fill h)
theorem Xm {α : Type} [Rep α] {e : TypeId} {bytes : Nat} {z : Value} {L : List Value} {len : Nat} {xs : List α} {cells : List Value} {parts : List (Nat × Operand)} {pc : List (Nat × List Value)} {K : Value → World → Prop}
    (hu : P.underlying T = some (.slice e)) (hi : EInfo P e (Rep.n α) bytes z) (hsmall : Nat.ble (len * Rep.n α) 16777216 = true)
    (hp : PC n ρ parts pc) (hf : Z9 (fun i=>some (i * Rep.n α,Rep.n α)) (JV z.cells.toList (len * Rep.n α)) pc = some cells)
    (hel : Elems L w cells xs) (hl : xs.length = len) (hlt : LtL L w)
    (h : ∀ b w',Ext w w' → SlRd L w' (.slice (some ⟨b,0,none⟩) len len) xs → K (.slice (some ⟨b,0,none⟩) len len) w') : Eff P ⟨d,.buildSlice T len parts.toArray,t,p,af,gu⟩ n ρ w K :=
  Qqg hu hi hsmall (hp.fill hf) hel hl hlt h
theorem Qqf {α : Type} [Rep α] {e : TypeId} {bytes : Nat} {z : Value} {L : List Value} {len : Nat} {xs : List α} {cells : List Value} {parts : List (Nat × Operand)} {pc : List (Nat × List Value)} {K : Value → World → Prop}
    (hu : P.underlying T = some (.slice e)) (hi : EInfo P e (Rep.n α) bytes z) (hsmall : Nat.ble (len * Rep.n α) 16777216 = true)
    (hp : PC n ρ parts pc) (hf : Z9 (fun i=>some (i * Rep.n α,Rep.n α)) (JV z.cells.toList (len * Rep.n α)) pc = some cells)
    (hel : Elems L w cells xs) (hl : xs.length = len)
    (h : ∀ v w',Ext w w' → (∀ b,Qn v = some b → w.heap.size ≤ b) → Own e (v :: L) w' v xs → K v w') : Eff P ⟨d,.buildSlice T len parts.toArray,t,p,af,gu⟩ n ρ w K :=
  Qqe hu hi hsmall (hp.fill hf) hel hl h
end
end Go.Gw
namespace Go.Gw
open Go
section
variable {P : Program} {n : Nat} {ρ : Env} {w : World}
variable {d : Option Nat} {t T U : TypeId} {p : String} {af : Array Edge} {gu : Option (Nat × Bool)} {x y z : Operand}
theorem J3 {f : FuncId} {fn : Func} {c : Code} {xs : Array Operand} {aT : Array TypeId} {args : List Value} {K Φ : Value → World → Prop} (hy : Qo n ρ y = .func (.func f) #[] #[]) (hf : P.funcs[f]? = some fn) (hname : (fn.name == "runtime.NumGoroutine") = false) (hb : fn.body = some c)
    (ha : (xs.map (Qo n ρ)).toList = args) (hc : CallsTo P f args w Φ) (h : ∀ v w',Φ v w' → K v w') : Eff P ⟨d,.call ⟨.value y,xs,aT⟩,t,p,af,gu⟩ n ρ w K:=by
  have e : xs.map (Qo n ρ) = args.toArray:=by rw [← ha]
  have : (execOp (Qo n ρ) ⟨d,.call ⟨.value y,xs,aT⟩,t,p,af,gu⟩).run P w = .ok (.enter f args.toArray) w:=by
    simp [execOp,resolve,Deferred.ofValue,invoke,e,hy,MuLone.run_callFunc_enter hf hname hb]
  simp only [Eff,this]
  exact CallsTo.mono hc h
theorem At.elem {a : Addr} {cs : List Value} {i : Nat} {u : Value} (h : At w a cs) (hi : cs[i]? = some u) : At w (a.add (i * 1)) [u]:=by
  have h2:=(At.drop h i).take 1
  rw [Nat.mul_one]
  obtain ⟨hl,he⟩:=List.getElem?_eq_some_iff.1 hi
  have : (cs.drop i).take 1 = [u]:=by rw [List.drop_eq_getElem_cons hl]; simp [he]
  rwa [this] at h2
end
end Go.Gw
namespace Go.Gw
open Go
theorem J6 {xs : List Int} {i el : Int} (h : idx xs i = some el) : i < xs.length:=by obtain ⟨h0,h1,_⟩:=YF h; omega
end Go.Gw

end
section
namespace Go.Gw
open Go
section
variable {P : Program} {n : Nat} {ρ : Env} {w : World}
variable {d : Option Nat} {t T U : TypeId} {p : String} {af : Array Edge} {gu : Option (Nat × Bool)} {x y z : Operand}

theorem Qfe {cells zero : List Value} {m e sz : Nat} {parts : List (Nat × Operand)} {pc : List (Nat × List Value)} (hu : P.underlying T = some (.array m e)) (hs : Xs P e sz) (hz : ZI P T zero) (hp : PC n ρ parts pc)
    (h : Z9 (fun i=>some (i * sz,sz)) zero pc = some cells) : Yl P n ρ ⟨d,.build T parts.toArray,t,p,af,gu⟩ w (.agg cells.toArray):=by
  obtain ⟨it,z,h1,h3,h4⟩:=hz.ex
  obtain ⟨ie,he,hsz⟩:=hs
  have h' : P.built T (parts.toArray.map fun (i,x)=>(i,Qo n ρ x)).toList = some cells.toArray:=by
    simp only [Program.built,h1,hu,h3,he,hsz]
    have:=Qcv _ _ _ (hp.fill h)
    have hz' : z.cells = zero.toArray:=by rw [← h4]
    rw [hz',Array.toList_map]
    simpa using this
  simp only [Yl,execOp,Sem.run_bind,run_build w T _ _ h',Result.andThen,Sem.run_pure]

theorem Xk {e m sz : Nat} {k : IntKind} {i : Int} {a : Addr} {v : Value} (hu : P.underlying T = some (.array m e)) (hs : Xs P e sz) (h0 : 0 ≤ i) (h1 : i < m) (hx : Qo n ρ x = .pointer (some a)) (hy : Qo n ρ y = .int k i)
    (hv : v = .pointer (some (a.add (i.toNat * sz)))) : Yl P n ρ ⟨d,.indexAddr T x y,t,p,af,gu⟩ w v:=by subst hv; exact JT hu hs h0 h1 hx hy

theorem Qnd {cs : List Value} {off : Nat} {v : Value} (hT : YB P T) (h : cs[off]? = some v) : (part T cs.toArray off).run P w = .ok v w:=by
  simp [part,Qih hT,h]
theorem Qyn {m e : Nat} {k : IntKind} {i el : Int} {xs : List Int} {ke : IntKind} (hu : P.underlying T = some (.array m e)) (hs : YB P e) (hz : Xs P e 1) (hl : xs.length = m) (hx : Qo n ρ x = .agg (xs.map (Value.int ke)).toArray) (hy : Qo n ρ y = .int k i)
    (h : idx xs i = some el) : Yl P n ρ ⟨d,.index T x y,t,p,af,gu⟩ w (.int ke el):=by
  obtain ⟨h0,h1,h2⟩:=YF h
  have hp : (part e (xs.map (Value.int ke)).toArray (i.toNat * 1)).run P w = .ok (.int ke el) w:=Qnd hs (by rw [Nat.mul_one,List.getElem?_map,h2]; rfl)
  have h1' : i < (m : Int):=by omega
  simp [Yl,execOp,hx,hy,Instr.index,asIntOf,run_underlying hu,h0,h1',Zh hz] at hp ⊢
  simp [hp]

def Jj {α : Type} (i : Nat) (v : α) : Nat → List α → List α
  | _,[]=>[]
  | k,x :: xs=>(bif Nat.beq i k then v else x) :: Jj i v (k + 1) xs
theorem Qwm {α : Type} (i : Nat) (v : α) : ∀ (xs : List α) (k : Nat),Jj (i + k) v k xs = xs.set i v:=by
  intro xs
  induction xs generalizing i with
  | nil=>intro k; rfl
  | cons x xs ih =>
    intro k
    cases i with
    | zero =>
      simp only [Jj,List.set_cons_zero,Nat.zero_add,Qbx,cond_true]
      congr 1
      have key : ∀ (ys : List α) (j : Nat),k < j → Jj k v j ys = ys:=by
        intro ys
        induction ys with
        | nil=>intro j _; rfl
        | cons y ys ih'=>intro j hj; simp only [Jj]; rw [ZW (by omega),ih' (j + 1) (by omega)]; rfl
      exact key xs (k + 1) (by omega)
    | succ i =>
      simp only [Jj,List.set_cons_succ]
      rw [ZW (by omega)]
      have:=ih i (k + 1)
      rw [show i + (k + 1) = i + 1 + k by omega] at this
      rw [this]; rfl
theorem Qwn {α : Type} (i : Nat) (v : α) (xs : List α) : xs.set i v = Jj i v 0 xs:=(Qwm i v xs 0).symm

theorem Qkl {b : Nat} {i el v : Int} {xs ys : List Int} {ke : IntKind} {cs : List Value} {T' : TypeId} {K : Value → World → Prop} (hs : Xs P T 1) (hx : Qo n ρ x = .pointer (some (Addr.add ⟨b, 0, none⟩ (i.toNat * 1)))) (hy : Qo n ρ y = .int ke v)
    (hi : idx xs i = some el) (hcs : cs = xs.map (Value.int ke)) (hb : Box w b cs T') (hys : Jj i.toNat v 0 xs = ys)
    (h : ∀ w',Chg [.pointer (some ⟨b,0,none⟩)] w w' → Box w' b (ys.map (Value.int ke)) T' → K undef w') : Eff P ⟨d,.store T x y,t,p,af,gu⟩ n ρ w K:=by
  obtain ⟨h0,h1,h2⟩:=YF hi
  subst hcs
  rw [YW,Nat.mul_one,Nat.zero_add] at hx
  refine QR (vs:=[.int ke v]) (k:=1) hs rfl rfl hx hy hb (by simp [Nat.ble_eq]; omega) (by simp [Value.oneCell']) (cs':=ys.map (Value.int ke)) ?_ h
  rw [← hys,← Qwn]
  simp [Ye,List.map_set]
end
end Go.Gw

end
