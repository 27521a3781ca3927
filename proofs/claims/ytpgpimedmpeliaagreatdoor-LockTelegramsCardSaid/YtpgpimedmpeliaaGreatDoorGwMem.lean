/- Laws of the walk. Condition: each theorem says its own. -/
import Derived.Test.YtpgpimedmpeliaaGreatDoorGwCore
import Derived.Laws.AppendOwn
import Derived.Laws.Cells
import Derived.Laws.OwnMore
import Derived.Laws.Tables
import Derived.Laws.Slices
import Derived.Great.BuildSlice
import Derived.Below
import Derived.Conc.MuLone
import Derived.Laws.Strings
import Derived.Laws.StructEq
import Derived.Laws.Build
import Derived.Laws.Entries
import Derived.Laws.NewBlocks
set_option linter.unusedVariables false
set_option linter.unusedSimpArgs false
set_option linter.unusedSectionVars false
section
namespace Go.Gw
open Go

def Qj:Value→Option Nat
  | .pointer (some a)=>some a.block
  | .slice (some a) _ _=>some a.block
  | _=>none

def Avoids (L:List Value) (b:Nat):Prop:=∀ h∈L,Qj h≠some b

structure Chg (H:List Value) (w w':World):Prop where
  os:w'.os=w.os
  tape:w'.tape=w.tape
  output:w'.output=w.output
  size:w.heap.size≤w'.heap.size
  block:∀ b,b < w.heap.size→Avoids H b→w'.heap[b]?=w.heap[b]?

abbrev Ext (w w':World):Prop:=Chg [] w w'

theorem Avoids.nil (b:Nat):Avoids [] b:=fun _ h=>by cases h
theorem Avoids.mono {L L':List Value} {b:Nat} (h:Avoids L b) (hs:∀ x∈L',x∈L):Avoids L' b:=fun x hx=>h x (hs x hx)
theorem Avoids.cons {L:List Value} {b:Nat} {v:Value} (h:Avoids L b) (hv:Qj v≠some b):Avoids (v::L) b:=fun x hx=>by
  rcases List.mem_cons.1 hx with rfl | hx
  · exact hv
  · exact h x hx

theorem Chg.refl (H:List Value) (w:World):Chg H w w:=⟨rfl,rfl,rfl,Nat.le_refl _,fun _ _ _=>rfl⟩
theorem Chg.trans {H:List Value} {a b c:World} (h:Chg H a b) (k:Chg H b c):Chg H a c :=
  ⟨k.os.trans h.os,k.tape.trans h.tape,k.output.trans h.output,Nat.le_trans h.size k.size,fun i hi hA=>(k.block i (Nat.lt_of_lt_of_le hi h.size) hA).trans (h.block i hi hA)⟩
theorem Chg.mono {H H':List Value} {w w':World} (h:Chg H w w') (hs:∀ x∈H,x∈H'):Chg H' w w':=⟨h.os,h.tape,h.output,h.size,fun b hb hA=>h.block b hb (hA.mono hs)⟩
theorem Chg.fresh {H:List Value} {a b c:World} (h:Ext a b) (k:Chg H b c) (hf:∀ x∈H,∀ n,Qj x=some n→a.heap.size≤n):Ext a c :=
  ⟨k.os.trans h.os,k.tape.trans h.tape,k.output.trans h.output,Nat.le_trans h.size k.size,fun i hi _=>(k.block i (Nat.lt_of_lt_of_le hi h.size) (fun x hx e=>by have:=hf x hx i e;omega)).trans (h.block i hi (Avoids.nil _))⟩

theorem Ext.drew (w:World):Ext w { w with drawn:=w.drawn+1 }:=⟨rfl,rfl,rfl,Nat.le_refl _,fun _ _ _=>rfl⟩
theorem Ext.alloc (w:World) (o:Obj):Ext w { w with heap:=w.heap.push o } :=
  ⟨rfl,rfl,rfl,by simp,fun b hb _=>by rw [Array.getElem?_push_lt hb,Array.getElem?_eq_getElem hb]⟩
theorem Ext.below {w w':World} (h:Ext w w'):Go.RowKit.Below w.heap.size w w':=⟨h.os,h.tape,h.output,h.size,fun k hk=>h.block k hk (Avoids.nil _)⟩
theorem Chg.of_grown {w w':World} {v:Value} (h:w.grownBy w' v.ownBlock):Chg [v] w w' :=
  ⟨h.os,h.tape,h.output,h.size,fun b hb hA=>h.block b hb (fun e=>by
    have:=hA v (by simp)
    cases v<;>simp [Value.ownBlock] at e
    rename_i a _ _
    cases a<;>simp at e
    exact this (by simp [Qj,e]))⟩

theorem Ys {w:World} {b:Nat} {o:Obj} (h:w.heap[b]?=some o):b < w.heap.size:=(Array.getElem?_eq_some_iff.1 h).1

theorem Rel.ext {w w1:World} (h:Rel w w1):Ext w w1:=⟨h.os,h.tape,h.output,h.size,fun b hb _=>h.block b hb⟩

/-! ### A step: handles L become L' -/
structure Stepp (L:List Value) (w:World) (L':List Value) (w':World):Prop where
  keeps:∀ {b:Nat} {cs:Array Value} {e:TypeId} {fz:Nat×Nat},w.heap[b]?=some (.cells cs e fz)→Avoids L b→(∃ fz',w'.heap[b]?=some (.cells cs e fz'))∧Avoids L' b

theorem Stepp.of {L L':List Value} {w w':World} (chg:Chg L w w') (new:∀ x∈L',∀ b,Qj x=some b→¬ Avoids L b∨w.heap.size≤b):Stepp L w L' w' :=
  ⟨fun {b cs e fz} h hA=>⟨⟨fz,(chg.block b (Ys h) hA).trans h⟩,fun x hx e=>by
    rcases new x hx b e with h1 | h1
    · exact h1 hA
    · have:=Ys h;omega⟩⟩

theorem ZZ {L:List Value} {x:Value} {b:Nat} (hx:x∈L) (e:Qj x=some b):¬ Avoids L b:=fun h=>h x hx e

theorem Stepp.ext {L:List Value} {w w':World} (h:Ext w w'):Stepp L w L w':=.of (h.mono (fun _ h=>by cases h)) fun _ hx _ e=>.inl (ZZ hx e)
theorem Stepp.sub {L L':List Value} (w:World) (hs:∀ x∈L',x∈L):Stepp L w L' w:=.of (Chg.refl _ _) fun _ hx _ e=>.inl (ZZ (hs _ hx) e)
theorem Stepp.add {L:List Value} {w w':World} (x:Value) (h:Ext w w') (hx:∀ b,Qj x=some b→w.heap.size≤b):Stepp L w (x::L) w' :=
  .of (h.mono (fun _ h=>by cases h)) fun y hy b e=>by
    rcases List.mem_cons.1 hy with rfl | hy
    · exact .inr (hx b e)
    · exact .inl (ZZ hy e)
theorem Qo {L:List Value} {w w':World} {x:Value} (h:Chg [x] w w') (hx:x∈L):Stepp L w L w' :=
  .of (h.mono (fun y hy=>by rcases List.mem_cons.1 hy with rfl | hy;exact hx;cases hy)) fun _ hx _ e=>.inl (ZZ hx e)
theorem Stepp.swap {L:List Value} {w w':World} {v v':Value} (h:Chg [v] w w') (hv:∀ b,Qj v'=some b→Qj v=some b∨w.heap.size≤b):Stepp (v::L) w (v'::L) w' :=
  .of (h.mono (fun y hy=>by rcases List.mem_cons.1 hy with rfl | hy;simp;cases hy)) fun y hy b e=>by
    rcases List.mem_cons.1 hy with rfl | hy
    · rcases hv b e with h | h
      · exact .inl (ZZ (List.mem_cons_self ..) h)
      · exact .inr h
    · exact .inl (ZZ (List.mem_cons_of_mem _ hy) e)
theorem Stepp.trans {L L1 L':List Value} {w w1 w':World} (s:Stepp L w L1 w1) (k:Stepp L1 w1 L' w'):Stepp L w L' w' :=
  ⟨fun h hA=>by
    obtain ⟨⟨fz,h1⟩,h2⟩:=s.keeps h hA
    exact k.keeps h1 h2⟩

/-! ### Readings -/
class Rep (α:Type) where
  n:Nat
  rd:List Value→World→List Value→α→Prop
  len:∀ {L w cs d},rd L w cs d→cs.length=n
  one:∀ {L w cs d},rd L w cs d→∀ u∈cs,u.oneCell'=true
  step:∀ {L w L' w' cs d},Stepp L w L' w'→rd L w cs d→rd L' w' cs d

instance:Rep Int:=⟨1,fun _ _ cs d=>cs=[.int .i64 d],fun h=>by subst h;rfl,fun h=>by subst h;simp [Value.oneCell'],fun _ h=>h⟩
instance:Rep Bool:=⟨1,fun _ _ cs d=>cs=[.bool d],fun h=>by subst h;rfl,fun h=>by subst h;simp [Value.oneCell'],fun _ h=>h⟩
instance:Rep ByteArray:=⟨1,fun _ _ cs d=>cs=[.string d],fun h=>by subst h;rfl,fun h=>by subst h;simp [Value.oneCell'],fun _ h=>h⟩

def Elems {α:Type} [Rep α] (L:List Value) (w:World) (cells:List Value) (xs:List α):Prop :=
  cells.length=xs.length * Rep.n α∧∀ i x,xs[i]?=some x→Rep.rd L w ((cells.drop (i * Rep.n α)).take (Rep.n α)) x

theorem Elems.step {α:Type} [Rep α] {L L':List Value} {w w':World} {cells:List Value} {xs:List α} (s:Stepp L w L' w') (h:Elems L w cells xs):Elems L' w' cells xs :=
  ⟨h.1,fun i x hx=>Rep.step s (h.2 i x hx)⟩

theorem Elems.nil {α:Type} [Rep α] {L:List Value} {w:World}:Elems L w [] ([]:List α):=⟨by simp,fun i x h=>by simp at h⟩

theorem Elems.append {α:Type} [Rep α] {L:List Value} {w:World} {c1 c2:List Value} {xs ys:List α} (h1:Elems L w c1 xs) (h2:Elems L w c2 ys):Elems L w (c1++c2) (xs++ys):=by
  refine ⟨by simp [h1.1,h2.1,Nat.add_mul],fun i x hx=>?_⟩
  by_cases hi:i < xs.length
  · rw [List.getElem?_append_left hi] at hx
    have hle:i * Rep.n α+Rep.n α≤c1.length:=by
      rw [h1.1,← Nat.succ_mul];exact Nat.mul_le_mul_right _ hi
    rw [List.drop_append_of_le_length (by omega),List.take_append_of_le_length (by simp;omega)]
    exact h1.2 i x hx
  · have hi:=Nat.le_of_not_lt hi
    rw [List.getElem?_append_right hi] at hx
    have:=h2.2 _ x hx
    rw [List.drop_append,List.drop_eq_nil_of_le (by rw [h1.1];exact Nat.mul_le_mul_right _ hi),List.nil_append,h1.1,← Nat.sub_mul]
    exact this

theorem Elems.one {α:Type} [Rep α] {L:List Value} {w:World} {cs:List Value} {x:α} (h:Rep.rd L w cs x):Elems L w cs [x]:=by
  refine ⟨by simp [Rep.len h],fun i y hy=>?_⟩
  cases i with
  | zero=>simp at hy;subst hy;simp [← Rep.len h];exact h
  | succ i=>simp at hy

theorem Elems.cells1 {α:Type} [Rep α] {L:List Value} {w:World} {cs:List Value} {xs:List α} (h:Elems L w cs xs):∀ u∈cs,u.oneCell'=true:=by
  intro u hu
  obtain ⟨k,hk,rfl⟩:=List.getElem_of_mem hu
  rcases Nat.eq_zero_or_pos (Rep.n α) with h0 | h0
  · rw [h.1,h0] at hk;omega
  · have hi:k / Rep.n α < xs.length:=by rw [h.1] at hk;exact Nat.div_lt_of_lt_mul (by rwa [Nat.mul_comm] at hk)
    have:=Rep.one (h.2 (k / Rep.n α) _ (List.getElem?_eq_getElem hi)) (cs[k])
    refine this ?_
    have hm:=Nat.mod_lt k h0
    have hd:=Nat.div_add_mod k (Rep.n α)
    rw [Nat.mul_comm] at hd
    refine List.mem_of_getElem? (i:=k % Rep.n α) ?_
    rw [List.getElem?_take_of_lt hm,List.getElem?_drop,hd,List.getElem?_eq_getElem hk]

def SlRd {α:Type} [Rep α] (L:List Value) (w:World) (v:Value) (xs:List α):Prop :=
  (∃ a0,v=.slice a0 0 0∧xs=[]) ∨
  ∃ b off cap cur e fz,v=.slice (some ⟨b,off,none⟩) xs.length cap∧w.heap[b]?=some (.cells cur e fz)∧Avoids L b∧xs.length≤cap∧cap≤maxLen ∧
    off+cap * Rep.n α≤cur.size∧Elems L w ((cur.toList.drop off).take (xs.length * Rep.n α)) xs

theorem SlRd.step {α:Type} [Rep α] {L L':List Value} {w w':World} {v:Value} {xs:List α} (s:Stepp L w L' w') (h:SlRd L w v xs):SlRd L' w' v xs:=by
  rcases h with h | ⟨b,off,cap,cur,e,fz,h1,h2,h3,h4,h5,h6,h7⟩
  · exact .inl h
  · obtain ⟨⟨fz',k1⟩,k2⟩:=s.keeps h2 h3
    exact .inr ⟨b,off,cap,cur,e,fz',h1,k1,k2,h4,h5,h6,h7.step s⟩

theorem SlRd.nil {α:Type} [Rep α] (L:List Value) (w:World):SlRd L w (.slice none 0 0) ([]:List α):=.inl ⟨none,rfl,rfl⟩

instance {α:Type} [Rep α]:Rep (List α):=⟨1,fun L w cs xs=>∃ v,cs=[v]∧SlRd L w v xs,fun ⟨_,h,_⟩=>by subst h;rfl,
  fun ⟨v,h,hs⟩=>by
    subst h
    rcases hs with ⟨_,rfl,_⟩ | ⟨b,off,cap,cur,e,fz,rfl,_⟩<;>simp [Value.oneCell'],
  fun s ⟨v,h,hs⟩=>⟨v,h,hs.step s⟩⟩

theorem SlRd.shape {α:Type} [Rep α] {L:List Value} {w:World} {v:Value} {xs:List α} (h:SlRd L w v xs):∃ a cap,v=.slice a xs.length cap∧xs.length≤maxLen:=by
  rcases h with ⟨a0,rfl,rfl⟩ | ⟨b,off,cap,cur,e,fz,rfl,_,_,h4,h5,_⟩
  · exact ⟨a0,0,rfl,Nat.zero_le _⟩
  · exact ⟨_,cap,rfl,Nat.le_trans h4 h5⟩

/-! ### Cells at an address -/
def At (w:World) (a:Addr) (cs:List Value):Prop:=a.spot=none∧∀ j v,cs[j]?=some v→w.cell? (a.add j)=some v

theorem Yq (b o k:Nat):(Addr.add ⟨b,o,none⟩ k)=⟨b,o+k,none⟩:=by
  unfold Addr.add;split
  · subst_vars;rfl
  · rfl
theorem Qum {a:Addr} (h:a.spot=none):a=⟨a.block,a.off,none⟩:=by cases a;simp at h;subst h;rfl
theorem Qhs {a:Addr} (h:a.spot=none) (k:Nat):a.add k=⟨a.block,a.off+k,none⟩:=by rw [Qum h,Yq]

theorem At.ext {w w':World} {a:Addr} {cs:List Value} (e:Ext w w') (h:At w a cs):At w' a cs:=⟨h.1,fun j v hv=>by
  have:=h.2 j v hv
  rw [Qhs h.1] at this ⊢
  have hb:a.block < w.heap.size:=by
    unfold World.cell? at this
    split at this
    · rename_i hh;exact Ys hh
    · cases this
  rw [World.cell?_of_block (w:=w) (w':=w') (a:=⟨a.block,a.off+j,none⟩) (e.block _ hb (Avoids.nil _))]
  exact this⟩

theorem At.drop {w:World} {a:Addr} {cs:List Value} (h:At w a cs) (k:Nat):At w (a.add k) (cs.drop k):=⟨by rw [Qhs h.1],fun j v hv=>by
  rw [List.getElem?_drop] at hv
  have:=h.2 _ v hv
  rw [Qhs h.1] at this ⊢
  rw [Yq]
  rwa [← Nat.add_assoc] at this⟩

theorem At.take {w:World} {a:Addr} {cs:List Value} (h:At w a cs) (k:Nat):At w a (cs.take k):=⟨h.1,fun j v hv=>by
  by_cases hj:j < k
  · rw [List.getElem?_take_of_lt hj] at hv;exact h.2 j v hv
  · rw [List.getElem?_eq_none (by simp;omega)] at hv;cases hv⟩

theorem At.of_block {w:World} {b off:Nat} {cur:Array Value} {e:TypeId} {fz:Nat×Nat} {cs:List Value} (h:w.heap[b]?=some (.cells cur e fz)) (hc:∀ j v,cs[j]?=some v→cur[off+j]?=some v):At w ⟨b,off,none⟩ cs :=
  ⟨rfl,fun j v hv=>by rw [Yq];simp [World.cell?,h,hc j v hv]⟩

def Box (w:World) (b:Nat) (cs:List Value) (T:TypeId):Prop:=w.heap[b]?=some (.cells cs.toArray T (0,0))

theorem Box.at {w:World} {b:Nat} {cs:List Value} {T:TypeId} (h:Box w b cs T):At w ⟨b,0,none⟩ cs:=At.of_block h (fun j v hv=>by simpa using hv)
theorem Box.lt {w:World} {b:Nat} {cs:List Value} {T:TypeId} (h:Box w b cs T):b < w.heap.size:=Ys h
theorem Box.chg {w w':World} {b:Nat} {cs:List Value} {T:TypeId} {H:List Value} (h:Box w b cs T) (c:Chg H w w') (hA:Avoids H b):Box w' b cs T:=(c.block b h.lt hA).trans h
theorem Box.ext {w w':World} {b:Nat} {cs:List Value} {T:TypeId} (h:Box w b cs T) (c:Ext w w'):Box w' b cs T:=h.chg c (Avoids.nil _)

/-! ### A slice of the call's own -/
def Own {α:Type} [Rep α] (e:TypeId) (L:List Value) (w:World) (v:Value) (xs:List α):Prop :=
  ∃ cells,w.ownsRow 0 e (Rep.n α) v xs.length cells∧Elems L w cells xs

theorem QFl (v:Value) (hv:∃ a n c,v=.slice a n c):v.ownBlock=Qj v:=by
  obtain ⟨a,n,c,rfl⟩:=hv
  cases a<;>rfl

theorem Own.shape {α:Type} [Rep α] {e:TypeId} {L:List Value} {w:World} {v:Value} {xs:List α} (h:Own e L w v xs):∃ a cap,v=.slice a xs.length cap∧xs.length≤maxLen:=by
  obtain ⟨cells,⟨_,h⟩,_⟩:=h
  rcases h with ⟨rfl,h⟩ | ⟨g,cap,cur,rfl,_,_,h4,h5,_⟩
  · exact ⟨none,0,by rw [h],by rw [h];exact Nat.zero_le _⟩
  · exact ⟨_,cap,rfl,Nat.le_trans h4 h5⟩

theorem Own.nil {α:Type} [Rep α] (e:TypeId) (L:List Value) (w:World):Own e L w (.slice none 0 0) ([]:List α):=⟨[],World.ownsRow_nil w 0 e _,Elems.nil⟩

theorem Own.blk_lt {α:Type} [Rep α] {e:TypeId} {L:List Value} {w:World} {v:Value} {xs:List α} (h:Own e L w v xs) {b:Nat} (hb:Qj v=some b):b < w.heap.size:=by
  obtain ⟨a,cap,hv,_⟩:=h.shape
  obtain ⟨cells,ho,_⟩:=h
  exact (World.ownsRow.lt ho b (by rw [QFl v ⟨_,_,_,hv⟩];exact hb)).2

theorem Own.step {α:Type} [Rep α] {e:TypeId} {L L':List Value} {w w':World} {v:Value} {xs:List α} (s:Stepp L w L' w') (h:Own e L w v xs) {H:List Value} (c:Chg H w w') (hA:∀ b,Qj v=some b→Avoids H b):Own e L' w' v xs:=by
  obtain ⟨cells,⟨h0,h⟩,hel⟩:=h
  refine ⟨cells,⟨h0,?_⟩,hel.step s⟩
  rcases h with h | ⟨g,cap,cur,rfl,h2,h3,h4⟩
  · exact .inl h
  · exact .inr ⟨g,cap,cur,rfl,h2,(c.block g (Ys h3) (hA g rfl)).trans h3,h4⟩

theorem Own.rd {α:Type} [Rep α] {e:TypeId} {L:List Value} {w:World} {v:Value} {xs:List α} (h:Own e L w v xs) (hA:∀ b,Qj v=some b→Avoids L b):SlRd L w v xs:=by
  obtain ⟨cells,⟨h0,h⟩,hel⟩:=h
  rcases h with ⟨rfl,h⟩ | ⟨g,cap,cur,rfl,h2,h3,h4,h5,h6,h7⟩
  · exact .inl ⟨none,rfl,List.length_eq_zero_iff.1 h⟩
  · refine .inr ⟨g,0,cap,cur,e,(0,0),rfl,h3,hA g rfl,h4,h5,by omega,?_⟩
    rw [List.drop_zero,h7]
    exact hel

end Go.Gw

end
section
set_option linter.unusedSectionVars false
namespace Go.Gw
open Go

section
variable {P:Program} [JD P] {n:Nat} {ρ:Env} {w:World}

def Yl (P:Program) (n:Nat) (ρ:Env) (o:Oper) (w:World) (v:Value):Prop:=Fr P (execOp (Qk n ρ) o) w∧∀ w1,Rel w w1→(execOp (Qk n ρ) o).run P w1=.ok (.value v) w1
theorem XM {o:Oper} {v:Value} (h:∀ w es,(execOp (Qk n ρ) o).runT P w es=(.ok (.value v) w,es)):Yl P n ρ o w v:=⟨(Tame.still _ h).fr,fun w1 _=>by rw [← Sem.runT_fst P _ w1 #[],h]⟩

def gd (g:Bool) (v:Value):Value:=bif g then v else undef
theorem Qz {g:Bool} {v:Value} (h:g=true):gd g v=v:=by subst h;rfl
theorem Qfh {g:Bool} {v:Value} (h:g=false):gd g v=undef:=by subst h;rfl

theorem Qha (ops:Array Oper) {o:Oper} (h:o.guard=none):Xx ops o n ρ=true:=by simp [Xx,Region.wanted,h]

theorem Qhc {ops:Array Oper} {j d:Nat} (hd:(ops[j]?).bind (·.dst)=some d) (hn:Nat.blt d n=true):yielded ops (act n ρ).tmps j=match ρ d with | .bool b=>some b | _=>none:=by
  have hlt:d < n:=by simpa [Nat.blt_eq] using hn
  simp only [yielded,hd,act,Option.bind_some]
  rw [Array.getElem?_ofFn]
  simp only [hlt,dif_pos]
  cases ρ d<;>rfl

theorem QC {ops:Array Oper} {o:Oper} {j d:Nat} {b:Bool} (hg:o.guard=some (j,true)) (hd:(ops[j]?).bind (·.dst)=some d) (hn:Nat.blt d n=true) (hv:ρ d=.bool b):Xx ops o n ρ=b:=by
  simp only [Xx,Region.wanted,hg,Qhc hd hn,hv];cases b<;>rfl
theorem Xv {ops:Array Oper} {o:Oper} {j d:Nat} {b:Bool} (hg:o.guard=some (j,false)) (hd:(ops[j]?).bind (·.dst)=some d) (hn:Nat.blt d n=true) (hv:ρ d=.bool b):Xx ops o n ρ=!b:=by
  simp only [Xx,Region.wanted,hg,Qhc hd hn,hv];cases b<;>rfl
theorem Z7 {ops:Array Oper} {o:Oper} {j d:Nat} {g b:Bool} (hg:o.guard=some (j,true)) (hd:(ops[j]?).bind (·.dst)=some d) (hn:Nat.blt d n=true) (hv:ρ d=gd g (.bool b)):Xx ops o n ρ=(g&&b):=by
  simp only [Xx,Region.wanted,hg,Qhc hd hn,hv,gd];cases g<;>cases b<;>rfl
theorem Zw {ops:Array Oper} {o:Oper} {j d:Nat} {g b:Bool} (hg:o.guard=some (j,false)) (hd:(ops[j]?).bind (·.dst)=some d) (hn:Nat.blt d n=true) (hv:ρ d=gd g (.bool b)):Xx ops o n ρ=(g&&!b):=by
  simp only [Xx,Region.wanted,hg,Qhc hd hn,hv,gd];cases g<;>cases b<;>rfl

/-! ### Stepping a region -/
section
variable {ops:Array Oper} {K:Env→World→Prop} {o:Oper} {os:List Oper}

theorem Qb (h:K ρ w):T0 P n ops K [] ρ w:=h
theorem Yy {v:Value} (hg:o.guard=none) (hy:Yl P n ρ o w v) (h:T0 P n ops K os (Xb ρ o.dst v) w):T0 P n ops K (o::os) ρ w:=by
  simp only [T0,Stp,Qha ops hg,if_true,Eff]
  exact ⟨hy.1,.inl ⟨v,hy.2,h⟩⟩
theorem QD {v:Value} (b:Bool) (hw:Xx ops o n ρ=b) (hy:b=true→Yl P n ρ o w v) (h:T0 P n ops K os (Xb ρ o.dst (gd b v)) w):T0 P n ops K (o::os) ρ w:=by
  simp only [T0,Stp,hw]
  cases b
  · exact h
  · have hy:=hy rfl
    simp only [if_true,Eff];exact ⟨hy.1,.inl ⟨v,hy.2,h⟩⟩
theorem Qg (hg:o.guard=none) (h:Eff P o n ρ w (fun v w'=>T0 P n ops K os (Xb ρ o.dst v) w')):T0 P n ops K (o::os) ρ w:=by
  simp only [T0,Stp,Qha ops hg,if_true];exact h
variable {S:World→Prop} {Kt:Env→World→Prop} {i:Nat} {rest:List (Nat×Bool)} {trest:List Nat} {ol:List Oper}
theorem J0 {v:Value} (hi:ol[i]?=some o) (hg:o.guard=none) (hy:∀ w,S w→Yl P n ρ o w v) (h:TS P n ol S Kt rest (Xb ρ o.dst v) w):TS P n ol S Kt ((i,false)::rest) ρ w :=
  ⟨o,v,hi,.inl ⟨Qha ol.toArray hg,hy⟩,h⟩
theorem Qtz (hi:ol[i]?=some o) (hg:o.guard=none) (h:Eff P o n ρ w (fun v w'=>S w'∧TS P n ol S Kt rest (Xb ρ o.dst v) w')):TS P n ol S Kt ((i,true)::rest) ρ w :=
  ⟨o,hi,by simp only [Stp,Qha ol.toArray hg,if_true];exact h⟩
theorem Qua (h:Kt ρ w):TS P n ol S Kt [] ρ w:=h
theorem Qty (b:Bool) (hw:Xx ops o n ρ=b) (ht:b=true→Eff P o n ρ w (fun v w'=>T0 P n ops K os (Xb ρ o.dst v) w')) (hf:b=false→T0 P n ops K os (Xb ρ o.dst undef) w):T0 P n ops K (o::os) ρ w:=by
  simp only [T0,Stp,hw]
  cases b
  · exact hf rfl
  · exact ht rfl
end

/-! ### What operations yield -/
section
variable {d:Option Nat} {t T U:TypeId} {p:String} {af:Array Edge} {gu:Option (Nat×Bool)} {x y z:Operand}

theorem QA {v:Value} (hx:Qk n ρ x=v):Yl P n ρ ⟨d,.move x,t,p,af,gu⟩ w v:=XM fun w es=>by subst hx;rfl
theorem Xz {v:Value} (hx:Qk n ρ x=v):Yl P n ρ ⟨d,.assign x,t,p,af,gu⟩ w v:=XM fun w es=>by subst hx;rfl
theorem Qc {ops:Array Oper} {K:Env→World→Prop} {os:List Oper} (v:Value) (hx:Qk n ρ x=v) (h:T0 P n ops K os (Xb ρ d v) w):T0 P n ops K (⟨d,.move x,t,p,af,none⟩::os) ρ w:=Yy rfl (QA hx) h
theorem Qf {ops:Array Oper} {K:Env→World→Prop} {os:List Oper} (v:Value) (hx:Qk n ρ x=v) (h:T0 P n ops K os (Xb ρ d v) w):T0 P n ops K (⟨d,.assign x,t,p,af,none⟩::os) ρ w:=Yy rfl (Xz hx) h
theorem Qa {ops:Array Oper} {K:Env→World→Prop} {os:List Oper} {e:Op} (v:Value) (hy:Yl P n ρ ⟨d,e,t,p,af,none⟩ w v) (h:T0 P n ops K os (Xb ρ d v) w):T0 P n ops K (⟨d,e,t,p,af,none⟩::os) ρ w:=Yy rfl hy h
theorem J2 {q:Post} {id:Nat} {c:Code} (v:Value) (hx:Qk n ρ x=v) (h:WC P n c q (Xb ρ d v) w):WC P n (.seq (.region id #[⟨d,.move x,t,p,af,none⟩] false) c) q ρ w:=Qd (ops:=[⟨d,.move x,t,p,af,none⟩]) (Yy rfl (QA hx) h)
theorem QO {q:Post} {id:Nat} {c:Code} (v:Value) (hx:Qk n ρ x=v) (h:WC P n c q (Xb ρ d v) w):WC P n (.seq (.region id #[⟨d,.assign x,t,p,af,none⟩] false) c) q ρ w:=Qd (ops:=[⟨d,.assign x,t,p,af,none⟩]) (Yy rfl (Xz hx) h)
theorem Qcf {b:Bool} {v:Value} (hx:Qk n ρ x=.bool b) (hy:b=true→Qk n ρ y=v) (hz:b=false→Qk n ρ z=v):Yl P n ρ ⟨d,.pick x y z,t,p,af,gu⟩ w v:=XM fun w es=>by
  cases b
  · simp [execOp,hx,asBool,hz rfl]
  · simp [execOp,hx,asBool,hy rfl]
theorem XX {b c:Bool} (hx:Qk n ρ x=.bool b) (hy:b=true→Qk n ρ y=.bool c) (hz:Qk n ρ z=.bool false):Yl P n ρ ⟨d,.pick x y z,t,p,af,gu⟩ w (.bool (b&&c)) :=
  Qcf hx (fun h=>by rw [hy h,h];rfl) (fun h=>by rw [hz,h];rfl)
theorem YU {b c:Bool} (hx:Qk n ρ x=.bool b) (hy:Qk n ρ y=.bool true) (hz:b=false→Qk n ρ z=.bool c):Yl P n ρ ⟨d,.pick x y z,t,p,af,gu⟩ w (.bool (b||c)) :=
  Qcf hx (fun h=>by rw [hy,h];rfl) (fun h=>by rw [hz h,h];rfl)

theorem Q2 {k:IntKind} {a b:Int} (hx:Qk n ρ x=.int k a) (hy:Qk n ρ y=.int k b):Yl P n ρ ⟨d,.binOp .add T x y U,t,p,af,gu⟩ w (.int k (k.wrap (a+b))):=XM fun w es=>by
  simp [execOp,hx,hy,eqGuard,binOp,Op.intArith]
theorem Ya {k:IntKind} {a b:Int} (hx:Qk n ρ x=.int k a) (hy:Qk n ρ y=.int k b):Yl P n ρ ⟨d,.binOp .sub T x y U,t,p,af,gu⟩ w (.int k (k.wrap (a - b))):=XM fun w es=>by
  simp [execOp,hx,hy,eqGuard,binOp,Op.intArith]
theorem Qce {k:IntKind} {a b:Int} (hx:Qk n ρ x=.int k a) (hy:Qk n ρ y=.int k b):Yl P n ρ ⟨d,.binOp .mul T x y U,t,p,af,gu⟩ w (.int k (k.wrap (a * b))):=XM fun w es=>by
  simp [execOp,hx,hy,eqGuard,binOp,Op.intArith]
theorem QLi {k:IntKind} {a b:Int} (hb:b≠0) (hx:Qk n ρ x=.int k a) (hy:Qk n ρ y=.int k b):Yl P n ρ ⟨d,.binOp .quo T x y U,t,p,af,gu⟩ w (.int k (k.wrap (a.tdiv b))):=XM fun w es=>by
  simp [execOp,hx,hy,eqGuard,binOp,Op.intDiv,hb]
theorem Qtu {k:IntKind} {a b:Int} (hb:b≠0) (hx:Qk n ρ x=.int k a) (hy:Qk n ρ y=.int k b):Yl P n ρ ⟨d,.binOp .rem T x y U,t,p,af,gu⟩ w (.int k (a.tmod b)):=XM fun w es=>by
  simp [execOp,hx,hy,eqGuard,binOp,Op.intDiv,hb]
theorem Xc {k:IntKind} {a b:Int} (hx:Qk n ρ x=.int k a) (hy:Qk n ρ y=.int k b):Yl P n ρ ⟨d,.binOp .lss T x y U,t,p,af,gu⟩ w (.bool (decide (a < b))):=XM fun w es=>by
  simp [execOp,hx,hy,eqGuard,binOp,Op.intCmp]
theorem Zx {k:IntKind} {a b:Int} (hx:Qk n ρ x=.int k a) (hy:Qk n ρ y=.int k b):Yl P n ρ ⟨d,.binOp .leq T x y U,t,p,af,gu⟩ w (.bool (decide (a≤b))):=XM fun w es=>by
  simp [execOp,hx,hy,eqGuard,binOp,Op.intCmp]
theorem YL {k:IntKind} {a b:Int} (hx:Qk n ρ x=.int k a) (hy:Qk n ρ y=.int k b):Yl P n ρ ⟨d,.binOp .gtr T x y U,t,p,af,gu⟩ w (.bool (decide (b < a))):=XM fun w es=>by
  simp [execOp,hx,hy,eqGuard,binOp,Op.intCmp]
theorem YK {k:IntKind} {a b:Int} (hx:Qk n ρ x=.int k a) (hy:Qk n ρ y=.int k b):Yl P n ρ ⟨d,.binOp .geq T x y U,t,p,af,gu⟩ w (.bool (decide (b≤a))):=XM fun w es=>by
  simp [execOp,hx,hy,eqGuard,binOp,Op.intCmp]
theorem Qnk (a b:Int):(a == b)=decide (a=b):=by rw [Bool.eq_iff_iff];simp
theorem Xm {k:IntKind} {a b:Int} (hx:Qk n ρ x=.int k a) (hy:Qk n ρ y=.int k b):Yl P n ρ ⟨d,.binOp .eql T x y U,t,p,af,gu⟩ w (.bool (decide (a=b))):=XM fun w es=>by
  simp [execOp,hx,hy,eqGuard,binOp,Op.intCmp,Qnk]
theorem XL {k:IntKind} {a b:Int} (hx:Qk n ρ x=.int k a) (hy:Qk n ρ y=.int k b):Yl P n ρ ⟨d,.binOp .neq T x y U,t,p,af,gu⟩ w (.bool (!decide (a=b))):=XM fun w es=>by
  simp [execOp,hx,hy,eqGuard,binOp,Op.intCmp,bne,Qnk]
theorem X7 {b:Bool} (hx:Qk n ρ x=.bool b):Yl P n ρ ⟨d,.unOp .not T x,t,p,af,gu⟩ w (.bool (!b)):=XM fun w es=>by
  simp [execOp,hx,Op.unary]
theorem Qeh {k k':IntKind} {a:Int} (hu:P.underlying T=some (.int k')) (hv:P.underlying U=some (.int k)) (hx:Qk n ρ x=.int k' a):Yl P n ρ ⟨d,.convert T U x,t,p,af,gu⟩ w (.int k (k.wrap a)):=XM fun w es=>by
  simp [execOp,hx,convert,run_underlying hu,run_underlying hv,Conv.intToInt]
theorem Xf {i:Nat} {vs:Array Value} {v:Value} (hx:Qk n ρ x=.tuple vs) (hv:vs[i]?=some v):Yl P n ρ ⟨d,.extract x i,t,p,af,gu⟩ w v:=XM fun w es=>by
  simp [execOp,hx,Instr.extract,hv]
theorem Qcd {e:TypeId} {a:Option Addr} {m c:Nat} {aT:Array TypeId} (hT:aT[0]?=some T) (hu:P.underlying T=some (.slice e)) (hx:Qk n ρ x=.slice a m c):Yl P n ρ ⟨d,.call ⟨.builtin .len,#[x],aT⟩,t,p,af,gu⟩ w (.int .i64 m):=XM fun w es=>by
  simp [execOp,resolve,invoke,builtin,Builtin.len_,hT,hx,run_underlying hu,goInt]
theorem Qas {s:ByteArray} {aT:Array TypeId} (hT:aT[0]?=some T) (hu:P.underlying T=some .string) (hx:Qk n ρ x=.string s):Yl P n ρ ⟨d,.call ⟨.builtin .len,#[x],aT⟩,t,p,af,gu⟩ w (.int .i64 s.size):=XM fun w es=>by
  simp [execOp,resolve,invoke,builtin,Builtin.len_,hT,hx,run_underlying hu,goInt]
end
end
end Go.Gw

end
