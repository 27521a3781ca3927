/- Laws of the walk. Condition: each theorem says its own. -/
import Derived.Test.YtglaeocolbnpdaaGreatGwPlan
import Derived.Shelf.GgSortFunc.InsertionK
import Derived.Sort.Statements
import Derived.IntWalk
import Derived.Test.YtglaeocolbnpdaaGreatGwFacts
import Derived.Test.YtglaeocolbnpdaaGreatGwPlan2
import Derived.Shelf.SlicesE.DeleteFunc
import Derived.Shelf.SlicesE.Delete
import Derived.WalkKit
import Derived.Shelf.SortM.Plain
section
namespace Go.Gw
open Go Go.Sort Go.Proofs
section
variable {α β : Type} [Rep β]

theorem Qqm (enc : α → List Value) (k : Nat) (hk : ∀ x, (enc x).length = k) : ∀ l : List α, (l.flatMap enc).length = l.length * k
  | [] => by simp
  | a :: l => by rw [List.flatMap_cons, List.length_append, hk, Qqm enc k hk l, List.length_cons, Nat.succ_mul, Nat.add_comm]
theorem Qql [Inhabited α] (enc : α → List Value) (k : Nat) (hk : ∀ x, (enc x).length = k) (d : Array α) : (flatK enc k d).toList = d.toList.flatMap enc := by
  have hlen : (d.toList.flatMap enc).length = d.size * k := by
    rw [Qqm enc k hk]; simp
  apply List.ext_getElem
  · simp [hlen]
  · intro t h1 h2
    simp only [Array.length_toList, size_flatK] at h1
    have hk0 : 0 < k := by rcases Nat.eq_zero_or_pos k with h | h; subst h; omega; exact h
    have hq : t / k < d.size := Nat.div_lt_of_lt_mul (by rwa [Nat.mul_comm] at h1)
    have e1 : (flatK enc k d).toList[t] = (enc d[t / k]!)[t % k]! := by
      rw [← get_flatK enc k d t h1, getElem!_pos _ t (by simpa using h1)]; simp
    rw [e1]
    have key : ∀ (l : List α) (t : Nat) (ht : t < (l.flatMap enc).length), (l.flatMap enc)[t] = (enc (l[t / k]!))[t % k]! := by
      intro l
      induction l with
      | nil => intro t ht; simp at ht
      | cons a l ih =>
        intro t ht
        simp only [List.flatMap_cons] at ht ⊢
        by_cases hlt : t < k
        · rw [List.getElem_append_left (by rw [hk]; exact hlt)]
          simp [Nat.div_eq_of_lt hlt, Nat.mod_eq_of_lt hlt, hk, hlt]
        · have hge : k ≤ t := Nat.le_of_not_lt hlt
          rw [List.getElem_append_right (by rw [hk]; exact hge)]
          have ht' : t - k < (l.flatMap enc).length := by rw [List.length_append, hk] at ht; omega
          have hd : t / k = (t - k) / k + 1 := by
            rw [← Nat.sub_add_cancel hge, Nat.add_div_right _ hk0]; simp
          have hm : t % k = (t - k) % k := by
            conv => lhs; rw [← Nat.sub_add_cancel hge, Nat.add_mod_right]
          have := ih (t - k) ht'
          simp only [hk]
          rw [this, hd, hm]
          simp
    rw [key d.toList t h2]
    simp [hq]

theorem Elems.flat_inv {enc : α → List Value} {k : Nat} {to : α → β} {L : List Value} {w : World} (hn : Rep.n β = k) (hrd : ∀ cs a, Rep.rd L w cs (to a) → cs = enc a) : ∀ (l : List α) (cells : List Value), Elems L w cells (l.map to) → cells = l.flatMap enc
  | [], cells, h => by
    have := h.1; simp at this; exact this
  | a :: l, cells, h => by
    have h0 := h.2 0 (to a) (by simp)
    rw [Nat.zero_mul, List.drop_zero] at h0
    have e1 := hrd _ _ h0
    have h1 : Elems L w (cells.drop (Rep.n β)) (l.map to) := by
      refine ⟨by rw [List.length_drop, h.1, List.map_cons, List.length_cons, Nat.succ_mul]; omega, fun i x hx => ?_⟩
      have := h.2 (i + 1) x (by simpa using hx)
      rw [List.drop_drop]
      rw [show Rep.n β + i * Rep.n β = (i + 1) * Rep.n β by rw [Nat.succ_mul, Nat.add_comm]]
      exact this
    have e2 := Elems.flat_inv hn hrd l _ h1
    rw [List.flatMap_cons, ← e1, ← e2, List.take_append_drop]

theorem Own.holds [Inhabited α] {enc : α → List Value} {k : Nat} {to : α → β} {e : TypeId} {L : List Value} {w : World} {v : Value} {d : Array α} (hk : ∀ x, (enc x).length = k) (hn : Rep.n β = k) (hrd : ∀ cs a, Rep.rd L w cs (to a) → cs = enc a) (h : Own e L w v (d.toList.map to)) (h0 : d.size ≠ 0) :
    ∃ g cap cur, v = .slice (some ⟨g, 0, none⟩) d.size cap ∧ w.heap[g]? = some (.cells cur e (0, 0)) ∧ d.size ≤ cap ∧ cap ≤ maxLen ∧ cur.size = cap * k ∧ cur.toList.take (d.size * k) = (flatK enc k d).toList ∧ HoldsK enc k w g 0 d := by
  obtain ⟨cells, ⟨hl, ho⟩, hE⟩ := h
  have hf := Elems.flat_inv hn hrd _ _ hE
  have hsz : (d.toList.map to).length = d.size := by simp
  rw [hsz] at ho
  rcases ho with ⟨_, hz⟩ | ⟨g, cap, cur, hv, _, hg, h4, h5, h6, h7⟩
  · exact absurd hz h0
  · rw [hn] at h6 h7
    rw [hf, ← Qql enc k hk] at h7
    refine ⟨g, cap, cur, hv, hg, h4, h5, h6, h7, fun j hj => ⟨?_, ?_⟩⟩
    · have h8 : cur[0 + j]? = some (flatK enc k d)[j]! := by
        have h9 : (cur.toList.take (d.size * k))[j]? = some (flatK enc k d)[j]! := by
          rw [h7, getElem!_pos _ j hj]; simp
        rw [size_flatK] at hj
        rw [List.getElem?_take_of_lt hj] at h9
        simpa using h9
      simp only [World.cell?, hg, h8]; rfl
    · simp [World.frozen?, hg]

end
end Go.Gw

end
section
namespace Go.Gw
open Go

theorem Xa {x : Int} (h : -9223372036854775808 ≤ x ∧ x ≤ 9223372036854775807) : w64 x = x := Go.IntWalk.i64_in x h

def Runs {α : Type} (e : Option α) (Q : α → Prop) : Prop := ∃ a, e = some a ∧ Q a

section
variable {α β σ μ : Type} {Q : α → Prop} {e e' : Option α}
theorem Runs.some {a : α} (h : Q a) : Runs (some a) Q := ⟨a, rfl, h⟩
theorem Runs.bind {e : Option β} {f : β → Option α} (h : Runs e fun b => Runs (f b) Q) : Runs (e.bind f) Q := by
  obtain ⟨b, rfl, a, ha, hq⟩ := h; exact ⟨a, ha, hq⟩
theorem Runs.mono {Q' : α → Prop} (h : Runs e Q) (hm : ∀ a, Q a → Q' a) : Runs e Q' := by obtain ⟨a, ha, hq⟩ := h; exact ⟨a, ha, hm _ hq⟩
theorem Runs.eq {a : α} (h : Runs e (· = a)) : e = .some a := by obtain ⟨b, hb, rfl⟩ := h; exact hb
theorem Runs.of_eq {a : α} (h : e = .some a) (hq : Q a) : Runs e Q := ⟨a, h, hq⟩
theorem Runs.call {e : Option β} {f : β → Option α} {b : β} (h : e = .some b) (hq : Runs (f b) Q) : Runs (e.bind f) Q := by subst h; exact hq
theorem Runs.callR {e : Option β} {f : β → Option α} {R : β → Prop} (h : Runs e R) (hq : ∀ b, R b → Runs (f b) Q) : Runs (e.bind f) Q := by obtain ⟨b, rfl, hb⟩ := h; exact hq b hb
theorem Runs.bif {b : Bool} (ht : b = true → Runs e Q) (hf : b = false → Runs e' Q) : Runs (bif b then e else e') Q := by
  cases b
  · exact hf rfl
  · exact ht rfl
theorem Runs.bif_t {b : Bool} (hb : b = true) (ht : Runs e Q) : Runs (bif b then e else e') Q := by subst hb; exact ht
theorem Runs.bif_f {b : Bool} (hb : b = false) (hf : Runs e' Q) : Runs (bif b then e else e') Q := by subst hb; exact hf
theorem Runs.jl {b : α} {f : μ → Option α} (h : Q b) : Runs (Xt (.inl b) f) Q := ⟨b, rfl, h⟩
theorem Runs.jr {m : μ} {f : μ → Option α} (h : Runs (f m) Q) : Runs (Xt (.inr m) f) Q := h
theorem Runs.j {o : α ⊕ μ} {f : μ → Option α} (hl : ∀ b, o = .inl b → Q b) (hr : ∀ m, o = .inr m → Runs (f m) Q) : Runs (Xt o f) Q := by
  cases o with
  | inl b => exact Runs.jl (hl b rfl)
  | inr m => exact hr m rfl

def Rnd (I : σ → Prop) (m : σ → Nat) (Q : β → Prop) (s : σ) : σ ⊕ β → Prop
  | .inl s' => I s' ∧ m s' < m s
  | .inr o => Q o
theorem Runs.loop {step : σ → Option (σ ⊕ β)} {s : σ} {Q : β → Prop} (I : σ → Prop) (m : σ → Nat) (h0 : I s) (h : ∀ s, I s → Runs (step s) (Rnd I m Q s)) : Runs (Gw.loop step s) Q := by
  generalize hk : m s = k
  induction k using Nat.strongRecOn generalizing s with
  | _ k ih =>
    obtain ⟨x, hx, hq⟩ := h s h0
    cases x with
    | inl s' =>
      rw [YC hx]
      exact ih (m s') (by have := hq.2; omega) hq.1 rfl
    | inr o => rw [XZ hx]; exact ⟨o, rfl, hq⟩
theorem Runs.idx {xs : List β} {i : Int} {f : β → Option α} (h0 : 0 ≤ i) (h1 : i < xs.length) (h : ∀ x, xs[i.toNat]? = .some x → Runs (f x) Q) : Runs ((Gw.idx xs i).bind f) Q := by
  have hl : i.toNat < xs.length := by omega
  have e : Gw.idx xs i = .some xs[i.toNat] := by unfold Gw.idx; rw [if_pos h0, List.getElem?_eq_getElem hl]
  exact Runs.call e (h _ (List.getElem?_eq_getElem hl))
theorem XI {xs : List β} {k : Nat} (h : k < xs.length) : Gw.idx xs (k : Int) = .some xs[k] := by
  unfold Gw.idx; rw [if_pos (by omega), Int.toNat_natCast, List.getElem?_eq_getElem h]
theorem Yh {xs ys : List β} (h : xs.length + ys.length ≤ 1073741824) : XM xs ys = .some (xs ++ ys) := by unfold XM; rw [if_pos h]
theorem Qng {a b : Int} (h : b ≠ 0) : quo a b = .some (w64 (a.tdiv b)) := by unfold quo; rw [if_neg h]
end
end Go.Gw

end
section
namespace Go.Gw
open Go Go.Proofs Go.Shelf Go.RowKit Go.Sort Go.Lib
set_option maxRecDepth 100000
def Qwl : Go.Shelf.Ren := ⟨fun | 10 => 122 | 6 => 119 | n => n, fun | 22 => 23 | 23 => 3 | 25 => 139 | 3 => 3 | 4 => 4 | 0 => 0 | n => n, fun | n => n⟩
theorem Qwk : Go.Proofs.SlLaysH.n10 Tryz.prog Qwl :=
  { mixed := by kernel_rfl,
    f6 := ⟨Tryz.f119.name, by kernel_rfl, Tryz.func119.trans (congrArg some (by kernel_rfl))⟩,
    f10 := ⟨Tryz.f122.name, by kernel_rfl, Tryz.func122.trans (congrArg some (by kernel_rfl))⟩,
    t0 := Tryz.underlying0,
    a0 := Tryz.isAgg0,
    z0 := Tryz.sizeOf0,
    v0 := Tryz.zeroValue0,
    t3 := Tryz.underlying3,
    a3 := Tryz.isAgg3,
    z3 := Tryz.sizeOf3,
    v3 := Tryz.zeroValue3,
    t4 := Tryz.underlying4,
    a4 := Tryz.isAgg4,
    z4 := Tryz.sizeOf4,
    v4 := Tryz.zeroValue4,
    t22 := Tryz.underlying23,
    a22 := Tryz.isAgg23,
    z22 := Tryz.sizeOf23,
    v22 := Tryz.zeroValue23,
    a23 := Tryz.isAgg3,
    z23 := Tryz.sizeOf3,
    t25 := Tryz.underlying139,
    a25 := Tryz.isAgg139,
    z25 := Tryz.sizeOf139,
    v25 := Tryz.zeroValue139 }
def Qwi : Go.Shelf.Ren := ⟨fun | 45 => 150 | n => n, fun | 22 => 23 | 23 => 3 | 3 => 3 | 4 => 4 | 0 => 0 | n => n, fun | n => n⟩
theorem Qwh : Go.Proofs.SlLaysE.n45 Tryz.prog Qwi :=
  { mixed := by kernel_rfl,
    f45 := ⟨Tryz.f150.name, by kernel_rfl, Tryz.func150.trans (congrArg some (by kernel_rfl))⟩,
    t0 := Tryz.underlying0,
    a0 := Tryz.isAgg0,
    z0 := Tryz.sizeOf0,
    v0 := Tryz.zeroValue0,
    t3 := Tryz.underlying3,
    a3 := Tryz.isAgg3,
    z3 := Tryz.sizeOf3,
    v3 := Tryz.zeroValue3,
    t4 := Tryz.underlying4,
    a4 := Tryz.isAgg4,
    z4 := Tryz.sizeOf4,
    v4 := Tryz.zeroValue4,
    t22 := Tryz.underlying23,
    a22 := Tryz.isAgg23,
    z22 := Tryz.sizeOf23,
    v22 := Tryz.zeroValue23,
    a23 := Tryz.isAgg3,
    z23 := Tryz.sizeOf3 }

abbrev IntB := { i : Int // 0 ≤ i ∧ i ≤ 62 }
instance : Inhabited IntB := ⟨⟨0, by decide⟩⟩
def JW (x : IntB) : Value := .int .i64 x.1
def YM (set x : Int) : Bool := decide (Xl .i64 (set.fdiv (2 ^ x.toNat)) 1 = 0)

theorem Qnb {α : Type} [Inhabited α] {enc : α → Value} {to : α → Int} {e : TypeId} {L : List Value} {w : World} {v : Value} {d : Array α} (henc : ∀ a, enc a = .int .i64 (to a)) (h : Own e L w v (d.toList.map to)) (h0 : d.size ≠ 0) :
    ∃ g cap cur, v = .slice (some ⟨g, 0, none⟩) d.size cap ∧ w.heap[g]? = some (.cells cur e (0, 0)) ∧ d.size ≤ cap ∧ cap ≤ maxLen ∧ cur.size = cap ∧ Holds enc w g 0 d := by
  obtain ⟨g, cap, cur, hv, hg, h4, h5, h6, h7, hH⟩ := Own.holds (enc := fun a => [enc a]) (k := 1) (fun _ => rfl) rfl (fun cs a hrd => by rw [henc]; exact hrd) h h0
  refine ⟨g, cap, cur, hv, hg, h4, h5, by rw [h6, Nat.mul_one], fun j hj => ?_⟩
  have hc : cur[j]? = some (enc d[j]!) := by
    have h8 : (cur.toList.take (d.size * 1))[j]? = some (enc d[j]!) := by
      rw [h7, Qql (fun a => [enc a]) 1 (fun _ => rfl)]
      rw [getElem!_pos d j hj]
      have : ∀ (l : List α) (i : Nat) (hi : i < l.length), (l.flatMap fun a => [enc a])[i]? = some (enc l[i]) := by
        intro l
        induction l with
        | nil => intro i hi; simp at hi
        | cons a l ih =>
          intro i hi
          cases i with
          | zero => simp
          | succ i => simpa using ih i (by simpa using hi)
      exact (this d.toList j (by simpa using hj)).trans (by simp)
    rw [List.getElem?_take_of_lt (by omega)] at h8
    simpa using h8
  refine ⟨?_, by simp [World.frozen?, hg]⟩
  simp only [World.cell?, hg, Nat.zero_add, hc]; rfl

theorem Qnm {α : Type} [Inhabited α] {enc : α → Value} {e : TypeId} {w : World} {g q : Nat} {d' : Array α} {cur : Array Value} (hg : w.heap[g]? = some (.cells cur e (0, 0))) :
    (putRow enc (Sort.ahead w q) g 0 d').heap[g]? = some (.cells (putCells enc 0 d' cur) e (0, 0)) := by
  have hlt : g < w.heap.size := JF hg
  have hv : w.heap[g] = .cells cur e (0, 0) := (Array.getElem?_eq_some_iff.1 hg).2
  unfold putRow mapBlock Sort.ahead
  show (w.heap.modify g (onCells (putCells enc 0 d')))[g]? = _
  rw [Array.getElem?_eq_getElem (by simpa using hlt), Array.getElem_modify]
  simp [hv, onCells]
theorem Qnl {α : Type} [Inhabited α] {enc : α → Value} {w : World} {g q m cap : Nat} {d' : Array α} : Chg [.slice (some ⟨g, 0, none⟩) m cap] w (putRow enc (Sort.ahead w q) g 0 d') := by
  refine ⟨rfl, rfl, rfl, ?_, fun b hb hA => ?_⟩
  · unfold putRow mapBlock Sort.ahead
    show w.heap.size ≤ (w.heap.modify g (onCells (putCells enc 0 d'))).size
    simp
  · have hne : g ≠ b := fun e => hA _ (List.mem_singleton.2 rfl) (by simp [Qr, e])
    unfold putRow mapBlock Sort.ahead
    show (w.heap.modify g (onCells (putCells enc 0 d')))[b]? = _
    rw [Array.getElem?_modify]
    simp [hne]
theorem Qna {e : TypeId} {L : List Value} {w : World} {g cap m : Nat} {cur : Array Value} {zs : List Int} (hg : w.heap[g]? = some (.cells cur e (0, 0))) (hm : zs.length = m) (h4 : m ≤ cap) (h5 : cap ≤ maxLen) (h6 : cur.size = cap)
    (hc : ∀ j (hj : j < zs.length), cur[j]? = some (.int .i64 zs[j])) : Own e L w (.slice (some ⟨g, 0, none⟩) m cap) zs := by
  subst hm
  have hE : ∀ l : List Int, Elems L w (l.map (Value.int .i64)) l := by
    intro l
    induction l with
    | nil => exact Elems.nil
    | cons a l ih => exact Elems.cons (cs := [.int .i64 a]) rfl ih
  refine ⟨zs.map (Value.int .i64), ⟨by simp [Rep.n], .inr ⟨g, cap, cur, rfl, Nat.zero_le _, hg, h4, h5, by simp [Rep.n, h6], ?_⟩⟩, hE zs⟩
  apply List.ext_getElem?
  intro j
  by_cases hj : j < zs.length
  · have h1 : j < zs.length * Rep.n Int := by simpa [Rep.n] using hj
    rw [List.getElem?_take_of_lt h1]
    have := hc j hj
    simp only [Array.getElem?_toList]
    rw [this]
    simp [hj]
  · rw [List.getElem?_eq_none (by simp [Rep.n]; omega), List.getElem?_eq_none (by simp; omega)]
theorem Qne {α : Type} [Inhabited α] {enc : α → Value} {d : Array α} {c : Array Value} {j : Nat} (hj : j < d.size) (hc : d.size ≤ c.size) : (putCells enc 0 d c)[j]? = some (enc d[j]!) := by
  have : j < c.size := by omega
  simp [putCells, hj, this]

def Qfg : List Int → List IntB
  | [] => []
  | e :: es => if h : 0 ≤ e ∧ e ≤ 62 then ⟨e, h⟩ :: Qfg es else []
theorem Qps : ∀ (l : List Int), (∀ e ∈ l, 0 ≤ e ∧ e ≤ 62) → (Qfg l).map (·.1) = l
  | [], _ => rfl
  | e :: es, h => by
    simp only [Qfg]
    rw [dif_pos (h e (List.mem_cons_self ..)), List.map_cons, Qps es fun x hx => h x (List.mem_cons_of_mem _ hx)]

noncomputable def Qbi (set : Int) (xs : List Int) : Option (List Int) :=
  open Classical in if (∀ e ∈ xs, 0 ≤ e ∧ e ≤ 62) ∧ 0 < xs.length ∧ xs.length ≤ 1073741824 then some (xs.filter fun x => !YM set x) else none
def Qdk (xs : List Int) (i j : Int) : Option (List Int) :=
  if 0 ≤ i ∧ i ≤ j ∧ j ≤ xs.length ∧ 0 < xs.length ∧ xs.length ≤ 1073741824 then some (xs.take i.toNat ++ xs.drop j.toNat) else none

theorem eiD : EInfo Tryz.prog 3 1 8 (.int .i64 0) := JV (by kernel_rfl) rfl (by decide)
theorem Qwj {e : TypeId} {L : List Value} {w : World} {v : Value} {xs zs : List Int} {i j : Int} (h : Own e L w v xs) (hz : Qdk xs i j = some zs) :
    CallsTo Tryz.prog 150 [v, .int .i64 i, .int .i64 j] w (fun u w' => Chg [v] w w' ∧ (∀ k, Qr u = some k → Qr v = some k) ∧ ∀ L', Own e L' w' u zs) := by
  unfold Qdk at hz
  split at hz
  · rename_i hc
    obtain ⟨h0, h1, h2, h3, h4⟩ := hc
    cases hz
    have hown : Own e L w v (xs.toArray.toList.map id) := by simpa using h
    obtain ⟨g, cap, cur, hvv, hg, h5, h6, h7, hH⟩ := Qnb (enc := Value.int .i64) (to := id) (fun _ => rfl) hown (by rw [List.size_toArray]; omega)
    have hml : maxLen ≤ 9223372036854775807 := by decide
    obtain ⟨i0, hi0, hk0, _⟩ := eiD.ex
    have hcon := AnyE.slices_Delete Qwh (Value.int .i64) (fun _ => rfl) 0 Tryz.zeroValue3 i0 hi0 hk0 g 0 cap i.toNat j.toNat xs.toArray w hH h5 (by omega) (by omega) (by simp; omega)
    subst hvv
    have ei : ((i.toNat : Nat) : Int) = i := by omega
    have ej : ((j.toNat : Nat) : Int) = j := by omega
    rw [ei, ej] at hcon
    refine Calls.mono hcon fun e' w' he => ?_
    obtain ⟨rfl, q, rfl⟩ := he
    refine ⟨Qnl, fun k hk => hk, fun L' => Qna (Qnm hg) ?_ (by simp at h5 ⊢; omega) h6 (by simp [putCells, h7]) fun t ht => ?_⟩
    · simp; omega
    · simp only [List.length_append, List.length_take, List.length_drop] at ht
      simp only [List.toList_toArray]
      rw [Qne (by simp; omega) (by simp at h5 ⊢; omega)]
      rw [getElem!_pos _ _ (by simp; omega)]
      congr 2
      simp only [List.getElem_toArray]
      rw [List.getElem_append_left (by simp; omega)]
  · cases hz

set_option maxHeartbeats 1000000 in
theorem Qqo (set : Int) (x : IntB) (B : Nat) (W : World) (hc : W.cell? ⟨B, 0, none⟩ = some (.int .i64 set)) :
    FnGives Tryz.prog 186 #[.pointer (some ⟨B, 0, none⟩)] #[JW x] (.bool (YM set x.1)) W := by
  show Calls Tryz.prog 186 #[JW x, .pointer (some ⟨B, 0, none⟩)] W _
  obtain ⟨x, h0, h1⟩ := x
  have hm : min x.toNat 64 = x.toNat := by omega
  have hn : ¬ x < 0 := by omega
  unfold JW
  go_enter Tryz.func186, Tryz.ntmps186
  go_wp2
  all_goals (go_ret; refine ⟨?_, 0, rfl⟩)
  all_goals simp_all
  all_goals (unfold YM Xl Go.bits; rw [Int.fdiv_eq_ediv_of_nonneg _ (Int.le_of_lt (Int.pow_pos (by decide)))]; first | rfl | simp [Qkw])

theorem Qwm {e : TypeId} {L : List Value} {w : World} {v : Value} {xs zs : List Int} {set : Int} {b T : Nat} (h : Own e L w v xs) (hB : Box w b [.int .i64 set] T) (hne : Qr v ≠ some b) (hz : Qbi set xs = some zs) :
    CallsTo Tryz.prog 122 [v, .func (.func 186) #[] #[.pointer (some ⟨b, 0, none⟩)]] w (fun u w' => Chg [v] w w' ∧ (∀ k, Qr u = some k → Qr v = some k) ∧ ∀ L', Own e L' w' u zs) := by
  unfold Qbi at hz
  split at hz
  · rename_i hc
    obtain ⟨hb, h0, hn⟩ := hc
    cases hz
    have hv := Qps xs hb
    have hcell : w.cell? ⟨b, 0, none⟩ = some (.int .i64 set) := by
      have : w.heap[b]? = some (.cells [Value.int .i64 set].toArray T (0, 0)) := hB
      simp [World.cell?, this]
    generalize Qfg xs = ys at hv
    subst hv
    have hlen : ys.length ≤ 1073741824 := by simpa using hn
    have hzs : (ys.map (·.1)).filter (fun x => !YM set x) = (ys.filter fun x => !YM set x.1).map (·.1) := by rw [List.filter_map]; rfl
    rw [hzs]
    have hown : Own e L w v (ys.toArray.toList.map (·.1)) := by simpa using h
    obtain ⟨g, cap, cur, hvv, hg, h5, h6, h7, hH⟩ := Qnb (enc := JW) (to := (·.1)) (fun _ => rfl) hown (by rw [List.size_toArray]; simp only [List.length_map] at h0; omega)
    subst hvv
    have hbg : b ≠ g := fun e => hne (by simp [Qr, e])
    have eg : ∀ args w, (callFunc 186 args).run Tryz.prog w = .ok (.enter 186 args) w := enters_of Tryz.func186 (by kernel_rfl) rfl
    have hp : PredAt Tryz.prog 186 #[.pointer (some ⟨b, 0, none⟩)] JW (fun x => YM set x.1) w := fun W x hbl => Qqo set x b W ((hbl.cell (p := ⟨b, 0, none⟩) hB.lt).trans hcell)
    have hpo : PredOver Tryz.prog 186 #[.pointer (some ⟨b, 0, none⟩)] JW (fun x => YM set x.1) g 0 ys.toArray.size w := fun n os dk x _ => Qqo set x b _ (by
      unfold sortWorld
      rw [cell?_grow _ _ _ (by show b < (putRow _ _ _ _ _).heap.size; rw [size_putRow]; exact hB.lt), cell?_putRow_other _ _ g 0 _ _ (Or.inl hbg)]
      exact hcell)
    have hcon := AnyE.slices_DeleteFunc Qwk JW (fun _ => rfl) (fun x => YM set x.1) 186 #[.pointer (some ⟨b, 0, none⟩)] eg ⟨0, by decide⟩ Tryz.zeroValue3 g 0 cap ys.toArray w hp hpo hH (by simp; omega) h5
    have hfl : (ys.filter fun x => !YM set x.1).length ≤ ys.length := List.length_filter_le _ _
    refine Calls.mono hcon fun e' w' he => ?_
    obtain ⟨rfl, q, rfl⟩ := he
    refine ⟨Qnl, fun k hk => hk, fun L' => Qna (Qnm hg) (by rw [List.length_map]) (by simp at h5 ⊢; omega) h6 (by simp [putCells, h7]) fun t ht => ?_⟩
    rw [List.length_map] at ht
    rw [Qne (by simp; omega) (by simp at h5 ⊢; omega), getElem!_pos _ _ (by simp; omega)]
    simp only [List.getElem_toArray, JW]
    rw [List.getElem_append_left ht]
    simp
  · cases hz

end Go.Gw

end
section
namespace Go.Gw
open Go Go.Proofs Go.Shelf Go.RowKit Go.Sort Go.Lib
set_option maxRecDepth 100000
def QFw : Go.Shelf.Ren := ⟨fun | 5 => 129 | 8 => 158 | 7 => 157 | 19 => 184 | 20 => 185 | 10 => 175 | 11 => 176 | 12 => 177 | 13 => 178 | 14 => 179 | 15 => 180 | 16 => 181 | 17 => 182 | 18 => 183 | 30 => 189 | 31 => 190 | 32 => 191 | 33 => 192 | 34 => 193 | 35 => 174 | 40 => 194 | n => n, fun | 23 => 23 | 25 => 3 | 3 => 3 | 32 => 197 | 22 => 23 | 0 => 0 | 44 => 215 | 46 => 174 | 4 => 4 | 36 => 209 | 35 => 208 | 41 => 51 | 5 => 5 | 9 => 9 | 53 => 217 | 57 => 221 | 63 => 223 | 64 => 49 | n => n, fun n => n⟩
theorem QFv : Go.Proofs.SlLaysM.n5 Tryz.prog QFw :=
  { mixed := by kernel_rfl,
    f5 := ⟨Tryz.f129.name, by kernel_rfl, Tryz.func129.trans (congrArg some (by kernel_rfl))⟩,
    f7 := ⟨Tryz.f157.name, by kernel_rfl, Tryz.func157.trans (congrArg some (by kernel_rfl))⟩,
    f8 := Tryz.func158.trans (congrArg some (by kernel_rfl)),
    f10 := ⟨Tryz.f175.name, by kernel_rfl, Tryz.func175.trans (congrArg some (by kernel_rfl))⟩,
    f11 := ⟨Tryz.f176.name, by kernel_rfl, Tryz.func176.trans (congrArg some (by kernel_rfl))⟩,
    f12 := ⟨Tryz.f177.name, by kernel_rfl, Tryz.func177.trans (congrArg some (by kernel_rfl))⟩,
    f13 := ⟨Tryz.f178.name, by kernel_rfl, Tryz.func178.trans (congrArg some (by kernel_rfl))⟩,
    f14 := ⟨Tryz.f179.name, by kernel_rfl, Tryz.func179.trans (congrArg some (by kernel_rfl))⟩,
    f15 := ⟨Tryz.f180.name, by kernel_rfl, Tryz.func180.trans (congrArg some (by kernel_rfl))⟩,
    f16 := ⟨Tryz.f181.name, by kernel_rfl, Tryz.func181.trans (congrArg some (by kernel_rfl))⟩,
    f17 := ⟨Tryz.f182.name, by kernel_rfl, Tryz.func182.trans (congrArg some (by kernel_rfl))⟩,
    f18 := ⟨Tryz.f183.name, by kernel_rfl, Tryz.func183.trans (congrArg some (by kernel_rfl))⟩,
    f19 := Tryz.func184.trans (congrArg some (by kernel_rfl)),
    f20 := Tryz.func185.trans (congrArg some (by kernel_rfl)),
    f30 := ⟨Tryz.f189.name, by kernel_rfl, Tryz.func189.trans (congrArg some (by kernel_rfl))⟩,
    f31 := Tryz.func190.trans (congrArg some (by kernel_rfl)),
    f32 := Tryz.func191.trans (congrArg some (by kernel_rfl)),
    f33 := ⟨Tryz.f192.name, by kernel_rfl, Tryz.func192.trans (congrArg some (by kernel_rfl))⟩,
    f34 := ⟨Tryz.f193.name, by kernel_rfl, Tryz.func193.trans (congrArg some (by kernel_rfl))⟩,
    f35 := ⟨Tryz.f174.name, by kernel_rfl, Tryz.func174.trans (congrArg some (by kernel_rfl))⟩,
    f40 := ⟨Tryz.f194.name, by kernel_rfl, Tryz.func194.trans (congrArg some (by kernel_rfl))⟩,
    t0 := Tryz.underlying0,
    a0 := Tryz.isAgg0,
    z0 := Tryz.sizeOf0,
    v0 := Tryz.zeroValue0,
    t3 := Tryz.underlying3,
    a3 := Tryz.isAgg3,
    z3 := Tryz.sizeOf3,
    v3 := Tryz.zeroValue3,
    t4 := Tryz.underlying4,
    a4 := Tryz.isAgg4,
    z4 := Tryz.sizeOf4,
    v4 := Tryz.zeroValue4,
    t5 := Tryz.underlying5,
    a5 := Tryz.isAgg5,
    z5 := Tryz.sizeOf5,
    v5 := Tryz.zeroValue5,
    t9 := Tryz.underlying9,
    a9 := Tryz.isAgg9,
    z9 := Tryz.sizeOf9,
    v9 := Tryz.zeroValue9,
    t22 := Tryz.underlying23,
    a22 := Tryz.isAgg23,
    z22 := Tryz.sizeOf23,
    v22 := Tryz.zeroValue23,
    t23 := Tryz.underlying23,
    a23 := Tryz.isAgg23,
    z23 := Tryz.sizeOf23,
    v23 := Tryz.zeroValue23,
    t25 := Tryz.underlying3,
    a25 := Tryz.isAgg3,
    z25 := Tryz.sizeOf3,
    v25 := Tryz.zeroValue3,
    t32 := Tryz.underlying197,
    a32 := Tryz.isAgg197,
    z32 := Tryz.sizeOf197,
    v32 := Tryz.zeroValue197,
    t35 := Tryz.underlying208,
    a35 := Tryz.isAgg208,
    z35 := Tryz.sizeOf208,
    v35 := Tryz.zeroValue208,
    t36 := Tryz.underlying209,
    a36 := Tryz.isAgg209,
    z36 := Tryz.sizeOf209,
    v36 := Tryz.zeroValue209,
    t41 := Tryz.underlying51,
    a41 := Tryz.isAgg51,
    z41 := Tryz.sizeOf51,
    v41 := Tryz.zeroValue51,
    t44 := Tryz.underlying215,
    a44 := Tryz.isAgg215,
    z44 := Tryz.sizeOf215,
    v44 := Tryz.zeroValue215,
    t46 := Tryz.underlying174,
    a46 := Tryz.isAgg174,
    z46 := Tryz.sizeOf174,
    v46 := Tryz.zeroValue174,
    t53 := Tryz.underlying217,
    a53 := Tryz.isAgg217,
    z53 := Tryz.sizeOf217,
    v53 := Tryz.zeroValue217,
    t57 := Tryz.underlying221,
    a57 := Tryz.isAgg221,
    z57 := Tryz.sizeOf221,
    v57 := Tryz.zeroValue221,
    t63 := Tryz.underlying223,
    a63 := Tryz.isAgg223,
    z63 := Tryz.sizeOf223,
    v63 := Tryz.zeroValue223,
    t64 := Tryz.underlying49,
    a64 := Tryz.isAgg49,
    z64 := Tryz.sizeOf49,
    v64 := Tryz.zeroValue49 }
noncomputable def Qem (xs : List Int) : Option (List Int) :=
  if 0 < xs.length ∧ xs.length ≤ 1073741824 then some (xs.mergeSort fun x y => decide (x ≤ y)) else none
theorem QFu {e : TypeId} {L : List Value} {w : World} {v : Value} {xs zs : List Int} (h : Own e L w v xs) (hz : Qem xs = some zs) :
    CallsTo Tryz.prog 129 [v] w (fun u w' => Chg [v] w w' ∧ (.tuple #[]) = u ∧ Own e L w' v zs) := by
  unfold Qem at hz
  split at hz
  · rename_i hc
    cases hz
    have hown : Own e L w v (xs.toArray.toList.map id) := by simpa using h
    obtain ⟨g, cap, cur, hvv, hg, h5, h6, h7, hH⟩ := Qnb (enc := Value.int .i64) (to := id) (fun _ => rfl) hown (by rw [List.size_toArray]; omega)
    have hcon := AnyM.slices_Sort_int QFv g 0 cap xs w hH (JF hg) (by omega)
    subst hvv
    simp only [List.size_toArray] at *
    refine Calls.mono hcon fun e' w' he => ?_
    obtain ⟨rfl, q, os, rfl⟩ := he
    have hlen : (xs.mergeSort fun x y => decide (x ≤ y)).length = xs.length := List.length_mergeSort _
    have hgrow : ∀ (b : Nat) (o : Obj), (putRow (Value.int .i64) (Sort.ahead w q) g 0 (xs.mergeSort fun x y => decide (x ≤ y)).toArray).heap[b]? = some o → (grow (putRow (Value.int .i64) (Sort.ahead w q) g 0 (xs.mergeSort fun x y => decide (x ≤ y)).toArray) os).heap[b]? = some o := by
      intro b o hb
      show (_ ++ os)[b]? = _
      have hlt := (Array.getElem?_eq_some_iff.1 hb).1
      rw [Array.getElem?_append_left hlt]; exact hb
    have hch : Chg [.slice (some ⟨g, 0, none⟩) xs.length cap] w (putRow (Value.int .i64) (Sort.ahead w q) g 0 (xs.mergeSort fun x y => decide (x ≤ y)).toArray) := Qnl
    refine ⟨⟨hch.os, hch.tape, hch.output, ?_, fun b hb hA => ?_⟩, rfl, Qna (hgrow _ _ (Qnm hg)) hlen h5 h6 (by simp [putCells, h7]) fun t ht => ?_⟩
    · refine Nat.le_trans hch.size ?_
      show _ ≤ (_ ++ os).size
      rw [Array.size_append]; omega
    · have h1 := hch.block b hb hA
      obtain ⟨o, ho⟩ : ∃ o, w.heap[b]? = some o := ⟨_, Array.getElem?_eq_getElem hb⟩
      rw [ho] at h1 ⊢
      exact hgrow b o h1
    · rw [Qne (by rw [List.size_toArray]; exact ht) (by rw [List.size_toArray]; omega), getElem!_pos _ _ (by rw [List.size_toArray]; exact ht)]
      simp
  · cases hz
end Go.Gw

end
