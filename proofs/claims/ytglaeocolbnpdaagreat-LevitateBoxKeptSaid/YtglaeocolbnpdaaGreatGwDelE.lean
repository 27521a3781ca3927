/- slices.DeleteFunc and slices.Delete at ints: what they do to a slice of the call's own. No condition. -/
import Derived.Test.YtglaeocolbnpdaaGreatGwFacts
import Derived.Test.YtglaeocolbnpdaaGreatGwSort
import Derived.Test.YtglaeocolbnpdaaGreatGwPl
import Derived.Test.YtglaeocolbnpdaaGreatGwLib13
import Derived.Shelf.SlicesE.DeleteFunc
import Derived.Shelf.SlicesE.Delete
import Derived.WalkKit
namespace Go.Gw
open Go Go.Proofs Go.Shelf Go.RowKit Go.Sort Go.Lib
set_option maxRecDepth 100000
def delFLays_ren : Go.Shelf.Ren := ⟨fun | 10 => 122 | 6 => 119 | n => n, fun | 22 => 23 | 23 => 3 | 25 => 139 | 3 => 3 | 4 => 4 | 0 => 0 | n => n, fun | n => n⟩
theorem delFLays : Go.Proofs.SlLaysH.n10 Tryz.prog delFLays_ren :=
  { mixed := by kernel_rfl,
    f6 := ⟨Tryz.f119.name, by kernel_rfl, Tryz.func119.trans (congrArg some (by kernel_rfl))⟩,
    f10 := ⟨Tryz.f122.name, by kernel_rfl, Tryz.func122.trans (congrArg some (by kernel_rfl))⟩,
    t0 := Tryz.underlying0,
    a0 := Tryz.isAgg0,
    z0 := Tryz.sizeOf0,
    v0 := Tryz.zeroValue0,
    t3 := Tryz.underlying3,
    a3 := Tryz.isAgg3,
    z3 := Tryz.sizeOf3,
    v3 := Tryz.zeroValue3,
    t4 := Tryz.underlying4,
    a4 := Tryz.isAgg4,
    z4 := Tryz.sizeOf4,
    v4 := Tryz.zeroValue4,
    t22 := Tryz.underlying23,
    a22 := Tryz.isAgg23,
    z22 := Tryz.sizeOf23,
    v22 := Tryz.zeroValue23,
    a23 := Tryz.isAgg3,
    z23 := Tryz.sizeOf3,
    t25 := Tryz.underlying139,
    a25 := Tryz.isAgg139,
    z25 := Tryz.sizeOf139,
    v25 := Tryz.zeroValue139 }
def delELays_ren : Go.Shelf.Ren := ⟨fun | 45 => 150 | n => n, fun | 22 => 23 | 23 => 3 | 3 => 3 | 4 => 4 | 0 => 0 | n => n, fun | n => n⟩
abbrev IntB := { i : Int // 0 ≤ i ∧ i ≤ 62 }
instance : Inhabited IntB := ⟨⟨0, by decide⟩⟩
def encB (x : IntB) : Value := .int .i64 x.1
def offB (set x : Int) : Bool := decide (andS .i64 (set.fdiv (2 ^ x.toNat)) 1 = 0)

theorem own_row {α : Type} [Inhabited α] {enc : α → Value} {to : α → Int} {e : TypeId} {L : List Value} {w : World} {v : Value} {d : Array α} (henc : ∀ a, enc a = .int .i64 (to a)) (h : Own e L w v (d.toList.map to)) (h0 : d.size ≠ 0) :
    ∃ g cap cur, v = .slice (some ⟨g, 0, none⟩) d.size cap ∧ w.heap[g]? = some (.cells cur e (0, 0)) ∧ d.size ≤ cap ∧ cap ≤ maxLen ∧ cur.size = cap ∧ Holds enc w g 0 d := by
  obtain ⟨g, cap, cur, hv, hg, h4, h5, h6, h7, hH⟩ := Own.holds (enc := fun a => [enc a]) (k := 1) (fun _ => rfl) rfl (fun cs a hrd => by rw [henc]; exact hrd) h h0
  refine ⟨g, cap, cur, hv, hg, h4, h5, by rw [h6, Nat.mul_one], fun j hj => ?_⟩
  have hc : cur[j]? = some (enc d[j]!) := by
    have h8 : (cur.toList.take (d.size * 1))[j]? = some (enc d[j]!) := by
      rw [h7, flatK_flat (fun a => [enc a]) 1 (fun _ => rfl)]
      rw [getElem!_pos d j hj]
      have : ∀ (l : List α) (i : Nat) (hi : i < l.length), (l.flatMap fun a => [enc a])[i]? = some (enc l[i]) := by
        intro l
        induction l with
        | nil => intro i hi; simp at hi
        | cons a l ih =>
          intro i hi
          cases i with
          | zero => simp
          | succ i => simpa using ih i (by simpa using hi)
      exact (this d.toList j (by simpa using hj)).trans (by simp)
    rw [List.getElem?_take_of_lt (by omega)] at h8
    simpa using h8
  refine ⟨?_, by simp [World.frozen?, hg]⟩
  simp only [World.cell?, hg, Nat.zero_add, hc]; rfl

theorem row_heap {α : Type} [Inhabited α] {enc : α → Value} {e : TypeId} {w : World} {g q : Nat} {d' : Array α} {cur : Array Value} (hg : w.heap[g]? = some (.cells cur e (0, 0))) :
    (putRow enc (Sort.ahead w q) g 0 d').heap[g]? = some (.cells (putCells enc 0 d' cur) e (0, 0)) := by
  have hlt : g < w.heap.size := lt_of_some hg
  have hv : w.heap[g] = .cells cur e (0, 0) := (Array.getElem?_eq_some_iff.1 hg).2
  unfold putRow mapBlock Sort.ahead
  show (w.heap.modify g (onCells (putCells enc 0 d')))[g]? = _
  rw [Array.getElem?_eq_getElem (by simpa using hlt), Array.getElem_modify]
  simp [hv, onCells]
theorem row_chg {α : Type} [Inhabited α] {enc : α → Value} {w : World} {g q m cap : Nat} {d' : Array α} : Chg [.slice (some ⟨g, 0, none⟩) m cap] w (putRow enc (Sort.ahead w q) g 0 d') := by
  refine ⟨rfl, rfl, rfl, ?_, fun b hb hA => ?_⟩
  · unfold putRow mapBlock Sort.ahead
    show w.heap.size ≤ (w.heap.modify g (onCells (putCells enc 0 d'))).size
    simp
  · have hne : g ≠ b := fun e => hA _ (List.mem_singleton.2 rfl) (by simp [blk, e])
    unfold putRow mapBlock Sort.ahead
    show (w.heap.modify g (onCells (putCells enc 0 d')))[b]? = _
    rw [Array.getElem?_modify]
    simp [hne]
theorem own_cut {e : TypeId} {L : List Value} {w : World} {g cap m : Nat} {cur : Array Value} {zs : List Int} (hg : w.heap[g]? = some (.cells cur e (0, 0))) (hm : zs.length = m) (h4 : m ≤ cap) (h5 : cap ≤ maxLen) (h6 : cur.size = cap)
    (hc : ∀ j (hj : j < zs.length), cur[j]? = some (.int .i64 zs[j])) : Own e L w (.slice (some ⟨g, 0, none⟩) m cap) zs := by
  subst hm
  have hE : ∀ l : List Int, Elems L w (l.map (Value.int .i64)) l := by
    intro l
    induction l with
    | nil => exact Elems.nil
    | cons a l ih => exact Elems.cons (cs := [.int .i64 a]) rfl ih
  refine ⟨zs.map (Value.int .i64), ⟨by simp [Rep.n], .inr ⟨g, cap, cur, rfl, Nat.zero_le _, hg, h4, h5, by simp [Rep.n, h6], ?_⟩⟩, hE zs⟩
  apply List.ext_getElem?
  intro j
  by_cases hj : j < zs.length
  · have h1 : j < zs.length * Rep.n Int := by simpa [Rep.n] using hj
    rw [List.getElem?_take_of_lt h1]
    have := hc j hj
    simp only [Array.getElem?_toList]
    rw [this]
    simp [hj]
  · rw [List.getElem?_eq_none (by simp [Rep.n]; omega), List.getElem?_eq_none (by simp; omega)]
theorem put_get {α : Type} [Inhabited α] {enc : α → Value} {d : Array α} {c : Array Value} {j : Nat} (hj : j < d.size) (hc : d.size ≤ c.size) : (putCells enc 0 d c)[j]? = some (enc d[j]!) := by
  have : j < c.size := by omega
  simp [putCells, hj, this]

def boundsB : List Int → List IntB
  | [] => []
  | e :: es => if h : 0 ≤ e ∧ e ≤ 62 then ⟨e, h⟩ :: boundsB es else []
theorem boundsB_val : ∀ (l : List Int), (∀ e ∈ l, 0 ≤ e ∧ e ≤ 62) → (boundsB l).map (·.1) = l
  | [], _ => rfl
  | e :: es, h => by
    simp only [boundsB]
    rw [dif_pos (h e (List.mem_cons_self ..)), List.map_cons, boundsB_val es fun x hx => h x (List.mem_cons_of_mem _ hx)]

noncomputable def delF (set : Int) (xs : List Int) : Option (List Int) :=
  open Classical in if (∀ e ∈ xs, 0 ≤ e ∧ e ≤ 62) ∧ 0 < xs.length ∧ xs.length ≤ 1073741824 then some (xs.filter fun x => !offB set x) else none
def delE (xs : List Int) (i j : Int) : Option (List Int) :=
  if 0 ≤ i ∧ i ≤ j ∧ j ≤ xs.length ∧ 0 < xs.length ∧ xs.length ≤ 1073741824 then some (xs.take i.toNat ++ xs.drop j.toNat) else none

set_option maxHeartbeats 1000000 in
theorem gives186 (set : Int) (x : IntB) (B : Nat) (W : World) (hc : W.cell? ⟨B, 0, none⟩ = some (.int .i64 set)) :
    FnGives Tryz.prog 186 #[.pointer (some ⟨B, 0, none⟩)] #[encB x] (.bool (offB set x.1)) W := by
  show Calls Tryz.prog 186 #[encB x, .pointer (some ⟨B, 0, none⟩)] W _
  obtain ⟨x, h0, h1⟩ := x
  have hm : min x.toNat 64 = x.toNat := by omega
  have hn : ¬ x < 0 := by omega
  unfold encB
  go_enter Tryz.func186, Tryz.ntmps186
  go_wp2
  all_goals (go_ret; refine ⟨?_, 0, rfl⟩)
  all_goals simp_all
  all_goals (unfold offB andS Go.bits; rw [Int.fdiv_eq_ediv_of_nonneg _ (Int.le_of_lt (Int.pow_pos (by decide)))]; first | rfl | simp [int_beq])

theorem delF_ok186 {e : TypeId} {L : List Value} {w : World} {v : Value} {xs zs : List Int} {set : Int} {b T : Nat} (h : Own e L w v xs) (hB : Box w b [.int .i64 set] T) (hne : blk v ≠ some b) (hz : delF set xs = some zs) :
    CallsTo Tryz.prog 122 [v, .func (.func 186) #[] #[.pointer (some ⟨b, 0, none⟩)]] w (fun u w' => Chg [v] w w' ∧ (∀ k, blk u = some k → blk v = some k) ∧ ∀ L', Own e L' w' u zs) := by
  unfold delF at hz
  split at hz
  · rename_i hc
    obtain ⟨hb, h0, hn⟩ := hc
    cases hz
    have hv := boundsB_val xs hb
    have hcell : w.cell? ⟨b, 0, none⟩ = some (.int .i64 set) := by
      have : w.heap[b]? = some (.cells [Value.int .i64 set].toArray T (0, 0)) := hB
      simp [World.cell?, this]
    generalize boundsB xs = ys at hv
    subst hv
    have hlen : ys.length ≤ 1073741824 := by simpa using hn
    have hzs : (ys.map (·.1)).filter (fun x => !offB set x) = (ys.filter fun x => !offB set x.1).map (·.1) := by rw [List.filter_map]; rfl
    rw [hzs]
    have hown : Own e L w v (ys.toArray.toList.map (·.1)) := by simpa using h
    obtain ⟨g, cap, cur, hvv, hg, h5, h6, h7, hH⟩ := own_row (enc := encB) (to := (·.1)) (fun _ => rfl) hown (by rw [List.size_toArray]; simp only [List.length_map] at h0; omega)
    subst hvv
    have hbg : b ≠ g := fun e => hne (by simp [blk, e])
    have eg : ∀ args w, (callFunc 186 args).run Tryz.prog w = .ok (.enter 186 args) w := enters_of Tryz.func186 (by kernel_rfl) rfl
    have hp : PredAt Tryz.prog 186 #[.pointer (some ⟨b, 0, none⟩)] encB (fun x => offB set x.1) w := fun W x hbl => gives186 set x b W ((hbl.cell (p := ⟨b, 0, none⟩) hB.lt).trans hcell)
    have hpo : PredOver Tryz.prog 186 #[.pointer (some ⟨b, 0, none⟩)] encB (fun x => offB set x.1) g 0 ys.toArray.size w := fun n os dk x _ => gives186 set x b _ (by
      unfold sortWorld
      rw [cell?_grow _ _ _ (by show b < (putRow _ _ _ _ _).heap.size; rw [size_putRow]; exact hB.lt), cell?_putRow_other _ _ g 0 _ _ (Or.inl hbg)]
      exact hcell)
    have hcon := AnyE.slices_DeleteFunc delFLays encB (fun _ => rfl) (fun x => offB set x.1) 186 #[.pointer (some ⟨b, 0, none⟩)] eg ⟨0, by decide⟩ Tryz.zeroValue3 g 0 cap ys.toArray w hp hpo hH (by simp; omega) h5
    have hfl : (ys.filter fun x => !offB set x.1).length ≤ ys.length := List.length_filter_le _ _
    refine Calls.mono hcon fun e' w' he => ?_
    obtain ⟨rfl, q, rfl⟩ := he
    refine ⟨row_chg, fun k hk => hk, fun L' => own_cut (row_heap hg) (by rw [List.length_map]) (by simp at h5 ⊢; omega) h6 (by simp [putCells, h7]) fun t ht => ?_⟩
    rw [List.length_map] at ht
    rw [put_get (by simp; omega) (by simp at h5 ⊢; omega), getElem!_pos _ _ (by simp; omega)]
    simp only [List.getElem_toArray, encB]
    rw [List.getElem_append_left ht]
    simp
  · cases hz

end Go.Gw
