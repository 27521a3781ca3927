/- The closing of a law's row: what the walk gives is what the row asks. No condition. -/
import Derived.Test.YtbplgfhjpeeieaaGwOpen
import Derived.Test.YtbplgfhjpeeieaaGwCj23
import Derived.WalkKit
import Derived.ProofKit
import Derived.OpenShut
import Derived.Carry
import Derived.Deep.DeepHandedRow
import Derived.Lib.LaidTab
set_option linter.unusedVariables false
set_option linter.unusedSimpArgs false
set_option linter.unusedSectionVars false
namespace Go.Gw
open Go Go.ChangeShapes Go.WideShapes Go.RowKit

def Qbs (P : Program) (ts : List TypeId) : Bool := ts.all fun t => P.readableRec t && decide (t < P.types.size)
theorem Qvi {H : Type} {enc : TypeId × Value → H} {P : Program} (hl : laidOutB P = true) {W W' : World} (hb : Below W.heap.size W W') : ∀ {ts : List TypeId} {vs : List Value} {ds : List (DataW H)} {ps : List MemPlace}, Qbs P ts = true →
    DataW.TrodAll enc P W 0 (fun _ => true) true ts vs ds ps → (∀ x ∈ ps, x.block < W.heap.size) → DataW.TrodAll enc P W' 0 (fun b => decide (b < W.heap.size)) true ts vs ds ps
  | [], vs, ds, ps, _, h, _ => by
    obtain ⟨rfl, rfl, rfl⟩ := trodAll_nil h
    rfl
  | t :: ts, vs, ds, ps, hr, h, hlt => by
    simp only [Qbs, List.all_cons, Bool.and_eq_true, decide_eq_true_eq] at hr
    obtain ⟨v, vs', d, ds', p, q, rfl, rfl, rfl, h1, h2⟩ := trodAll_cons h
    exact ⟨p, q, Below.trod hl hr.1.1 hr.1.2 h1 hb (fun x hx => hlt x (List.mem_append_left _ hx)), Qvi hl hb (by simpa [Qbs] using hr.2) h2 (fun x hx => hlt x (List.mem_append_right _ hx)), rfl⟩

theorem QDi {H : Type} {enc : TypeId × Value → H} {P : Program} {f : Func} {s : ChangeSpec} {W W' : World} {args : Array Value} {ds gs : List (DataW H)} {before : List MemPlace} {B : TypeId} (hl : laidOutB P = true) (hr : Qbs P f.params.toList = true)
    (hW : DataW.Whole enc P f.params.toList s.vars false W args.toList ds gs before) (hv : s.vars = []) (hres : (s.fn H (ds ++ gs)).results = [.lit (.bool true)]) (hargs : (s.fn H (ds ++ gs)).args = ds) (hvars : (s.fn H (ds ++ gs)).vars = [])
    (hrt : f.resultTypes = #[B]) (hB : P.underlying B = some .bool) (he : Ext W W') : s.post enc P f false true false false W args (.bool true) W' := by
  have hlt := hW.lt
  have hW' := hW
  obtain ⟨p, q, hA, hV, rfl, hfz, hnd⟩ := hW
  rw [hv] at hV
  obtain ⟨rfl, rfl⟩ := trodVars_none hV
  refine ⟨ds, [], p ++ [], [], p, [], hW', ?_, ?_, ?_, ?_, fun h => by cases h⟩
  · rw [hres, hrt]; exact trodAll_cons_mk (shut_bool hB _) trodAll_mk0
  · rw [hargs]; exact Qvi hl he.below hr hA (fun x hx => hlt x (by simpa using hx))
  · rw [hvars, hv]; rfl
  · exact he.below.frame _

/-! ### Arguments -/
section
variable {H : Type} {enc : TypeId × Value → H} {P : Program} {W : World} {b0 : Nat} {T : TypeId} {v : Value} {d : DataW H} {ps : List MemPlace}
theorem Qwq {α : Type} [Rep α] {V : α → Prop} {fs : Array Field} (ho : ZU P T α V) (ht : P.underlying T = some (.struct fs)) (hval : Value.okWide P W .any b0 T v) (hd : DataW.Trod enc P W 0 (fun _ => true) true T v d ps) :
    ∃ (cs : List Value) (x : α), v = .agg cs.toArray ∧ Rep.rd [] W cs x ∧ V x := by
  unfold Value.okWide at hval
  rw [ht] at hval
  obtain ⟨cs, rfl, _⟩ := hval
  obtain ⟨fuel, hf⟩ := hd
  obtain ⟨x, h1, h2⟩ := ho.2 enc W fuel _ _ hf
  exact ⟨cs.toList, x, by simp, h1, h2⟩
theorem Qws {α : Type} [Rep α] {V : List α → Prop} {e : TypeId} (ho : ZU P T (List α) V) (ht : P.underlying T = some (.slice e)) (hval : Value.okWide P W .any b0 T v) (hd : DataW.Trod enc P W 0 (fun _ => true) true T v d ps) :
    ∃ (x : List α), SlRd [] W v x ∧ V x := by
  have hv : ∃ a n c, v = .slice a n c := by
    unfold Value.okWide Cell.okWide Cell.ok at hval
    rw [ht] at hval
    cases v with
    | slice a n c => exact ⟨a, n, c, rfl⟩
    | _ => exact hval.elim
  obtain ⟨a, n, c, rfl⟩ := hv
  obtain ⟨fuel, hf⟩ := hd
  obtain ⟨x, h1, h2⟩ := ho.2 enc W fuel _ _ hf
  obtain ⟨v', h3, h4⟩ := h1
  have : v' = .slice a n c := by
    have h5 : [Value.slice a n c] = [v'] := h3
    simpa using h5.symm
  subst this
  exact ⟨x, h4, h2⟩
theorem Qwr {α : Type} [Rep α] {e lim : Nat} (ht : P.underlying T = some (.slice e)) (hd : DataW.Trod enc P W 0 (fun _ => true) true T v d ps) {x : List α} (hs : SlRd [] W v x) (hw : (d.weights P T).all (· ≤ lim) = true) : x.length * P.bytesOf e ≤ lim := by
  obtain ⟨fuel, hf⟩ := hd
  have hv : ∃ a c, v = .slice a x.length c := by
    rcases hs with ⟨a0, rfl, rfl⟩ | ⟨b, off, cap, cur, ee, fz, rfl, _⟩
    · exact ⟨_, _, rfl⟩
    · exact ⟨_, _, rfl⟩
  obtain ⟨a, c, rfl⟩ := hv
  rcases DataW.trod_slice ht hf with ⟨h0, _⟩ | ⟨a2, len, cap, elems, rest, n, _, h1, h2, hb, hl, hm, hlen, hel, hsp, _⟩
  · have h5 : [Value.slice a x.length c] = [Value.slice none 0 0] := h0
    simp only [List.cons.injEq, Value.slice.injEq] at h5
    rw [h5.1.2.1]; simp
  · have h5 : [Value.slice a x.length c] = [Value.slice (some a2) len cap] := h1
    simp only [List.cons.injEq, Value.slice.injEq] at h5
    have hd2 := congrArg Prod.fst h2; simp only at hd2
    subst hd2
    unfold DataW.weights at hw
    rw [ht] at hw
    simp only [List.all_cons, Bool.and_eq_true, decide_eq_true_eq, List.length_map] at hw
    have h6 : elems.length = x.length := by omega
    rw [← h6]
    exact Nat.le_trans (Nat.mul_le_mul_right _ (Nat.le_add_right _ _)) hw.1
theorem QJp {T2 : TypeId} {d2 : DataW H} {lim : Nat} (h : (DataW.weightsEach P [T, T2] [d, d2]).all (· ≤ lim) = true) : (d.weights P T).all (· ≤ lim) = true ∧ (d2.weights P T2).all (· ≤ lim) = true := by
  simp only [DataW.weightsEach, List.all_append, List.append_nil, Bool.and_eq_true] at h
  exact h
end
end Go.Gw
