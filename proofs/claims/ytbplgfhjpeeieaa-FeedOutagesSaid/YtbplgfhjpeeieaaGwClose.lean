/- The closing of a law's row: what the walk gives is what the row asks. No condition. -/
import Derived.Test.YtbplgfhjpeeieaaGwOpen
import Derived.Test.YtbplgfhjpeeieaaGwCj23
import Derived.WalkKit
import Derived.ProofKit
import Derived.OpenShut
import Derived.Carry
import Derived.Deep.DeepHandedRow
import Derived.Lib.LaidTab
set_option linter.unusedVariables false
set_option linter.unusedSimpArgs false
set_option linter.unusedSectionVars false
namespace Go.Gw
open Go Go.ChangeShapes Go.WideShapes Go.RowKit

def Qgy (P : Program) (ts : List TypeId) : Bool:=ts.all fun t=>P.readableRec t && decide (t < P.types.size)
theorem QBx {H : Type} {enc : TypeId × Value → H} {P : Program} (hl : laidOutB P = true) {W W' : World} (hb : Below W.heap.size W W') : ∀ {ts : List TypeId} {vs : List Value} {ds : List (DataW H)} {ps : List MemPlace}, Qgy P ts = true →
    DataW.TrodAll enc P W 0 (fun _=>true) true ts vs ds ps → (∀ x ∈ ps,x.block < W.heap.size) → DataW.TrodAll enc P W' 0 (fun b=>decide (b < W.heap.size)) true ts vs ds ps
  | [],vs,ds,ps,_,h,_=>by
    obtain ⟨rfl,rfl,rfl⟩:=trodAll_nil h
    rfl
  | t :: ts,vs,ds,ps,hr,h,hlt=>by
    simp only [Qgy,List.all_cons,Bool.and_eq_true,decide_eq_true_eq] at hr
    obtain ⟨v,vs',d,ds',p,q,rfl,rfl,rfl,h1,h2⟩:=trodAll_cons h
    exact ⟨p,q,Below.trod hl hr.1.1 hr.1.2 h1 hb (fun x hx=>hlt x (List.mem_append_left _ hx)),QBx hl hb (by simpa [Qgy] using hr.2) h2 (fun x hx=>hlt x (List.mem_append_right _ hx)),rfl⟩

theorem QKu {H : Type} {enc : TypeId × Value → H} {P : Program} {f : Func} {s : ChangeSpec} {W W' : World} {args : Array Value} {ds gs : List (DataW H)} {before : List MemPlace} {B : TypeId} (hl : laidOutB P = true) (hr : Qgy P f.params.toList = true)
    (hW : DataW.Whole enc P f.params.toList s.vars false W args.toList ds gs before) (hv : s.vars = []) (hres : (s.fn H (ds ++ gs)).results = [.lit (.bool true)]) (hargs : (s.fn H (ds ++ gs)).args = ds) (hvars : (s.fn H (ds ++ gs)).vars = [])
    (hrt : f.resultTypes = #[B]) (hB : P.underlying B = some .bool) (he : Ext W W') : s.post enc P f false true false false W args (.bool true) W':=by
  have hlt:=hW.lt
  have hW':=hW
  obtain ⟨p,q,hA,hV,rfl,hfz,hnd⟩:=hW
  rw [hv] at hV
  obtain ⟨rfl,rfl⟩:=trodVars_none hV
  refine ⟨ds,[],p ++ [],[],p,[],hW',?_,?_,?_,?_,fun h=>by cases h⟩
  · rw [hres,hrt]; exact trodAll_cons_mk (shut_bool hB _) trodAll_mk0
  · rw [hargs]; exact QBx hl he.below hr hA (fun x hx=>hlt x (by simpa using hx))
  · rw [hvars,hv]; rfl
  · exact he.below.frame _

/-! ### Arguments -/
section
variable {H : Type} {enc : TypeId × Value → H} {P : Program} {W : World} {b0 : Nat} {T : TypeId} {v : Value} {d : DataW H} {ps : List MemPlace}
theorem QDb {α : Type} [Rep α] {V : α → Prop} {fs : Array Field} (ho : Y0 P T α V) (ht : P.underlying T = some (.struct fs)) (hval : Value.okWide P W .any b0 T v) (hd : DataW.Trod enc P W 0 (fun _ => true) true T v d ps) :
    ∃ (cs : List Value) (x : α),v = .agg cs.toArray ∧ Rep.rd [] W cs x ∧ V x:=by
  unfold Value.okWide at hval
  rw [ht] at hval
  obtain ⟨cs,rfl,_⟩:=hval
  obtain ⟨fuel,hf⟩:=hd
  obtain ⟨x,h1,h2⟩:=ho.2 enc W fuel _ _ hf
  exact ⟨cs.toList,x,by simp,h1,h2⟩
theorem Qrt {α : Type} [Rep α] {V : List α → Prop} {e : TypeId} (ho : Y0 P T (List α) V) (ht : P.underlying T = some (.slice e)) (hval : Value.okWide P W .any b0 T v) (hd : DataW.Trod enc P W 0 (fun _ => true) true T v d ps) :
    ∃ (x : List α),SlRd [] W v x ∧ V x:=by
  have hv : ∃ a n c,v = .slice a n c:=by
    unfold Value.okWide Cell.okWide Cell.ok at hval
    rw [ht] at hval
    cases v with
    | slice a n c=>exact ⟨a,n,c,rfl⟩
    | _=>exact hval.elim
  obtain ⟨a,n,c,rfl⟩:=hv
  obtain ⟨fuel,hf⟩:=hd
  obtain ⟨x,h1,h2⟩:=ho.2 enc W fuel _ _ hf
  obtain ⟨v',h3,h4⟩:=h1
  have : v' = .slice a n c:=by
    have h5 : [Value.slice a n c] = [v']:=h3
    simpa using h5.symm
  subst this
  exact ⟨x,h4,h2⟩
end
end Go.Gw
