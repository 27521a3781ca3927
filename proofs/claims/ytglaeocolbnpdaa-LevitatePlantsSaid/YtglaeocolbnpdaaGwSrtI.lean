/- slices.Sort at ints: what it does to a slice of the call's own. No condition. -/
import Derived.Test.YtglaeocolbnpdaaGwDelE
import Derived.Shelf.SortM.Plain
namespace Go.Gw
open Go Go.Proofs Go.Shelf Go.RowKit Go.Sort Go.Lib
set_option maxRecDepth 100000
def srtLays_ren : Go.Shelf.Ren := ⟨fun | 5 => 44 | 8 => 73 | 7 => 72 | 19 => 100 | 20 => 101 | 10 => 91 | 11 => 92 | 12 => 93 | 13 => 94 | 14 => 95 | 15 => 96 | 16 => 97 | 17 => 98 | 18 => 99 | 30 => 114 | 31 => 115 | 32 => 116 | 33 => 117 | 34 => 118 | 35 => 119 | 40 => 125 | n => n, fun | 23 => 23 | 25 => 3 | 3 => 3 | 32 => 112 | 22 => 23 | 0 => 0 | 44 => 139 | 46 => 118 | 4 => 4 | 36 => 133 | 35 => 132 | 41 => 103 | 5 => 5 | 9 => 9 | 53 => 151 | 57 => 155 | 63 => 159 | 64 => 44 | n => n, fun n => n⟩
theorem srtLays : Go.Proofs.SlLaysM.n5 Try.prog srtLays_ren :=
  { mixed := by kernel_rfl,
    f5 := ⟨Try.f44.name, by kernel_rfl, Try.func44.trans (congrArg some (by kernel_rfl))⟩,
    f7 := ⟨Try.f72.name, by kernel_rfl, Try.func72.trans (congrArg some (by kernel_rfl))⟩,
    f8 := Try.func73.trans (congrArg some (by kernel_rfl)),
    f10 := ⟨Try.f91.name, by kernel_rfl, Try.func91.trans (congrArg some (by kernel_rfl))⟩,
    f11 := ⟨Try.f92.name, by kernel_rfl, Try.func92.trans (congrArg some (by kernel_rfl))⟩,
    f12 := ⟨Try.f93.name, by kernel_rfl, Try.func93.trans (congrArg some (by kernel_rfl))⟩,
    f13 := ⟨Try.f94.name, by kernel_rfl, Try.func94.trans (congrArg some (by kernel_rfl))⟩,
    f14 := ⟨Try.f95.name, by kernel_rfl, Try.func95.trans (congrArg some (by kernel_rfl))⟩,
    f15 := ⟨Try.f96.name, by kernel_rfl, Try.func96.trans (congrArg some (by kernel_rfl))⟩,
    f16 := ⟨Try.f97.name, by kernel_rfl, Try.func97.trans (congrArg some (by kernel_rfl))⟩,
    f17 := ⟨Try.f98.name, by kernel_rfl, Try.func98.trans (congrArg some (by kernel_rfl))⟩,
    f18 := ⟨Try.f99.name, by kernel_rfl, Try.func99.trans (congrArg some (by kernel_rfl))⟩,
    f19 := Try.func100.trans (congrArg some (by kernel_rfl)),
    f20 := Try.func101.trans (congrArg some (by kernel_rfl)),
    f30 := ⟨Try.f114.name, by kernel_rfl, Try.func114.trans (congrArg some (by kernel_rfl))⟩,
    f31 := Try.func115.trans (congrArg some (by kernel_rfl)),
    f32 := Try.func116.trans (congrArg some (by kernel_rfl)),
    f33 := ⟨Try.f117.name, by kernel_rfl, Try.func117.trans (congrArg some (by kernel_rfl))⟩,
    f34 := ⟨Try.f118.name, by kernel_rfl, Try.func118.trans (congrArg some (by kernel_rfl))⟩,
    f35 := ⟨Try.f119.name, by kernel_rfl, Try.func119.trans (congrArg some (by kernel_rfl))⟩,
    f40 := ⟨Try.f125.name, by kernel_rfl, Try.func125.trans (congrArg some (by kernel_rfl))⟩,
    t0 := Try.underlying0,
    a0 := Try.isAgg0,
    z0 := Try.sizeOf0,
    v0 := Try.zeroValue0,
    t3 := Try.underlying3,
    a3 := Try.isAgg3,
    z3 := Try.sizeOf3,
    v3 := Try.zeroValue3,
    t4 := Try.underlying4,
    a4 := Try.isAgg4,
    z4 := Try.sizeOf4,
    v4 := Try.zeroValue4,
    t5 := Try.underlying5,
    a5 := Try.isAgg5,
    z5 := Try.sizeOf5,
    v5 := Try.zeroValue5,
    t9 := Try.underlying9,
    a9 := Try.isAgg9,
    z9 := Try.sizeOf9,
    v9 := Try.zeroValue9,
    t22 := Try.underlying23,
    a22 := Try.isAgg23,
    z22 := Try.sizeOf23,
    v22 := Try.zeroValue23,
    t23 := Try.underlying23,
    a23 := Try.isAgg23,
    z23 := Try.sizeOf23,
    v23 := Try.zeroValue23,
    t25 := Try.underlying3,
    a25 := Try.isAgg3,
    z25 := Try.sizeOf3,
    v25 := Try.zeroValue3,
    t32 := Try.underlying112,
    a32 := Try.isAgg112,
    z32 := Try.sizeOf112,
    v32 := Try.zeroValue112,
    t35 := Try.underlying132,
    a35 := Try.isAgg132,
    z35 := Try.sizeOf132,
    v35 := Try.zeroValue132,
    t36 := Try.underlying133,
    a36 := Try.isAgg133,
    z36 := Try.sizeOf133,
    v36 := Try.zeroValue133,
    t41 := Try.underlying103,
    a41 := Try.isAgg103,
    z41 := Try.sizeOf103,
    v41 := Try.zeroValue103,
    t44 := Try.underlying139,
    a44 := Try.isAgg139,
    z44 := Try.sizeOf139,
    v44 := Try.zeroValue139,
    t46 := Try.underlying118,
    a46 := Try.isAgg118,
    z46 := Try.sizeOf118,
    v46 := Try.zeroValue118,
    t53 := Try.underlying151,
    a53 := Try.isAgg151,
    z53 := Try.sizeOf151,
    v53 := Try.zeroValue151,
    t57 := Try.underlying155,
    a57 := Try.isAgg155,
    z57 := Try.sizeOf155,
    v57 := Try.zeroValue155,
    t63 := Try.underlying159,
    a63 := Try.isAgg159,
    z63 := Try.sizeOf159,
    v63 := Try.zeroValue159,
    t64 := Try.underlying44,
    a64 := Try.isAgg44,
    z64 := Try.sizeOf44,
    v64 := Try.zeroValue44 }
noncomputable def srtI (xs : List Int) : Option (List Int) :=
  if 0 < xs.length ∧ xs.length ≤ 1073741824 then some (xs.mergeSort fun x y => decide (x ≤ y)) else none
theorem srtI_ok {e : TypeId} {L : List Value} {w : World} {v : Value} {xs zs : List Int} (h : Own e L w v xs) (hz : srtI xs = some zs) :
    CallsTo Try.prog 44 [v] w (fun u w' => Chg [v] w w' ∧ (.tuple #[]) = u ∧ Own e L w' v zs) := by
  unfold srtI at hz
  split at hz
  · rename_i hc
    cases hz
    have hown : Own e L w v (xs.toArray.toList.map id) := by simpa using h
    obtain ⟨g, cap, cur, hvv, hg, h5, h6, h7, hH⟩ := own_row (enc := Value.int .i64) (to := id) (fun _ => rfl) hown (by rw [List.size_toArray]; omega)
    have hcon := AnyM.slices_Sort_int srtLays g 0 cap xs w hH (lt_of_some hg) (by omega)
    subst hvv
    simp only [List.size_toArray] at *
    refine Calls.mono hcon fun e' w' he => ?_
    obtain ⟨rfl, q, os, rfl⟩ := he
    have hlen : (xs.mergeSort fun x y => decide (x ≤ y)).length = xs.length := List.length_mergeSort _
    have hgrow : ∀ (b : Nat) (o : Obj), (putRow (Value.int .i64) (Sort.ahead w q) g 0 (xs.mergeSort fun x y => decide (x ≤ y)).toArray).heap[b]? = some o → (grow (putRow (Value.int .i64) (Sort.ahead w q) g 0 (xs.mergeSort fun x y => decide (x ≤ y)).toArray) os).heap[b]? = some o := by
      intro b o hb
      show (_ ++ os)[b]? = _
      have hlt := (Array.getElem?_eq_some_iff.1 hb).1
      rw [Array.getElem?_append_left hlt]; exact hb
    have hch : Chg [.slice (some ⟨g, 0, none⟩) xs.length cap] w (putRow (Value.int .i64) (Sort.ahead w q) g 0 (xs.mergeSort fun x y => decide (x ≤ y)).toArray) := row_chg
    refine ⟨⟨hch.os, hch.tape, hch.output, ?_, fun b hb hA => ?_⟩, rfl, own_cut (hgrow _ _ (row_heap hg)) hlen h5 h6 (by simp [putCells, h7]) fun t ht => ?_⟩
    · refine Nat.le_trans hch.size ?_
      show _ ≤ (_ ++ os).size
      rw [Array.size_append]; omega
    · have h1 := hch.block b hb hA
      obtain ⟨o, ho⟩ : ∃ o, w.heap[b]? = some o := ⟨_, Array.getElem?_eq_getElem hb⟩
      rw [ho] at h1 ⊢
      exact hgrow b o h1
    · rw [put_get (by rw [List.size_toArray]; exact ht) (by rw [List.size_toArray]; omega), getElem!_pos _ _ (by rw [List.size_toArray]; exact ht)]
      simp
  · cases hz
end Go.Gw
