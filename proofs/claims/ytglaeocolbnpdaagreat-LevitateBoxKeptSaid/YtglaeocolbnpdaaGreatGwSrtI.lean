/- slices.Sort at ints: what it does to a slice of the call's own. No condition. -/
import Derived.Test.YtglaeocolbnpdaaGreatGwDelE
import Derived.Shelf.SortM.Plain
namespace Go.Gw
open Go Go.Proofs Go.Shelf Go.RowKit Go.Sort Go.Lib
set_option maxRecDepth 100000
def srtLays_ren : Go.Shelf.Ren := ⟨fun | 5 => 129 | 8 => 158 | 7 => 157 | 19 => 184 | 20 => 185 | 10 => 175 | 11 => 176 | 12 => 177 | 13 => 178 | 14 => 179 | 15 => 180 | 16 => 181 | 17 => 182 | 18 => 183 | 30 => 189 | 31 => 190 | 32 => 191 | 33 => 192 | 34 => 193 | 35 => 174 | 40 => 194 | n => n, fun | 23 => 23 | 25 => 3 | 3 => 3 | 32 => 197 | 22 => 23 | 0 => 0 | 44 => 215 | 46 => 174 | 4 => 4 | 36 => 209 | 35 => 208 | 41 => 51 | 5 => 5 | 9 => 9 | 53 => 217 | 57 => 221 | 63 => 223 | 64 => 49 | n => n, fun n => n⟩
theorem srtLays : Go.Proofs.SlLaysM.n5 Tryz.prog srtLays_ren :=
  { mixed := by kernel_rfl,
    f5 := ⟨Tryz.f129.name, by kernel_rfl, Tryz.func129.trans (congrArg some (by kernel_rfl))⟩,
    f7 := ⟨Tryz.f157.name, by kernel_rfl, Tryz.func157.trans (congrArg some (by kernel_rfl))⟩,
    f8 := Tryz.func158.trans (congrArg some (by kernel_rfl)),
    f10 := ⟨Tryz.f175.name, by kernel_rfl, Tryz.func175.trans (congrArg some (by kernel_rfl))⟩,
    f11 := ⟨Tryz.f176.name, by kernel_rfl, Tryz.func176.trans (congrArg some (by kernel_rfl))⟩,
    f12 := ⟨Tryz.f177.name, by kernel_rfl, Tryz.func177.trans (congrArg some (by kernel_rfl))⟩,
    f13 := ⟨Tryz.f178.name, by kernel_rfl, Tryz.func178.trans (congrArg some (by kernel_rfl))⟩,
    f14 := ⟨Tryz.f179.name, by kernel_rfl, Tryz.func179.trans (congrArg some (by kernel_rfl))⟩,
    f15 := ⟨Tryz.f180.name, by kernel_rfl, Tryz.func180.trans (congrArg some (by kernel_rfl))⟩,
    f16 := ⟨Tryz.f181.name, by kernel_rfl, Tryz.func181.trans (congrArg some (by kernel_rfl))⟩,
    f17 := ⟨Tryz.f182.name, by kernel_rfl, Tryz.func182.trans (congrArg some (by kernel_rfl))⟩,
    f18 := ⟨Tryz.f183.name, by kernel_rfl, Tryz.func183.trans (congrArg some (by kernel_rfl))⟩,
    f19 := Tryz.func184.trans (congrArg some (by kernel_rfl)),
    f20 := Tryz.func185.trans (congrArg some (by kernel_rfl)),
    f30 := ⟨Tryz.f189.name, by kernel_rfl, Tryz.func189.trans (congrArg some (by kernel_rfl))⟩,
    f31 := Tryz.func190.trans (congrArg some (by kernel_rfl)),
    f32 := Tryz.func191.trans (congrArg some (by kernel_rfl)),
    f33 := ⟨Tryz.f192.name, by kernel_rfl, Tryz.func192.trans (congrArg some (by kernel_rfl))⟩,
    f34 := ⟨Tryz.f193.name, by kernel_rfl, Tryz.func193.trans (congrArg some (by kernel_rfl))⟩,
    f35 := ⟨Tryz.f174.name, by kernel_rfl, Tryz.func174.trans (congrArg some (by kernel_rfl))⟩,
    f40 := ⟨Tryz.f194.name, by kernel_rfl, Tryz.func194.trans (congrArg some (by kernel_rfl))⟩,
    t0 := Tryz.underlying0,
    a0 := Tryz.isAgg0,
    z0 := Tryz.sizeOf0,
    v0 := Tryz.zeroValue0,
    t3 := Tryz.underlying3,
    a3 := Tryz.isAgg3,
    z3 := Tryz.sizeOf3,
    v3 := Tryz.zeroValue3,
    t4 := Tryz.underlying4,
    a4 := Tryz.isAgg4,
    z4 := Tryz.sizeOf4,
    v4 := Tryz.zeroValue4,
    t5 := Tryz.underlying5,
    a5 := Tryz.isAgg5,
    z5 := Tryz.sizeOf5,
    v5 := Tryz.zeroValue5,
    t9 := Tryz.underlying9,
    a9 := Tryz.isAgg9,
    z9 := Tryz.sizeOf9,
    v9 := Tryz.zeroValue9,
    t22 := Tryz.underlying23,
    a22 := Tryz.isAgg23,
    z22 := Tryz.sizeOf23,
    v22 := Tryz.zeroValue23,
    t23 := Tryz.underlying23,
    a23 := Tryz.isAgg23,
    z23 := Tryz.sizeOf23,
    v23 := Tryz.zeroValue23,
    t25 := Tryz.underlying3,
    a25 := Tryz.isAgg3,
    z25 := Tryz.sizeOf3,
    v25 := Tryz.zeroValue3,
    t32 := Tryz.underlying197,
    a32 := Tryz.isAgg197,
    z32 := Tryz.sizeOf197,
    v32 := Tryz.zeroValue197,
    t35 := Tryz.underlying208,
    a35 := Tryz.isAgg208,
    z35 := Tryz.sizeOf208,
    v35 := Tryz.zeroValue208,
    t36 := Tryz.underlying209,
    a36 := Tryz.isAgg209,
    z36 := Tryz.sizeOf209,
    v36 := Tryz.zeroValue209,
    t41 := Tryz.underlying51,
    a41 := Tryz.isAgg51,
    z41 := Tryz.sizeOf51,
    v41 := Tryz.zeroValue51,
    t44 := Tryz.underlying215,
    a44 := Tryz.isAgg215,
    z44 := Tryz.sizeOf215,
    v44 := Tryz.zeroValue215,
    t46 := Tryz.underlying174,
    a46 := Tryz.isAgg174,
    z46 := Tryz.sizeOf174,
    v46 := Tryz.zeroValue174,
    t53 := Tryz.underlying217,
    a53 := Tryz.isAgg217,
    z53 := Tryz.sizeOf217,
    v53 := Tryz.zeroValue217,
    t57 := Tryz.underlying221,
    a57 := Tryz.isAgg221,
    z57 := Tryz.sizeOf221,
    v57 := Tryz.zeroValue221,
    t63 := Tryz.underlying223,
    a63 := Tryz.isAgg223,
    z63 := Tryz.sizeOf223,
    v63 := Tryz.zeroValue223,
    t64 := Tryz.underlying49,
    a64 := Tryz.isAgg49,
    z64 := Tryz.sizeOf49,
    v64 := Tryz.zeroValue49 }
noncomputable def srtI (xs : List Int) : Option (List Int) :=
  if 0 < xs.length ∧ xs.length ≤ 1073741824 then some (xs.mergeSort fun x y => decide (x ≤ y)) else none
theorem srtI_ok {e : TypeId} {L : List Value} {w : World} {v : Value} {xs zs : List Int} (h : Own e L w v xs) (hz : srtI xs = some zs) :
    CallsTo Tryz.prog 129 [v] w (fun u w' => Chg [v] w w' ∧ (.tuple #[]) = u ∧ Own e L w' v zs) := by
  unfold srtI at hz
  split at hz
  · rename_i hc
    cases hz
    have hown : Own e L w v (xs.toArray.toList.map id) := by simpa using h
    obtain ⟨g, cap, cur, hvv, hg, h5, h6, h7, hH⟩ := own_row (enc := Value.int .i64) (to := id) (fun _ => rfl) hown (by rw [List.size_toArray]; omega)
    have hcon := AnyM.slices_Sort_int srtLays g 0 cap xs w hH (lt_of_some hg) (by omega)
    subst hvv
    simp only [List.size_toArray] at *
    refine Calls.mono hcon fun e' w' he => ?_
    obtain ⟨rfl, q, os, rfl⟩ := he
    have hlen : (xs.mergeSort fun x y => decide (x ≤ y)).length = xs.length := List.length_mergeSort _
    have hgrow : ∀ (b : Nat) (o : Obj), (putRow (Value.int .i64) (Sort.ahead w q) g 0 (xs.mergeSort fun x y => decide (x ≤ y)).toArray).heap[b]? = some o → (grow (putRow (Value.int .i64) (Sort.ahead w q) g 0 (xs.mergeSort fun x y => decide (x ≤ y)).toArray) os).heap[b]? = some o := by
      intro b o hb
      show (_ ++ os)[b]? = _
      have hlt := (Array.getElem?_eq_some_iff.1 hb).1
      rw [Array.getElem?_append_left hlt]; exact hb
    have hch : Chg [.slice (some ⟨g, 0, none⟩) xs.length cap] w (putRow (Value.int .i64) (Sort.ahead w q) g 0 (xs.mergeSort fun x y => decide (x ≤ y)).toArray) := row_chg
    refine ⟨⟨hch.os, hch.tape, hch.output, ?_, fun b hb hA => ?_⟩, rfl, own_cut (hgrow _ _ (row_heap hg)) hlen h5 h6 (by simp [putCells, h7]) fun t ht => ?_⟩
    · refine Nat.le_trans hch.size ?_
      show _ ≤ (_ ++ os).size
      rw [Array.size_append]; omega
    · have h1 := hch.block b hb hA
      obtain ⟨o, ho⟩ : ∃ o, w.heap[b]? = some o := ⟨_, Array.getElem?_eq_getElem hb⟩
      rw [ho] at h1 ⊢
      exact hgrow b o h1
    · rw [put_get (by rw [List.size_toArray]; exact ht) (by rw [List.size_toArray]; omega), getElem!_pos _ _ (by rw [List.size_toArray]; exact ht)]
      simp
  · cases hz
end Go.Gw
