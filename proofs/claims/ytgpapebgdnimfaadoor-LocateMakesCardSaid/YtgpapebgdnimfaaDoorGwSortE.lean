/- slices.SortFunc at the edges of ranges: what it does to a slice of the call's own. No condition. -/
import Derived.Test.YtgpapebgdnimfaaDoorGwFacts
import Derived.Test.YtgpapebgdnimfaaDoorGwSort
import Derived.Test.YtgpapebgdnimfaaDoorGwPl
import Derived.Shelf.SlSortCmp.WholeK
import Derived.WalkKit
namespace Go.Gw
open Go Go.Proofs Go.Shelf Go.RowKit Go.Sort
set_option maxRecDepth 100000
def sortEdgeLays_ren : Go.Shelf.Ren := ⟨fun | 6 => 106 | 15 => 127 | 14 => 126 | 28 => 140 | 29 => 141 | 20 => 132 | 21 => 133 | 22 => 134 | 23 => 135 | 24 => 136 | 25 => 137 | 26 => 138 | 27 => 139 | 46 => 143 | 47 => 144 | 48 => 145 | 49 => 146 | 50 => 147 | 57 => 149 | n => n, fun | 22 => 149 | 24 => 152 | 25 => 154 | 3 => 3 | 39 => 168 | 0 => 0 | 53 => 178 | 55 => 180 | 4 => 4 | 46 => 171 | 45 => 170 | 50 => 175 | 5 => 5 | 9 => 9 | 66 => 181 | 70 => 185 | 76 => 187 | 77 => 75 | n => n, fun | n => n⟩
theorem sortEdgeLays : Go.Proofs.SlLaysF0.n6 Tryd.prog sortEdgeLays_ren :=
  { mixed := by kernel_rfl,
    f6 := ⟨Tryd.f106.name, by kernel_rfl, Tryd.func106.trans (congrArg some (by kernel_rfl))⟩,
    f14 := ⟨Tryd.f126.name, by kernel_rfl, Tryd.func126.trans (congrArg some (by kernel_rfl))⟩,
    f15 := Tryd.func127.trans (congrArg some (by kernel_rfl)),
    f20 := ⟨Tryd.f132.name, by kernel_rfl, Tryd.func132.trans (congrArg some (by kernel_rfl))⟩,
    f21 := ⟨Tryd.f133.name, by kernel_rfl, Tryd.func133.trans (congrArg some (by kernel_rfl))⟩,
    f22 := ⟨Tryd.f134.name, by kernel_rfl, Tryd.func134.trans (congrArg some (by kernel_rfl))⟩,
    f23 := ⟨Tryd.f135.name, by kernel_rfl, Tryd.func135.trans (congrArg some (by kernel_rfl))⟩,
    f24 := ⟨Tryd.f136.name, by kernel_rfl, Tryd.func136.trans (congrArg some (by kernel_rfl))⟩,
    f25 := ⟨Tryd.f137.name, by kernel_rfl, Tryd.func137.trans (congrArg some (by kernel_rfl))⟩,
    f26 := ⟨Tryd.f138.name, by kernel_rfl, Tryd.func138.trans (congrArg some (by kernel_rfl))⟩,
    f27 := ⟨Tryd.f139.name, by kernel_rfl, Tryd.func139.trans (congrArg some (by kernel_rfl))⟩,
    f28 := Tryd.func140.trans (congrArg some (by kernel_rfl)),
    f29 := Tryd.func141.trans (congrArg some (by kernel_rfl)),
    f46 := ⟨Tryd.f143.name, by kernel_rfl, Tryd.func143.trans (congrArg some (by kernel_rfl))⟩,
    f47 := Tryd.func144.trans (congrArg some (by kernel_rfl)),
    f48 := Tryd.func145.trans (congrArg some (by kernel_rfl)),
    f49 := ⟨Tryd.f146.name, by kernel_rfl, Tryd.func146.trans (congrArg some (by kernel_rfl))⟩,
    f50 := ⟨Tryd.f147.name, by kernel_rfl, Tryd.func147.trans (congrArg some (by kernel_rfl))⟩,
    f57 := ⟨Tryd.f149.name, by kernel_rfl, Tryd.func149.trans (congrArg some (by kernel_rfl))⟩,
    t0 := Tryd.underlying0,
    a0 := Tryd.isAgg0,
    z0 := Tryd.sizeOf0,
    v0 := Tryd.zeroValue0,
    t3 := Tryd.underlying3,
    a3 := Tryd.isAgg3,
    z3 := Tryd.sizeOf3,
    v3 := Tryd.zeroValue3,
    t4 := Tryd.underlying4,
    a4 := Tryd.isAgg4,
    z4 := Tryd.sizeOf4,
    v4 := Tryd.zeroValue4,
    t5 := Tryd.underlying5,
    a5 := Tryd.isAgg5,
    z5 := Tryd.sizeOf5,
    v5 := Tryd.zeroValue5,
    t9 := Tryd.underlying9,
    a9 := Tryd.isAgg9,
    z9 := Tryd.sizeOf9,
    v9 := Tryd.zeroValue9,
    t22 := Tryd.underlying149,
    a22 := Tryd.isAgg149,
    z22 := Tryd.sizeOf149,
    v22 := Tryd.zeroValue149,
    t25 := Tryd.underlying154,
    a25 := Tryd.isAgg154,
    z25 := Tryd.sizeOf154,
    v25 := Tryd.zeroValue154,
    t39 := Tryd.underlying168,
    a39 := Tryd.isAgg168,
    z39 := Tryd.sizeOf168,
    v39 := Tryd.zeroValue168,
    t45 := Tryd.underlying170,
    a45 := Tryd.isAgg170,
    z45 := Tryd.sizeOf170,
    v45 := Tryd.zeroValue170,
    t46 := Tryd.underlying171,
    a46 := Tryd.isAgg171,
    z46 := Tryd.sizeOf171,
    v46 := Tryd.zeroValue171,
    t50 := Tryd.underlying175,
    a50 := Tryd.isAgg175,
    z50 := Tryd.sizeOf175,
    v50 := Tryd.zeroValue175,
    t53 := Tryd.underlying178,
    a53 := Tryd.isAgg178,
    z53 := Tryd.sizeOf178,
    v53 := Tryd.zeroValue178,
    t55 := Tryd.underlying180,
    a55 := Tryd.isAgg180,
    z55 := Tryd.sizeOf180,
    v55 := Tryd.zeroValue180,
    t66 := Tryd.underlying181,
    a66 := Tryd.isAgg181,
    z66 := Tryd.sizeOf181,
    v66 := Tryd.zeroValue181,
    t70 := Tryd.underlying185,
    a70 := Tryd.isAgg185,
    z70 := Tryd.sizeOf185,
    v70 := Tryd.zeroValue185,
    t76 := Tryd.underlying187,
    a76 := Tryd.isAgg187,
    z76 := Tryd.sizeOf187,
    v76 := Tryd.zeroValue187,
    t77 := Tryd.underlying75,
    a77 := Tryd.isAgg75,
    z77 := Tryd.sizeOf75,
    v77 := Tryd.zeroValue75 }

/-- An edge at no great place. -/
abbrev EdgeB := { e : locate_edge // -1152921504606846976 ≤ e.at_ ∧ e.at_ ≤ 1152921504606846976 }
instance : Inhabited EdgeB := ⟨⟨⟨0, 0⟩, by decide⟩⟩
def encE (x : EdgeB) : List Value := [.int .i64 x.1.at_, .int .i64 x.1.by_]
def cfE (x y : EdgeB) : Int := x.1.at_ - y.1.at_
theorem ltE (x y : EdgeB) : ltOf cfE x y = decide (x.1.at_ < y.1.at_) := by
  unfold ltOf cfE
  by_cases h : x.1.at_ < y.1.at_
  · simp [h]; omega
  · simp [h]; omega
theorem swoE : SWO (ltOf cfE) where
  irrefl x := by rw [ltE]; simp
  trans x y z h1 h2 := by rw [ltE] at *; simp at *; omega
  ntrans x y z h1 h2 := by rw [ltE] at *; simp at *; omega

set_option maxHeartbeats 1000000 in
theorem cmpE (x y : EdgeB) (W : World) : Calls Tryd.prog 107 #[.agg #[.int .i64 x.1.at_, .int .i64 x.1.by_], .agg #[.int .i64 y.1.at_, .int .i64 y.1.by_]] W fun e w' => e = .returned (.int .i64 (cfE x y)) ∧ ∃ q os', w' = grow (W.drewN q) os' := by
  have hw : IntKind.i64.wrap (x.1.at_ - y.1.at_) = x.1.at_ - y.1.at_ := w64_id (by have := x.2; have := y.2; omega)
  have hw' : wrap64 (x.1.at_ - y.1.at_) = x.1.at_ - y.1.at_ := by have := x.2; have := y.2; unfold wrap64; omega
  go_enter Tryd.func107, Tryd.ntmps107
  go_wp2
  go_ret
  refine ⟨?_, 0, _, by rw [alloc_eq_grow, alloc_eq_grow, grow_grow]; rfl⟩
  unfold cfE
  first
    | rfl
    | rw [hw]
    | rw [hw']

theorem cmpLaysE (blk off size : Nat) (w : World) : CmpLays Tryd.prog 107 #[] encE 2 cfE blk off size w := fun _ _ _ _ x y => cmpE x y _

def boundsE : List locate_edge → List EdgeB
  | [] => []
  | e :: es => if h : -1152921504606846976 ≤ e.at_ ∧ e.at_ ≤ 1152921504606846976 then ⟨e, h⟩ :: boundsE es else []
theorem boundsE_val : ∀ (l : List locate_edge), (∀ e ∈ l, -1152921504606846976 ≤ e.at_ ∧ e.at_ ≤ 1152921504606846976) → (boundsE l).map (·.1) = l
  | [], _ => rfl
  | e :: es, h => by
    simp only [boundsE]
    rw [dif_pos (h e (List.mem_cons_self ..)), List.map_cons, boundsE_val es fun x hx => h x (List.mem_cons_of_mem _ hx)]

/-- The edges, sorted as pdqsort lays them. -/
noncomputable def sortL (d : Array EdgeB) : Array EdgeB := pdq (ltOf cfE) d 0 d.size (Lib.bitLen d.size) true true
noncomputable def sortE (xs : List locate_edge) : Option (List locate_edge) :=
  open Classical in if (∀ e ∈ xs, -1152921504606846976 ≤ e.at_ ∧ e.at_ ≤ 1152921504606846976) ∧ 0 < xs.length ∧ xs.length ≤ 1073741824 then some ((sortL (boundsE xs).toArray).toList.map (·.1)) else none

theorem sortE_ok {e : TypeId} {L : List Value} {w : World} {v : Value} {xs zs : List locate_edge} (h : Own e L w v xs) (hz : sortE xs = some zs) :
    CallsTo Tryd.prog 106 [v, .func (.func 107) #[] #[]] w (fun u w' => Chg [v] w w' ∧ (.tuple #[]) = u ∧ Own e L w' v zs) := by
  unfold sortE at hz
  split at hz
  · rename_i hc
    obtain ⟨hb, h0, hn⟩ := hc
    cases hz
    have hv := boundsE_val xs hb
    generalize boundsE xs = ys at hv
    have hlen : ys.length = xs.length := by rw [← hv]; simp
    have hown : Own e L w v (ys.toArray.toList.map (·.1)) := by rw [List.toList_toArray, hv]; exact h
    obtain ⟨g, cap, cur, hvv, hg, h4, h5, h6, h7, hH⟩ := Own.holds (enc := encE) (k := 2) (fun _ => rfl) rfl (fun cs a hrd => hrd) hown (by rw [List.size_toArray]; omega)
    have eg : ∀ args w, (callFunc 107 args).run Tryd.prog w = .ok (.enter 107 args) w := enters_of Tryd.func107 (by kernel_rfl) rfl
    have hcon := AnyQ.slices_SortFunc_eq sortEdgeLays 2 Tryd.isAgg152 Tryd.sizeOf152 encE (fun _ => rfl) (fun x v hv => by simp [encE] at hv; rcases hv with rfl | rfl <;> rfl) cfE swoE 107 #[] g 0 cap ys.toArray w eg (cmpLaysE g 0 _ w) hH (lt_of_some hg) (by simp; omega)
    subst hvv
    refine Calls.mono hcon fun e' w' he => ?_
    obtain ⟨rfl, n, os, rfl⟩ := he
    refine ⟨sort_chg hg, rfl, ?_⟩
    have hp := (pdq_sorts (ltOf cfE) swoE ys.toArray 0 ys.toArray.size (Lib.bitLen ys.toArray.size) true true (Nat.zero_le _) (Nat.le_refl _) (Or.inl rfl)).1
    exact Own.sorted (enc := encE) (k := 2) (fun _ => rfl) rfl (fun _ _ _ => rfl) hg h4 h5 h6 hp.1
  · cases hz

theorem sortE_some {xs : List locate_edge} (h : ∀ e ∈ xs, -1152921504606846976 ≤ e.at_ ∧ e.at_ ≤ 1152921504606846976) (h0 : 0 < xs.length) (h1 : xs.length ≤ 1073741824) :
    ∃ zs, sortE xs = some zs ∧ zs.Perm xs ∧ zs.Pairwise (fun a b => a.at_ ≤ b.at_) := by
  refine ⟨_, by unfold sortE; rw [if_pos ⟨h, h0, h1⟩], ?_, ?_⟩
  · have hp := (pdq_sorts (ltOf cfE) swoE (boundsE xs).toArray 0 (boundsE xs).toArray.size (Lib.bitLen (boundsE xs).toArray.size) true true (Nat.zero_le _) (Nat.le_refl _) (Or.inl rfl)).1
    have hs := hp.1
    have hp2 := hp.2.2
    have e1 : ∀ a : Array EdgeB, ∀ n, a.size = n → (a.extract 0 n).toList = a.toList := fun a n hn => by subst hn; simp
    rw [e1 _ _ hs, e1 _ _ rfl] at hp2
    have := hp2.map (·.1)
    rw [List.toList_toArray, boundsE_val xs h] at this
    exact this
  · have hp := pdq_sorts (ltOf cfE) swoE (boundsE xs).toArray 0 (boundsE xs).toArray.size (Lib.bitLen (boundsE xs).toArray.size) true true (Nat.zero_le _) (Nat.le_refl _) (Or.inl rfl)
    have hs := hp.1.1
    have h2 := hp.2
    rw [List.pairwise_map, List.pairwise_iff_getElem]
    intro i j hi hj hij
    have hi' : i < (sortL (boundsE xs).toArray).size := by simpa using hi
    have hj' : j < (sortL (boundsE xs).toArray).size := by simpa using hj
    have h3 := h2 i j (Nat.zero_le _) hij (by rw [← hs]; exact hj')
    rw [ltE] at h3
    have e3 : ∀ (k : Nat) (hk : k < (sortL (boundsE xs).toArray).size), (sortL (boundsE xs).toArray)[k]! = (sortL (boundsE xs).toArray).toList[k]'(by simpa using hk) := fun k hk => by rw [getElem!_pos _ k hk]; simp
    have e4 := e3 i hi'
    have e5 := e3 j hj'
    unfold sortL at e4 e5 ⊢
    rw [e4, e5] at h3
    simp only [decide_eq_false_iff_not] at h3
    omega
end Go.Gw
