/- slices.SortFunc at the edges of ranges: what it does to a slice of the call's own. No condition. -/
import Derived.Test.YtgpapebgdnimfaaGwFacts
import Derived.Test.YtgpapebgdnimfaaGwSort
import Derived.Test.YtgpapebgdnimfaaGwPl
import Derived.Shelf.SlSortCmp.WholeK
import Derived.WalkKit
namespace Go.Gw
open Go Go.Proofs Go.Shelf Go.RowKit Go.Sort
set_option maxRecDepth 100000
def sortEdgeLays_ren : Go.Shelf.Ren := ⟨fun | 6 => 41 | 15 => 54 | 14 => 53 | 28 => 72 | 29 => 73 | 20 => 64 | 21 => 65 | 22 => 66 | 23 => 67 | 24 => 68 | 25 => 69 | 26 => 70 | 27 => 71 | 46 => 74 | 47 => 75 | 48 => 76 | 49 => 77 | 50 => 78 | 57 => 79 | n => n, fun | 22 => 84 | 24 => 86 | 25 => 88 | 3 => 3 | 39 => 95 | 0 => 0 | 53 => 112 | 55 => 114 | 4 => 4 | 46 => 105 | 45 => 104 | 50 => 109 | 5 => 5 | 9 => 9 | 66 => 115 | 70 => 119 | 76 => 121 | 77 => 65 | n => n, fun | n => n⟩
theorem sortEdgeLays : Go.Proofs.SlLaysF0.n6 Try.prog sortEdgeLays_ren :=
  { mixed := by kernel_rfl,
    f6 := ⟨Try.f41.name, by kernel_rfl, Try.func41.trans (congrArg some (by kernel_rfl))⟩,
    f14 := ⟨Try.f53.name, by kernel_rfl, Try.func53.trans (congrArg some (by kernel_rfl))⟩,
    f15 := Try.func54.trans (congrArg some (by kernel_rfl)),
    f20 := ⟨Try.f64.name, by kernel_rfl, Try.func64.trans (congrArg some (by kernel_rfl))⟩,
    f21 := ⟨Try.f65.name, by kernel_rfl, Try.func65.trans (congrArg some (by kernel_rfl))⟩,
    f22 := ⟨Try.f66.name, by kernel_rfl, Try.func66.trans (congrArg some (by kernel_rfl))⟩,
    f23 := ⟨Try.f67.name, by kernel_rfl, Try.func67.trans (congrArg some (by kernel_rfl))⟩,
    f24 := ⟨Try.f68.name, by kernel_rfl, Try.func68.trans (congrArg some (by kernel_rfl))⟩,
    f25 := ⟨Try.f69.name, by kernel_rfl, Try.func69.trans (congrArg some (by kernel_rfl))⟩,
    f26 := ⟨Try.f70.name, by kernel_rfl, Try.func70.trans (congrArg some (by kernel_rfl))⟩,
    f27 := ⟨Try.f71.name, by kernel_rfl, Try.func71.trans (congrArg some (by kernel_rfl))⟩,
    f28 := Try.func72.trans (congrArg some (by kernel_rfl)),
    f29 := Try.func73.trans (congrArg some (by kernel_rfl)),
    f46 := ⟨Try.f74.name, by kernel_rfl, Try.func74.trans (congrArg some (by kernel_rfl))⟩,
    f47 := Try.func75.trans (congrArg some (by kernel_rfl)),
    f48 := Try.func76.trans (congrArg some (by kernel_rfl)),
    f49 := ⟨Try.f77.name, by kernel_rfl, Try.func77.trans (congrArg some (by kernel_rfl))⟩,
    f50 := ⟨Try.f78.name, by kernel_rfl, Try.func78.trans (congrArg some (by kernel_rfl))⟩,
    f57 := ⟨Try.f79.name, by kernel_rfl, Try.func79.trans (congrArg some (by kernel_rfl))⟩,
    t0 := Try.underlying0,
    a0 := Try.isAgg0,
    z0 := Try.sizeOf0,
    v0 := Try.zeroValue0,
    t3 := Try.underlying3,
    a3 := Try.isAgg3,
    z3 := Try.sizeOf3,
    v3 := Try.zeroValue3,
    t4 := Try.underlying4,
    a4 := Try.isAgg4,
    z4 := Try.sizeOf4,
    v4 := Try.zeroValue4,
    t5 := Try.underlying5,
    a5 := Try.isAgg5,
    z5 := Try.sizeOf5,
    v5 := Try.zeroValue5,
    t9 := Try.underlying9,
    a9 := Try.isAgg9,
    z9 := Try.sizeOf9,
    v9 := Try.zeroValue9,
    t22 := Try.underlying84,
    a22 := Try.isAgg84,
    z22 := Try.sizeOf84,
    v22 := Try.zeroValue84,
    t25 := Try.underlying88,
    a25 := Try.isAgg88,
    z25 := Try.sizeOf88,
    v25 := Try.zeroValue88,
    t39 := Try.underlying95,
    a39 := Try.isAgg95,
    z39 := Try.sizeOf95,
    v39 := Try.zeroValue95,
    t45 := Try.underlying104,
    a45 := Try.isAgg104,
    z45 := Try.sizeOf104,
    v45 := Try.zeroValue104,
    t46 := Try.underlying105,
    a46 := Try.isAgg105,
    z46 := Try.sizeOf105,
    v46 := Try.zeroValue105,
    t50 := Try.underlying109,
    a50 := Try.isAgg109,
    z50 := Try.sizeOf109,
    v50 := Try.zeroValue109,
    t53 := Try.underlying112,
    a53 := Try.isAgg112,
    z53 := Try.sizeOf112,
    v53 := Try.zeroValue112,
    t55 := Try.underlying114,
    a55 := Try.isAgg114,
    z55 := Try.sizeOf114,
    v55 := Try.zeroValue114,
    t66 := Try.underlying115,
    a66 := Try.isAgg115,
    z66 := Try.sizeOf115,
    v66 := Try.zeroValue115,
    t70 := Try.underlying119,
    a70 := Try.isAgg119,
    z70 := Try.sizeOf119,
    v70 := Try.zeroValue119,
    t76 := Try.underlying121,
    a76 := Try.isAgg121,
    z76 := Try.sizeOf121,
    v76 := Try.zeroValue121,
    t77 := Try.underlying65,
    a77 := Try.isAgg65,
    z77 := Try.sizeOf65,
    v77 := Try.zeroValue65 }

/-- An edge at no great place. -/
abbrev EdgeB := { e : locate_edge // -1152921504606846976 ≤ e.at_ ∧ e.at_ ≤ 1152921504606846976 }
instance : Inhabited EdgeB := ⟨⟨⟨0, 0⟩, by decide⟩⟩
def encE (x : EdgeB) : List Value := [.int .i64 x.1.at_, .int .i64 x.1.by_]
def cfE (x y : EdgeB) : Int := x.1.at_ - y.1.at_
theorem ltE (x y : EdgeB) : ltOf cfE x y = decide (x.1.at_ < y.1.at_) := by
  unfold ltOf cfE
  by_cases h : x.1.at_ < y.1.at_
  · simp [h]; omega
  · simp [h]; omega
theorem swoE : SWO (ltOf cfE) where
  irrefl x := by rw [ltE]; simp
  trans x y z h1 h2 := by rw [ltE] at *; simp at *; omega
  ntrans x y z h1 h2 := by rw [ltE] at *; simp at *; omega

set_option maxHeartbeats 1000000 in
theorem cmpE (x y : EdgeB) (W : World) : Calls Try.prog 42 #[.agg #[.int .i64 x.1.at_, .int .i64 x.1.by_], .agg #[.int .i64 y.1.at_, .int .i64 y.1.by_]] W fun e w' => e = .returned (.int .i64 (cfE x y)) ∧ ∃ q os', w' = grow (W.drewN q) os' := by
  have hw : IntKind.i64.wrap (x.1.at_ - y.1.at_) = x.1.at_ - y.1.at_ := w64_id (by have := x.2; have := y.2; omega)
  have hw' : wrap64 (x.1.at_ - y.1.at_) = x.1.at_ - y.1.at_ := by have := x.2; have := y.2; unfold wrap64; omega
  go_enter Try.func42, Try.ntmps42
  go_wp2
  go_ret
  refine ⟨?_, 0, _, by rw [alloc_eq_grow, alloc_eq_grow, grow_grow]; rfl⟩
  unfold cfE
  first
    | rfl
    | rw [hw]
    | rw [hw']

theorem cmpLaysE (blk off size : Nat) (w : World) : CmpLays Try.prog 42 #[] encE 2 cfE blk off size w := fun _ _ _ _ x y => cmpE x y _

def boundsE : List locate_edge → List EdgeB
  | [] => []
  | e :: es => if h : -1152921504606846976 ≤ e.at_ ∧ e.at_ ≤ 1152921504606846976 then ⟨e, h⟩ :: boundsE es else []
theorem boundsE_val : ∀ (l : List locate_edge), (∀ e ∈ l, -1152921504606846976 ≤ e.at_ ∧ e.at_ ≤ 1152921504606846976) → (boundsE l).map (·.1) = l
  | [], _ => rfl
  | e :: es, h => by
    simp only [boundsE]
    rw [dif_pos (h e (List.mem_cons_self ..)), List.map_cons, boundsE_val es fun x hx => h x (List.mem_cons_of_mem _ hx)]

/-- The edges, sorted as pdqsort lays them. -/
noncomputable def sortL (d : Array EdgeB) : Array EdgeB := pdq (ltOf cfE) d 0 d.size (Lib.bitLen d.size) true true
noncomputable def sortE (xs : List locate_edge) : Option (List locate_edge) :=
  open Classical in if (∀ e ∈ xs, -1152921504606846976 ≤ e.at_ ∧ e.at_ ≤ 1152921504606846976) ∧ 0 < xs.length ∧ xs.length ≤ 1073741824 then some ((sortL (boundsE xs).toArray).toList.map (·.1)) else none

theorem sortE_ok {e : TypeId} {L : List Value} {w : World} {v : Value} {xs zs : List locate_edge} (h : Own e L w v xs) (hz : sortE xs = some zs) :
    CallsTo Try.prog 41 [v, .func (.func 42) #[] #[]] w (fun u w' => Chg [v] w w' ∧ (.tuple #[]) = u ∧ Own e L w' v zs) := by
  unfold sortE at hz
  split at hz
  · rename_i hc
    obtain ⟨hb, h0, hn⟩ := hc
    cases hz
    have hv := boundsE_val xs hb
    generalize boundsE xs = ys at hv
    have hlen : ys.length = xs.length := by rw [← hv]; simp
    have hown : Own e L w v (ys.toArray.toList.map (·.1)) := by rw [List.toList_toArray, hv]; exact h
    obtain ⟨g, cap, cur, hvv, hg, h4, h5, h6, h7, hH⟩ := Own.holds (enc := encE) (k := 2) (fun _ => rfl) rfl (fun cs a hrd => hrd) hown (by rw [List.size_toArray]; omega)
    have eg : ∀ args w, (callFunc 42 args).run Try.prog w = .ok (.enter 42 args) w := enters_of Try.func42 (by kernel_rfl) rfl
    have hcon := AnyQ.slices_SortFunc_eq sortEdgeLays 2 Try.isAgg86 Try.sizeOf86 encE (fun _ => rfl) (fun x v hv => by simp [encE] at hv; rcases hv with rfl | rfl <;> rfl) cfE swoE 42 #[] g 0 cap ys.toArray w eg (cmpLaysE g 0 _ w) hH (lt_of_some hg) (by simp; omega)
    subst hvv
    refine Calls.mono hcon fun e' w' he => ?_
    obtain ⟨rfl, n, os, rfl⟩ := he
    refine ⟨sort_chg hg, rfl, ?_⟩
    have hp := (pdq_sorts (ltOf cfE) swoE ys.toArray 0 ys.toArray.size (Lib.bitLen ys.toArray.size) true true (Nat.zero_le _) (Nat.le_refl _) (Or.inl rfl)).1
    exact Own.sorted (enc := encE) (k := 2) (fun _ => rfl) rfl (fun _ _ _ => rfl) hg h4 h5 h6 hp.1
  · cases hz

theorem sortE_some {xs : List locate_edge} (h : ∀ e ∈ xs, -1152921504606846976 ≤ e.at_ ∧ e.at_ ≤ 1152921504606846976) (h0 : 0 < xs.length) (h1 : xs.length ≤ 1073741824) :
    ∃ zs, sortE xs = some zs ∧ zs.Perm xs ∧ zs.Pairwise (fun a b => a.at_ ≤ b.at_) := by
  refine ⟨_, by unfold sortE; rw [if_pos ⟨h, h0, h1⟩], ?_, ?_⟩
  · have hp := (pdq_sorts (ltOf cfE) swoE (boundsE xs).toArray 0 (boundsE xs).toArray.size (Lib.bitLen (boundsE xs).toArray.size) true true (Nat.zero_le _) (Nat.le_refl _) (Or.inl rfl)).1
    have hs := hp.1
    have hp2 := hp.2.2
    have e1 : ∀ a : Array EdgeB, ∀ n, a.size = n → (a.extract 0 n).toList = a.toList := fun a n hn => by subst hn; simp
    rw [e1 _ _ hs, e1 _ _ rfl] at hp2
    have := hp2.map (·.1)
    rw [List.toList_toArray, boundsE_val xs h] at this
    exact this
  · have hp := pdq_sorts (ltOf cfE) swoE (boundsE xs).toArray 0 (boundsE xs).toArray.size (Lib.bitLen (boundsE xs).toArray.size) true true (Nat.zero_le _) (Nat.le_refl _) (Or.inl rfl)
    have hs := hp.1.1
    have h2 := hp.2
    rw [List.pairwise_map, List.pairwise_iff_getElem]
    intro i j hi hj hij
    have hi' : i < (sortL (boundsE xs).toArray).size := by simpa using hi
    have hj' : j < (sortL (boundsE xs).toArray).size := by simpa using hj
    have h3 := h2 i j (Nat.zero_le _) hij (by rw [← hs]; exact hj')
    rw [ltE] at h3
    have e3 : ∀ (k : Nat) (hk : k < (sortL (boundsE xs).toArray).size), (sortL (boundsE xs).toArray)[k]! = (sortL (boundsE xs).toArray).toList[k]'(by simpa using hk) := fun k hk => by rw [getElem!_pos _ k hk]; simp
    have e4 := e3 i hi'
    have e5 := e3 j hj'
    unfold sortL at e4 e5 ⊢
    rw [e4, e5] at h3
    simp only [decide_eq_false_iff_not] at h3
    omega
end Go.Gw
