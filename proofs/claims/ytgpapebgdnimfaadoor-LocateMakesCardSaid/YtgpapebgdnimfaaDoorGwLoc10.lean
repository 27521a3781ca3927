/- The examples with which each statement of the chapter begins. No condition. -/
import Derived.Test.YtgpapebgdnimfaaDoorGwLoc9
set_option maxRecDepth 8192
namespace Go.Gw
open Go

def roundT : LocateTrack := ⟨[0, 0, 1, 1, 1, 0, 1], 3, 100, 2, 1000, 5, 0, 0, true⟩
theorem awake_ok : law04_awake_spec = some true := by
  unfold law04_awake_spec law04_Round_spec
  simp only [Option.bind_some]
  have e1 : locate_Near_spec (LocateTrack.mk ([0, 0, 1, 1, 1, 0, 1] : List Int) 3 100 2 1000 5 0 0 true) ([0, 2, 1] : List Int) = some ([0, 1], 0) := by
    rw [Near_ok _ _ (by simp) (by simp)]; decide +kernel
  have e2 : locate_PlaceOf_spec (LocateTrack.mk ([0, 0, 1, 1, 1, 0, 1] : List Int) 3 100 2 1000 5 0 0 true) (LocateReading.mk ([0, 2, 1] : List Int) 1) = some (⟨1100, 1199⟩, 0) := by
    rw [PlaceOf_ok _ _ (by simp) (by simp)]; decide +kernel
  have e3 : locate_Joined_spec ([(LocateRest.mk 4 2), (LocateRest.mk 6 4)] : List LocateRest) = some (⟨12, 10⟩, 0) := by
    rw [Joined_ok _ (by simp)]; decide +kernel
  have e4 : locate_Counted_spec ([0, 1, 3, 1, 2] : List Int) = some (⟨1, 1⟩, 0) := by
    rw [Counted_ok _ (by simp)]; decide +kernel
  have e5 : locate_Fused_spec ([(Range.mk 0 10), (Range.mk 5 20), (Range.mk 30 40)] : List Range) 1 = some ([⟨5, 10⟩], 0) := by
    obtain ⟨out, h1, h2, _⟩ := Fused_ok ([(Range.mk 0 10), (Range.mk 5 20), (Range.mk 30 40)] : List Range) 1 (by simp)
    have h0 : fuE ([(Range.mk 0 10), (Range.mk 5 20), (Range.mk 30 40)] : List Range) 1 = 0 := by decide +kernel
    have h3 := h2 h0
    have h4 : IsRuns (Fu ([(Range.mk 0 10), (Range.mk 5 20), (Range.mk 30 40)] : List Range) 1) [⟨5, 10⟩] := by
      refine ⟨List.pairwise_singleton _ _, fun r hr => ?_, fun p => ?_⟩
      · obtain rfl : r = ⟨5, 10⟩ := by simpa using hr
        decide
      · unfold Fu
        simp only [cov, List.length_cons, List.length_nil, List.mem_singleton, exists_eq_left]
        split <;> split <;> split <;> omega
    rw [h1, h3.unique h4, h0]
  rw [e1, e2, e3, e4, e5]
  simp only [Option.bind_some]
  have e6 : base_Ints_spec [0, 1] [0, 1] = some true := by rw [Ints_ok _ _ (by simp)]; rfl
  have e7 : base_Ranges_spec [(⟨5, 10⟩ : Range)] [(⟨5, 10⟩ : Range)] = some true := by rw [Ranges_ok _ _ (by simp)]; rfl
  rw [e6, e7]
  rfl
end Go.Gw
