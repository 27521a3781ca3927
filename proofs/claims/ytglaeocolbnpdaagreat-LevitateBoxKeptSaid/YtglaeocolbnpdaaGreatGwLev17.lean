/- Levitate in plain words: runs by the specification, lists of samples. Condition: right plants and states. -/
import Derived.Test.YtglaeocolbnpdaaGreatGwLev14
set_option maxRecDepth 8192
set_option linter.unusedSimpArgs false
set_option linter.unusedVariables false
namespace Go.Gw
open Go

theorem brief_run (l : List LevitateSample) : Runs (law02_brief_spec l) fun b => b = true → (l.length ≤ 20 ∨ (60 < l.length ∧ l.length ≤ 62)) ∧ ∀ s ∈ l, s.Noise.length ≤ 5 := by
  unfold law02_brief_spec
  refine Runs.bif (fun _ => Runs.some (fun h => by cases h)) fun hc => ?_
  have h1 : l.length ≤ 20 ∨ (60 < l.length ∧ l.length ≤ 62) := by
    simp only [Bool.or_eq_false_iff, Bool.and_eq_false_iff, decide_eq_false_iff_not] at hc
    omega
  rw [loop_fs l (fun _ s => if 5 < s.Noise.length then some false else none), Option.bind_some]
  · cases hf : fs (fun (_ : Nat) (s : LevitateSample) => if 5 < s.Noise.length then some false else none) 0 l with
    | some b =>
      obtain ⟨i, hi, h2⟩ := fs_mem hf
      split at h2
      · cases h2; exact ⟨false, rfl, fun h => by cases h⟩
      · cases h2
    | none =>
      refine ⟨true, rfl, fun _ => ⟨h1, fun s hs => ?_⟩⟩
      obtain ⟨i, hi, rfl⟩ := List.mem_iff_getElem.1 hs
      have h2 := fs_none.1 hf i hi
      split at h2
      · cases h2
      · omega
  · intro k hk
    unfold law02_brief_s0
    rw [lt_nat hk, idx_nat hk, w64n k (by omega), cond_true, Option.bind_some]
    by_cases h2 : 5 < l[k].Noise.length
    · rw [decide_eq_true (by omega), if_pos h2]; rfl
    · rw [decide_eq_false (by omega), if_neg h2]; rfl
  · unfold law02_brief_s0
    rw [lt_nat_no]; rfl
theorem CopySamples_ok (l : List LevitateSample) (h : l.length ≤ 1000000) (hs : ∀ s ∈ l, s.Noise.length ≤ 1000000) : ref02_CopySamples_spec l = some l := by
  unfold ref02_CopySamples_spec
  rw [loop_map l id]
  · simp
  · intro k hk acc ha
    unfold ref02_CopySamples_s0
    dsimp only
    rw [lt_nat hk, cond_true, idx_nat hk, Option.bind_some, CopySample_ok _ (by have := hs _ (List.getElem_mem hk); omega), Option.bind_some, app_ok (by simp; omega), Option.bind_some, w64n k (by omega)]; rfl
  · intro acc
    unfold ref02_CopySamples_s0
    dsimp only
    rw [lt_nat_no]; rfl
theorem rnV_len {p : LevitatePlant} : ∀ {l : List LevitateSample} {x : List Int} {ys : List (List Int)}, rnV p x l = some ys → ys.length = l.length ∧ ∀ y ∈ ys, Stt p y
  | [], _, _, h => by cases h; exact ⟨rfl, fun _ h => by cases h⟩
  | s :: l, x, ys, h => by
    rw [rnV] at h
    split at h
    · rename_i hb
      cases h1 : rnV p (stepI p x s) l with
      | none => rw [h1] at h; cases h
      | some zs =>
        rw [h1] at h
        cases h
        have := rnV_len h1
        refine ⟨by simp [this.1], fun y hy => ?_⟩
        rcases List.mem_cons.1 hy with rfl | hy
        · exact stepI_stt.2 hb
        · exact this.2 y hy
    · cases h
end Go.Gw
