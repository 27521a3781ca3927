/- What each parameter type of the seat reads as. No condition. -/
import Derived.Test.YtglaeocolbnpdaaGwFacts
import Derived.Test.YtglaeocolbnpdaaGwClose
set_option maxRecDepth 100000
namespace Go.Gw
open Go Go.Proofs
theorem len2 {cs : List Value} (h : cs.length = 2) : ∃ c0 c1, cs = [c0, c1] := by
  match cs, h with
  | [c0, c1], _ => exact ⟨c0, c1, rfl⟩
theorem len3 {cs : List Value} (h : cs.length = 3) : ∃ c0 c1 c2, cs = [c0, c1, c2] := by
  match cs, h with
  | [c0, c1, c2], _ => exact ⟨c0, c1, c2, rfl⟩
theorem len4 {cs : List Value} (h : cs.length = 4) : ∃ c0 c1 c2 c3, cs = [c0, c1, c2, c3] := by
  match cs, h with
  | [c0, c1, c2, c3], _ => exact ⟨c0, c1, c2, c3, rfl⟩
theorem opn3 : Opn Try.prog 3 Int R64 := opn_int Try.underlying3 (by kernel_rfl)
theorem opn23 : Opn Try.prog 23 (List Int) (fun (l : (List Int)) => (∀ x ∈ l, R64 x) ∧ l.length ≤ maxLen) := opn_slice Try.underlying23 (by kernel_rfl) (by decide) opn3
theorem opn47 : Opn Try.prog 47 (List (List Int)) (fun (l : (List (List Int))) => (∀ x ∈ l, (fun (l : (List Int)) => (∀ x ∈ l, R64 x) ∧ l.length ≤ maxLen) x) ∧ l.length ≤ maxLen) := opn_slice Try.underlying47 (by kernel_rfl) (by decide) opn23
theorem opn22 : Opn Try.prog 22 (List (List (List Int))) (fun (l : (List (List (List Int)))) => (∀ x ∈ l, (fun (l : (List (List Int))) => (∀ x ∈ l, (fun (l : (List Int)) => (∀ x ∈ l, R64 x) ∧ l.length ≤ maxLen) x) ∧ l.length ≤ maxLen) x) ∧ l.length ≤ maxLen) := opn_slice Try.underlying22 (by kernel_rfl) (by decide) opn47
def V25 (d : LevitatePlant) : Prop := R64 d.Den ∧ (fun (l : (List (List (List Int)))) => (∀ x ∈ l, (fun (l : (List (List Int))) => (∀ x ∈ l, (fun (l : (List Int)) => (∀ x ∈ l, R64 x) ∧ l.length ≤ maxLen) x) ∧ l.length ≤ maxLen) x) ∧ l.length ≤ maxLen) d.Maps ∧ (fun (l : (List Int)) => (∀ x ∈ l, R64 x) ∧ l.length ≤ maxLen) d.Noise
theorem opn25 : Opn Try.prog 25 LevitatePlant V25 := by
  refine ⟨by kernel_rfl, fun enc w fuel cs x h => ?_⟩
  obtain ⟨hl, n, hf⟩ := opn_fields Try.underlying25 h
  have hc : Try.prog.cellsOf 25 = 3 := by kernel_rfl
  rw [hc] at hl
  obtain ⟨c0, c1, c2, rfl⟩ : ∃ c0 c1 c2, cs = [c0, c1, c2] := len3 hl
  obtain ⟨y0, h0⟩ := (hf 0 _ rfl)
  change DataW.trod enc Try.prog w 0 (fun _ => true) true n 3 ((List.drop 0 [c0, c1, c2]).take (Try.prog.cellsOf 3)) = some y0 at h0
  rw [opn3.1] at h0
  obtain ⟨d0, r0, v0⟩ := opn3.2 enc w n _ _ h0
  change Rep.rd [] w [c0] d0 at r0
  have e0 : [c0] = [(.int .i64 d0)] := r0
  obtain ⟨y1, h1⟩ := (hf 1 _ rfl)
  change DataW.trod enc Try.prog w 0 (fun _ => true) true n 22 ((List.drop 1 [c0, c1, c2]).take (Try.prog.cellsOf 22)) = some y1 at h1
  rw [opn22.1] at h1
  obtain ⟨d1, r1, v1⟩ := opn22.2 enc w n _ _ h1
  change Rep.rd [] w [c1] d1 at r1
  obtain ⟨u1, e1, k1⟩ := r1
  obtain rfl : c1 = u1 := List.head_eq_of_cons_eq e1
  obtain ⟨y2, h2⟩ := (hf 2 _ rfl)
  change DataW.trod enc Try.prog w 0 (fun _ => true) true n 23 ((List.drop 2 [c0, c1, c2]).take (Try.prog.cellsOf 23)) = some y2 at h2
  rw [opn23.1] at h2
  obtain ⟨d2, r2, v2⟩ := opn23.2 enc w n _ _ h2
  change Rep.rd [] w [c2] d2 at r2
  obtain ⟨u2, e2, k2⟩ := r2
  obtain rfl : c2 = u2 := List.head_eq_of_cons_eq e2
  simp only [List.cons.injEq, and_true] at e0
  subst e0
  refine ⟨⟨d0, d1, d2⟩, ?_, v0, v1, v2⟩
  exact ⟨c1, c2, k1, k2, rfl⟩
def V36 (d : Arr3_Int) : Prop := R64 d.e0 ∧ R64 d.e1 ∧ R64 d.e2
theorem opn36 : Opn Try.prog 36 Arr3_Int V36 := by
  refine ⟨by kernel_rfl, fun enc w fuel cs x h => ?_⟩
  obtain ⟨hl, n, hf⟩ := opn_elems Try.underlying36 h
  have hc : Try.prog.cellsOf 36 = 3 := by kernel_rfl
  rw [hc] at hl
  obtain ⟨c0, c1, c2, rfl⟩ : ∃ c0 c1 c2, cs = [c0, c1, c2] := len3 hl
  obtain ⟨y0, h0⟩ := (hf 0 (by decide))
  change DataW.trod enc Try.prog w 0 (fun _ => true) true n 3 ((List.drop (0 * Try.prog.cellsOf 3) [c0, c1, c2]).take (Try.prog.cellsOf 3)) = some y0 at h0
  rw [opn3.1] at h0
  obtain ⟨d0, r0, v0⟩ := opn3.2 enc w n _ _ h0
  change Rep.rd [] w [c0] d0 at r0
  have e0 : [c0] = [(.int .i64 d0)] := r0
  obtain ⟨y1, h1⟩ := (hf 1 (by decide))
  change DataW.trod enc Try.prog w 0 (fun _ => true) true n 3 ((List.drop (1 * Try.prog.cellsOf 3) [c0, c1, c2]).take (Try.prog.cellsOf 3)) = some y1 at h1
  rw [opn3.1] at h1
  obtain ⟨d1, r1, v1⟩ := opn3.2 enc w n _ _ h1
  change Rep.rd [] w [c1] d1 at r1
  have e1 : [c1] = [(.int .i64 d1)] := r1
  obtain ⟨y2, h2⟩ := (hf 2 (by decide))
  change DataW.trod enc Try.prog w 0 (fun _ => true) true n 3 ((List.drop (2 * Try.prog.cellsOf 3) [c0, c1, c2]).take (Try.prog.cellsOf 3)) = some y2 at h2
  rw [opn3.1] at h2
  obtain ⟨d2, r2, v2⟩ := opn3.2 enc w n _ _ h2
  change Rep.rd [] w [c2] d2 at r2
  have e2 : [c2] = [(.int .i64 d2)] := r2
  simp only [List.cons.injEq, and_true] at e0
  subst e0
  simp only [List.cons.injEq, and_true] at e1
  subst e1
  simp only [List.cons.injEq, and_true] at e2
  subst e2
  refine ⟨⟨d0, d1, d2⟩, ?_, v0, v1, v2⟩
  rfl
def V48 (d : Arr2_Int) : Prop := R64 d.e0 ∧ R64 d.e1
theorem opn48 : Opn Try.prog 48 Arr2_Int V48 := by
  refine ⟨by kernel_rfl, fun enc w fuel cs x h => ?_⟩
  obtain ⟨hl, n, hf⟩ := opn_elems Try.underlying48 h
  have hc : Try.prog.cellsOf 48 = 2 := by kernel_rfl
  rw [hc] at hl
  obtain ⟨c0, c1, rfl⟩ : ∃ c0 c1, cs = [c0, c1] := len2 hl
  obtain ⟨y0, h0⟩ := (hf 0 (by decide))
  change DataW.trod enc Try.prog w 0 (fun _ => true) true n 3 ((List.drop (0 * Try.prog.cellsOf 3) [c0, c1]).take (Try.prog.cellsOf 3)) = some y0 at h0
  rw [opn3.1] at h0
  obtain ⟨d0, r0, v0⟩ := opn3.2 enc w n _ _ h0
  change Rep.rd [] w [c0] d0 at r0
  have e0 : [c0] = [(.int .i64 d0)] := r0
  obtain ⟨y1, h1⟩ := (hf 1 (by decide))
  change DataW.trod enc Try.prog w 0 (fun _ => true) true n 3 ((List.drop (1 * Try.prog.cellsOf 3) [c0, c1]).take (Try.prog.cellsOf 3)) = some y1 at h1
  rw [opn3.1] at h1
  obtain ⟨d1, r1, v1⟩ := opn3.2 enc w n _ _ h1
  change Rep.rd [] w [c1] d1 at r1
  have e1 : [c1] = [(.int .i64 d1)] := r1
  simp only [List.cons.injEq, and_true] at e0
  subst e0
  simp only [List.cons.injEq, and_true] at e1
  subst e1
  refine ⟨⟨d0, d1⟩, ?_, v0, v1⟩
  rfl
def V50 (d : LevitateProof) : Prop := (fun (l : (List (List Int))) => (∀ x ∈ l, (fun (l : (List Int)) => (∀ x ∈ l, R64 x) ∧ l.length ≤ maxLen) x) ∧ l.length ≤ maxLen) d.Form ∧ V48 d.Rate ∧ R64 d.Level
theorem opn50 : Opn Try.prog 50 LevitateProof V50 := by
  refine ⟨by kernel_rfl, fun enc w fuel cs x h => ?_⟩
  obtain ⟨hl, n, hf⟩ := opn_fields Try.underlying50 h
  have hc : Try.prog.cellsOf 50 = 4 := by kernel_rfl
  rw [hc] at hl
  obtain ⟨c0, c1, c2, c3, rfl⟩ : ∃ c0 c1 c2 c3, cs = [c0, c1, c2, c3] := len4 hl
  obtain ⟨y0, h0⟩ := (hf 0 _ rfl)
  change DataW.trod enc Try.prog w 0 (fun _ => true) true n 47 ((List.drop 0 [c0, c1, c2, c3]).take (Try.prog.cellsOf 47)) = some y0 at h0
  rw [opn47.1] at h0
  obtain ⟨d0, r0, v0⟩ := opn47.2 enc w n _ _ h0
  change Rep.rd [] w [c0] d0 at r0
  obtain ⟨u0, e0, k0⟩ := r0
  obtain rfl : c0 = u0 := List.head_eq_of_cons_eq e0
  obtain ⟨y1, h1⟩ := (hf 1 _ rfl)
  change DataW.trod enc Try.prog w 0 (fun _ => true) true n 48 ((List.drop 1 [c0, c1, c2, c3]).take (Try.prog.cellsOf 48)) = some y1 at h1
  rw [opn48.1] at h1
  obtain ⟨d1, r1, v1⟩ := opn48.2 enc w n _ _ h1
  change Rep.rd [] w [c1, c2] d1 at r1
  have e1 : [c1, c2] = [(.int .i64 d1.e0), (.int .i64 d1.e1)] := r1
  obtain ⟨y2, h2⟩ := (hf 2 _ rfl)
  change DataW.trod enc Try.prog w 0 (fun _ => true) true n 3 ((List.drop 3 [c0, c1, c2, c3]).take (Try.prog.cellsOf 3)) = some y2 at h2
  rw [opn3.1] at h2
  obtain ⟨d2, r2, v2⟩ := opn3.2 enc w n _ _ h2
  change Rep.rd [] w [c3] d2 at r2
  have e2 : [c3] = [(.int .i64 d2)] := r2
  simp only [List.cons.injEq, and_true] at e1
  obtain ⟨rfl, rfl⟩ := e1
  simp only [List.cons.injEq, and_true] at e2
  subst e2
  refine ⟨⟨d0, d1, d2⟩, ?_, v0, v1, v2⟩
  exact ⟨c0, k0, rfl⟩
def V70 (d : LevitateSample) : Prop := R64 d.Map ∧ (fun (l : (List Int)) => (∀ x ∈ l, R64 x) ∧ l.length ≤ maxLen) d.Noise
theorem opn70 : Opn Try.prog 70 LevitateSample V70 := by
  refine ⟨by kernel_rfl, fun enc w fuel cs x h => ?_⟩
  obtain ⟨hl, n, hf⟩ := opn_fields Try.underlying70 h
  have hc : Try.prog.cellsOf 70 = 2 := by kernel_rfl
  rw [hc] at hl
  obtain ⟨c0, c1, rfl⟩ : ∃ c0 c1, cs = [c0, c1] := len2 hl
  obtain ⟨y0, h0⟩ := (hf 0 _ rfl)
  change DataW.trod enc Try.prog w 0 (fun _ => true) true n 3 ((List.drop 0 [c0, c1]).take (Try.prog.cellsOf 3)) = some y0 at h0
  rw [opn3.1] at h0
  obtain ⟨d0, r0, v0⟩ := opn3.2 enc w n _ _ h0
  change Rep.rd [] w [c0] d0 at r0
  have e0 : [c0] = [(.int .i64 d0)] := r0
  obtain ⟨y1, h1⟩ := (hf 1 _ rfl)
  change DataW.trod enc Try.prog w 0 (fun _ => true) true n 23 ((List.drop 1 [c0, c1]).take (Try.prog.cellsOf 23)) = some y1 at h1
  rw [opn23.1] at h1
  obtain ⟨d1, r1, v1⟩ := opn23.2 enc w n _ _ h1
  change Rep.rd [] w [c1] d1 at r1
  obtain ⟨u1, e1, k1⟩ := r1
  obtain rfl : c1 = u1 := List.head_eq_of_cons_eq e1
  simp only [List.cons.injEq, and_true] at e0
  subst e0
  refine ⟨⟨d0, d1⟩, ?_, v0, v1⟩
  exact ⟨c1, k1, rfl⟩
theorem opn61 : Opn Try.prog 61 (List LevitateSample) (fun (l : (List LevitateSample)) => (∀ x ∈ l, V70 x) ∧ l.length ≤ maxLen) := opn_slice Try.underlying61 (by kernel_rfl) (by decide) opn70
end Go.Gw
