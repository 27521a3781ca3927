/- What each parameter type of the seat reads as. No condition. -/
import Derived.Test.YtekkhkapnapelaaGwFacts
import Derived.Test.YtekkhkapnapelaaGwClose
set_option linter.unusedVariables false
set_option linter.unusedSimpArgs false
set_option linter.unusedSectionVars false
set_option maxRecDepth 100000
namespace Go.Gw
open Go Go.Proofs
theorem Qrv {cs : List Value} (h : cs.length = 3) : ∃ c0 c1 c2, cs = [c0, c1, c2] := by
  match cs, h with
  | [c0, c1, c2], _ => exact ⟨c0, c1, c2, rfl⟩
theorem opn3 : Opn Try.prog 3 Int Z7 := Qvn Try.underlying3 (by kernel_rfl)
def V22 (d : Arr3_Int) : Prop := Z7 d.e0 ∧ Z7 d.e1 ∧ Z7 d.e2
theorem Qvl : Opn Try.prog 22 Arr3_Int V22 := by
  refine ⟨by kernel_rfl, fun enc w fuel cs x h => ?_⟩
  obtain ⟨hl, n, hf⟩ := Qvm Try.underlying22 h
  have hc : Try.prog.cellsOf 22 = 3 := by kernel_rfl
  rw [hc] at hl
  obtain ⟨c0, c1, c2, rfl⟩ : ∃ c0 c1 c2, cs = [c0, c1, c2] := Qrv hl
  obtain ⟨y0, h0⟩ := (hf 0 (by decide))
  change DataW.trod enc Try.prog w 0 (fun _ => true) true n 3 ((List.drop (0 * Try.prog.cellsOf 3) [c0, c1, c2]).take (Try.prog.cellsOf 3)) = some y0 at h0
  rw [opn3.1] at h0
  obtain ⟨d0, r0, v0⟩ := opn3.2 enc w n _ _ h0
  change Rep.rd [] w [c0] d0 at r0
  have e0 : [c0] = [(.int .i64 d0)] := r0
  obtain ⟨y1, h1⟩ := (hf 1 (by decide))
  change DataW.trod enc Try.prog w 0 (fun _ => true) true n 3 ((List.drop (1 * Try.prog.cellsOf 3) [c0, c1, c2]).take (Try.prog.cellsOf 3)) = some y1 at h1
  rw [opn3.1] at h1
  obtain ⟨d1, r1, v1⟩ := opn3.2 enc w n _ _ h1
  change Rep.rd [] w [c1] d1 at r1
  have e1 : [c1] = [(.int .i64 d1)] := r1
  obtain ⟨y2, h2⟩ := (hf 2 (by decide))
  change DataW.trod enc Try.prog w 0 (fun _ => true) true n 3 ((List.drop (2 * Try.prog.cellsOf 3) [c0, c1, c2]).take (Try.prog.cellsOf 3)) = some y2 at h2
  rw [opn3.1] at h2
  obtain ⟨d2, r2, v2⟩ := opn3.2 enc w n _ _ h2
  change Rep.rd [] w [c2] d2 at r2
  have e2 : [c2] = [(.int .i64 d2)] := r2
  simp only [List.cons.injEq, and_true] at e0
  subst e0
  simp only [List.cons.injEq, and_true] at e1
  subst e1
  simp only [List.cons.injEq, and_true] at e2
  subst e2
  refine ⟨⟨d0, d1, d2⟩, ?_, v0, v1, v2⟩
  rfl
end Go.Gw
