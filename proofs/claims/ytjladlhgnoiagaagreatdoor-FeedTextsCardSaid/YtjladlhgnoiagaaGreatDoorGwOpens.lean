/- What each parameter type of the seat reads as. No condition. -/
import Derived.Test.YtjladlhgnoiagaaGreatDoorGwFacts
import Derived.Test.YtjladlhgnoiagaaGreatDoorGwCj21
set_option linter.unusedVariables false
set_option linter.unusedSimpArgs false
set_option linter.unusedSectionVars false
set_option maxRecDepth 100000
namespace Go.Gw
open Go Go.Proofs
theorem QBe {cs:List Value} (h:cs.length=2):∃ c0 c1, cs=[c0, c1] := by
 match cs, h with
 | [c0, c1], _ => exact ⟨c0, c1, rfl⟩
theorem opn9:Opn Tryz.prog 9 ByteArray (fun s => s.size<=maxLen) := QEp Tryz.underlying9 (by kernel_rfl)
theorem opn3:Opn Tryz.prog 3 Int R64 := QEo Tryz.underlying3 (by kernel_rfl)
def V23 (d:Nf):Prop := (fun (s:ByteArray) => s.size<=maxLen) d.Ni/\R64 d.At
theorem QEm:Opn Tryz.prog 23 Nf V23 := by
 refine ⟨by kernel_rfl, fun enc w fuel cs x h => ?_⟩;obtain ⟨hl, n, hf⟩ := QEn Tryz.underlying23 h;have hc:Tryz.prog.cellsOf 23=2 := by kernel_rfl
 rw [hc] at hl;obtain ⟨c0, c1, rfl⟩:∃ c0 c1, cs=[c0, c1] := QBe hl;obtain ⟨y0, h0⟩ := (hf 0 _ rfl);change DataW.trod enc Tryz.prog w 0 (fun _ => true) true n 9 ((List.drop 0 [c0, c1]).take (Tryz.prog.cellsOf 9))=some y0 at h0;rw [opn9.1] at h0;obtain ⟨d0, r0, vv0⟩ := opn9.2 enc w n _ _ h0;change Rep.rd [] w [c0] d0 at r0;have e0:[c0]=[(.string d0)] := r0;obtain ⟨y1, h1⟩ := (hf 1 _ rfl);change DataW.trod enc Tryz.prog w 0 (fun _ => true) true n 3 ((List.drop 1 [c0, c1]).take (Tryz.prog.cellsOf 3))=some y1 at h1;rw [opn3.1] at h1;obtain ⟨d1, r1, vv1⟩ := opn3.2 enc w n _ _ h1;change Rep.rd [] w [c1] d1 at r1;have e1:[c1]=[(.int .i64 d1)] := r1;simp only [List.cons.injEq, and_true] at e0;subst e0;simp only [List.cons.injEq, and_true] at e1;subst e1;refine ⟨⟨d0, d1⟩, ?_, vv0, vv1⟩;rfl
end Go.Gw
