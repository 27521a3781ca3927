/- What each parameter type of the seat reads as. No condition. -/
import Derived.Test.YtpgpimedmpeliaaGreatDoorGwFacts
import Derived.Test.YtpgpimedmpeliaaGreatDoorGwClose
set_option linter.unusedVariables false
set_option linter.unusedSimpArgs false
set_option linter.unusedSectionVars false
set_option maxRecDepth 100000
namespace Go.Gw
open Go Go.Proofs
theorem Qzn {cs:List Value} (h:cs.length=3):∃ c0 c1 c2, cs=[c0, c1, c2] := by
  match cs, h with
  | [c0, c1, c2], _ => exact ⟨c0, c1, c2, rfl⟩
theorem Qzo {cs:List Value} (h:cs.length=5):∃ c0 c1 c2 c3 c4, cs=[c0, c1, c2, c3, c4] := by
  match cs, h with
  | [c0, c1, c2, c3, c4], _ => exact ⟨c0, c1, c2, c3, c4, rfl⟩
theorem Qzm {cs:List Value} (h:cs.length=15):∃ c0 c1 c2 c3 c4 c5 c6 c7 c8 c9 c10 c11 c12 c13 c14, cs=[c0, c1, c2, c3, c4, c5, c6, c7, c8, c9, c10, c11, c12, c13, c14] := by
  match cs, h with
  | [c0, c1, c2, c3, c4, c5, c6, c7, c8, c9, c10, c11, c12, c13, c14], _ => exact ⟨c0, c1, c2, c3, c4, c5, c6, c7, c8, c9, c10, c11, c12, c13, c14, rfl⟩
theorem opn3:JW Tryz.prog 3 Int Zb := QFk Tryz.underlying3 (by kernel_rfl)
def V55 (d:LockEvent):Prop := Zb d.Kind∧Zb d.A∧Zb d.B
theorem QFh:JW Tryz.prog 55 LockEvent V55 := by
  refine ⟨by kernel_rfl, fun enc w fuel cs x h => ?_⟩
  obtain ⟨hl, n, hf⟩ := QFj Tryz.underlying55 h
  have hc:Tryz.prog.cellsOf 55=3 := by kernel_rfl
  rw [hc] at hl
  obtain ⟨c0, c1, c2, rfl⟩:∃ c0 c1 c2, cs=[c0, c1, c2] := Qzn hl
  obtain ⟨y0, h0⟩ := (hf 0 _ rfl)
  change DataW.trod enc Tryz.prog w 0 (fun _ => true) true n 3 ((List.drop 0 [c0, c1, c2]).take (Tryz.prog.cellsOf 3))=some y0 at h0
  rw [opn3.1] at h0
  obtain ⟨d0, r0, vv0⟩ := opn3.2 enc w n _ _ h0
  change Rep.rd [] w [c0] d0 at r0
  have e0:[c0]=[(.int .i64 d0)] := r0
  obtain ⟨y1, h1⟩ := (hf 1 _ rfl)
  change DataW.trod enc Tryz.prog w 0 (fun _ => true) true n 3 ((List.drop 1 [c0, c1, c2]).take (Tryz.prog.cellsOf 3))=some y1 at h1
  rw [opn3.1] at h1
  obtain ⟨d1, r1, vv1⟩ := opn3.2 enc w n _ _ h1
  change Rep.rd [] w [c1] d1 at r1
  have e1:[c1]=[(.int .i64 d1)] := r1
  obtain ⟨y2, h2⟩ := (hf 2 _ rfl)
  change DataW.trod enc Tryz.prog w 0 (fun _ => true) true n 3 ((List.drop 2 [c0, c1, c2]).take (Tryz.prog.cellsOf 3))=some y2 at h2
  rw [opn3.1] at h2
  obtain ⟨d2, r2, vv2⟩ := opn3.2 enc w n _ _ h2
  change Rep.rd [] w [c2] d2 at r2
  have e2:[c2]=[(.int .i64 d2)] := r2
  simp only [List.cons.injEq, and_true] at e0
  subst e0
  simp only [List.cons.injEq, and_true] at e1
  subst e1
  simp only [List.cons.injEq, and_true] at e2
  subst e2
  refine ⟨⟨d0, d1, d2⟩, ?_, vv0, vv1, vv2⟩
  rfl
def V57 (d:Arr5_Int):Prop := Zb d.e0∧Zb d.e1∧Zb d.e2∧Zb d.e3∧Zb d.e4
theorem opn57:JW Tryz.prog 57 Arr5_Int V57 := by
  refine ⟨by kernel_rfl, fun enc w fuel cs x h => ?_⟩
  obtain ⟨hl, n, hf⟩ := Qqd Tryz.underlying57 h
  have hc:Tryz.prog.cellsOf 57=5 := by kernel_rfl
  rw [hc] at hl
  obtain ⟨c0, c1, c2, c3, c4, rfl⟩:∃ c0 c1 c2 c3 c4, cs=[c0, c1, c2, c3, c4] := Qzo hl
  obtain ⟨y0, h0⟩ := (hf 0 (by decide))
  change DataW.trod enc Tryz.prog w 0 (fun _ => true) true n 3 ((List.drop (0 * Tryz.prog.cellsOf 3) [c0, c1, c2, c3, c4]).take (Tryz.prog.cellsOf 3))=some y0 at h0
  rw [opn3.1] at h0
  obtain ⟨d0, r0, vv0⟩ := opn3.2 enc w n _ _ h0
  change Rep.rd [] w [c0] d0 at r0
  have e0:[c0]=[(.int .i64 d0)] := r0
  obtain ⟨y1, h1⟩ := (hf 1 (by decide))
  change DataW.trod enc Tryz.prog w 0 (fun _ => true) true n 3 ((List.drop (1 * Tryz.prog.cellsOf 3) [c0, c1, c2, c3, c4]).take (Tryz.prog.cellsOf 3))=some y1 at h1
  rw [opn3.1] at h1
  obtain ⟨d1, r1, vv1⟩ := opn3.2 enc w n _ _ h1
  change Rep.rd [] w [c1] d1 at r1
  have e1:[c1]=[(.int .i64 d1)] := r1
  obtain ⟨y2, h2⟩ := (hf 2 (by decide))
  change DataW.trod enc Tryz.prog w 0 (fun _ => true) true n 3 ((List.drop (2 * Tryz.prog.cellsOf 3) [c0, c1, c2, c3, c4]).take (Tryz.prog.cellsOf 3))=some y2 at h2
  rw [opn3.1] at h2
  obtain ⟨d2, r2, vv2⟩ := opn3.2 enc w n _ _ h2
  change Rep.rd [] w [c2] d2 at r2
  have e2:[c2]=[(.int .i64 d2)] := r2
  obtain ⟨y3, h3⟩ := (hf 3 (by decide))
  change DataW.trod enc Tryz.prog w 0 (fun _ => true) true n 3 ((List.drop (3 * Tryz.prog.cellsOf 3) [c0, c1, c2, c3, c4]).take (Tryz.prog.cellsOf 3))=some y3 at h3
  rw [opn3.1] at h3
  obtain ⟨d3, r3, vv3⟩ := opn3.2 enc w n _ _ h3
  change Rep.rd [] w [c3] d3 at r3
  have e3:[c3]=[(.int .i64 d3)] := r3
  obtain ⟨y4, h4⟩ := (hf 4 (by decide))
  change DataW.trod enc Tryz.prog w 0 (fun _ => true) true n 3 ((List.drop (4 * Tryz.prog.cellsOf 3) [c0, c1, c2, c3, c4]).take (Tryz.prog.cellsOf 3))=some y4 at h4
  rw [opn3.1] at h4
  obtain ⟨d4, r4, vv4⟩ := opn3.2 enc w n _ _ h4
  change Rep.rd [] w [c4] d4 at r4
  have e4:[c4]=[(.int .i64 d4)] := r4
  simp only [List.cons.injEq, and_true] at e0
  subst e0
  simp only [List.cons.injEq, and_true] at e1
  subst e1
  simp only [List.cons.injEq, and_true] at e2
  subst e2
  simp only [List.cons.injEq, and_true] at e3
  subst e3
  simp only [List.cons.injEq, and_true] at e4
  subst e4
  refine ⟨⟨d0, d1, d2, d3, d4⟩, ?_, vv0, vv1, vv2, vv3, vv4⟩
  rfl
def V58 (d:Arr3_Arr5Int):Prop := V57 d.e0∧V57 d.e1∧V57 d.e2
theorem QFi:JW Tryz.prog 58 Arr3_Arr5Int V58 := by
  refine ⟨by kernel_rfl, fun enc w fuel cs x h => ?_⟩
  obtain ⟨hl, n, hf⟩ := Qqd Tryz.underlying58 h
  have hc:Tryz.prog.cellsOf 58=15 := by kernel_rfl
  rw [hc] at hl
  obtain ⟨c0, c1, c2, c3, c4, c5, c6, c7, c8, c9, c10, c11, c12, c13, c14, rfl⟩:∃ c0 c1 c2 c3 c4 c5 c6 c7 c8 c9 c10 c11 c12 c13 c14, cs=[c0, c1, c2, c3, c4, c5, c6, c7, c8, c9, c10, c11, c12, c13, c14] := Qzm hl
  obtain ⟨y0, h0⟩ := (hf 0 (by decide))
  change DataW.trod enc Tryz.prog w 0 (fun _ => true) true n 57 ((List.drop (0 * Tryz.prog.cellsOf 57) [c0, c1, c2, c3, c4, c5, c6, c7, c8, c9, c10, c11, c12, c13, c14]).take (Tryz.prog.cellsOf 57))=some y0 at h0
  rw [opn57.1] at h0
  obtain ⟨d0, r0, vv0⟩ := opn57.2 enc w n _ _ h0
  change Rep.rd [] w [c0, c1, c2, c3, c4] d0 at r0
  have e0:[c0, c1, c2, c3, c4]=[(.int .i64 d0.e0), (.int .i64 d0.e1), (.int .i64 d0.e2), (.int .i64 d0.e3), (.int .i64 d0.e4)] := r0
  obtain ⟨y1, h1⟩ := (hf 1 (by decide))
  change DataW.trod enc Tryz.prog w 0 (fun _ => true) true n 57 ((List.drop (1 * Tryz.prog.cellsOf 57) [c0, c1, c2, c3, c4, c5, c6, c7, c8, c9, c10, c11, c12, c13, c14]).take (Tryz.prog.cellsOf 57))=some y1 at h1
  rw [opn57.1] at h1
  obtain ⟨d1, r1, vv1⟩ := opn57.2 enc w n _ _ h1
  change Rep.rd [] w [c5, c6, c7, c8, c9] d1 at r1
  have e1:[c5, c6, c7, c8, c9]=[(.int .i64 d1.e0), (.int .i64 d1.e1), (.int .i64 d1.e2), (.int .i64 d1.e3), (.int .i64 d1.e4)] := r1
  obtain ⟨y2, h2⟩ := (hf 2 (by decide))
  change DataW.trod enc Tryz.prog w 0 (fun _ => true) true n 57 ((List.drop (2 * Tryz.prog.cellsOf 57) [c0, c1, c2, c3, c4, c5, c6, c7, c8, c9, c10, c11, c12, c13, c14]).take (Tryz.prog.cellsOf 57))=some y2 at h2
  rw [opn57.1] at h2
  obtain ⟨d2, r2, vv2⟩ := opn57.2 enc w n _ _ h2
  change Rep.rd [] w [c10, c11, c12, c13, c14] d2 at r2
  have e2:[c10, c11, c12, c13, c14]=[(.int .i64 d2.e0), (.int .i64 d2.e1), (.int .i64 d2.e2), (.int .i64 d2.e3), (.int .i64 d2.e4)] := r2
  simp only [List.cons.injEq, and_true] at e0
  obtain ⟨rfl, rfl, rfl, rfl, rfl⟩ := e0
  simp only [List.cons.injEq, and_true] at e1
  obtain ⟨rfl, rfl, rfl, rfl, rfl⟩ := e1
  simp only [List.cons.injEq, and_true] at e2
  obtain ⟨rfl, rfl, rfl, rfl, rfl⟩ := e2
  refine ⟨⟨d0, d1, d2⟩, ?_, vv0, vv1, vv2⟩
  rfl
end Go.Gw
