/- What each parameter type of the seat reads as. No condition. -/
import Derived.Test.YthonianbjkhnpaaGreatDoorGwFacts
import Derived.Test.YthonianbjkhnpaaGreatDoorGwCj21
set_option linter.unusedVariables false
set_option linter.unusedSimpArgs false
set_option linter.unusedSectionVars false
set_option maxRecDepth 100000
open List renaming head_eq_of_cons_eq→Ea,drop→Eb,cons→Ec
namespace Go.Gw
open Go Go.Proofs
theorem Qsx {cs:List Value} (h:cs.length=2):∃ c0 c1, cs=[c0, c1] := by
 match cs, h with
 | [c0, c1], _ => exact ⟨c0, c1, rfl⟩
theorem QAj {cs:List Value} (h:cs.length=3):∃ c0 c1 c2, cs=[c0, c1, c2] := by
 match cs, h with
 | [c0, c1, c2], _ => exact ⟨c0, c1, c2, rfl⟩
theorem QNx {cs:List Value} (h:cs.length=4):∃ c0 c1 c2 c3, cs=[c0, c1, c2, c3] := by
 match cs, h with
 | [c0, c1, c2, c3], _ => exact ⟨c0, c1, c2, c3, rfl⟩
theorem opn9:ZV Tryz.prog 9 ByteArray (fun s => s.size<=maxLen) := QTy Tryz.underlying9 (by kernel_rfl)
theorem opn22:ZV Tryz.prog 22 (List ByteArray) (fun (l:(List ByteArray)) => (∀ x∈l, (fun (s:ByteArray) => s.size<=maxLen) x)/\l.length<=maxLen) := Qjv Tryz.underlying22 (by kernel_rfl) (by decide) opn9
theorem opn3:ZV Tryz.prog 3 Int JR := QTx Tryz.underlying3 (by kernel_rfl)
def V78 (d:Nv):Prop := (fun (s:ByteArray) => s.size<=maxLen) d.Name/\JR d.Nn
theorem QTu:ZV Tryz.prog 78 Nv V78 := by
 refine ⟨by kernel_rfl, fun enc w fuel cs x h => ?_⟩;obtain ⟨hl, n, hf⟩ := Qju Tryz.underlying78 h;have hc:Tryz.prog.cellsOf 78=2 := by kernel_rfl
 rw [hc] at hl;obtain ⟨c0, c1, rfl⟩:∃ c0 c1, cs=[c0, c1] := Qsx hl;obtain ⟨y0, h0⟩ := (hf 0 _ rfl);change DataW.trod enc Tryz.prog w 0 (fun _ => true) true n 9 ((Eb 0 [c0, c1]).take (Tryz.prog.cellsOf 9))=some y0 at h0;rw [opn9.1] at h0;obtain ⟨d0, r0, vv0⟩ := opn9.2 enc w n _ _ h0;change Rep.rd [] w [c0] d0 at r0;have e0:[c0]=[(.string d0)] := r0;obtain ⟨y1, h1⟩ := (hf 1 _ rfl);change DataW.trod enc Tryz.prog w 0 (fun _ => true) true n 3 ((Eb 1 [c0, c1]).take (Tryz.prog.cellsOf 3))=some y1 at h1;rw [opn3.1] at h1;obtain ⟨d1, r1, vv1⟩ := opn3.2 enc w n _ _ h1;change Rep.rd [] w [c1] d1 at r1;have e1:[c1]=[(.int .i64 d1)] := r1;simp only [Ec.injEq, and_true] at e0;subst e0;simp only [Ec.injEq, and_true] at e1;subst e1;refine ⟨⟨d0, d1⟩, ?_, vv0, vv1⟩;rfl
theorem opn23:ZV Tryz.prog 23 (List Nv) (fun (l:(List Nv)) => (∀ x∈l, V78 x)/\l.length<=maxLen) := Qjv Tryz.underlying23 (by kernel_rfl) (by decide) QTu
theorem opn36:ZV Tryz.prog 36 (List Int) (fun (l:(List Int)) => (∀ x∈l, JR x)/\l.length<=maxLen) := Qjv Tryz.underlying36 (by kernel_rfl) (by decide) opn3
def V80 (d:Nr):Prop := (fun (s:ByteArray) => s.size<=maxLen) d.Name/\(fun (l:(List Int)) => (∀ x∈l, JR x)/\l.length<=maxLen) d.Nf/\(fun (l:(List Int)) => (∀ x∈l, JR x)/\l.length<=maxLen) d.Ns
theorem QTv:ZV Tryz.prog 80 Nr V80 := by
 refine ⟨by kernel_rfl, fun enc w fuel cs x h => ?_⟩;obtain ⟨hl, n, hf⟩ := Qju Tryz.underlying80 h;have hc:Tryz.prog.cellsOf 80=3 := by kernel_rfl
 rw [hc] at hl;obtain ⟨c0, c1, c2, rfl⟩:∃ c0 c1 c2, cs=[c0, c1, c2] := QAj hl;obtain ⟨y0, h0⟩ := (hf 0 _ rfl);change DataW.trod enc Tryz.prog w 0 (fun _ => true) true n 9 ((Eb 0 [c0, c1, c2]).take (Tryz.prog.cellsOf 9))=some y0 at h0;rw [opn9.1] at h0;obtain ⟨d0, r0, vv0⟩ := opn9.2 enc w n _ _ h0;change Rep.rd [] w [c0] d0 at r0;have e0:[c0]=[(.string d0)] := r0;obtain ⟨y1, h1⟩ := (hf 1 _ rfl);change DataW.trod enc Tryz.prog w 0 (fun _ => true) true n 36 ((Eb 1 [c0, c1, c2]).take (Tryz.prog.cellsOf 36))=some y1 at h1;rw [opn36.1] at h1;obtain ⟨d1, r1, vv1⟩ := opn36.2 enc w n _ _ h1;change Rep.rd [] w [c1] d1 at r1;obtain ⟨u1, e1, k1⟩ := r1;obtain rfl:c1=u1 := Ea e1;obtain ⟨y2, h2⟩ := (hf 2 _ rfl);change DataW.trod enc Tryz.prog w 0 (fun _ => true) true n 36 ((Eb 2 [c0, c1, c2]).take (Tryz.prog.cellsOf 36))=some y2 at h2;rw [opn36.1] at h2;obtain ⟨d2, r2, vv2⟩ := opn36.2 enc w n _ _ h2;change Rep.rd [] w [c2] d2 at r2;obtain ⟨u2, e2, k2⟩ := r2;obtain rfl:c2=u2 := Ea e2;simp only [Ec.injEq, and_true] at e0;subst e0;refine ⟨⟨d0, d1, d2⟩, ?_, vv0, vv1, vv2⟩;exact ⟨_, _, k1, k2, rfl⟩
theorem opn24:ZV Tryz.prog 24 (List Nr) (fun (l:(List Nr)) => (∀ x∈l, V80 x)/\l.length<=maxLen) := Qjv Tryz.underlying24 (by kernel_rfl) (by decide) QTv
def V26 (d:Ng):Prop := (fun (l:(List ByteArray)) => (∀ x∈l, (fun (s:ByteArray) => s.size<=maxLen) x)/\l.length<=maxLen) d.Nf/\(fun (l:(List ByteArray)) => (∀ x∈l, (fun (s:ByteArray) => s.size<=maxLen) x)/\l.length<=maxLen) d.Na/\(fun (l:(List Nv)) => (∀ x∈l, V78 x)/\l.length<=maxLen) d.Nb/\(fun (l:(List Nr)) => (∀ x∈l, V80 x)/\l.length<=maxLen) d.Ni
theorem QTq:ZV Tryz.prog 26 Ng V26 := by
 refine ⟨by kernel_rfl, fun enc w fuel cs x h => ?_⟩;obtain ⟨hl, n, hf⟩ := Qju Tryz.underlying26 h;have hc:Tryz.prog.cellsOf 26=4 := by kernel_rfl
 rw [hc] at hl;obtain ⟨c0, c1, c2, c3, rfl⟩:∃ c0 c1 c2 c3, cs=[c0, c1, c2, c3] := QNx hl;obtain ⟨y0, h0⟩ := (hf 0 _ rfl);change DataW.trod enc Tryz.prog w 0 (fun _ => true) true n 22 ((Eb 0 [c0, c1, c2, c3]).take (Tryz.prog.cellsOf 22))=some y0 at h0;rw [opn22.1] at h0;obtain ⟨d0, r0, vv0⟩ := opn22.2 enc w n _ _ h0;change Rep.rd [] w [c0] d0 at r0;obtain ⟨u0, e0, k0⟩ := r0;obtain rfl:c0=u0 := Ea e0;obtain ⟨y1, h1⟩ := (hf 1 _ rfl);change DataW.trod enc Tryz.prog w 0 (fun _ => true) true n 22 ((Eb 1 [c0, c1, c2, c3]).take (Tryz.prog.cellsOf 22))=some y1 at h1;rw [opn22.1] at h1;obtain ⟨d1, r1, vv1⟩ := opn22.2 enc w n _ _ h1;change Rep.rd [] w [c1] d1 at r1;obtain ⟨u1, e1, k1⟩ := r1;obtain rfl:c1=u1 := Ea e1;obtain ⟨y2, h2⟩ := (hf 2 _ rfl);change DataW.trod enc Tryz.prog w 0 (fun _ => true) true n 23 ((Eb 2 [c0, c1, c2, c3]).take (Tryz.prog.cellsOf 23))=some y2 at h2;rw [opn23.1] at h2;obtain ⟨d2, r2, vv2⟩ := opn23.2 enc w n _ _ h2;change Rep.rd [] w [c2] d2 at r2;obtain ⟨u2, e2, k2⟩ := r2;obtain rfl:c2=u2 := Ea e2;obtain ⟨y3, h3⟩ := (hf 3 _ rfl);change DataW.trod enc Tryz.prog w 0 (fun _ => true) true n 24 ((Eb 3 [c0, c1, c2, c3]).take (Tryz.prog.cellsOf 24))=some y3 at h3;rw [opn24.1] at h3;obtain ⟨d3, r3, vv3⟩ := opn24.2 enc w n _ _ h3;change Rep.rd [] w [c3] d3 at r3;obtain ⟨u3, e3, k3⟩ := r3;obtain rfl:c3=u3 := Ea e3;refine ⟨⟨d0, d1, d2, d3⟩, ?_, vv0, vv1, vv2, vv3⟩;exact ⟨_, _, _, _, k0, k1, k2, k3, rfl⟩
def V62 (d:Nm):Prop := (fun (l:(List Int)) => (∀ x∈l, JR x)/\l.length<=maxLen) d.Nc/\JR d.Nk
theorem QTt:ZV Tryz.prog 62 Nm V62 := by
 refine ⟨by kernel_rfl, fun enc w fuel cs x h => ?_⟩;obtain ⟨hl, n, hf⟩ := Qju Tryz.underlying62 h;have hc:Tryz.prog.cellsOf 62=2 := by kernel_rfl
 rw [hc] at hl;obtain ⟨c0, c1, rfl⟩:∃ c0 c1, cs=[c0, c1] := Qsx hl;obtain ⟨y0, h0⟩ := (hf 0 _ rfl);change DataW.trod enc Tryz.prog w 0 (fun _ => true) true n 36 ((Eb 0 [c0, c1]).take (Tryz.prog.cellsOf 36))=some y0 at h0;rw [opn36.1] at h0;obtain ⟨d0, r0, vv0⟩ := opn36.2 enc w n _ _ h0;change Rep.rd [] w [c0] d0 at r0;obtain ⟨u0, e0, k0⟩ := r0;obtain rfl:c0=u0 := Ea e0;obtain ⟨y1, h1⟩ := (hf 1 _ rfl);change DataW.trod enc Tryz.prog w 0 (fun _ => true) true n 3 ((Eb 1 [c0, c1]).take (Tryz.prog.cellsOf 3))=some y1 at h1;rw [opn3.1] at h1;obtain ⟨d1, r1, vv1⟩ := opn3.2 enc w n _ _ h1;change Rep.rd [] w [c1] d1 at r1;have e1:[c1]=[(.int .i64 d1)] := r1;simp only [Ec.injEq, and_true] at e1;subst e1;refine ⟨⟨d0, d1⟩, ?_, vv0, vv1⟩;exact ⟨_, k0, rfl⟩
theorem opn37:ZV Tryz.prog 37 (List Nm) (fun (l:(List Nm)) => (∀ x∈l, V62 x)/\l.length<=maxLen) := Qjv Tryz.underlying37 (by kernel_rfl) (by decide) QTt
def V39 (d:Nd):Prop := (fun (l:(List Int)) => (∀ x∈l, JR x)/\l.length<=maxLen) d.Nb/\(fun (l:(List Nm)) => (∀ x∈l, V62 x)/\l.length<=maxLen) d.Na/\JR d.Nh
theorem QTr:ZV Tryz.prog 39 Nd V39 := by
 refine ⟨by kernel_rfl, fun enc w fuel cs x h => ?_⟩;obtain ⟨hl, n, hf⟩ := Qju Tryz.underlying39 h;have hc:Tryz.prog.cellsOf 39=3 := by kernel_rfl
 rw [hc] at hl;obtain ⟨c0, c1, c2, rfl⟩:∃ c0 c1 c2, cs=[c0, c1, c2] := QAj hl;obtain ⟨y0, h0⟩ := (hf 0 _ rfl);change DataW.trod enc Tryz.prog w 0 (fun _ => true) true n 36 ((Eb 0 [c0, c1, c2]).take (Tryz.prog.cellsOf 36))=some y0 at h0;rw [opn36.1] at h0;obtain ⟨d0, r0, vv0⟩ := opn36.2 enc w n _ _ h0;change Rep.rd [] w [c0] d0 at r0;obtain ⟨u0, e0, k0⟩ := r0;obtain rfl:c0=u0 := Ea e0;obtain ⟨y1, h1⟩ := (hf 1 _ rfl);change DataW.trod enc Tryz.prog w 0 (fun _ => true) true n 37 ((Eb 1 [c0, c1, c2]).take (Tryz.prog.cellsOf 37))=some y1 at h1;rw [opn37.1] at h1;obtain ⟨d1, r1, vv1⟩ := opn37.2 enc w n _ _ h1;change Rep.rd [] w [c1] d1 at r1;obtain ⟨u1, e1, k1⟩ := r1;obtain rfl:c1=u1 := Ea e1;obtain ⟨y2, h2⟩ := (hf 2 _ rfl);change DataW.trod enc Tryz.prog w 0 (fun _ => true) true n 3 ((Eb 2 [c0, c1, c2]).take (Tryz.prog.cellsOf 3))=some y2 at h2;rw [opn3.1] at h2;obtain ⟨d2, r2, vv2⟩ := opn3.2 enc w n _ _ h2;change Rep.rd [] w [c2] d2 at r2;have e2:[c2]=[(.int .i64 d2)] := r2;simp only [Ec.injEq, and_true] at e2;subst e2;refine ⟨⟨d0, d1, d2⟩, ?_, vv0, vv1, vv2⟩;exact ⟨_, _, k0, k1, rfl⟩
def V40 (d:Nq):Prop := JR d.e0/\JR d.e1
theorem QTs:ZV Tryz.prog 40 Nq V40 := by
 refine ⟨by kernel_rfl, fun enc w fuel cs x h => ?_⟩;obtain ⟨hl, n, hf⟩ := QTw Tryz.underlying40 h;have hc:Tryz.prog.cellsOf 40=2 := by kernel_rfl
 rw [hc] at hl;obtain ⟨c0, c1, rfl⟩:∃ c0 c1, cs=[c0, c1] := Qsx hl;obtain ⟨y0, h0⟩ := (hf 0 (by decide));change DataW.trod enc Tryz.prog w 0 (fun _ => true) true n 3 ((Eb (0 * Tryz.prog.cellsOf 3) [c0, c1]).take (Tryz.prog.cellsOf 3))=some y0 at h0;rw [opn3.1] at h0;obtain ⟨d0, r0, vv0⟩ := opn3.2 enc w n _ _ h0;change Rep.rd [] w [c0] d0 at r0;have e0:[c0]=[(.int .i64 d0)] := r0;obtain ⟨y1, h1⟩ := (hf 1 (by decide));change DataW.trod enc Tryz.prog w 0 (fun _ => true) true n 3 ((Eb (1 * Tryz.prog.cellsOf 3) [c0, c1]).take (Tryz.prog.cellsOf 3))=some y1 at h1;rw [opn3.1] at h1;obtain ⟨d1, r1, vv1⟩ := opn3.2 enc w n _ _ h1;change Rep.rd [] w [c1] d1 at r1;have e1:[c1]=[(.int .i64 d1)] := r1;simp only [Ec.injEq, and_true] at e0;subst e0;simp only [Ec.injEq, and_true] at e1;subst e1;refine ⟨⟨d0, d1⟩, ?_, vv0, vv1⟩;rfl
end Go.Gw
