/- What each parameter type of the seat reads as. No condition. -/
import Derived.Test.YtkdfngdamkbcnaaGreatDoorGwFacts
import Derived.Test.YtkdfngdamkbcnaaGreatDoorGwCj21
set_option linter.unusedVariables false
set_option linter.unusedSimpArgs false
set_option linter.unusedSectionVars false
set_option maxRecDepth 100000
namespace Go.Gw
open Go Go.Proofs
theorem QGg {cs:List Value} (h:cs.length=2):∃ c0 c1, cs=[c0, c1] := by
 match cs, h with
 | [c0, c1], _ => exact ⟨c0, c1, rfl⟩
theorem QGh {cs:List Value} (h:cs.length=3):∃ c0 c1 c2, cs=[c0, c1, c2] := by
 match cs, h with
 | [c0, c1, c2], _ => exact ⟨c0, c1, c2, rfl⟩
theorem QGi {cs:List Value} (h:cs.length=4):∃ c0 c1 c2 c3, cs=[c0, c1, c2, c3] := by
 match cs, h with
 | [c0, c1, c2, c3], _ => exact ⟨c0, c1, c2, c3, rfl⟩
theorem opn9:ZW Tryz.prog 9 ByteArray (fun s => s.size<=maxLen) := QMd Tryz.underlying9 (by kernel_rfl)
theorem opn22:ZW Tryz.prog 22 (List ByteArray) (fun (l:(List ByteArray)) => (∀ x∈l, (fun (s:ByteArray) => s.size<=maxLen) x)/\l.length<=maxLen) := Qjt Tryz.underlying22 (by kernel_rfl) (by decide) opn9
theorem opn3:ZW Tryz.prog 3 Int Yv := QMc Tryz.underlying3 (by kernel_rfl)
def V97 (d:Nm):Prop := (fun (s:ByteArray) => s.size<=maxLen) d.Name/\Yv d.Nn
theorem QMa:ZW Tryz.prog 97 Nm V97 := by
 refine ⟨by kernel_rfl, fun enc w fuel cs x h => ?_⟩;obtain ⟨hl, n, hf⟩ := Qpl Tryz.underlying97 h;have hc:Tryz.prog.cellsOf 97=2 := by kernel_rfl
 rw [hc] at hl;obtain ⟨c0, c1, rfl⟩:∃ c0 c1, cs=[c0, c1] := QGg hl;obtain ⟨y0, h0⟩ := (hf 0 _ rfl);change DataW.trod enc Tryz.prog w 0 (fun _ => true) true n 9 ((List.drop 0 [c0, c1]).take (Tryz.prog.cellsOf 9))=some y0 at h0;rw [opn9.1] at h0;obtain ⟨d0, r0, vv0⟩ := opn9.2 enc w n _ _ h0;change Rep.rd [] w [c0] d0 at r0;have e0:[c0]=[(.string d0)] := r0;obtain ⟨y1, h1⟩ := (hf 1 _ rfl);change DataW.trod enc Tryz.prog w 0 (fun _ => true) true n 3 ((List.drop 1 [c0, c1]).take (Tryz.prog.cellsOf 3))=some y1 at h1;rw [opn3.1] at h1;obtain ⟨d1, r1, vv1⟩ := opn3.2 enc w n _ _ h1;change Rep.rd [] w [c1] d1 at r1;have e1:[c1]=[(.int .i64 d1)] := r1;simp only [List.cons.injEq, and_true] at e0;subst e0;simp only [List.cons.injEq, and_true] at e1;subst e1;refine ⟨⟨d0, d1⟩, ?_, vv0, vv1⟩;rfl
theorem opn23:ZW Tryz.prog 23 (List Nm) (fun (l:(List Nm)) => (∀ x∈l, V97 x)/\l.length<=maxLen) := Qjt Tryz.underlying23 (by kernel_rfl) (by decide) QMa
theorem opn27:ZW Tryz.prog 27 (List Int) (fun (l:(List Int)) => (∀ x∈l, Yv x)/\l.length<=maxLen) := Qjt Tryz.underlying27 (by kernel_rfl) (by decide) opn3
def V99 (d:Ni):Prop := (fun (s:ByteArray) => s.size<=maxLen) d.Name/\(fun (l:(List Int)) => (∀ x∈l, Yv x)/\l.length<=maxLen) d.Nb/\(fun (l:(List Int)) => (∀ x∈l, Yv x)/\l.length<=maxLen) d.Nq
theorem QMb:ZW Tryz.prog 99 Ni V99 := by
 refine ⟨by kernel_rfl, fun enc w fuel cs x h => ?_⟩;obtain ⟨hl, n, hf⟩ := Qpl Tryz.underlying99 h;have hc:Tryz.prog.cellsOf 99=3 := by kernel_rfl
 rw [hc] at hl;obtain ⟨c0, c1, c2, rfl⟩:∃ c0 c1 c2, cs=[c0, c1, c2] := QGh hl;obtain ⟨y0, h0⟩ := (hf 0 _ rfl);change DataW.trod enc Tryz.prog w 0 (fun _ => true) true n 9 ((List.drop 0 [c0, c1, c2]).take (Tryz.prog.cellsOf 9))=some y0 at h0;rw [opn9.1] at h0;obtain ⟨d0, r0, vv0⟩ := opn9.2 enc w n _ _ h0;change Rep.rd [] w [c0] d0 at r0;have e0:[c0]=[(.string d0)] := r0;obtain ⟨y1, h1⟩ := (hf 1 _ rfl);change DataW.trod enc Tryz.prog w 0 (fun _ => true) true n 27 ((List.drop 1 [c0, c1, c2]).take (Tryz.prog.cellsOf 27))=some y1 at h1;rw [opn27.1] at h1;obtain ⟨d1, r1, vv1⟩ := opn27.2 enc w n _ _ h1;change Rep.rd [] w [c1] d1 at r1;obtain ⟨u1, e1, k1⟩ := r1;obtain rfl:c1=u1 := List.head_eq_of_cons_eq e1;obtain ⟨y2, h2⟩ := (hf 2 _ rfl);change DataW.trod enc Tryz.prog w 0 (fun _ => true) true n 27 ((List.drop 2 [c0, c1, c2]).take (Tryz.prog.cellsOf 27))=some y2 at h2;rw [opn27.1] at h2;obtain ⟨d2, r2, vv2⟩ := opn27.2 enc w n _ _ h2;change Rep.rd [] w [c2] d2 at r2;obtain ⟨u2, e2, k2⟩ := r2;obtain rfl:c2=u2 := List.head_eq_of_cons_eq e2;simp only [List.cons.injEq, and_true] at e0;subst e0;refine ⟨⟨d0, d1, d2⟩, ?_, vv0, vv1, vv2⟩;exact ⟨_, _, k1, k2, rfl⟩
theorem opn24:ZW Tryz.prog 24 (List Ni) (fun (l:(List Ni)) => (∀ x∈l, V99 x)/\l.length<=maxLen) := Qjt Tryz.underlying24 (by kernel_rfl) (by decide) QMb
def V26 (d:Nd):Prop := (fun (l:(List ByteArray)) => (∀ x∈l, (fun (s:ByteArray) => s.size<=maxLen) x)/\l.length<=maxLen) d.Nb/\(fun (l:(List ByteArray)) => (∀ x∈l, (fun (s:ByteArray) => s.size<=maxLen) x)/\l.length<=maxLen) d.Ng/\(fun (l:(List Nm)) => (∀ x∈l, V97 x)/\l.length<=maxLen) d.Nf/\(fun (l:(List Ni)) => (∀ x∈l, V99 x)/\l.length<=maxLen) d.Nc
theorem QLz:ZW Tryz.prog 26 Nd V26 := by
 refine ⟨by kernel_rfl, fun enc w fuel cs x h => ?_⟩;obtain ⟨hl, n, hf⟩ := Qpl Tryz.underlying26 h;have hc:Tryz.prog.cellsOf 26=4 := by kernel_rfl
 rw [hc] at hl;obtain ⟨c0, c1, c2, c3, rfl⟩:∃ c0 c1 c2 c3, cs=[c0, c1, c2, c3] := QGi hl;obtain ⟨y0, h0⟩ := (hf 0 _ rfl);change DataW.trod enc Tryz.prog w 0 (fun _ => true) true n 22 ((List.drop 0 [c0, c1, c2, c3]).take (Tryz.prog.cellsOf 22))=some y0 at h0;rw [opn22.1] at h0;obtain ⟨d0, r0, vv0⟩ := opn22.2 enc w n _ _ h0;change Rep.rd [] w [c0] d0 at r0;obtain ⟨u0, e0, k0⟩ := r0;obtain rfl:c0=u0 := List.head_eq_of_cons_eq e0;obtain ⟨y1, h1⟩ := (hf 1 _ rfl);change DataW.trod enc Tryz.prog w 0 (fun _ => true) true n 22 ((List.drop 1 [c0, c1, c2, c3]).take (Tryz.prog.cellsOf 22))=some y1 at h1;rw [opn22.1] at h1;obtain ⟨d1, r1, vv1⟩ := opn22.2 enc w n _ _ h1;change Rep.rd [] w [c1] d1 at r1;obtain ⟨u1, e1, k1⟩ := r1;obtain rfl:c1=u1 := List.head_eq_of_cons_eq e1;obtain ⟨y2, h2⟩ := (hf 2 _ rfl);change DataW.trod enc Tryz.prog w 0 (fun _ => true) true n 23 ((List.drop 2 [c0, c1, c2, c3]).take (Tryz.prog.cellsOf 23))=some y2 at h2;rw [opn23.1] at h2;obtain ⟨d2, r2, vv2⟩ := opn23.2 enc w n _ _ h2;change Rep.rd [] w [c2] d2 at r2;obtain ⟨u2, e2, k2⟩ := r2;obtain rfl:c2=u2 := List.head_eq_of_cons_eq e2;obtain ⟨y3, h3⟩ := (hf 3 _ rfl);change DataW.trod enc Tryz.prog w 0 (fun _ => true) true n 24 ((List.drop 3 [c0, c1, c2, c3]).take (Tryz.prog.cellsOf 24))=some y3 at h3;rw [opn24.1] at h3;obtain ⟨d3, r3, vv3⟩ := opn24.2 enc w n _ _ h3;change Rep.rd [] w [c3] d3 at r3;obtain ⟨u3, e3, k3⟩ := r3;obtain rfl:c3=u3 := List.head_eq_of_cons_eq e3;refine ⟨⟨d0, d1, d2, d3⟩, ?_, vv0, vv1, vv2, vv3⟩;exact ⟨_, _, _, _, k0, k1, k2, k3, rfl⟩
def V61 (d:Nr):Prop := (fun (l:(List Int)) => (∀ x∈l, Yv x)/\l.length<=maxLen) d.Nt/\Yv d.Nw
def V30 (d:Nj):Prop := (fun (l:(List Int)) => (∀ x∈l, Yv x)/\l.length<=maxLen) d.Nf/\(fun (l:(List Nr)) => (∀ x∈l, V61 x)/\l.length<=maxLen) d.Ng/\Yv d.Nu
def V32 (d:Ns):Prop := Yv d.Kind/\Yv d.A/\Yv d.B
def V34 (d:Nx):Prop := Yv d.e0/\Yv d.e1/\Yv d.e2/\Yv d.e3/\Yv d.e4
def V36 (d:NC):Prop := V32 d.Event/\Yv d.Nu/\Yv d.Which/\V34 d.Nz/\Yv d.Place/\Yv d.Number
def V55 (d:NB):Prop := Yv d.e0/\Yv d.e1/\Yv d.e2/\Yv d.e3
end Go.Gw
