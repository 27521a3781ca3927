/- What each parameter type of the seat reads as. No condition. -/
import Derived.Test.YtbigilldfhjedaaGreatDoorGwFacts
import Derived.Test.YtbigilldfhjedaaGreatDoorGwCj21
set_option linter.unusedVariables false
set_option linter.unusedSimpArgs false
set_option linter.unusedSectionVars false
set_option maxRecDepth 100000
open List renaming head_eq_of_cons_eq→Ea,drop→Eb,cons→Ec
namespace Go.Gw
open Go Go.Proofs
theorem QAe {cs:List Value} (h:cs.length=2):∃ c0 c1, cs=[c0, c1] := by
 match cs, h with
 | [c0, c1], _ => exact ⟨c0, c1, rfl⟩
theorem Qsj {cs:List Value} (h:cs.length=3):∃ c0 c1 c2, cs=[c0, c1, c2] := by
 match cs, h with
 | [c0, c1, c2], _ => exact ⟨c0, c1, c2, rfl⟩
theorem QPw {cs:List Value} (h:cs.length=4):∃ c0 c1 c2 c3, cs=[c0, c1, c2, c3] := by
 match cs, h with
 | [c0, c1, c2, c3], _ => exact ⟨c0, c1, c2, c3, rfl⟩
theorem QPx {cs:List Value} (h:cs.length=6):∃ c0 c1 c2 c3 c4 c5, cs=[c0, c1, c2, c3, c4, c5] := by
 match cs, h with
 | [c0, c1, c2, c3, c4, c5], _ => exact ⟨c0, c1, c2, c3, c4, c5, rfl⟩
theorem opn9:Zz Tryz.prog 9 ByteArray (fun s => s.size<=maxLen) := QXh Tryz.underlying9 (by kernel_rfl)
theorem opn22:Zz Tryz.prog 22 (List ByteArray) (fun (l:(List ByteArray)) => (∀ x∈l, (fun (s:ByteArray) => s.size<=maxLen) x)/\l.length<=maxLen) := Qiz Tryz.underlying22 (by kernel_rfl) (by decide) opn9
theorem opn3:Zz Tryz.prog 3 Int Y8 := QXg Tryz.underlying3 (by kernel_rfl)
def V78 (d:Nv):Prop := (fun (s:ByteArray) => s.size<=maxLen) d.Name/\Y8 d.Nm
theorem QXd:Zz Tryz.prog 78 Nv V78 := by
 refine ⟨by kernel_rfl, fun enc w fuel cs x h => ?_⟩;obtain ⟨hl, n, hf⟩ := Qex Tryz.underlying78 h;have hc:Tryz.prog.cellsOf 78=2 := by kernel_rfl
 rw [hc] at hl;obtain ⟨c0, c1, rfl⟩:∃ c0 c1, cs=[c0, c1] := QAe hl;obtain ⟨y0, h0⟩ := (hf 0 _ rfl);change DataW.trod enc Tryz.prog w 0 (fun _ => true) true n 9 ((Eb 0 [c0, c1]).take (Tryz.prog.cellsOf 9))=some y0 at h0;rw [opn9.1] at h0;obtain ⟨d0, r0, vv0⟩ := opn9.2 enc w n _ _ h0;change Rep.rd [] w [c0] d0 at r0;have e0:[c0]=[(.string d0)] := r0;obtain ⟨y1, h1⟩ := (hf 1 _ rfl);change DataW.trod enc Tryz.prog w 0 (fun _ => true) true n 3 ((Eb 1 [c0, c1]).take (Tryz.prog.cellsOf 3))=some y1 at h1;rw [opn3.1] at h1;obtain ⟨d1, r1, vv1⟩ := opn3.2 enc w n _ _ h1;change Rep.rd [] w [c1] d1 at r1;have e1:[c1]=[(.int .i64 d1)] := r1;simp only [Ec.injEq, and_true] at e0;subst e0;simp only [Ec.injEq, and_true] at e1;subst e1;refine ⟨⟨d0, d1⟩, ?_, vv0, vv1⟩;rfl
theorem opn23:Zz Tryz.prog 23 (List Nv) (fun (l:(List Nv)) => (∀ x∈l, V78 x)/\l.length<=maxLen) := Qiz Tryz.underlying23 (by kernel_rfl) (by decide) QXd
theorem opn29:Zz Tryz.prog 29 (List Int) (fun (l:(List Int)) => (∀ x∈l, Y8 x)/\l.length<=maxLen) := Qiz Tryz.underlying29 (by kernel_rfl) (by decide) opn3
def V80 (d:Np):Prop := (fun (s:ByteArray) => s.size<=maxLen) d.Name/\(fun (l:(List Int)) => (∀ x∈l, Y8 x)/\l.length<=maxLen) d.Nd/\(fun (l:(List Int)) => (∀ x∈l, Y8 x)/\l.length<=maxLen) d.Nu
theorem QXe:Zz Tryz.prog 80 Np V80 := by
 refine ⟨by kernel_rfl, fun enc w fuel cs x h => ?_⟩;obtain ⟨hl, n, hf⟩ := Qex Tryz.underlying80 h;have hc:Tryz.prog.cellsOf 80=3 := by kernel_rfl
 rw [hc] at hl;obtain ⟨c0, c1, c2, rfl⟩:∃ c0 c1 c2, cs=[c0, c1, c2] := Qsj hl;obtain ⟨y0, h0⟩ := (hf 0 _ rfl);change DataW.trod enc Tryz.prog w 0 (fun _ => true) true n 9 ((Eb 0 [c0, c1, c2]).take (Tryz.prog.cellsOf 9))=some y0 at h0;rw [opn9.1] at h0;obtain ⟨d0, r0, vv0⟩ := opn9.2 enc w n _ _ h0;change Rep.rd [] w [c0] d0 at r0;have e0:[c0]=[(.string d0)] := r0;obtain ⟨y1, h1⟩ := (hf 1 _ rfl);change DataW.trod enc Tryz.prog w 0 (fun _ => true) true n 29 ((Eb 1 [c0, c1, c2]).take (Tryz.prog.cellsOf 29))=some y1 at h1;rw [opn29.1] at h1;obtain ⟨d1, r1, vv1⟩ := opn29.2 enc w n _ _ h1;change Rep.rd [] w [c1] d1 at r1;obtain ⟨u1, e1, k1⟩ := r1;obtain rfl:c1=u1 := Ea e1;obtain ⟨y2, h2⟩ := (hf 2 _ rfl);change DataW.trod enc Tryz.prog w 0 (fun _ => true) true n 29 ((Eb 2 [c0, c1, c2]).take (Tryz.prog.cellsOf 29))=some y2 at h2;rw [opn29.1] at h2;obtain ⟨d2, r2, vv2⟩ := opn29.2 enc w n _ _ h2;change Rep.rd [] w [c2] d2 at r2;obtain ⟨u2, e2, k2⟩ := r2;obtain rfl:c2=u2 := Ea e2;simp only [Ec.injEq, and_true] at e0;subst e0;refine ⟨⟨d0, d1, d2⟩, ?_, vv0, vv1, vv2⟩;exact ⟨_, _, k1, k2, rfl⟩
theorem opn24:Zz Tryz.prog 24 (List Np) (fun (l:(List Np)) => (∀ x∈l, V80 x)/\l.length<=maxLen) := Qiz Tryz.underlying24 (by kernel_rfl) (by decide) QXe
def V26 (d:Ng):Prop := (fun (l:(List ByteArray)) => (∀ x∈l, (fun (s:ByteArray) => s.size<=maxLen) x)/\l.length<=maxLen) d.Nd/\(fun (l:(List ByteArray)) => (∀ x∈l, (fun (s:ByteArray) => s.size<=maxLen) x)/\l.length<=maxLen) d.Na/\(fun (l:(List Nv)) => (∀ x∈l, V78 x)/\l.length<=maxLen) d.Nb/\(fun (l:(List Np)) => (∀ x∈l, V80 x)/\l.length<=maxLen) d.Nk
theorem QXb:Zz Tryz.prog 26 Ng V26 := by
 refine ⟨by kernel_rfl, fun enc w fuel cs x h => ?_⟩;obtain ⟨hl, n, hf⟩ := Qex Tryz.underlying26 h;have hc:Tryz.prog.cellsOf 26=4 := by kernel_rfl
 rw [hc] at hl;obtain ⟨c0, c1, c2, c3, rfl⟩:∃ c0 c1 c2 c3, cs=[c0, c1, c2, c3] := QPw hl;obtain ⟨y0, h0⟩ := (hf 0 _ rfl);change DataW.trod enc Tryz.prog w 0 (fun _ => true) true n 22 ((Eb 0 [c0, c1, c2, c3]).take (Tryz.prog.cellsOf 22))=some y0 at h0;rw [opn22.1] at h0;obtain ⟨d0, r0, vv0⟩ := opn22.2 enc w n _ _ h0;change Rep.rd [] w [c0] d0 at r0;obtain ⟨u0, e0, k0⟩ := r0;obtain rfl:c0=u0 := Ea e0;obtain ⟨y1, h1⟩ := (hf 1 _ rfl);change DataW.trod enc Tryz.prog w 0 (fun _ => true) true n 22 ((Eb 1 [c0, c1, c2, c3]).take (Tryz.prog.cellsOf 22))=some y1 at h1;rw [opn22.1] at h1;obtain ⟨d1, r1, vv1⟩ := opn22.2 enc w n _ _ h1;change Rep.rd [] w [c1] d1 at r1;obtain ⟨u1, e1, k1⟩ := r1;obtain rfl:c1=u1 := Ea e1;obtain ⟨y2, h2⟩ := (hf 2 _ rfl);change DataW.trod enc Tryz.prog w 0 (fun _ => true) true n 23 ((Eb 2 [c0, c1, c2, c3]).take (Tryz.prog.cellsOf 23))=some y2 at h2;rw [opn23.1] at h2;obtain ⟨d2, r2, vv2⟩ := opn23.2 enc w n _ _ h2;change Rep.rd [] w [c2] d2 at r2;obtain ⟨u2, e2, k2⟩ := r2;obtain rfl:c2=u2 := Ea e2;obtain ⟨y3, h3⟩ := (hf 3 _ rfl);change DataW.trod enc Tryz.prog w 0 (fun _ => true) true n 24 ((Eb 3 [c0, c1, c2, c3]).take (Tryz.prog.cellsOf 24))=some y3 at h3;rw [opn24.1] at h3;obtain ⟨d3, r3, vv3⟩ := opn24.2 enc w n _ _ h3;change Rep.rd [] w [c3] d3 at r3;obtain ⟨u3, e3, k3⟩ := r3;obtain rfl:c3=u3 := Ea e3;refine ⟨⟨d0, d1, d2, d3⟩, ?_, vv0, vv1, vv2, vv3⟩;exact ⟨_, _, _, _, k0, k1, k2, k3, rfl⟩
def V28 (d:Nj):Prop := Y8 d.Kind/\Y8 d.A/\Y8 d.B
theorem opn28:Zz Tryz.prog 28 Nj V28 := by
 refine ⟨by kernel_rfl, fun enc w fuel cs x h => ?_⟩;obtain ⟨hl, n, hf⟩ := Qex Tryz.underlying28 h;have hc:Tryz.prog.cellsOf 28=3 := by kernel_rfl
 rw [hc] at hl;obtain ⟨c0, c1, c2, rfl⟩:∃ c0 c1 c2, cs=[c0, c1, c2] := Qsj hl;obtain ⟨y0, h0⟩ := (hf 0 _ rfl);change DataW.trod enc Tryz.prog w 0 (fun _ => true) true n 3 ((Eb 0 [c0, c1, c2]).take (Tryz.prog.cellsOf 3))=some y0 at h0;rw [opn3.1] at h0;obtain ⟨d0, r0, vv0⟩ := opn3.2 enc w n _ _ h0;change Rep.rd [] w [c0] d0 at r0;have e0:[c0]=[(.int .i64 d0)] := r0;obtain ⟨y1, h1⟩ := (hf 1 _ rfl);change DataW.trod enc Tryz.prog w 0 (fun _ => true) true n 3 ((Eb 1 [c0, c1, c2]).take (Tryz.prog.cellsOf 3))=some y1 at h1;rw [opn3.1] at h1;obtain ⟨d1, r1, vv1⟩ := opn3.2 enc w n _ _ h1;change Rep.rd [] w [c1] d1 at r1;have e1:[c1]=[(.int .i64 d1)] := r1;obtain ⟨y2, h2⟩ := (hf 2 _ rfl);change DataW.trod enc Tryz.prog w 0 (fun _ => true) true n 3 ((Eb 2 [c0, c1, c2]).take (Tryz.prog.cellsOf 3))=some y2 at h2;rw [opn3.1] at h2;obtain ⟨d2, r2, vv2⟩ := opn3.2 enc w n _ _ h2;change Rep.rd [] w [c2] d2 at r2;have e2:[c2]=[(.int .i64 d2)] := r2;simp only [Ec.injEq, and_true] at e0;subst e0;simp only [Ec.injEq, and_true] at e1;subst e1;simp only [Ec.injEq, and_true] at e2;subst e2;refine ⟨⟨d0, d1, d2⟩, ?_, vv0, vv1, vv2⟩;rfl
def V82 (d:Nh):Prop := (fun (l:(List Int)) => (∀ x∈l, Y8 x)/\l.length<=maxLen) d.Nc/\Y8 d.Nl
theorem QXf:Zz Tryz.prog 82 Nh V82 := by
 refine ⟨by kernel_rfl, fun enc w fuel cs x h => ?_⟩;obtain ⟨hl, n, hf⟩ := Qex Tryz.underlying82 h;have hc:Tryz.prog.cellsOf 82=2 := by kernel_rfl
 rw [hc] at hl;obtain ⟨c0, c1, rfl⟩:∃ c0 c1, cs=[c0, c1] := QAe hl;obtain ⟨y0, h0⟩ := (hf 0 _ rfl);change DataW.trod enc Tryz.prog w 0 (fun _ => true) true n 29 ((Eb 0 [c0, c1]).take (Tryz.prog.cellsOf 29))=some y0 at h0;rw [opn29.1] at h0;obtain ⟨d0, r0, vv0⟩ := opn29.2 enc w n _ _ h0;change Rep.rd [] w [c0] d0 at r0;obtain ⟨u0, e0, k0⟩ := r0;obtain rfl:c0=u0 := Ea e0;obtain ⟨y1, h1⟩ := (hf 1 _ rfl);change DataW.trod enc Tryz.prog w 0 (fun _ => true) true n 3 ((Eb 1 [c0, c1]).take (Tryz.prog.cellsOf 3))=some y1 at h1;rw [opn3.1] at h1;obtain ⟨d1, r1, vv1⟩ := opn3.2 enc w n _ _ h1;change Rep.rd [] w [c1] d1 at r1;have e1:[c1]=[(.int .i64 d1)] := r1;simp only [Ec.injEq, and_true] at e1;subst e1;refine ⟨⟨d0, d1⟩, ?_, vv0, vv1⟩;exact ⟨_, k0, rfl⟩
theorem opn30:Zz Tryz.prog 30 (List Nh) (fun (l:(List Nh)) => (∀ x∈l, V82 x)/\l.length<=maxLen) := Qiz Tryz.underlying30 (by kernel_rfl) (by decide) QXf
def V32 (d:Nf):Prop := (fun (l:(List Int)) => (∀ x∈l, Y8 x)/\l.length<=maxLen) d.Nb/\(fun (l:(List Nh)) => (∀ x∈l, V82 x)/\l.length<=maxLen) d.Na/\Y8 d.Ni
theorem opn32:Zz Tryz.prog 32 Nf V32 := by
 refine ⟨by kernel_rfl, fun enc w fuel cs x h => ?_⟩;obtain ⟨hl, n, hf⟩ := Qex Tryz.underlying32 h;have hc:Tryz.prog.cellsOf 32=3 := by kernel_rfl
 rw [hc] at hl;obtain ⟨c0, c1, c2, rfl⟩:∃ c0 c1 c2, cs=[c0, c1, c2] := Qsj hl;obtain ⟨y0, h0⟩ := (hf 0 _ rfl);change DataW.trod enc Tryz.prog w 0 (fun _ => true) true n 29 ((Eb 0 [c0, c1, c2]).take (Tryz.prog.cellsOf 29))=some y0 at h0;rw [opn29.1] at h0;obtain ⟨d0, r0, vv0⟩ := opn29.2 enc w n _ _ h0;change Rep.rd [] w [c0] d0 at r0;obtain ⟨u0, e0, k0⟩ := r0;obtain rfl:c0=u0 := Ea e0;obtain ⟨y1, h1⟩ := (hf 1 _ rfl);change DataW.trod enc Tryz.prog w 0 (fun _ => true) true n 30 ((Eb 1 [c0, c1, c2]).take (Tryz.prog.cellsOf 30))=some y1 at h1;rw [opn30.1] at h1;obtain ⟨d1, r1, vv1⟩ := opn30.2 enc w n _ _ h1;change Rep.rd [] w [c1] d1 at r1;obtain ⟨u1, e1, k1⟩ := r1;obtain rfl:c1=u1 := Ea e1;obtain ⟨y2, h2⟩ := (hf 2 _ rfl);change DataW.trod enc Tryz.prog w 0 (fun _ => true) true n 3 ((Eb 2 [c0, c1, c2]).take (Tryz.prog.cellsOf 3))=some y2 at h2;rw [opn3.1] at h2;obtain ⟨d2, r2, vv2⟩ := opn3.2 enc w n _ _ h2;change Rep.rd [] w [c2] d2 at r2;have e2:[c2]=[(.int .i64 d2)] := r2;simp only [Ec.injEq, and_true] at e2;subst e2;refine ⟨⟨d0, d1, d2⟩, ?_, vv0, vv1, vv2⟩;exact ⟨_, _, k0, k1, rfl⟩
def V34 (d:NB):Prop := V28 d.Event/\V32 d.State
theorem QXc:Zz Tryz.prog 34 NB V34 := by
 refine ⟨by kernel_rfl, fun enc w fuel cs x h => ?_⟩;obtain ⟨hl, n, hf⟩ := Qex Tryz.underlying34 h;have hc:Tryz.prog.cellsOf 34=6 := by kernel_rfl
 rw [hc] at hl;obtain ⟨c0, c1, c2, c3, c4, c5, rfl⟩:∃ c0 c1 c2 c3 c4 c5, cs=[c0, c1, c2, c3, c4, c5] := QPx hl;obtain ⟨y0, h0⟩ := (hf 0 _ rfl);change DataW.trod enc Tryz.prog w 0 (fun _ => true) true n 28 ((Eb 0 [c0, c1, c2, c3, c4, c5]).take (Tryz.prog.cellsOf 28))=some y0 at h0;rw [opn28.1] at h0;obtain ⟨d0, r0, vv0⟩ := opn28.2 enc w n _ _ h0;change Rep.rd [] w [c0, c1, c2] d0 at r0;have e0:[c0, c1, c2]=[(.int .i64 d0.Kind), (.int .i64 d0.A), (.int .i64 d0.B)] := r0;obtain ⟨y1, h1⟩ := (hf 1 _ rfl);change DataW.trod enc Tryz.prog w 0 (fun _ => true) true n 32 ((Eb 3 [c0, c1, c2, c3, c4, c5]).take (Tryz.prog.cellsOf 32))=some y1 at h1;rw [opn32.1] at h1;obtain ⟨d1, r1, vv1⟩ := opn32.2 enc w n _ _ h1;change Rep.rd [] w [c3, c4, c5] d1 at r1;obtain ⟨v1, v3, h2, h4, e1⟩ := r1;simp only [Ec.injEq, and_true] at e0;obtain ⟨rfl, rfl, rfl⟩ := e0;simp only [Ec.injEq, and_true] at e1;obtain ⟨rfl, rfl, rfl⟩ := e1;refine ⟨⟨d0, d1⟩, ?_, vv0, vv1⟩;exact ⟨_, _, h2, h4, rfl⟩
end Go.Gw
