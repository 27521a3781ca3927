/- What each parameter type of the seat reads as. No condition. -/
import Derived.Test.YtgpapebgdnimfaaGwFacts
import Derived.Test.YtgpapebgdnimfaaGwClose
set_option maxRecDepth 100000
namespace Go.Gw
open Go Go.Proofs
theorem len3 {cs : List Value} (h : cs.length = 3) : ∃ c0 c1 c2, cs = [c0, c1, c2] := by
  match cs, h with
  | [c0, c1, c2], _ => exact ⟨c0, c1, c2, rfl⟩
theorem len4 {cs : List Value} (h : cs.length = 4) : ∃ c0 c1 c2 c3, cs = [c0, c1, c2, c3] := by
  match cs, h with
  | [c0, c1, c2, c3], _ => exact ⟨c0, c1, c2, c3, rfl⟩
theorem len9 {cs : List Value} (h : cs.length = 9) : ∃ c0 c1 c2 c3 c4 c5 c6 c7 c8, cs = [c0, c1, c2, c3, c4, c5, c6, c7, c8] := by
  match cs, h with
  | [c0, c1, c2, c3, c4, c5, c6, c7, c8], _ => exact ⟨c0, c1, c2, c3, c4, c5, c6, c7, c8, rfl⟩
theorem opn3 : Opn Try.prog 3 Int R64 := opn_int Try.underlying3 (by kernel_rfl)
theorem opn22 : Opn Try.prog 22 (List Int) (fun (l : (List Int)) => (∀ x ∈ l, R64 x) ∧ l.length ≤ maxLen) := opn_slice Try.underlying22 (by kernel_rfl) (by decide) opn3
theorem opn4 : Opn Try.prog 4 Bool (fun _ => True) := opn_bool Try.underlying4 (by kernel_rfl)
def V24 (d : LocateTrack) : Prop := (fun (l : (List Int)) => (∀ x ∈ l, R64 x) ∧ l.length ≤ maxLen) d.Vanes ∧ R64 d.Window ∧ R64 d.Tooth ∧ R64 d.PerVane ∧ R64 d.First ∧ R64 d.Modulus ∧ R64 d.Slack ∧ R64 d.Errors ∧ (fun (_ : Bool) => True) d.Round
theorem opn24 : Opn Try.prog 24 LocateTrack V24 := by
  refine ⟨by kernel_rfl, fun enc w fuel cs x h => ?_⟩
  obtain ⟨hl, n, hf⟩ := opn_fields Try.underlying24 h
  have hc : Try.prog.cellsOf 24 = 9 := by kernel_rfl
  rw [hc] at hl
  obtain ⟨c0, c1, c2, c3, c4, c5, c6, c7, c8, rfl⟩ : ∃ c0 c1 c2 c3 c4 c5 c6 c7 c8, cs = [c0, c1, c2, c3, c4, c5, c6, c7, c8] := len9 hl
  obtain ⟨y0, h0⟩ := (hf 0 _ rfl)
  change DataW.trod enc Try.prog w 0 (fun _ => true) true n 22 ((List.drop 0 [c0, c1, c2, c3, c4, c5, c6, c7, c8]).take (Try.prog.cellsOf 22)) = some y0 at h0
  rw [opn22.1] at h0
  obtain ⟨d0, r0, v0⟩ := opn22.2 enc w n _ _ h0
  change Rep.rd [] w [c0] d0 at r0
  obtain ⟨u0, e0, k0⟩ := r0
  obtain rfl : c0 = u0 := List.head_eq_of_cons_eq e0
  obtain ⟨y1, h1⟩ := (hf 1 _ rfl)
  change DataW.trod enc Try.prog w 0 (fun _ => true) true n 3 ((List.drop 1 [c0, c1, c2, c3, c4, c5, c6, c7, c8]).take (Try.prog.cellsOf 3)) = some y1 at h1
  rw [opn3.1] at h1
  obtain ⟨d1, r1, v1⟩ := opn3.2 enc w n _ _ h1
  change Rep.rd [] w [c1] d1 at r1
  have e1 : [c1] = [(.int .i64 d1)] := r1
  obtain ⟨y2, h2⟩ := (hf 2 _ rfl)
  change DataW.trod enc Try.prog w 0 (fun _ => true) true n 3 ((List.drop 2 [c0, c1, c2, c3, c4, c5, c6, c7, c8]).take (Try.prog.cellsOf 3)) = some y2 at h2
  rw [opn3.1] at h2
  obtain ⟨d2, r2, v2⟩ := opn3.2 enc w n _ _ h2
  change Rep.rd [] w [c2] d2 at r2
  have e2 : [c2] = [(.int .i64 d2)] := r2
  obtain ⟨y3, h3⟩ := (hf 3 _ rfl)
  change DataW.trod enc Try.prog w 0 (fun _ => true) true n 3 ((List.drop 3 [c0, c1, c2, c3, c4, c5, c6, c7, c8]).take (Try.prog.cellsOf 3)) = some y3 at h3
  rw [opn3.1] at h3
  obtain ⟨d3, r3, v3⟩ := opn3.2 enc w n _ _ h3
  change Rep.rd [] w [c3] d3 at r3
  have e3 : [c3] = [(.int .i64 d3)] := r3
  obtain ⟨y4, h4⟩ := (hf 4 _ rfl)
  change DataW.trod enc Try.prog w 0 (fun _ => true) true n 3 ((List.drop 4 [c0, c1, c2, c3, c4, c5, c6, c7, c8]).take (Try.prog.cellsOf 3)) = some y4 at h4
  rw [opn3.1] at h4
  obtain ⟨d4, r4, v4⟩ := opn3.2 enc w n _ _ h4
  change Rep.rd [] w [c4] d4 at r4
  have e4 : [c4] = [(.int .i64 d4)] := r4
  obtain ⟨y5, h5⟩ := (hf 5 _ rfl)
  change DataW.trod enc Try.prog w 0 (fun _ => true) true n 3 ((List.drop 5 [c0, c1, c2, c3, c4, c5, c6, c7, c8]).take (Try.prog.cellsOf 3)) = some y5 at h5
  rw [opn3.1] at h5
  obtain ⟨d5, r5, v5⟩ := opn3.2 enc w n _ _ h5
  change Rep.rd [] w [c5] d5 at r5
  have e5 : [c5] = [(.int .i64 d5)] := r5
  obtain ⟨y6, h6⟩ := (hf 6 _ rfl)
  change DataW.trod enc Try.prog w 0 (fun _ => true) true n 3 ((List.drop 6 [c0, c1, c2, c3, c4, c5, c6, c7, c8]).take (Try.prog.cellsOf 3)) = some y6 at h6
  rw [opn3.1] at h6
  obtain ⟨d6, r6, v6⟩ := opn3.2 enc w n _ _ h6
  change Rep.rd [] w [c6] d6 at r6
  have e6 : [c6] = [(.int .i64 d6)] := r6
  obtain ⟨y7, h7⟩ := (hf 7 _ rfl)
  change DataW.trod enc Try.prog w 0 (fun _ => true) true n 3 ((List.drop 7 [c0, c1, c2, c3, c4, c5, c6, c7, c8]).take (Try.prog.cellsOf 3)) = some y7 at h7
  rw [opn3.1] at h7
  obtain ⟨d7, r7, v7⟩ := opn3.2 enc w n _ _ h7
  change Rep.rd [] w [c7] d7 at r7
  have e7 : [c7] = [(.int .i64 d7)] := r7
  obtain ⟨y8, h8⟩ := (hf 8 _ rfl)
  change DataW.trod enc Try.prog w 0 (fun _ => true) true n 4 ((List.drop 8 [c0, c1, c2, c3, c4, c5, c6, c7, c8]).take (Try.prog.cellsOf 4)) = some y8 at h8
  rw [opn4.1] at h8
  obtain ⟨d8, r8, v8⟩ := opn4.2 enc w n _ _ h8
  change Rep.rd [] w [c8] d8 at r8
  have e8 : [c8] = [(.bool d8)] := r8
  simp only [List.cons.injEq, and_true] at e1
  subst e1
  simp only [List.cons.injEq, and_true] at e2
  subst e2
  simp only [List.cons.injEq, and_true] at e3
  subst e3
  simp only [List.cons.injEq, and_true] at e4
  subst e4
  simp only [List.cons.injEq, and_true] at e5
  subst e5
  simp only [List.cons.injEq, and_true] at e6
  subst e6
  simp only [List.cons.injEq, and_true] at e7
  subst e7
  simp only [List.cons.injEq, and_true] at e8
  subst e8
  refine ⟨⟨d0, d1, d2, d3, d4, d5, d6, d7, d8⟩, ?_, v0, v1, v2, v3, v4, v5, v6, v7, v8⟩
  exact ⟨c0, k0, rfl⟩
def V76 (d : guidewaylaw04_Spoilt) : Prop := R64 d.Tooth ∧ (fun (l : (List Int)) => (∀ x ∈ l, R64 x) ∧ l.length ≤ maxLen) d.Wrong ∧ (fun (l : (List Int)) => (∀ x ∈ l, R64 x) ∧ l.length ≤ maxLen) d.Unread ∧ R64 d.Off
theorem opn76 : Opn Try.prog 76 guidewaylaw04_Spoilt V76 := by
  refine ⟨by kernel_rfl, fun enc w fuel cs x h => ?_⟩
  obtain ⟨hl, n, hf⟩ := opn_fields Try.underlying76 h
  have hc : Try.prog.cellsOf 76 = 4 := by kernel_rfl
  rw [hc] at hl
  obtain ⟨c0, c1, c2, c3, rfl⟩ : ∃ c0 c1 c2 c3, cs = [c0, c1, c2, c3] := len4 hl
  obtain ⟨y0, h0⟩ := (hf 0 _ rfl)
  change DataW.trod enc Try.prog w 0 (fun _ => true) true n 3 ((List.drop 0 [c0, c1, c2, c3]).take (Try.prog.cellsOf 3)) = some y0 at h0
  rw [opn3.1] at h0
  obtain ⟨d0, r0, v0⟩ := opn3.2 enc w n _ _ h0
  change Rep.rd [] w [c0] d0 at r0
  have e0 : [c0] = [(.int .i64 d0)] := r0
  obtain ⟨y1, h1⟩ := (hf 1 _ rfl)
  change DataW.trod enc Try.prog w 0 (fun _ => true) true n 22 ((List.drop 1 [c0, c1, c2, c3]).take (Try.prog.cellsOf 22)) = some y1 at h1
  rw [opn22.1] at h1
  obtain ⟨d1, r1, v1⟩ := opn22.2 enc w n _ _ h1
  change Rep.rd [] w [c1] d1 at r1
  obtain ⟨u1, e1, k1⟩ := r1
  obtain rfl : c1 = u1 := List.head_eq_of_cons_eq e1
  obtain ⟨y2, h2⟩ := (hf 2 _ rfl)
  change DataW.trod enc Try.prog w 0 (fun _ => true) true n 22 ((List.drop 2 [c0, c1, c2, c3]).take (Try.prog.cellsOf 22)) = some y2 at h2
  rw [opn22.1] at h2
  obtain ⟨d2, r2, v2⟩ := opn22.2 enc w n _ _ h2
  change Rep.rd [] w [c2] d2 at r2
  obtain ⟨u2, e2, k2⟩ := r2
  obtain rfl : c2 = u2 := List.head_eq_of_cons_eq e2
  obtain ⟨y3, h3⟩ := (hf 3 _ rfl)
  change DataW.trod enc Try.prog w 0 (fun _ => true) true n 3 ((List.drop 3 [c0, c1, c2, c3]).take (Try.prog.cellsOf 3)) = some y3 at h3
  rw [opn3.1] at h3
  obtain ⟨d3, r3, v3⟩ := opn3.2 enc w n _ _ h3
  change Rep.rd [] w [c3] d3 at r3
  have e3 : [c3] = [(.int .i64 d3)] := r3
  simp only [List.cons.injEq, and_true] at e0
  subst e0
  simp only [List.cons.injEq, and_true] at e3
  subst e3
  refine ⟨⟨d0, d1, d2, d3⟩, ?_, v0, v1, v2, v3⟩
  exact ⟨c1, c2, k1, k2, rfl⟩
theorem opn25 : Opn Try.prog 25 (List guidewaylaw04_Spoilt) (fun (l : (List guidewaylaw04_Spoilt)) => (∀ x ∈ l, V76 x) ∧ l.length ≤ maxLen) := opn_slice Try.underlying25 (by kernel_rfl) (by decide) opn76
def V27 (d : guidewaytop_LocateRun) : Prop := (fun (l : (List Int)) => (∀ x ∈ l, R64 x) ∧ l.length ≤ maxLen) d.Teeth ∧ R64 d.Time ∧ (fun (l : (List guidewaylaw04_Spoilt)) => (∀ x ∈ l, V76 x) ∧ l.length ≤ maxLen) d.Spoilt
theorem opn27 : Opn Try.prog 27 guidewaytop_LocateRun V27 := by
  refine ⟨by kernel_rfl, fun enc w fuel cs x h => ?_⟩
  obtain ⟨hl, n, hf⟩ := opn_fields Try.underlying27 h
  have hc : Try.prog.cellsOf 27 = 3 := by kernel_rfl
  rw [hc] at hl
  obtain ⟨c0, c1, c2, rfl⟩ : ∃ c0 c1 c2, cs = [c0, c1, c2] := len3 hl
  obtain ⟨y0, h0⟩ := (hf 0 _ rfl)
  change DataW.trod enc Try.prog w 0 (fun _ => true) true n 22 ((List.drop 0 [c0, c1, c2]).take (Try.prog.cellsOf 22)) = some y0 at h0
  rw [opn22.1] at h0
  obtain ⟨d0, r0, v0⟩ := opn22.2 enc w n _ _ h0
  change Rep.rd [] w [c0] d0 at r0
  obtain ⟨u0, e0, k0⟩ := r0
  obtain rfl : c0 = u0 := List.head_eq_of_cons_eq e0
  obtain ⟨y1, h1⟩ := (hf 1 _ rfl)
  change DataW.trod enc Try.prog w 0 (fun _ => true) true n 3 ((List.drop 1 [c0, c1, c2]).take (Try.prog.cellsOf 3)) = some y1 at h1
  rw [opn3.1] at h1
  obtain ⟨d1, r1, v1⟩ := opn3.2 enc w n _ _ h1
  change Rep.rd [] w [c1] d1 at r1
  have e1 : [c1] = [(.int .i64 d1)] := r1
  obtain ⟨y2, h2⟩ := (hf 2 _ rfl)
  change DataW.trod enc Try.prog w 0 (fun _ => true) true n 25 ((List.drop 2 [c0, c1, c2]).take (Try.prog.cellsOf 25)) = some y2 at h2
  rw [opn25.1] at h2
  obtain ⟨d2, r2, v2⟩ := opn25.2 enc w n _ _ h2
  change Rep.rd [] w [c2] d2 at r2
  obtain ⟨u2, e2, k2⟩ := r2
  obtain rfl : c2 = u2 := List.head_eq_of_cons_eq e2
  simp only [List.cons.injEq, and_true] at e1
  subst e1
  refine ⟨⟨d0, d1, d2⟩, ?_, v0, v1, v2⟩
  exact ⟨c0, c2, k0, k2, rfl⟩
end Go.Gw
