/- What each parameter type of the seat reads as. No condition. -/
import Derived.Test.YtglaeocolbnpdaaGreatGwFacts
import Derived.Test.YtglaeocolbnpdaaGreatGwClose
set_option maxRecDepth 100000
namespace Go.Gw
open Go Go.Proofs
theorem Qdq {cs : List Value} (h : cs.length = 2) : ∃ c0 c1, cs = [c0, c1] := by
  match cs, h with
  | [c0, c1], _ => exact ⟨c0, c1, rfl⟩
theorem Qyh {cs : List Value} (h : cs.length = 3) : ∃ c0 c1 c2, cs = [c0, c1, c2] := by
  match cs, h with
  | [c0, c1, c2], _ => exact ⟨c0, c1, c2, rfl⟩
theorem Qqw {cs : List Value} (h : cs.length = 4) : ∃ c0 c1 c2 c3, cs = [c0, c1, c2, c3] := by
  match cs, h with
  | [c0, c1, c2, c3], _ => exact ⟨c0, c1, c2, c3, rfl⟩
theorem Qyi {cs : List Value} (h : cs.length = 5) : ∃ c0 c1 c2 c3 c4, cs = [c0, c1, c2, c3, c4] := by
  match cs, h with
  | [c0, c1, c2, c3, c4], _ => exact ⟨c0, c1, c2, c3, c4, rfl⟩
theorem opn3 : YP Tryz.prog 3 Int Ys := QDb Tryz.underlying3 (by kernel_rfl)
theorem opn23 : YP Tryz.prog 23 (List Int) (fun (l : (List Int)) => (∀ x ∈ l, Ys x) ∧ l.length ≤ maxLen) := Qhs Tryz.underlying23 (by kernel_rfl) (by decide) opn3
theorem opn42 : YP Tryz.prog 42 (List (List Int)) (fun (l : (List (List Int))) => (∀ x ∈ l, (fun (l : (List Int)) => (∀ x ∈ l, Ys x) ∧ l.length ≤ maxLen) x) ∧ l.length ≤ maxLen) := Qhs Tryz.underlying42 (by kernel_rfl) (by decide) opn23
theorem opn22 : YP Tryz.prog 22 (List (List (List Int))) (fun (l : (List (List (List Int)))) => (∀ x ∈ l, (fun (l : (List (List Int))) => (∀ x ∈ l, (fun (l : (List Int)) => (∀ x ∈ l, Ys x) ∧ l.length ≤ maxLen) x) ∧ l.length ≤ maxLen) x) ∧ l.length ≤ maxLen) := Qhs Tryz.underlying22 (by kernel_rfl) (by decide) opn42
def V25 (d : LevitatePlant) : Prop := Ys d.Den ∧ (fun (l : (List (List (List Int)))) => (∀ x ∈ l, (fun (l : (List (List Int))) => (∀ x ∈ l, (fun (l : (List Int)) => (∀ x ∈ l, Ys x) ∧ l.length ≤ maxLen) x) ∧ l.length ≤ maxLen) x) ∧ l.length ≤ maxLen) d.Maps ∧ (fun (l : (List Int)) => (∀ x ∈ l, Ys x) ∧ l.length ≤ maxLen) d.Noise
theorem QCz : YP Tryz.prog 25 LevitatePlant V25 := by
  refine ⟨by kernel_rfl, fun enc w fuel cs x h => ?_⟩
  obtain ⟨hl, n, hf⟩ := Qcd Tryz.underlying25 h
  have hc : Tryz.prog.cellsOf 25 = 3 := by kernel_rfl
  rw [hc] at hl
  obtain ⟨c0, c1, c2, rfl⟩ : ∃ c0 c1 c2, cs = [c0, c1, c2] := Qyh hl
  obtain ⟨y0, h0⟩ := (hf 0 _ rfl)
  change DataW.trod enc Tryz.prog w 0 (fun _ => true) true n 3 ((List.drop 0 [c0, c1, c2]).take (Tryz.prog.cellsOf 3)) = some y0 at h0
  rw [opn3.1] at h0
  obtain ⟨d0, r0, v0⟩ := opn3.2 enc w n _ _ h0
  change Rep.rd [] w [c0] d0 at r0
  have e0 : [c0] = [(.int .i64 d0)] := r0
  obtain ⟨y1, h1⟩ := (hf 1 _ rfl)
  change DataW.trod enc Tryz.prog w 0 (fun _ => true) true n 22 ((List.drop 1 [c0, c1, c2]).take (Tryz.prog.cellsOf 22)) = some y1 at h1
  rw [opn22.1] at h1
  obtain ⟨d1, r1, v1⟩ := opn22.2 enc w n _ _ h1
  change Rep.rd [] w [c1] d1 at r1
  obtain ⟨u1, e1, k1⟩ := r1
  obtain rfl : c1 = u1 := List.head_eq_of_cons_eq e1
  obtain ⟨y2, h2⟩ := (hf 2 _ rfl)
  change DataW.trod enc Tryz.prog w 0 (fun _ => true) true n 23 ((List.drop 2 [c0, c1, c2]).take (Tryz.prog.cellsOf 23)) = some y2 at h2
  rw [opn23.1] at h2
  obtain ⟨d2, r2, v2⟩ := opn23.2 enc w n _ _ h2
  change Rep.rd [] w [c2] d2 at r2
  obtain ⟨u2, e2, k2⟩ := r2
  obtain rfl : c2 = u2 := List.head_eq_of_cons_eq e2
  simp only [List.cons.injEq, and_true] at e0
  subst e0
  refine ⟨⟨d0, d1, d2⟩, ?_, v0, v1, v2⟩
  exact ⟨c1, c2, k1, k2, rfl⟩
def V27 (d : LevitateSample) : Prop := Ys d.Map ∧ (fun (l : (List Int)) => (∀ x ∈ l, Ys x) ∧ l.length ≤ maxLen) d.Noise
theorem QDa : YP Tryz.prog 27 LevitateSample V27 := by
  refine ⟨by kernel_rfl, fun enc w fuel cs x h => ?_⟩
  obtain ⟨hl, n, hf⟩ := Qcd Tryz.underlying27 h
  have hc : Tryz.prog.cellsOf 27 = 2 := by kernel_rfl
  rw [hc] at hl
  obtain ⟨c0, c1, rfl⟩ : ∃ c0 c1, cs = [c0, c1] := Qdq hl
  obtain ⟨y0, h0⟩ := (hf 0 _ rfl)
  change DataW.trod enc Tryz.prog w 0 (fun _ => true) true n 3 ((List.drop 0 [c0, c1]).take (Tryz.prog.cellsOf 3)) = some y0 at h0
  rw [opn3.1] at h0
  obtain ⟨d0, r0, v0⟩ := opn3.2 enc w n _ _ h0
  change Rep.rd [] w [c0] d0 at r0
  have e0 : [c0] = [(.int .i64 d0)] := r0
  obtain ⟨y1, h1⟩ := (hf 1 _ rfl)
  change DataW.trod enc Tryz.prog w 0 (fun _ => true) true n 23 ((List.drop 1 [c0, c1]).take (Tryz.prog.cellsOf 23)) = some y1 at h1
  rw [opn23.1] at h1
  obtain ⟨d1, r1, v1⟩ := opn23.2 enc w n _ _ h1
  change Rep.rd [] w [c1] d1 at r1
  obtain ⟨u1, e1, k1⟩ := r1
  obtain rfl : c1 = u1 := List.head_eq_of_cons_eq e1
  simp only [List.cons.injEq, and_true] at e0
  subst e0
  refine ⟨⟨d0, d1⟩, ?_, v0, v1⟩
  exact ⟨c1, k1, rfl⟩
def V43 (d : Arr2_Int) : Prop := Ys d.e0 ∧ Ys d.e1
theorem opn43 : YP Tryz.prog 43 Arr2_Int V43 := by
  refine ⟨by kernel_rfl, fun enc w fuel cs x h => ?_⟩
  obtain ⟨hl, n, hf⟩ := Qmz Tryz.underlying43 h
  have hc : Tryz.prog.cellsOf 43 = 2 := by kernel_rfl
  rw [hc] at hl
  obtain ⟨c0, c1, rfl⟩ : ∃ c0 c1, cs = [c0, c1] := Qdq hl
  obtain ⟨y0, h0⟩ := (hf 0 (by decide))
  change DataW.trod enc Tryz.prog w 0 (fun _ => true) true n 3 ((List.drop (0 * Tryz.prog.cellsOf 3) [c0, c1]).take (Tryz.prog.cellsOf 3)) = some y0 at h0
  rw [opn3.1] at h0
  obtain ⟨d0, r0, v0⟩ := opn3.2 enc w n _ _ h0
  change Rep.rd [] w [c0] d0 at r0
  have e0 : [c0] = [(.int .i64 d0)] := r0
  obtain ⟨y1, h1⟩ := (hf 1 (by decide))
  change DataW.trod enc Tryz.prog w 0 (fun _ => true) true n 3 ((List.drop (1 * Tryz.prog.cellsOf 3) [c0, c1]).take (Tryz.prog.cellsOf 3)) = some y1 at h1
  rw [opn3.1] at h1
  obtain ⟨d1, r1, v1⟩ := opn3.2 enc w n _ _ h1
  change Rep.rd [] w [c1] d1 at r1
  have e1 : [c1] = [(.int .i64 d1)] := r1
  simp only [List.cons.injEq, and_true] at e0
  subst e0
  simp only [List.cons.injEq, and_true] at e1
  subst e1
  refine ⟨⟨d0, d1⟩, ?_, v0, v1⟩
  rfl
def V66 (d : Range) : Prop := Ys d.Lo ∧ Ys d.Hi
theorem opn66 : YP Tryz.prog 66 Range V66 := by
  refine ⟨by kernel_rfl, fun enc w fuel cs x h => ?_⟩
  obtain ⟨hl, n, hf⟩ := Qcd Tryz.underlying66 h
  have hc : Tryz.prog.cellsOf 66 = 2 := by kernel_rfl
  rw [hc] at hl
  obtain ⟨c0, c1, rfl⟩ : ∃ c0 c1, cs = [c0, c1] := Qdq hl
  obtain ⟨y0, h0⟩ := (hf 0 _ rfl)
  change DataW.trod enc Tryz.prog w 0 (fun _ => true) true n 3 ((List.drop 0 [c0, c1]).take (Tryz.prog.cellsOf 3)) = some y0 at h0
  rw [opn3.1] at h0
  obtain ⟨d0, r0, v0⟩ := opn3.2 enc w n _ _ h0
  change Rep.rd [] w [c0] d0 at r0
  have e0 : [c0] = [(.int .i64 d0)] := r0
  obtain ⟨y1, h1⟩ := (hf 1 _ rfl)
  change DataW.trod enc Tryz.prog w 0 (fun _ => true) true n 3 ((List.drop 1 [c0, c1]).take (Tryz.prog.cellsOf 3)) = some y1 at h1
  rw [opn3.1] at h1
  obtain ⟨d1, r1, v1⟩ := opn3.2 enc w n _ _ h1
  change Rep.rd [] w [c1] d1 at r1
  have e1 : [c1] = [(.int .i64 d1)] := r1
  simp only [List.cons.injEq, and_true] at e0
  subst e0
  simp only [List.cons.injEq, and_true] at e1
  subst e1
  refine ⟨⟨d0, d1⟩, ?_, v0, v1⟩
  rfl
def V67 (d : Arr2_Range) : Prop := V66 d.e0 ∧ V66 d.e1
theorem QHz : YP Tryz.prog 67 Arr2_Range V67 := by
  refine ⟨by kernel_rfl, fun enc w fuel cs x h => ?_⟩
  obtain ⟨hl, n, hf⟩ := Qmz Tryz.underlying67 h
  have hc : Tryz.prog.cellsOf 67 = 4 := by kernel_rfl
  rw [hc] at hl
  obtain ⟨c0, c1, c2, c3, rfl⟩ : ∃ c0 c1 c2 c3, cs = [c0, c1, c2, c3] := Qqw hl
  obtain ⟨y0, h0⟩ := (hf 0 (by decide))
  change DataW.trod enc Tryz.prog w 0 (fun _ => true) true n 66 ((List.drop (0 * Tryz.prog.cellsOf 66) [c0, c1, c2, c3]).take (Tryz.prog.cellsOf 66)) = some y0 at h0
  rw [opn66.1] at h0
  obtain ⟨d0, r0, v0⟩ := opn66.2 enc w n _ _ h0
  change Rep.rd [] w [c0, c1] d0 at r0
  have e0 : [c0, c1] = [(.int .i64 d0.Lo), (.int .i64 d0.Hi)] := r0
  obtain ⟨y1, h1⟩ := (hf 1 (by decide))
  change DataW.trod enc Tryz.prog w 0 (fun _ => true) true n 66 ((List.drop (1 * Tryz.prog.cellsOf 66) [c0, c1, c2, c3]).take (Tryz.prog.cellsOf 66)) = some y1 at h1
  rw [opn66.1] at h1
  obtain ⟨d1, r1, v1⟩ := opn66.2 enc w n _ _ h1
  change Rep.rd [] w [c2, c3] d1 at r1
  have e1 : [c2, c3] = [(.int .i64 d1.Lo), (.int .i64 d1.Hi)] := r1
  simp only [List.cons.injEq, and_true] at e0
  obtain ⟨rfl, rfl⟩ := e0
  simp only [List.cons.injEq, and_true] at e1
  obtain ⟨rfl, rfl⟩ := e1
  refine ⟨⟨d0, d1⟩, ?_, v0, v1⟩
  rfl
theorem opn76 : YP Tryz.prog 76 (List LevitateSample) (fun (l : (List LevitateSample)) => (∀ x ∈ l, V27 x) ∧ l.length ≤ maxLen) := Qhs Tryz.underlying76 (by kernel_rfl) (by decide) QDa
def Qut (d : Arr2_ListInt) : Prop := (fun (l : (List Int)) => (∀ x ∈ l, Ys x) ∧ l.length ≤ maxLen) d.e0 ∧ (fun (l : (List Int)) => (∀ x ∈ l, Ys x) ∧ l.length ≤ maxLen) d.e1
theorem QHw : YP Tryz.prog 102 Arr2_ListInt Qut := by
  refine ⟨by kernel_rfl, fun enc w fuel cs x h => ?_⟩
  obtain ⟨hl, n, hf⟩ := Qmz Tryz.underlying102 h
  have hc : Tryz.prog.cellsOf 102 = 2 := by kernel_rfl
  rw [hc] at hl
  obtain ⟨c0, c1, rfl⟩ : ∃ c0 c1, cs = [c0, c1] := Qdq hl
  obtain ⟨y0, h0⟩ := (hf 0 (by decide))
  change DataW.trod enc Tryz.prog w 0 (fun _ => true) true n 23 ((List.drop (0 * Tryz.prog.cellsOf 23) [c0, c1]).take (Tryz.prog.cellsOf 23)) = some y0 at h0
  rw [opn23.1] at h0
  obtain ⟨d0, r0, v0⟩ := opn23.2 enc w n _ _ h0
  change Rep.rd [] w [c0] d0 at r0
  obtain ⟨u0, e0, k0⟩ := r0
  obtain rfl : c0 = u0 := List.head_eq_of_cons_eq e0
  obtain ⟨y1, h1⟩ := (hf 1 (by decide))
  change DataW.trod enc Tryz.prog w 0 (fun _ => true) true n 23 ((List.drop (1 * Tryz.prog.cellsOf 23) [c0, c1]).take (Tryz.prog.cellsOf 23)) = some y1 at h1
  rw [opn23.1] at h1
  obtain ⟨d1, r1, v1⟩ := opn23.2 enc w n _ _ h1
  change Rep.rd [] w [c1] d1 at r1
  obtain ⟨u1, e1, k1⟩ := r1
  obtain rfl : c1 = u1 := List.head_eq_of_cons_eq e1
  refine ⟨⟨d0, d1⟩, ?_, v0, v1⟩
  exact ⟨c0, c1, k0, k1, rfl⟩
def Quu (d : LevitateProof) : Prop := (fun (l : (List (List Int))) => (∀ x ∈ l, (fun (l : (List Int)) => (∀ x ∈ l, Ys x) ∧ l.length ≤ maxLen) x) ∧ l.length ≤ maxLen) d.Form ∧ V43 d.Rate ∧ Ys d.Level
theorem QCy : YP Tryz.prog 105 LevitateProof Quu := by
  refine ⟨by kernel_rfl, fun enc w fuel cs x h => ?_⟩
  obtain ⟨hl, n, hf⟩ := Qcd Tryz.underlying105 h
  have hc : Tryz.prog.cellsOf 105 = 4 := by kernel_rfl
  rw [hc] at hl
  obtain ⟨c0, c1, c2, c3, rfl⟩ : ∃ c0 c1 c2 c3, cs = [c0, c1, c2, c3] := Qqw hl
  obtain ⟨y0, h0⟩ := (hf 0 _ rfl)
  change DataW.trod enc Tryz.prog w 0 (fun _ => true) true n 42 ((List.drop 0 [c0, c1, c2, c3]).take (Tryz.prog.cellsOf 42)) = some y0 at h0
  rw [opn42.1] at h0
  obtain ⟨d0, r0, v0⟩ := opn42.2 enc w n _ _ h0
  change Rep.rd [] w [c0] d0 at r0
  obtain ⟨u0, e0, k0⟩ := r0
  obtain rfl : c0 = u0 := List.head_eq_of_cons_eq e0
  obtain ⟨y1, h1⟩ := (hf 1 _ rfl)
  change DataW.trod enc Tryz.prog w 0 (fun _ => true) true n 43 ((List.drop 1 [c0, c1, c2, c3]).take (Tryz.prog.cellsOf 43)) = some y1 at h1
  rw [opn43.1] at h1
  obtain ⟨d1, r1, v1⟩ := opn43.2 enc w n _ _ h1
  change Rep.rd [] w [c1, c2] d1 at r1
  have e1 : [c1, c2] = [(.int .i64 d1.e0), (.int .i64 d1.e1)] := r1
  obtain ⟨y2, h2⟩ := (hf 2 _ rfl)
  change DataW.trod enc Tryz.prog w 0 (fun _ => true) true n 3 ((List.drop 3 [c0, c1, c2, c3]).take (Tryz.prog.cellsOf 3)) = some y2 at h2
  rw [opn3.1] at h2
  obtain ⟨d2, r2, v2⟩ := opn3.2 enc w n _ _ h2
  change Rep.rd [] w [c3] d2 at r2
  have e2 : [c3] = [(.int .i64 d2)] := r2
  simp only [List.cons.injEq, and_true] at e1
  obtain ⟨rfl, rfl⟩ := e1
  simp only [List.cons.injEq, and_true] at e2
  subst e2
  refine ⟨⟨d0, d1, d2⟩, ?_, v0, v1, v2⟩
  exact ⟨c0, k0, rfl⟩
def Quv (d : guidewaylaw02_LevitateStart) : Prop := (fun (l : (List Int)) => (∀ x ∈ l, Ys x) ∧ l.length ≤ maxLen) d.State ∧ (fun (l : (List LevitateSample)) => (∀ x ∈ l, V27 x) ∧ l.length ≤ maxLen) d.Samples
theorem QHx : YP Tryz.prog 111 guidewaylaw02_LevitateStart Quv := by
  refine ⟨by kernel_rfl, fun enc w fuel cs x h => ?_⟩
  obtain ⟨hl, n, hf⟩ := Qcd Tryz.underlying111 h
  have hc : Tryz.prog.cellsOf 111 = 2 := by kernel_rfl
  rw [hc] at hl
  obtain ⟨c0, c1, rfl⟩ : ∃ c0 c1, cs = [c0, c1] := Qdq hl
  obtain ⟨y0, h0⟩ := (hf 0 _ rfl)
  change DataW.trod enc Tryz.prog w 0 (fun _ => true) true n 23 ((List.drop 0 [c0, c1]).take (Tryz.prog.cellsOf 23)) = some y0 at h0
  rw [opn23.1] at h0
  obtain ⟨d0, r0, v0⟩ := opn23.2 enc w n _ _ h0
  change Rep.rd [] w [c0] d0 at r0
  obtain ⟨u0, e0, k0⟩ := r0
  obtain rfl : c0 = u0 := List.head_eq_of_cons_eq e0
  obtain ⟨y1, h1⟩ := (hf 1 _ rfl)
  change DataW.trod enc Tryz.prog w 0 (fun _ => true) true n 76 ((List.drop 1 [c0, c1]).take (Tryz.prog.cellsOf 76)) = some y1 at h1
  rw [opn76.1] at h1
  obtain ⟨d1, r1, v1⟩ := opn76.2 enc w n _ _ h1
  change Rep.rd [] w [c1] d1 at r1
  obtain ⟨u1, e1, k1⟩ := r1
  obtain rfl : c1 = u1 := List.head_eq_of_cons_eq e1
  refine ⟨⟨d0, d1⟩, ?_, v0, v1⟩
  exact ⟨c0, c1, k0, k1, rfl⟩
def Quw (d : LevitateFrame) : Prop := (fun (l : (List Int)) => (∀ x ∈ l, Ys x) ∧ l.length ≤ maxLen) d.Factors ∧ Ys d.Load ∧ V66 d.Gap ∧ Ys d.Current
theorem QHy : YP Tryz.prog 114 LevitateFrame Quw := by
  refine ⟨by kernel_rfl, fun enc w fuel cs x h => ?_⟩
  obtain ⟨hl, n, hf⟩ := Qcd Tryz.underlying114 h
  have hc : Tryz.prog.cellsOf 114 = 5 := by kernel_rfl
  rw [hc] at hl
  obtain ⟨c0, c1, c2, c3, c4, rfl⟩ : ∃ c0 c1 c2 c3 c4, cs = [c0, c1, c2, c3, c4] := Qyi hl
  obtain ⟨y0, h0⟩ := (hf 0 _ rfl)
  change DataW.trod enc Tryz.prog w 0 (fun _ => true) true n 23 ((List.drop 0 [c0, c1, c2, c3, c4]).take (Tryz.prog.cellsOf 23)) = some y0 at h0
  rw [opn23.1] at h0
  obtain ⟨d0, r0, v0⟩ := opn23.2 enc w n _ _ h0
  change Rep.rd [] w [c0] d0 at r0
  obtain ⟨u0, e0, k0⟩ := r0
  obtain rfl : c0 = u0 := List.head_eq_of_cons_eq e0
  obtain ⟨y1, h1⟩ := (hf 1 _ rfl)
  change DataW.trod enc Tryz.prog w 0 (fun _ => true) true n 3 ((List.drop 1 [c0, c1, c2, c3, c4]).take (Tryz.prog.cellsOf 3)) = some y1 at h1
  rw [opn3.1] at h1
  obtain ⟨d1, r1, v1⟩ := opn3.2 enc w n _ _ h1
  change Rep.rd [] w [c1] d1 at r1
  have e1 : [c1] = [(.int .i64 d1)] := r1
  obtain ⟨y2, h2⟩ := (hf 2 _ rfl)
  change DataW.trod enc Tryz.prog w 0 (fun _ => true) true n 66 ((List.drop 2 [c0, c1, c2, c3, c4]).take (Tryz.prog.cellsOf 66)) = some y2 at h2
  rw [opn66.1] at h2
  obtain ⟨d2, r2, v2⟩ := opn66.2 enc w n _ _ h2
  change Rep.rd [] w [c2, c3] d2 at r2
  have e2 : [c2, c3] = [(.int .i64 d2.Lo), (.int .i64 d2.Hi)] := r2
  obtain ⟨y3, h3⟩ := (hf 3 _ rfl)
  change DataW.trod enc Tryz.prog w 0 (fun _ => true) true n 3 ((List.drop 4 [c0, c1, c2, c3, c4]).take (Tryz.prog.cellsOf 3)) = some y3 at h3
  rw [opn3.1] at h3
  obtain ⟨d3, r3, v3⟩ := opn3.2 enc w n _ _ h3
  change Rep.rd [] w [c4] d3 at r3
  have e3 : [c4] = [(.int .i64 d3)] := r3
  simp only [List.cons.injEq, and_true] at e1
  subst e1
  simp only [List.cons.injEq, and_true] at e2
  obtain ⟨rfl, rfl⟩ := e2
  simp only [List.cons.injEq, and_true] at e3
  subst e3
  refine ⟨⟨d0, d1, d2, d3⟩, ?_, v0, v1, v2, v3⟩
  exact ⟨c0, k0, rfl⟩
end Go.Gw
