/- What each parameter type of the seat reads as. No condition. -/
import Derived.Test.YtbplgfhjpeeieaaGwFacts
import Derived.Test.YtbplgfhjpeeieaaGwClose
set_option linter.unusedVariables false
set_option linter.unusedSimpArgs false
set_option linter.unusedSectionVars false
set_option maxRecDepth 100000
namespace Go.Gw
open Go Go.Proofs
theorem Qoh {cs : List Value} (h : cs.length = 2) : ∃ c0 c1, cs = [c0, c1] := by
  match cs, h with
  | [c0, c1], _ => exact ⟨c0, c1, rfl⟩
theorem Qvx {cs : List Value} (h : cs.length = 3) : ∃ c0 c1 c2, cs = [c0, c1, c2] := by
  match cs, h with
  | [c0, c1, c2], _ => exact ⟨c0, c1, c2, rfl⟩
theorem Qvy {cs : List Value} (h : cs.length = 4) : ∃ c0 c1 c2 c3, cs = [c0, c1, c2, c3] := by
  match cs, h with
  | [c0, c1, c2, c3], _ => exact ⟨c0, c1, c2, c3, rfl⟩
theorem QJl {cs : List Value} (h : cs.length = 6) : ∃ c0 c1 c2 c3 c4 c5, cs = [c0, c1, c2, c3, c4, c5] := by
  match cs, h with
  | [c0, c1, c2, c3, c4, c5], _ => exact ⟨c0, c1, c2, c3, c4, c5, rfl⟩
theorem QJj {cs : List Value} (h : cs.length = 12) : ∃ c0 c1 c2 c3 c4 c5 c6 c7 c8 c9 c10 c11, cs = [c0, c1, c2, c3, c4, c5, c6, c7, c8, c9, c10, c11] := by
  match cs, h with
  | [c0, c1, c2, c3, c4, c5, c6, c7, c8, c9, c10, c11], _ => exact ⟨c0, c1, c2, c3, c4, c5, c6, c7, c8, c9, c10, c11, rfl⟩
theorem QJk {cs : List Value} (h : cs.length = 14) : ∃ c0 c1 c2 c3 c4 c5 c6 c7 c8 c9 c10 c11 c12 c13, cs = [c0, c1, c2, c3, c4, c5, c6, c7, c8, c9, c10, c11, c12, c13] := by
  match cs, h with
  | [c0, c1, c2, c3, c4, c5, c6, c7, c8, c9, c10, c11, c12, c13], _ => exact ⟨c0, c1, c2, c3, c4, c5, c6, c7, c8, c9, c10, c11, c12, c13, rfl⟩
theorem opn9 : YD Try.prog 9 ByteArray (fun s => s.size ≤ maxLen) := QMk Try.underlying9 (by kernel_rfl)
theorem opn3 : YD Try.prog 3 Int Yc := QMj Try.underlying3 (by kernel_rfl)
theorem opn4 : YD Try.prog 4 Bool (fun _ => True) := QMh Try.underlying4 (by kernel_rfl)
def Qli (d : FeedStation) : Prop := (fun (s : ByteArray) => s.size ≤ maxLen) d.Name ∧ Yc d.Limit ∧ (fun (_ : Bool) => True) d.Takes
theorem QMa : YD Try.prog 145 FeedStation Qli := by
  refine ⟨by kernel_rfl, fun enc w fuel cs x h => ?_⟩
  obtain ⟨hl, n, hf⟩ := Qaw Try.underlying145 h
  have hc : Try.prog.cellsOf 145 = 3 := by kernel_rfl
  rw [hc] at hl
  obtain ⟨c0, c1, c2, rfl⟩ : ∃ c0 c1 c2, cs = [c0, c1, c2] := Qvx hl
  obtain ⟨y0, h0⟩ := (hf 0 _ rfl)
  change DataW.trod enc Try.prog w 0 (fun _ => true) true n 9 ((List.drop 0 [c0, c1, c2]).take (Try.prog.cellsOf 9)) = some y0 at h0
  rw [opn9.1] at h0
  obtain ⟨d0, r0, v0⟩ := opn9.2 enc w n _ _ h0
  change Rep.rd [] w [c0] d0 at r0
  have e0 : [c0] = [(.string d0)] := r0
  obtain ⟨y1, h1⟩ := (hf 1 _ rfl)
  change DataW.trod enc Try.prog w 0 (fun _ => true) true n 3 ((List.drop 1 [c0, c1, c2]).take (Try.prog.cellsOf 3)) = some y1 at h1
  rw [opn3.1] at h1
  obtain ⟨d1, r1, v1⟩ := opn3.2 enc w n _ _ h1
  change Rep.rd [] w [c1] d1 at r1
  have e1 : [c1] = [(.int .i64 d1)] := r1
  obtain ⟨y2, h2⟩ := (hf 2 _ rfl)
  change DataW.trod enc Try.prog w 0 (fun _ => true) true n 4 ((List.drop 2 [c0, c1, c2]).take (Try.prog.cellsOf 4)) = some y2 at h2
  rw [opn4.1] at h2
  obtain ⟨d2, r2, v2⟩ := opn4.2 enc w n _ _ h2
  change Rep.rd [] w [c2] d2 at r2
  have e2 : [c2] = [(.bool d2)] := r2
  simp only [List.cons.injEq, and_true] at e0
  subst e0
  simp only [List.cons.injEq, and_true] at e1
  subst e1
  simp only [List.cons.injEq, and_true] at e2
  subst e2
  refine ⟨⟨d0, d1, d2⟩, ?_, v0, v1, v2⟩
  rfl
theorem opn22 : YD Try.prog 22 (List FeedStation) (fun (l : (List FeedStation)) => (∀ x ∈ l, Qli x) ∧ l.length ≤ maxLen) := Qft Try.underlying22 (by kernel_rfl) (by decide) QMa
def V73 (d : FeedSection) : Prop := Yc d.Left ∧ Yc d.Right ∧ Yc d.Share ∧ Yc d.Loss
theorem QMf : YD Try.prog 73 FeedSection V73 := by
  refine ⟨by kernel_rfl, fun enc w fuel cs x h => ?_⟩
  obtain ⟨hl, n, hf⟩ := Qaw Try.underlying73 h
  have hc : Try.prog.cellsOf 73 = 4 := by kernel_rfl
  rw [hc] at hl
  obtain ⟨c0, c1, c2, c3, rfl⟩ : ∃ c0 c1 c2 c3, cs = [c0, c1, c2, c3] := Qvy hl
  obtain ⟨y0, h0⟩ := (hf 0 _ rfl)
  change DataW.trod enc Try.prog w 0 (fun _ => true) true n 3 ((List.drop 0 [c0, c1, c2, c3]).take (Try.prog.cellsOf 3)) = some y0 at h0
  rw [opn3.1] at h0
  obtain ⟨d0, r0, v0⟩ := opn3.2 enc w n _ _ h0
  change Rep.rd [] w [c0] d0 at r0
  have e0 : [c0] = [(.int .i64 d0)] := r0
  obtain ⟨y1, h1⟩ := (hf 1 _ rfl)
  change DataW.trod enc Try.prog w 0 (fun _ => true) true n 3 ((List.drop 1 [c0, c1, c2, c3]).take (Try.prog.cellsOf 3)) = some y1 at h1
  rw [opn3.1] at h1
  obtain ⟨d1, r1, v1⟩ := opn3.2 enc w n _ _ h1
  change Rep.rd [] w [c1] d1 at r1
  have e1 : [c1] = [(.int .i64 d1)] := r1
  obtain ⟨y2, h2⟩ := (hf 2 _ rfl)
  change DataW.trod enc Try.prog w 0 (fun _ => true) true n 3 ((List.drop 2 [c0, c1, c2, c3]).take (Try.prog.cellsOf 3)) = some y2 at h2
  rw [opn3.1] at h2
  obtain ⟨d2, r2, v2⟩ := opn3.2 enc w n _ _ h2
  change Rep.rd [] w [c2] d2 at r2
  have e2 : [c2] = [(.int .i64 d2)] := r2
  obtain ⟨y3, h3⟩ := (hf 3 _ rfl)
  change DataW.trod enc Try.prog w 0 (fun _ => true) true n 3 ((List.drop 3 [c0, c1, c2, c3]).take (Try.prog.cellsOf 3)) = some y3 at h3
  rw [opn3.1] at h3
  obtain ⟨d3, r3, v3⟩ := opn3.2 enc w n _ _ h3
  change Rep.rd [] w [c3] d3 at r3
  have e3 : [c3] = [(.int .i64 d3)] := r3
  simp only [List.cons.injEq, and_true] at e0
  subst e0
  simp only [List.cons.injEq, and_true] at e1
  subst e1
  simp only [List.cons.injEq, and_true] at e2
  subst e2
  simp only [List.cons.injEq, and_true] at e3
  subst e3
  refine ⟨⟨d0, d1, d2, d3⟩, ?_, v0, v1, v2, v3⟩
  rfl
theorem opn23 : YD Try.prog 23 (List FeedSection) (fun (l : (List FeedSection)) => (∀ x ∈ l, V73 x) ∧ l.length ≤ maxLen) := Qft Try.underlying23 (by kernel_rfl) (by decide) QMf
def Qlj (d : FeedStep) : Prop := Yc d.Section ∧ Yc d.Power
theorem QMb : YD Try.prog 185 FeedStep Qlj := by
  refine ⟨by kernel_rfl, fun enc w fuel cs x h => ?_⟩
  obtain ⟨hl, n, hf⟩ := Qaw Try.underlying185 h
  have hc : Try.prog.cellsOf 185 = 2 := by kernel_rfl
  rw [hc] at hl
  obtain ⟨c0, c1, rfl⟩ : ∃ c0 c1, cs = [c0, c1] := Qoh hl
  obtain ⟨y0, h0⟩ := (hf 0 _ rfl)
  change DataW.trod enc Try.prog w 0 (fun _ => true) true n 3 ((List.drop 0 [c0, c1]).take (Try.prog.cellsOf 3)) = some y0 at h0
  rw [opn3.1] at h0
  obtain ⟨d0, r0, v0⟩ := opn3.2 enc w n _ _ h0
  change Rep.rd [] w [c0] d0 at r0
  have e0 : [c0] = [(.int .i64 d0)] := r0
  obtain ⟨y1, h1⟩ := (hf 1 _ rfl)
  change DataW.trod enc Try.prog w 0 (fun _ => true) true n 3 ((List.drop 1 [c0, c1]).take (Try.prog.cellsOf 3)) = some y1 at h1
  rw [opn3.1] at h1
  obtain ⟨d1, r1, v1⟩ := opn3.2 enc w n _ _ h1
  change Rep.rd [] w [c1] d1 at r1
  have e1 : [c1] = [(.int .i64 d1)] := r1
  simp only [List.cons.injEq, and_true] at e0
  subst e0
  simp only [List.cons.injEq, and_true] at e1
  subst e1
  refine ⟨⟨d0, d1⟩, ?_, v0, v1⟩
  rfl
theorem opn125 : YD Try.prog 125 (List FeedStep) (fun (l : (List FeedStep)) => (∀ x ∈ l, Qlj x) ∧ l.length ≤ maxLen) := Qft Try.underlying125 (by kernel_rfl) (by decide) QMb
def Qlh (d : FeedTrain) : Prop := (fun (s : ByteArray) => s.size ≤ maxLen) d.Name ∧ Yc d.Earliest ∧ Yc d.Latest ∧ (fun (l : (List FeedStep)) => (∀ x ∈ l, Qlj x) ∧ l.length ≤ maxLen) d.Steps
theorem QLz : YD Try.prog 127 FeedTrain Qlh := by
  refine ⟨by kernel_rfl, fun enc w fuel cs x h => ?_⟩
  obtain ⟨hl, n, hf⟩ := Qaw Try.underlying127 h
  have hc : Try.prog.cellsOf 127 = 4 := by kernel_rfl
  rw [hc] at hl
  obtain ⟨c0, c1, c2, c3, rfl⟩ : ∃ c0 c1 c2 c3, cs = [c0, c1, c2, c3] := Qvy hl
  obtain ⟨y0, h0⟩ := (hf 0 _ rfl)
  change DataW.trod enc Try.prog w 0 (fun _ => true) true n 9 ((List.drop 0 [c0, c1, c2, c3]).take (Try.prog.cellsOf 9)) = some y0 at h0
  rw [opn9.1] at h0
  obtain ⟨d0, r0, v0⟩ := opn9.2 enc w n _ _ h0
  change Rep.rd [] w [c0] d0 at r0
  have e0 : [c0] = [(.string d0)] := r0
  obtain ⟨y1, h1⟩ := (hf 1 _ rfl)
  change DataW.trod enc Try.prog w 0 (fun _ => true) true n 3 ((List.drop 1 [c0, c1, c2, c3]).take (Try.prog.cellsOf 3)) = some y1 at h1
  rw [opn3.1] at h1
  obtain ⟨d1, r1, v1⟩ := opn3.2 enc w n _ _ h1
  change Rep.rd [] w [c1] d1 at r1
  have e1 : [c1] = [(.int .i64 d1)] := r1
  obtain ⟨y2, h2⟩ := (hf 2 _ rfl)
  change DataW.trod enc Try.prog w 0 (fun _ => true) true n 3 ((List.drop 2 [c0, c1, c2, c3]).take (Try.prog.cellsOf 3)) = some y2 at h2
  rw [opn3.1] at h2
  obtain ⟨d2, r2, v2⟩ := opn3.2 enc w n _ _ h2
  change Rep.rd [] w [c2] d2 at r2
  have e2 : [c2] = [(.int .i64 d2)] := r2
  obtain ⟨y3, h3⟩ := (hf 3 _ rfl)
  change DataW.trod enc Try.prog w 0 (fun _ => true) true n 125 ((List.drop 3 [c0, c1, c2, c3]).take (Try.prog.cellsOf 125)) = some y3 at h3
  rw [opn125.1] at h3
  obtain ⟨d3, r3, v3⟩ := opn125.2 enc w n _ _ h3
  change Rep.rd [] w [c3] d3 at r3
  obtain ⟨u3, e3, k3⟩ := r3
  obtain rfl : c3 = u3 := List.head_eq_of_cons_eq e3
  simp only [List.cons.injEq, and_true] at e0
  subst e0
  simp only [List.cons.injEq, and_true] at e1
  subst e1
  simp only [List.cons.injEq, and_true] at e2
  subst e2
  refine ⟨⟨d0, d1, d2, d3⟩, ?_, v0, v1, v2, v3⟩
  exact ⟨c3, k3, rfl⟩
theorem opn24 : YD Try.prog 24 (List FeedTrain) (fun (l : (List FeedTrain)) => (∀ x ∈ l, Qlh x) ∧ l.length ≤ maxLen) := Qft Try.underlying24 (by kernel_rfl) (by decide) QLz
def V26 (d : FeedNet) : Prop := (fun (l : (List FeedStation)) => (∀ x ∈ l, Qli x) ∧ l.length ≤ maxLen) d.Stations ∧ (fun (l : (List FeedSection)) => (∀ x ∈ l, V73 x) ∧ l.length ≤ maxLen) d.Sections ∧ (fun (l : (List FeedTrain)) => (∀ x ∈ l, Qlh x) ∧ l.length ≤ maxLen) d.Trains
theorem QMc : YD Try.prog 26 FeedNet V26 := by
  refine ⟨by kernel_rfl, fun enc w fuel cs x h => ?_⟩
  obtain ⟨hl, n, hf⟩ := Qaw Try.underlying26 h
  have hc : Try.prog.cellsOf 26 = 3 := by kernel_rfl
  rw [hc] at hl
  obtain ⟨c0, c1, c2, rfl⟩ : ∃ c0 c1 c2, cs = [c0, c1, c2] := Qvx hl
  obtain ⟨y0, h0⟩ := (hf 0 _ rfl)
  change DataW.trod enc Try.prog w 0 (fun _ => true) true n 22 ((List.drop 0 [c0, c1, c2]).take (Try.prog.cellsOf 22)) = some y0 at h0
  rw [opn22.1] at h0
  obtain ⟨d0, r0, v0⟩ := opn22.2 enc w n _ _ h0
  change Rep.rd [] w [c0] d0 at r0
  obtain ⟨u0, e0, k0⟩ := r0
  obtain rfl : c0 = u0 := List.head_eq_of_cons_eq e0
  obtain ⟨y1, h1⟩ := (hf 1 _ rfl)
  change DataW.trod enc Try.prog w 0 (fun _ => true) true n 23 ((List.drop 1 [c0, c1, c2]).take (Try.prog.cellsOf 23)) = some y1 at h1
  rw [opn23.1] at h1
  obtain ⟨d1, r1, v1⟩ := opn23.2 enc w n _ _ h1
  change Rep.rd [] w [c1] d1 at r1
  obtain ⟨u1, e1, k1⟩ := r1
  obtain rfl : c1 = u1 := List.head_eq_of_cons_eq e1
  obtain ⟨y2, h2⟩ := (hf 2 _ rfl)
  change DataW.trod enc Try.prog w 0 (fun _ => true) true n 24 ((List.drop 2 [c0, c1, c2]).take (Try.prog.cellsOf 24)) = some y2 at h2
  rw [opn24.1] at h2
  obtain ⟨d2, r2, v2⟩ := opn24.2 enc w n _ _ h2
  change Rep.rd [] w [c2] d2 at r2
  obtain ⟨u2, e2, k2⟩ := r2
  obtain rfl : c2 = u2 := List.head_eq_of_cons_eq e2
  refine ⟨⟨d0, d1, d2⟩, ?_, v0, v1, v2⟩
  exact ⟨c0, c1, c2, k0, k1, k2, rfl⟩
def V62 (d : FeedDeparture) : Prop := (fun (s : ByteArray) => s.size ≤ maxLen) d.Train ∧ Yc d.At
theorem QMe : YD Try.prog 62 FeedDeparture V62 := by
  refine ⟨by kernel_rfl, fun enc w fuel cs x h => ?_⟩
  obtain ⟨hl, n, hf⟩ := Qaw Try.underlying62 h
  have hc : Try.prog.cellsOf 62 = 2 := by kernel_rfl
  rw [hc] at hl
  obtain ⟨c0, c1, rfl⟩ : ∃ c0 c1, cs = [c0, c1] := Qoh hl
  obtain ⟨y0, h0⟩ := (hf 0 _ rfl)
  change DataW.trod enc Try.prog w 0 (fun _ => true) true n 9 ((List.drop 0 [c0, c1]).take (Try.prog.cellsOf 9)) = some y0 at h0
  rw [opn9.1] at h0
  obtain ⟨d0, r0, v0⟩ := opn9.2 enc w n _ _ h0
  change Rep.rd [] w [c0] d0 at r0
  have e0 : [c0] = [(.string d0)] := r0
  obtain ⟨y1, h1⟩ := (hf 1 _ rfl)
  change DataW.trod enc Try.prog w 0 (fun _ => true) true n 3 ((List.drop 1 [c0, c1]).take (Try.prog.cellsOf 3)) = some y1 at h1
  rw [opn3.1] at h1
  obtain ⟨d1, r1, v1⟩ := opn3.2 enc w n _ _ h1
  change Rep.rd [] w [c1] d1 at r1
  have e1 : [c1] = [(.int .i64 d1)] := r1
  simp only [List.cons.injEq, and_true] at e0
  subst e0
  simp only [List.cons.injEq, and_true] at e1
  subst e1
  refine ⟨⟨d0, d1⟩, ?_, v0, v1⟩
  rfl
theorem QMd : YD Try.prog 29 (List FeedDeparture) (fun (l : (List FeedDeparture)) => (∀ x ∈ l, V62 x) ∧ l.length ≤ maxLen) := Qft Try.underlying29 (by kernel_rfl) (by decide) QMe
def V63 (d : Arr2_Int) : Prop := Yc d.e0 ∧ Yc d.e1
def V76 (d : Range) : Prop := Yc d.Lo ∧ Yc d.Hi
theorem opn76 : YD Try.prog 76 Range V76 := by
  refine ⟨by kernel_rfl, fun enc w fuel cs x h => ?_⟩
  obtain ⟨hl, n, hf⟩ := Qaw Try.underlying76 h
  have hc : Try.prog.cellsOf 76 = 2 := by kernel_rfl
  rw [hc] at hl
  obtain ⟨c0, c1, rfl⟩ : ∃ c0 c1, cs = [c0, c1] := Qoh hl
  obtain ⟨y0, h0⟩ := (hf 0 _ rfl)
  change DataW.trod enc Try.prog w 0 (fun _ => true) true n 3 ((List.drop 0 [c0, c1]).take (Try.prog.cellsOf 3)) = some y0 at h0
  rw [opn3.1] at h0
  obtain ⟨d0, r0, v0⟩ := opn3.2 enc w n _ _ h0
  change Rep.rd [] w [c0] d0 at r0
  have e0 : [c0] = [(.int .i64 d0)] := r0
  obtain ⟨y1, h1⟩ := (hf 1 _ rfl)
  change DataW.trod enc Try.prog w 0 (fun _ => true) true n 3 ((List.drop 1 [c0, c1]).take (Try.prog.cellsOf 3)) = some y1 at h1
  rw [opn3.1] at h1
  obtain ⟨d1, r1, v1⟩ := opn3.2 enc w n _ _ h1
  change Rep.rd [] w [c1] d1 at r1
  have e1 : [c1] = [(.int .i64 d1)] := r1
  simp only [List.cons.injEq, and_true] at e0
  subst e0
  simp only [List.cons.injEq, and_true] at e1
  subst e1
  refine ⟨⟨d0, d1⟩, ?_, v0, v1⟩
  rfl
def V78 (d : FeedBook) : Prop := Yc d.Fed ∧ Yc d.Used ∧ Yc d.Braked ∧ Yc d.Lost ∧ Yc d.Back ∧ Yc d.Burned
theorem opn78 : YD Try.prog 78 FeedBook V78 := by
  refine ⟨by kernel_rfl, fun enc w fuel cs x h => ?_⟩
  obtain ⟨hl, n, hf⟩ := Qaw Try.underlying78 h
  have hc : Try.prog.cellsOf 78 = 6 := by kernel_rfl
  rw [hc] at hl
  obtain ⟨c0, c1, c2, c3, c4, c5, rfl⟩ : ∃ c0 c1 c2 c3 c4 c5, cs = [c0, c1, c2, c3, c4, c5] := QJl hl
  obtain ⟨y0, h0⟩ := (hf 0 _ rfl)
  change DataW.trod enc Try.prog w 0 (fun _ => true) true n 3 ((List.drop 0 [c0, c1, c2, c3, c4, c5]).take (Try.prog.cellsOf 3)) = some y0 at h0
  rw [opn3.1] at h0
  obtain ⟨d0, r0, v0⟩ := opn3.2 enc w n _ _ h0
  change Rep.rd [] w [c0] d0 at r0
  have e0 : [c0] = [(.int .i64 d0)] := r0
  obtain ⟨y1, h1⟩ := (hf 1 _ rfl)
  change DataW.trod enc Try.prog w 0 (fun _ => true) true n 3 ((List.drop 1 [c0, c1, c2, c3, c4, c5]).take (Try.prog.cellsOf 3)) = some y1 at h1
  rw [opn3.1] at h1
  obtain ⟨d1, r1, v1⟩ := opn3.2 enc w n _ _ h1
  change Rep.rd [] w [c1] d1 at r1
  have e1 : [c1] = [(.int .i64 d1)] := r1
  obtain ⟨y2, h2⟩ := (hf 2 _ rfl)
  change DataW.trod enc Try.prog w 0 (fun _ => true) true n 3 ((List.drop 2 [c0, c1, c2, c3, c4, c5]).take (Try.prog.cellsOf 3)) = some y2 at h2
  rw [opn3.1] at h2
  obtain ⟨d2, r2, v2⟩ := opn3.2 enc w n _ _ h2
  change Rep.rd [] w [c2] d2 at r2
  have e2 : [c2] = [(.int .i64 d2)] := r2
  obtain ⟨y3, h3⟩ := (hf 3 _ rfl)
  change DataW.trod enc Try.prog w 0 (fun _ => true) true n 3 ((List.drop 3 [c0, c1, c2, c3, c4, c5]).take (Try.prog.cellsOf 3)) = some y3 at h3
  rw [opn3.1] at h3
  obtain ⟨d3, r3, v3⟩ := opn3.2 enc w n _ _ h3
  change Rep.rd [] w [c3] d3 at r3
  have e3 : [c3] = [(.int .i64 d3)] := r3
  obtain ⟨y4, h4⟩ := (hf 4 _ rfl)
  change DataW.trod enc Try.prog w 0 (fun _ => true) true n 3 ((List.drop 4 [c0, c1, c2, c3, c4, c5]).take (Try.prog.cellsOf 3)) = some y4 at h4
  rw [opn3.1] at h4
  obtain ⟨d4, r4, v4⟩ := opn3.2 enc w n _ _ h4
  change Rep.rd [] w [c4] d4 at r4
  have e4 : [c4] = [(.int .i64 d4)] := r4
  obtain ⟨y5, h5⟩ := (hf 5 _ rfl)
  change DataW.trod enc Try.prog w 0 (fun _ => true) true n 3 ((List.drop 5 [c0, c1, c2, c3, c4, c5]).take (Try.prog.cellsOf 3)) = some y5 at h5
  rw [opn3.1] at h5
  obtain ⟨d5, r5, v5⟩ := opn3.2 enc w n _ _ h5
  change Rep.rd [] w [c5] d5 at r5
  have e5 : [c5] = [(.int .i64 d5)] := r5
  simp only [List.cons.injEq, and_true] at e0
  subst e0
  simp only [List.cons.injEq, and_true] at e1
  subst e1
  simp only [List.cons.injEq, and_true] at e2
  subst e2
  simp only [List.cons.injEq, and_true] at e3
  subst e3
  simp only [List.cons.injEq, and_true] at e4
  subst e4
  simp only [List.cons.injEq, and_true] at e5
  subst e5
  refine ⟨⟨d0, d1, d2, d3, d4, d5⟩, ?_, v0, v1, v2, v3, v4, v5⟩
  rfl
def V79 (d : Arr2_FeedBook) : Prop := V78 d.e0 ∧ V78 d.e1
theorem opn79 : YD Try.prog 79 Arr2_FeedBook V79 := by
  refine ⟨by kernel_rfl, fun enc w fuel cs x h => ?_⟩
  obtain ⟨hl, n, hf⟩ := QMi Try.underlying79 h
  have hc : Try.prog.cellsOf 79 = 12 := by kernel_rfl
  rw [hc] at hl
  obtain ⟨c0, c1, c2, c3, c4, c5, c6, c7, c8, c9, c10, c11, rfl⟩ : ∃ c0 c1 c2 c3 c4 c5 c6 c7 c8 c9 c10 c11, cs = [c0, c1, c2, c3, c4, c5, c6, c7, c8, c9, c10, c11] := QJj hl
  obtain ⟨y0, h0⟩ := (hf 0 (by decide))
  change DataW.trod enc Try.prog w 0 (fun _ => true) true n 78 ((List.drop (0 * Try.prog.cellsOf 78) [c0, c1, c2, c3, c4, c5, c6, c7, c8, c9, c10, c11]).take (Try.prog.cellsOf 78)) = some y0 at h0
  rw [opn78.1] at h0
  obtain ⟨d0, r0, v0⟩ := opn78.2 enc w n _ _ h0
  change Rep.rd [] w [c0, c1, c2, c3, c4, c5] d0 at r0
  have e0 : [c0, c1, c2, c3, c4, c5] = [(.int .i64 d0.Fed), (.int .i64 d0.Used), (.int .i64 d0.Braked), (.int .i64 d0.Lost), (.int .i64 d0.Back), (.int .i64 d0.Burned)] := r0
  obtain ⟨y1, h1⟩ := (hf 1 (by decide))
  change DataW.trod enc Try.prog w 0 (fun _ => true) true n 78 ((List.drop (1 * Try.prog.cellsOf 78) [c0, c1, c2, c3, c4, c5, c6, c7, c8, c9, c10, c11]).take (Try.prog.cellsOf 78)) = some y1 at h1
  rw [opn78.1] at h1
  obtain ⟨d1, r1, v1⟩ := opn78.2 enc w n _ _ h1
  change Rep.rd [] w [c6, c7, c8, c9, c10, c11] d1 at r1
  have e1 : [c6, c7, c8, c9, c10, c11] = [(.int .i64 d1.Fed), (.int .i64 d1.Used), (.int .i64 d1.Braked), (.int .i64 d1.Lost), (.int .i64 d1.Back), (.int .i64 d1.Burned)] := r1
  simp only [List.cons.injEq, and_true] at e0
  obtain ⟨rfl, rfl, rfl, rfl, rfl, rfl⟩ := e0
  simp only [List.cons.injEq, and_true] at e1
  obtain ⟨rfl, rfl, rfl, rfl, rfl, rfl⟩ := e1
  refine ⟨⟨d0, d1⟩, ?_, v0, v1⟩
  rfl
def V81 (d : guidewaylaw07_FeedRead) : Prop := V76 d.Ticks ∧ V79 d.Books
theorem QMg : YD Try.prog 81 guidewaylaw07_FeedRead V81 := by
  refine ⟨by kernel_rfl, fun enc w fuel cs x h => ?_⟩
  obtain ⟨hl, n, hf⟩ := Qaw Try.underlying81 h
  have hc : Try.prog.cellsOf 81 = 14 := by kernel_rfl
  rw [hc] at hl
  obtain ⟨c0, c1, c2, c3, c4, c5, c6, c7, c8, c9, c10, c11, c12, c13, rfl⟩ : ∃ c0 c1 c2 c3 c4 c5 c6 c7 c8 c9 c10 c11 c12 c13, cs = [c0, c1, c2, c3, c4, c5, c6, c7, c8, c9, c10, c11, c12, c13] := QJk hl
  obtain ⟨y0, h0⟩ := (hf 0 _ rfl)
  change DataW.trod enc Try.prog w 0 (fun _ => true) true n 76 ((List.drop 0 [c0, c1, c2, c3, c4, c5, c6, c7, c8, c9, c10, c11, c12, c13]).take (Try.prog.cellsOf 76)) = some y0 at h0
  rw [opn76.1] at h0
  obtain ⟨d0, r0, v0⟩ := opn76.2 enc w n _ _ h0
  change Rep.rd [] w [c0, c1] d0 at r0
  have e0 : [c0, c1] = [(.int .i64 d0.Lo), (.int .i64 d0.Hi)] := r0
  obtain ⟨y1, h1⟩ := (hf 1 _ rfl)
  change DataW.trod enc Try.prog w 0 (fun _ => true) true n 79 ((List.drop 2 [c0, c1, c2, c3, c4, c5, c6, c7, c8, c9, c10, c11, c12, c13]).take (Try.prog.cellsOf 79)) = some y1 at h1
  rw [opn79.1] at h1
  obtain ⟨d1, r1, v1⟩ := opn79.2 enc w n _ _ h1
  change Rep.rd [] w [c2, c3, c4, c5, c6, c7, c8, c9, c10, c11, c12, c13] d1 at r1
  have e1 : [c2, c3, c4, c5, c6, c7, c8, c9, c10, c11, c12, c13] = [(.int .i64 d1.e0.Fed), (.int .i64 d1.e0.Used), (.int .i64 d1.e0.Braked), (.int .i64 d1.e0.Lost), (.int .i64 d1.e0.Back), (.int .i64 d1.e0.Burned), (.int .i64 d1.e1.Fed), (.int .i64 d1.e1.Used), (.int .i64 d1.e1.Braked), (.int .i64 d1.e1.Lost), (.int .i64 d1.e1.Back), (.int .i64 d1.e1.Burned)] := r1
  simp only [List.cons.injEq, and_true] at e0
  obtain ⟨rfl, rfl⟩ := e0
  simp only [List.cons.injEq, and_true] at e1
  obtain ⟨rfl, rfl, rfl, rfl, rfl, rfl, rfl, rfl, rfl, rfl, rfl, rfl⟩ := e1
  refine ⟨⟨d0, d1⟩, ?_, v0, v1⟩
  rfl
def V90 (d : Arr3_Int) : Prop := Yc d.e0 ∧ Yc d.e1 ∧ Yc d.e2
def V94 (d : FeedLadder) : Prop := (fun (l : (List Int)) => (∀ x ∈ l, Yc x) ∧ l.length ≤ maxLen) d.Ohms ∧ (fun (l : (List Int)) => (∀ x ∈ l, Yc x) ∧ l.length ≤ maxLen) d.Loads
def QTb (d : Frac) : Prop := Yc d.Num ∧ Yc d.Den
def QTc (d : FeedWindow) : Prop := Yc d.Station ∧ V76 d.Ticks
end Go.Gw
