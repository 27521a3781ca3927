/- What each parameter type of the seat reads as. No condition. -/
import Derived.Test.YtbplgfhjpeeieaaGwFacts
import Derived.Test.YtbplgfhjpeeieaaGwClose
set_option linter.unusedVariables false
set_option linter.unusedSimpArgs false
set_option linter.unusedSectionVars false
set_option maxRecDepth 100000
namespace Go.Gw
open Go Go.Proofs
theorem Qxb {cs : List Value} (h : cs.length = 2) : ∃ c0 c1, cs = [c0, c1] := by
  match cs, h with
  | [c0, c1], _ => exact ⟨c0, c1, rfl⟩
theorem Qxc {cs : List Value} (h : cs.length = 3) : ∃ c0 c1 c2, cs = [c0, c1, c2] := by
  match cs, h with
  | [c0, c1, c2], _ => exact ⟨c0, c1, c2, rfl⟩
theorem Qxd {cs : List Value} (h : cs.length = 4) : ∃ c0 c1 c2 c3, cs = [c0, c1, c2, c3] := by
  match cs, h with
  | [c0, c1, c2, c3], _ => exact ⟨c0, c1, c2, c3, rfl⟩
theorem opn9 : Y0 Try.prog 9 ByteArray (fun s => s.size ≤ maxLen) := QOf Try.underlying9 (by kernel_rfl)
theorem opn3 : Y0 Try.prog 3 Int Yb := QOe Try.underlying3 (by kernel_rfl)
theorem opn4 : Y0 Try.prog 4 Bool (fun _ => True) := QOd Try.underlying4 (by kernel_rfl)
def Qmj (d : FeedStation) : Prop := (fun (s : ByteArray) => s.size ≤ maxLen) d.Name ∧ Yb d.Limit ∧ (fun (_ : Bool) => True) d.Takes
theorem QNw : Y0 Try.prog 145 FeedStation Qmj := by
  refine ⟨by kernel_rfl, fun enc w fuel cs x h => ?_⟩
  obtain ⟨hl, n, hf⟩ := Qdy Try.underlying145 h
  have hc : Try.prog.cellsOf 145 = 3 := by kernel_rfl
  rw [hc] at hl
  obtain ⟨c0, c1, c2, rfl⟩ : ∃ c0 c1 c2, cs = [c0, c1, c2] := Qxc hl
  obtain ⟨y0, h0⟩ := (hf 0 _ rfl)
  change DataW.trod enc Try.prog w 0 (fun _ => true) true n 9 ((List.drop 0 [c0, c1, c2]).take (Try.prog.cellsOf 9)) = some y0 at h0
  rw [opn9.1] at h0
  obtain ⟨d0, r0, v0⟩ := opn9.2 enc w n _ _ h0
  change Rep.rd [] w [c0] d0 at r0
  have e0 : [c0] = [(.string d0)] := r0
  obtain ⟨y1, h1⟩ := (hf 1 _ rfl)
  change DataW.trod enc Try.prog w 0 (fun _ => true) true n 3 ((List.drop 1 [c0, c1, c2]).take (Try.prog.cellsOf 3)) = some y1 at h1
  rw [opn3.1] at h1
  obtain ⟨d1, r1, v1⟩ := opn3.2 enc w n _ _ h1
  change Rep.rd [] w [c1] d1 at r1
  have e1 : [c1] = [(.int .i64 d1)] := r1
  obtain ⟨y2, h2⟩ := (hf 2 _ rfl)
  change DataW.trod enc Try.prog w 0 (fun _ => true) true n 4 ((List.drop 2 [c0, c1, c2]).take (Try.prog.cellsOf 4)) = some y2 at h2
  rw [opn4.1] at h2
  obtain ⟨d2, r2, v2⟩ := opn4.2 enc w n _ _ h2
  change Rep.rd [] w [c2] d2 at r2
  have e2 : [c2] = [(.bool d2)] := r2
  simp only [List.cons.injEq, and_true] at e0
  subst e0
  simp only [List.cons.injEq, and_true] at e1
  subst e1
  simp only [List.cons.injEq, and_true] at e2
  subst e2
  refine ⟨⟨d0, d1, d2⟩, ?_, v0, v1, v2⟩
  rfl
theorem opn22 : Y0 Try.prog 22 (List FeedStation) (fun (l : (List FeedStation)) => (∀ x ∈ l, Qmj x) ∧ l.length ≤ maxLen) := Qdz Try.underlying22 (by kernel_rfl) (by decide) QNw
def V73 (d : FeedSection) : Prop := Yb d.Left ∧ Yb d.Right ∧ Yb d.Share ∧ Yb d.Loss
theorem QOc : Y0 Try.prog 73 FeedSection V73 := by
  refine ⟨by kernel_rfl, fun enc w fuel cs x h => ?_⟩
  obtain ⟨hl, n, hf⟩ := Qdy Try.underlying73 h
  have hc : Try.prog.cellsOf 73 = 4 := by kernel_rfl
  rw [hc] at hl
  obtain ⟨c0, c1, c2, c3, rfl⟩ : ∃ c0 c1 c2 c3, cs = [c0, c1, c2, c3] := Qxd hl
  obtain ⟨y0, h0⟩ := (hf 0 _ rfl)
  change DataW.trod enc Try.prog w 0 (fun _ => true) true n 3 ((List.drop 0 [c0, c1, c2, c3]).take (Try.prog.cellsOf 3)) = some y0 at h0
  rw [opn3.1] at h0
  obtain ⟨d0, r0, v0⟩ := opn3.2 enc w n _ _ h0
  change Rep.rd [] w [c0] d0 at r0
  have e0 : [c0] = [(.int .i64 d0)] := r0
  obtain ⟨y1, h1⟩ := (hf 1 _ rfl)
  change DataW.trod enc Try.prog w 0 (fun _ => true) true n 3 ((List.drop 1 [c0, c1, c2, c3]).take (Try.prog.cellsOf 3)) = some y1 at h1
  rw [opn3.1] at h1
  obtain ⟨d1, r1, v1⟩ := opn3.2 enc w n _ _ h1
  change Rep.rd [] w [c1] d1 at r1
  have e1 : [c1] = [(.int .i64 d1)] := r1
  obtain ⟨y2, h2⟩ := (hf 2 _ rfl)
  change DataW.trod enc Try.prog w 0 (fun _ => true) true n 3 ((List.drop 2 [c0, c1, c2, c3]).take (Try.prog.cellsOf 3)) = some y2 at h2
  rw [opn3.1] at h2
  obtain ⟨d2, r2, v2⟩ := opn3.2 enc w n _ _ h2
  change Rep.rd [] w [c2] d2 at r2
  have e2 : [c2] = [(.int .i64 d2)] := r2
  obtain ⟨y3, h3⟩ := (hf 3 _ rfl)
  change DataW.trod enc Try.prog w 0 (fun _ => true) true n 3 ((List.drop 3 [c0, c1, c2, c3]).take (Try.prog.cellsOf 3)) = some y3 at h3
  rw [opn3.1] at h3
  obtain ⟨d3, r3, v3⟩ := opn3.2 enc w n _ _ h3
  change Rep.rd [] w [c3] d3 at r3
  have e3 : [c3] = [(.int .i64 d3)] := r3
  simp only [List.cons.injEq, and_true] at e0
  subst e0
  simp only [List.cons.injEq, and_true] at e1
  subst e1
  simp only [List.cons.injEq, and_true] at e2
  subst e2
  simp only [List.cons.injEq, and_true] at e3
  subst e3
  refine ⟨⟨d0, d1, d2, d3⟩, ?_, v0, v1, v2, v3⟩
  rfl
theorem opn23 : Y0 Try.prog 23 (List FeedSection) (fun (l : (List FeedSection)) => (∀ x ∈ l, V73 x) ∧ l.length ≤ maxLen) := Qdz Try.underlying23 (by kernel_rfl) (by decide) QOc
def Qmk (d : FeedStep) : Prop := Yb d.Section ∧ Yb d.Power
theorem QNx : Y0 Try.prog 185 FeedStep Qmk := by
  refine ⟨by kernel_rfl, fun enc w fuel cs x h => ?_⟩
  obtain ⟨hl, n, hf⟩ := Qdy Try.underlying185 h
  have hc : Try.prog.cellsOf 185 = 2 := by kernel_rfl
  rw [hc] at hl
  obtain ⟨c0, c1, rfl⟩ : ∃ c0 c1, cs = [c0, c1] := Qxb hl
  obtain ⟨y0, h0⟩ := (hf 0 _ rfl)
  change DataW.trod enc Try.prog w 0 (fun _ => true) true n 3 ((List.drop 0 [c0, c1]).take (Try.prog.cellsOf 3)) = some y0 at h0
  rw [opn3.1] at h0
  obtain ⟨d0, r0, v0⟩ := opn3.2 enc w n _ _ h0
  change Rep.rd [] w [c0] d0 at r0
  have e0 : [c0] = [(.int .i64 d0)] := r0
  obtain ⟨y1, h1⟩ := (hf 1 _ rfl)
  change DataW.trod enc Try.prog w 0 (fun _ => true) true n 3 ((List.drop 1 [c0, c1]).take (Try.prog.cellsOf 3)) = some y1 at h1
  rw [opn3.1] at h1
  obtain ⟨d1, r1, v1⟩ := opn3.2 enc w n _ _ h1
  change Rep.rd [] w [c1] d1 at r1
  have e1 : [c1] = [(.int .i64 d1)] := r1
  simp only [List.cons.injEq, and_true] at e0
  subst e0
  simp only [List.cons.injEq, and_true] at e1
  subst e1
  refine ⟨⟨d0, d1⟩, ?_, v0, v1⟩
  rfl
theorem opn125 : Y0 Try.prog 125 (List FeedStep) (fun (l : (List FeedStep)) => (∀ x ∈ l, Qmk x) ∧ l.length ≤ maxLen) := Qdz Try.underlying125 (by kernel_rfl) (by decide) QNx
def Qmi (d : FeedTrain) : Prop := (fun (s : ByteArray) => s.size ≤ maxLen) d.Name ∧ Yb d.Earliest ∧ Yb d.Latest ∧ (fun (l : (List FeedStep)) => (∀ x ∈ l, Qmk x) ∧ l.length ≤ maxLen) d.Steps
theorem QNv : Y0 Try.prog 127 FeedTrain Qmi := by
  refine ⟨by kernel_rfl, fun enc w fuel cs x h => ?_⟩
  obtain ⟨hl, n, hf⟩ := Qdy Try.underlying127 h
  have hc : Try.prog.cellsOf 127 = 4 := by kernel_rfl
  rw [hc] at hl
  obtain ⟨c0, c1, c2, c3, rfl⟩ : ∃ c0 c1 c2 c3, cs = [c0, c1, c2, c3] := Qxd hl
  obtain ⟨y0, h0⟩ := (hf 0 _ rfl)
  change DataW.trod enc Try.prog w 0 (fun _ => true) true n 9 ((List.drop 0 [c0, c1, c2, c3]).take (Try.prog.cellsOf 9)) = some y0 at h0
  rw [opn9.1] at h0
  obtain ⟨d0, r0, v0⟩ := opn9.2 enc w n _ _ h0
  change Rep.rd [] w [c0] d0 at r0
  have e0 : [c0] = [(.string d0)] := r0
  obtain ⟨y1, h1⟩ := (hf 1 _ rfl)
  change DataW.trod enc Try.prog w 0 (fun _ => true) true n 3 ((List.drop 1 [c0, c1, c2, c3]).take (Try.prog.cellsOf 3)) = some y1 at h1
  rw [opn3.1] at h1
  obtain ⟨d1, r1, v1⟩ := opn3.2 enc w n _ _ h1
  change Rep.rd [] w [c1] d1 at r1
  have e1 : [c1] = [(.int .i64 d1)] := r1
  obtain ⟨y2, h2⟩ := (hf 2 _ rfl)
  change DataW.trod enc Try.prog w 0 (fun _ => true) true n 3 ((List.drop 2 [c0, c1, c2, c3]).take (Try.prog.cellsOf 3)) = some y2 at h2
  rw [opn3.1] at h2
  obtain ⟨d2, r2, v2⟩ := opn3.2 enc w n _ _ h2
  change Rep.rd [] w [c2] d2 at r2
  have e2 : [c2] = [(.int .i64 d2)] := r2
  obtain ⟨y3, h3⟩ := (hf 3 _ rfl)
  change DataW.trod enc Try.prog w 0 (fun _ => true) true n 125 ((List.drop 3 [c0, c1, c2, c3]).take (Try.prog.cellsOf 125)) = some y3 at h3
  rw [opn125.1] at h3
  obtain ⟨d3, r3, v3⟩ := opn125.2 enc w n _ _ h3
  change Rep.rd [] w [c3] d3 at r3
  obtain ⟨u3, e3, k3⟩ := r3
  obtain rfl : c3 = u3 := List.head_eq_of_cons_eq e3
  simp only [List.cons.injEq, and_true] at e0
  subst e0
  simp only [List.cons.injEq, and_true] at e1
  subst e1
  simp only [List.cons.injEq, and_true] at e2
  subst e2
  refine ⟨⟨d0, d1, d2, d3⟩, ?_, v0, v1, v2, v3⟩
  exact ⟨c3, k3, rfl⟩
theorem opn24 : Y0 Try.prog 24 (List FeedTrain) (fun (l : (List FeedTrain)) => (∀ x ∈ l, Qmi x) ∧ l.length ≤ maxLen) := Qdz Try.underlying24 (by kernel_rfl) (by decide) QNv
def V26 (d : FeedNet) : Prop := (fun (l : (List FeedStation)) => (∀ x ∈ l, Qmj x) ∧ l.length ≤ maxLen) d.Stations ∧ (fun (l : (List FeedSection)) => (∀ x ∈ l, V73 x) ∧ l.length ≤ maxLen) d.Sections ∧ (fun (l : (List FeedTrain)) => (∀ x ∈ l, Qmi x) ∧ l.length ≤ maxLen) d.Trains
theorem QNy : Y0 Try.prog 26 FeedNet V26 := by
  refine ⟨by kernel_rfl, fun enc w fuel cs x h => ?_⟩
  obtain ⟨hl, n, hf⟩ := Qdy Try.underlying26 h
  have hc : Try.prog.cellsOf 26 = 3 := by kernel_rfl
  rw [hc] at hl
  obtain ⟨c0, c1, c2, rfl⟩ : ∃ c0 c1 c2, cs = [c0, c1, c2] := Qxc hl
  obtain ⟨y0, h0⟩ := (hf 0 _ rfl)
  change DataW.trod enc Try.prog w 0 (fun _ => true) true n 22 ((List.drop 0 [c0, c1, c2]).take (Try.prog.cellsOf 22)) = some y0 at h0
  rw [opn22.1] at h0
  obtain ⟨d0, r0, v0⟩ := opn22.2 enc w n _ _ h0
  change Rep.rd [] w [c0] d0 at r0
  obtain ⟨u0, e0, k0⟩ := r0
  obtain rfl : c0 = u0 := List.head_eq_of_cons_eq e0
  obtain ⟨y1, h1⟩ := (hf 1 _ rfl)
  change DataW.trod enc Try.prog w 0 (fun _ => true) true n 23 ((List.drop 1 [c0, c1, c2]).take (Try.prog.cellsOf 23)) = some y1 at h1
  rw [opn23.1] at h1
  obtain ⟨d1, r1, v1⟩ := opn23.2 enc w n _ _ h1
  change Rep.rd [] w [c1] d1 at r1
  obtain ⟨u1, e1, k1⟩ := r1
  obtain rfl : c1 = u1 := List.head_eq_of_cons_eq e1
  obtain ⟨y2, h2⟩ := (hf 2 _ rfl)
  change DataW.trod enc Try.prog w 0 (fun _ => true) true n 24 ((List.drop 2 [c0, c1, c2]).take (Try.prog.cellsOf 24)) = some y2 at h2
  rw [opn24.1] at h2
  obtain ⟨d2, r2, v2⟩ := opn24.2 enc w n _ _ h2
  change Rep.rd [] w [c2] d2 at r2
  obtain ⟨u2, e2, k2⟩ := r2
  obtain rfl : c2 = u2 := List.head_eq_of_cons_eq e2
  refine ⟨⟨d0, d1, d2⟩, ?_, v0, v1, v2⟩
  exact ⟨c0, c1, c2, k0, k1, k2, rfl⟩
def V62 (d : FeedDeparture) : Prop := (fun (s : ByteArray) => s.size ≤ maxLen) d.Train ∧ Yb d.At
theorem QOb : Y0 Try.prog 62 FeedDeparture V62 := by
  refine ⟨by kernel_rfl, fun enc w fuel cs x h => ?_⟩
  obtain ⟨hl, n, hf⟩ := Qdy Try.underlying62 h
  have hc : Try.prog.cellsOf 62 = 2 := by kernel_rfl
  rw [hc] at hl
  obtain ⟨c0, c1, rfl⟩ : ∃ c0 c1, cs = [c0, c1] := Qxb hl
  obtain ⟨y0, h0⟩ := (hf 0 _ rfl)
  change DataW.trod enc Try.prog w 0 (fun _ => true) true n 9 ((List.drop 0 [c0, c1]).take (Try.prog.cellsOf 9)) = some y0 at h0
  rw [opn9.1] at h0
  obtain ⟨d0, r0, v0⟩ := opn9.2 enc w n _ _ h0
  change Rep.rd [] w [c0] d0 at r0
  have e0 : [c0] = [(.string d0)] := r0
  obtain ⟨y1, h1⟩ := (hf 1 _ rfl)
  change DataW.trod enc Try.prog w 0 (fun _ => true) true n 3 ((List.drop 1 [c0, c1]).take (Try.prog.cellsOf 3)) = some y1 at h1
  rw [opn3.1] at h1
  obtain ⟨d1, r1, v1⟩ := opn3.2 enc w n _ _ h1
  change Rep.rd [] w [c1] d1 at r1
  have e1 : [c1] = [(.int .i64 d1)] := r1
  simp only [List.cons.injEq, and_true] at e0
  subst e0
  simp only [List.cons.injEq, and_true] at e1
  subst e1
  refine ⟨⟨d0, d1⟩, ?_, v0, v1⟩
  rfl
theorem QNz : Y0 Try.prog 29 (List FeedDeparture) (fun (l : (List FeedDeparture)) => (∀ x ∈ l, V62 x) ∧ l.length ≤ maxLen) := Qdz Try.underlying29 (by kernel_rfl) (by decide) QOb
def V63 (d : Arr2_Int) : Prop := Yb d.e0 ∧ Yb d.e1
def V76 (d : Range) : Prop := Yb d.Lo ∧ Yb d.Hi
def V78 (d : FeedBook) : Prop := Yb d.Fed ∧ Yb d.Used ∧ Yb d.Braked ∧ Yb d.Lost ∧ Yb d.Back ∧ Yb d.Burned
def V79 (d : Arr2_FeedBook) : Prop := V78 d.e0 ∧ V78 d.e1
def V81 (d : guidewaylaw07_FeedRead) : Prop := V76 d.Ticks ∧ V79 d.Books
def V90 (d : Arr3_Int) : Prop := Yb d.e0 ∧ Yb d.e1 ∧ Yb d.e2
theorem QOa : Y0 Try.prog 52 (List Int) (fun (l : (List Int)) => (∀ x ∈ l, Yb x) ∧ l.length ≤ maxLen) := Qdz Try.underlying52 (by kernel_rfl) (by decide) opn3
def V94 (d : FeedLadder) : Prop := (fun (l : (List Int)) => (∀ x ∈ l, Yb x) ∧ l.length ≤ maxLen) d.Ohms ∧ (fun (l : (List Int)) => (∀ x ∈ l, Yb x) ∧ l.length ≤ maxLen) d.Loads
def QVg (d : Frac) : Prop := Yb d.Num ∧ Yb d.Den
def QVh (d : FeedWindow) : Prop := Yb d.Station ∧ V76 d.Ticks
end Go.Gw
