/- What each parameter type of the seat reads as. No condition. -/
import Derived.Test.YtbplgfhjpeeieaaGwFacts
import Derived.Test.YtbplgfhjpeeieaaGwClose
set_option linter.unusedVariables false
set_option linter.unusedSimpArgs false
set_option linter.unusedSectionVars false
set_option maxRecDepth 100000
namespace Go.Gw
open Go Go.Proofs
theorem Qux {cs : List Value} (h : cs.length = 2) : ∃ c0 c1, cs = [c0, c1] := by
  match cs, h with
  | [c0, c1], _ => exact ⟨c0, c1, rfl⟩
theorem Quy {cs : List Value} (h : cs.length = 3) : ∃ c0 c1 c2, cs = [c0, c1, c2] := by
  match cs, h with
  | [c0, c1, c2], _ => exact ⟨c0, c1, c2, rfl⟩
theorem Quz {cs : List Value} (h : cs.length = 4) : ∃ c0 c1 c2 c3, cs = [c0, c1, c2, c3] := by
  match cs, h with
  | [c0, c1, c2, c3], _ => exact ⟨c0, c1, c2, c3, rfl⟩
theorem opn9 : YY Try.prog 9 ByteArray (fun s => s.size ≤ maxLen) := QLm Try.underlying9 (by kernel_rfl)
theorem opn3 : YY Try.prog 3 Int Ya := QLl Try.underlying3 (by kernel_rfl)
theorem opn4 : YY Try.prog 4 Bool (fun _ => True) := QLk Try.underlying4 (by kernel_rfl)
def Qkw (d : FeedStation) : Prop := (fun (s : ByteArray) => s.size ≤ maxLen) d.Name ∧ Ya d.Limit ∧ (fun (_ : Bool) => True) d.Takes
theorem QLe : YY Try.prog 145 FeedStation Qkw := by
  refine ⟨by kernel_rfl, fun enc w fuel cs x h => ?_⟩
  obtain ⟨hl, n, hf⟩ := Qdk Try.underlying145 h
  have hc : Try.prog.cellsOf 145 = 3 := by kernel_rfl
  rw [hc] at hl
  obtain ⟨c0, c1, c2, rfl⟩ : ∃ c0 c1 c2, cs = [c0, c1, c2] := Quy hl
  obtain ⟨y0, h0⟩ := (hf 0 _ rfl)
  change DataW.trod enc Try.prog w 0 (fun _ => true) true n 9 ((List.drop 0 [c0, c1, c2]).take (Try.prog.cellsOf 9)) = some y0 at h0
  rw [opn9.1] at h0
  obtain ⟨d0, r0, v0⟩ := opn9.2 enc w n _ _ h0
  change Rep.rd [] w [c0] d0 at r0
  have e0 : [c0] = [(.string d0)] := r0
  obtain ⟨y1, h1⟩ := (hf 1 _ rfl)
  change DataW.trod enc Try.prog w 0 (fun _ => true) true n 3 ((List.drop 1 [c0, c1, c2]).take (Try.prog.cellsOf 3)) = some y1 at h1
  rw [opn3.1] at h1
  obtain ⟨d1, r1, v1⟩ := opn3.2 enc w n _ _ h1
  change Rep.rd [] w [c1] d1 at r1
  have e1 : [c1] = [(.int .i64 d1)] := r1
  obtain ⟨y2, h2⟩ := (hf 2 _ rfl)
  change DataW.trod enc Try.prog w 0 (fun _ => true) true n 4 ((List.drop 2 [c0, c1, c2]).take (Try.prog.cellsOf 4)) = some y2 at h2
  rw [opn4.1] at h2
  obtain ⟨d2, r2, v2⟩ := opn4.2 enc w n _ _ h2
  change Rep.rd [] w [c2] d2 at r2
  have e2 : [c2] = [(.bool d2)] := r2
  simp only [List.cons.injEq, and_true] at e0
  subst e0
  simp only [List.cons.injEq, and_true] at e1
  subst e1
  simp only [List.cons.injEq, and_true] at e2
  subst e2
  refine ⟨⟨d0, d1, d2⟩, ?_, v0, v1, v2⟩
  rfl
theorem opn22 : YY Try.prog 22 (List FeedStation) (fun (l : (List FeedStation)) => (∀ x ∈ l, Qkw x) ∧ l.length ≤ maxLen) := Qfk Try.underlying22 (by kernel_rfl) (by decide) QLe
def V73 (d : FeedSection) : Prop := Ya d.Left ∧ Ya d.Right ∧ Ya d.Share ∧ Ya d.Loss
theorem QLj : YY Try.prog 73 FeedSection V73 := by
  refine ⟨by kernel_rfl, fun enc w fuel cs x h => ?_⟩
  obtain ⟨hl, n, hf⟩ := Qdk Try.underlying73 h
  have hc : Try.prog.cellsOf 73 = 4 := by kernel_rfl
  rw [hc] at hl
  obtain ⟨c0, c1, c2, c3, rfl⟩ : ∃ c0 c1 c2 c3, cs = [c0, c1, c2, c3] := Quz hl
  obtain ⟨y0, h0⟩ := (hf 0 _ rfl)
  change DataW.trod enc Try.prog w 0 (fun _ => true) true n 3 ((List.drop 0 [c0, c1, c2, c3]).take (Try.prog.cellsOf 3)) = some y0 at h0
  rw [opn3.1] at h0
  obtain ⟨d0, r0, v0⟩ := opn3.2 enc w n _ _ h0
  change Rep.rd [] w [c0] d0 at r0
  have e0 : [c0] = [(.int .i64 d0)] := r0
  obtain ⟨y1, h1⟩ := (hf 1 _ rfl)
  change DataW.trod enc Try.prog w 0 (fun _ => true) true n 3 ((List.drop 1 [c0, c1, c2, c3]).take (Try.prog.cellsOf 3)) = some y1 at h1
  rw [opn3.1] at h1
  obtain ⟨d1, r1, v1⟩ := opn3.2 enc w n _ _ h1
  change Rep.rd [] w [c1] d1 at r1
  have e1 : [c1] = [(.int .i64 d1)] := r1
  obtain ⟨y2, h2⟩ := (hf 2 _ rfl)
  change DataW.trod enc Try.prog w 0 (fun _ => true) true n 3 ((List.drop 2 [c0, c1, c2, c3]).take (Try.prog.cellsOf 3)) = some y2 at h2
  rw [opn3.1] at h2
  obtain ⟨d2, r2, v2⟩ := opn3.2 enc w n _ _ h2
  change Rep.rd [] w [c2] d2 at r2
  have e2 : [c2] = [(.int .i64 d2)] := r2
  obtain ⟨y3, h3⟩ := (hf 3 _ rfl)
  change DataW.trod enc Try.prog w 0 (fun _ => true) true n 3 ((List.drop 3 [c0, c1, c2, c3]).take (Try.prog.cellsOf 3)) = some y3 at h3
  rw [opn3.1] at h3
  obtain ⟨d3, r3, v3⟩ := opn3.2 enc w n _ _ h3
  change Rep.rd [] w [c3] d3 at r3
  have e3 : [c3] = [(.int .i64 d3)] := r3
  simp only [List.cons.injEq, and_true] at e0
  subst e0
  simp only [List.cons.injEq, and_true] at e1
  subst e1
  simp only [List.cons.injEq, and_true] at e2
  subst e2
  simp only [List.cons.injEq, and_true] at e3
  subst e3
  refine ⟨⟨d0, d1, d2, d3⟩, ?_, v0, v1, v2, v3⟩
  rfl
theorem opn23 : YY Try.prog 23 (List FeedSection) (fun (l : (List FeedSection)) => (∀ x ∈ l, V73 x) ∧ l.length ≤ maxLen) := Qfk Try.underlying23 (by kernel_rfl) (by decide) QLj
def Qkx (d : FeedStep) : Prop := Ya d.Section ∧ Ya d.Power
theorem QLf : YY Try.prog 185 FeedStep Qkx := by
  refine ⟨by kernel_rfl, fun enc w fuel cs x h => ?_⟩
  obtain ⟨hl, n, hf⟩ := Qdk Try.underlying185 h
  have hc : Try.prog.cellsOf 185 = 2 := by kernel_rfl
  rw [hc] at hl
  obtain ⟨c0, c1, rfl⟩ : ∃ c0 c1, cs = [c0, c1] := Qux hl
  obtain ⟨y0, h0⟩ := (hf 0 _ rfl)
  change DataW.trod enc Try.prog w 0 (fun _ => true) true n 3 ((List.drop 0 [c0, c1]).take (Try.prog.cellsOf 3)) = some y0 at h0
  rw [opn3.1] at h0
  obtain ⟨d0, r0, v0⟩ := opn3.2 enc w n _ _ h0
  change Rep.rd [] w [c0] d0 at r0
  have e0 : [c0] = [(.int .i64 d0)] := r0
  obtain ⟨y1, h1⟩ := (hf 1 _ rfl)
  change DataW.trod enc Try.prog w 0 (fun _ => true) true n 3 ((List.drop 1 [c0, c1]).take (Try.prog.cellsOf 3)) = some y1 at h1
  rw [opn3.1] at h1
  obtain ⟨d1, r1, v1⟩ := opn3.2 enc w n _ _ h1
  change Rep.rd [] w [c1] d1 at r1
  have e1 : [c1] = [(.int .i64 d1)] := r1
  simp only [List.cons.injEq, and_true] at e0
  subst e0
  simp only [List.cons.injEq, and_true] at e1
  subst e1
  refine ⟨⟨d0, d1⟩, ?_, v0, v1⟩
  rfl
theorem opn125 : YY Try.prog 125 (List FeedStep) (fun (l : (List FeedStep)) => (∀ x ∈ l, Qkx x) ∧ l.length ≤ maxLen) := Qfk Try.underlying125 (by kernel_rfl) (by decide) QLf
def Qkv (d : FeedTrain) : Prop := (fun (s : ByteArray) => s.size ≤ maxLen) d.Name ∧ Ya d.Earliest ∧ Ya d.Latest ∧ (fun (l : (List FeedStep)) => (∀ x ∈ l, Qkx x) ∧ l.length ≤ maxLen) d.Steps
theorem QLd : YY Try.prog 127 FeedTrain Qkv := by
  refine ⟨by kernel_rfl, fun enc w fuel cs x h => ?_⟩
  obtain ⟨hl, n, hf⟩ := Qdk Try.underlying127 h
  have hc : Try.prog.cellsOf 127 = 4 := by kernel_rfl
  rw [hc] at hl
  obtain ⟨c0, c1, c2, c3, rfl⟩ : ∃ c0 c1 c2 c3, cs = [c0, c1, c2, c3] := Quz hl
  obtain ⟨y0, h0⟩ := (hf 0 _ rfl)
  change DataW.trod enc Try.prog w 0 (fun _ => true) true n 9 ((List.drop 0 [c0, c1, c2, c3]).take (Try.prog.cellsOf 9)) = some y0 at h0
  rw [opn9.1] at h0
  obtain ⟨d0, r0, v0⟩ := opn9.2 enc w n _ _ h0
  change Rep.rd [] w [c0] d0 at r0
  have e0 : [c0] = [(.string d0)] := r0
  obtain ⟨y1, h1⟩ := (hf 1 _ rfl)
  change DataW.trod enc Try.prog w 0 (fun _ => true) true n 3 ((List.drop 1 [c0, c1, c2, c3]).take (Try.prog.cellsOf 3)) = some y1 at h1
  rw [opn3.1] at h1
  obtain ⟨d1, r1, v1⟩ := opn3.2 enc w n _ _ h1
  change Rep.rd [] w [c1] d1 at r1
  have e1 : [c1] = [(.int .i64 d1)] := r1
  obtain ⟨y2, h2⟩ := (hf 2 _ rfl)
  change DataW.trod enc Try.prog w 0 (fun _ => true) true n 3 ((List.drop 2 [c0, c1, c2, c3]).take (Try.prog.cellsOf 3)) = some y2 at h2
  rw [opn3.1] at h2
  obtain ⟨d2, r2, v2⟩ := opn3.2 enc w n _ _ h2
  change Rep.rd [] w [c2] d2 at r2
  have e2 : [c2] = [(.int .i64 d2)] := r2
  obtain ⟨y3, h3⟩ := (hf 3 _ rfl)
  change DataW.trod enc Try.prog w 0 (fun _ => true) true n 125 ((List.drop 3 [c0, c1, c2, c3]).take (Try.prog.cellsOf 125)) = some y3 at h3
  rw [opn125.1] at h3
  obtain ⟨d3, r3, v3⟩ := opn125.2 enc w n _ _ h3
  change Rep.rd [] w [c3] d3 at r3
  obtain ⟨u3, e3, k3⟩ := r3
  obtain rfl : c3 = u3 := List.head_eq_of_cons_eq e3
  simp only [List.cons.injEq, and_true] at e0
  subst e0
  simp only [List.cons.injEq, and_true] at e1
  subst e1
  simp only [List.cons.injEq, and_true] at e2
  subst e2
  refine ⟨⟨d0, d1, d2, d3⟩, ?_, v0, v1, v2, v3⟩
  exact ⟨c3, k3, rfl⟩
theorem opn24 : YY Try.prog 24 (List FeedTrain) (fun (l : (List FeedTrain)) => (∀ x ∈ l, Qkv x) ∧ l.length ≤ maxLen) := Qfk Try.underlying24 (by kernel_rfl) (by decide) QLd
def V26 (d : FeedNet) : Prop := (fun (l : (List FeedStation)) => (∀ x ∈ l, Qkw x) ∧ l.length ≤ maxLen) d.Stations ∧ (fun (l : (List FeedSection)) => (∀ x ∈ l, V73 x) ∧ l.length ≤ maxLen) d.Sections ∧ (fun (l : (List FeedTrain)) => (∀ x ∈ l, Qkv x) ∧ l.length ≤ maxLen) d.Trains
theorem QLg : YY Try.prog 26 FeedNet V26 := by
  refine ⟨by kernel_rfl, fun enc w fuel cs x h => ?_⟩
  obtain ⟨hl, n, hf⟩ := Qdk Try.underlying26 h
  have hc : Try.prog.cellsOf 26 = 3 := by kernel_rfl
  rw [hc] at hl
  obtain ⟨c0, c1, c2, rfl⟩ : ∃ c0 c1 c2, cs = [c0, c1, c2] := Quy hl
  obtain ⟨y0, h0⟩ := (hf 0 _ rfl)
  change DataW.trod enc Try.prog w 0 (fun _ => true) true n 22 ((List.drop 0 [c0, c1, c2]).take (Try.prog.cellsOf 22)) = some y0 at h0
  rw [opn22.1] at h0
  obtain ⟨d0, r0, v0⟩ := opn22.2 enc w n _ _ h0
  change Rep.rd [] w [c0] d0 at r0
  obtain ⟨u0, e0, k0⟩ := r0
  obtain rfl : c0 = u0 := List.head_eq_of_cons_eq e0
  obtain ⟨y1, h1⟩ := (hf 1 _ rfl)
  change DataW.trod enc Try.prog w 0 (fun _ => true) true n 23 ((List.drop 1 [c0, c1, c2]).take (Try.prog.cellsOf 23)) = some y1 at h1
  rw [opn23.1] at h1
  obtain ⟨d1, r1, v1⟩ := opn23.2 enc w n _ _ h1
  change Rep.rd [] w [c1] d1 at r1
  obtain ⟨u1, e1, k1⟩ := r1
  obtain rfl : c1 = u1 := List.head_eq_of_cons_eq e1
  obtain ⟨y2, h2⟩ := (hf 2 _ rfl)
  change DataW.trod enc Try.prog w 0 (fun _ => true) true n 24 ((List.drop 2 [c0, c1, c2]).take (Try.prog.cellsOf 24)) = some y2 at h2
  rw [opn24.1] at h2
  obtain ⟨d2, r2, v2⟩ := opn24.2 enc w n _ _ h2
  change Rep.rd [] w [c2] d2 at r2
  obtain ⟨u2, e2, k2⟩ := r2
  obtain rfl : c2 = u2 := List.head_eq_of_cons_eq e2
  refine ⟨⟨d0, d1, d2⟩, ?_, v0, v1, v2⟩
  exact ⟨c0, c1, c2, k0, k1, k2, rfl⟩
def V62 (d : FeedDeparture) : Prop := (fun (s : ByteArray) => s.size ≤ maxLen) d.Train ∧ Ya d.At
theorem QLi : YY Try.prog 62 FeedDeparture V62 := by
  refine ⟨by kernel_rfl, fun enc w fuel cs x h => ?_⟩
  obtain ⟨hl, n, hf⟩ := Qdk Try.underlying62 h
  have hc : Try.prog.cellsOf 62 = 2 := by kernel_rfl
  rw [hc] at hl
  obtain ⟨c0, c1, rfl⟩ : ∃ c0 c1, cs = [c0, c1] := Qux hl
  obtain ⟨y0, h0⟩ := (hf 0 _ rfl)
  change DataW.trod enc Try.prog w 0 (fun _ => true) true n 9 ((List.drop 0 [c0, c1]).take (Try.prog.cellsOf 9)) = some y0 at h0
  rw [opn9.1] at h0
  obtain ⟨d0, r0, v0⟩ := opn9.2 enc w n _ _ h0
  change Rep.rd [] w [c0] d0 at r0
  have e0 : [c0] = [(.string d0)] := r0
  obtain ⟨y1, h1⟩ := (hf 1 _ rfl)
  change DataW.trod enc Try.prog w 0 (fun _ => true) true n 3 ((List.drop 1 [c0, c1]).take (Try.prog.cellsOf 3)) = some y1 at h1
  rw [opn3.1] at h1
  obtain ⟨d1, r1, v1⟩ := opn3.2 enc w n _ _ h1
  change Rep.rd [] w [c1] d1 at r1
  have e1 : [c1] = [(.int .i64 d1)] := r1
  simp only [List.cons.injEq, and_true] at e0
  subst e0
  simp only [List.cons.injEq, and_true] at e1
  subst e1
  refine ⟨⟨d0, d1⟩, ?_, v0, v1⟩
  rfl
theorem QLh : YY Try.prog 29 (List FeedDeparture) (fun (l : (List FeedDeparture)) => (∀ x ∈ l, V62 x) ∧ l.length ≤ maxLen) := Qfk Try.underlying29 (by kernel_rfl) (by decide) QLi
def V63 (d : Arr2_Int) : Prop := Ya d.e0 ∧ Ya d.e1
def V76 (d : Range) : Prop := Ya d.Lo ∧ Ya d.Hi
def V78 (d : FeedBook) : Prop := Ya d.Fed ∧ Ya d.Used ∧ Ya d.Braked ∧ Ya d.Lost ∧ Ya d.Back ∧ Ya d.Burned
def V79 (d : Arr2_FeedBook) : Prop := V78 d.e0 ∧ V78 d.e1
def V81 (d : guidewaylaw07_FeedRead) : Prop := V76 d.Ticks ∧ V79 d.Books
def V90 (d : Arr3_Int) : Prop := Ya d.e0 ∧ Ya d.e1 ∧ Ya d.e2
def V94 (d : FeedLadder) : Prop := (fun (l : (List Int)) => (∀ x ∈ l, Ya x) ∧ l.length ≤ maxLen) d.Ohms ∧ (fun (l : (List Int)) => (∀ x ∈ l, Ya x) ∧ l.length ≤ maxLen) d.Loads
def QSc (d : Frac) : Prop := Ya d.Num ∧ Ya d.Den
def QSd (d : FeedWindow) : Prop := Ya d.Station ∧ V76 d.Ticks
end Go.Gw
