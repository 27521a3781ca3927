/- What each parameter type of the seat reads as. No condition. -/
import Derived.Test.YtbplgfhjpeeieaaGwFacts
import Derived.Test.YtbplgfhjpeeieaaGwClose
set_option linter.unusedVariables false
set_option linter.unusedSimpArgs false
set_option linter.unusedSectionVars false
set_option maxRecDepth 100000
namespace Go.Gw
open Go Go.Proofs
theorem QDj {cs : List Value} (h : cs.length = 2) : ∃ c0 c1, cs = [c0, c1] := by
  match cs, h with
  | [c0, c1], _ => exact ⟨c0, c1, rfl⟩
theorem QFo : ZU Try.prog 3 Int Xu := QFr Try.underlying3 (by kernel_rfl)
def Qwb (d : FeedStation) : Prop := (fun (s : ByteArray) => s.size ≤ maxLen) d.Name ∧ Xu d.Limit ∧ (fun (_ : Bool) => True) d.Takes
def V73 (d : FeedSection) : Prop := Xu d.Left ∧ Xu d.Right ∧ Xu d.Share ∧ Xu d.Loss
def Qwc (d : FeedStep) : Prop := Xu d.Section ∧ Xu d.Power
def Qwa (d : FeedTrain) : Prop := (fun (s : ByteArray) => s.size ≤ maxLen) d.Name ∧ Xu d.Earliest ∧ Xu d.Latest ∧ (fun (l : (List FeedStep)) => (∀ x ∈ l, Qwc x) ∧ l.length ≤ maxLen) d.Steps
def V26 (d : FeedNet) : Prop := (fun (l : (List FeedStation)) => (∀ x ∈ l, Qwb x) ∧ l.length ≤ maxLen) d.Stations ∧ (fun (l : (List FeedSection)) => (∀ x ∈ l, V73 x) ∧ l.length ≤ maxLen) d.Sections ∧ (fun (l : (List FeedTrain)) => (∀ x ∈ l, Qwa x) ∧ l.length ≤ maxLen) d.Trains
def V62 (d : FeedDeparture) : Prop := (fun (s : ByteArray) => s.size ≤ maxLen) d.Train ∧ Xu d.At
def V63 (d : Arr2_Int) : Prop := Xu d.e0 ∧ Xu d.e1
def V76 (d : Range) : Prop := Xu d.Lo ∧ Xu d.Hi
def V78 (d : FeedBook) : Prop := Xu d.Fed ∧ Xu d.Used ∧ Xu d.Braked ∧ Xu d.Lost ∧ Xu d.Back ∧ Xu d.Burned
def V79 (d : Arr2_FeedBook) : Prop := V78 d.e0 ∧ V78 d.e1
def V81 (d : guidewaylaw07_FeedRead) : Prop := V76 d.Ticks ∧ V79 d.Books
def V90 (d : Arr3_Int) : Prop := Xu d.e0 ∧ Xu d.e1 ∧ Xu d.e2
theorem opn52 : ZU Try.prog 52 (List Int) (fun (l : (List Int)) => (∀ x ∈ l, Xu x) ∧ l.length ≤ maxLen) := QFs Try.underlying52 (by kernel_rfl) (by decide) QFo
def V94 (d : FeedLadder) : Prop := (fun (l : (List Int)) => (∀ x ∈ l, Xu x) ∧ l.length ≤ maxLen) d.Ohms ∧ (fun (l : (List Int)) => (∀ x ∈ l, Xu x) ∧ l.length ≤ maxLen) d.Loads
theorem QFp : ZU Try.prog 94 FeedLadder V94 := by
  refine ⟨by kernel_rfl, fun enc w fuel cs x h => ?_⟩
  obtain ⟨hl, n, hf⟩ := QFq Try.underlying94 h
  have hc : Try.prog.cellsOf 94 = 2 := by kernel_rfl
  rw [hc] at hl
  obtain ⟨c0, c1, rfl⟩ : ∃ c0 c1, cs = [c0, c1] := QDj hl
  obtain ⟨y0, h0⟩ := (hf 0 _ rfl)
  change DataW.trod enc Try.prog w 0 (fun _ => true) true n 52 ((List.drop 0 [c0, c1]).take (Try.prog.cellsOf 52)) = some y0 at h0
  rw [opn52.1] at h0
  obtain ⟨d0, r0, v0⟩ := opn52.2 enc w n _ _ h0
  change Rep.rd [] w [c0] d0 at r0
  obtain ⟨u0, e0, k0⟩ := r0
  obtain rfl : c0 = u0 := List.head_eq_of_cons_eq e0
  obtain ⟨y1, h1⟩ := (hf 1 _ rfl)
  change DataW.trod enc Try.prog w 0 (fun _ => true) true n 52 ((List.drop 1 [c0, c1]).take (Try.prog.cellsOf 52)) = some y1 at h1
  rw [opn52.1] at h1
  obtain ⟨d1, r1, v1⟩ := opn52.2 enc w n _ _ h1
  change Rep.rd [] w [c1] d1 at r1
  obtain ⟨u1, e1, k1⟩ := r1
  obtain rfl : c1 = u1 := List.head_eq_of_cons_eq e1
  refine ⟨⟨d0, d1⟩, ?_, v0, v1⟩
  exact ⟨c0, c1, k0, k1, rfl⟩
def QKv (d : Frac) : Prop := Xu d.Num ∧ Xu d.Den
def QKw (d : FeedWindow) : Prop := Xu d.Station ∧ V76 d.Ticks
end Go.Gw
