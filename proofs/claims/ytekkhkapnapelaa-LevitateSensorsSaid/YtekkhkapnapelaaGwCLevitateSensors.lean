/- The law LevitateSensors answers true at every input, and leaves its arguments as they were. Condition: none beyond the row's own. -/
import Derived.Test.YtekkhkapnapelaaRows
import Derived.Test.YtekkhkapnapelaaGwOpens
import Derived.Test.YtekkhkapnapelaaGwPSensors
set_option linter.unusedVariables false
set_option linter.unusedSimpArgs false
set_option linter.unusedSectionVars false
set_option maxRecDepth 100000
namespace Go.Proofs.Ytekkhkapnapelaa.levitateSensors
open Go Go.Gw Go.ChangeShapes Go.WideShapes Go.ChangeAt Go.RowKit
theorem own : ownKnob Try.prog.godebug = none := by kernel_rfl
theorem Qrm : laidOutB Try.prog = true := by kernel_rfl
theorem rows : Qcb Try.prog Try.f3.params.toList = true := by kernel_rfl
theorem Qpu (H : Type) (enc : TypeId × Value → H) (W : World) (base : Nat) (args : Array Value) (ds gs : List (DataW H)) (before : List MemPlace)
    (hval : ∀ (j : Nat) t v, Try.f3.params[j]? = some t → args[j]? = some v → Value.okWide Try.prog W .any base t v)
    (hW : DataW.Whole enc Try.prog Try.f3.params.toList Rows.levitateSensorsSpec.vars false W args.toList ds gs before) :
    Calls Try.prog 3 args W fun e W' => ∃ v, e = .returned v ∧ Rows.levitateSensorsSpec.post enc Try.prog Try.f3 false true false false W args v W' := by
  have hW' := hW
  obtain ⟨p, q, hA0, hV, rfl, hfz, hnd⟩ := hW
  have hA : DataW.TrodAll enc Try.prog W 0 (fun _ => true) true Try.f3.params.toList args.toList ds p := hA0
  rw [Try.params3] at hA hval
  obtain ⟨v0, vs0, d0, ds0, p0, q0, hargs, rfl, rfl, h0, r0⟩ := trodAll_cons hA
  obtain ⟨v1, vs1, d1, ds1, p1, q1, rfl, rfl, rfl, h1, r1⟩ := trodAll_cons r0
  obtain ⟨v2, vs2, d2, ds2, p2, q2, rfl, rfl, rfl, h2, r2⟩ := trodAll_cons r1
  obtain ⟨rfl, rfl, rfl⟩ := trodAll_nil r2
  obtain rfl : args = #[v0, v1, v2] := by cases args; simp_all
  obtain ⟨rfl, rfl⟩ := trodVars_none hV
  obtain ⟨cs0, x0, rfl, s0, w0⟩ := Qpg Qvl Try.underlying22 (hval 0 22 v0 rfl rfl) h0
  obtain ⟨x1, rfl, w1⟩ := Qjx Try.underlying3 (hval 1 3 v1 rfl rfl) h1
  obtain ⟨x2, rfl, w2⟩ := Qjx Try.underlying3 (hval 2 3 v2 rfl rfl) h2
  refine Calls.mono (Qro [] W (LtL.nil W) cs0 x0 s0 x1 x2 true (Qop x0 x1 x2)) fun e W' he => ?_
  cases e with
  | returned u =>
    obtain ⟨hx, rfl⟩ := he
    exact ⟨_, rfl, Qrq Qrm rows hW' rfl rfl rfl rfl rfl Try.underlying4 hx⟩
  | _ => exact he.elim
theorem Qmz (os : Os) {H : Type} (enc : TypeId × Value → H) : ∃ places, DataW.whole enc Try.prog ((World.holding Try.prog os ⟨#[], #[], []⟩).forCall (fun _ _ => 0) ⟨#[], #[.agg #[.int .i64 0, .int .i64 0, .int .i64 0], .int .i64 0, .int .i64 0], []⟩).memory Try.f3.params.toList Rows.levitateSensorsSpec.vars false (#[.agg #[.int .i64 0, .int .i64 0, .int .i64 0], .int .i64 0, .int .i64 0] : Array Value).toList 8 = some ([.agg [.lit (.int .i64 0), .lit (.int .i64 0), .lit (.int .i64 0)], .lit (.int .i64 0), .lit (.int .i64 0)], [], places) :=
  ⟨[], by kernel_rfl⟩
theorem Qtj (os : Os) (started : os.Started) (H : Type) (enc : TypeId × Value → H) (F : Stop.Interp) :
    ReturnsInHanded {} Try.checked os 3 .any ((OpenSpec.ofChange Rows.levitateSensorsSpec).preRow enc Try.prog Try.f3 Rows.levitateSensorsRow.domain false Rows.levitateSensorsRow.laid) (((OpenSpec.ofChange Rows.levitateSensorsSpec).at F).post enc Try.prog Try.f3 false true false false) := by
  obtain ⟨places, hx⟩ := Qmz os enc
  refine returnsInHanded_of_row (C := Try.checked) (s := OpenSpec.ofChange Rows.levitateSensorsSpec) own started (by kernel_rfl) Try.func3
    (witness_row_at (enc := enc) (C := Try.checked) false (World.holding Try.prog os ⟨#[], #[], []⟩) #[.agg #[.int .i64 0, .int .i64 0, .int .i64 0], .int .i64 0, .int .i64 0] rfl (by kernel_rfl) (by kernel_rfl) (by kernel_rfl)
      (OpenSpec.preRow_of_cond 8 hx (by kernel_rfl) (fun k hk => by cases hk) (by kernel_rfl) (laidMet_nil _ _))) ?_
  intro W base args ds gs before hval hW _ _ _ hL _ _
  exact Qpu H enc W base args ds gs before hval hW
theorem said : Rows.LevitateSensorsSaid :=
  OpenClaim.holds_of_cond 3 Try.f3 rfl rfl rfl rfl rfl rfl rfl ⟨rfl, rfl, rfl, rfl, rfl⟩ rfl rfl rfl rfl rfl (by kernel_rfl) Try.func3 (by kernel_rfl)
    (of_decide_eq_true (by kernel_rfl)) (by unfold Func.isWrapper; first | (rw [if_pos (by decide +kernel)]; kernel_rfl) | (rw [if_neg (by decide +kernel)]; exact ⟨rfl, rfl⟩))
    (fun os started H enc _ F => by rw [OpenClaim.pre_eq_preRow]; exact Qtj os started H enc F)
#print axioms said
end Go.Proofs.Ytekkhkapnapelaa.levitateSensors
