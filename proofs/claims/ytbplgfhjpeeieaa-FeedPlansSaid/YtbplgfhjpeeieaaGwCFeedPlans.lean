/- The law FeedPlans answers true at every input, on every schedule, and leaves its arguments as they were. Condition: none beyond the row's own. -/
import Derived.Test.YtbplgfhjpeeieaaRows
import Derived.Test.YtbplgfhjpeeieaaGwOpens
import Derived.Test.YtbplgfhjpeeieaaGwPPlans
set_option linter.unusedVariables false
set_option linter.unusedSimpArgs false
set_option linter.unusedSectionVars false
set_option maxRecDepth 100000
namespace Go.Proofs.Ytbplgfhjpeeieaa.feedPlans
open Go Go.Gw Go.Conc Go.ChangeShapes Go.WideShapes Go.ChangeAt Go.RowKit
theorem own : ownKnob Try.prog.godebug = none := by kernel_rfl
theorem QHl : laidOutB Try.prog = true := by kernel_rfl
theorem Qwv : Qfb Try.prog Try.f3.params.toList = true := by kernel_rfl
theorem QBm (H : Type) (enc : TypeId × Value → H) (W : World) (base : Nat) (args : Array Value) (ds gs : List (DataW H)) (before : List MemPlace)
    (hval : ∀ (j : Nat) t v, Try.f3.params[j]? = some t → args[j]? = some v → Value.okWide Try.prog W .any base t v)
    (hW : DataW.Whole enc Try.prog Try.f3.params.toList Rows.feedPlansSpec.vars false W args.toList ds gs before) :
    ∃ M last o w' t', runNT Try.prog (M + 1) (solo (G (Frame.enter Try.prog 3 args .normal) []) W) #[] = (.ended o w', t') ∧ runN Try.prog M (solo (G (Frame.enter Try.prog 3 args .normal) []) W) = .next last ∧
      step Try.prog last = .ended o w' ∧ Conc.Good Try.prog (fun v W' => Rows.feedPlansSpec.post enc Try.prog Try.f3 false true false false W args v W') last o w' t' := by
  have hW' := hW
  obtain ⟨p, q, hA0, hV, rfl, hfz, hnd⟩ := hW
  have hA : DataW.TrodAll enc Try.prog W 0 (fun _ => true) true Try.f3.params.toList args.toList ds p := hA0
  rw [Try.params3] at hA hval
  obtain ⟨v0, vs0, d0, ds0, p0, q0, hargs, rfl, rfl, h0, r0⟩ := trodAll_cons hA
  obtain ⟨rfl, rfl, rfl⟩ := trodAll_nil r0
  obtain rfl : args = #[v0] := by cases args; simp_all
  obtain ⟨rfl, rfl⟩ := trodVars_none hV
  obtain ⟨cs0, x0, rfl, s0, w0⟩ := QAk QKj Try.underlying26 (hval 0 26 v0 rfl rfl) h0
  obtain ⟨M, last, o, w', t', h1, h2, h3, h4⟩ := QPj (QHm [] (ZK W) (LtL.nil _) cs0 x0 (Rep.step (QPq W) s0) true (Qzx x0))
  refine ⟨M, last, o, w', t', h1, h2, h3, h4.mono fun v hp => ?_⟩
  obtain ⟨rfl, hx⟩ := hp
  exact QHr QHl Qwv hW' rfl rfl rfl rfl rfl Try.underlying4 hx
theorem QCx : Rows.feedPlansRow.wf (OpenSpec.ofChange Rows.feedPlansSpec) = true := by kernel_rfl
theorem QCy : laidOutB Try.prog = true := by kernel_rfl
theorem QDj : mapsRowed Try.prog = true := by kernel_rfl
theorem QDu : Try.f3.params.all (Try.prog.readableRec ·) = true := by kernel_rfl
theorem QDx : namedTie Try.prog Rows.feedPlansRow.named Rows.feedPlansSpec.vars = true := by kernel_rfl
theorem QDy : (Rows.feedPlansRow.stops == []) = true := by kernel_rfl
theorem QDz : (Try.prog.stops == []) = true := by kernel_rfl
theorem QEa : (Rows.feedPlansRow.knobs == []) = true := by kernel_rfl
theorem QEb : (Try.prog.stopKnobs == []) = true := by kernel_rfl
theorem QEc : (Rows.feedPlansRow.inPlace == Try.prog.inPlace 3) = true := by kernel_rfl
theorem QCz : (Rows.feedPlansRow.unfollowed == Try.prog.unfollowed 3) = true := by kernel_rfl
theorem QDa : (Rows.feedPlansRow.recurses == Try.prog.recurses 3) = true := by kernel_rfl
theorem QDb : (Rows.feedPlansRow.named == Try.prog.varsNamed 3) = true := by kernel_rfl
theorem QDc : (Rows.feedPlansRow.maps == (Try.f3.params.toList ++ Rows.feedPlansSpec.plain.varTypes Try.prog).any (Try.prog.mapsRec ·)) = true := by kernel_rfl
theorem QDd : (Rows.feedPlansRow.ifaces == (Try.f3.params.toList ++ Rows.feedPlansSpec.plain.varTypes Try.prog).any (Try.prog.ifacesRec ·)) = true := by kernel_rfl
theorem QDe : (Rows.feedPlansRow.mapsOut == Try.prog.mapsAmong Try.f3.resultTypes.toList) = true := by kernel_rfl
theorem QDf : (Rows.feedPlansRow.loops == (Try.f3.params.toList ++ Rows.feedPlansSpec.plain.varTypes Try.prog).any (Try.prog.loopsFrom ·)) = true := by kernel_rfl
theorem QDg : (Rows.feedPlansRow.wideKeys == (Try.f3.params.toList ++ Rows.feedPlansSpec.plain.varTypes Try.prog ++ Try.f3.resultTypes.toList).any (Try.prog.wideKeysFrom ·)) = true := by kernel_rfl
theorem QDh : Rows.feedPlansSpec.vars.all (Try.prog.varReadable ·) = true := by kernel_rfl
theorem QDi : Try.f3.resultTypes.all (fun t => Try.prog.readableRec t && decide (t < Try.prog.types.size)) = true := by kernel_rfl
theorem QDk : (Rows.feedPlansRow.ifacesOut == Try.f3.resultTypes.toList.any (Try.prog.ifacesRec ·)) = true := by kernel_rfl
theorem QDl : (Rows.feedPlansRow.loopsOut == Try.f3.resultTypes.toList.any (Try.prog.loopsFrom ·)) = true := by kernel_rfl
theorem QDm : (Rows.feedPlansRow.plainKeys == Try.prog.plainKeys) = true := by kernel_rfl
theorem QDn : Rows.feedPlansRow.shortTexts.isNone = true := by kernel_rfl
theorem QDo : Try.prog.stopsHeard = true := by kernel_rfl
theorem QDp : Try.prog.mayEnter = true := by kernel_rfl
theorem QDq : (Rows.feedPlansRow.lifted == Try.prog.liftsFinal) = true := by kernel_rfl
theorem QDr : (Try.prog.make == some Rows.feedPlansRow.make) = true := by kernel_rfl
theorem QDs : (Rows.feedPlansRow.kinds == (if Rows.feedPlansRow.domain.isEmpty then [] else Try.f3.params.toList.map fun t => match Try.prog.underlying t with | some (.int k) => some k | _ => none)) = true := by kernel_rfl
theorem QDt : (Rows.feedPlansRow.pinned == Rows.feedPlansRow.pinnedBy) = true := by kernel_rfl
theorem QDv : (Rows.feedPlansRow.veiled == (Try.f3.params.toList ++ Rows.feedPlansSpec.plain.varTypes Try.prog ++ Try.f3.resultTypes.toList).any (Try.prog.veiledRec ·)) = true := by kernel_rfl
theorem QDw : Rows.feedPlansRow.veiledFits Try.prog Try.f3.params.toList (Try.f3.params.toList ++ Rows.feedPlansSpec.plain.varTypes Try.prog ++ Try.f3.resultTypes.toList) = true := by kernel_rfl
theorem Ya {a b : Bool} (ha : a = true) (hb : b = true) : (a && b) = true := by subst ha; subst hb; rfl
theorem closed : joinedFacts Try.prog 3 Try.f3 Rows.feedPlansSpec Rows.feedPlansRow = true := (Ya (Ya (Ya (Ya (Ya (Ya (Ya (Ya (Ya (Ya (Ya (Ya (Ya (Ya (Ya (Ya (Ya (Ya (Ya (Ya (Ya (Ya (Ya (Ya (Ya (Ya (Ya (Ya (Ya (Ya (Ya QCx QCy) QDj) QDu) QDx) QDy) QDz) QEa) QEb) QEc) QCz) QDa) QDb) QDc) QDd) QDe) QDf) QDg) QDh) QDi) QDk) QDl) QDm) QDn) QDo) QDp) QDq) QDr) QDs) QDt) QDv) QDw)
theorem lifted (os : Os) (started : os.Started) (H : Type) (enc : TypeId × Value → H) :
    ReturnsInLeavingWide {} Try.checked os 3 .any (Rows.feedPlansSpec.pre6 enc Try.prog Try.f3 Rows.feedPlansRow.domain false) (Rows.feedPlansSpec.post enc Try.prog Try.f3 false true false false) := by
  refine returnsInLeavingWide_of_change_sized (C := Try.checked) own started Try.func3
    (ChangeSpec.witness6 (enc := enc) (C := Try.checked) false ⟨#[], #[.agg #[.slice none 0 0, .slice none 0 0, .slice none 0 0]], []⟩ 8 (by kernel_rfl) (by kernel_rfl) (by kernel_rfl) (by kernel_rfl)) ?_
  intro W base args ds gs before hval hW _ _ _
  exact QBm H enc W base args ds gs before hval hW
theorem said : Rows.FeedPlansSaid :=
  OpenClaim.holds_of_wide_leaving 3 Try.f3 rfl rfl rfl rfl rfl rfl rfl ⟨rfl, rfl, rfl, rfl, rfl⟩ rfl rfl rfl rfl rfl (by kernel_rfl) Try.func3 closed
    (of_decide_eq_true (by kernel_rfl)) (by unfold Func.isWrapper; first | (rw [if_pos (by decide +kernel)]; kernel_rfl) | (rw [if_neg (by decide +kernel)]; exact ⟨rfl, rfl⟩))
    (fun os started H enc _ => lifted os started H enc)
#print axioms said
end Go.Proofs.Ytbplgfhjpeeieaa.feedPlans
