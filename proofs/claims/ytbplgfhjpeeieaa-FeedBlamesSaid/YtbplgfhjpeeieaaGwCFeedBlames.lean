/- The law FeedBlames answers true at every input, on every schedule, and leaves its arguments as they were. Condition: none beyond the row's own. -/
import Derived.Test.YtbplgfhjpeeieaaRows
import Derived.Test.YtbplgfhjpeeieaaGwOpens
import Derived.Test.YtbplgfhjpeeieaaGwPBlames
set_option linter.unusedVariables false
set_option linter.unusedSimpArgs false
set_option linter.unusedSectionVars false
set_option maxRecDepth 100000
namespace Go.Proofs.Ytbplgfhjpeeieaa.feedBlames
open Go Go.Gw Go.Conc Go.ChangeShapes Go.WideShapes Go.ChangeAt Go.RowKit
theorem own : ownKnob Try.prog.godebug = none := by kernel_rfl
theorem QId : laidOutB Try.prog = true := by kernel_rfl
theorem Qxe : Qfy Try.prog Try.f5.params.toList = true := by kernel_rfl
theorem QCd (H : Type) (enc : TypeId × Value → H) (W : World) (base : Nat) (args : Array Value) (ds gs : List (DataW H)) (before : List MemPlace)
    (hval : ∀ (j : Nat) t v, Try.f5.params[j]? = some t → args[j]? = some v → Value.okWide Try.prog W .any base t v)
    (hW : DataW.Whole enc Try.prog Try.f5.params.toList Rows.feedBlamesSpec.vars false W args.toList ds gs before) :
    ∃ M last o w' t', runNT Try.prog (M + 1) (solo (G (Frame.enter Try.prog 5 args .normal) []) W) #[] = (.ended o w', t') ∧ runN Try.prog M (solo (G (Frame.enter Try.prog 5 args .normal) []) W) = .next last ∧
      step Try.prog last = .ended o w' ∧ Conc.Good Try.prog (fun v W' => Rows.feedBlamesSpec.post enc Try.prog Try.f5 false true false false W args v W') last o w' t' := by
  have hW' := hW
  obtain ⟨p, q, hA0, hV, rfl, hfz, hnd⟩ := hW
  have hA : DataW.TrodAll enc Try.prog W 0 (fun _ => true) true Try.f5.params.toList args.toList ds p := hA0
  rw [Try.params5] at hA hval
  obtain ⟨v0, vs0, d0, ds0, p0, q0, hargs, rfl, rfl, h0, r0⟩ := trodAll_cons hA
  obtain ⟨v1, vs1, d1, ds1, p1, q1, rfl, rfl, rfl, h1, r1⟩ := trodAll_cons r0
  obtain ⟨rfl, rfl, rfl⟩ := trodAll_nil r1
  obtain rfl : args = #[v0, v1] := by cases args; simp_all
  obtain ⟨rfl, rfl⟩ := trodVars_none hV
  obtain ⟨cs0, x0, rfl, s0, w0⟩ := QAy QLg Try.underlying26 (hval 0 26 v0 rfl rfl) h0
  obtain ⟨x1, s1, w1⟩ := QAz QLh Try.underlying29 (hval 1 29 v1 rfl rfl) h1
  obtain ⟨M, last, o, w', t', h1, h2, h3, h4⟩ := QQs (QIe [] (Z0 W) (LtL.nil _) cs0 x0 (Rep.step (Qzw W) s0) v1 x1 (s1.step (Qzw W)) true (QAm x0 x1))
  refine ⟨M, last, o, w', t', h1, h2, h3, h4.mono fun v hp => ?_⟩
  obtain ⟨rfl, hx⟩ := hp
  exact QIj QId Qxe hW' rfl rfl rfl rfl rfl Try.underlying4 hx
theorem QDo : Rows.feedBlamesRow.wf (OpenSpec.ofChange Rows.feedBlamesSpec) = true := by kernel_rfl
theorem QDp : laidOutB Try.prog = true := by kernel_rfl
theorem QEa : mapsRowed Try.prog = true := by kernel_rfl
theorem QEl : Try.f5.params.all (Try.prog.readableRec ·) = true := by kernel_rfl
theorem QEo : namedTie Try.prog Rows.feedBlamesRow.named Rows.feedBlamesSpec.vars = true := by kernel_rfl
theorem QEp : (Rows.feedBlamesRow.stops == []) = true := by kernel_rfl
theorem QEq : (Try.prog.stops == []) = true := by kernel_rfl
theorem QEr : (Rows.feedBlamesRow.knobs == []) = true := by kernel_rfl
theorem QEs : (Try.prog.stopKnobs == []) = true := by kernel_rfl
theorem QEt : (Rows.feedBlamesRow.inPlace == Try.prog.inPlace 5) = true := by kernel_rfl
theorem QDq : (Rows.feedBlamesRow.unfollowed == Try.prog.unfollowed 5) = true := by kernel_rfl
theorem QDr : (Rows.feedBlamesRow.recurses == Try.prog.recurses 5) = true := by kernel_rfl
theorem QDs : (Rows.feedBlamesRow.named == Try.prog.varsNamed 5) = true := by kernel_rfl
theorem QDt : (Rows.feedBlamesRow.maps == (Try.f5.params.toList ++ Rows.feedBlamesSpec.plain.varTypes Try.prog).any (Try.prog.mapsRec ·)) = true := by kernel_rfl
theorem QDu : (Rows.feedBlamesRow.ifaces == (Try.f5.params.toList ++ Rows.feedBlamesSpec.plain.varTypes Try.prog).any (Try.prog.ifacesRec ·)) = true := by kernel_rfl
theorem QDv : (Rows.feedBlamesRow.mapsOut == Try.prog.mapsAmong Try.f5.resultTypes.toList) = true := by kernel_rfl
theorem QDw : (Rows.feedBlamesRow.loops == (Try.f5.params.toList ++ Rows.feedBlamesSpec.plain.varTypes Try.prog).any (Try.prog.loopsFrom ·)) = true := by kernel_rfl
theorem QDx : (Rows.feedBlamesRow.wideKeys == (Try.f5.params.toList ++ Rows.feedBlamesSpec.plain.varTypes Try.prog ++ Try.f5.resultTypes.toList).any (Try.prog.wideKeysFrom ·)) = true := by kernel_rfl
theorem QDy : Rows.feedBlamesSpec.vars.all (Try.prog.varReadable ·) = true := by kernel_rfl
theorem QDz : Try.f5.resultTypes.all (fun t => Try.prog.readableRec t && decide (t < Try.prog.types.size)) = true := by kernel_rfl
theorem QEb : (Rows.feedBlamesRow.ifacesOut == Try.f5.resultTypes.toList.any (Try.prog.ifacesRec ·)) = true := by kernel_rfl
theorem QEc : (Rows.feedBlamesRow.loopsOut == Try.f5.resultTypes.toList.any (Try.prog.loopsFrom ·)) = true := by kernel_rfl
theorem QEd : (Rows.feedBlamesRow.plainKeys == Try.prog.plainKeys) = true := by kernel_rfl
theorem QEe : Rows.feedBlamesRow.shortTexts.isNone = true := by kernel_rfl
theorem QEf : Try.prog.stopsHeard = true := by kernel_rfl
theorem QEg : Try.prog.mayEnter = true := by kernel_rfl
theorem QEh : (Rows.feedBlamesRow.lifted == Try.prog.liftsFinal) = true := by kernel_rfl
theorem QEi : (Try.prog.make == some Rows.feedBlamesRow.make) = true := by kernel_rfl
theorem QEj : (Rows.feedBlamesRow.kinds == (if Rows.feedBlamesRow.domain.isEmpty then [] else Try.f5.params.toList.map fun t => match Try.prog.underlying t with | some (.int k) => some k | _ => none)) = true := by kernel_rfl
theorem QEk : (Rows.feedBlamesRow.pinned == Rows.feedBlamesRow.pinnedBy) = true := by kernel_rfl
theorem QEm : (Rows.feedBlamesRow.veiled == (Try.f5.params.toList ++ Rows.feedBlamesSpec.plain.varTypes Try.prog ++ Try.f5.resultTypes.toList).any (Try.prog.veiledRec ·)) = true := by kernel_rfl
theorem QEn : Rows.feedBlamesRow.veiledFits Try.prog Try.f5.params.toList (Try.f5.params.toList ++ Rows.feedBlamesSpec.plain.varTypes Try.prog ++ Try.f5.resultTypes.toList) = true := by kernel_rfl
theorem Ye {a b : Bool} (ha : a = true) (hb : b = true) : (a && b) = true := by subst ha; subst hb; rfl
theorem closed : joinedFacts Try.prog 5 Try.f5 Rows.feedBlamesSpec Rows.feedBlamesRow = true := (Ye (Ye (Ye (Ye (Ye (Ye (Ye (Ye (Ye (Ye (Ye (Ye (Ye (Ye (Ye (Ye (Ye (Ye (Ye (Ye (Ye (Ye (Ye (Ye (Ye (Ye (Ye (Ye (Ye (Ye (Ye QDo QDp) QEa) QEl) QEo) QEp) QEq) QEr) QEs) QEt) QDq) QDr) QDs) QDt) QDu) QDv) QDw) QDx) QDy) QDz) QEb) QEc) QEd) QEe) QEf) QEg) QEh) QEi) QEj) QEk) QEm) QEn)
theorem lifted (os : Os) (started : os.Started) (H : Type) (enc : TypeId × Value → H) :
    ReturnsInLeavingWide {} Try.checked os 5 .any (Rows.feedBlamesSpec.pre6 enc Try.prog Try.f5 Rows.feedBlamesRow.domain false) (Rows.feedBlamesSpec.post enc Try.prog Try.f5 false true false false) := by
  refine returnsInLeavingWide_of_change_sized (C := Try.checked) own started Try.func5
    (ChangeSpec.witness6 (enc := enc) (C := Try.checked) false ⟨#[], #[.agg #[.slice none 0 0, .slice none 0 0, .slice none 0 0], .slice none 0 0], []⟩ 8 (by kernel_rfl) (by kernel_rfl) (by kernel_rfl) (by kernel_rfl)) ?_
  intro W base args ds gs before hval hW _ hwt _
  exact QCd H enc W base args ds gs before hval hW
theorem said : Rows.FeedBlamesSaid :=
  OpenClaim.holds_of_wide_leaving 5 Try.f5 rfl rfl rfl rfl rfl rfl rfl ⟨rfl, rfl, rfl, rfl, rfl⟩ rfl rfl rfl rfl rfl (by kernel_rfl) Try.func5 closed
    (of_decide_eq_true (by kernel_rfl)) (by unfold Func.isWrapper; first | (rw [if_pos (by decide +kernel)]; kernel_rfl) | (rw [if_neg (by decide +kernel)]; exact ⟨rfl, rfl⟩))
    (fun os started H enc _ => lifted os started H enc)
#print axioms said
end Go.Proofs.Ytbplgfhjpeeieaa.feedBlames
