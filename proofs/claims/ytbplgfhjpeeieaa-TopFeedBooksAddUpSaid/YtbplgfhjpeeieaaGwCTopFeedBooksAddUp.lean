/- The law TopFeedBooksAddUp answers true at every input, on every schedule, and leaves its arguments as they were. Condition: none beyond the row's own. -/
import Derived.Test.YtbplgfhjpeeieaaRows
import Derived.Test.YtbplgfhjpeeieaaGwOpens
import Derived.Test.YtbplgfhjpeeieaaGwPBooksAddUp
set_option linter.unusedVariables false
set_option linter.unusedSimpArgs false
set_option linter.unusedSectionVars false
set_option maxRecDepth 100000
namespace Go.Proofs.Ytbplgfhjpeeieaa.topFeedBooksAddUp
open Go Go.Gw Go.Conc Go.ChangeShapes Go.WideShapes Go.ChangeAt Go.RowKit
theorem own : ownKnob Try.prog.godebug = none := by kernel_rfl
theorem QHk : laidOutB Try.prog = true := by kernel_rfl
theorem Qwj : Qgr Try.prog Try.f17.params.toList = true := by kernel_rfl
theorem QBh (H : Type) (enc : TypeId × Value → H) (W : World) (base : Nat) (args : Array Value) (ds gs : List (DataW H)) (before : List MemPlace)
    (hval : ∀ (j : Nat) t v, Try.f17.params[j]? = some t → args[j]? = some v → Value.okWide Try.prog W .any base t v)
    (hW : DataW.Whole enc Try.prog Try.f17.params.toList Rows.topFeedBooksAddUpSpec.vars false W args.toList ds gs before) :
    ∃ M last o w' t', runNT Try.prog (M + 1) (solo (G (Frame.enter Try.prog 17 args .normal) []) W) #[] = (.ended o w', t') ∧ runN Try.prog M (solo (G (Frame.enter Try.prog 17 args .normal) []) W) = .next last ∧
      step Try.prog last = .ended o w' ∧ Conc.Good Try.prog (fun v W' => Rows.topFeedBooksAddUpSpec.post enc Try.prog Try.f17 false true false false W args v W') last o w' t' := by
  have hW' := hW
  obtain ⟨p, q, hA0, hV, rfl, hfz, hnd⟩ := hW
  have hA : DataW.TrodAll enc Try.prog W 0 (fun _ => true) true Try.f17.params.toList args.toList ds p := hA0
  rw [Try.params17] at hA hval
  obtain ⟨v0, vs0, d0, ds0, p0, q0, hargs, rfl, rfl, h0, r0⟩ := trodAll_cons hA
  obtain ⟨v1, vs1, d1, ds1, p1, q1, rfl, rfl, rfl, h1, r1⟩ := trodAll_cons r0
  obtain ⟨rfl, rfl, rfl⟩ := trodAll_nil r1
  obtain rfl : args = #[v0, v1] := by cases args; simp_all
  obtain ⟨rfl, rfl⟩ := trodVars_none hV
  obtain ⟨cs0, x0, rfl, s0, w0⟩ := QAa QJz Try.underlying26 (hval 0 26 v0 rfl rfl) h0
  obtain ⟨x1, rfl, w1⟩ := QAb Try.underlying3 (hval 1 3 v1 rfl rfl) h1
  obtain ⟨M, last, o, w', t', h1, h2, h3, h4⟩ := QOu (QGy [] (Jb W) (LtL.nil _) cs0 x0 (Rep.step (QPb W) s0) x1 true (Qzp x0 x1))
  refine ⟨M, last, o, w', t', h1, h2, h3, h4.mono fun v hp => ?_⟩
  obtain ⟨rfl, hx⟩ := hp
  exact QHo QHk Qwj hW' rfl rfl rfl rfl rfl Try.underlying4 hx
theorem QCn : Rows.topFeedBooksAddUpRow.wf (OpenSpec.ofChange Rows.topFeedBooksAddUpSpec) = true := by kernel_rfl
theorem QCo : laidOutB Try.prog = true := by kernel_rfl
theorem QCz : mapsRowed Try.prog = true := by kernel_rfl
theorem QDk : Try.f17.params.all (Try.prog.readableRec ·) = true := by kernel_rfl
theorem QDn : namedTie Try.prog Rows.topFeedBooksAddUpRow.named Rows.topFeedBooksAddUpSpec.vars = true := by kernel_rfl
theorem QDo : (Rows.topFeedBooksAddUpRow.stops == []) = true := by kernel_rfl
theorem QDp : (Try.prog.stops == []) = true := by kernel_rfl
theorem QDq : (Rows.topFeedBooksAddUpRow.knobs == []) = true := by kernel_rfl
theorem QDr : (Try.prog.stopKnobs == []) = true := by kernel_rfl
theorem QDs : (Rows.topFeedBooksAddUpRow.inPlace == Try.prog.inPlace 17) = true := by kernel_rfl
theorem QCp : (Rows.topFeedBooksAddUpRow.unfollowed == Try.prog.unfollowed 17) = true := by kernel_rfl
theorem QCq : (Rows.topFeedBooksAddUpRow.recurses == Try.prog.recurses 17) = true := by kernel_rfl
theorem QCr : (Rows.topFeedBooksAddUpRow.named == Try.prog.varsNamed 17) = true := by kernel_rfl
theorem QCs : (Rows.topFeedBooksAddUpRow.maps == (Try.f17.params.toList ++ Rows.topFeedBooksAddUpSpec.plain.varTypes Try.prog).any (Try.prog.mapsRec ·)) = true := by kernel_rfl
theorem QCt : (Rows.topFeedBooksAddUpRow.ifaces == (Try.f17.params.toList ++ Rows.topFeedBooksAddUpSpec.plain.varTypes Try.prog).any (Try.prog.ifacesRec ·)) = true := by kernel_rfl
theorem QCu : (Rows.topFeedBooksAddUpRow.mapsOut == Try.prog.mapsAmong Try.f17.resultTypes.toList) = true := by kernel_rfl
theorem QCv : (Rows.topFeedBooksAddUpRow.loops == (Try.f17.params.toList ++ Rows.topFeedBooksAddUpSpec.plain.varTypes Try.prog).any (Try.prog.loopsFrom ·)) = true := by kernel_rfl
theorem QCw : (Rows.topFeedBooksAddUpRow.wideKeys == (Try.f17.params.toList ++ Rows.topFeedBooksAddUpSpec.plain.varTypes Try.prog ++ Try.f17.resultTypes.toList).any (Try.prog.wideKeysFrom ·)) = true := by kernel_rfl
theorem QCx : Rows.topFeedBooksAddUpSpec.vars.all (Try.prog.varReadable ·) = true := by kernel_rfl
theorem QCy : Try.f17.resultTypes.all (fun t => Try.prog.readableRec t && decide (t < Try.prog.types.size)) = true := by kernel_rfl
theorem QDa : (Rows.topFeedBooksAddUpRow.ifacesOut == Try.f17.resultTypes.toList.any (Try.prog.ifacesRec ·)) = true := by kernel_rfl
theorem QDb : (Rows.topFeedBooksAddUpRow.loopsOut == Try.f17.resultTypes.toList.any (Try.prog.loopsFrom ·)) = true := by kernel_rfl
theorem QDc : (Rows.topFeedBooksAddUpRow.plainKeys == Try.prog.plainKeys) = true := by kernel_rfl
theorem QDd : Rows.topFeedBooksAddUpRow.shortTexts.isNone = true := by kernel_rfl
theorem QDe : Try.prog.stopsHeard = true := by kernel_rfl
theorem QDf : Try.prog.mayEnter = true := by kernel_rfl
theorem QDg : (Rows.topFeedBooksAddUpRow.lifted == Try.prog.liftsFinal) = true := by kernel_rfl
theorem QDh : (Try.prog.make == some Rows.topFeedBooksAddUpRow.make) = true := by kernel_rfl
theorem QDi : (Rows.topFeedBooksAddUpRow.kinds == (if Rows.topFeedBooksAddUpRow.domain.isEmpty then [] else Try.f17.params.toList.map fun t => match Try.prog.underlying t with | some (.int k) => some k | _ => none)) = true := by kernel_rfl
theorem QDj : (Rows.topFeedBooksAddUpRow.pinned == Rows.topFeedBooksAddUpRow.pinnedBy) = true := by kernel_rfl
theorem QDl : (Rows.topFeedBooksAddUpRow.veiled == (Try.f17.params.toList ++ Rows.topFeedBooksAddUpSpec.plain.varTypes Try.prog ++ Try.f17.resultTypes.toList).any (Try.prog.veiledRec ·)) = true := by kernel_rfl
theorem QDm : Rows.topFeedBooksAddUpRow.veiledFits Try.prog Try.f17.params.toList (Try.f17.params.toList ++ Rows.topFeedBooksAddUpSpec.plain.varTypes Try.prog ++ Try.f17.resultTypes.toList) = true := by kernel_rfl
theorem X1 {a b : Bool} (ha : a = true) (hb : b = true) : (a && b) = true := by subst ha; subst hb; rfl
theorem closed : joinedFacts Try.prog 17 Try.f17 Rows.topFeedBooksAddUpSpec Rows.topFeedBooksAddUpRow = true := (X1 (X1 (X1 (X1 (X1 (X1 (X1 (X1 (X1 (X1 (X1 (X1 (X1 (X1 (X1 (X1 (X1 (X1 (X1 (X1 (X1 (X1 (X1 (X1 (X1 (X1 (X1 (X1 (X1 (X1 (X1 QCn QCo) QCz) QDk) QDn) QDo) QDp) QDq) QDr) QDs) QCp) QCq) QCr) QCs) QCt) QCu) QCv) QCw) QCx) QCy) QDa) QDb) QDc) QDd) QDe) QDf) QDg) QDh) QDi) QDj) QDl) QDm)
theorem lifted (os : Os) (started : os.Started) (H : Type) (enc : TypeId × Value → H) :
    ReturnsInLeavingWide {} Try.checked os 17 .any (Rows.topFeedBooksAddUpSpec.pre6 enc Try.prog Try.f17 Rows.topFeedBooksAddUpRow.domain false) (Rows.topFeedBooksAddUpSpec.post enc Try.prog Try.f17 false true false false) := by
  refine returnsInLeavingWide_of_change_sized (C := Try.checked) own started Try.func17
    (ChangeSpec.witness6 (enc := enc) (C := Try.checked) false ⟨#[], #[.agg #[.slice none 0 0, .slice none 0 0, .slice none 0 0], .int .i64 0], []⟩ 8 (by kernel_rfl) (by kernel_rfl) (by kernel_rfl) (by kernel_rfl)) ?_
  intro W base args ds gs before hval hW _ hwt _
  exact QBh H enc W base args ds gs before hval hW
theorem said : Rows.TopFeedBooksAddUpSaid :=
  OpenClaim.holds_of_wide_leaving 17 Try.f17 rfl rfl rfl rfl rfl rfl rfl ⟨rfl, rfl, rfl, rfl, rfl⟩ rfl rfl rfl rfl rfl (by kernel_rfl) Try.func17 closed
    (of_decide_eq_true (by kernel_rfl)) (by unfold Func.isWrapper; first | (rw [if_pos (by decide +kernel)]; kernel_rfl) | (rw [if_neg (by decide +kernel)]; exact ⟨rfl, rfl⟩))
    (fun os started H enc _ => lifted os started H enc)
#print axioms said
end Go.Proofs.Ytbplgfhjpeeieaa.topFeedBooksAddUp
