/- The law FeedWindows answers true at every input, on every schedule, and leaves its arguments as they were. Condition: none beyond the row's own. -/
import Derived.Test.YtbplgfhjpeeieaaRows
import Derived.Test.YtbplgfhjpeeieaaGwOpens
import Derived.Test.YtbplgfhjpeeieaaGwPWindows
set_option linter.unusedVariables false
set_option linter.unusedSimpArgs false
set_option linter.unusedSectionVars false
set_option maxRecDepth 100000
namespace Go.Proofs.Ytbplgfhjpeeieaa.feedWindows
open Go Go.Gw Go.Conc Go.ChangeShapes Go.WideShapes Go.ChangeAt Go.RowKit
theorem own : ownKnob Try.prog.godebug = none := by kernel_rfl
theorem QHh : laidOutB Try.prog = true := by kernel_rfl
theorem Qwh : Qef Try.prog Try.f15.params.toList = true := by kernel_rfl
theorem QBa (H : Type) (enc : TypeId × Value → H) (W : World) (base : Nat) (args : Array Value) (ds gs : List (DataW H)) (before : List MemPlace)
    (hval : ∀ (j : Nat) t v, Try.f15.params[j]? = some t → args[j]? = some v → Value.okWide Try.prog W .any base t v)
    (hW : DataW.Whole enc Try.prog Try.f15.params.toList Rows.feedWindowsSpec.vars false W args.toList ds gs before) :
    ∃ M last o w' t', runNT Try.prog (M + 1) (solo (G (Frame.enter Try.prog 15 args .normal) []) W) #[] = (.ended o w', t') ∧ runN Try.prog M (solo (G (Frame.enter Try.prog 15 args .normal) []) W) = .next last ∧
      step Try.prog last = .ended o w' ∧ Conc.Good Try.prog (fun v W' => Rows.feedWindowsSpec.post enc Try.prog Try.f15 false true false false W args v W') last o w' t' := by
  have hW' := hW
  obtain ⟨p, q, hA0, hV, rfl, hfz, hnd⟩ := hW
  have hA : DataW.TrodAll enc Try.prog W 0 (fun _ => true) true Try.f15.params.toList args.toList ds p := hA0
  rw [Try.params15] at hA hval
  obtain ⟨v0, vs0, d0, ds0, p0, q0, hargs, rfl, rfl, h0, r0⟩ := trodAll_cons hA
  obtain ⟨v1, vs1, d1, ds1, p1, q1, rfl, rfl, rfl, h1, r1⟩ := trodAll_cons r0
  obtain ⟨rfl, rfl, rfl⟩ := trodAll_nil r1
  obtain rfl : args = #[v0, v1] := by cases args; simp_all
  obtain ⟨rfl, rfl⟩ := trodVars_none hV
  obtain ⟨cs0, x0, rfl, s0, w0⟩ := Qoh QKa Try.underlying26 (hval 0 26 v0 rfl rfl) h0
  obtain ⟨cs1, x1, rfl, s1, w1⟩ := Qoh QJw Try.underlying123 (hval 1 123 v1 rfl rfl) h1
  obtain ⟨M, last, o, w', t', h1, h2, h3, h4⟩ := QOo (QHi [] (Zx W) (LtL.nil _) cs0 x0 (Rep.step (Qzf W) s0) cs1 x1 (Rep.step (Qzf W) s1) true (Qzq x0 x1))
  refine ⟨M, last, o, w', t', h1, h2, h3, h4.mono fun v hp => ?_⟩
  obtain ⟨rfl, hx⟩ := hp
  exact QHn QHh Qwh hW' rfl rfl rfl rfl rfl Try.underlying4 hx
theorem QCp : Rows.feedWindowsRow.wf (OpenSpec.ofChange Rows.feedWindowsSpec) = true := by kernel_rfl
theorem QCq : laidOutB Try.prog = true := by kernel_rfl
theorem QDb : mapsRowed Try.prog = true := by kernel_rfl
theorem QDm : Try.f15.params.all (Try.prog.readableRec ·) = true := by kernel_rfl
theorem QDp : namedTie Try.prog Rows.feedWindowsRow.named Rows.feedWindowsSpec.vars = true := by kernel_rfl
theorem QDq : (Rows.feedWindowsRow.stops == []) = true := by kernel_rfl
theorem QDr : (Try.prog.stops == []) = true := by kernel_rfl
theorem QDs : (Rows.feedWindowsRow.knobs == []) = true := by kernel_rfl
theorem QDt : (Try.prog.stopKnobs == []) = true := by kernel_rfl
theorem QDu : (Rows.feedWindowsRow.inPlace == Try.prog.inPlace 15) = true := by kernel_rfl
theorem QCr : (Rows.feedWindowsRow.unfollowed == Try.prog.unfollowed 15) = true := by kernel_rfl
theorem QCs : (Rows.feedWindowsRow.recurses == Try.prog.recurses 15) = true := by kernel_rfl
theorem QCt : (Rows.feedWindowsRow.named == Try.prog.varsNamed 15) = true := by kernel_rfl
theorem QCu : (Rows.feedWindowsRow.maps == (Try.f15.params.toList ++ Rows.feedWindowsSpec.plain.varTypes Try.prog).any (Try.prog.mapsRec ·)) = true := by kernel_rfl
theorem QCv : (Rows.feedWindowsRow.ifaces == (Try.f15.params.toList ++ Rows.feedWindowsSpec.plain.varTypes Try.prog).any (Try.prog.ifacesRec ·)) = true := by kernel_rfl
theorem QCw : (Rows.feedWindowsRow.mapsOut == Try.prog.mapsAmong Try.f15.resultTypes.toList) = true := by kernel_rfl
theorem QCx : (Rows.feedWindowsRow.loops == (Try.f15.params.toList ++ Rows.feedWindowsSpec.plain.varTypes Try.prog).any (Try.prog.loopsFrom ·)) = true := by kernel_rfl
theorem QCy : (Rows.feedWindowsRow.wideKeys == (Try.f15.params.toList ++ Rows.feedWindowsSpec.plain.varTypes Try.prog ++ Try.f15.resultTypes.toList).any (Try.prog.wideKeysFrom ·)) = true := by kernel_rfl
theorem QCz : Rows.feedWindowsSpec.vars.all (Try.prog.varReadable ·) = true := by kernel_rfl
theorem QDa : Try.f15.resultTypes.all (fun t => Try.prog.readableRec t && decide (t < Try.prog.types.size)) = true := by kernel_rfl
theorem QDc : (Rows.feedWindowsRow.ifacesOut == Try.f15.resultTypes.toList.any (Try.prog.ifacesRec ·)) = true := by kernel_rfl
theorem QDd : (Rows.feedWindowsRow.loopsOut == Try.f15.resultTypes.toList.any (Try.prog.loopsFrom ·)) = true := by kernel_rfl
theorem QDe : (Rows.feedWindowsRow.plainKeys == Try.prog.plainKeys) = true := by kernel_rfl
theorem QDf : Rows.feedWindowsRow.shortTexts.isNone = true := by kernel_rfl
theorem QDg : Try.prog.stopsHeard = true := by kernel_rfl
theorem QDh : Try.prog.mayEnter = true := by kernel_rfl
theorem QDi : (Rows.feedWindowsRow.lifted == Try.prog.liftsFinal) = true := by kernel_rfl
theorem QDj : (Try.prog.make == some Rows.feedWindowsRow.make) = true := by kernel_rfl
theorem QDk : (Rows.feedWindowsRow.kinds == (if Rows.feedWindowsRow.domain.isEmpty then [] else Try.f15.params.toList.map fun t => match Try.prog.underlying t with | some (.int k) => some k | _ => none)) = true := by kernel_rfl
theorem QDl : (Rows.feedWindowsRow.pinned == Rows.feedWindowsRow.pinnedBy) = true := by kernel_rfl
theorem QDn : (Rows.feedWindowsRow.veiled == (Try.f15.params.toList ++ Rows.feedWindowsSpec.plain.varTypes Try.prog ++ Try.f15.resultTypes.toList).any (Try.prog.veiledRec ·)) = true := by kernel_rfl
theorem QDo : Rows.feedWindowsRow.veiledFits Try.prog Try.f15.params.toList (Try.f15.params.toList ++ Rows.feedWindowsSpec.plain.varTypes Try.prog ++ Try.f15.resultTypes.toList) = true := by kernel_rfl
theorem XY {a b : Bool} (ha : a = true) (hb : b = true) : (a && b) = true := by subst ha; subst hb; rfl
theorem closed : joinedFacts Try.prog 15 Try.f15 Rows.feedWindowsSpec Rows.feedWindowsRow = true := (XY (XY (XY (XY (XY (XY (XY (XY (XY (XY (XY (XY (XY (XY (XY (XY (XY (XY (XY (XY (XY (XY (XY (XY (XY (XY (XY (XY (XY (XY (XY QCp QCq) QDb) QDm) QDp) QDq) QDr) QDs) QDt) QDu) QCr) QCs) QCt) QCu) QCv) QCw) QCx) QCy) QCz) QDa) QDc) QDd) QDe) QDf) QDg) QDh) QDi) QDj) QDk) QDl) QDn) QDo)
theorem lifted (os : Os) (started : os.Started) (H : Type) (enc : TypeId × Value → H) :
    ReturnsInLeavingWide {} Try.checked os 15 .any (Rows.feedWindowsSpec.pre6 enc Try.prog Try.f15 Rows.feedWindowsRow.domain false) (Rows.feedWindowsSpec.post enc Try.prog Try.f15 false true false false) := by
  refine returnsInLeavingWide_of_change_sized (C := Try.checked) own started Try.func15
    (ChangeSpec.witness6 (enc := enc) (C := Try.checked) false ⟨#[], #[.agg #[.slice none 0 0, .slice none 0 0, .slice none 0 0], .agg #[.int .i64 0, .int .i64 0, .int .i64 0]], []⟩ 8 (by kernel_rfl) (by kernel_rfl) (by kernel_rfl) (by kernel_rfl)) ?_
  intro W base args ds gs before hval hW _ _ _
  exact QBa H enc W base args ds gs before hval hW
theorem said : Rows.FeedWindowsSaid :=
  OpenClaim.holds_of_wide_leaving 15 Try.f15 rfl rfl rfl rfl rfl rfl rfl ⟨rfl, rfl, rfl, rfl, rfl⟩ rfl rfl rfl rfl rfl (by kernel_rfl) Try.func15 closed
    (of_decide_eq_true (by kernel_rfl)) (by unfold Func.isWrapper; first | (rw [if_pos (by decide +kernel)]; kernel_rfl) | (rw [if_neg (by decide +kernel)]; exact ⟨rfl, rfl⟩))
    (fun os started H enc _ => lifted os started H enc)
#print axioms said
end Go.Proofs.Ytbplgfhjpeeieaa.feedWindows
