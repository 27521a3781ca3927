/- The law FeedPeaks answers true at every input, on every schedule, and leaves its arguments as they were. Condition: none beyond the row's own. -/
import Derived.Test.YtbplgfhjpeeieaaRows
import Derived.Test.YtbplgfhjpeeieaaGwOpens
import Derived.Test.YtbplgfhjpeeieaaGwPPeaks
set_option linter.unusedVariables false
set_option linter.unusedSimpArgs false
set_option linter.unusedSectionVars false
set_option maxRecDepth 100000
namespace Go.Proofs.Ytbplgfhjpeeieaa.feedPeaks
open Go Go.Gw Go.Conc Go.ChangeShapes Go.WideShapes Go.ChangeAt Go.RowKit
theorem own : ownKnob Try.prog.godebug = none := by kernel_rfl
theorem QGq : laidOutB Try.prog = true := by kernel_rfl
theorem Qvx : Qen Try.prog Try.f12.params.toList = true := by kernel_rfl
theorem QAo (H : Type) (enc : TypeId × Value → H) (W : World) (base : Nat) (args : Array Value) (ds gs : List (DataW H)) (before : List MemPlace)
    (hval : ∀ (j : Nat) t v, Try.f12.params[j]? = some t → args[j]? = some v → Value.okWide Try.prog W .any base t v)
    (hW : DataW.Whole enc Try.prog Try.f12.params.toList Rows.feedPeaksSpec.vars false W args.toList ds gs before) :
    ∃ M last o w' t', runNT Try.prog (M + 1) (solo (G (Frame.enter Try.prog 12 args .normal) []) W) #[] = (.ended o w', t') ∧ runN Try.prog M (solo (G (Frame.enter Try.prog 12 args .normal) []) W) = .next last ∧
      step Try.prog last = .ended o w' ∧ Conc.Good Try.prog (fun v W' => Rows.feedPeaksSpec.post enc Try.prog Try.f12 false true false false W args v W') last o w' t' := by
  have hW' := hW
  obtain ⟨p, q, hA0, hV, rfl, hfz, hnd⟩ := hW
  have hA : DataW.TrodAll enc Try.prog W 0 (fun _ => true) true Try.f12.params.toList args.toList ds p := hA0
  rw [Try.params12] at hA hval
  obtain ⟨v0, vs0, d0, ds0, p0, q0, hargs, rfl, rfl, h0, r0⟩ := trodAll_cons hA
  obtain ⟨v1, vs1, d1, ds1, p1, q1, rfl, rfl, rfl, h1, r1⟩ := trodAll_cons r0
  obtain ⟨v2, vs2, d2, ds2, p2, q2, rfl, rfl, rfl, h2, r2⟩ := trodAll_cons r1
  obtain ⟨rfl, rfl, rfl⟩ := trodAll_nil r2
  obtain rfl : args = #[v0, v1, v2] := by cases args; simp_all
  obtain ⟨rfl, rfl⟩ := trodVars_none hV
  obtain ⟨cs0, x0, rfl, s0, w0⟩ := Qzl QJt Try.underlying26 (hval 0 26 v0 rfl rfl) h0
  obtain ⟨x1, s1, w1⟩ := Qzn QJu Try.underlying29 (hval 1 29 v1 rfl rfl) h1
  obtain ⟨x2, rfl, w2⟩ := Qzm Try.underlying3 (hval 2 3 v2 rfl rfl) h2
  obtain ⟨M, last, o, w', t', h1, h2, h3, h4⟩ := QOx (QGr [] (ZC W) (LtL.nil _) cs0 x0 (Rep.step (Qyn W) s0) v1 x1 (s1.step (Qyn W)) x2 true (Qyx x0 x1 x2))
  refine ⟨M, last, o, w', t', h1, h2, h3, h4.mono fun v hp => ?_⟩
  obtain ⟨rfl, hx⟩ := hp
  exact QGw QGq Qvx hW' rfl rfl rfl rfl rfl Try.underlying4 hx
theorem QBy : Rows.feedPeaksRow.wf (OpenSpec.ofChange Rows.feedPeaksSpec) = true := by kernel_rfl
theorem QBz : laidOutB Try.prog = true := by kernel_rfl
theorem QCk : mapsRowed Try.prog = true := by kernel_rfl
theorem QCv : Try.f12.params.all (Try.prog.readableRec ·) = true := by kernel_rfl
theorem QCy : namedTie Try.prog Rows.feedPeaksRow.named Rows.feedPeaksSpec.vars = true := by kernel_rfl
theorem QCz : (Rows.feedPeaksRow.stops == []) = true := by kernel_rfl
theorem QDa : (Try.prog.stops == []) = true := by kernel_rfl
theorem QDb : (Rows.feedPeaksRow.knobs == []) = true := by kernel_rfl
theorem QDc : (Try.prog.stopKnobs == []) = true := by kernel_rfl
theorem QDd : (Rows.feedPeaksRow.inPlace == Try.prog.inPlace 12) = true := by kernel_rfl
theorem QCa : (Rows.feedPeaksRow.unfollowed == Try.prog.unfollowed 12) = true := by kernel_rfl
theorem QCb : (Rows.feedPeaksRow.recurses == Try.prog.recurses 12) = true := by kernel_rfl
theorem QCc : (Rows.feedPeaksRow.named == Try.prog.varsNamed 12) = true := by kernel_rfl
theorem QCd : (Rows.feedPeaksRow.maps == (Try.f12.params.toList ++ Rows.feedPeaksSpec.plain.varTypes Try.prog).any (Try.prog.mapsRec ·)) = true := by kernel_rfl
theorem QCe : (Rows.feedPeaksRow.ifaces == (Try.f12.params.toList ++ Rows.feedPeaksSpec.plain.varTypes Try.prog).any (Try.prog.ifacesRec ·)) = true := by kernel_rfl
theorem QCf : (Rows.feedPeaksRow.mapsOut == Try.prog.mapsAmong Try.f12.resultTypes.toList) = true := by kernel_rfl
theorem QCg : (Rows.feedPeaksRow.loops == (Try.f12.params.toList ++ Rows.feedPeaksSpec.plain.varTypes Try.prog).any (Try.prog.loopsFrom ·)) = true := by kernel_rfl
theorem QCh : (Rows.feedPeaksRow.wideKeys == (Try.f12.params.toList ++ Rows.feedPeaksSpec.plain.varTypes Try.prog ++ Try.f12.resultTypes.toList).any (Try.prog.wideKeysFrom ·)) = true := by kernel_rfl
theorem QCi : Rows.feedPeaksSpec.vars.all (Try.prog.varReadable ·) = true := by kernel_rfl
theorem QCj : Try.f12.resultTypes.all (fun t => Try.prog.readableRec t && decide (t < Try.prog.types.size)) = true := by kernel_rfl
theorem QCl : (Rows.feedPeaksRow.ifacesOut == Try.f12.resultTypes.toList.any (Try.prog.ifacesRec ·)) = true := by kernel_rfl
theorem QCm : (Rows.feedPeaksRow.loopsOut == Try.f12.resultTypes.toList.any (Try.prog.loopsFrom ·)) = true := by kernel_rfl
theorem QCn : (Rows.feedPeaksRow.plainKeys == Try.prog.plainKeys) = true := by kernel_rfl
theorem QCo : Rows.feedPeaksRow.shortTexts.isNone = true := by kernel_rfl
theorem QCp : Try.prog.stopsHeard = true := by kernel_rfl
theorem QCq : Try.prog.mayEnter = true := by kernel_rfl
theorem QCr : (Rows.feedPeaksRow.lifted == Try.prog.liftsFinal) = true := by kernel_rfl
theorem QCs : (Try.prog.make == some Rows.feedPeaksRow.make) = true := by kernel_rfl
theorem QCt : (Rows.feedPeaksRow.kinds == (if Rows.feedPeaksRow.domain.isEmpty then [] else Try.f12.params.toList.map fun t => match Try.prog.underlying t with | some (.int k) => some k | _ => none)) = true := by kernel_rfl
theorem QCu : (Rows.feedPeaksRow.pinned == Rows.feedPeaksRow.pinnedBy) = true := by kernel_rfl
theorem QCw : (Rows.feedPeaksRow.veiled == (Try.f12.params.toList ++ Rows.feedPeaksSpec.plain.varTypes Try.prog ++ Try.f12.resultTypes.toList).any (Try.prog.veiledRec ·)) = true := by kernel_rfl
theorem QCx : Rows.feedPeaksRow.veiledFits Try.prog Try.f12.params.toList (Try.f12.params.toList ++ Rows.feedPeaksSpec.plain.varTypes Try.prog ++ Try.f12.resultTypes.toList) = true := by kernel_rfl
theorem X3 {a b : Bool} (ha : a = true) (hb : b = true) : (a && b) = true := by subst ha; subst hb; rfl
theorem closed : joinedFacts Try.prog 12 Try.f12 Rows.feedPeaksSpec Rows.feedPeaksRow = true := (X3 (X3 (X3 (X3 (X3 (X3 (X3 (X3 (X3 (X3 (X3 (X3 (X3 (X3 (X3 (X3 (X3 (X3 (X3 (X3 (X3 (X3 (X3 (X3 (X3 (X3 (X3 (X3 (X3 (X3 (X3 QBy QBz) QCk) QCv) QCy) QCz) QDa) QDb) QDc) QDd) QCa) QCb) QCc) QCd) QCe) QCf) QCg) QCh) QCi) QCj) QCl) QCm) QCn) QCo) QCp) QCq) QCr) QCs) QCt) QCu) QCw) QCx)
theorem lifted (os : Os) (started : os.Started) (H : Type) (enc : TypeId × Value → H) :
    ReturnsInLeavingWide {} Try.checked os 12 .any (Rows.feedPeaksSpec.pre6 enc Try.prog Try.f12 Rows.feedPeaksRow.domain false) (Rows.feedPeaksSpec.post enc Try.prog Try.f12 false true false false) := by
  refine returnsInLeavingWide_of_change_sized (C := Try.checked) own started Try.func12
    (ChangeSpec.witness6 (enc := enc) (C := Try.checked) false ⟨#[], #[.agg #[.slice none 0 0, .slice none 0 0, .slice none 0 0], .slice none 0 0, .int .i64 0], []⟩ 8 (by kernel_rfl) (by kernel_rfl) (by kernel_rfl) (by kernel_rfl)) ?_
  intro W base args ds gs before hval hW _ _ _
  exact QAo H enc W base args ds gs before hval hW
theorem said : Rows.FeedPeaksSaid :=
  OpenClaim.holds_of_wide_leaving 12 Try.f12 rfl rfl rfl rfl rfl rfl rfl ⟨rfl, rfl, rfl, rfl, rfl⟩ rfl rfl rfl rfl rfl (by kernel_rfl) Try.func12 closed
    (of_decide_eq_true (by kernel_rfl)) (by unfold Func.isWrapper; first | (rw [if_pos (by decide +kernel)]; kernel_rfl) | (rw [if_neg (by decide +kernel)]; exact ⟨rfl, rfl⟩))
    (fun os started H enc _ => lifted os started H enc)
#print axioms said
end Go.Proofs.Ytbplgfhjpeeieaa.feedPeaks
