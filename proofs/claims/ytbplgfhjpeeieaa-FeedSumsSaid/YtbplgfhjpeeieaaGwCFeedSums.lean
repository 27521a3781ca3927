/- The law FeedSums answers true at every input, on every schedule, and leaves its arguments as they were. Condition: none beyond the row's own. -/
import Derived.Test.YtbplgfhjpeeieaaRows
import Derived.Test.YtbplgfhjpeeieaaGwOpens
import Derived.Test.YtbplgfhjpeeieaaGwPSums
set_option linter.unusedVariables false
set_option linter.unusedSimpArgs false
set_option linter.unusedSectionVars false
set_option maxRecDepth 100000
namespace Go.Proofs.Ytbplgfhjpeeieaa.feedSums
open Go Go.Gw Go.Conc Go.ChangeShapes Go.WideShapes Go.ChangeAt Go.RowKit
theorem own : ownKnob Try.prog.godebug = none := by kernel_rfl
theorem QFy : laidOutB Try.prog = true := by kernel_rfl
theorem Qva : Qdw Try.prog Try.f7.params.toList = true := by kernel_rfl
theorem Qzv (H : Type) (enc : TypeId × Value → H) (W : World) (base : Nat) (args : Array Value) (ds gs : List (DataW H)) (before : List MemPlace)
    (hval : ∀ (j : Nat) t v, Try.f7.params[j]? = some t → args[j]? = some v → Value.okWide Try.prog W .any base t v)
    (hW : DataW.Whole enc Try.prog Try.f7.params.toList Rows.feedSumsSpec.vars false W args.toList ds gs before) :
    ∃ M last o w' t', runNT Try.prog (M + 1) (solo (G (Frame.enter Try.prog 7 args .normal) []) W) #[] = (.ended o w', t') ∧ runN Try.prog M (solo (G (Frame.enter Try.prog 7 args .normal) []) W) = .next last ∧
      step Try.prog last = .ended o w' ∧ Conc.Good Try.prog (fun v W' => Rows.feedSumsSpec.post enc Try.prog Try.f7 false true false false W args v W') last o w' t' := by
  have hW' := hW
  obtain ⟨p, q, hA0, hV, rfl, hfz, hnd⟩ := hW
  have hA : DataW.TrodAll enc Try.prog W 0 (fun _ => true) true Try.f7.params.toList args.toList ds p := hA0
  rw [Try.params7] at hA hval
  obtain ⟨v0, vs0, d0, ds0, p0, q0, hargs, rfl, rfl, h0, r0⟩ := trodAll_cons hA
  obtain ⟨v1, vs1, d1, ds1, p1, q1, rfl, rfl, rfl, h1, r1⟩ := trodAll_cons r0
  obtain ⟨v2, vs2, d2, ds2, p2, q2, rfl, rfl, rfl, h2, r2⟩ := trodAll_cons r1
  obtain ⟨rfl, rfl, rfl⟩ := trodAll_nil r2
  obtain rfl : args = #[v0, v1, v2] := by cases args; simp_all
  obtain ⟨rfl, rfl⟩ := trodVars_none hV
  obtain ⟨cs0, x0, rfl, s0, w0⟩ := Qyr QIt Try.underlying26 (hval 0 26 v0 rfl rfl) h0
  obtain ⟨x1, s1, w1⟩ := Qyt QIu Try.underlying29 (hval 1 29 v1 rfl rfl) h1
  obtain ⟨x2, rfl, w2⟩ := Qys Try.underlying3 (hval 2 3 v2 rfl rfl) h2
  obtain ⟨M, last, o, w', t', h1, h2, h3, h4⟩ := QNl (QFz [] (ZC W) (LtL.nil _) cs0 x0 (Rep.step (Qxr W) s0) v1 x1 (s1.step (Qxr W)) x2 true (Qyd x0 x1 x2))
  refine ⟨M, last, o, w', t', h1, h2, h3, h4.mono fun v hp => ?_⟩
  obtain ⟨rfl, hx⟩ := hp
  exact QGe QFy Qva hW' rfl rfl rfl rfl rfl Try.underlying4 hx
theorem QBf : Rows.feedSumsRow.wf (OpenSpec.ofChange Rows.feedSumsSpec) = true := by kernel_rfl
theorem QBg : laidOutB Try.prog = true := by kernel_rfl
theorem QBr : mapsRowed Try.prog = true := by kernel_rfl
theorem QCc : Try.f7.params.all (Try.prog.readableRec ·) = true := by kernel_rfl
theorem QCf : namedTie Try.prog Rows.feedSumsRow.named Rows.feedSumsSpec.vars = true := by kernel_rfl
theorem QCg : (Rows.feedSumsRow.stops == []) = true := by kernel_rfl
theorem QCh : (Try.prog.stops == []) = true := by kernel_rfl
theorem QCi : (Rows.feedSumsRow.knobs == []) = true := by kernel_rfl
theorem QCj : (Try.prog.stopKnobs == []) = true := by kernel_rfl
theorem QCk : (Rows.feedSumsRow.inPlace == Try.prog.inPlace 7) = true := by kernel_rfl
theorem QBh : (Rows.feedSumsRow.unfollowed == Try.prog.unfollowed 7) = true := by kernel_rfl
theorem QBi : (Rows.feedSumsRow.recurses == Try.prog.recurses 7) = true := by kernel_rfl
theorem QBj : (Rows.feedSumsRow.named == Try.prog.varsNamed 7) = true := by kernel_rfl
theorem QBk : (Rows.feedSumsRow.maps == (Try.f7.params.toList ++ Rows.feedSumsSpec.plain.varTypes Try.prog).any (Try.prog.mapsRec ·)) = true := by kernel_rfl
theorem QBl : (Rows.feedSumsRow.ifaces == (Try.f7.params.toList ++ Rows.feedSumsSpec.plain.varTypes Try.prog).any (Try.prog.ifacesRec ·)) = true := by kernel_rfl
theorem QBm : (Rows.feedSumsRow.mapsOut == Try.prog.mapsAmong Try.f7.resultTypes.toList) = true := by kernel_rfl
theorem QBn : (Rows.feedSumsRow.loops == (Try.f7.params.toList ++ Rows.feedSumsSpec.plain.varTypes Try.prog).any (Try.prog.loopsFrom ·)) = true := by kernel_rfl
theorem QBo : (Rows.feedSumsRow.wideKeys == (Try.f7.params.toList ++ Rows.feedSumsSpec.plain.varTypes Try.prog ++ Try.f7.resultTypes.toList).any (Try.prog.wideKeysFrom ·)) = true := by kernel_rfl
theorem QBp : Rows.feedSumsSpec.vars.all (Try.prog.varReadable ·) = true := by kernel_rfl
theorem QBq : Try.f7.resultTypes.all (fun t => Try.prog.readableRec t && decide (t < Try.prog.types.size)) = true := by kernel_rfl
theorem QBs : (Rows.feedSumsRow.ifacesOut == Try.f7.resultTypes.toList.any (Try.prog.ifacesRec ·)) = true := by kernel_rfl
theorem QBt : (Rows.feedSumsRow.loopsOut == Try.f7.resultTypes.toList.any (Try.prog.loopsFrom ·)) = true := by kernel_rfl
theorem QBu : (Rows.feedSumsRow.plainKeys == Try.prog.plainKeys) = true := by kernel_rfl
theorem QBv : Rows.feedSumsRow.shortTexts.isNone = true := by kernel_rfl
theorem QBw : Try.prog.stopsHeard = true := by kernel_rfl
theorem QBx : Try.prog.mayEnter = true := by kernel_rfl
theorem QBy : (Rows.feedSumsRow.lifted == Try.prog.liftsFinal) = true := by kernel_rfl
theorem QBz : (Try.prog.make == some Rows.feedSumsRow.make) = true := by kernel_rfl
theorem QCa : (Rows.feedSumsRow.kinds == (if Rows.feedSumsRow.domain.isEmpty then [] else Try.f7.params.toList.map fun t => match Try.prog.underlying t with | some (.int k) => some k | _ => none)) = true := by kernel_rfl
theorem QCb : (Rows.feedSumsRow.pinned == Rows.feedSumsRow.pinnedBy) = true := by kernel_rfl
theorem QCd : (Rows.feedSumsRow.veiled == (Try.f7.params.toList ++ Rows.feedSumsSpec.plain.varTypes Try.prog ++ Try.f7.resultTypes.toList).any (Try.prog.veiledRec ·)) = true := by kernel_rfl
theorem QCe : Rows.feedSumsRow.veiledFits Try.prog Try.f7.params.toList (Try.f7.params.toList ++ Rows.feedSumsSpec.plain.varTypes Try.prog ++ Try.f7.resultTypes.toList) = true := by kernel_rfl
theorem X1 {a b : Bool} (ha : a = true) (hb : b = true) : (a && b) = true := by subst ha; subst hb; rfl
theorem closed : joinedFacts Try.prog 7 Try.f7 Rows.feedSumsSpec Rows.feedSumsRow = true := (X1 (X1 (X1 (X1 (X1 (X1 (X1 (X1 (X1 (X1 (X1 (X1 (X1 (X1 (X1 (X1 (X1 (X1 (X1 (X1 (X1 (X1 (X1 (X1 (X1 (X1 (X1 (X1 (X1 (X1 (X1 QBf QBg) QBr) QCc) QCf) QCg) QCh) QCi) QCj) QCk) QBh) QBi) QBj) QBk) QBl) QBm) QBn) QBo) QBp) QBq) QBs) QBt) QBu) QBv) QBw) QBx) QBy) QBz) QCa) QCb) QCd) QCe)
theorem lifted (os : Os) (started : os.Started) (H : Type) (enc : TypeId × Value → H) :
    ReturnsInLeavingWide {} Try.checked os 7 .any (Rows.feedSumsSpec.pre6 enc Try.prog Try.f7 Rows.feedSumsRow.domain false) (Rows.feedSumsSpec.post enc Try.prog Try.f7 false true false false) := by
  refine returnsInLeavingWide_of_change_sized (C := Try.checked) own started Try.func7
    (ChangeSpec.witness6 (enc := enc) (C := Try.checked) false ⟨#[], #[.agg #[.slice none 0 0, .slice none 0 0, .slice none 0 0], .slice none 0 0, .int .i64 0], []⟩ 8 (by kernel_rfl) (by kernel_rfl) (by kernel_rfl) (by kernel_rfl)) ?_
  intro W base args ds gs before hval hW _ _ _
  exact Qzv H enc W base args ds gs before hval hW
theorem said : Rows.FeedSumsSaid :=
  OpenClaim.holds_of_wide_leaving 7 Try.f7 rfl rfl rfl rfl rfl rfl rfl ⟨rfl, rfl, rfl, rfl, rfl⟩ rfl rfl rfl rfl rfl (by kernel_rfl) Try.func7 closed
    (of_decide_eq_true (by kernel_rfl)) (by unfold Func.isWrapper; first | (rw [if_pos (by decide +kernel)]; kernel_rfl) | (rw [if_neg (by decide +kernel)]; exact ⟨rfl, rfl⟩))
    (fun os started H enc _ => lifted os started H enc)
#print axioms said
end Go.Proofs.Ytbplgfhjpeeieaa.feedSums
