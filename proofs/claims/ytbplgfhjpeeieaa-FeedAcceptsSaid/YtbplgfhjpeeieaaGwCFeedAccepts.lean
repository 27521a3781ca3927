/- The law FeedAccepts answers true at every input, on every schedule, and leaves its arguments as they were. Condition: none beyond the row's own. -/
import Derived.Test.YtbplgfhjpeeieaaRows
import Derived.Test.YtbplgfhjpeeieaaGwOpens
import Derived.Test.YtbplgfhjpeeieaaGwPAccepts
set_option linter.unusedVariables false
set_option linter.unusedSimpArgs false
set_option linter.unusedSectionVars false
set_option maxRecDepth 100000
namespace Go.Proofs.Ytbplgfhjpeeieaa.feedAccepts
open Go Go.Gw Go.Conc Go.ChangeShapes Go.WideShapes Go.ChangeAt Go.RowKit
theorem own : ownKnob Try.prog.godebug = none := by kernel_rfl
theorem QGk : laidOutB Try.prog = true := by kernel_rfl
theorem Qvx : Qen Try.prog Try.f13.params.toList = true := by kernel_rfl
theorem QAn (H : Type) (enc : TypeId × Value → H) (W : World) (base : Nat) (args : Array Value) (ds gs : List (DataW H)) (before : List MemPlace)
    (hval : ∀ (j : Nat) t v, Try.f13.params[j]? = some t → args[j]? = some v → Value.okWide Try.prog W .any base t v)
    (hW : DataW.Whole enc Try.prog Try.f13.params.toList Rows.feedAcceptsSpec.vars false W args.toList ds gs before) :
    ∃ M last o w' t', runNT Try.prog (M + 1) (solo (G (Frame.enter Try.prog 13 args .normal) []) W) #[] = (.ended o w', t') ∧ runN Try.prog M (solo (G (Frame.enter Try.prog 13 args .normal) []) W) = .next last ∧
      step Try.prog last = .ended o w' ∧ Conc.Good Try.prog (fun v W' => Rows.feedAcceptsSpec.post enc Try.prog Try.f13 false true false false W args v W') last o w' t' := by
  have hW' := hW
  obtain ⟨p, q, hA0, hV, rfl, hfz, hnd⟩ := hW
  have hA : DataW.TrodAll enc Try.prog W 0 (fun _ => true) true Try.f13.params.toList args.toList ds p := hA0
  rw [Try.params13] at hA hval
  obtain ⟨v0, vs0, d0, ds0, p0, q0, hargs, rfl, rfl, h0, r0⟩ := trodAll_cons hA
  obtain ⟨v1, vs1, d1, ds1, p1, q1, rfl, rfl, rfl, h1, r1⟩ := trodAll_cons r0
  obtain ⟨v2, vs2, d2, ds2, p2, q2, rfl, rfl, rfl, h2, r2⟩ := trodAll_cons r1
  obtain ⟨rfl, rfl, rfl⟩ := trodAll_nil r2
  obtain rfl : args = #[v0, v1, v2] := by cases args; simp_all
  obtain ⟨rfl, rfl⟩ := trodVars_none hV
  obtain ⟨cs0, x0, rfl, s0, w0⟩ := Qoo QJk Try.underlying26 (hval 0 26 v0 rfl rfl) h0
  obtain ⟨x1, s1, w1⟩ := Qzl QJl Try.underlying29 (hval 1 29 v1 rfl rfl) h1
  obtain ⟨cs2, x2, rfl, s2, w2⟩ := Qoo Qvd Try.underlying62 (hval 2 62 v2 rfl rfl) h2
  obtain ⟨M, last, o, w', t', h1, h2, h3, h4⟩ := QOn (QGl [] (ZB W) (LtL.nil _) cs0 x0 (Rep.step (Qod W) s0) v1 x1 (s1.step (Qod W)) cs2 x2 (Rep.step (Qod W) s2) true (Qyx x0 x1 x2))
  refine ⟨M, last, o, w', t', h1, h2, h3, h4.mono fun v hp => ?_⟩
  obtain ⟨rfl, hx⟩ := hp
  exact QGq QGk Qvx hW' rfl rfl rfl rfl rfl Try.underlying4 hx
theorem QBu : Rows.feedAcceptsRow.wf (OpenSpec.ofChange Rows.feedAcceptsSpec) = true := by kernel_rfl
theorem QBv : laidOutB Try.prog = true := by kernel_rfl
theorem QCg : mapsRowed Try.prog = true := by kernel_rfl
theorem QCr : Try.f13.params.all (Try.prog.readableRec ·) = true := by kernel_rfl
theorem QCu : namedTie Try.prog Rows.feedAcceptsRow.named Rows.feedAcceptsSpec.vars = true := by kernel_rfl
theorem QCv : (Rows.feedAcceptsRow.stops == []) = true := by kernel_rfl
theorem QCw : (Try.prog.stops == []) = true := by kernel_rfl
theorem QCx : (Rows.feedAcceptsRow.knobs == []) = true := by kernel_rfl
theorem QCy : (Try.prog.stopKnobs == []) = true := by kernel_rfl
theorem QCz : (Rows.feedAcceptsRow.inPlace == Try.prog.inPlace 13) = true := by kernel_rfl
theorem QBw : (Rows.feedAcceptsRow.unfollowed == Try.prog.unfollowed 13) = true := by kernel_rfl
theorem QBx : (Rows.feedAcceptsRow.recurses == Try.prog.recurses 13) = true := by kernel_rfl
theorem QBy : (Rows.feedAcceptsRow.named == Try.prog.varsNamed 13) = true := by kernel_rfl
theorem QBz : (Rows.feedAcceptsRow.maps == (Try.f13.params.toList ++ Rows.feedAcceptsSpec.plain.varTypes Try.prog).any (Try.prog.mapsRec ·)) = true := by kernel_rfl
theorem QCa : (Rows.feedAcceptsRow.ifaces == (Try.f13.params.toList ++ Rows.feedAcceptsSpec.plain.varTypes Try.prog).any (Try.prog.ifacesRec ·)) = true := by kernel_rfl
theorem QCb : (Rows.feedAcceptsRow.mapsOut == Try.prog.mapsAmong Try.f13.resultTypes.toList) = true := by kernel_rfl
theorem QCc : (Rows.feedAcceptsRow.loops == (Try.f13.params.toList ++ Rows.feedAcceptsSpec.plain.varTypes Try.prog).any (Try.prog.loopsFrom ·)) = true := by kernel_rfl
theorem QCd : (Rows.feedAcceptsRow.wideKeys == (Try.f13.params.toList ++ Rows.feedAcceptsSpec.plain.varTypes Try.prog ++ Try.f13.resultTypes.toList).any (Try.prog.wideKeysFrom ·)) = true := by kernel_rfl
theorem QCe : Rows.feedAcceptsSpec.vars.all (Try.prog.varReadable ·) = true := by kernel_rfl
theorem QCf : Try.f13.resultTypes.all (fun t => Try.prog.readableRec t && decide (t < Try.prog.types.size)) = true := by kernel_rfl
theorem QCh : (Rows.feedAcceptsRow.ifacesOut == Try.f13.resultTypes.toList.any (Try.prog.ifacesRec ·)) = true := by kernel_rfl
theorem QCi : (Rows.feedAcceptsRow.loopsOut == Try.f13.resultTypes.toList.any (Try.prog.loopsFrom ·)) = true := by kernel_rfl
theorem QCj : (Rows.feedAcceptsRow.plainKeys == Try.prog.plainKeys) = true := by kernel_rfl
theorem QCk : Rows.feedAcceptsRow.shortTexts.isNone = true := by kernel_rfl
theorem QCl : Try.prog.stopsHeard = true := by kernel_rfl
theorem QCm : Try.prog.mayEnter = true := by kernel_rfl
theorem QCn : (Rows.feedAcceptsRow.lifted == Try.prog.liftsFinal) = true := by kernel_rfl
theorem QCo : (Try.prog.make == some Rows.feedAcceptsRow.make) = true := by kernel_rfl
theorem QCp : (Rows.feedAcceptsRow.kinds == (if Rows.feedAcceptsRow.domain.isEmpty then [] else Try.f13.params.toList.map fun t => match Try.prog.underlying t with | some (.int k) => some k | _ => none)) = true := by kernel_rfl
theorem QCq : (Rows.feedAcceptsRow.pinned == Rows.feedAcceptsRow.pinnedBy) = true := by kernel_rfl
theorem QCs : (Rows.feedAcceptsRow.veiled == (Try.f13.params.toList ++ Rows.feedAcceptsSpec.plain.varTypes Try.prog ++ Try.f13.resultTypes.toList).any (Try.prog.veiledRec ·)) = true := by kernel_rfl
theorem QCt : Rows.feedAcceptsRow.veiledFits Try.prog Try.f13.params.toList (Try.f13.params.toList ++ Rows.feedAcceptsSpec.plain.varTypes Try.prog ++ Try.f13.resultTypes.toList) = true := by kernel_rfl
theorem X4 {a b : Bool} (ha : a = true) (hb : b = true) : (a && b) = true := by subst ha; subst hb; rfl
theorem closed : joinedFacts Try.prog 13 Try.f13 Rows.feedAcceptsSpec Rows.feedAcceptsRow = true := (X4 (X4 (X4 (X4 (X4 (X4 (X4 (X4 (X4 (X4 (X4 (X4 (X4 (X4 (X4 (X4 (X4 (X4 (X4 (X4 (X4 (X4 (X4 (X4 (X4 (X4 (X4 (X4 (X4 (X4 (X4 QBu QBv) QCg) QCr) QCu) QCv) QCw) QCx) QCy) QCz) QBw) QBx) QBy) QBz) QCa) QCb) QCc) QCd) QCe) QCf) QCh) QCi) QCj) QCk) QCl) QCm) QCn) QCo) QCp) QCq) QCs) QCt)
theorem lifted (os : Os) (started : os.Started) (H : Type) (enc : TypeId × Value → H) :
    ReturnsInLeavingWide {} Try.checked os 13 .any (Rows.feedAcceptsSpec.pre6 enc Try.prog Try.f13 Rows.feedAcceptsRow.domain false) (Rows.feedAcceptsSpec.post enc Try.prog Try.f13 false true false false) := by
  refine returnsInLeavingWide_of_change_sized (C := Try.checked) own started Try.func13
    (ChangeSpec.witness6 (enc := enc) (C := Try.checked) false ⟨#[], #[.agg #[.slice none 0 0, .slice none 0 0, .slice none 0 0], .slice none 0 0, .agg #[.string ⟨#[]⟩, .int .i64 0]], []⟩ 8 (by kernel_rfl) (by kernel_rfl) (by kernel_rfl) (by kernel_rfl)) ?_
  intro W base args ds gs before hval hW _ _ _
  exact QAn H enc W base args ds gs before hval hW
theorem said : Rows.FeedAcceptsSaid :=
  OpenClaim.holds_of_wide_leaving 13 Try.f13 rfl rfl rfl rfl rfl rfl rfl ⟨rfl, rfl, rfl, rfl, rfl⟩ rfl rfl rfl rfl rfl (by kernel_rfl) Try.func13 closed
    (of_decide_eq_true (by kernel_rfl)) (by unfold Func.isWrapper; first | (rw [if_pos (by decide +kernel)]; kernel_rfl) | (rw [if_neg (by decide +kernel)]; exact ⟨rfl, rfl⟩))
    (fun os started H enc _ => lifted os started H enc)
#print axioms said
end Go.Proofs.Ytbplgfhjpeeieaa.feedAccepts
