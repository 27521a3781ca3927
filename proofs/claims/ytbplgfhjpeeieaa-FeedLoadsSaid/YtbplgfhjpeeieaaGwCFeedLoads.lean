/- The law FeedLoads answers true at every input, on every schedule, and leaves its arguments as they were. Condition: none beyond the row's own. -/
import Derived.Test.YtbplgfhjpeeieaaRows
import Derived.Test.YtbplgfhjpeeieaaGwOpens
import Derived.Test.YtbplgfhjpeeieaaGwPLoads
set_option linter.unusedVariables false
set_option linter.unusedSimpArgs false
set_option linter.unusedSectionVars false
set_option maxRecDepth 100000
namespace Go.Proofs.Ytbplgfhjpeeieaa.feedLoads
open Go Go.Gw Go.Conc Go.ChangeShapes Go.WideShapes Go.ChangeAt Go.RowKit
theorem own : ownKnob Try.prog.godebug = none := by kernel_rfl
theorem QFc : laidOutB Try.prog = true := by kernel_rfl
theorem Qum : Qdf Try.prog Try.f6.params.toList = true := by kernel_rfl
theorem Qzd (H : Type) (enc : TypeId × Value → H) (W : World) (base : Nat) (args : Array Value) (ds gs : List (DataW H)) (before : List MemPlace)
    (hval : ∀ (j : Nat) t v, Try.f6.params[j]? = some t → args[j]? = some v → Value.okWide Try.prog W .any base t v)
    (hW : DataW.Whole enc Try.prog Try.f6.params.toList Rows.feedLoadsSpec.vars false W args.toList ds gs before) :
    ∃ M last o w' t', runNT Try.prog (M + 1) (solo (G (Frame.enter Try.prog 6 args .normal) []) W) #[] = (.ended o w', t') ∧ runN Try.prog M (solo (G (Frame.enter Try.prog 6 args .normal) []) W) = .next last ∧
      step Try.prog last = .ended o w' ∧ Conc.Good Try.prog (fun v W' => Rows.feedLoadsSpec.post enc Try.prog Try.f6 false true false false W args v W') last o w' t' := by
  have hW' := hW
  obtain ⟨p, q, hA0, hV, rfl, hfz, hnd⟩ := hW
  have hA : DataW.TrodAll enc Try.prog W 0 (fun _ => true) true Try.f6.params.toList args.toList ds p := hA0
  rw [Try.params6] at hA hval
  obtain ⟨v0, vs0, d0, ds0, p0, q0, hargs, rfl, rfl, h0, r0⟩ := trodAll_cons hA
  obtain ⟨v1, vs1, d1, ds1, p1, q1, rfl, rfl, rfl, h1, r1⟩ := trodAll_cons r0
  obtain ⟨v2, vs2, d2, ds2, p2, q2, rfl, rfl, rfl, h2, r2⟩ := trodAll_cons r1
  obtain ⟨rfl, rfl, rfl⟩ := trodAll_nil r2
  obtain rfl : args = #[v0, v1, v2] := by cases args; simp_all
  obtain ⟨rfl, rfl⟩ := trodVars_none hV
  obtain ⟨cs0, x0, rfl, s0, w0⟩ := Qya QHw Try.underlying26 (hval 0 26 v0 rfl rfl) h0
  obtain ⟨x1, s1, w1⟩ := Qyc QHx Try.underlying29 (hval 1 29 v1 rfl rfl) h1
  obtain ⟨cs2, x2, rfl, s2, w2⟩ := Qyb QHz Try.underlying63 (hval 2 63 v2 rfl rfl) h2
  obtain ⟨M, last, o, w', t', h1, h2, h3, h4⟩ := QMw (QFd [] (Zq W) (LtL.nil _) cs0 x0 (Rep.step (Qmv W) s0) v1 x1 (s1.step (Qmv W)) cs2 x2 (Rep.step (Qmv W) s2) true (Qxm x0 x1 x2))
  refine ⟨M, last, o, w', t', h1, h2, h3, h4.mono fun v hp => ?_⟩
  obtain ⟨rfl, hx⟩ := hp
  exact QFi QFc Qum hW' rfl rfl rfl rfl rfl Try.underlying4 hx
theorem QAl : Rows.feedLoadsRow.wf (OpenSpec.ofChange Rows.feedLoadsSpec) = true := by kernel_rfl
theorem QAm : laidOutB Try.prog = true := by kernel_rfl
theorem QAx : mapsRowed Try.prog = true := by kernel_rfl
theorem QBi : Try.f6.params.all (Try.prog.readableRec ·) = true := by kernel_rfl
theorem QBl : namedTie Try.prog Rows.feedLoadsRow.named Rows.feedLoadsSpec.vars = true := by kernel_rfl
theorem QBm : (Rows.feedLoadsRow.stops == []) = true := by kernel_rfl
theorem QBn : (Try.prog.stops == []) = true := by kernel_rfl
theorem QBo : (Rows.feedLoadsRow.knobs == []) = true := by kernel_rfl
theorem QBp : (Try.prog.stopKnobs == []) = true := by kernel_rfl
theorem QBq : (Rows.feedLoadsRow.inPlace == Try.prog.inPlace 6) = true := by kernel_rfl
theorem QAn : (Rows.feedLoadsRow.unfollowed == Try.prog.unfollowed 6) = true := by kernel_rfl
theorem QAo : (Rows.feedLoadsRow.recurses == Try.prog.recurses 6) = true := by kernel_rfl
theorem QAp : (Rows.feedLoadsRow.named == Try.prog.varsNamed 6) = true := by kernel_rfl
theorem QAq : (Rows.feedLoadsRow.maps == (Try.f6.params.toList ++ Rows.feedLoadsSpec.plain.varTypes Try.prog).any (Try.prog.mapsRec ·)) = true := by kernel_rfl
theorem QAr : (Rows.feedLoadsRow.ifaces == (Try.f6.params.toList ++ Rows.feedLoadsSpec.plain.varTypes Try.prog).any (Try.prog.ifacesRec ·)) = true := by kernel_rfl
theorem QAs : (Rows.feedLoadsRow.mapsOut == Try.prog.mapsAmong Try.f6.resultTypes.toList) = true := by kernel_rfl
theorem QAt : (Rows.feedLoadsRow.loops == (Try.f6.params.toList ++ Rows.feedLoadsSpec.plain.varTypes Try.prog).any (Try.prog.loopsFrom ·)) = true := by kernel_rfl
theorem QAu : (Rows.feedLoadsRow.wideKeys == (Try.f6.params.toList ++ Rows.feedLoadsSpec.plain.varTypes Try.prog ++ Try.f6.resultTypes.toList).any (Try.prog.wideKeysFrom ·)) = true := by kernel_rfl
theorem QAv : Rows.feedLoadsSpec.vars.all (Try.prog.varReadable ·) = true := by kernel_rfl
theorem QAw : Try.f6.resultTypes.all (fun t => Try.prog.readableRec t && decide (t < Try.prog.types.size)) = true := by kernel_rfl
theorem QAy : (Rows.feedLoadsRow.ifacesOut == Try.f6.resultTypes.toList.any (Try.prog.ifacesRec ·)) = true := by kernel_rfl
theorem QAz : (Rows.feedLoadsRow.loopsOut == Try.f6.resultTypes.toList.any (Try.prog.loopsFrom ·)) = true := by kernel_rfl
theorem QBa : (Rows.feedLoadsRow.plainKeys == Try.prog.plainKeys) = true := by kernel_rfl
theorem QBb : Rows.feedLoadsRow.shortTexts.isNone = true := by kernel_rfl
theorem QBc : Try.prog.stopsHeard = true := by kernel_rfl
theorem QBd : Try.prog.mayEnter = true := by kernel_rfl
theorem QBe : (Rows.feedLoadsRow.lifted == Try.prog.liftsFinal) = true := by kernel_rfl
theorem QBf : (Try.prog.make == some Rows.feedLoadsRow.make) = true := by kernel_rfl
theorem QBg : (Rows.feedLoadsRow.kinds == (if Rows.feedLoadsRow.domain.isEmpty then [] else Try.f6.params.toList.map fun t => match Try.prog.underlying t with | some (.int k) => some k | _ => none)) = true := by kernel_rfl
theorem QBh : (Rows.feedLoadsRow.pinned == Rows.feedLoadsRow.pinnedBy) = true := by kernel_rfl
theorem QBj : (Rows.feedLoadsRow.veiled == (Try.f6.params.toList ++ Rows.feedLoadsSpec.plain.varTypes Try.prog ++ Try.f6.resultTypes.toList).any (Try.prog.veiledRec ·)) = true := by kernel_rfl
theorem QBk : Rows.feedLoadsRow.veiledFits Try.prog Try.f6.params.toList (Try.f6.params.toList ++ Rows.feedLoadsSpec.plain.varTypes Try.prog ++ Try.f6.resultTypes.toList) = true := by kernel_rfl
theorem XY {a b : Bool} (ha : a = true) (hb : b = true) : (a && b) = true := by subst ha; subst hb; rfl
theorem closed : joinedFacts Try.prog 6 Try.f6 Rows.feedLoadsSpec Rows.feedLoadsRow = true := (XY (XY (XY (XY (XY (XY (XY (XY (XY (XY (XY (XY (XY (XY (XY (XY (XY (XY (XY (XY (XY (XY (XY (XY (XY (XY (XY (XY (XY (XY (XY QAl QAm) QAx) QBi) QBl) QBm) QBn) QBo) QBp) QBq) QAn) QAo) QAp) QAq) QAr) QAs) QAt) QAu) QAv) QAw) QAy) QAz) QBa) QBb) QBc) QBd) QBe) QBf) QBg) QBh) QBj) QBk)
theorem lifted (os : Os) (started : os.Started) (H : Type) (enc : TypeId × Value → H) :
    ReturnsInLeavingWide {} Try.checked os 6 .any (Rows.feedLoadsSpec.pre6 enc Try.prog Try.f6 Rows.feedLoadsRow.domain false) (Rows.feedLoadsSpec.post enc Try.prog Try.f6 false true false false) := by
  refine returnsInLeavingWide_of_change_sized (C := Try.checked) own started Try.func6
    (ChangeSpec.witness6 (enc := enc) (C := Try.checked) false ⟨#[], #[.agg #[.slice none 0 0, .slice none 0 0, .slice none 0 0], .slice none 0 0, .agg #[.int .i64 0, .int .i64 0]], []⟩ 8 (by kernel_rfl) (by kernel_rfl) (by kernel_rfl) (by kernel_rfl)) ?_
  intro W base args ds gs before hval hW _ _ _
  exact Qzd H enc W base args ds gs before hval hW
theorem said : Rows.FeedLoadsSaid :=
  OpenClaim.holds_of_wide_leaving 6 Try.f6 rfl rfl rfl rfl rfl rfl rfl ⟨rfl, rfl, rfl, rfl, rfl⟩ rfl rfl rfl rfl rfl (by kernel_rfl) Try.func6 closed
    (of_decide_eq_true (by kernel_rfl)) (by unfold Func.isWrapper; first | (rw [if_pos (by decide +kernel)]; kernel_rfl) | (rw [if_neg (by decide +kernel)]; exact ⟨rfl, rfl⟩))
    (fun os started H enc _ => lifted os started H enc)
#print axioms said
end Go.Proofs.Ytbplgfhjpeeieaa.feedLoads
