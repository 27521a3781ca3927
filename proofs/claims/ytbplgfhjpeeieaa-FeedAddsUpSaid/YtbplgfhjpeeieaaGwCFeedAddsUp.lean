/- The law FeedAddsUp answers true at every input, on every schedule, and leaves its arguments as they were. Condition: none beyond the row's own. -/
import Derived.Test.YtbplgfhjpeeieaaRows
import Derived.Test.YtbplgfhjpeeieaaGwOpens
import Derived.Test.YtbplgfhjpeeieaaGwPAddsUp
set_option linter.unusedVariables false
set_option linter.unusedSimpArgs false
set_option linter.unusedSectionVars false
set_option maxRecDepth 100000
namespace Go.Proofs.Ytbplgfhjpeeieaa.feedAddsUp
open Go Go.Gw Go.Conc Go.ChangeShapes Go.WideShapes Go.ChangeAt Go.RowKit
theorem own : ownKnob Try.prog.godebug = none := by kernel_rfl
theorem QJk : laidOutB Try.prog = true := by kernel_rfl
theorem Qyl : Qfy Try.prog Try.f9.params.toList = true := by kernel_rfl
theorem QDp (H : Type) (enc : TypeId × Value → H) (W : World) (base : Nat) (args : Array Value) (ds gs : List (DataW H)) (before : List MemPlace)
    (hval : ∀ (j : Nat) t v, Try.f9.params[j]? = some t → args[j]? = some v → Value.okWide Try.prog W .any base t v)
    (hW : DataW.Whole enc Try.prog Try.f9.params.toList Rows.feedAddsUpSpec.vars false W args.toList ds gs before) :
    ∃ M last o w' t', runNT Try.prog (M + 1) (solo (G (Frame.enter Try.prog 9 args .normal) []) W) #[] = (.ended o w', t') ∧ runN Try.prog M (solo (G (Frame.enter Try.prog 9 args .normal) []) W) = .next last ∧
      step Try.prog last = .ended o w' ∧ Conc.Good Try.prog (fun v W' => Rows.feedAddsUpSpec.post enc Try.prog Try.f9 false true false false W args v W') last o w' t' := by
  have hW' := hW
  obtain ⟨p, q, hA0, hV, rfl, hfz, hnd⟩ := hW
  have hA : DataW.TrodAll enc Try.prog W 0 (fun _ => true) true Try.f9.params.toList args.toList ds p := hA0
  rw [Try.params9] at hA hval
  obtain ⟨v0, vs0, d0, ds0, p0, q0, hargs, rfl, rfl, h0, r0⟩ := trodAll_cons hA
  obtain ⟨v1, vs1, d1, ds1, p1, q1, rfl, rfl, rfl, h1, r1⟩ := trodAll_cons r0
  obtain ⟨v2, vs2, d2, ds2, p2, q2, rfl, rfl, rfl, h2, r2⟩ := trodAll_cons r1
  obtain ⟨rfl, rfl, rfl⟩ := trodAll_nil r2
  obtain rfl : args = #[v0, v1, v2] := by cases args; simp_all
  obtain ⟨rfl, rfl⟩ := trodVars_none hV
  obtain ⟨cs0, x0, rfl, s0, w0⟩ := QCi QLy Try.underlying26 (hval 0 26 v0 rfl rfl) h0
  obtain ⟨x1, s1, w1⟩ := QCk QLz Try.underlying29 (hval 1 29 v1 rfl rfl) h1
  obtain ⟨cs2, x2, rfl, s2, w2⟩ := QCj QMc Try.underlying90 (hval 2 90 v2 rfl rfl) h2
  obtain ⟨M, last, o, w', t', h1, h2, h3, h4⟩ := QQv (QJl [] (Jf W) (LtL.nil _) cs0 x0 (Rep.step (Qqh W) s0) v1 x1 (s1.step (Qqh W)) cs2 x2 (Rep.step (Qqh W) s2) true (QBv x0 x1 x2))
  refine ⟨M, last, o, w', t', h1, h2, h3, h4.mono fun v hp => ?_⟩
  obtain ⟨rfl, hx⟩ := hp
  exact QJq QJk Qyl hW' rfl rfl rfl rfl rfl Try.underlying4 hx
theorem QEu : Rows.feedAddsUpRow.wf (OpenSpec.ofChange Rows.feedAddsUpSpec) = true := by kernel_rfl
theorem QEv : laidOutB Try.prog = true := by kernel_rfl
theorem QFg : mapsRowed Try.prog = true := by kernel_rfl
theorem QFr : Try.f9.params.all (Try.prog.readableRec ·) = true := by kernel_rfl
theorem QFu : namedTie Try.prog Rows.feedAddsUpRow.named Rows.feedAddsUpSpec.vars = true := by kernel_rfl
theorem QFv : (Rows.feedAddsUpRow.stops == []) = true := by kernel_rfl
theorem QFw : (Try.prog.stops == []) = true := by kernel_rfl
theorem QFx : (Rows.feedAddsUpRow.knobs == []) = true := by kernel_rfl
theorem QFy : (Try.prog.stopKnobs == []) = true := by kernel_rfl
theorem QFz : (Rows.feedAddsUpRow.inPlace == Try.prog.inPlace 9) = true := by kernel_rfl
theorem QEw : (Rows.feedAddsUpRow.unfollowed == Try.prog.unfollowed 9) = true := by kernel_rfl
theorem QEx : (Rows.feedAddsUpRow.recurses == Try.prog.recurses 9) = true := by kernel_rfl
theorem QEy : (Rows.feedAddsUpRow.named == Try.prog.varsNamed 9) = true := by kernel_rfl
theorem QEz : (Rows.feedAddsUpRow.maps == (Try.f9.params.toList ++ Rows.feedAddsUpSpec.plain.varTypes Try.prog).any (Try.prog.mapsRec ·)) = true := by kernel_rfl
theorem QFa : (Rows.feedAddsUpRow.ifaces == (Try.f9.params.toList ++ Rows.feedAddsUpSpec.plain.varTypes Try.prog).any (Try.prog.ifacesRec ·)) = true := by kernel_rfl
theorem QFb : (Rows.feedAddsUpRow.mapsOut == Try.prog.mapsAmong Try.f9.resultTypes.toList) = true := by kernel_rfl
theorem QFc : (Rows.feedAddsUpRow.loops == (Try.f9.params.toList ++ Rows.feedAddsUpSpec.plain.varTypes Try.prog).any (Try.prog.loopsFrom ·)) = true := by kernel_rfl
theorem QFd : (Rows.feedAddsUpRow.wideKeys == (Try.f9.params.toList ++ Rows.feedAddsUpSpec.plain.varTypes Try.prog ++ Try.f9.resultTypes.toList).any (Try.prog.wideKeysFrom ·)) = true := by kernel_rfl
theorem QFe : Rows.feedAddsUpSpec.vars.all (Try.prog.varReadable ·) = true := by kernel_rfl
theorem QFf : Try.f9.resultTypes.all (fun t => Try.prog.readableRec t && decide (t < Try.prog.types.size)) = true := by kernel_rfl
theorem QFh : (Rows.feedAddsUpRow.ifacesOut == Try.f9.resultTypes.toList.any (Try.prog.ifacesRec ·)) = true := by kernel_rfl
theorem QFi : (Rows.feedAddsUpRow.loopsOut == Try.f9.resultTypes.toList.any (Try.prog.loopsFrom ·)) = true := by kernel_rfl
theorem QFj : (Rows.feedAddsUpRow.plainKeys == Try.prog.plainKeys) = true := by kernel_rfl
theorem QFk : Rows.feedAddsUpRow.shortTexts.isNone = true := by kernel_rfl
theorem QFl : Try.prog.stopsHeard = true := by kernel_rfl
theorem QFm : Try.prog.mayEnter = true := by kernel_rfl
theorem QFn : (Rows.feedAddsUpRow.lifted == Try.prog.liftsFinal) = true := by kernel_rfl
theorem QFo : (Try.prog.make == some Rows.feedAddsUpRow.make) = true := by kernel_rfl
theorem QFp : (Rows.feedAddsUpRow.kinds == (if Rows.feedAddsUpRow.domain.isEmpty then [] else Try.f9.params.toList.map fun t => match Try.prog.underlying t with | some (.int k) => some k | _ => none)) = true := by kernel_rfl
theorem QFq : (Rows.feedAddsUpRow.pinned == Rows.feedAddsUpRow.pinnedBy) = true := by kernel_rfl
theorem QFs : (Rows.feedAddsUpRow.veiled == (Try.f9.params.toList ++ Rows.feedAddsUpSpec.plain.varTypes Try.prog ++ Try.f9.resultTypes.toList).any (Try.prog.veiledRec ·)) = true := by kernel_rfl
theorem QFt : Rows.feedAddsUpRow.veiledFits Try.prog Try.f9.params.toList (Try.f9.params.toList ++ Rows.feedAddsUpSpec.plain.varTypes Try.prog ++ Try.f9.resultTypes.toList) = true := by kernel_rfl
theorem Ye {a b : Bool} (ha : a = true) (hb : b = true) : (a && b) = true := by subst ha; subst hb; rfl
theorem closed : joinedFacts Try.prog 9 Try.f9 Rows.feedAddsUpSpec Rows.feedAddsUpRow = true := (Ye (Ye (Ye (Ye (Ye (Ye (Ye (Ye (Ye (Ye (Ye (Ye (Ye (Ye (Ye (Ye (Ye (Ye (Ye (Ye (Ye (Ye (Ye (Ye (Ye (Ye (Ye (Ye (Ye (Ye (Ye QEu QEv) QFg) QFr) QFu) QFv) QFw) QFx) QFy) QFz) QEw) QEx) QEy) QEz) QFa) QFb) QFc) QFd) QFe) QFf) QFh) QFi) QFj) QFk) QFl) QFm) QFn) QFo) QFp) QFq) QFs) QFt)
theorem lifted (os : Os) (started : os.Started) (H : Type) (enc : TypeId × Value → H) :
    ReturnsInLeavingWide {} Try.checked os 9 .any (Rows.feedAddsUpSpec.pre6 enc Try.prog Try.f9 Rows.feedAddsUpRow.domain false) (Rows.feedAddsUpSpec.post enc Try.prog Try.f9 false true false false) := by
  refine returnsInLeavingWide_of_change_sized (C := Try.checked) own started Try.func9
    (ChangeSpec.witness6 (enc := enc) (C := Try.checked) false ⟨#[], #[.agg #[.slice none 0 0, .slice none 0 0, .slice none 0 0], .slice none 0 0, .agg #[.int .i64 0, .int .i64 0, .int .i64 0]], []⟩ 8 (by kernel_rfl) (by kernel_rfl) (by kernel_rfl) (by kernel_rfl)) ?_
  intro W base args ds gs before hval hW _ hwt _
  exact QDp H enc W base args ds gs before hval hW
theorem said : Rows.FeedAddsUpSaid :=
  OpenClaim.holds_of_wide_leaving 9 Try.f9 rfl rfl rfl rfl rfl rfl rfl ⟨rfl, rfl, rfl, rfl, rfl⟩ rfl rfl rfl rfl rfl (by kernel_rfl) Try.func9 closed
    (of_decide_eq_true (by kernel_rfl)) (by unfold Func.isWrapper; first | (rw [if_pos (by decide +kernel)]; kernel_rfl) | (rw [if_neg (by decide +kernel)]; exact ⟨rfl, rfl⟩))
    (fun os started H enc _ => lifted os started H enc)
#print axioms said
end Go.Proofs.Ytbplgfhjpeeieaa.feedAddsUp
