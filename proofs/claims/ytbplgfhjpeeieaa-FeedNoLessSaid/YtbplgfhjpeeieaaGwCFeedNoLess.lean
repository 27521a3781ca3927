/- The law FeedNoLess answers true at every input, on every schedule, and leaves its arguments as they were. Condition: none beyond the row's own. -/
import Derived.Test.YtbplgfhjpeeieaaRows
import Derived.Test.YtbplgfhjpeeieaaGwOpens
import Derived.Test.YtbplgfhjpeeieaaGwPNoLess
set_option linter.unusedVariables false
set_option linter.unusedSimpArgs false
set_option linter.unusedSectionVars false
set_option maxRecDepth 100000
namespace Go.Proofs.Ytbplgfhjpeeieaa.feedNoLess
open Go Go.Gw Go.Conc Go.ChangeShapes Go.WideShapes Go.ChangeAt Go.RowKit
theorem own : ownKnob Try.prog.godebug = none := by kernel_rfl
theorem QJj : laidOutB Try.prog = true := by kernel_rfl
theorem Qyb : Qfr Try.prog Try.f14.params.toList = true := by kernel_rfl
theorem QCy (H : Type) (enc : TypeId × Value → H) (W : World) (base : Nat) (args : Array Value) (ds gs : List (DataW H)) (before : List MemPlace)
    (hval : ∀ (j : Nat) t v, Try.f14.params[j]? = some t → args[j]? = some v → Value.okWide Try.prog W .any base t v)
    (hW : DataW.Whole enc Try.prog Try.f14.params.toList Rows.feedNoLessSpec.vars false W args.toList ds gs before) :
    ∃ M last o w' t', runNT Try.prog (M + 1) (solo (G (Frame.enter Try.prog 14 args .normal) []) W) #[] = (.ended o w', t') ∧ runN Try.prog M (solo (G (Frame.enter Try.prog 14 args .normal) []) W) = .next last ∧
      step Try.prog last = .ended o w' ∧ Conc.Good Try.prog (fun v W' => Rows.feedNoLessSpec.post enc Try.prog Try.f14 false true false false W args v W') last o w' t' := by
  have hW' := hW
  obtain ⟨p, q, hA0, hV, rfl, hfz, hnd⟩ := hW
  have hA : DataW.TrodAll enc Try.prog W 0 (fun _ => true) true Try.f14.params.toList args.toList ds p := hA0
  rw [Try.params14] at hA hval
  obtain ⟨v0, vs0, d0, ds0, p0, q0, hargs, rfl, rfl, h0, r0⟩ := trodAll_cons hA
  obtain ⟨v1, vs1, d1, ds1, p1, q1, rfl, rfl, rfl, h1, r1⟩ := trodAll_cons r0
  obtain ⟨v2, vs2, d2, ds2, p2, q2, rfl, rfl, rfl, h2, r2⟩ := trodAll_cons r1
  obtain ⟨rfl, rfl, rfl⟩ := trodAll_nil r2
  obtain rfl : args = #[v0, v1, v2] := by cases args; simp_all
  obtain ⟨rfl, rfl⟩ := trodVars_none hV
  obtain ⟨cs0, x0, rfl, s0, w0⟩ := Qqe QMi Try.underlying26 (hval 0 26 v0 rfl rfl) h0
  obtain ⟨x1, s1, w1⟩ := QBu QMj Try.underlying52 (hval 1 52 v1 rfl rfl) h1
  obtain ⟨cs2, x2, rfl, s2, w2⟩ := Qqe QMe Try.underlying123 (hval 2 123 v2 rfl rfl) h2
  obtain ⟨M, last, o, w', t', h1, h2, h3, h4⟩ := QRa (QJk [] (ZV W) (LtL.nil _) cs0 x0 (Rep.step (Qpu W) s0) v1 x1 (s1.step (Qpu W)) cs2 x2 (Rep.step (Qpu W) s2) true (QBi x0 x1 x2))
  refine ⟨M, last, o, w', t', h1, h2, h3, h4.mono fun v hp => ?_⟩
  obtain ⟨rfl, hx⟩ := hp
  exact QJp QJj Qyb hW' rfl rfl rfl rfl rfl Try.underlying4 hx
theorem QEo : Rows.feedNoLessRow.wf (OpenSpec.ofChange Rows.feedNoLessSpec) = true := by kernel_rfl
theorem QEp : laidOutB Try.prog = true := by kernel_rfl
theorem QFa : mapsRowed Try.prog = true := by kernel_rfl
theorem QFl : Try.f14.params.all (Try.prog.readableRec ·) = true := by kernel_rfl
theorem QFo : namedTie Try.prog Rows.feedNoLessRow.named Rows.feedNoLessSpec.vars = true := by kernel_rfl
theorem QFp : (Rows.feedNoLessRow.stops == []) = true := by kernel_rfl
theorem QFq : (Try.prog.stops == []) = true := by kernel_rfl
theorem QFr : (Rows.feedNoLessRow.knobs == []) = true := by kernel_rfl
theorem QFs : (Try.prog.stopKnobs == []) = true := by kernel_rfl
theorem QFt : (Rows.feedNoLessRow.inPlace == Try.prog.inPlace 14) = true := by kernel_rfl
theorem QEq : (Rows.feedNoLessRow.unfollowed == Try.prog.unfollowed 14) = true := by kernel_rfl
theorem QEr : (Rows.feedNoLessRow.recurses == Try.prog.recurses 14) = true := by kernel_rfl
theorem QEs : (Rows.feedNoLessRow.named == Try.prog.varsNamed 14) = true := by kernel_rfl
theorem QEt : (Rows.feedNoLessRow.maps == (Try.f14.params.toList ++ Rows.feedNoLessSpec.plain.varTypes Try.prog).any (Try.prog.mapsRec ·)) = true := by kernel_rfl
theorem QEu : (Rows.feedNoLessRow.ifaces == (Try.f14.params.toList ++ Rows.feedNoLessSpec.plain.varTypes Try.prog).any (Try.prog.ifacesRec ·)) = true := by kernel_rfl
theorem QEv : (Rows.feedNoLessRow.mapsOut == Try.prog.mapsAmong Try.f14.resultTypes.toList) = true := by kernel_rfl
theorem QEw : (Rows.feedNoLessRow.loops == (Try.f14.params.toList ++ Rows.feedNoLessSpec.plain.varTypes Try.prog).any (Try.prog.loopsFrom ·)) = true := by kernel_rfl
theorem QEx : (Rows.feedNoLessRow.wideKeys == (Try.f14.params.toList ++ Rows.feedNoLessSpec.plain.varTypes Try.prog ++ Try.f14.resultTypes.toList).any (Try.prog.wideKeysFrom ·)) = true := by kernel_rfl
theorem QEy : Rows.feedNoLessSpec.vars.all (Try.prog.varReadable ·) = true := by kernel_rfl
theorem QEz : Try.f14.resultTypes.all (fun t => Try.prog.readableRec t && decide (t < Try.prog.types.size)) = true := by kernel_rfl
theorem QFb : (Rows.feedNoLessRow.ifacesOut == Try.f14.resultTypes.toList.any (Try.prog.ifacesRec ·)) = true := by kernel_rfl
theorem QFc : (Rows.feedNoLessRow.loopsOut == Try.f14.resultTypes.toList.any (Try.prog.loopsFrom ·)) = true := by kernel_rfl
theorem QFd : (Rows.feedNoLessRow.plainKeys == Try.prog.plainKeys) = true := by kernel_rfl
theorem QFe : Rows.feedNoLessRow.shortTexts.isNone = true := by kernel_rfl
theorem QFf : Try.prog.stopsHeard = true := by kernel_rfl
theorem QFg : Try.prog.mayEnter = true := by kernel_rfl
theorem QFh : (Rows.feedNoLessRow.lifted == Try.prog.liftsFinal) = true := by kernel_rfl
theorem QFi : (Try.prog.make == some Rows.feedNoLessRow.make) = true := by kernel_rfl
theorem QFj : (Rows.feedNoLessRow.kinds == (if Rows.feedNoLessRow.domain.isEmpty then [] else Try.f14.params.toList.map fun t => match Try.prog.underlying t with | some (.int k) => some k | _ => none)) = true := by kernel_rfl
theorem QFk : (Rows.feedNoLessRow.pinned == Rows.feedNoLessRow.pinnedBy) = true := by kernel_rfl
theorem QFm : (Rows.feedNoLessRow.veiled == (Try.f14.params.toList ++ Rows.feedNoLessSpec.plain.varTypes Try.prog ++ Try.f14.resultTypes.toList).any (Try.prog.veiledRec ·)) = true := by kernel_rfl
theorem QFn : Rows.feedNoLessRow.veiledFits Try.prog Try.f14.params.toList (Try.f14.params.toList ++ Rows.feedNoLessSpec.plain.varTypes Try.prog ++ Try.f14.resultTypes.toList) = true := by kernel_rfl
theorem Ya {a b : Bool} (ha : a = true) (hb : b = true) : (a && b) = true := by subst ha; subst hb; rfl
theorem closed : joinedFacts Try.prog 14 Try.f14 Rows.feedNoLessSpec Rows.feedNoLessRow = true := (Ya (Ya (Ya (Ya (Ya (Ya (Ya (Ya (Ya (Ya (Ya (Ya (Ya (Ya (Ya (Ya (Ya (Ya (Ya (Ya (Ya (Ya (Ya (Ya (Ya (Ya (Ya (Ya (Ya (Ya (Ya QEo QEp) QFa) QFl) QFo) QFp) QFq) QFr) QFs) QFt) QEq) QEr) QEs) QEt) QEu) QEv) QEw) QEx) QEy) QEz) QFb) QFc) QFd) QFe) QFf) QFg) QFh) QFi) QFj) QFk) QFm) QFn)
theorem lifted (os : Os) (started : os.Started) (H : Type) (enc : TypeId × Value → H) :
    ReturnsInLeavingWide {} Try.checked os 14 .any (Rows.feedNoLessSpec.pre6 enc Try.prog Try.f14 Rows.feedNoLessRow.domain false) (Rows.feedNoLessSpec.post enc Try.prog Try.f14 false true false false) := by
  refine returnsInLeavingWide_of_change_sized (C := Try.checked) own started Try.func14
    (ChangeSpec.witness6 (enc := enc) (C := Try.checked) false ⟨#[], #[.agg #[.slice none 0 0, .slice none 0 0, .slice none 0 0], .slice none 0 0, .agg #[.int .i64 0, .int .i64 0, .int .i64 0]], []⟩ 8 (by kernel_rfl) (by kernel_rfl) (by kernel_rfl) (by kernel_rfl)) ?_
  intro W base args ds gs before hval hW _ _ _
  exact QCy H enc W base args ds gs before hval hW
theorem said : Rows.FeedNoLessSaid :=
  OpenClaim.holds_of_wide_leaving 14 Try.f14 rfl rfl rfl rfl rfl rfl rfl ⟨rfl, rfl, rfl, rfl, rfl⟩ rfl rfl rfl rfl rfl (by kernel_rfl) Try.func14 closed
    (of_decide_eq_true (by kernel_rfl)) (by unfold Func.isWrapper; first | (rw [if_pos (by decide +kernel)]; kernel_rfl) | (rw [if_neg (by decide +kernel)]; exact ⟨rfl, rfl⟩))
    (fun os started H enc _ => lifted os started H enc)
#print axioms said
end Go.Proofs.Ytbplgfhjpeeieaa.feedNoLess
