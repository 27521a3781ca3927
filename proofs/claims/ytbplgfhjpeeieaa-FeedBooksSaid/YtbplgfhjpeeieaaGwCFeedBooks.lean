/- The law FeedBooks answers true at every input, on every schedule, and leaves its arguments as they were. Condition: none beyond the row's own. -/
import Derived.Test.YtbplgfhjpeeieaaRows
import Derived.Test.YtbplgfhjpeeieaaGwOpens
import Derived.Test.YtbplgfhjpeeieaaGwPBooks
set_option linter.unusedVariables false
set_option linter.unusedSimpArgs false
set_option linter.unusedSectionVars false
set_option maxRecDepth 100000
namespace Go.Proofs.Ytbplgfhjpeeieaa.feedBooks
open Go Go.Gw Go.Conc Go.ChangeShapes Go.WideShapes Go.ChangeAt Go.RowKit
theorem own : ownKnob Try.prog.godebug = none := by kernel_rfl
theorem QJc : laidOutB Try.prog = true := by kernel_rfl
theorem Qyc : Qge Try.prog Try.f8.params.toList = true := by kernel_rfl
theorem QDg (H : Type) (enc : TypeId × Value → H) (W : World) (base : Nat) (args : Array Value) (ds gs : List (DataW H)) (before : List MemPlace)
    (hval : ∀ (j : Nat) t v, Try.f8.params[j]? = some t → args[j]? = some v → Value.okWide Try.prog W .any base t v)
    (hW : DataW.Whole enc Try.prog Try.f8.params.toList Rows.feedBooksSpec.vars false W args.toList ds gs before) :
    ∃ M last o w' t', runNT Try.prog (M + 1) (solo (G (Frame.enter Try.prog 8 args .normal) []) W) #[] = (.ended o w', t') ∧ runN Try.prog M (solo (G (Frame.enter Try.prog 8 args .normal) []) W) = .next last ∧
      step Try.prog last = .ended o w' ∧ Conc.Good Try.prog (fun v W' => Rows.feedBooksSpec.post enc Try.prog Try.f8 false true false false W args v W') last o w' t' := by
  have hW' := hW
  obtain ⟨p, q, hA0, hV, rfl, hfz, hnd⟩ := hW
  have hA : DataW.TrodAll enc Try.prog W 0 (fun _ => true) true Try.f8.params.toList args.toList ds p := hA0
  rw [Try.params8] at hA hval
  obtain ⟨v0, vs0, d0, ds0, p0, q0, hargs, rfl, rfl, h0, r0⟩ := trodAll_cons hA
  obtain ⟨v1, vs1, d1, ds1, p1, q1, rfl, rfl, rfl, h1, r1⟩ := trodAll_cons r0
  obtain ⟨v2, vs2, d2, ds2, p2, q2, rfl, rfl, rfl, h2, r2⟩ := trodAll_cons r1
  obtain ⟨rfl, rfl, rfl⟩ := trodAll_nil r2
  obtain rfl : args = #[v0, v1, v2] := by cases args; simp_all
  obtain ⟨rfl, rfl⟩ := trodVars_none hV
  obtain ⟨cs0, x0, rfl, s0, w0⟩ := Qqv QMc Try.underlying26 (hval 0 26 v0 rfl rfl) h0
  obtain ⟨x1, s1, w1⟩ := QCa QMd Try.underlying29 (hval 1 29 v1 rfl rfl) h1
  obtain ⟨cs2, x2, rfl, s2, w2⟩ := Qqv QMg Try.underlying81 (hval 2 81 v2 rfl rfl) h2
  obtain ⟨M, last, o, w', t', h1, h2, h3, h4⟩ := QRn (QJd [] (Jf W) (LtL.nil _) cs0 x0 (Rep.step (Qqi W) s0) v1 x1 (s1.step (Qqi W)) cs2 x2 (Rep.step (Qqi W) s2) true (QBp x0 x1 x2))
  refine ⟨M, last, o, w', t', h1, h2, h3, h4.mono fun v hp => ?_⟩
  obtain ⟨rfl, hx⟩ := hp
  exact QJi QJc Qyc hW' rfl rfl rfl rfl rfl Try.underlying4 hx
theorem QEm : Rows.feedBooksRow.wf (OpenSpec.ofChange Rows.feedBooksSpec) = true := by kernel_rfl
theorem QEn : laidOutB Try.prog = true := by kernel_rfl
theorem QEy : mapsRowed Try.prog = true := by kernel_rfl
theorem QFj : Try.f8.params.all (Try.prog.readableRec ·) = true := by kernel_rfl
theorem QFm : namedTie Try.prog Rows.feedBooksRow.named Rows.feedBooksSpec.vars = true := by kernel_rfl
theorem QFn : (Rows.feedBooksRow.stops == []) = true := by kernel_rfl
theorem QFo : (Try.prog.stops == []) = true := by kernel_rfl
theorem QFp : (Rows.feedBooksRow.knobs == []) = true := by kernel_rfl
theorem QFq : (Try.prog.stopKnobs == []) = true := by kernel_rfl
theorem QFr : (Rows.feedBooksRow.inPlace == Try.prog.inPlace 8) = true := by kernel_rfl
theorem QEo : (Rows.feedBooksRow.unfollowed == Try.prog.unfollowed 8) = true := by kernel_rfl
theorem QEp : (Rows.feedBooksRow.recurses == Try.prog.recurses 8) = true := by kernel_rfl
theorem QEq : (Rows.feedBooksRow.named == Try.prog.varsNamed 8) = true := by kernel_rfl
theorem QEr : (Rows.feedBooksRow.maps == (Try.f8.params.toList ++ Rows.feedBooksSpec.plain.varTypes Try.prog).any (Try.prog.mapsRec ·)) = true := by kernel_rfl
theorem QEs : (Rows.feedBooksRow.ifaces == (Try.f8.params.toList ++ Rows.feedBooksSpec.plain.varTypes Try.prog).any (Try.prog.ifacesRec ·)) = true := by kernel_rfl
theorem QEt : (Rows.feedBooksRow.mapsOut == Try.prog.mapsAmong Try.f8.resultTypes.toList) = true := by kernel_rfl
theorem QEu : (Rows.feedBooksRow.loops == (Try.f8.params.toList ++ Rows.feedBooksSpec.plain.varTypes Try.prog).any (Try.prog.loopsFrom ·)) = true := by kernel_rfl
theorem QEv : (Rows.feedBooksRow.wideKeys == (Try.f8.params.toList ++ Rows.feedBooksSpec.plain.varTypes Try.prog ++ Try.f8.resultTypes.toList).any (Try.prog.wideKeysFrom ·)) = true := by kernel_rfl
theorem QEw : Rows.feedBooksSpec.vars.all (Try.prog.varReadable ·) = true := by kernel_rfl
theorem QEx : Try.f8.resultTypes.all (fun t => Try.prog.readableRec t && decide (t < Try.prog.types.size)) = true := by kernel_rfl
theorem QEz : (Rows.feedBooksRow.ifacesOut == Try.f8.resultTypes.toList.any (Try.prog.ifacesRec ·)) = true := by kernel_rfl
theorem QFa : (Rows.feedBooksRow.loopsOut == Try.f8.resultTypes.toList.any (Try.prog.loopsFrom ·)) = true := by kernel_rfl
theorem QFb : (Rows.feedBooksRow.plainKeys == Try.prog.plainKeys) = true := by kernel_rfl
theorem QFc : Rows.feedBooksRow.shortTexts.isNone = true := by kernel_rfl
theorem QFd : Try.prog.stopsHeard = true := by kernel_rfl
theorem QFe : Try.prog.mayEnter = true := by kernel_rfl
theorem QFf : (Rows.feedBooksRow.lifted == Try.prog.liftsFinal) = true := by kernel_rfl
theorem QFg : (Try.prog.make == some Rows.feedBooksRow.make) = true := by kernel_rfl
theorem QFh : (Rows.feedBooksRow.kinds == (if Rows.feedBooksRow.domain.isEmpty then [] else Try.f8.params.toList.map fun t => match Try.prog.underlying t with | some (.int k) => some k | _ => none)) = true := by kernel_rfl
theorem QFi : (Rows.feedBooksRow.pinned == Rows.feedBooksRow.pinnedBy) = true := by kernel_rfl
theorem QFk : (Rows.feedBooksRow.veiled == (Try.f8.params.toList ++ Rows.feedBooksSpec.plain.varTypes Try.prog ++ Try.f8.resultTypes.toList).any (Try.prog.veiledRec ·)) = true := by kernel_rfl
theorem QFl : Rows.feedBooksRow.veiledFits Try.prog Try.f8.params.toList (Try.f8.params.toList ++ Rows.feedBooksSpec.plain.varTypes Try.prog ++ Try.f8.resultTypes.toList) = true := by kernel_rfl
theorem Yd {a b : Bool} (ha : a = true) (hb : b = true) : (a && b) = true := by subst ha; subst hb; rfl
theorem closed : joinedFacts Try.prog 8 Try.f8 Rows.feedBooksSpec Rows.feedBooksRow = true := (Yd (Yd (Yd (Yd (Yd (Yd (Yd (Yd (Yd (Yd (Yd (Yd (Yd (Yd (Yd (Yd (Yd (Yd (Yd (Yd (Yd (Yd (Yd (Yd (Yd (Yd (Yd (Yd (Yd (Yd (Yd QEm QEn) QEy) QFj) QFm) QFn) QFo) QFp) QFq) QFr) QEo) QEp) QEq) QEr) QEs) QEt) QEu) QEv) QEw) QEx) QEz) QFa) QFb) QFc) QFd) QFe) QFf) QFg) QFh) QFi) QFk) QFl)
theorem lifted (os : Os) (started : os.Started) (H : Type) (enc : TypeId × Value → H) :
    ReturnsInLeavingWide {} Try.checked os 8 .any (Rows.feedBooksSpec.pre6 enc Try.prog Try.f8 Rows.feedBooksRow.domain false) (Rows.feedBooksSpec.post enc Try.prog Try.f8 false true false false) := by
  refine returnsInLeavingWide_of_change_sized (C := Try.checked) own started Try.func8
    (ChangeSpec.witness6 (enc := enc) (C := Try.checked) false ⟨#[], #[.agg #[.slice none 0 0, .slice none 0 0, .slice none 0 0], .slice none 0 0, .agg #[.int .i64 0, .int .i64 0, .int .i64 0, .int .i64 0, .int .i64 0, .int .i64 0, .int .i64 0, .int .i64 0, .int .i64 0, .int .i64 0, .int .i64 0, .int .i64 0, .int .i64 0, .int .i64 0]], []⟩ 8 (by kernel_rfl) (by kernel_rfl) (by kernel_rfl) (by kernel_rfl)) ?_
  intro W base args ds gs before hval hW _ hwt _
  exact QDg H enc W base args ds gs before hval hW
theorem said : Rows.FeedBooksSaid :=
  OpenClaim.holds_of_wide_leaving 8 Try.f8 rfl rfl rfl rfl rfl rfl rfl ⟨rfl, rfl, rfl, rfl, rfl⟩ rfl rfl rfl rfl rfl (by kernel_rfl) Try.func8 closed
    (of_decide_eq_true (by kernel_rfl)) (by unfold Func.isWrapper; first | (rw [if_pos (by decide +kernel)]; kernel_rfl) | (rw [if_neg (by decide +kernel)]; exact ⟨rfl, rfl⟩))
    (fun os started H enc _ => lifted os started H enc)
#print axioms said
end Go.Proofs.Ytbplgfhjpeeieaa.feedBooks
