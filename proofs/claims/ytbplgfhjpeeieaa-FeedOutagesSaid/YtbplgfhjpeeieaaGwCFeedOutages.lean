/- The law FeedOutages answers true at every input, on every schedule, and leaves its arguments as they were. Condition: none beyond the row's own. -/
import Derived.Test.YtbplgfhjpeeieaaRows
import Derived.Test.YtbplgfhjpeeieaaGwOpens
import Derived.Test.YtbplgfhjpeeieaaGwPOutages
set_option linter.unusedVariables false
set_option linter.unusedSimpArgs false
set_option linter.unusedSectionVars false
set_option maxRecDepth 100000
namespace Go.Proofs.Ytbplgfhjpeeieaa.feedOutages
open Go Go.Gw Go.Conc Go.ChangeShapes Go.WideShapes Go.ChangeAt Go.RowKit
theorem own : ownKnob Try.prog.godebug = none := by kernel_rfl
theorem QKo : laidOutB Try.prog = true := by kernel_rfl
theorem Qzi : Qgy Try.prog Try.f16.params.toList = true := by kernel_rfl
theorem QEb (H : Type) (enc : TypeId × Value → H) (W : World) (base : Nat) (args : Array Value) (ds gs : List (DataW H)) (before : List MemPlace)
    (hval : ∀ (j : Nat) t v, Try.f16.params[j]? = some t → args[j]? = some v → Value.okWide Try.prog W .any base t v)
    (hW : DataW.Whole enc Try.prog Try.f16.params.toList Rows.feedOutagesSpec.vars false W args.toList ds gs before) :
    ∃ M last o w' t', runNT Try.prog (M + 1) (solo (G (Frame.enter Try.prog 16 args .normal) []) W) #[] = (.ended o w', t') ∧ runN Try.prog M (solo (G (Frame.enter Try.prog 16 args .normal) []) W) = .next last ∧
      step Try.prog last = .ended o w' ∧ Conc.Good Try.prog (fun v W' => Rows.feedOutagesSpec.post enc Try.prog Try.f16 false true false false W args v W') last o w' t' := by
  have hW' := hW
  obtain ⟨p, q, hA0, hV, rfl, hfz, hnd⟩ := hW
  have hA : DataW.TrodAll enc Try.prog W 0 (fun _ => true) true Try.f16.params.toList args.toList ds p := hA0
  rw [Try.params16] at hA hval
  obtain ⟨v0, vs0, d0, ds0, p0, q0, hargs, rfl, rfl, h0, r0⟩ := trodAll_cons hA
  obtain ⟨v1, vs1, d1, ds1, p1, q1, rfl, rfl, rfl, h1, r1⟩ := trodAll_cons r0
  obtain ⟨v2, vs2, d2, ds2, p2, q2, rfl, rfl, rfl, h2, r2⟩ := trodAll_cons r1
  obtain ⟨rfl, rfl, rfl⟩ := trodAll_nil r2
  obtain rfl : args = #[v0, v1, v2] := by cases args; simp_all
  obtain ⟨rfl, rfl⟩ := trodVars_none hV
  obtain ⟨cs0, x0, rfl, s0, w0⟩ := QDb QNy Try.underlying26 (hval 0 26 v0 rfl rfl) h0
  obtain ⟨x1, s1, w1⟩ := Qrt QNz Try.underlying29 (hval 1 29 v1 rfl rfl) h1
  obtain ⟨x2, s2, w2⟩ := Qrt QOa Try.underlying52 (hval 2 52 v2 rfl rfl) h2
  obtain ⟨M, last, o, w', t', h1, h2, h3, h4⟩ := QTt (QKp [] (Ja W) (LtL.nil _) cs0 x0 (Rep.step (Qrl W) s0) v1 x1 (s1.step (Qrl W)) v2 x2 (s2.step (Qrl W)) true (QCk x0 x1 x2))
  refine ⟨M, last, o, w', t', h1, h2, h3, h4.mono fun v hp => ?_⟩
  obtain ⟨rfl, hx⟩ := hp
  exact QKu QKo Qzi hW' rfl rfl rfl rfl rfl Try.underlying4 hx
theorem QFv : Rows.feedOutagesRow.wf (OpenSpec.ofChange Rows.feedOutagesSpec) = true := by kernel_rfl
theorem QFw : laidOutB Try.prog = true := by kernel_rfl
theorem QGh : mapsRowed Try.prog = true := by kernel_rfl
theorem QGs : Try.f16.params.all (Try.prog.readableRec ·) = true := by kernel_rfl
theorem QGv : namedTie Try.prog Rows.feedOutagesRow.named Rows.feedOutagesSpec.vars = true := by kernel_rfl
theorem QGw : (Rows.feedOutagesRow.stops == []) = true := by kernel_rfl
theorem QGx : (Try.prog.stops == []) = true := by kernel_rfl
theorem QGy : (Rows.feedOutagesRow.knobs == []) = true := by kernel_rfl
theorem QGz : (Try.prog.stopKnobs == []) = true := by kernel_rfl
theorem QHa : (Rows.feedOutagesRow.inPlace == Try.prog.inPlace 16) = true := by kernel_rfl
theorem QFx : (Rows.feedOutagesRow.unfollowed == Try.prog.unfollowed 16) = true := by kernel_rfl
theorem QFy : (Rows.feedOutagesRow.recurses == Try.prog.recurses 16) = true := by kernel_rfl
theorem QFz : (Rows.feedOutagesRow.named == Try.prog.varsNamed 16) = true := by kernel_rfl
theorem QGa : (Rows.feedOutagesRow.maps == (Try.f16.params.toList ++ Rows.feedOutagesSpec.plain.varTypes Try.prog).any (Try.prog.mapsRec ·)) = true := by kernel_rfl
theorem QGb : (Rows.feedOutagesRow.ifaces == (Try.f16.params.toList ++ Rows.feedOutagesSpec.plain.varTypes Try.prog).any (Try.prog.ifacesRec ·)) = true := by kernel_rfl
theorem QGc : (Rows.feedOutagesRow.mapsOut == Try.prog.mapsAmong Try.f16.resultTypes.toList) = true := by kernel_rfl
theorem QGd : (Rows.feedOutagesRow.loops == (Try.f16.params.toList ++ Rows.feedOutagesSpec.plain.varTypes Try.prog).any (Try.prog.loopsFrom ·)) = true := by kernel_rfl
theorem QGe : (Rows.feedOutagesRow.wideKeys == (Try.f16.params.toList ++ Rows.feedOutagesSpec.plain.varTypes Try.prog ++ Try.f16.resultTypes.toList).any (Try.prog.wideKeysFrom ·)) = true := by kernel_rfl
theorem QGf : Rows.feedOutagesSpec.vars.all (Try.prog.varReadable ·) = true := by kernel_rfl
theorem QGg : Try.f16.resultTypes.all (fun t => Try.prog.readableRec t && decide (t < Try.prog.types.size)) = true := by kernel_rfl
theorem QGi : (Rows.feedOutagesRow.ifacesOut == Try.f16.resultTypes.toList.any (Try.prog.ifacesRec ·)) = true := by kernel_rfl
theorem QGj : (Rows.feedOutagesRow.loopsOut == Try.f16.resultTypes.toList.any (Try.prog.loopsFrom ·)) = true := by kernel_rfl
theorem QGk : (Rows.feedOutagesRow.plainKeys == Try.prog.plainKeys) = true := by kernel_rfl
theorem QGl : Rows.feedOutagesRow.shortTexts.isNone = true := by kernel_rfl
theorem QGm : Try.prog.stopsHeard = true := by kernel_rfl
theorem QGn : Try.prog.mayEnter = true := by kernel_rfl
theorem QGo : (Rows.feedOutagesRow.lifted == Try.prog.liftsFinal) = true := by kernel_rfl
theorem QGp : (Try.prog.make == some Rows.feedOutagesRow.make) = true := by kernel_rfl
theorem QGq : (Rows.feedOutagesRow.kinds == (if Rows.feedOutagesRow.domain.isEmpty then [] else Try.f16.params.toList.map fun t => match Try.prog.underlying t with | some (.int k) => some k | _ => none)) = true := by kernel_rfl
theorem QGr : (Rows.feedOutagesRow.pinned == Rows.feedOutagesRow.pinnedBy) = true := by kernel_rfl
theorem QGt : (Rows.feedOutagesRow.veiled == (Try.f16.params.toList ++ Rows.feedOutagesSpec.plain.varTypes Try.prog ++ Try.f16.resultTypes.toList).any (Try.prog.veiledRec ·)) = true := by kernel_rfl
theorem QGu : Rows.feedOutagesRow.veiledFits Try.prog Try.f16.params.toList (Try.f16.params.toList ++ Rows.feedOutagesSpec.plain.varTypes Try.prog ++ Try.f16.resultTypes.toList) = true := by kernel_rfl
theorem Yj {a b : Bool} (ha : a = true) (hb : b = true) : (a && b) = true := by subst ha; subst hb; rfl
theorem closed : joinedFacts Try.prog 16 Try.f16 Rows.feedOutagesSpec Rows.feedOutagesRow = true := (Yj (Yj (Yj (Yj (Yj (Yj (Yj (Yj (Yj (Yj (Yj (Yj (Yj (Yj (Yj (Yj (Yj (Yj (Yj (Yj (Yj (Yj (Yj (Yj (Yj (Yj (Yj (Yj (Yj (Yj (Yj QFv QFw) QGh) QGs) QGv) QGw) QGx) QGy) QGz) QHa) QFx) QFy) QFz) QGa) QGb) QGc) QGd) QGe) QGf) QGg) QGi) QGj) QGk) QGl) QGm) QGn) QGo) QGp) QGq) QGr) QGt) QGu)
theorem lifted (os : Os) (started : os.Started) (H : Type) (enc : TypeId × Value → H) :
    ReturnsInLeavingWide {} Try.checked os 16 .any (Rows.feedOutagesSpec.pre6 enc Try.prog Try.f16 Rows.feedOutagesRow.domain false) (Rows.feedOutagesSpec.post enc Try.prog Try.f16 false true false false) := by
  refine returnsInLeavingWide_of_change_sized (C := Try.checked) own started Try.func16
    (ChangeSpec.witness6 (enc := enc) (C := Try.checked) false ⟨#[], #[.agg #[.slice none 0 0, .slice none 0 0, .slice none 0 0], .slice none 0 0, .slice none 0 0], []⟩ 8 (by kernel_rfl) (by kernel_rfl) (by kernel_rfl) (by kernel_rfl)) ?_
  intro W base args ds gs before hval hW _ hwt _
  exact QEb H enc W base args ds gs before hval hW
theorem said : Rows.FeedOutagesSaid :=
  OpenClaim.holds_of_wide_leaving 16 Try.f16 rfl rfl rfl rfl rfl rfl rfl ⟨rfl, rfl, rfl, rfl, rfl⟩ rfl rfl rfl rfl rfl (by kernel_rfl) Try.func16 closed
    (of_decide_eq_true (by kernel_rfl)) (by unfold Func.isWrapper; first | (rw [if_pos (by decide +kernel)]; kernel_rfl) | (rw [if_neg (by decide +kernel)]; exact ⟨rfl, rfl⟩))
    (fun os started H enc _ => lifted os started H enc)
#print axioms said
end Go.Proofs.Ytbplgfhjpeeieaa.feedOutages
