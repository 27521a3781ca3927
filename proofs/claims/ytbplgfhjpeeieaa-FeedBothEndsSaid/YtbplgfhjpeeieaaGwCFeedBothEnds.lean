/- The law FeedBothEnds answers true at every input, on every schedule, and leaves its arguments as they were. Condition: none beyond the row's own. -/
import Derived.Test.YtbplgfhjpeeieaaRows
import Derived.Test.YtbplgfhjpeeieaaGwOpens
import Derived.Test.YtbplgfhjpeeieaaGwPBothEnds
set_option linter.unusedVariables false
set_option linter.unusedSimpArgs false
set_option linter.unusedSectionVars false
set_option maxRecDepth 100000
namespace Go.Proofs.Ytbplgfhjpeeieaa.feedBothEnds
open Go Go.Gw Go.Conc Go.ChangeShapes Go.WideShapes Go.ChangeAt Go.RowKit
theorem own : ownKnob Try.prog.godebug = none := by kernel_rfl
theorem QDe : laidOutB Try.prog = true := by kernel_rfl
theorem Qss : Qbs Try.prog Try.f11.params.toList = true := by kernel_rfl
theorem Qxx (H : Type) (enc : TypeId × Value → H) (W : World) (base : Nat) (args : Array Value) (ds gs : List (DataW H)) (before : List MemPlace)
    (hval : ∀ (j : Nat) t v, Try.f11.params[j]? = some t → args[j]? = some v → Value.okWide Try.prog W .any base t v)
    (hW : DataW.Whole enc Try.prog Try.f11.params.toList Rows.feedBothEndsSpec.vars false W args.toList ds gs before)
    (hwt : (DataW.weightsEach Try.prog (Try.f11.params.toList ++ Rows.feedBothEndsSpec.plain.varTypes Try.prog) (ds ++ gs)).all (· ≤ reachBytes) = true) :
    ∃ M last o w' t', runNT Try.prog (M + 1) (solo (G (Frame.enter Try.prog 11 args .normal) []) W) #[] = (.ended o w', t') ∧ runN Try.prog M (solo (G (Frame.enter Try.prog 11 args .normal) []) W) = .next last ∧
      step Try.prog last = .ended o w' ∧ Conc.Good Try.prog (fun v W' => Rows.feedBothEndsSpec.post enc Try.prog Try.f11 false true false false W args v W') last o w' t' := by
  have hW' := hW
  obtain ⟨p, q, hA0, hV, rfl, hfz, hnd⟩ := hW
  have hA : DataW.TrodAll enc Try.prog W 0 (fun _ => true) true Try.f11.params.toList args.toList ds p := hA0
  rw [Try.params11] at hA hval
  obtain ⟨v0, vs0, d0, ds0, p0, q0, hargs, rfl, rfl, h0, r0⟩ := trodAll_cons hA
  obtain ⟨v1, vs1, d1, ds1, p1, q1, rfl, rfl, rfl, h1, r1⟩ := trodAll_cons r0
  obtain ⟨rfl, rfl, rfl⟩ := trodAll_nil r1
  obtain rfl : args = #[v0, v1] := by cases args; simp_all
  obtain ⟨rfl, rfl⟩ := trodVars_none hV
  obtain ⟨cs0, x0, rfl, s0, w0⟩ := Qwq QFp Try.underlying94 (hval 0 94 v0 rfl rfl) h0
  obtain ⟨x1, s1, w1⟩ := Qws opn52 Try.underlying52 (hval 1 52 v1 rfl rfl) h1
  have hw2 : (DataW.weightsEach Try.prog [94, 52] [d0, d1]).all (· ≤ reachBytes) = true := by rw [Try.params11] at hwt; exact hwt
  have len1 := Qwr Try.underlying52 h1 s1 (QJp hw2).2
  rw [show Try.prog.bytesOf 3 = 8 by kernel_rfl] at len1
  unfold reachBytes at len1
  obtain ⟨M, last, o, w', t', h1, h2, h3, h4⟩ := QJf (QDf [] (YZ W) (LtL.nil _) cs0 x0 (Rep.step (Qvm W) s0) v1 x1 (s1.step (Qvm W)) true (Qvw x0 x1 (by omega)))
  refine ⟨M, last, o, w', t', h1, h2, h3, h4.mono fun v hp => ?_⟩
  obtain ⟨rfl, hx⟩ := hp
  exact QDi QDe Qss hW' rfl rfl rfl rfl rfl Try.underlying4 hx
theorem Qyx : Rows.feedBothEndsRow.wf (OpenSpec.ofChange Rows.feedBothEndsSpec) = true := by kernel_rfl
theorem Qyy : laidOutB Try.prog = true := by kernel_rfl
theorem Qzj : mapsRowed Try.prog = true := by kernel_rfl
theorem Qzu : Try.f11.params.all (Try.prog.readableRec ·) = true := by kernel_rfl
theorem Qzx : namedTie Try.prog Rows.feedBothEndsRow.named Rows.feedBothEndsSpec.vars = true := by kernel_rfl
theorem Qzy : (Rows.feedBothEndsRow.stops == []) = true := by kernel_rfl
theorem Qzz : (Try.prog.stops == []) = true := by kernel_rfl
theorem QAa : (Rows.feedBothEndsRow.knobs == []) = true := by kernel_rfl
theorem QAb : (Try.prog.stopKnobs == []) = true := by kernel_rfl
theorem QAc : (Rows.feedBothEndsRow.inPlace == Try.prog.inPlace 11) = true := by kernel_rfl
theorem Qyz : (Rows.feedBothEndsRow.unfollowed == Try.prog.unfollowed 11) = true := by kernel_rfl
theorem Qza : (Rows.feedBothEndsRow.recurses == Try.prog.recurses 11) = true := by kernel_rfl
theorem Qzb : (Rows.feedBothEndsRow.named == Try.prog.varsNamed 11) = true := by kernel_rfl
theorem Qzc : (Rows.feedBothEndsRow.maps == (Try.f11.params.toList ++ Rows.feedBothEndsSpec.plain.varTypes Try.prog).any (Try.prog.mapsRec ·)) = true := by kernel_rfl
theorem Qzd : (Rows.feedBothEndsRow.ifaces == (Try.f11.params.toList ++ Rows.feedBothEndsSpec.plain.varTypes Try.prog).any (Try.prog.ifacesRec ·)) = true := by kernel_rfl
theorem Qze : (Rows.feedBothEndsRow.mapsOut == Try.prog.mapsAmong Try.f11.resultTypes.toList) = true := by kernel_rfl
theorem Qzf : (Rows.feedBothEndsRow.loops == (Try.f11.params.toList ++ Rows.feedBothEndsSpec.plain.varTypes Try.prog).any (Try.prog.loopsFrom ·)) = true := by kernel_rfl
theorem Qzg : (Rows.feedBothEndsRow.wideKeys == (Try.f11.params.toList ++ Rows.feedBothEndsSpec.plain.varTypes Try.prog ++ Try.f11.resultTypes.toList).any (Try.prog.wideKeysFrom ·)) = true := by kernel_rfl
theorem Qzh : Rows.feedBothEndsSpec.vars.all (Try.prog.varReadable ·) = true := by kernel_rfl
theorem Qzi : Try.f11.resultTypes.all (fun t => Try.prog.readableRec t && decide (t < Try.prog.types.size)) = true := by kernel_rfl
theorem Qzk : (Rows.feedBothEndsRow.ifacesOut == Try.f11.resultTypes.toList.any (Try.prog.ifacesRec ·)) = true := by kernel_rfl
theorem Qzl : (Rows.feedBothEndsRow.loopsOut == Try.f11.resultTypes.toList.any (Try.prog.loopsFrom ·)) = true := by kernel_rfl
theorem Qzm : (Rows.feedBothEndsRow.plainKeys == Try.prog.plainKeys) = true := by kernel_rfl
theorem Qzn : Rows.feedBothEndsRow.shortTexts.isNone = true := by kernel_rfl
theorem Qzo : Try.prog.stopsHeard = true := by kernel_rfl
theorem Qzp : Try.prog.mayEnter = true := by kernel_rfl
theorem Qzq : (Rows.feedBothEndsRow.lifted == Try.prog.liftsFinal) = true := by kernel_rfl
theorem Qzr : (Try.prog.make == some Rows.feedBothEndsRow.make) = true := by kernel_rfl
theorem Qzs : (Rows.feedBothEndsRow.kinds == (if Rows.feedBothEndsRow.domain.isEmpty then [] else Try.f11.params.toList.map fun t => match Try.prog.underlying t with | some (.int k) => some k | _ => none)) = true := by kernel_rfl
theorem Qzt : (Rows.feedBothEndsRow.pinned == Rows.feedBothEndsRow.pinnedBy) = true := by kernel_rfl
theorem Qzv : (Rows.feedBothEndsRow.veiled == (Try.f11.params.toList ++ Rows.feedBothEndsSpec.plain.varTypes Try.prog ++ Try.f11.resultTypes.toList).any (Try.prog.veiledRec ·)) = true := by kernel_rfl
theorem Qzw : Rows.feedBothEndsRow.veiledFits Try.prog Try.f11.params.toList (Try.f11.params.toList ++ Rows.feedBothEndsSpec.plain.varTypes Try.prog ++ Try.f11.resultTypes.toList) = true := by kernel_rfl
theorem XC {a b : Bool} (ha : a = true) (hb : b = true) : (a && b) = true := by subst ha; subst hb; rfl
theorem closed : joinedFacts Try.prog 11 Try.f11 Rows.feedBothEndsSpec Rows.feedBothEndsRow = true := (XC (XC (XC (XC (XC (XC (XC (XC (XC (XC (XC (XC (XC (XC (XC (XC (XC (XC (XC (XC (XC (XC (XC (XC (XC (XC (XC (XC (XC (XC (XC Qyx Qyy) Qzj) Qzu) Qzx) Qzy) Qzz) QAa) QAb) QAc) Qyz) Qza) Qzb) Qzc) Qzd) Qze) Qzf) Qzg) Qzh) Qzi) Qzk) Qzl) Qzm) Qzn) Qzo) Qzp) Qzq) Qzr) Qzs) Qzt) Qzv) Qzw)
theorem lifted (os : Os) (started : os.Started) (H : Type) (enc : TypeId × Value → H) :
    ReturnsInLeavingWide {} Try.checked os 11 .any (Rows.feedBothEndsSpec.pre6 enc Try.prog Try.f11 Rows.feedBothEndsRow.domain false) (Rows.feedBothEndsSpec.post enc Try.prog Try.f11 false true false false) := by
  refine returnsInLeavingWide_of_change_sized (C := Try.checked) own started Try.func11
    (ChangeSpec.witness6 (enc := enc) (C := Try.checked) false ⟨#[], #[.agg #[.slice none 0 0, .slice none 0 0], .slice none 0 0], []⟩ 8 (by kernel_rfl) (by kernel_rfl) (by kernel_rfl) (by kernel_rfl)) ?_
  intro W base args ds gs before hval hW _ hwt _
  exact Qxx H enc W base args ds gs before hval hW hwt
theorem said : Rows.FeedBothEndsSaid :=
  OpenClaim.holds_of_wide_leaving 11 Try.f11 rfl rfl rfl rfl rfl rfl rfl ⟨rfl, rfl, rfl, rfl, rfl⟩ rfl rfl rfl rfl rfl (by kernel_rfl) Try.func11 closed
    (of_decide_eq_true (by kernel_rfl)) (by unfold Func.isWrapper; first | (rw [if_pos (by decide +kernel)]; kernel_rfl) | (rw [if_neg (by decide +kernel)]; exact ⟨rfl, rfl⟩))
    (fun os started H enc _ => lifted os started H enc)
#print axioms said
end Go.Proofs.Ytbplgfhjpeeieaa.feedBothEnds
