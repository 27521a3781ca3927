/- The law FeedNets answers true at every input, on every schedule, and leaves its arguments as they were. Condition: none beyond the row's own. -/
import Derived.Test.YtbplgfhjpeeieaaRows
import Derived.Test.YtbplgfhjpeeieaaGwOpens
import Derived.Test.YtbplgfhjpeeieaaGwPNets
set_option linter.unusedVariables false
set_option linter.unusedSimpArgs false
set_option linter.unusedSectionVars false
set_option maxRecDepth 100000
namespace Go.Proofs.Ytbplgfhjpeeieaa.feedNets
open Go Go.Gw Go.Conc Go.ChangeShapes Go.WideShapes Go.ChangeAt Go.RowKit
theorem own : ownKnob Try.prog.godebug = none := by kernel_rfl
theorem QCe : laidOutB Try.prog = true := by kernel_rfl
theorem Qsd : Qby Try.prog Try.f4.params.toList = true := by kernel_rfl
theorem Qwl (H : Type) (enc : TypeId × Value → H) (W : World) (base : Nat) (args : Array Value) (ds gs : List (DataW H)) (before : List MemPlace)
    (hval : ∀ (j : Nat) t v, Try.f4.params[j]? = some t → args[j]? = some v → Value.okWide Try.prog W .any base t v)
    (hW : DataW.Whole enc Try.prog Try.f4.params.toList Rows.feedNetsSpec.vars false W args.toList ds gs before) :
    ∃ M last o w' t', runNT Try.prog (M + 1) (solo (G (Frame.enter Try.prog 4 args .normal) []) W) #[] = (.ended o w', t') ∧ runN Try.prog M (solo (G (Frame.enter Try.prog 4 args .normal) []) W) = .next last ∧
      step Try.prog last = .ended o w' ∧ Conc.Good Try.prog (fun v W' => Rows.feedNetsSpec.post enc Try.prog Try.f4 false true false false W args v W') last o w' t' := by
  have hW' := hW
  obtain ⟨p, q, hA0, hV, rfl, hfz, hnd⟩ := hW
  have hA : DataW.TrodAll enc Try.prog W 0 (fun _ => true) true Try.f4.params.toList args.toList ds p := hA0
  rw [Try.params4] at hA hval
  obtain ⟨v0, vs0, d0, ds0, p0, q0, hargs, rfl, rfl, h0, r0⟩ := trodAll_cons hA
  obtain ⟨v1, vs1, d1, ds1, p1, q1, rfl, rfl, rfl, h1, r1⟩ := trodAll_cons r0
  obtain ⟨rfl, rfl, rfl⟩ := trodAll_nil r1
  obtain rfl : args = #[v0, v1] := by cases args; simp_all
  obtain ⟨rfl, rfl⟩ := trodVars_none hV
  obtain ⟨cs0, x0, rfl, s0, w0⟩ := Qvm QEo Try.underlying26 (hval 0 26 v0 rfl rfl) h0
  obtain ⟨x1, s1, w1⟩ := Qvn QEp Try.underlying29 (hval 1 29 v1 rfl rfl) h1
  obtain ⟨M, last, o, w', t', h1, h2, h3, h4⟩ := QIs (QCf [] (Y7 W) (LtL.nil _) cs0 x0 (Rep.step (Qur W) s0) v1 x1 (s1.step (Qur W)) true (Qva x0 x1))
  refine ⟨M, last, o, w', t', h1, h2, h3, h4.mono fun v hp => ?_⟩
  obtain ⟨rfl, hx⟩ := hp
  exact QCk QCe Qsd hW' rfl rfl rfl rfl rfl Try.underlying4 hx
theorem Qxq : Rows.feedNetsRow.wf (OpenSpec.ofChange Rows.feedNetsSpec) = true := by kernel_rfl
theorem Qxr : laidOutB Try.prog = true := by kernel_rfl
theorem Qyc : mapsRowed Try.prog = true := by kernel_rfl
theorem Qyn : Try.f4.params.all (Try.prog.readableRec ·) = true := by kernel_rfl
theorem Qyq : namedTie Try.prog Rows.feedNetsRow.named Rows.feedNetsSpec.vars = true := by kernel_rfl
theorem Qyr : (Rows.feedNetsRow.stops == []) = true := by kernel_rfl
theorem Qys : (Try.prog.stops == []) = true := by kernel_rfl
theorem Qyt : (Rows.feedNetsRow.knobs == []) = true := by kernel_rfl
theorem Qyu : (Try.prog.stopKnobs == []) = true := by kernel_rfl
theorem Qyv : (Rows.feedNetsRow.inPlace == Try.prog.inPlace 4) = true := by kernel_rfl
theorem Qxs : (Rows.feedNetsRow.unfollowed == Try.prog.unfollowed 4) = true := by kernel_rfl
theorem Qxt : (Rows.feedNetsRow.recurses == Try.prog.recurses 4) = true := by kernel_rfl
theorem Qxu : (Rows.feedNetsRow.named == Try.prog.varsNamed 4) = true := by kernel_rfl
theorem Qxv : (Rows.feedNetsRow.maps == (Try.f4.params.toList ++ Rows.feedNetsSpec.plain.varTypes Try.prog).any (Try.prog.mapsRec ·)) = true := by kernel_rfl
theorem Qxw : (Rows.feedNetsRow.ifaces == (Try.f4.params.toList ++ Rows.feedNetsSpec.plain.varTypes Try.prog).any (Try.prog.ifacesRec ·)) = true := by kernel_rfl
theorem Qxx : (Rows.feedNetsRow.mapsOut == Try.prog.mapsAmong Try.f4.resultTypes.toList) = true := by kernel_rfl
theorem Qxy : (Rows.feedNetsRow.loops == (Try.f4.params.toList ++ Rows.feedNetsSpec.plain.varTypes Try.prog).any (Try.prog.loopsFrom ·)) = true := by kernel_rfl
theorem Qxz : (Rows.feedNetsRow.wideKeys == (Try.f4.params.toList ++ Rows.feedNetsSpec.plain.varTypes Try.prog ++ Try.f4.resultTypes.toList).any (Try.prog.wideKeysFrom ·)) = true := by kernel_rfl
theorem Qya : Rows.feedNetsSpec.vars.all (Try.prog.varReadable ·) = true := by kernel_rfl
theorem Qyb : Try.f4.resultTypes.all (fun t => Try.prog.readableRec t && decide (t < Try.prog.types.size)) = true := by kernel_rfl
theorem Qyd : (Rows.feedNetsRow.ifacesOut == Try.f4.resultTypes.toList.any (Try.prog.ifacesRec ·)) = true := by kernel_rfl
theorem Qye : (Rows.feedNetsRow.loopsOut == Try.f4.resultTypes.toList.any (Try.prog.loopsFrom ·)) = true := by kernel_rfl
theorem Qyf : (Rows.feedNetsRow.plainKeys == Try.prog.plainKeys) = true := by kernel_rfl
theorem Qyg : Rows.feedNetsRow.shortTexts.isNone = true := by kernel_rfl
theorem Qyh : Try.prog.stopsHeard = true := by kernel_rfl
theorem Qyi : Try.prog.mayEnter = true := by kernel_rfl
theorem Qyj : (Rows.feedNetsRow.lifted == Try.prog.liftsFinal) = true := by kernel_rfl
theorem Qyk : (Try.prog.make == some Rows.feedNetsRow.make) = true := by kernel_rfl
theorem Qyl : (Rows.feedNetsRow.kinds == (if Rows.feedNetsRow.domain.isEmpty then [] else Try.f4.params.toList.map fun t => match Try.prog.underlying t with | some (.int k) => some k | _ => none)) = true := by kernel_rfl
theorem Qym : (Rows.feedNetsRow.pinned == Rows.feedNetsRow.pinnedBy) = true := by kernel_rfl
theorem Qyo : (Rows.feedNetsRow.veiled == (Try.f4.params.toList ++ Rows.feedNetsSpec.plain.varTypes Try.prog ++ Try.f4.resultTypes.toList).any (Try.prog.veiledRec ·)) = true := by kernel_rfl
theorem Qyp : Rows.feedNetsRow.veiledFits Try.prog Try.f4.params.toList (Try.f4.params.toList ++ Rows.feedNetsSpec.plain.varTypes Try.prog ++ Try.f4.resultTypes.toList) = true := by kernel_rfl
theorem XO {a b : Bool} (ha : a = true) (hb : b = true) : (a && b) = true := by subst ha; subst hb; rfl
theorem closed : joinedFacts Try.prog 4 Try.f4 Rows.feedNetsSpec Rows.feedNetsRow = true := (XO (XO (XO (XO (XO (XO (XO (XO (XO (XO (XO (XO (XO (XO (XO (XO (XO (XO (XO (XO (XO (XO (XO (XO (XO (XO (XO (XO (XO (XO (XO Qxq Qxr) Qyc) Qyn) Qyq) Qyr) Qys) Qyt) Qyu) Qyv) Qxs) Qxt) Qxu) Qxv) Qxw) Qxx) Qxy) Qxz) Qya) Qyb) Qyd) Qye) Qyf) Qyg) Qyh) Qyi) Qyj) Qyk) Qyl) Qym) Qyo) Qyp)
theorem lifted (os : Os) (started : os.Started) (H : Type) (enc : TypeId × Value → H) :
    ReturnsInLeavingWide {} Try.checked os 4 .any (Rows.feedNetsSpec.pre6 enc Try.prog Try.f4 Rows.feedNetsRow.domain false) (Rows.feedNetsSpec.post enc Try.prog Try.f4 false true false false) := by
  refine returnsInLeavingWide_of_change_sized (C := Try.checked) own started Try.func4
    (ChangeSpec.witness6 (enc := enc) (C := Try.checked) false ⟨#[], #[.agg #[.slice none 0 0, .slice none 0 0, .slice none 0 0], .slice none 0 0], []⟩ 8 (by kernel_rfl) (by kernel_rfl) (by kernel_rfl) (by kernel_rfl)) ?_
  intro W base args ds gs before hval hW _ _ _
  exact Qwl H enc W base args ds gs before hval hW
theorem said : Rows.FeedNetsSaid :=
  OpenClaim.holds_of_wide_leaving 4 Try.f4 rfl rfl rfl rfl rfl rfl rfl ⟨rfl, rfl, rfl, rfl, rfl⟩ rfl rfl rfl rfl rfl (by kernel_rfl) Try.func4 closed
    (of_decide_eq_true (by kernel_rfl)) (by unfold Func.isWrapper; first | (rw [if_pos (by decide +kernel)]; kernel_rfl) | (rw [if_neg (by decide +kernel)]; exact ⟨rfl, rfl⟩))
    (fun os started H enc _ => lifted os started H enc)
#print axioms said
end Go.Proofs.Ytbplgfhjpeeieaa.feedNets
