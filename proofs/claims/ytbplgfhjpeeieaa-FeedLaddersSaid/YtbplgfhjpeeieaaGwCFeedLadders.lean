/- The law FeedLadders answers true at every input, on every schedule, and leaves its arguments as they were. Condition: none beyond the row's own. -/
import Derived.Test.YtbplgfhjpeeieaaRows
import Derived.Test.YtbplgfhjpeeieaaGwOpens
import Derived.Test.YtbplgfhjpeeieaaGwPLadders
set_option linter.unusedVariables false
set_option linter.unusedSimpArgs false
set_option linter.unusedSectionVars false
set_option maxRecDepth 100000
namespace Go.Proofs.Ytbplgfhjpeeieaa.feedLadders
open Go Go.Gw Go.Conc Go.ChangeShapes Go.WideShapes Go.ChangeAt Go.RowKit
theorem own : ownKnob Try.prog.godebug = none := by kernel_rfl
theorem QBt : laidOutB Try.prog = true := by kernel_rfl
theorem Qrz : Qaq Try.prog Try.f10.params.toList = true := by kernel_rfl
theorem Qwq (H : Type) (enc : TypeId × Value → H) (W : World) (base : Nat) (args : Array Value) (ds gs : List (DataW H)) (before : List MemPlace)
    (hval : ∀ (j : Nat) t v, Try.f10.params[j]? = some t → args[j]? = some v → Value.okWide Try.prog W .any base t v)
    (hW : DataW.Whole enc Try.prog Try.f10.params.toList Rows.feedLaddersSpec.vars false W args.toList ds gs before) :
    ∃ M last o w' t', runNT Try.prog (M + 1) (solo (G (Frame.enter Try.prog 10 args .normal) []) W) #[] = (.ended o w', t') ∧ runN Try.prog M (solo (G (Frame.enter Try.prog 10 args .normal) []) W) = .next last ∧
      step Try.prog last = .ended o w' ∧ Conc.Good Try.prog (fun v W' => Rows.feedLaddersSpec.post enc Try.prog Try.f10 false true false false W args v W') last o w' t' := by
  have hW' := hW
  obtain ⟨p, q, hA0, hV, rfl, hfz, hnd⟩ := hW
  have hA : DataW.TrodAll enc Try.prog W 0 (fun _ => true) true Try.f10.params.toList args.toList ds p := hA0
  rw [Try.params10] at hA hval
  obtain ⟨v0, vs0, d0, ds0, p0, q0, hargs, rfl, rfl, h0, r0⟩ := trodAll_cons hA
  obtain ⟨v1, vs1, d1, ds1, p1, q1, rfl, rfl, rfl, h1, r1⟩ := trodAll_cons r0
  obtain ⟨rfl, rfl, rfl⟩ := trodAll_nil r1
  obtain rfl : args = #[v0, v1] := by cases args; simp_all
  obtain ⟨rfl, rfl⟩ := trodVars_none hV
  obtain ⟨cs0, x0, rfl, s0, w0⟩ := Qvl QEh Try.underlying94 (hval 0 94 v0 rfl rfl) h0
  obtain ⟨x1, s1, w1⟩ := Qvm QEi Try.underlying95 (hval 1 95 v1 rfl rfl) h1
  obtain ⟨M, last, o, w', t', h1, h2, h3, h4⟩ := QHx (QBu [] (YK W) (LtL.nil _) cs0 x0 (Rep.step (Qum W) s0) v1 x1 (s1.step (Qum W)) true (Quz x0 x1))
  refine ⟨M, last, o, w', t', h1, h2, h3, h4.mono fun v hp => ?_⟩
  obtain ⟨rfl, hx⟩ := hp
  exact QBx QBt Qrz hW' rfl rfl rfl rfl rfl Try.underlying4 hx
theorem Qxm : Rows.feedLaddersRow.wf (OpenSpec.ofChange Rows.feedLaddersSpec) = true := by kernel_rfl
theorem Qxn : laidOutB Try.prog = true := by kernel_rfl
theorem Qxy : mapsRowed Try.prog = true := by kernel_rfl
theorem Qyj : Try.f10.params.all (Try.prog.readableRec ·) = true := by kernel_rfl
theorem Qym : namedTie Try.prog Rows.feedLaddersRow.named Rows.feedLaddersSpec.vars = true := by kernel_rfl
theorem Qyn : (Rows.feedLaddersRow.stops == []) = true := by kernel_rfl
theorem Qyo : (Try.prog.stops == []) = true := by kernel_rfl
theorem Qyp : (Rows.feedLaddersRow.knobs == []) = true := by kernel_rfl
theorem Qyq : (Try.prog.stopKnobs == []) = true := by kernel_rfl
theorem Qyr : (Rows.feedLaddersRow.inPlace == Try.prog.inPlace 10) = true := by kernel_rfl
theorem Qxo : (Rows.feedLaddersRow.unfollowed == Try.prog.unfollowed 10) = true := by kernel_rfl
theorem Qxp : (Rows.feedLaddersRow.recurses == Try.prog.recurses 10) = true := by kernel_rfl
theorem Qxq : (Rows.feedLaddersRow.named == Try.prog.varsNamed 10) = true := by kernel_rfl
theorem Qxr : (Rows.feedLaddersRow.maps == (Try.f10.params.toList ++ Rows.feedLaddersSpec.plain.varTypes Try.prog).any (Try.prog.mapsRec ·)) = true := by kernel_rfl
theorem Qxs : (Rows.feedLaddersRow.ifaces == (Try.f10.params.toList ++ Rows.feedLaddersSpec.plain.varTypes Try.prog).any (Try.prog.ifacesRec ·)) = true := by kernel_rfl
theorem Qxt : (Rows.feedLaddersRow.mapsOut == Try.prog.mapsAmong Try.f10.resultTypes.toList) = true := by kernel_rfl
theorem Qxu : (Rows.feedLaddersRow.loops == (Try.f10.params.toList ++ Rows.feedLaddersSpec.plain.varTypes Try.prog).any (Try.prog.loopsFrom ·)) = true := by kernel_rfl
theorem Qxv : (Rows.feedLaddersRow.wideKeys == (Try.f10.params.toList ++ Rows.feedLaddersSpec.plain.varTypes Try.prog ++ Try.f10.resultTypes.toList).any (Try.prog.wideKeysFrom ·)) = true := by kernel_rfl
theorem Qxw : Rows.feedLaddersSpec.vars.all (Try.prog.varReadable ·) = true := by kernel_rfl
theorem Qxx : Try.f10.resultTypes.all (fun t => Try.prog.readableRec t && decide (t < Try.prog.types.size)) = true := by kernel_rfl
theorem Qxz : (Rows.feedLaddersRow.ifacesOut == Try.f10.resultTypes.toList.any (Try.prog.ifacesRec ·)) = true := by kernel_rfl
theorem Qya : (Rows.feedLaddersRow.loopsOut == Try.f10.resultTypes.toList.any (Try.prog.loopsFrom ·)) = true := by kernel_rfl
theorem Qyb : (Rows.feedLaddersRow.plainKeys == Try.prog.plainKeys) = true := by kernel_rfl
theorem Qyc : Rows.feedLaddersRow.shortTexts.isNone = true := by kernel_rfl
theorem Qyd : Try.prog.stopsHeard = true := by kernel_rfl
theorem Qye : Try.prog.mayEnter = true := by kernel_rfl
theorem Qyf : (Rows.feedLaddersRow.lifted == Try.prog.liftsFinal) = true := by kernel_rfl
theorem Qyg : (Try.prog.make == some Rows.feedLaddersRow.make) = true := by kernel_rfl
theorem Qyh : (Rows.feedLaddersRow.kinds == (if Rows.feedLaddersRow.domain.isEmpty then [] else Try.f10.params.toList.map fun t => match Try.prog.underlying t with | some (.int k) => some k | _ => none)) = true := by kernel_rfl
theorem Qyi : (Rows.feedLaddersRow.pinned == Rows.feedLaddersRow.pinnedBy) = true := by kernel_rfl
theorem Qyk : (Rows.feedLaddersRow.veiled == (Try.f10.params.toList ++ Rows.feedLaddersSpec.plain.varTypes Try.prog ++ Try.f10.resultTypes.toList).any (Try.prog.veiledRec ·)) = true := by kernel_rfl
theorem Qyl : Rows.feedLaddersRow.veiledFits Try.prog Try.f10.params.toList (Try.f10.params.toList ++ Rows.feedLaddersSpec.plain.varTypes Try.prog ++ Try.f10.resultTypes.toList) = true := by kernel_rfl
theorem Xs {a b : Bool} (ha : a = true) (hb : b = true) : (a && b) = true := by subst ha; subst hb; rfl
theorem closed : joinedFacts Try.prog 10 Try.f10 Rows.feedLaddersSpec Rows.feedLaddersRow = true := (Xs (Xs (Xs (Xs (Xs (Xs (Xs (Xs (Xs (Xs (Xs (Xs (Xs (Xs (Xs (Xs (Xs (Xs (Xs (Xs (Xs (Xs (Xs (Xs (Xs (Xs (Xs (Xs (Xs (Xs (Xs Qxm Qxn) Qxy) Qyj) Qym) Qyn) Qyo) Qyp) Qyq) Qyr) Qxo) Qxp) Qxq) Qxr) Qxs) Qxt) Qxu) Qxv) Qxw) Qxx) Qxz) Qya) Qyb) Qyc) Qyd) Qye) Qyf) Qyg) Qyh) Qyi) Qyk) Qyl)
theorem lifted (os : Os) (started : os.Started) (H : Type) (enc : TypeId × Value → H) :
    ReturnsInLeavingWide {} Try.checked os 10 .any (Rows.feedLaddersSpec.pre6 enc Try.prog Try.f10 Rows.feedLaddersRow.domain false) (Rows.feedLaddersSpec.post enc Try.prog Try.f10 false true false false) := by
  refine returnsInLeavingWide_of_change_sized (C := Try.checked) own started Try.func10
    (ChangeSpec.witness6 (enc := enc) (C := Try.checked) false ⟨#[], #[.agg #[.slice none 0 0, .slice none 0 0], .slice none 0 0], []⟩ 8 (by kernel_rfl) (by kernel_rfl) (by kernel_rfl) (by kernel_rfl)) ?_
  intro W base args ds gs before hval hW _ _ _
  exact Qwq H enc W base args ds gs before hval hW
theorem said : Rows.FeedLaddersSaid :=
  OpenClaim.holds_of_wide_leaving 10 Try.f10 rfl rfl rfl rfl rfl rfl rfl ⟨rfl, rfl, rfl, rfl, rfl⟩ rfl rfl rfl rfl rfl (by kernel_rfl) Try.func10 closed
    (of_decide_eq_true (by kernel_rfl)) (by unfold Func.isWrapper; first | (rw [if_pos (by decide +kernel)]; kernel_rfl) | (rw [if_neg (by decide +kernel)]; exact ⟨rfl, rfl⟩))
    (fun os started H enc _ => lifted os started H enc)
#print axioms said
end Go.Proofs.Ytbplgfhjpeeieaa.feedLadders
