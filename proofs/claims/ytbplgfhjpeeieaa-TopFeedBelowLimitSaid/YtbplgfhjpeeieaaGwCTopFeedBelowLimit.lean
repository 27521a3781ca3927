/- The law TopFeedBelowLimit answers true at every input, on every schedule, and leaves its arguments as they were. Condition: none beyond the row's own. -/
import Derived.Test.YtbplgfhjpeeieaaRows
import Derived.Test.YtbplgfhjpeeieaaGwOpens
import Derived.Test.YtbplgfhjpeeieaaGwPBelowLimit
set_option linter.unusedVariables false
set_option linter.unusedSimpArgs false
set_option linter.unusedSectionVars false
set_option maxRecDepth 100000
namespace Go.Proofs.Ytbplgfhjpeeieaa.topFeedBelowLimit
open Go Go.Gw Go.Conc Go.ChangeShapes Go.WideShapes Go.ChangeAt Go.RowKit
theorem own : ownKnob Try.prog.godebug = none := by kernel_rfl
theorem QCi : laidOutB Try.prog = true := by kernel_rfl
theorem Qsh : Qef Try.prog Try.f18.params.toList = true := by kernel_rfl
theorem Qwn (H : Type) (enc : TypeId × Value → H) (W : World) (base : Nat) (args : Array Value) (ds gs : List (DataW H)) (before : List MemPlace)
    (hval : ∀ (j : Nat) t v, Try.f18.params[j]? = some t → args[j]? = some v → Value.okWide Try.prog W .any base t v)
    (hW : DataW.Whole enc Try.prog Try.f18.params.toList Rows.topFeedBelowLimitSpec.vars false W args.toList ds gs before) :
    ∃ M last o w' t', runNT Try.prog (M + 1) (solo (G (Frame.enter Try.prog 18 args .normal) []) W) #[] = (.ended o w', t') ∧ runN Try.prog M (solo (G (Frame.enter Try.prog 18 args .normal) []) W) = .next last ∧
      step Try.prog last = .ended o w' ∧ Conc.Good Try.prog (fun v W' => Rows.topFeedBelowLimitSpec.post enc Try.prog Try.f18 false true false false W args v W') last o w' t' := by
  have hW' := hW
  obtain ⟨p, q, hA0, hV, rfl, hfz, hnd⟩ := hW
  have hA : DataW.TrodAll enc Try.prog W 0 (fun _ => true) true Try.f18.params.toList args.toList ds p := hA0
  rw [Try.params18] at hA hval
  obtain ⟨v0, vs0, d0, ds0, p0, q0, hargs, rfl, rfl, h0, r0⟩ := trodAll_cons hA
  obtain ⟨v1, vs1, d1, ds1, p1, q1, rfl, rfl, rfl, h1, r1⟩ := trodAll_cons r0
  obtain ⟨v2, vs2, d2, ds2, p2, q2, rfl, rfl, rfl, h2, r2⟩ := trodAll_cons r1
  obtain ⟨rfl, rfl, rfl⟩ := trodAll_nil r2
  obtain rfl : args = #[v0, v1, v2] := by cases args; simp_all
  obtain ⟨rfl, rfl⟩ := trodVars_none hV
  obtain ⟨cs0, x0, rfl, s0, w0⟩ := Qvm QEu Try.underlying26 (hval 0 26 v0 rfl rfl) h0
  obtain ⟨x1, s1, w1⟩ := Qvo QEv Try.underlying29 (hval 1 29 v1 rfl rfl) h1
  obtain ⟨x2, rfl, w2⟩ := Qvn Try.underlying3 (hval 2 3 v2 rfl rfl) h2
  obtain ⟨M, last, o, w', t', h1, h2, h3, h4⟩ := QJp (QBw [] (Zx W) (LtL.nil _) cs0 x0 (Rep.step (Qun W) s0) v1 x1 (s1.step (Qun W)) x2 true (Qva x0 x1 x2))
  refine ⟨M, last, o, w', t', h1, h2, h3, h4.mono fun v hp => ?_⟩
  obtain ⟨rfl, hx⟩ := hp
  exact QCk QCi Qsh hW' rfl rfl rfl rfl rfl Try.underlying4 hx
theorem Qxo : Rows.topFeedBelowLimitRow.wf (OpenSpec.ofChange Rows.topFeedBelowLimitSpec) = true := by kernel_rfl
theorem Qxp : laidOutB Try.prog = true := by kernel_rfl
theorem Qya : mapsRowed Try.prog = true := by kernel_rfl
theorem Qyl : Try.f18.params.all (Try.prog.readableRec ·) = true := by kernel_rfl
theorem Qyo : namedTie Try.prog Rows.topFeedBelowLimitRow.named Rows.topFeedBelowLimitSpec.vars = true := by kernel_rfl
theorem Qyp : (Rows.topFeedBelowLimitRow.stops == []) = true := by kernel_rfl
theorem Qyq : (Try.prog.stops == []) = true := by kernel_rfl
theorem Qyr : (Rows.topFeedBelowLimitRow.knobs == []) = true := by kernel_rfl
theorem Qys : (Try.prog.stopKnobs == []) = true := by kernel_rfl
theorem Qyt : (Rows.topFeedBelowLimitRow.inPlace == Try.prog.inPlace 18) = true := by kernel_rfl
theorem Qxq : (Rows.topFeedBelowLimitRow.unfollowed == Try.prog.unfollowed 18) = true := by kernel_rfl
theorem Qxr : (Rows.topFeedBelowLimitRow.recurses == Try.prog.recurses 18) = true := by kernel_rfl
theorem Qxs : (Rows.topFeedBelowLimitRow.named == Try.prog.varsNamed 18) = true := by kernel_rfl
theorem Qxt : (Rows.topFeedBelowLimitRow.maps == (Try.f18.params.toList ++ Rows.topFeedBelowLimitSpec.plain.varTypes Try.prog).any (Try.prog.mapsRec ·)) = true := by kernel_rfl
theorem Qxu : (Rows.topFeedBelowLimitRow.ifaces == (Try.f18.params.toList ++ Rows.topFeedBelowLimitSpec.plain.varTypes Try.prog).any (Try.prog.ifacesRec ·)) = true := by kernel_rfl
theorem Qxv : (Rows.topFeedBelowLimitRow.mapsOut == Try.prog.mapsAmong Try.f18.resultTypes.toList) = true := by kernel_rfl
theorem Qxw : (Rows.topFeedBelowLimitRow.loops == (Try.f18.params.toList ++ Rows.topFeedBelowLimitSpec.plain.varTypes Try.prog).any (Try.prog.loopsFrom ·)) = true := by kernel_rfl
theorem Qxx : (Rows.topFeedBelowLimitRow.wideKeys == (Try.f18.params.toList ++ Rows.topFeedBelowLimitSpec.plain.varTypes Try.prog ++ Try.f18.resultTypes.toList).any (Try.prog.wideKeysFrom ·)) = true := by kernel_rfl
theorem Qxy : Rows.topFeedBelowLimitSpec.vars.all (Try.prog.varReadable ·) = true := by kernel_rfl
theorem Qxz : Try.f18.resultTypes.all (fun t => Try.prog.readableRec t && decide (t < Try.prog.types.size)) = true := by kernel_rfl
theorem Qyb : (Rows.topFeedBelowLimitRow.ifacesOut == Try.f18.resultTypes.toList.any (Try.prog.ifacesRec ·)) = true := by kernel_rfl
theorem Qyc : (Rows.topFeedBelowLimitRow.loopsOut == Try.f18.resultTypes.toList.any (Try.prog.loopsFrom ·)) = true := by kernel_rfl
theorem Qyd : (Rows.topFeedBelowLimitRow.plainKeys == Try.prog.plainKeys) = true := by kernel_rfl
theorem Qye : Rows.topFeedBelowLimitRow.shortTexts.isNone = true := by kernel_rfl
theorem Qyf : Try.prog.stopsHeard = true := by kernel_rfl
theorem Qyg : Try.prog.mayEnter = true := by kernel_rfl
theorem Qyh : (Rows.topFeedBelowLimitRow.lifted == Try.prog.liftsFinal) = true := by kernel_rfl
theorem Qyi : (Try.prog.make == some Rows.topFeedBelowLimitRow.make) = true := by kernel_rfl
theorem Qyj : (Rows.topFeedBelowLimitRow.kinds == (if Rows.topFeedBelowLimitRow.domain.isEmpty then [] else Try.f18.params.toList.map fun t => match Try.prog.underlying t with | some (.int k) => some k | _ => none)) = true := by kernel_rfl
theorem Qyk : (Rows.topFeedBelowLimitRow.pinned == Rows.topFeedBelowLimitRow.pinnedBy) = true := by kernel_rfl
theorem Qym : (Rows.topFeedBelowLimitRow.veiled == (Try.f18.params.toList ++ Rows.topFeedBelowLimitSpec.plain.varTypes Try.prog ++ Try.f18.resultTypes.toList).any (Try.prog.veiledRec ·)) = true := by kernel_rfl
theorem Qyn : Rows.topFeedBelowLimitRow.veiledFits Try.prog Try.f18.params.toList (Try.f18.params.toList ++ Rows.topFeedBelowLimitSpec.plain.varTypes Try.prog ++ Try.f18.resultTypes.toList) = true := by kernel_rfl
theorem XX {a b : Bool} (ha : a = true) (hb : b = true) : (a && b) = true := by subst ha; subst hb; rfl
theorem closed : joinedFacts Try.prog 18 Try.f18 Rows.topFeedBelowLimitSpec Rows.topFeedBelowLimitRow = true := (XX (XX (XX (XX (XX (XX (XX (XX (XX (XX (XX (XX (XX (XX (XX (XX (XX (XX (XX (XX (XX (XX (XX (XX (XX (XX (XX (XX (XX (XX (XX Qxo Qxp) Qya) Qyl) Qyo) Qyp) Qyq) Qyr) Qys) Qyt) Qxq) Qxr) Qxs) Qxt) Qxu) Qxv) Qxw) Qxx) Qxy) Qxz) Qyb) Qyc) Qyd) Qye) Qyf) Qyg) Qyh) Qyi) Qyj) Qyk) Qym) Qyn)
theorem lifted (os : Os) (started : os.Started) (H : Type) (enc : TypeId × Value → H) :
    ReturnsInLeavingWide {} Try.checked os 18 .any (Rows.topFeedBelowLimitSpec.pre6 enc Try.prog Try.f18 Rows.topFeedBelowLimitRow.domain false) (Rows.topFeedBelowLimitSpec.post enc Try.prog Try.f18 false true false false) := by
  refine returnsInLeavingWide_of_change_sized (C := Try.checked) own started Try.func18
    (ChangeSpec.witness6 (enc := enc) (C := Try.checked) false ⟨#[], #[.agg #[.slice none 0 0, .slice none 0 0, .slice none 0 0], .slice none 0 0, .int .i64 0], []⟩ 8 (by kernel_rfl) (by kernel_rfl) (by kernel_rfl) (by kernel_rfl)) ?_
  intro W base args ds gs before hval hW _ hwt _
  exact Qwn H enc W base args ds gs before hval hW
theorem said : Rows.TopFeedBelowLimitSaid :=
  OpenClaim.holds_of_wide_leaving 18 Try.f18 rfl rfl rfl rfl rfl rfl rfl ⟨rfl, rfl, rfl, rfl, rfl⟩ rfl rfl rfl rfl rfl (by kernel_rfl) Try.func18 closed
    (of_decide_eq_true (by kernel_rfl)) (by unfold Func.isWrapper; first | (rw [if_pos (by decide +kernel)]; kernel_rfl) | (rw [if_neg (by decide +kernel)]; exact ⟨rfl, rfl⟩))
    (fun os started H enc _ => lifted os started H enc)
#print axioms said
end Go.Proofs.Ytbplgfhjpeeieaa.topFeedBelowLimit
