/- The law LockTwoOfThree answers true at every input, on every schedule, and leaves its arguments as they were. Condition: none beyond the row's own. (said in fewer words) -/
import Derived.Test.YtkdfngdamkbcnaaGreatDoorCards
import Derived.Test.YtkdfngdamkbcnaaGreatDoorTie
import Derived.Test.YtkdfngdamkbcnaaGreatDoorGwCloseRow
import Derived.Test.YtkdfngdamkbcnaaGreatDoorGwOpens
import Derived.Test.YtkdfngdamkbcnaaGreatDoorGwPTwoOfThree
set_option linter.unusedVariables false
set_option linter.unusedSimpArgs false
set_option linter.unusedSectionVars false
set_option maxRecDepth 100000
namespace Go.Proofs.YtkdfngdamkbcnaaGreatDoor.lockTwoOfThree
open Go Go.Gw Go.Conc Go.ChangeShapes Go.WideShapes Go.ChangeAt Go.RowKit
theorem own:ownKnob Tryz.prog.godebug=none := by kernel_rfl
theorem QHk:laidOutB Tryz.prog=true := by kernel_rfl
theorem QOh:Qhq Tryz.prog Tryz.f3.params.toList=true := by kernel_rfl
theorem QDd (H:Type) (enc:TypeId×Value->H) (W:World) (base:Nat) (args:Array Value) (ds gs:List (DataW H)) (before:List MemPlace)
    (hval:∀ (j:Nat) t v, Tryz.f3.params[j]?=some t->args[j]?=some v->Value.okWide Tryz.prog W .any base t v)
    (hW:DataW.Whole enc Tryz.prog Tryz.f3.params.toList Rows.lockTwoOfThreeSpec.vars false W args.toList ds gs before) :
    ∃ M last o w' t', runNT Tryz.prog (M+1) (solo (G (Frame.enter Tryz.prog 3 args .normal) []) W) #[]=(.ended o w', t')/\runN Tryz.prog M (solo (G (Frame.enter Tryz.prog 3 args .normal) []) W)=.next last /\
      step Tryz.prog last=.ended o w'/\Conc.Good Tryz.prog (fun v W' => Rows.lockTwoOfThreeSpec.post enc Tryz.prog Tryz.f3 false true false false W args v W') last o w' t' := by
  have hW' := hW
  obtain ⟨p, q, hA0, hV, rfl, hfz, hnd⟩ := hW
  have hA:DataW.TrodAll enc Tryz.prog W 0 (fun _ => true) true Tryz.f3.params.toList args.toList ds p := hA0
  rw [Tryz.params3] at hA hval
  obtain ⟨v0, vs0, d0, ds0, p0, q0, hargs, rfl, rfl, h0, r0⟩ := trodAll_cons hA
  obtain ⟨v1, vs1, d1, ds1, p1, q1, rfl, rfl, rfl, h1, r1⟩ := trodAll_cons r0
  obtain ⟨v2, vs2, d2, ds2, p2, q2, rfl, rfl, rfl, h2, r2⟩ := trodAll_cons r1
  obtain ⟨rfl, rfl, rfl⟩ := trodAll_nil r2
  obtain rfl:args=#[v0, v1, v2] := by cases args;simp_all
  obtain ⟨rfl, rfl⟩ := trodVars_none hV
  obtain ⟨cs0, x0, rfl, s0, w0⟩ := Qnl QNe Tryz.underlying26 (hval 0 26 v0 rfl rfl) h0
  obtain ⟨cs1, x1, rfl, s1, w1⟩ := Qnl QNf Tryz.underlying30 (hval 1 30 v1 rfl rfl) h1
  obtain ⟨cs2, x2, rfl, s2, w2⟩ := Qnl QNg Tryz.underlying36 (hval 2 36 v2 rfl rfl) h2
  obtain ⟨M, last, o, w', t', h1, h2, h3, h4⟩ := QSi (QHo (LtL.nil _) (Rep.step (Qsd W) s0) (Rep.step (Qsd W) s1) (Rep.step (Qsd W) s2) (QBc x0 x1 x2))
  refine ⟨M, last, o, w', t', h1, h2, h3, h4.mono fun v hp => ?_⟩
  obtain ⟨rfl, hx⟩ := hp
  exact QHr QHk QOh hW' rfl rfl rfl rfl rfl Tryz.underlying4 hx
theorem QEr:Rows.lockTwoOfThreeRow.wf (OpenSpec.ofChange Rows.lockTwoOfThreeSpec)=true := by kernel_rfl
theorem QEs:laidOutB Tryz.prog=true := by kernel_rfl
theorem QFd:mapsRowed Tryz.prog=true := by kernel_rfl
theorem QFo:Tryz.f3.params.all (Tryz.prog.readableRec ·)=true := by kernel_rfl
theorem QFr:namedTie Tryz.prog Rows.lockTwoOfThreeRow.named Rows.lockTwoOfThreeSpec.vars=true := by kernel_rfl
theorem QFs:(Rows.lockTwoOfThreeRow.stops == [])=true := by kernel_rfl
theorem QFt:(Tryz.prog.stops == [])=true := by kernel_rfl
theorem QFu:(Rows.lockTwoOfThreeRow.knobs == [])=true := by kernel_rfl
theorem QFv:(Tryz.prog.stopKnobs == [])=true := by kernel_rfl
theorem QFw:(Rows.lockTwoOfThreeRow.inPlace == Tryz.prog.inPlace 3)=true := by kernel_rfl
theorem QEt:(Rows.lockTwoOfThreeRow.unfollowed == Tryz.prog.unfollowed 3)=true := by kernel_rfl
theorem QEu:(Rows.lockTwoOfThreeRow.recurses == Tryz.prog.recurses 3)=true := by kernel_rfl
theorem QEv:(Rows.lockTwoOfThreeRow.named == Tryz.prog.varsNamed 3)=true := by kernel_rfl
theorem QEw:(Rows.lockTwoOfThreeRow.maps == (Tryz.f3.params.toList++Rows.lockTwoOfThreeSpec.plain.varTypes Tryz.prog).any (Tryz.prog.mapsRec ·))=true := by kernel_rfl
theorem QEx:(Rows.lockTwoOfThreeRow.ifaces == (Tryz.f3.params.toList++Rows.lockTwoOfThreeSpec.plain.varTypes Tryz.prog).any (Tryz.prog.ifacesRec ·))=true := by kernel_rfl
theorem QEy:(Rows.lockTwoOfThreeRow.mapsOut == Tryz.prog.mapsAmong Tryz.f3.resultTypes.toList)=true := by kernel_rfl
theorem QEz:(Rows.lockTwoOfThreeRow.loops == (Tryz.f3.params.toList++Rows.lockTwoOfThreeSpec.plain.varTypes Tryz.prog).any (Tryz.prog.loopsFrom ·))=true := by kernel_rfl
theorem QFa:(Rows.lockTwoOfThreeRow.wideKeys == (Tryz.f3.params.toList++Rows.lockTwoOfThreeSpec.plain.varTypes Tryz.prog++Tryz.f3.resultTypes.toList).any (Tryz.prog.wideKeysFrom ·))=true := by kernel_rfl
theorem QFb:Rows.lockTwoOfThreeSpec.vars.all (Tryz.prog.varReadable ·)=true := by kernel_rfl
theorem QFc:Tryz.f3.resultTypes.all (fun t => Tryz.prog.readableRec t&&decide (t < Tryz.prog.types.size))=true := by kernel_rfl
theorem QFe:(Rows.lockTwoOfThreeRow.ifacesOut == Tryz.f3.resultTypes.toList.any (Tryz.prog.ifacesRec ·))=true := by kernel_rfl
theorem QFf:(Rows.lockTwoOfThreeRow.loopsOut == Tryz.f3.resultTypes.toList.any (Tryz.prog.loopsFrom ·))=true := by kernel_rfl
theorem QFg:(Rows.lockTwoOfThreeRow.plainKeys == Tryz.prog.plainKeys)=true := by kernel_rfl
theorem QFh:Rows.lockTwoOfThreeRow.shortTexts.isNone=true := by kernel_rfl
theorem QFi:Tryz.prog.stopsHeard=true := by kernel_rfl
theorem QFj:Tryz.prog.mayEnter=true := by kernel_rfl
theorem QFk:(Rows.lockTwoOfThreeRow.lifted == Tryz.prog.liftsFinal)=true := by kernel_rfl
theorem QFl:(Tryz.prog.make == some Rows.lockTwoOfThreeRow.make)=true := by kernel_rfl
theorem QFm:(Rows.lockTwoOfThreeRow.kinds == (if Rows.lockTwoOfThreeRow.domain.isEmpty then [] else Tryz.f3.params.toList.map fun t => match Tryz.prog.underlying t with | some (.int k) => some k | _ => none))=true := by kernel_rfl
theorem QFn:(Rows.lockTwoOfThreeRow.pinned == Rows.lockTwoOfThreeRow.pinnedBy)=true := by kernel_rfl
theorem QFp:(Rows.lockTwoOfThreeRow.veiled == (Tryz.f3.params.toList++Rows.lockTwoOfThreeSpec.plain.varTypes Tryz.prog++Tryz.f3.resultTypes.toList).any (Tryz.prog.veiledRec ·))=true := by kernel_rfl
theorem QFq:Rows.lockTwoOfThreeRow.veiledFits Tryz.prog Tryz.f3.params.toList (Tryz.f3.params.toList++Rows.lockTwoOfThreeSpec.plain.varTypes Tryz.prog++Tryz.f3.resultTypes.toList)=true := by kernel_rfl
theorem Yg {a b:Bool} (ha:a=true) (hb:b=true):(a&&b)=true := by subst ha;subst hb;rfl
theorem QCw:joinedFacts Tryz.prog 3 Tryz.f3 Rows.lockTwoOfThreeSpec Rows.lockTwoOfThreeRow=true := (Yg (Yg (Yg (Yg (Yg (Yg (Yg (Yg (Yg (Yg (Yg (Yg (Yg (Yg (Yg (Yg (Yg (Yg (Yg (Yg (Yg (Yg (Yg (Yg (Yg (Yg (Yg (Yg (Yg (Yg (Yg QEr QEs) QFd) QFo) QFr) QFs) QFt) QFu) QFv) QFw) QEt) QEu) QEv) QEw) QEx) QEy) QEz) QFa) QFb) QFc) QFe) QFf) QFg) QFh) QFi) QFj) QFk) QFl) QFm) QFn) QFp) QFq)
def Qoq (vs:Array Value):Obj->Obj
  | .cells _ t frozen => .cells vs t frozen
  | o => o
noncomputable def Qor (os:Os):World := { World.holding Tryz.prog os ⟨#[], #[], []⟩ with heap := ((((World.holding Tryz.prog os ⟨#[], #[], []⟩).heap.modify 0 (Qoq #[.int .u64 1, .int .u64 10, .int .u64 100, .int .u64 1000, .int .u64 10000, .int .u64 100000, .int .u64 1000000, .int .u64 10000000, .int .u64 100000000, .int .u64 1000000000, .int .u64 10000000000, .int .u64 100000000000, .int .u64 1000000000000, .int .u64 10000000000000, .int .u64 100000000000000, .int .u64 1000000000000000, .int .u64 10000000000000000, .int .u64 100000000000000000, .int .u64 1000000000000000000, .int .u64 10000000000000000000])).modify 2 (Qoq #[.int .u8 0, .int .u8 1, .int .u8 28, .int .u8 2, .int .u8 29, .int .u8 14, .int .u8 24, .int .u8 3, .int .u8 30, .int .u8 22, .int .u8 20, .int .u8 15, .int .u8 25, .int .u8 17, .int .u8 4, .int .u8 8, .int .u8 31, .int .u8 27, .int .u8 13, .int .u8 23, .int .u8 21, .int .u8 19, .int .u8 16, .int .u8 7, .int .u8 26, .int .u8 12, .int .u8 18, .int .u8 6, .int .u8 11, .int .u8 5, .int .u8 10, .int .u8 9])).modify 3 (Qoq #[.int .u8 0, .int .u8 1, .int .u8 56, .int .u8 2, .int .u8 57, .int .u8 49, .int .u8 28, .int .u8 3, .int .u8 61, .int .u8 58, .int .u8 42, .int .u8 50, .int .u8 38, .int .u8 29, .int .u8 17, .int .u8 4, .int .u8 62, .int .u8 47, .int .u8 59, .int .u8 36, .int .u8 45, .int .u8 43, .int .u8 51, .int .u8 22, .int .u8 53, .int .u8 39, .int .u8 33, .int .u8 30, .int .u8 24, .int .u8 18, .int .u8 12, .int .u8 5, .int .u8 63, .int .u8 55, .int .u8 48, .int .u8 27, .int .u8 60, .int .u8 41, .int .u8 37, .int .u8 16, .int .u8 46, .int .u8 35, .int .u8 44, .int .u8 21, .int .u8 52, .int .u8 32, .int .u8 23, .int .u8 11, .int .u8 54, .int .u8 26, .int .u8 40, .int .u8 15, .int .u8 34, .int .u8 20, .int .u8 31, .int .u8 10, .int .u8 25, .int .u8 14, .int .u8 19, .int .u8 9, .int .u8 13, .int .u8 8, .int .u8 7, .int .u8 6])) }
theorem QHl (os:Os):laidMet Tryz.prog Rows.lockTwoOfThreeRow.laid ((Qor os).forCall (fun _ _ => 0) ⟨#[], #[.agg #[.slice none 0 0, .slice none 0 0, .slice none 0 0, .slice none 0 0], .agg #[.slice none 0 0, .slice none 0 0, .int .i64 0], .agg #[.int .i64 0, .int .i64 0, .int .i64 0, .int .i64 0, .int .i64 0, .int .i64 0, .int .i64 0, .int .i64 0, .int .i64 0, .int .i64 0, .int .i64 0, .int .i64 0]], []⟩).memory :=
  laidMet_of_run' 8 (by kernel_rfl) (by kernel_rfl)
theorem Qxt (os:Os) {H:Type} (enc:TypeId×Value->H):∃ places, DataW.whole enc Tryz.prog ((Qor os).forCall (fun _ _ => 0) ⟨#[], #[.agg #[.slice none 0 0, .slice none 0 0, .slice none 0 0, .slice none 0 0], .agg #[.slice none 0 0, .slice none 0 0, .int .i64 0], .agg #[.int .i64 0, .int .i64 0, .int .i64 0, .int .i64 0, .int .i64 0, .int .i64 0, .int .i64 0, .int .i64 0, .int .i64 0, .int .i64 0, .int .i64 0, .int .i64 0]], []⟩).memory Tryz.f3.params.toList Rows.lockTwoOfThreeSpec.vars false (#[.agg #[.slice none 0 0, .slice none 0 0, .slice none 0 0, .slice none 0 0], .agg #[.slice none 0 0, .slice none 0 0, .int .i64 0], .agg #[.int .i64 0, .int .i64 0, .int .i64 0, .int .i64 0, .int .i64 0, .int .i64 0, .int .i64 0, .int .i64 0, .int .i64 0, .int .i64 0, .int .i64 0, .int .i64 0]]:Array Value).toList 8=some ([.agg [.nil, .nil, .nil, .nil], .agg [.nil, .nil, .lit (.int .i64 0)], .agg [.agg [.lit (.int .i64 0), .lit (.int .i64 0), .lit (.int .i64 0)], .lit (.int .i64 0), .lit (.int .i64 0), .agg [.lit (.int .i64 0), .lit (.int .i64 0), .lit (.int .i64 0), .lit (.int .i64 0), .lit (.int .i64 0)], .lit (.int .i64 0), .lit (.int .i64 0)]], [], places) :=
  ⟨[], by kernel_rfl⟩
theorem lifted (os:Os) (started:os.Started) (H:Type) (enc:TypeId×Value->H) :
    ReturnsInLeavingWide {} Tryz.checked os 3 .any ((OpenSpec.ofChange Rows.lockTwoOfThreeSpec).preRow enc Tryz.prog Tryz.f3 Rows.lockTwoOfThreeRow.domain false Rows.lockTwoOfThreeRow.laid) (Rows.lockTwoOfThreeSpec.post enc Tryz.prog Tryz.f3 false true false false) := by
  obtain ⟨places, hx⟩ := Qxt os enc
  refine QOd (C := Tryz.checked) (s := Rows.lockTwoOfThreeSpec) own started Tryz.func3
    (witness_row_at (enc := enc) (C := Tryz.checked) false (Qor os) #[.agg #[.slice none 0 0, .slice none 0 0, .slice none 0 0, .slice none 0 0], .agg #[.slice none 0 0, .slice none 0 0, .int .i64 0], .agg #[.int .i64 0, .int .i64 0, .int .i64 0, .int .i64 0, .int .i64 0, .int .i64 0, .int .i64 0, .int .i64 0, .int .i64 0, .int .i64 0, .int .i64 0, .int .i64 0]] rfl (by kernel_rfl) (by kernel_rfl) (by kernel_rfl)
      (OpenSpec.preRow_of_cond 8 hx (by kernel_rfl) (fun k hk => by cases hk) (by kernel_rfl) (QHl os))) ?_
  intro W base args ds gs before hval hW hwt hL _
  exact QDd H enc W base args ds gs before hval hW
theorem said:Rows.LockTwoOfThreeSaid :=
  OpenClaim.holds_of_wide_leaving 3 Tryz.f3 rfl rfl rfl rfl rfl rfl rfl ⟨rfl, rfl, rfl, rfl, rfl⟩ rfl rfl rfl rfl rfl (by kernel_rfl) Tryz.func3 QCw
    (of_decide_eq_true (by kernel_rfl)) (by unfold Func.isWrapper;first | (rw [if_pos (by decide +kernel)];kernel_rfl) | (rw [if_neg (by decide +kernel)];exact ⟨rfl, rfl⟩))
    (fun os started H enc _ => by rw [OpenClaim.pre_eq_preRow];exact lifted os started H enc)
theorem plain (f:FuncId) (fn:Func) (hf:Tryz.pinned.checked.prog.funcNamed Rows.lockTwoOfThreeRow.func=some f) (hfn:Tryz.pinned.checked.prog.funcs[f]?=some fn) :
    false=Tryz.pinned.checked.prog.looks []/\∀ (j:Nat) t, fn.params[j]?=some t->Tryz.pinned.checked.prog.wantsStandIn t=false := by
  obtain rfl:f=3 := Option.some.inj ((show Tryz.prog.funcNamed Rows.lockTwoOfThreeRow.func=some 3 by kernel_rfl).symm.trans hf) |>.symm
  obtain rfl:fn=Tryz.f3 := (Option.some.inj (Tryz.func3.symm.trans hfn)).symm
  refine ⟨by kernel_rfl, fun j t ht => ?_⟩
  rw [Tryz.params3] at ht
  have hm := Array.mem_of_getElem? ht
  have hall:(#[26, 30, 36]:Array TypeId).all (fun t => !Tryz.prog.wantsStandIn t)=true := by kernel_rfl
  have := Array.all_eq_true'.1 hall t hm
  show Tryz.prog.wantsStandIn t=false
  simpa using this
theorem wfT:Rows.lockTwoOfThreeRow.wfByText (OpenSpec.ofChange Rows.lockTwoOfThreeSpec)=true := by kernel_rfl
theorem QJw:Tryz.pinned.checked.prog.mainIs=some (Rows.lockTwoOfThreeCard.stood.harness.1, Rows.lockTwoOfThreeCard.stood.harness.2.toList) := by kernel_rfl
theorem QGm:true=Rows.lockTwoOfThreeRow.goesBy Tryz.pinned.checked.prog := by kernel_rfl
theorem card:Rows.LockTwoOfThreeCardSaid :=
  Claim7.holds_tied_goes_at .later _ _ _ _ _ said wfT lockTwoOfThree_row_tie rfl ⟨rfl, rfl⟩ QJw rfl plain QGm
#print axioms card
end Go.Proofs.YtkdfngdamkbcnaaGreatDoor.lockTwoOfThree
