/- The law LockReaches answers true at every input, on every schedule, and leaves its arguments as they were. Condition: none beyond the row's own. (said in fewer words) -/
import Derived.Test.YthonianbjkhnpaaGreatDoorCards
import Derived.Test.YthonianbjkhnpaaGreatDoorTie
import Derived.Test.YthonianbjkhnpaaGreatDoorGwCloseRow
import Derived.Test.YthonianbjkhnpaaGreatDoorGwOpens
import Derived.Test.YthonianbjkhnpaaGreatDoorGwPReaches
set_option linter.unusedVariables false
set_option linter.unusedSimpArgs false
set_option linter.unusedSectionVars false
set_option maxRecDepth 100000
namespace Go.Proofs.YthonianbjkhnpaaGreatDoor.lockReaches
open Go Go.Gw Go.Conc Go.ChangeShapes Go.WideShapes Go.ChangeAt Go.RowKit
theorem own:ownKnob Tryz.prog.godebug=none := by kernel_rfl
theorem QIp:laidOutB Tryz.prog=true := by kernel_rfl
theorem QQb:Qih Tryz.prog Tryz.f3.params.toList=true := by kernel_rfl
theorem QEs (H:Type) (enc:TypeId×Value->H) (W:World) (base:Nat) (args:Array Value) (ds gs:List (DataW H)) (before:List MemPlace)
    (hval:∀ (j:Nat) t v, Tryz.f3.params[j]?=some t->args[j]?=some v->Value.okWide Tryz.prog W .any base t v)
    (hW:DataW.Whole enc Tryz.prog Tryz.f3.params.toList Rows.lockReachesSpec.vars false W args.toList ds gs before) :
    ∃ M last o w' t', runNT Tryz.prog (M+1) (solo (G (Frame.enter Tryz.prog 3 args .normal) []) W) #[]=(.ended o w', t')/\runN Tryz.prog M (solo (G (Frame.enter Tryz.prog 3 args .normal) []) W)=.next last /\
      step Tryz.prog last=.ended o w'/\Conc.Good Tryz.prog (fun v W' => Rows.lockReachesSpec.post enc Tryz.prog Tryz.f3 false true false false W args v W') last o w' t' := by
  have hW' := hW
  obtain ⟨p, q, hA0, hV, rfl, hfz, hnd⟩ := hW
  have hA:DataW.TrodAll enc Tryz.prog W 0 (fun _ => true) true Tryz.f3.params.toList args.toList ds p := hA0
  rw [Tryz.params3] at hA hval
  obtain ⟨v0, vs0, d0, ds0, p0, q0, hargs, rfl, rfl, h0, r0⟩ := trodAll_cons hA
  obtain ⟨rfl, rfl, rfl⟩ := trodAll_nil r0
  obtain rfl:args=#[v0] := by cases args;simp_all
  obtain ⟨rfl, rfl⟩ := trodVars_none hV
  obtain ⟨cs0, x0, rfl, s0, w0⟩ := QDr QOj Tryz.underlying26 (hval 0 26 v0 rfl rfl) h0
  obtain ⟨M, last, o, w', t', h1, h2, h3, h4⟩ := QTq (QIr (LtL.nil _) (Rep.step (QTz W) s0) (QCo x0))
  refine ⟨M, last, o, w', t', h1, h2, h3, h4.mono fun v hp => ?_⟩
  obtain ⟨rfl, hx⟩ := hp
  exact QIv QIp QQb hW' rfl rfl rfl rfl rfl Tryz.underlying4 hx
theorem QFy:Rows.lockReachesRow.wf (OpenSpec.ofChange Rows.lockReachesSpec)=true := by kernel_rfl
theorem QFz:laidOutB Tryz.prog=true := by kernel_rfl
theorem QGk:mapsRowed Tryz.prog=true := by kernel_rfl
theorem QGv:Tryz.f3.params.all (Tryz.prog.readableRec ·)=true := by kernel_rfl
theorem QGy:namedTie Tryz.prog Rows.lockReachesRow.named Rows.lockReachesSpec.vars=true := by kernel_rfl
theorem QGz:(Rows.lockReachesRow.stops == [])=true := by kernel_rfl
theorem QHa:(Tryz.prog.stops == [])=true := by kernel_rfl
theorem QHb:(Rows.lockReachesRow.knobs == [])=true := by kernel_rfl
theorem QHc:(Tryz.prog.stopKnobs == [])=true := by kernel_rfl
theorem QHd:(Rows.lockReachesRow.inPlace == Tryz.prog.inPlace 3)=true := by kernel_rfl
theorem QGa:(Rows.lockReachesRow.unfollowed == Tryz.prog.unfollowed 3)=true := by kernel_rfl
theorem QGb:(Rows.lockReachesRow.recurses == Tryz.prog.recurses 3)=true := by kernel_rfl
theorem QGc:(Rows.lockReachesRow.named == Tryz.prog.varsNamed 3)=true := by kernel_rfl
theorem QGd:(Rows.lockReachesRow.maps == (Tryz.f3.params.toList++Rows.lockReachesSpec.plain.varTypes Tryz.prog).any (Tryz.prog.mapsRec ·))=true := by kernel_rfl
theorem QGe:(Rows.lockReachesRow.ifaces == (Tryz.f3.params.toList++Rows.lockReachesSpec.plain.varTypes Tryz.prog).any (Tryz.prog.ifacesRec ·))=true := by kernel_rfl
theorem QGf:(Rows.lockReachesRow.mapsOut == Tryz.prog.mapsAmong Tryz.f3.resultTypes.toList)=true := by kernel_rfl
theorem QGg:(Rows.lockReachesRow.loops == (Tryz.f3.params.toList++Rows.lockReachesSpec.plain.varTypes Tryz.prog).any (Tryz.prog.loopsFrom ·))=true := by kernel_rfl
theorem QGh:(Rows.lockReachesRow.wideKeys == (Tryz.f3.params.toList++Rows.lockReachesSpec.plain.varTypes Tryz.prog++Tryz.f3.resultTypes.toList).any (Tryz.prog.wideKeysFrom ·))=true := by kernel_rfl
theorem QGi:Rows.lockReachesSpec.vars.all (Tryz.prog.varReadable ·)=true := by kernel_rfl
theorem QGj:Tryz.f3.resultTypes.all (fun t => Tryz.prog.readableRec t&&decide (t < Tryz.prog.types.size))=true := by kernel_rfl
theorem QGl:(Rows.lockReachesRow.ifacesOut == Tryz.f3.resultTypes.toList.any (Tryz.prog.ifacesRec ·))=true := by kernel_rfl
theorem QGm:(Rows.lockReachesRow.loopsOut == Tryz.f3.resultTypes.toList.any (Tryz.prog.loopsFrom ·))=true := by kernel_rfl
theorem QGn:(Rows.lockReachesRow.plainKeys == Tryz.prog.plainKeys)=true := by kernel_rfl
theorem QGo:Rows.lockReachesRow.shortTexts.isNone=true := by kernel_rfl
theorem QGp:Tryz.prog.stopsHeard=true := by kernel_rfl
theorem QGq:Tryz.prog.mayEnter=true := by kernel_rfl
theorem QGr:(Rows.lockReachesRow.lifted == Tryz.prog.liftsFinal)=true := by kernel_rfl
theorem QGs:(Tryz.prog.make == some Rows.lockReachesRow.make)=true := by kernel_rfl
theorem QGt:(Rows.lockReachesRow.kinds == (if Rows.lockReachesRow.domain.isEmpty then [] else Tryz.f3.params.toList.map fun t => match Tryz.prog.underlying t with | some (.int k) => some k | _ => none))=true := by kernel_rfl
theorem QGu:(Rows.lockReachesRow.pinned == Rows.lockReachesRow.pinnedBy)=true := by kernel_rfl
theorem QGw:(Rows.lockReachesRow.veiled == (Tryz.f3.params.toList++Rows.lockReachesSpec.plain.varTypes Tryz.prog++Tryz.f3.resultTypes.toList).any (Tryz.prog.veiledRec ·))=true := by kernel_rfl
theorem QGx:Rows.lockReachesRow.veiledFits Tryz.prog Tryz.f3.params.toList (Tryz.f3.params.toList++Rows.lockReachesSpec.plain.varTypes Tryz.prog++Tryz.f3.resultTypes.toList)=true := by kernel_rfl
theorem YB {a b:Bool} (ha:a=true) (hb:b=true):(a&&b)=true := by subst ha;subst hb;rfl
theorem QEn:joinedFacts Tryz.prog 3 Tryz.f3 Rows.lockReachesSpec Rows.lockReachesRow=true := (YB (YB (YB (YB (YB (YB (YB (YB (YB (YB (YB (YB (YB (YB (YB (YB (YB (YB (YB (YB (YB (YB (YB (YB (YB (YB (YB (YB (YB (YB (YB QFy QFz) QGk) QGv) QGy) QGz) QHa) QHb) QHc) QHd) QGa) QGb) QGc) QGd) QGe) QGf) QGg) QGh) QGi) QGj) QGl) QGm) QGn) QGo) QGp) QGq) QGr) QGs) QGt) QGu) QGw) QGx)
def Qqn (vs:Array Value):Obj->Obj
  | .cells _ t frozen => .cells vs t frozen
  | o => o
noncomputable def Qqo (os:Os):World := { World.holding Tryz.prog os ⟨#[], #[], []⟩ with heap := ((((World.holding Tryz.prog os ⟨#[], #[], []⟩).heap.modify 0 (Qqn #[.int .u64 1, .int .u64 10, .int .u64 100, .int .u64 1000, .int .u64 10000, .int .u64 100000, .int .u64 1000000, .int .u64 10000000, .int .u64 100000000, .int .u64 1000000000, .int .u64 10000000000, .int .u64 100000000000, .int .u64 1000000000000, .int .u64 10000000000000, .int .u64 100000000000000, .int .u64 1000000000000000, .int .u64 10000000000000000, .int .u64 100000000000000000, .int .u64 1000000000000000000, .int .u64 10000000000000000000])).modify 2 (Qqn #[.int .u8 0, .int .u8 1, .int .u8 28, .int .u8 2, .int .u8 29, .int .u8 14, .int .u8 24, .int .u8 3, .int .u8 30, .int .u8 22, .int .u8 20, .int .u8 15, .int .u8 25, .int .u8 17, .int .u8 4, .int .u8 8, .int .u8 31, .int .u8 27, .int .u8 13, .int .u8 23, .int .u8 21, .int .u8 19, .int .u8 16, .int .u8 7, .int .u8 26, .int .u8 12, .int .u8 18, .int .u8 6, .int .u8 11, .int .u8 5, .int .u8 10, .int .u8 9])).modify 3 (Qqn #[.int .u8 0, .int .u8 1, .int .u8 56, .int .u8 2, .int .u8 57, .int .u8 49, .int .u8 28, .int .u8 3, .int .u8 61, .int .u8 58, .int .u8 42, .int .u8 50, .int .u8 38, .int .u8 29, .int .u8 17, .int .u8 4, .int .u8 62, .int .u8 47, .int .u8 59, .int .u8 36, .int .u8 45, .int .u8 43, .int .u8 51, .int .u8 22, .int .u8 53, .int .u8 39, .int .u8 33, .int .u8 30, .int .u8 24, .int .u8 18, .int .u8 12, .int .u8 5, .int .u8 63, .int .u8 55, .int .u8 48, .int .u8 27, .int .u8 60, .int .u8 41, .int .u8 37, .int .u8 16, .int .u8 46, .int .u8 35, .int .u8 44, .int .u8 21, .int .u8 52, .int .u8 32, .int .u8 23, .int .u8 11, .int .u8 54, .int .u8 26, .int .u8 40, .int .u8 15, .int .u8 34, .int .u8 20, .int .u8 31, .int .u8 10, .int .u8 25, .int .u8 14, .int .u8 19, .int .u8 9, .int .u8 13, .int .u8 8, .int .u8 7, .int .u8 6])) }
theorem QIq (os:Os):laidMet Tryz.prog Rows.lockReachesRow.laid ((Qqo os).forCall (fun _ _ => 0) ⟨#[], #[.agg #[.slice none 0 0, .slice none 0 0, .slice none 0 0, .slice none 0 0]], []⟩).memory :=
  laidMet_of_run' 8 (by kernel_rfl) (by kernel_rfl)
theorem Qzn (os:Os) {H:Type} (enc:TypeId×Value->H):∃ places, DataW.whole enc Tryz.prog ((Qqo os).forCall (fun _ _ => 0) ⟨#[], #[.agg #[.slice none 0 0, .slice none 0 0, .slice none 0 0, .slice none 0 0]], []⟩).memory Tryz.f3.params.toList Rows.lockReachesSpec.vars false (#[.agg #[.slice none 0 0, .slice none 0 0, .slice none 0 0, .slice none 0 0]]:Array Value).toList 8=some ([.agg [.nil, .nil, .nil, .nil]], [], places) :=
  ⟨[], by kernel_rfl⟩
theorem lifted (os:Os) (started:os.Started) (H:Type) (enc:TypeId×Value->H) :
    ReturnsInLeavingWide {} Tryz.checked os 3 .any ((OpenSpec.ofChange Rows.lockReachesSpec).preRow enc Tryz.prog Tryz.f3 Rows.lockReachesRow.domain false Rows.lockReachesRow.laid) (Rows.lockReachesSpec.post enc Tryz.prog Tryz.f3 false true false false) := by
  obtain ⟨places, hx⟩ := Qzn os enc
  refine QPx (C := Tryz.checked) (s := Rows.lockReachesSpec) own started Tryz.func3
    (witness_row_at (enc := enc) (C := Tryz.checked) false (Qqo os) #[.agg #[.slice none 0 0, .slice none 0 0, .slice none 0 0, .slice none 0 0]] rfl (by kernel_rfl) (by kernel_rfl) (by kernel_rfl)
      (OpenSpec.preRow_of_cond 8 hx (by kernel_rfl) (fun k hk => by cases hk) (by kernel_rfl) (QIq os))) ?_
  intro W base args ds gs before hval hW hwt hL _
  exact QEs H enc W base args ds gs before hval hW
theorem said:Rows.LockReachesSaid :=
  OpenClaim.holds_of_wide_leaving 3 Tryz.f3 rfl rfl rfl rfl rfl rfl rfl ⟨rfl, rfl, rfl, rfl, rfl⟩ rfl rfl rfl rfl rfl (by kernel_rfl) Tryz.func3 QEn
    (of_decide_eq_true (by kernel_rfl)) (by unfold Func.isWrapper;first | (rw [if_pos (by decide +kernel)];kernel_rfl) | (rw [if_neg (by decide +kernel)];exact ⟨rfl, rfl⟩))
    (fun os started H enc _ => by rw [OpenClaim.pre_eq_preRow];exact lifted os started H enc)
theorem plain (f:FuncId) (fn:Func) (hf:Tryz.pinned.checked.prog.funcNamed Rows.lockReachesRow.func=some f) (hfn:Tryz.pinned.checked.prog.funcs[f]?=some fn) :
    false=Tryz.pinned.checked.prog.looks []/\∀ (j:Nat) t, fn.params[j]?=some t->Tryz.pinned.checked.prog.wantsStandIn t=false := by
  obtain rfl:f=3 := Option.some.inj ((show Tryz.prog.funcNamed Rows.lockReachesRow.func=some 3 by kernel_rfl).symm.trans hf) |>.symm
  obtain rfl:fn=Tryz.f3 := (Option.some.inj (Tryz.func3.symm.trans hfn)).symm
  refine ⟨by kernel_rfl, fun j t ht => ?_⟩
  rw [Tryz.params3] at ht
  have hm := Array.mem_of_getElem? ht
  have hall:(#[26]:Array TypeId).all (fun t => !Tryz.prog.wantsStandIn t)=true := by kernel_rfl
  have := Array.all_eq_true'.1 hall t hm
  show Tryz.prog.wantsStandIn t=false
  simpa using this
theorem wfT:Rows.lockReachesRow.wfByText (OpenSpec.ofChange Rows.lockReachesSpec)=true := by kernel_rfl
theorem QKt:Tryz.pinned.checked.prog.mainIs=some (Rows.lockReachesCard.stood.harness.1, Rows.lockReachesCard.stood.harness.2.toList) := by kernel_rfl
theorem QHs:true=Rows.lockReachesRow.goesBy Tryz.pinned.checked.prog := by kernel_rfl
theorem card:Rows.LockReachesCardSaid :=
  Claim7.holds_tied_goes_at .later _ _ _ _ _ said wfT lockReaches_row_tie rfl ⟨rfl, rfl⟩ QKt rfl plain QHs
#print axioms card
end Go.Proofs.YthonianbjkhnpaaGreatDoor.lockReaches
