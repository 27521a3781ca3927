/- The law LockReceives answers true at every input, on every schedule, and leaves its arguments as they were. Condition: none beyond the row's own. -/
import Derived.Test.YteplgmnnkdpmeaaGreatDoorCards
import Derived.Test.YteplgmnnkdpmeaaGreatDoorTie
import Derived.Test.YteplgmnnkdpmeaaGreatDoorGwCloseRow
import Derived.Test.YteplgmnnkdpmeaaGreatDoorGwOpens
import Derived.Test.YteplgmnnkdpmeaaGreatDoorGwPReceives
set_option linter.unusedVariables false
set_option linter.unusedSimpArgs false
set_option linter.unusedSectionVars false
set_option maxRecDepth 100000
namespace Go.Proofs.YteplgmnnkdpmeaaGreatDoor.lockReceives
open Go Go.Gw Go.Conc Go.ChangeShapes Go.WideShapes Go.ChangeAt Go.RowKit
theorem own:ownKnob Tryz.prog.godebug=none := by kernel_rfl
theorem QKm:laidOutB Tryz.prog=true := by kernel_rfl
theorem QTa:Qix Tryz.prog Tryz.f6.params.toList=true := by kernel_rfl
theorem QGm (H:Type) (enc:TypeId×Value->H) (W:World) (base:Nat) (args:Array Value) (ds gs:List (DataW H)) (before:List MemPlace)
    (hval:∀ (j:Nat) t v, Tryz.f6.params[j]?=some t->args[j]?=some v->Value.okWide Tryz.prog W .any base t v)
    (hW:DataW.Whole enc Tryz.prog Tryz.f6.params.toList Rows.lockReceivesSpec.vars false W args.toList ds gs before) :
    ∃ M last o w' t', runNT Tryz.prog (M+1) (solo (G (Frame.enter Tryz.prog 6 args .normal) []) W) #[]=(.ended o w', t')/\runN Tryz.prog M (solo (G (Frame.enter Tryz.prog 6 args .normal) []) W)=.next last /\
      step Tryz.prog last=.ended o w'/\Conc.Good Tryz.prog (fun v W' => Rows.lockReceivesSpec.post enc Tryz.prog Tryz.f6 false true false false W args v W') last o w' t' := by
  have hW' := hW
  obtain ⟨p, q, hA0, hV, rfl, hfz, hnd⟩ := hW
  have hA:DataW.TrodAll enc Tryz.prog W 0 (fun _ => true) true Tryz.f6.params.toList args.toList ds p := hA0
  rw [Tryz.params6] at hA hval
  obtain ⟨v0, vs0, d0, ds0, p0, q0, hargs, rfl, rfl, h0, r0⟩ := trodAll_cons hA
  obtain ⟨v1, vs1, d1, ds1, p1, q1, rfl, rfl, rfl, h1, r1⟩ := trodAll_cons r0
  obtain ⟨v2, vs2, d2, ds2, p2, q2, rfl, rfl, rfl, h2, r2⟩ := trodAll_cons r1
  obtain ⟨rfl, rfl, rfl⟩ := trodAll_nil r2
  obtain rfl:args=#[v0, v1, v2] := by cases args;simp_all
  obtain ⟨rfl, rfl⟩ := trodVars_none hV
  obtain ⟨cs0, x0, rfl, s0, w0⟩ := Qwk QRa Tryz.underlying26 (hval 0 26 v0 rfl rfl) h0
  obtain ⟨cs1, x1, rfl, s1, w1⟩ := Qwk QRb Tryz.underlying30 (hval 1 30 v1 rfl rfl) h1
  obtain ⟨cs2, x2, rfl, s2, w2⟩ := QFm QRd Tryz.underlying61 (hval 2 61 v2 rfl rfl) h2
  obtain ⟨M, last, o, w', t', h1, h2, h3, h4⟩ := QWy (QKq (LtL.nil _) (Rep.step (Qvh W) s0) (Rep.step (Qvh W) s1) (Rep.step (Qvh W) s2) (QEk x0 x1 x2))
  refine ⟨M, last, o, w', t', h1, h2, h3, h4.mono fun v hp => ?_⟩
  obtain ⟨rfl, hx⟩ := hp
  exact QKu QKm QTa hW' rfl rfl rfl rfl rfl Tryz.underlying4 hx
theorem QHw:Rows.lockReceivesRow.wf (OpenSpec.ofChange Rows.lockReceivesSpec)=true := by kernel_rfl
theorem QHx:laidOutB Tryz.prog=true := by kernel_rfl
theorem QIi:mapsRowed Tryz.prog=true := by kernel_rfl
theorem QIt:Tryz.f6.params.all (Tryz.prog.readableRec ·)=true := by kernel_rfl
theorem QIw:namedTie Tryz.prog Rows.lockReceivesRow.named Rows.lockReceivesSpec.vars=true := by kernel_rfl
theorem QIx:(Rows.lockReceivesRow.stops == [])=true := by kernel_rfl
theorem QIy:(Tryz.prog.stops == [])=true := by kernel_rfl
theorem QIz:(Rows.lockReceivesRow.knobs == [])=true := by kernel_rfl
theorem QJa:(Tryz.prog.stopKnobs == [])=true := by kernel_rfl
theorem QJb:(Rows.lockReceivesRow.inPlace == Tryz.prog.inPlace 6)=true := by kernel_rfl
theorem QHy:(Rows.lockReceivesRow.unfollowed == Tryz.prog.unfollowed 6)=true := by kernel_rfl
theorem QHz:(Rows.lockReceivesRow.recurses == Tryz.prog.recurses 6)=true := by kernel_rfl
theorem QIa:(Rows.lockReceivesRow.named == Tryz.prog.varsNamed 6)=true := by kernel_rfl
theorem QIb:(Rows.lockReceivesRow.maps == (Tryz.f6.params.toList++Rows.lockReceivesSpec.plain.varTypes Tryz.prog).any (Tryz.prog.mapsRec ·))=true := by kernel_rfl
theorem QIc:(Rows.lockReceivesRow.ifaces == (Tryz.f6.params.toList++Rows.lockReceivesSpec.plain.varTypes Tryz.prog).any (Tryz.prog.ifacesRec ·))=true := by kernel_rfl
theorem QId:(Rows.lockReceivesRow.mapsOut == Tryz.prog.mapsAmong Tryz.f6.resultTypes.toList)=true := by kernel_rfl
theorem QIe:(Rows.lockReceivesRow.loops == (Tryz.f6.params.toList++Rows.lockReceivesSpec.plain.varTypes Tryz.prog).any (Tryz.prog.loopsFrom ·))=true := by kernel_rfl
theorem QIf:(Rows.lockReceivesRow.wideKeys == (Tryz.f6.params.toList++Rows.lockReceivesSpec.plain.varTypes Tryz.prog++Tryz.f6.resultTypes.toList).any (Tryz.prog.wideKeysFrom ·))=true := by kernel_rfl
theorem QIg:Rows.lockReceivesSpec.vars.all (Tryz.prog.varReadable ·)=true := by kernel_rfl
theorem QIh:Tryz.f6.resultTypes.all (fun t => Tryz.prog.readableRec t&&decide (t < Tryz.prog.types.size))=true := by kernel_rfl
theorem QIj:(Rows.lockReceivesRow.ifacesOut == Tryz.f6.resultTypes.toList.any (Tryz.prog.ifacesRec ·))=true := by kernel_rfl
theorem QIk:(Rows.lockReceivesRow.loopsOut == Tryz.f6.resultTypes.toList.any (Tryz.prog.loopsFrom ·))=true := by kernel_rfl
theorem QIl:(Rows.lockReceivesRow.plainKeys == Tryz.prog.plainKeys)=true := by kernel_rfl
theorem QIm:Rows.lockReceivesRow.shortTexts.isNone=true := by kernel_rfl
theorem QIn:Tryz.prog.stopsHeard=true := by kernel_rfl
theorem QIo:Tryz.prog.mayEnter=true := by kernel_rfl
theorem QIp:(Rows.lockReceivesRow.lifted == Tryz.prog.liftsFinal)=true := by kernel_rfl
theorem QIq:(Tryz.prog.make == some Rows.lockReceivesRow.make)=true := by kernel_rfl
theorem QIr:(Rows.lockReceivesRow.kinds == (if Rows.lockReceivesRow.domain.isEmpty then [] else Tryz.f6.params.toList.map fun t => match Tryz.prog.underlying t with | some (.int k) => some k | _ => none))=true := by kernel_rfl
theorem QIs:(Rows.lockReceivesRow.pinned == Rows.lockReceivesRow.pinnedBy)=true := by kernel_rfl
theorem QIu:(Rows.lockReceivesRow.veiled == (Tryz.f6.params.toList++Rows.lockReceivesSpec.plain.varTypes Tryz.prog++Tryz.f6.resultTypes.toList).any (Tryz.prog.veiledRec ·))=true := by kernel_rfl
theorem QIv:Rows.lockReceivesRow.veiledFits Tryz.prog Tryz.f6.params.toList (Tryz.f6.params.toList++Rows.lockReceivesSpec.plain.varTypes Tryz.prog++Tryz.f6.resultTypes.toList)=true := by kernel_rfl
theorem YL {a b:Bool} (ha:a=true) (hb:b=true):(a&&b)=true := by subst ha;subst hb;rfl
theorem QGf:joinedFacts Tryz.prog 6 Tryz.f6 Rows.lockReceivesSpec Rows.lockReceivesRow=true := (YL (YL (YL (YL (YL (YL (YL (YL (YL (YL (YL (YL (YL (YL (YL (YL (YL (YL (YL (YL (YL (YL (YL (YL (YL (YL (YL (YL (YL (YL (YL QHw QHx) QIi) QIt) QIw) QIx) QIy) QIz) QJa) QJb) QHy) QHz) QIa) QIb) QIc) QId) QIe) QIf) QIg) QIh) QIj) QIk) QIl) QIm) QIn) QIo) QIp) QIq) QIr) QIs) QIu) QIv)
def Qrg (vs:Array Value):Obj->Obj
  | .cells _ t frozen => .cells vs t frozen
  | o => o
noncomputable def Qrh (os:Os):World := { World.holding Tryz.prog os ⟨#[], #[], []⟩ with heap := ((((World.holding Tryz.prog os ⟨#[], #[], []⟩).heap.modify 0 (Qrg #[.int .u64 1, .int .u64 10, .int .u64 100, .int .u64 1000, .int .u64 10000, .int .u64 100000, .int .u64 1000000, .int .u64 10000000, .int .u64 100000000, .int .u64 1000000000, .int .u64 10000000000, .int .u64 100000000000, .int .u64 1000000000000, .int .u64 10000000000000, .int .u64 100000000000000, .int .u64 1000000000000000, .int .u64 10000000000000000, .int .u64 100000000000000000, .int .u64 1000000000000000000, .int .u64 10000000000000000000])).modify 2 (Qrg #[.int .u8 0, .int .u8 1, .int .u8 28, .int .u8 2, .int .u8 29, .int .u8 14, .int .u8 24, .int .u8 3, .int .u8 30, .int .u8 22, .int .u8 20, .int .u8 15, .int .u8 25, .int .u8 17, .int .u8 4, .int .u8 8, .int .u8 31, .int .u8 27, .int .u8 13, .int .u8 23, .int .u8 21, .int .u8 19, .int .u8 16, .int .u8 7, .int .u8 26, .int .u8 12, .int .u8 18, .int .u8 6, .int .u8 11, .int .u8 5, .int .u8 10, .int .u8 9])).modify 3 (Qrg #[.int .u8 0, .int .u8 1, .int .u8 56, .int .u8 2, .int .u8 57, .int .u8 49, .int .u8 28, .int .u8 3, .int .u8 61, .int .u8 58, .int .u8 42, .int .u8 50, .int .u8 38, .int .u8 29, .int .u8 17, .int .u8 4, .int .u8 62, .int .u8 47, .int .u8 59, .int .u8 36, .int .u8 45, .int .u8 43, .int .u8 51, .int .u8 22, .int .u8 53, .int .u8 39, .int .u8 33, .int .u8 30, .int .u8 24, .int .u8 18, .int .u8 12, .int .u8 5, .int .u8 63, .int .u8 55, .int .u8 48, .int .u8 27, .int .u8 60, .int .u8 41, .int .u8 37, .int .u8 16, .int .u8 46, .int .u8 35, .int .u8 44, .int .u8 21, .int .u8 52, .int .u8 32, .int .u8 23, .int .u8 11, .int .u8 54, .int .u8 26, .int .u8 40, .int .u8 15, .int .u8 34, .int .u8 20, .int .u8 31, .int .u8 10, .int .u8 25, .int .u8 14, .int .u8 19, .int .u8 9, .int .u8 13, .int .u8 8, .int .u8 7, .int .u8 6])) }
theorem QKn (os:Os):laidMet Tryz.prog Rows.lockReceivesRow.laid ((Qrh os).forCall (fun _ _ => 0) ⟨#[], #[.agg #[.slice none 0 0, .slice none 0 0, .slice none 0 0, .slice none 0 0], .agg #[.slice none 0 0, .slice none 0 0, .int .i64 0], .agg #[.int .i64 0, .int .i64 0, .int .i64 0, .int .i64 0, .int .i64 0, .int .i64 0, .int .i64 0, .int .i64 0, .int .i64 0, .int .i64 0, .int .i64 0, .int .i64 0, .int .i64 0, .int .i64 0, .int .i64 0]], []⟩).memory :=
  laidMet_of_run' 8 (by kernel_rfl) (by kernel_rfl)
theorem QBe (os:Os) {H:Type} (enc:TypeId×Value->H):∃ places, DataW.whole enc Tryz.prog ((Qrh os).forCall (fun _ _ => 0) ⟨#[], #[.agg #[.slice none 0 0, .slice none 0 0, .slice none 0 0, .slice none 0 0], .agg #[.slice none 0 0, .slice none 0 0, .int .i64 0], .agg #[.int .i64 0, .int .i64 0, .int .i64 0, .int .i64 0, .int .i64 0, .int .i64 0, .int .i64 0, .int .i64 0, .int .i64 0, .int .i64 0, .int .i64 0, .int .i64 0, .int .i64 0, .int .i64 0, .int .i64 0]], []⟩).memory Tryz.f6.params.toList Rows.lockReceivesSpec.vars false (#[.agg #[.slice none 0 0, .slice none 0 0, .slice none 0 0, .slice none 0 0], .agg #[.slice none 0 0, .slice none 0 0, .int .i64 0], .agg #[.int .i64 0, .int .i64 0, .int .i64 0, .int .i64 0, .int .i64 0, .int .i64 0, .int .i64 0, .int .i64 0, .int .i64 0, .int .i64 0, .int .i64 0, .int .i64 0, .int .i64 0, .int .i64 0, .int .i64 0]]:Array Value).toList 8=some ([.agg [.nil, .nil, .nil, .nil], .agg [.nil, .nil, .lit (.int .i64 0)], .agg [.agg [.lit (.int .i64 0), .lit (.int .i64 0), .lit (.int .i64 0), .lit (.int .i64 0), .lit (.int .i64 0)], .agg [.lit (.int .i64 0), .lit (.int .i64 0), .lit (.int .i64 0), .lit (.int .i64 0), .lit (.int .i64 0)], .agg [.lit (.int .i64 0), .lit (.int .i64 0), .lit (.int .i64 0), .lit (.int .i64 0), .lit (.int .i64 0)]]], [], places) :=
  ⟨[], by kernel_rfl⟩
theorem lifted (os:Os) (started:os.Started) (H:Type) (enc:TypeId×Value->H) :
    ReturnsInLeavingWide {} Tryz.checked os 6 .any ((OpenSpec.ofChange Rows.lockReceivesSpec).preRow enc Tryz.prog Tryz.f6 Rows.lockReceivesRow.domain false Rows.lockReceivesRow.laid) (Rows.lockReceivesSpec.post enc Tryz.prog Tryz.f6 false true false false) := by
  obtain ⟨places, hx⟩ := QBe os enc
  refine QSw (C := Tryz.checked) (s := Rows.lockReceivesSpec) own started Tryz.func6
    (witness_row_at (enc := enc) (C := Tryz.checked) false (Qrh os) #[.agg #[.slice none 0 0, .slice none 0 0, .slice none 0 0, .slice none 0 0], .agg #[.slice none 0 0, .slice none 0 0, .int .i64 0], .agg #[.int .i64 0, .int .i64 0, .int .i64 0, .int .i64 0, .int .i64 0, .int .i64 0, .int .i64 0, .int .i64 0, .int .i64 0, .int .i64 0, .int .i64 0, .int .i64 0, .int .i64 0, .int .i64 0, .int .i64 0]] rfl (by kernel_rfl) (by kernel_rfl) (by kernel_rfl)
      (OpenSpec.preRow_of_cond 8 hx (by kernel_rfl) (fun k hk => by cases hk) (by kernel_rfl) (QKn os))) ?_
  intro W base args ds gs before hval hW hwt hL _
  exact QGm H enc W base args ds gs before hval hW
theorem said:Rows.LockReceivesSaid :=
  OpenClaim.holds_of_wide_leaving 6 Tryz.f6 rfl rfl rfl rfl rfl rfl rfl ⟨rfl, rfl, rfl, rfl, rfl⟩ rfl rfl rfl rfl rfl (by kernel_rfl) Tryz.func6 QGf
    (of_decide_eq_true (by kernel_rfl)) (by unfold Func.isWrapper;first | (rw [if_pos (by decide +kernel)];kernel_rfl) | (rw [if_neg (by decide +kernel)];exact ⟨rfl, rfl⟩))
    (fun os started H enc _ => by rw [OpenClaim.pre_eq_preRow];exact lifted os started H enc)
theorem plain (f:FuncId) (fn:Func) (hf:Tryz.pinned.checked.prog.funcNamed Rows.lockReceivesRow.func=some f) (hfn:Tryz.pinned.checked.prog.funcs[f]?=some fn) :
    false=Tryz.pinned.checked.prog.looks []/\∀ (j:Nat) t, fn.params[j]?=some t->Tryz.pinned.checked.prog.wantsStandIn t=false := by
  obtain rfl:f=6 := Option.some.inj ((show Tryz.prog.funcNamed Rows.lockReceivesRow.func=some 6 by kernel_rfl).symm.trans hf) |>.symm
  obtain rfl:fn=Tryz.f6 := (Option.some.inj (Tryz.func6.symm.trans hfn)).symm
  refine ⟨by kernel_rfl, fun j t ht => ?_⟩
  rw [Tryz.params6] at ht
  have hm := Array.mem_of_getElem? ht
  have hall:(#[26, 30, 61]:Array TypeId).all (fun t => !Tryz.prog.wantsStandIn t)=true := by kernel_rfl
  have := Array.all_eq_true'.1 hall t hm
  show Tryz.prog.wantsStandIn t=false
  simpa using this
theorem wfT:Rows.lockReceivesRow.wfByText (OpenSpec.ofChange Rows.lockReceivesSpec)=true := by kernel_rfl
theorem QNb:Tryz.pinned.checked.prog.mainIs=some (Rows.lockReceivesCard.stood.harness.1, Rows.lockReceivesCard.stood.harness.2.toList) := by kernel_rfl
theorem QJq:true=Rows.lockReceivesRow.goesBy Tryz.pinned.checked.prog := by kernel_rfl
theorem card:Rows.LockReceivesCardSaid :=
  Claim7.holds_tied_goes_at .later _ _ _ _ _ said wfT lockReceives_row_tie rfl ⟨rfl, rfl⟩ QNb rfl plain QJq
#print axioms card
end Go.Proofs.YteplgmnnkdpmeaaGreatDoor.lockReceives
