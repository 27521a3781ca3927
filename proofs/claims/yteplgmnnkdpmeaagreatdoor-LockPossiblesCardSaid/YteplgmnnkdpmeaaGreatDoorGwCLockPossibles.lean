/- The law LockPossibles answers true at every input, on every schedule, and leaves its arguments as they were. Condition: none beyond the row's own. -/
import Derived.Test.YteplgmnnkdpmeaaGreatDoorCards
import Derived.Test.YteplgmnnkdpmeaaGreatDoorTie
import Derived.Test.YteplgmnnkdpmeaaGreatDoorGwCloseRow
import Derived.Test.YteplgmnnkdpmeaaGreatDoorGwOpens
import Derived.Test.YteplgmnnkdpmeaaGreatDoorGwPPossibles
set_option linter.unusedVariables false
set_option linter.unusedSimpArgs false
set_option linter.unusedSectionVars false
set_option maxRecDepth 100000
namespace Go.Proofs.YteplgmnnkdpmeaaGreatDoor.lockPossibles
open Go Go.Gw Go.Conc Go.ChangeShapes Go.WideShapes Go.ChangeAt Go.RowKit
theorem own:ownKnob Tryz.prog.godebug=none := by kernel_rfl
theorem Qsw:laidOutB Tryz.prog=true := by kernel_rfl
theorem Qvy:Qgp Tryz.prog Tryz.f5.params.toList=true := by kernel_rfl
theorem Qqt (H:Type) (enc:TypeId×Value->H) (W:World) (base:Nat) (args:Array Value) (ds gs:List (DataW H)) (before:List MemPlace)
    (hval:∀ (j:Nat) t v, Tryz.f5.params[j]?=some t->args[j]?=some v->Value.okWide Tryz.prog W .any base t v)
    (hW:DataW.Whole enc Tryz.prog Tryz.f5.params.toList Rows.lockPossiblesSpec.vars false W args.toList ds gs before) :
    ∃ M last o w' t', runNT Tryz.prog (M+1) (solo (G (Frame.enter Tryz.prog 5 args .normal) []) W) #[]=(.ended o w', t')/\runN Tryz.prog M (solo (G (Frame.enter Tryz.prog 5 args .normal) []) W)=.next last /\
      step Tryz.prog last=.ended o w'/\Conc.Good Tryz.prog (fun v W' => Rows.lockPossiblesSpec.post enc Tryz.prog Tryz.f5 false true false false W args v W') last o w' t' := by
  have hW' := hW
  obtain ⟨p, q, hA0, hV, rfl, hfz, hnd⟩ := hW
  have hA:DataW.TrodAll enc Tryz.prog W 0 (fun _ => true) true Tryz.f5.params.toList args.toList ds p := hA0
  rw [Tryz.params5] at hA hval
  obtain ⟨v0, vs0, d0, ds0, p0, q0, hargs, rfl, rfl, h0, r0⟩ := trodAll_cons hA
  obtain ⟨v1, vs1, d1, ds1, p1, q1, rfl, rfl, rfl, h1, r1⟩ := trodAll_cons r0
  obtain ⟨rfl, rfl, rfl⟩ := trodAll_nil r1
  obtain rfl:args=#[v0, v1] := by cases args;simp_all
  obtain ⟨rfl, rfl⟩ := trodVars_none hV
  obtain ⟨cs0, x0, rfl, s0, w0⟩ := Qhk QCr Tryz.underlying26 (hval 0 26 v0 rfl rfl) h0
  obtain ⟨cs1, x1, rfl, s1, w1⟩ := Qhk QCs Tryz.underlying30 (hval 1 30 v1 rfl rfl) h1
  obtain ⟨M, last, o, w', t', h1, h2, h3, h4⟩ := QFt (QKv (LtL.nil _) (Rep.step (Qkj W) s0) (Rep.step (Qkj W) s1) (QGm x0 x1))
  refine ⟨M, last, o, w', t', h1, h2, h3, h4.mono fun v hp => ?_⟩
  obtain ⟨rfl, hx⟩ := hp
  exact QAo Qsw Qvy hW' rfl rfl rfl rfl rfl Tryz.underlying4 hx
theorem Qrg:Rows.lockPossiblesRow.wf (OpenSpec.ofChange Rows.lockPossiblesSpec)=true := by kernel_rfl
theorem Qrh:laidOutB Tryz.prog=true := by kernel_rfl
theorem Qrs:mapsRowed Tryz.prog=true := by kernel_rfl
theorem Qsd:Tryz.f5.params.all (Tryz.prog.readableRec ·)=true := by kernel_rfl
theorem Qsg:namedTie Tryz.prog Rows.lockPossiblesRow.named Rows.lockPossiblesSpec.vars=true := by kernel_rfl
theorem Qsh:(Rows.lockPossiblesRow.stops == [])=true := by kernel_rfl
theorem Qsi:(Tryz.prog.stops == [])=true := by kernel_rfl
theorem Qsj:(Rows.lockPossiblesRow.knobs == [])=true := by kernel_rfl
theorem Qsk:(Tryz.prog.stopKnobs == [])=true := by kernel_rfl
theorem Qsl:(Rows.lockPossiblesRow.inPlace == Tryz.prog.inPlace 5)=true := by kernel_rfl
theorem Qri:(Rows.lockPossiblesRow.unfollowed == Tryz.prog.unfollowed 5)=true := by kernel_rfl
theorem Qrj:(Rows.lockPossiblesRow.recurses == Tryz.prog.recurses 5)=true := by kernel_rfl
theorem Qrk:(Rows.lockPossiblesRow.named == Tryz.prog.varsNamed 5)=true := by kernel_rfl
theorem Qrl:(Rows.lockPossiblesRow.maps == (Tryz.f5.params.toList++Rows.lockPossiblesSpec.plain.varTypes Tryz.prog).any (Tryz.prog.mapsRec ·))=true := by kernel_rfl
theorem Qrm:(Rows.lockPossiblesRow.ifaces == (Tryz.f5.params.toList++Rows.lockPossiblesSpec.plain.varTypes Tryz.prog).any (Tryz.prog.ifacesRec ·))=true := by kernel_rfl
theorem Qrn:(Rows.lockPossiblesRow.mapsOut == Tryz.prog.mapsAmong Tryz.f5.resultTypes.toList)=true := by kernel_rfl
theorem Qro:(Rows.lockPossiblesRow.loops == (Tryz.f5.params.toList++Rows.lockPossiblesSpec.plain.varTypes Tryz.prog).any (Tryz.prog.loopsFrom ·))=true := by kernel_rfl
theorem Qrp:(Rows.lockPossiblesRow.wideKeys == (Tryz.f5.params.toList++Rows.lockPossiblesSpec.plain.varTypes Tryz.prog++Tryz.f5.resultTypes.toList).any (Tryz.prog.wideKeysFrom ·))=true := by kernel_rfl
theorem Qrq:Rows.lockPossiblesSpec.vars.all (Tryz.prog.varReadable ·)=true := by kernel_rfl
theorem Qrr:Tryz.f5.resultTypes.all (fun t => Tryz.prog.readableRec t&&decide (t < Tryz.prog.types.size))=true := by kernel_rfl
theorem Qrt:(Rows.lockPossiblesRow.ifacesOut == Tryz.f5.resultTypes.toList.any (Tryz.prog.ifacesRec ·))=true := by kernel_rfl
theorem Qru:(Rows.lockPossiblesRow.loopsOut == Tryz.f5.resultTypes.toList.any (Tryz.prog.loopsFrom ·))=true := by kernel_rfl
theorem Qrv:(Rows.lockPossiblesRow.plainKeys == Tryz.prog.plainKeys)=true := by kernel_rfl
theorem Qrw:Rows.lockPossiblesRow.shortTexts.isNone=true := by kernel_rfl
theorem Qrx:Tryz.prog.stopsHeard=true := by kernel_rfl
theorem Qry:Tryz.prog.mayEnter=true := by kernel_rfl
theorem Qrz:(Rows.lockPossiblesRow.lifted == Tryz.prog.liftsFinal)=true := by kernel_rfl
theorem Qsa:(Tryz.prog.make == some Rows.lockPossiblesRow.make)=true := by kernel_rfl
theorem Qsb:(Rows.lockPossiblesRow.kinds == (if Rows.lockPossiblesRow.domain.isEmpty then [] else Tryz.f5.params.toList.map fun t => match Tryz.prog.underlying t with | some (.int k) => some k | _ => none))=true := by kernel_rfl
theorem Qsc:(Rows.lockPossiblesRow.pinned == Rows.lockPossiblesRow.pinnedBy)=true := by kernel_rfl
theorem Qse:(Rows.lockPossiblesRow.veiled == (Tryz.f5.params.toList++Rows.lockPossiblesSpec.plain.varTypes Tryz.prog++Tryz.f5.resultTypes.toList).any (Tryz.prog.veiledRec ·))=true := by kernel_rfl
theorem Qsf:Rows.lockPossiblesRow.veiledFits Tryz.prog Tryz.f5.params.toList (Tryz.f5.params.toList++Rows.lockPossiblesSpec.plain.varTypes Tryz.prog++Tryz.f5.resultTypes.toList)=true := by kernel_rfl
theorem XI {a b:Bool} (ha:a=true) (hb:b=true):(a&&b)=true := by subst ha;subst hb;rfl
theorem Qqr:joinedFacts Tryz.prog 5 Tryz.f5 Rows.lockPossiblesSpec Rows.lockPossiblesRow=true := (XI (XI (XI (XI (XI (XI (XI (XI (XI (XI (XI (XI (XI (XI (XI (XI (XI (XI (XI (XI (XI (XI (XI (XI (XI (XI (XI (XI (XI (XI (XI Qrg Qrh) Qrs) Qsd) Qsg) Qsh) Qsi) Qsj) Qsk) Qsl) Qri) Qrj) Qrk) Qrl) Qrm) Qrn) Qro) Qrp) Qrq) Qrr) Qrt) Qru) Qrv) Qrw) Qrx) Qry) Qrz) Qsa) Qsb) Qsc) Qse) Qsf)
def Qee (vs:Array Value):Obj->Obj
  | .cells _ t frozen => .cells vs t frozen
  | o => o
noncomputable def Qef (os:Os):World := { World.holding Tryz.prog os ⟨#[], #[], []⟩ with heap := ((((World.holding Tryz.prog os ⟨#[], #[], []⟩).heap.modify 0 (Qee #[.int .u64 1, .int .u64 10, .int .u64 100, .int .u64 1000, .int .u64 10000, .int .u64 100000, .int .u64 1000000, .int .u64 10000000, .int .u64 100000000, .int .u64 1000000000, .int .u64 10000000000, .int .u64 100000000000, .int .u64 1000000000000, .int .u64 10000000000000, .int .u64 100000000000000, .int .u64 1000000000000000, .int .u64 10000000000000000, .int .u64 100000000000000000, .int .u64 1000000000000000000, .int .u64 10000000000000000000])).modify 2 (Qee #[.int .u8 0, .int .u8 1, .int .u8 28, .int .u8 2, .int .u8 29, .int .u8 14, .int .u8 24, .int .u8 3, .int .u8 30, .int .u8 22, .int .u8 20, .int .u8 15, .int .u8 25, .int .u8 17, .int .u8 4, .int .u8 8, .int .u8 31, .int .u8 27, .int .u8 13, .int .u8 23, .int .u8 21, .int .u8 19, .int .u8 16, .int .u8 7, .int .u8 26, .int .u8 12, .int .u8 18, .int .u8 6, .int .u8 11, .int .u8 5, .int .u8 10, .int .u8 9])).modify 3 (Qee #[.int .u8 0, .int .u8 1, .int .u8 56, .int .u8 2, .int .u8 57, .int .u8 49, .int .u8 28, .int .u8 3, .int .u8 61, .int .u8 58, .int .u8 42, .int .u8 50, .int .u8 38, .int .u8 29, .int .u8 17, .int .u8 4, .int .u8 62, .int .u8 47, .int .u8 59, .int .u8 36, .int .u8 45, .int .u8 43, .int .u8 51, .int .u8 22, .int .u8 53, .int .u8 39, .int .u8 33, .int .u8 30, .int .u8 24, .int .u8 18, .int .u8 12, .int .u8 5, .int .u8 63, .int .u8 55, .int .u8 48, .int .u8 27, .int .u8 60, .int .u8 41, .int .u8 37, .int .u8 16, .int .u8 46, .int .u8 35, .int .u8 44, .int .u8 21, .int .u8 52, .int .u8 32, .int .u8 23, .int .u8 11, .int .u8 54, .int .u8 26, .int .u8 40, .int .u8 15, .int .u8 34, .int .u8 20, .int .u8 31, .int .u8 10, .int .u8 25, .int .u8 14, .int .u8 19, .int .u8 9, .int .u8 13, .int .u8 8, .int .u8 7, .int .u8 6])) }
theorem Qsx (os:Os):laidMet Tryz.prog Rows.lockPossiblesRow.laid ((Qef os).forCall (fun _ _ => 0) ⟨#[], #[.agg #[.slice none 0 0, .slice none 0 0, .slice none 0 0, .slice none 0 0], .agg #[.slice none 0 0, .slice none 0 0, .int .i64 0]], []⟩).memory :=
  laidMet_of_run' 8 (by kernel_rfl) (by kernel_rfl)
theorem Qnm (os:Os) {H:Type} (enc:TypeId×Value->H):∃ places, DataW.whole enc Tryz.prog ((Qef os).forCall (fun _ _ => 0) ⟨#[], #[.agg #[.slice none 0 0, .slice none 0 0, .slice none 0 0, .slice none 0 0], .agg #[.slice none 0 0, .slice none 0 0, .int .i64 0]], []⟩).memory Tryz.f5.params.toList Rows.lockPossiblesSpec.vars false (#[.agg #[.slice none 0 0, .slice none 0 0, .slice none 0 0, .slice none 0 0], .agg #[.slice none 0 0, .slice none 0 0, .int .i64 0]]:Array Value).toList 8=some ([.agg [.nil, .nil, .nil, .nil], .agg [.nil, .nil, .lit (.int .i64 0)]], [], places) :=
  ⟨[], by kernel_rfl⟩
theorem lifted (os:Os) (started:os.Started) (H:Type) (enc:TypeId×Value->H) :
    ReturnsInLeavingWide {} Tryz.checked os 5 .any ((OpenSpec.ofChange Rows.lockPossiblesSpec).preRow enc Tryz.prog Tryz.f5 Rows.lockPossiblesRow.domain false Rows.lockPossiblesRow.laid) (Rows.lockPossiblesSpec.post enc Tryz.prog Tryz.f5 false true false false) := by
  obtain ⟨places, hx⟩ := Qnm os enc
  refine QDq (C := Tryz.checked) (s := Rows.lockPossiblesSpec) own started Tryz.func5
    (witness_row_at (enc := enc) (C := Tryz.checked) false (Qef os) #[.agg #[.slice none 0 0, .slice none 0 0, .slice none 0 0, .slice none 0 0], .agg #[.slice none 0 0, .slice none 0 0, .int .i64 0]] rfl (by kernel_rfl) (by kernel_rfl) (by kernel_rfl)
      (OpenSpec.preRow_of_cond 8 hx (by kernel_rfl) (fun k hk => by cases hk) (by kernel_rfl) (Qsx os))) ?_
  intro W base args ds gs before hval hW hwt hL _
  exact Qqt H enc W base args ds gs before hval hW
theorem said:Rows.LockPossiblesSaid :=
  OpenClaim.holds_of_wide_leaving 5 Tryz.f5 rfl rfl rfl rfl rfl rfl rfl ⟨rfl, rfl, rfl, rfl, rfl⟩ rfl rfl rfl rfl rfl (by kernel_rfl) Tryz.func5 Qqr
    (of_decide_eq_true (by kernel_rfl)) (by unfold Func.isWrapper;first | (rw [if_pos (by decide +kernel)];kernel_rfl) | (rw [if_neg (by decide +kernel)];exact ⟨rfl, rfl⟩))
    (fun os started H enc _ => by rw [OpenClaim.pre_eq_preRow];exact lifted os started H enc)
theorem plain (f:FuncId) (fn:Func) (hf:Tryz.pinned.checked.prog.funcNamed Rows.lockPossiblesRow.func=some f) (hfn:Tryz.pinned.checked.prog.funcs[f]?=some fn) :
    false=Tryz.pinned.checked.prog.looks []/\∀ (j:Nat) t, fn.params[j]?=some t->Tryz.pinned.checked.prog.wantsStandIn t=false := by
  obtain rfl:f=5 := Option.some.inj ((show Tryz.prog.funcNamed Rows.lockPossiblesRow.func=some 5 by kernel_rfl).symm.trans hf) |>.symm
  obtain rfl:fn=Tryz.f5 := (Option.some.inj (Tryz.func5.symm.trans hfn)).symm
  refine ⟨by kernel_rfl, fun j t ht => ?_⟩
  rw [Tryz.params5] at ht
  have hm := Array.mem_of_getElem? ht
  have hall:(#[26, 30]:Array TypeId).all (fun t => !Tryz.prog.wantsStandIn t)=true := by kernel_rfl
  have := Array.all_eq_true'.1 hall t hm
  show Tryz.prog.wantsStandIn t=false
  simpa using this
theorem wfT:Rows.lockPossiblesRow.wfByText (OpenSpec.ofChange Rows.lockPossiblesSpec)=true := by kernel_rfl
theorem Qua:Tryz.pinned.checked.prog.mainIs=some (Rows.lockPossiblesCard.stood.harness.1, Rows.lockPossiblesCard.stood.harness.2.toList) := by kernel_rfl
theorem Qsq:true=Rows.lockPossiblesRow.goesBy Tryz.pinned.checked.prog := by kernel_rfl
theorem card:Rows.LockPossiblesCardSaid :=
  Claim7.holds_tied_goes_at .later _ _ _ _ _ said wfT lockPossibles_row_tie rfl ⟨rfl, rfl⟩ Qua rfl plain Qsq
#print axioms card
end Go.Proofs.YteplgmnnkdpmeaaGreatDoor.lockPossibles
