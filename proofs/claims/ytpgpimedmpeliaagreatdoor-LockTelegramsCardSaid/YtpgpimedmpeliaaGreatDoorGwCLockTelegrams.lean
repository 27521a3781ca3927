/- The law LockTelegrams answers true at every input, on every schedule, and leaves its arguments as they were. Condition: none beyond the row's own. -/
import Derived.Test.YtpgpimedmpeliaaGreatDoorCards
import Derived.Test.YtpgpimedmpeliaaGreatDoorTie
import Derived.Test.YtpgpimedmpeliaaGreatDoorGwCloseRow
import Derived.Test.YtpgpimedmpeliaaGreatDoorGwOpens
import Derived.Test.YtpgpimedmpeliaaGreatDoorGwPTelegrams
set_option linter.unusedVariables false
set_option linter.unusedSimpArgs false
set_option linter.unusedSectionVars false
set_option maxRecDepth 100000
namespace Go.Proofs.YtpgpimedmpeliaaGreatDoor.lockTelegrams
open Go Go.Gw Go.Conc Go.ChangeShapes Go.WideShapes Go.ChangeAt Go.RowKit
theorem own:ownKnob Tryz.prog.godebug=none := by kernel_rfl
theorem Qzg:laidOutB Tryz.prog=true := by kernel_rfl
theorem Qqt:Qdg Tryz.prog Tryz.f5.params.toList=true := by kernel_rfl
theorem Qvt (H : Type) (enc : TypeId × Value → H) (W : World) (base : Nat) (args : Array Value) (ds gs : List (DataW H)) (before : List MemPlace)
    (hval:∀ (j:Nat) t v, Tryz.f5.params[j]?=some t→args[j]?=some v→Value.okWide Tryz.prog W .any base t v)
    (hW:DataW.Whole enc Tryz.prog Tryz.f5.params.toList Rows.lockTelegramsSpec.vars false W args.toList ds gs before) :
    ∃ M last o w' t', runNT Tryz.prog (M+1) (solo (G (Frame.enter Tryz.prog 5 args .normal) []) W) #[]=(.ended o w', t')∧runN Tryz.prog M (solo (G (Frame.enter Tryz.prog 5 args .normal) []) W)=.next last ∧
      step Tryz.prog last=.ended o w'∧Conc.Good Tryz.prog (fun v W' => Rows.lockTelegramsSpec.post enc Tryz.prog Tryz.f5 false true false false W args v W') last o w' t' := by
  have hW' := hW
  obtain ⟨p, q, hA0, hV, rfl, hfz, hnd⟩ := hW
  have hA:DataW.TrodAll enc Tryz.prog W 0 (fun _ => true) true Tryz.f5.params.toList args.toList ds p := hA0
  rw [Tryz.params5] at hA hval
  obtain ⟨v0, vs0, d0, ds0, p0, q0, hargs, rfl, rfl, h0, r0⟩ := trodAll_cons hA
  obtain ⟨v1, vs1, d1, ds1, p1, q1, rfl, rfl, rfl, h1, r1⟩ := trodAll_cons r0
  obtain ⟨v2, vs2, d2, ds2, p2, q2, rfl, rfl, rfl, h2, r2⟩ := trodAll_cons r1
  obtain ⟨rfl, rfl, rfl⟩ := trodAll_nil r2
  obtain rfl:args=#[v0, v1, v2] := by cases args;simp_all
  obtain ⟨rfl, rfl⟩ := trodVars_none hV
  obtain ⟨cs0, x0, rfl, s0, w0⟩ := Quw QFh Tryz.underlying55 (hval 0 55 v0 rfl rfl) h0
  obtain ⟨x1, rfl, w1⟩ := Quy Tryz.underlying3 (hval 1 3 v1 rfl rfl) h1
  obtain ⟨cs2, x2, rfl, s2, w2⟩ := Qux QFi Tryz.underlying58 (hval 2 58 v2 rfl rfl) h2
  obtain ⟨M, last, o, w', t', h1, h2, h3, h4⟩ := QJq (Qzi [] (Y8 W) (LtL.nil _) cs0 x0 (Rep.step (Qtg W) s0) x1 cs2 x2 (Rep.step (Qtg W) s2) true (Qtx x0 x1 x2))
  refine ⟨M, last, o, w', t', h1, h2, h3, h4.mono fun v hp => ?_⟩
  obtain ⟨rfl, hx⟩ := hp
  exact Qzl Qzg Qqt hW' rfl rfl rfl rfl rfl Tryz.underlying4 hx
theorem Qxc:Rows.lockTelegramsRow.wf (OpenSpec.ofChange Rows.lockTelegramsSpec)=true := by kernel_rfl
theorem Qxd:laidOutB Tryz.prog=true := by kernel_rfl
theorem Qxo:mapsRowed Tryz.prog=true := by kernel_rfl
theorem Qxz:Tryz.f5.params.all (Tryz.prog.readableRec ·)=true := by kernel_rfl
theorem Qyc:namedTie Tryz.prog Rows.lockTelegramsRow.named Rows.lockTelegramsSpec.vars=true := by kernel_rfl
theorem Qyd:(Rows.lockTelegramsRow.stops == [])=true := by kernel_rfl
theorem Qye:(Tryz.prog.stops == [])=true := by kernel_rfl
theorem Qyf:(Rows.lockTelegramsRow.knobs == [])=true := by kernel_rfl
theorem Qyg:(Tryz.prog.stopKnobs == [])=true := by kernel_rfl
theorem Qyh:(Rows.lockTelegramsRow.inPlace == Tryz.prog.inPlace 5)=true := by kernel_rfl
theorem Qxe:(Rows.lockTelegramsRow.unfollowed == Tryz.prog.unfollowed 5)=true := by kernel_rfl
theorem Qxf:(Rows.lockTelegramsRow.recurses == Tryz.prog.recurses 5)=true := by kernel_rfl
theorem Qxg:(Rows.lockTelegramsRow.named == Tryz.prog.varsNamed 5)=true := by kernel_rfl
theorem Qxh:(Rows.lockTelegramsRow.maps == (Tryz.f5.params.toList++Rows.lockTelegramsSpec.plain.varTypes Tryz.prog).any (Tryz.prog.mapsRec ·))=true := by kernel_rfl
theorem Qxi:(Rows.lockTelegramsRow.ifaces == (Tryz.f5.params.toList++Rows.lockTelegramsSpec.plain.varTypes Tryz.prog).any (Tryz.prog.ifacesRec ·))=true := by kernel_rfl
theorem Qxj:(Rows.lockTelegramsRow.mapsOut == Tryz.prog.mapsAmong Tryz.f5.resultTypes.toList)=true := by kernel_rfl
theorem Qxk:(Rows.lockTelegramsRow.loops == (Tryz.f5.params.toList++Rows.lockTelegramsSpec.plain.varTypes Tryz.prog).any (Tryz.prog.loopsFrom ·))=true := by kernel_rfl
theorem Qxl:(Rows.lockTelegramsRow.wideKeys == (Tryz.f5.params.toList++Rows.lockTelegramsSpec.plain.varTypes Tryz.prog++Tryz.f5.resultTypes.toList).any (Tryz.prog.wideKeysFrom ·))=true := by kernel_rfl
theorem Qxm:Rows.lockTelegramsSpec.vars.all (Tryz.prog.varReadable ·)=true := by kernel_rfl
theorem Qxn:Tryz.f5.resultTypes.all (fun t => Tryz.prog.readableRec t&&decide (t < Tryz.prog.types.size))=true := by kernel_rfl
theorem Qxp:(Rows.lockTelegramsRow.ifacesOut == Tryz.f5.resultTypes.toList.any (Tryz.prog.ifacesRec ·))=true := by kernel_rfl
theorem Qxq:(Rows.lockTelegramsRow.loopsOut == Tryz.f5.resultTypes.toList.any (Tryz.prog.loopsFrom ·))=true := by kernel_rfl
theorem Qxr:(Rows.lockTelegramsRow.plainKeys == Tryz.prog.plainKeys)=true := by kernel_rfl
theorem Qxs:Rows.lockTelegramsRow.shortTexts.isNone=true := by kernel_rfl
theorem Qxt:Tryz.prog.stopsHeard=true := by kernel_rfl
theorem Qxu:Tryz.prog.mayEnter=true := by kernel_rfl
theorem Qxv:(Rows.lockTelegramsRow.lifted == Tryz.prog.liftsFinal)=true := by kernel_rfl
theorem Qxw:(Tryz.prog.make == some Rows.lockTelegramsRow.make)=true := by kernel_rfl
theorem Qxx:(Rows.lockTelegramsRow.kinds == (if Rows.lockTelegramsRow.domain.isEmpty then [] else Tryz.f5.params.toList.map fun t => match Tryz.prog.underlying t with | some (.int k) => some k | _ => none))=true := by kernel_rfl
theorem Qxy:(Rows.lockTelegramsRow.pinned == Rows.lockTelegramsRow.pinnedBy)=true := by kernel_rfl
theorem Qya:(Rows.lockTelegramsRow.veiled == (Tryz.f5.params.toList++Rows.lockTelegramsSpec.plain.varTypes Tryz.prog++Tryz.f5.resultTypes.toList).any (Tryz.prog.veiledRec ·))=true := by kernel_rfl
theorem Qyb:Rows.lockTelegramsRow.veiledFits Tryz.prog Tryz.f5.params.toList (Tryz.f5.params.toList++Rows.lockTelegramsSpec.plain.varTypes Tryz.prog++Tryz.f5.resultTypes.toList)=true := by kernel_rfl
theorem XQ {a b:Bool} (ha:a=true) (hb:b=true):(a&&b)=true := by subst ha;subst hb;rfl
theorem Qvn:joinedFacts Tryz.prog 5 Tryz.f5 Rows.lockTelegramsSpec Rows.lockTelegramsRow=true := (XQ (XQ (XQ (XQ (XQ (XQ (XQ (XQ (XQ (XQ (XQ (XQ (XQ (XQ (XQ (XQ (XQ (XQ (XQ (XQ (XQ (XQ (XQ (XQ (XQ (XQ (XQ (XQ (XQ (XQ (XQ Qxc Qxd) Qxo) Qxz) Qyc) Qyd) Qye) Qyf) Qyg) Qyh) Qxe) Qxf) Qxg) Qxh) Qxi) Qxj) Qxk) Qxl) Qxm) Qxn) Qxp) Qxq) Qxr) Qxs) Qxt) Qxu) Qxv) Qxw) Qxx) Qxy) Qya) Qyb)
def Qiu (vs:Array Value):Obj→Obj
  | .cells _ t frozen => .cells vs t frozen
  | o => o
noncomputable def Qiv (os:Os):World := { World.holding Tryz.prog os ⟨#[], #[], []⟩ with heap := ((((World.holding Tryz.prog os ⟨#[], #[], []⟩).heap.modify 1 (Qiu #[.int .u64 1, .int .u64 10, .int .u64 100, .int .u64 1000, .int .u64 10000, .int .u64 100000, .int .u64 1000000, .int .u64 10000000, .int .u64 100000000, .int .u64 1000000000, .int .u64 10000000000, .int .u64 100000000000, .int .u64 1000000000000, .int .u64 10000000000000, .int .u64 100000000000000, .int .u64 1000000000000000, .int .u64 10000000000000000, .int .u64 100000000000000000, .int .u64 1000000000000000000, .int .u64 10000000000000000000])).modify 7 (Qiu #[.int .u8 0, .int .u8 1, .int .u8 28, .int .u8 2, .int .u8 29, .int .u8 14, .int .u8 24, .int .u8 3, .int .u8 30, .int .u8 22, .int .u8 20, .int .u8 15, .int .u8 25, .int .u8 17, .int .u8 4, .int .u8 8, .int .u8 31, .int .u8 27, .int .u8 13, .int .u8 23, .int .u8 21, .int .u8 19, .int .u8 16, .int .u8 7, .int .u8 26, .int .u8 12, .int .u8 18, .int .u8 6, .int .u8 11, .int .u8 5, .int .u8 10, .int .u8 9])).modify 8 (Qiu #[.int .u8 0, .int .u8 1, .int .u8 56, .int .u8 2, .int .u8 57, .int .u8 49, .int .u8 28, .int .u8 3, .int .u8 61, .int .u8 58, .int .u8 42, .int .u8 50, .int .u8 38, .int .u8 29, .int .u8 17, .int .u8 4, .int .u8 62, .int .u8 47, .int .u8 59, .int .u8 36, .int .u8 45, .int .u8 43, .int .u8 51, .int .u8 22, .int .u8 53, .int .u8 39, .int .u8 33, .int .u8 30, .int .u8 24, .int .u8 18, .int .u8 12, .int .u8 5, .int .u8 63, .int .u8 55, .int .u8 48, .int .u8 27, .int .u8 60, .int .u8 41, .int .u8 37, .int .u8 16, .int .u8 46, .int .u8 35, .int .u8 44, .int .u8 21, .int .u8 52, .int .u8 32, .int .u8 23, .int .u8 11, .int .u8 54, .int .u8 26, .int .u8 40, .int .u8 15, .int .u8 34, .int .u8 20, .int .u8 31, .int .u8 10, .int .u8 25, .int .u8 14, .int .u8 19, .int .u8 9, .int .u8 13, .int .u8 8, .int .u8 7, .int .u8 6])) }
theorem Qzh (os:Os):laidMet Tryz.prog Rows.lockTelegramsRow.laid ((Qiv os).forCall (fun _ _ => 0) ⟨#[], #[.agg #[.int .i64 0, .int .i64 0, .int .i64 0], .int .i64 0, .agg #[.int .i64 0, .int .i64 0, .int .i64 0, .int .i64 0, .int .i64 0, .int .i64 0, .int .i64 0, .int .i64 0, .int .i64 0, .int .i64 0, .int .i64 0, .int .i64 0, .int .i64 0, .int .i64 0, .int .i64 0]], []⟩).memory :=
  laidMet_of_run' 8 (by kernel_rfl) (by kernel_rfl)
theorem Qqm (os:Os) {H:Type} (enc:TypeId×Value→H):∃ places, DataW.whole enc Tryz.prog ((Qiv os).forCall (fun _ _ => 0) ⟨#[], #[.agg #[.int .i64 0, .int .i64 0, .int .i64 0], .int .i64 0, .agg #[.int .i64 0, .int .i64 0, .int .i64 0, .int .i64 0, .int .i64 0, .int .i64 0, .int .i64 0, .int .i64 0, .int .i64 0, .int .i64 0, .int .i64 0, .int .i64 0, .int .i64 0, .int .i64 0, .int .i64 0]], []⟩).memory Tryz.f5.params.toList Rows.lockTelegramsSpec.vars false (#[.agg #[.int .i64 0, .int .i64 0, .int .i64 0], .int .i64 0, .agg #[.int .i64 0, .int .i64 0, .int .i64 0, .int .i64 0, .int .i64 0, .int .i64 0, .int .i64 0, .int .i64 0, .int .i64 0, .int .i64 0, .int .i64 0, .int .i64 0, .int .i64 0, .int .i64 0, .int .i64 0]]:Array Value).toList 8=some ([.agg [.lit (.int .i64 0), .lit (.int .i64 0), .lit (.int .i64 0)], .lit (.int .i64 0), .agg [.agg [.lit (.int .i64 0), .lit (.int .i64 0), .lit (.int .i64 0), .lit (.int .i64 0), .lit (.int .i64 0)], .agg [.lit (.int .i64 0), .lit (.int .i64 0), .lit (.int .i64 0), .lit (.int .i64 0), .lit (.int .i64 0)], .agg [.lit (.int .i64 0), .lit (.int .i64 0), .lit (.int .i64 0), .lit (.int .i64 0), .lit (.int .i64 0)]]], [], places) :=
  ⟨[], by kernel_rfl⟩
theorem lifted (os : Os) (started : os.Started) (H : Type) (enc : TypeId × Value → H) :
    ReturnsInLeavingWide {} Tryz.checked os 5 .any ((OpenSpec.ofChange Rows.lockTelegramsSpec).preRow enc Tryz.prog Tryz.f5 Rows.lockTelegramsRow.domain false Rows.lockTelegramsRow.laid) (Rows.lockTelegramsSpec.post enc Tryz.prog Tryz.f5 false true false false) := by
  obtain ⟨places, hx⟩ := Qqm os enc
  refine QFw (C := Tryz.checked) (s := Rows.lockTelegramsSpec) own started Tryz.func5
    (witness_row_at (enc := enc) (C := Tryz.checked) false (Qiv os) #[.agg #[.int .i64 0, .int .i64 0, .int .i64 0], .int .i64 0, .agg #[.int .i64 0, .int .i64 0, .int .i64 0, .int .i64 0, .int .i64 0, .int .i64 0, .int .i64 0, .int .i64 0, .int .i64 0, .int .i64 0, .int .i64 0, .int .i64 0, .int .i64 0, .int .i64 0, .int .i64 0]] rfl (by kernel_rfl) (by kernel_rfl) (by kernel_rfl)
      (OpenSpec.preRow_of_cond 8 hx (by kernel_rfl) (fun k hk => by cases hk) (by kernel_rfl) (Qzh os))) ?_
  intro W base args ds gs before hval hW hwt hL _
  exact Qvt H enc W base args ds gs before hval hW
theorem said:Rows.LockTelegramsSaid :=
  OpenClaim.holds_of_wide_leaving 5 Tryz.f5 rfl rfl rfl rfl rfl rfl rfl ⟨rfl, rfl, rfl, rfl, rfl⟩ rfl rfl rfl rfl rfl (by kernel_rfl) Tryz.func5 Qvn
    (of_decide_eq_true (by kernel_rfl)) (by unfold Func.isWrapper;first | (rw [if_pos (by decide +kernel)];kernel_rfl) | (rw [if_neg (by decide +kernel)];exact ⟨rfl, rfl⟩))
    (fun os started H enc _ => by rw [OpenClaim.pre_eq_preRow];exact lifted os started H enc)
theorem plain (f : FuncId) (fn : Func) (hf : Tryz.pinned.checked.prog.funcNamed Rows.lockTelegramsRow.func = some f) (hfn : Tryz.pinned.checked.prog.funcs[f]? = some fn) :
    true=Tryz.pinned.checked.prog.looks []∧∀ (j:Nat) t, fn.params[j]?=some t→Tryz.pinned.checked.prog.wantsStandIn t=false := by
  obtain rfl:f=5 := Option.some.inj ((show Tryz.prog.funcNamed Rows.lockTelegramsRow.func=some 5 by kernel_rfl).symm.trans hf) |>.symm
  obtain rfl:fn=Tryz.f5 := (Option.some.inj (Tryz.func5.symm.trans hfn)).symm
  refine ⟨by kernel_rfl, fun j t ht => ?_⟩
  rw [Tryz.params5] at ht
  have hm := Array.mem_of_getElem? ht
  have hall:(#[55, 3, 58]:Array TypeId).all (fun t => !Tryz.prog.wantsStandIn t)=true := by kernel_rfl
  have := Array.all_eq_true'.1 hall t hm
  show Tryz.prog.wantsStandIn t=false
  simpa using this
theorem wfT:Rows.lockTelegramsRow.wfByText (OpenSpec.ofChange Rows.lockTelegramsSpec)=true := by kernel_rfl
theorem QBz:Tryz.pinned.checked.prog.mainIs=some (Rows.lockTelegramsCard.stood.harness.1, Rows.lockTelegramsCard.stood.harness.2.toList) := by kernel_rfl
theorem Qys:true=Rows.lockTelegramsRow.goesBy Tryz.pinned.checked.prog := by kernel_rfl
theorem card:Rows.LockTelegramsCardSaid :=
  Claim7.holds_tied_goes_at .later _ _ _ _ _ said wfT lockTelegrams_row_tie rfl ⟨rfl, rfl⟩ QBz rfl plain Qys
#print axioms card
end Go.Proofs.YtpgpimedmpeliaaGreatDoor.lockTelegrams
