/- The law LockWays answers true at every input, on every schedule, and leaves its arguments as they were. Condition: none beyond the row's own. (said in fewer words) -/
import Derived.Test.YthonianbjkhnpaaGreatDoorCards
import Derived.Test.YthonianbjkhnpaaGreatDoorTie
import Derived.Test.YthonianbjkhnpaaGreatDoorGwCloseRow
import Derived.Test.YthonianbjkhnpaaGreatDoorGwOpens
import Derived.Test.YthonianbjkhnpaaGreatDoorGwPWays
set_option linter.unusedVariables false
set_option linter.unusedSimpArgs false
set_option linter.unusedSectionVars false
set_option maxRecDepth 100000
namespace Go.Proofs.YthonianbjkhnpaaGreatDoor.lockWays
open Go Go.Gw Go.Conc Go.ChangeShapes Go.WideShapes Go.ChangeAt Go.RowKit
theorem own:ownKnob Tryz.prog.godebug=none := by kernel_rfl
theorem QNo:laidOutB Tryz.prog=true := by kernel_rfl
theorem QVr:Qkl Tryz.prog Tryz.f4.params.toList=true := by kernel_rfl
theorem QYm {W:World} (h:laidMetH Tryz.prog Rows.lockWaysRow.laid W):At (Gw.view0 W) ⟨0, 0, none⟩ (([1, 10, 100, 1000, 10000, 100000, 1000000, 10000000, 100000000, 1000000000, 10000000000, 100000000000, 1000000000000, 10000000000000, 100000000000000, 1000000000000000, 10000000000000000, 100000000000000000, 1000000000000000000, 10000000000000000000]:List Int).map fun z => Value.int .u64 z) :=
  QNq (name := "internal/strconv.uint64pow10") (t := 236) (by kernel_rfl) (by kernel_rfl) (by kernel_rfl) Tryz.underlying236 Tryz.underlying143 (by kernel_rfl) (by kernel_rfl) h
theorem QJi (H:Type) (enc:TypeId×Value->H) (W:World) (base:Nat) (args:Array Value) (ds gs:List (DataW H)) (before:List MemPlace)
    (hval:∀ (j:Nat) t v, Tryz.f4.params[j]?=some t->args[j]?=some v->Value.okWide Tryz.prog W .any base t v)
    (hW:DataW.Whole enc Tryz.prog Tryz.f4.params.toList Rows.lockWaysSpec.vars false W args.toList ds gs before)
    (hL:laidMetH Tryz.prog Rows.lockWaysRow.laid W) :
    ∃ M last o w' t', runNT Tryz.prog (M+1) (solo (G (Frame.enter Tryz.prog 4 args .normal) []) W) #[]=(.ended o w', t')/\runN Tryz.prog M (solo (G (Frame.enter Tryz.prog 4 args .normal) []) W)=.next last /\
      step Tryz.prog last=.ended o w'/\Conc.Good Tryz.prog (fun v W' => Rows.lockWaysSpec.post enc Tryz.prog Tryz.f4 false true false false W args v W') last o w' t' := by
  have hW' := hW
  obtain ⟨p, q, hA0, hV, rfl, hfz, hnd⟩ := hW
  have hA:DataW.TrodAll enc Tryz.prog W 0 (fun _ => true) true Tryz.f4.params.toList args.toList ds p := hA0
  rw [Tryz.params4] at hA hval
  obtain ⟨v0, vs0, d0, ds0, p0, q0, hargs, rfl, rfl, h0, r0⟩ := trodAll_cons hA
  obtain ⟨v1, vs1, d1, ds1, p1, q1, rfl, rfl, rfl, h1, r1⟩ := trodAll_cons r0
  obtain ⟨v2, vs2, d2, ds2, p2, q2, rfl, rfl, rfl, h2, r2⟩ := trodAll_cons r1
  obtain ⟨rfl, rfl, rfl⟩ := trodAll_nil r2
  obtain rfl:args=#[v0, v1, v2] := by cases args;simp_all
  obtain ⟨rfl, rfl⟩ := trodVars_none hV
  obtain ⟨cs0, x0, rfl, s0, w0⟩ := Qya QTq Tryz.underlying26 (hval 0 26 v0 rfl rfl) h0
  obtain ⟨cs1, x1, rfl, s1, w1⟩ := Qya QTr Tryz.underlying39 (hval 1 39 v1 rfl rfl) h1
  obtain ⟨cs2, x2, rfl, s2, w2⟩ := QIh QTs Tryz.underlying40 (hval 2 40 v2 rfl rfl) h2
  obtain ⟨M, last, o, w', t', h1, h2, h3, h4⟩ := QZi (QNs [] (view0 W) (LtL.nil _) (QYm hL) cs0 x0 (Rep.step (Qww W) s0) cs1 x1 (Rep.step (Qww W) s1) cs2 x2 (Rep.step (Qww W) s2) true (QHe x0 x1 x2))
  refine ⟨M, last, o, w', t', h1, h2, h3, h4.mono fun v hp => ?_⟩
  obtain ⟨rfl, hx⟩ := hp
  exact QNw QNo QVr hW' rfl rfl rfl rfl rfl Tryz.underlying4 hx
theorem QKn:Rows.lockWaysRow.wf (OpenSpec.ofChange Rows.lockWaysSpec)=true := by kernel_rfl
theorem QKo:laidOutB Tryz.prog=true := by kernel_rfl
theorem QKz:mapsRowed Tryz.prog=true := by kernel_rfl
theorem QLk:Tryz.f4.params.all (Tryz.prog.readableRec ·)=true := by kernel_rfl
theorem QLn:namedTie Tryz.prog Rows.lockWaysRow.named Rows.lockWaysSpec.vars=true := by kernel_rfl
theorem QLo:(Rows.lockWaysRow.stops == [])=true := by kernel_rfl
theorem QLp:(Tryz.prog.stops == [])=true := by kernel_rfl
theorem QLq:(Rows.lockWaysRow.knobs == [])=true := by kernel_rfl
theorem QLr:(Tryz.prog.stopKnobs == [])=true := by kernel_rfl
theorem QLs:(Rows.lockWaysRow.inPlace == Tryz.prog.inPlace 4)=true := by kernel_rfl
theorem QKp:(Rows.lockWaysRow.unfollowed == Tryz.prog.unfollowed 4)=true := by kernel_rfl
theorem QKq:(Rows.lockWaysRow.recurses == Tryz.prog.recurses 4)=true := by kernel_rfl
theorem QKr:(Rows.lockWaysRow.named == Tryz.prog.varsNamed 4)=true := by kernel_rfl
theorem QKs:(Rows.lockWaysRow.maps == (Tryz.f4.params.toList++Rows.lockWaysSpec.plain.varTypes Tryz.prog).any (Tryz.prog.mapsRec ·))=true := by kernel_rfl
theorem QKt:(Rows.lockWaysRow.ifaces == (Tryz.f4.params.toList++Rows.lockWaysSpec.plain.varTypes Tryz.prog).any (Tryz.prog.ifacesRec ·))=true := by kernel_rfl
theorem QKu:(Rows.lockWaysRow.mapsOut == Tryz.prog.mapsAmong Tryz.f4.resultTypes.toList)=true := by kernel_rfl
theorem QKv:(Rows.lockWaysRow.loops == (Tryz.f4.params.toList++Rows.lockWaysSpec.plain.varTypes Tryz.prog).any (Tryz.prog.loopsFrom ·))=true := by kernel_rfl
theorem QKw:(Rows.lockWaysRow.wideKeys == (Tryz.f4.params.toList++Rows.lockWaysSpec.plain.varTypes Tryz.prog++Tryz.f4.resultTypes.toList).any (Tryz.prog.wideKeysFrom ·))=true := by kernel_rfl
theorem QKx:Rows.lockWaysSpec.vars.all (Tryz.prog.varReadable ·)=true := by kernel_rfl
theorem QKy:Tryz.f4.resultTypes.all (fun t => Tryz.prog.readableRec t&&decide (t < Tryz.prog.types.size))=true := by kernel_rfl
theorem QLa:(Rows.lockWaysRow.ifacesOut == Tryz.f4.resultTypes.toList.any (Tryz.prog.ifacesRec ·))=true := by kernel_rfl
theorem QLb:(Rows.lockWaysRow.loopsOut == Tryz.f4.resultTypes.toList.any (Tryz.prog.loopsFrom ·))=true := by kernel_rfl
theorem QLc:(Rows.lockWaysRow.plainKeys == Tryz.prog.plainKeys)=true := by kernel_rfl
theorem QLd:Rows.lockWaysRow.shortTexts.isNone=true := by kernel_rfl
theorem QLe:Tryz.prog.stopsHeard=true := by kernel_rfl
theorem QLf:Tryz.prog.mayEnter=true := by kernel_rfl
theorem QLg:(Rows.lockWaysRow.lifted == Tryz.prog.liftsFinal)=true := by kernel_rfl
theorem QLh:(Tryz.prog.make == some Rows.lockWaysRow.make)=true := by kernel_rfl
theorem QLi:(Rows.lockWaysRow.kinds == (if Rows.lockWaysRow.domain.isEmpty then [] else Tryz.f4.params.toList.map fun t => match Tryz.prog.underlying t with | some (.int k) => some k | _ => none))=true := by kernel_rfl
theorem QLj:(Rows.lockWaysRow.pinned == Rows.lockWaysRow.pinnedBy)=true := by kernel_rfl
theorem QLl:(Rows.lockWaysRow.veiled == (Tryz.f4.params.toList++Rows.lockWaysSpec.plain.varTypes Tryz.prog++Tryz.f4.resultTypes.toList).any (Tryz.prog.veiledRec ·))=true := by kernel_rfl
theorem QLm:Rows.lockWaysRow.veiledFits Tryz.prog Tryz.f4.params.toList (Tryz.f4.params.toList++Rows.lockWaysSpec.plain.varTypes Tryz.prog++Tryz.f4.resultTypes.toList)=true := by kernel_rfl
theorem YF {a b:Bool} (ha:a=true) (hb:b=true):(a&&b)=true := by subst ha;subst hb;rfl
theorem QJd:joinedFacts Tryz.prog 4 Tryz.f4 Rows.lockWaysSpec Rows.lockWaysRow=true := (YF (YF (YF (YF (YF (YF (YF (YF (YF (YF (YF (YF (YF (YF (YF (YF (YF (YF (YF (YF (YF (YF (YF (YF (YF (YF (YF (YF (YF (YF (YF QKn QKo) QKz) QLk) QLn) QLo) QLp) QLq) QLr) QLs) QKp) QKq) QKr) QKs) QKt) QKu) QKv) QKw) QKx) QKy) QLa) QLb) QLc) QLd) QLe) QLf) QLg) QLh) QLi) QLj) QLl) QLm)
def Qss (vs:Array Value):Obj->Obj
  | .cells _ t frozen => .cells vs t frozen
  | o => o
noncomputable def Qst (os:Os):World := { World.holding Tryz.prog os ⟨#[], #[], []⟩ with heap := ((((World.holding Tryz.prog os ⟨#[], #[], []⟩).heap.modify 0 (Qss #[.int .u64 1, .int .u64 10, .int .u64 100, .int .u64 1000, .int .u64 10000, .int .u64 100000, .int .u64 1000000, .int .u64 10000000, .int .u64 100000000, .int .u64 1000000000, .int .u64 10000000000, .int .u64 100000000000, .int .u64 1000000000000, .int .u64 10000000000000, .int .u64 100000000000000, .int .u64 1000000000000000, .int .u64 10000000000000000, .int .u64 100000000000000000, .int .u64 1000000000000000000, .int .u64 10000000000000000000])).modify 2 (Qss #[.int .u8 0, .int .u8 1, .int .u8 28, .int .u8 2, .int .u8 29, .int .u8 14, .int .u8 24, .int .u8 3, .int .u8 30, .int .u8 22, .int .u8 20, .int .u8 15, .int .u8 25, .int .u8 17, .int .u8 4, .int .u8 8, .int .u8 31, .int .u8 27, .int .u8 13, .int .u8 23, .int .u8 21, .int .u8 19, .int .u8 16, .int .u8 7, .int .u8 26, .int .u8 12, .int .u8 18, .int .u8 6, .int .u8 11, .int .u8 5, .int .u8 10, .int .u8 9])).modify 3 (Qss #[.int .u8 0, .int .u8 1, .int .u8 56, .int .u8 2, .int .u8 57, .int .u8 49, .int .u8 28, .int .u8 3, .int .u8 61, .int .u8 58, .int .u8 42, .int .u8 50, .int .u8 38, .int .u8 29, .int .u8 17, .int .u8 4, .int .u8 62, .int .u8 47, .int .u8 59, .int .u8 36, .int .u8 45, .int .u8 43, .int .u8 51, .int .u8 22, .int .u8 53, .int .u8 39, .int .u8 33, .int .u8 30, .int .u8 24, .int .u8 18, .int .u8 12, .int .u8 5, .int .u8 63, .int .u8 55, .int .u8 48, .int .u8 27, .int .u8 60, .int .u8 41, .int .u8 37, .int .u8 16, .int .u8 46, .int .u8 35, .int .u8 44, .int .u8 21, .int .u8 52, .int .u8 32, .int .u8 23, .int .u8 11, .int .u8 54, .int .u8 26, .int .u8 40, .int .u8 15, .int .u8 34, .int .u8 20, .int .u8 31, .int .u8 10, .int .u8 25, .int .u8 14, .int .u8 19, .int .u8 9, .int .u8 13, .int .u8 8, .int .u8 7, .int .u8 6])) }
theorem QNp (os:Os):laidMet Tryz.prog Rows.lockWaysRow.laid ((Qst os).forCall (fun _ _ => 0) ⟨#[], #[.agg #[.slice none 0 0, .slice none 0 0, .slice none 0 0, .slice none 0 0], .agg #[.slice none 0 0, .slice none 0 0, .int .i64 0], .agg #[.int .i64 0, .int .i64 0]], []⟩).memory :=
  laidMet_of_run' 8 (by kernel_rfl) (by kernel_rfl)
theorem QDo (os:Os) {H:Type} (enc:TypeId×Value->H):∃ places, DataW.whole enc Tryz.prog ((Qst os).forCall (fun _ _ => 0) ⟨#[], #[.agg #[.slice none 0 0, .slice none 0 0, .slice none 0 0, .slice none 0 0], .agg #[.slice none 0 0, .slice none 0 0, .int .i64 0], .agg #[.int .i64 0, .int .i64 0]], []⟩).memory Tryz.f4.params.toList Rows.lockWaysSpec.vars false (#[.agg #[.slice none 0 0, .slice none 0 0, .slice none 0 0, .slice none 0 0], .agg #[.slice none 0 0, .slice none 0 0, .int .i64 0], .agg #[.int .i64 0, .int .i64 0]]:Array Value).toList 8=some ([.agg [.nil, .nil, .nil, .nil], .agg [.nil, .nil, .lit (.int .i64 0)], .agg [.lit (.int .i64 0), .lit (.int .i64 0)]], [], places) :=
  ⟨[], by kernel_rfl⟩
theorem lifted (os:Os) (started:os.Started) (H:Type) (enc:TypeId×Value->H) :
    ReturnsInLeavingWide {} Tryz.checked os 4 .any ((OpenSpec.ofChange Rows.lockWaysSpec).preRow enc Tryz.prog Tryz.f4 Rows.lockWaysRow.domain false Rows.lockWaysRow.laid) (Rows.lockWaysSpec.post enc Tryz.prog Tryz.f4 false true false false) := by
  obtain ⟨places, hx⟩ := QDo os enc
  refine QVm (C := Tryz.checked) (s := Rows.lockWaysSpec) own started Tryz.func4
    (witness_row_at (enc := enc) (C := Tryz.checked) false (Qst os) #[.agg #[.slice none 0 0, .slice none 0 0, .slice none 0 0, .slice none 0 0], .agg #[.slice none 0 0, .slice none 0 0, .int .i64 0], .agg #[.int .i64 0, .int .i64 0]] rfl (by kernel_rfl) (by kernel_rfl) (by kernel_rfl)
      (OpenSpec.preRow_of_cond 8 hx (by kernel_rfl) (fun k hk => by cases hk) (by kernel_rfl) (QNp os))) ?_
  intro W base args ds gs before hval hW hwt hL _
  exact QJi H enc W base args ds gs before hval hW hL
theorem said:Rows.LockWaysSaid :=
  OpenClaim.holds_of_wide_leaving 4 Tryz.f4 rfl rfl rfl rfl rfl rfl rfl ⟨rfl, rfl, rfl, rfl, rfl⟩ rfl rfl rfl rfl rfl (by kernel_rfl) Tryz.func4 QJd
    (of_decide_eq_true (by kernel_rfl)) (by unfold Func.isWrapper;first | (rw [if_pos (by decide +kernel)];kernel_rfl) | (rw [if_neg (by decide +kernel)];exact ⟨rfl, rfl⟩))
    (fun os started H enc _ => by rw [OpenClaim.pre_eq_preRow];exact lifted os started H enc)
theorem plain (f:FuncId) (fn:Func) (hf:Tryz.pinned.checked.prog.funcNamed Rows.lockWaysRow.func=some f) (hfn:Tryz.pinned.checked.prog.funcs[f]?=some fn) :
    false=Tryz.pinned.checked.prog.looks []/\∀ (j:Nat) t, fn.params[j]?=some t->Tryz.pinned.checked.prog.wantsStandIn t=false := by
  obtain rfl:f=4 := Option.some.inj ((show Tryz.prog.funcNamed Rows.lockWaysRow.func=some 4 by kernel_rfl).symm.trans hf) |>.symm
  obtain rfl:fn=Tryz.f4 := (Option.some.inj (Tryz.func4.symm.trans hfn)).symm
  refine ⟨by kernel_rfl, fun j t ht => ?_⟩
  rw [Tryz.params4] at ht
  have hm := Array.mem_of_getElem? ht
  have hall:(#[26, 39, 40]:Array TypeId).all (fun t => !Tryz.prog.wantsStandIn t)=true := by kernel_rfl
  have := Array.all_eq_true'.1 hall t hm
  show Tryz.prog.wantsStandIn t=false
  simpa using this
theorem wfT:Rows.lockWaysRow.wfByText (OpenSpec.ofChange Rows.lockWaysSpec)=true := by kernel_rfl
theorem QPx:Tryz.pinned.checked.prog.mainIs=some (Rows.lockWaysCard.stood.harness.1, Rows.lockWaysCard.stood.harness.2.toList) := by kernel_rfl
theorem QMj:true=Rows.lockWaysRow.goesBy Tryz.pinned.checked.prog := by kernel_rfl
theorem card:Rows.LockWaysCardSaid :=
  Claim7.holds_tied_goes_at .later _ _ _ _ _ said wfT lockWays_row_tie rfl ⟨rfl, rfl⟩ QPx rfl plain QMj
#print axioms card
end Go.Proofs.YthonianbjkhnpaaGreatDoor.lockWays
