/- The law FeedTexts answers true at every input, on every schedule, and leaves its arguments as they were. Condition: none beyond the row's own. (said in fewer words) -/
import Derived.Test.YtjladlhgnoiagaaGreatDoorCards
import Derived.Test.YtjladlhgnoiagaaGreatDoorTie
import Derived.Test.YtjladlhgnoiagaaGreatDoorGwCloseRow
import Derived.Test.YtjladlhgnoiagaaGreatDoorGwOpens
import Derived.Test.YtjladlhgnoiagaaGreatDoorGwPTexts
set_option linter.unusedVariables false
set_option linter.unusedSimpArgs false
set_option linter.unusedSectionVars false
set_option maxRecDepth 100000
namespace Go.Proofs.YtjladlhgnoiagaaGreatDoor.feedTexts
open Go Go.Gw Go.Conc Go.ChangeShapes Go.WideShapes Go.ChangeAt Go.RowKit
theorem own:ownKnob Tryz.prog.godebug=none := by kernel_rfl
theorem QAy:laidOutB Tryz.prog=true := by kernel_rfl
theorem QFj:Qdb Tryz.prog Tryz.f3.params.toList=true := by kernel_rfl
theorem QHr {W:World} (h:laidMetH Tryz.prog Rows.feedTextsRow.laid W):gerr0 (Gw.view0 W) :=
  Qot (name := "strconv.ErrSyntax") (d := Rows.laid_strconv_ErrSyntax) (t := 68) (by kernel_rfl) rfl (by kernel_rfl) (by kernel_rfl) ⟨_, Tryz.underlying68⟩ h
theorem QHs {W:World} (h:laidMetH Tryz.prog Rows.feedTextsRow.laid W):gerr1 (Gw.view0 W) :=
  Qot (name := "strconv.ErrRange") (d := Rows.laid_strconv_ErrRange) (t := 68) (by kernel_rfl) rfl (by kernel_rfl) (by kernel_rfl) ⟨_, Tryz.underlying68⟩ h
theorem QHt {W:World} (h:laidMetH Tryz.prog Rows.feedTextsRow.laid W):At (Gw.view0 W) ⟨2, 0, none⟩ (([1, 10, 100, 1000, 10000, 100000, 1000000, 10000000, 100000000, 1000000000, 10000000000, 100000000000, 1000000000000, 10000000000000, 100000000000000, 1000000000000000, 10000000000000000, 100000000000000000, 1000000000000000000, 10000000000000000000]:List Int).map fun z => Value.int .u64 z) :=
  QBa (name := "internal/strconv.uint64pow10") (t := 173) (by kernel_rfl) (by kernel_rfl) (by kernel_rfl) Tryz.underlying173 Tryz.underlying155 (by kernel_rfl) (by kernel_rfl) h
theorem Qvf (H:Type) (enc:TypeId×Value->H) (W:World) (base:Nat) (args:Array Value) (ds gs:List (DataW H)) (before:List MemPlace)
  (hval:∀ (j:Nat) t v, Tryz.f3.params[j]?=some t->args[j]?=some v->Value.okWide Tryz.prog W .any base t v)
  (hW:DataW.Whole enc Tryz.prog Tryz.f3.params.toList Rows.feedTextsSpec.vars false W args.toList ds gs before)
  (hL:laidMetH Tryz.prog Rows.feedTextsRow.laid W) :
  ∃ M last o w' t', runNT Tryz.prog (M+1) (solo (G (Frame.enter Tryz.prog 3 args .normal) []) W) #[]=(.ended o w', t')/\runN Tryz.prog M (solo (G (Frame.enter Tryz.prog 3 args .normal) []) W)=.next last /\
   step Tryz.prog last=.ended o w'/\Conc.Good Tryz.prog (fun v W' => Rows.feedTextsSpec.post enc Tryz.prog Tryz.f3 false true false false W args v W') last o w' t' := by
 have hW' := hW;obtain ⟨p, q, hA0, hV, rfl, hfz, hnd⟩ := hW;have hA:DataW.TrodAll enc Tryz.prog W 0 (fun _ => true) true Tryz.f3.params.toList args.toList ds p := hA0;rw [Tryz.params3] at hA hval;obtain ⟨v0, vs0, d0, ds0, p0, q0, hargs, rfl, rfl, h0, r0⟩ := trodAll_cons hA;obtain ⟨v1, vs1, d1, ds1, p1, q1, rfl, rfl, rfl, h1, r1⟩ := trodAll_cons r0;obtain ⟨rfl, rfl, rfl⟩ := trodAll_nil r1;obtain rfl:args=#[v0, v1] := by cases args;simp_all
 obtain ⟨rfl, rfl⟩ := trodVars_none hV;obtain ⟨cs0, x0, rfl, s0, w0⟩ := Qtw QEm Tryz.underlying23 (hval 0 23 v0 rfl rfl) h0;obtain ⟨x1, rfl, w1⟩ := Qtx Tryz.underlying9 (hval 1 9 v1 rfl rfl) h1;obtain ⟨M, last, o, w', t', h1, h2, h3, h4⟩ := QIt (QBb [] (view0 W) (LtL.nil _) (QHr hL) (QHs hL) (QHt hL) cs0 x0 (Rep.step (QJe W) s0) x1 true (Qtf x0 x1 w0 w1));refine ⟨M, last, o, w', t', h1, h2, h3, h4.mono fun v hp => ?_⟩;obtain ⟨rfl, hx⟩ := hp;exact QBd QAy QFj hW' rfl rfl rfl rfl rfl Tryz.underlying4 hx
theorem Qwj:Rows.feedTextsRow.wf (OpenSpec.ofChange Rows.feedTextsSpec)=true := by kernel_rfl
theorem Qwk:laidOutB Tryz.prog=true := by kernel_rfl
theorem Qwv:mapsRowed Tryz.prog=true := by kernel_rfl
theorem Qxg:Tryz.f3.params.all (Tryz.prog.readableRec ·)=true := by kernel_rfl
theorem Qxj:namedTie Tryz.prog Rows.feedTextsRow.named Rows.feedTextsSpec.vars=true := by kernel_rfl
theorem Qxk:(Rows.feedTextsRow.stops == [])=true := by kernel_rfl
theorem Qxl:(Tryz.prog.stops == [])=true := by kernel_rfl
theorem Qxm:(Rows.feedTextsRow.knobs == [])=true := by kernel_rfl
theorem Qxn:(Tryz.prog.stopKnobs == [])=true := by kernel_rfl
theorem Qxo:(Rows.feedTextsRow.inPlace == Tryz.prog.inPlace 3)=true := by kernel_rfl
theorem Qwl:(Rows.feedTextsRow.unfollowed == Tryz.prog.unfollowed 3)=true := by kernel_rfl
theorem Qwm:(Rows.feedTextsRow.recurses == Tryz.prog.recurses 3)=true := by kernel_rfl
theorem Qwn:(Rows.feedTextsRow.named == Tryz.prog.varsNamed 3)=true := by kernel_rfl
theorem Qwo:(Rows.feedTextsRow.maps == (Tryz.f3.params.toList++Rows.feedTextsSpec.plain.varTypes Tryz.prog).any (Tryz.prog.mapsRec ·))=true := by kernel_rfl
theorem Qwp:(Rows.feedTextsRow.ifaces == (Tryz.f3.params.toList++Rows.feedTextsSpec.plain.varTypes Tryz.prog).any (Tryz.prog.ifacesRec ·))=true := by kernel_rfl
theorem Qwq:(Rows.feedTextsRow.mapsOut == Tryz.prog.mapsAmong Tryz.f3.resultTypes.toList)=true := by kernel_rfl
theorem Qwr:(Rows.feedTextsRow.loops == (Tryz.f3.params.toList++Rows.feedTextsSpec.plain.varTypes Tryz.prog).any (Tryz.prog.loopsFrom ·))=true := by kernel_rfl
theorem Qws:(Rows.feedTextsRow.wideKeys == (Tryz.f3.params.toList++Rows.feedTextsSpec.plain.varTypes Tryz.prog++Tryz.f3.resultTypes.toList).any (Tryz.prog.wideKeysFrom ·))=true := by kernel_rfl
theorem Qwt:Rows.feedTextsSpec.vars.all (Tryz.prog.varReadable ·)=true := by kernel_rfl
theorem Qwu:Tryz.f3.resultTypes.all (fun t => Tryz.prog.readableRec t&&decide (t < Tryz.prog.types.size))=true := by kernel_rfl
theorem Qww:(Rows.feedTextsRow.ifacesOut == Tryz.f3.resultTypes.toList.any (Tryz.prog.ifacesRec ·))=true := by kernel_rfl
theorem Qwx:(Rows.feedTextsRow.loopsOut == Tryz.f3.resultTypes.toList.any (Tryz.prog.loopsFrom ·))=true := by kernel_rfl
theorem Qwy:(Rows.feedTextsRow.plainKeys == Tryz.prog.plainKeys)=true := by kernel_rfl
theorem Qwz:Rows.feedTextsRow.shortTexts.isNone=true := by kernel_rfl
theorem Qxa:Tryz.prog.stopsHeard=true := by kernel_rfl
theorem Qxb:Tryz.prog.mayEnter=true := by kernel_rfl
theorem Qxc:(Rows.feedTextsRow.lifted == Tryz.prog.liftsFinal)=true := by kernel_rfl
theorem Qxd:(Tryz.prog.make == some Rows.feedTextsRow.make)=true := by kernel_rfl
theorem Qxe:(Rows.feedTextsRow.kinds == (if Rows.feedTextsRow.domain.isEmpty then [] else Tryz.f3.params.toList.map fun t => match Tryz.prog.underlying t with | some (.int k) => some k | _ => none))=true := by kernel_rfl
theorem Qxf:(Rows.feedTextsRow.pinned == Rows.feedTextsRow.pinnedBy)=true := by kernel_rfl
theorem Qxh:(Rows.feedTextsRow.veiled == (Tryz.f3.params.toList++Rows.feedTextsSpec.plain.varTypes Tryz.prog++Tryz.f3.resultTypes.toList).any (Tryz.prog.veiledRec ·))=true := by kernel_rfl
theorem Qxi:Rows.feedTextsRow.veiledFits Tryz.prog Tryz.f3.params.toList (Tryz.f3.params.toList++Rows.feedTextsSpec.plain.varTypes Tryz.prog++Tryz.f3.resultTypes.toList)=true := by kernel_rfl
theorem XY {a b:Bool} (ha:a=true) (hb:b=true):(a&&b)=true := by subst ha;subst hb;rfl
theorem closed:joinedFacts Tryz.prog 3 Tryz.f3 Rows.feedTextsSpec Rows.feedTextsRow=true := (XY (XY (XY (XY (XY (XY (XY (XY (XY (XY (XY (XY (XY (XY (XY (XY (XY (XY (XY (XY (XY (XY (XY (XY (XY (XY (XY (XY (XY (XY (XY Qwj Qwk) Qwv) Qxg) Qxj) Qxk) Qxl) Qxm) Qxn) Qxo) Qwl) Qwm) Qwn) Qwo) Qwp) Qwq) Qwr) Qws) Qwt) Qwu) Qww) Qwx) Qwy) Qwz) Qxa) Qxb) Qxc) Qxd) Qxe) Qxf) Qxh) Qxi)
def Qaf (vs:Array Value):Obj->Obj
 | .cells _ t frozen => .cells vs t frozen
 | o => o
noncomputable def Qjc (os:Os):World := { World.holding Tryz.prog os ⟨#[], #[], []⟩ with heap := ((((((((((World.holding Tryz.prog os ⟨#[], #[], []⟩).heap.modify 2 (Qaf #[.int .u64 1, .int .u64 10, .int .u64 100, .int .u64 1000, .int .u64 10000, .int .u64 100000, .int .u64 1000000, .int .u64 10000000, .int .u64 100000000, .int .u64 1000000000, .int .u64 10000000000, .int .u64 100000000000, .int .u64 1000000000000, .int .u64 10000000000000, .int .u64 100000000000000, .int .u64 1000000000000000, .int .u64 10000000000000000, .int .u64 100000000000000000, .int .u64 1000000000000000000, .int .u64 10000000000000000000])).modify 4 (Qaf (Go.Pinned.utf8FirstZ.map fun n:Nat => Value.int .u8 (n:Int)).toArray)).modify 5 (Qaf #[.int .u8 128, .int .u8 191, .int .u8 160, .int .u8 191, .int .u8 128, .int .u8 159, .int .u8 144, .int .u8 191, .int .u8 128, .int .u8 143, .int .u8 0, .int .u8 0, .int .u8 0, .int .u8 0, .int .u8 0, .int .u8 0, .int .u8 0, .int .u8 0, .int .u8 0, .int .u8 0, .int .u8 0, .int .u8 0, .int .u8 0, .int .u8 0, .int .u8 0, .int .u8 0, .int .u8 0, .int .u8 0, .int .u8 0, .int .u8 0, .int .u8 0, .int .u8 0])).modify 6 (Qaf #[.int .u8 0, .int .u8 1, .int .u8 28, .int .u8 2, .int .u8 29, .int .u8 14, .int .u8 24, .int .u8 3, .int .u8 30, .int .u8 22, .int .u8 20, .int .u8 15, .int .u8 25, .int .u8 17, .int .u8 4, .int .u8 8, .int .u8 31, .int .u8 27, .int .u8 13, .int .u8 23, .int .u8 21, .int .u8 19, .int .u8 16, .int .u8 7, .int .u8 26, .int .u8 12, .int .u8 18, .int .u8 6, .int .u8 11, .int .u8 5, .int .u8 10, .int .u8 9])).modify 7 (Qaf #[.int .u8 0, .int .u8 1, .int .u8 56, .int .u8 2, .int .u8 57, .int .u8 49, .int .u8 28, .int .u8 3, .int .u8 61, .int .u8 58, .int .u8 42, .int .u8 50, .int .u8 38, .int .u8 29, .int .u8 17, .int .u8 4, .int .u8 62, .int .u8 47, .int .u8 59, .int .u8 36, .int .u8 45, .int .u8 43, .int .u8 51, .int .u8 22, .int .u8 53, .int .u8 39, .int .u8 33, .int .u8 30, .int .u8 24, .int .u8 18, .int .u8 12, .int .u8 5, .int .u8 63, .int .u8 55, .int .u8 48, .int .u8 27, .int .u8 60, .int .u8 41, .int .u8 37, .int .u8 16, .int .u8 46, .int .u8 35, .int .u8 44, .int .u8 21, .int .u8 52, .int .u8 32, .int .u8 23, .int .u8 11, .int .u8 54, .int .u8 26, .int .u8 40, .int .u8 15, .int .u8 34, .int .u8 20, .int .u8 31, .int .u8 10, .int .u8 25, .int .u8 14, .int .u8 19, .int .u8 9, .int .u8 13, .int .u8 8, .int .u8 7, .int .u8 6])).modify 0 (Qaf #[.iface 179 (.pointer (some ⟨(World.holding Tryz.prog os ⟨#[], #[], []⟩).heap.size+0, 0, none⟩))])).modify 1 (Qaf #[.iface 179 (.pointer (some ⟨(World.holding Tryz.prog os ⟨#[], #[], []⟩).heap.size+1, 0, none⟩))])).push (Obj.cells #[.string ⟨#[105, 110, 118, 97, 108, 105, 100, 32, 115, 121, 110, 116, 97, 120]⟩] 181 (0, 0))).push (Obj.cells #[.string ⟨#[118, 97, 108, 117, 101, 32, 111, 117, 116, 32, 111, 102, 32, 114, 97, 110, 103, 101]⟩] 181 (0, 0))) }
theorem QAz (os:Os):laidMet Tryz.prog Rows.feedTextsRow.laid ((Qjc os).forCall (fun _ _ => 0) ⟨#[], #[.agg #[.string ⟨#[]⟩, .int .i64 0], .string ⟨#[]⟩], []⟩).memory :=
 laidMet_of_run' 8 (by kernel_rfl) (by kernel_rfl)
theorem Qqj (os:Os) {H:Type} (enc:TypeId×Value->H):∃ places, DataW.whole enc Tryz.prog ((Qjc os).forCall (fun _ _ => 0) ⟨#[], #[.agg #[.string ⟨#[]⟩, .int .i64 0], .string ⟨#[]⟩], []⟩).memory Tryz.f3.params.toList Rows.feedTextsSpec.vars false (#[.agg #[.string ⟨#[]⟩, .int .i64 0], .string ⟨#[]⟩]:Array Value).toList 8=some ([.agg [.lit (.string []), .lit (.int .i64 0)], .lit (.string [])], [], places) :=
 ⟨[], by kernel_rfl⟩
theorem lifted (os:Os) (started:os.Started) (H:Type) (enc:TypeId×Value->H) :
    ReturnsInLeavingWide {} Tryz.checked os 3 .any ((OpenSpec.ofChange Rows.feedTextsSpec).preRow enc Tryz.prog Tryz.f3 Rows.feedTextsRow.domain false Rows.feedTextsRow.laid) (Rows.feedTextsSpec.post enc Tryz.prog Tryz.f3 false true false false) := by
  obtain ⟨places, hx⟩ := Qqj os enc;refine QFh (C := Tryz.checked) (s := Rows.feedTextsSpec) own started Tryz.func3
    (witness_row_at (enc := enc) (C := Tryz.checked) false (Qjc os) #[.agg #[.string ⟨#[]⟩, .int .i64 0], .string ⟨#[]⟩] rfl (by kernel_rfl) (by kernel_rfl) (by kernel_rfl)
      (OpenSpec.preRow_of_cond 8 hx (by kernel_rfl) (fun k hk => by cases hk) (by kernel_rfl) (QAz os))) ?_
  intro W base args ds gs before hval hW hwt hL _;exact Qvf H enc W base args ds gs before hval hW hL
theorem said:Rows.FeedTextsSaid :=
  OpenClaim.holds_of_wide_leaving 3 Tryz.f3 rfl rfl rfl rfl rfl rfl rfl ⟨rfl, rfl, rfl, rfl, rfl⟩ rfl rfl rfl rfl rfl (by kernel_rfl) Tryz.func3 closed
    (of_decide_eq_true (by kernel_rfl)) (by unfold Func.isWrapper;first | (rw [if_pos (by decide +kernel)];kernel_rfl) | (rw [if_neg (by decide +kernel)];exact ⟨rfl, rfl⟩))
    (fun os started H enc _ => by rw [OpenClaim.pre_eq_preRow];exact lifted os started H enc)
theorem plain (f:FuncId) (fn:Func) (hf:Tryz.pinned.checked.prog.funcNamed Rows.feedTextsRow.func=some f) (hfn:Tryz.pinned.checked.prog.funcs[f]?=some fn) :
  true=Tryz.pinned.checked.prog.looks []/\∀ (j:Nat) t, fn.params[j]?=some t->Tryz.pinned.checked.prog.wantsStandIn t=false := by
 obtain rfl:f=3 := Option.some.inj ((show Tryz.prog.funcNamed Rows.feedTextsRow.func=some 3 by kernel_rfl).symm.trans hf) |>.symm;obtain rfl:fn=Tryz.f3 := (Option.some.inj (Tryz.func3.symm.trans hfn)).symm;refine ⟨by kernel_rfl, fun j t ht => ?_⟩;rw [Tryz.params3] at ht;have hm := Array.mem_of_getElem? ht;have hall:(#[23, 9]:Array TypeId).all (fun t => !Tryz.prog.wantsStandIn t)=true := by kernel_rfl
 have := Array.all_eq_true'.1 hall t hm;show Tryz.prog.wantsStandIn t=false;simpa using this
theorem wfT:Rows.feedTextsRow.wfByText (OpenSpec.ofChange Rows.feedTextsSpec)=true := by kernel_rfl
theorem QBj:Tryz.pinned.checked.prog.mainIs=some (Rows.feedTextsCard.stood.harness.1, Rows.feedTextsCard.stood.harness.2.toList) := by kernel_rfl
theorem QAb:true=Rows.feedTextsRow.goesBy Tryz.pinned.checked.prog := by kernel_rfl
theorem card:Rows.FeedTextsCardSaid :=
 Claim7.holds_tied_goes_at .later _ _ _ _ _ said wfT feedTexts_row_tie rfl ⟨rfl, rfl⟩ QBj rfl plain QAb
#print axioms card
end Go.Proofs.YtjladlhgnoiagaaGreatDoor.feedTexts
