/- The law TopLockThere answers true at every input, on every schedule, and leaves its arguments as they were. Condition: none beyond the row's own. (said in fewer words) -/
import Derived.Test.YthonianbjkhnpaaGreatDoorCards
import Derived.Test.YthonianbjkhnpaaGreatDoorTie
import Derived.Test.YthonianbjkhnpaaGreatDoorGwCloseRow
import Derived.Test.YthonianbjkhnpaaGreatDoorGwOpens
import Derived.Test.YthonianbjkhnpaaGreatDoorGwPThere
set_option linter.unusedVariables false
set_option linter.unusedSimpArgs false
set_option linter.unusedSectionVars false
set_option maxRecDepth 100000
namespace Go.Proofs.YthonianbjkhnpaaGreatDoor.topLockThere
open Go Go.Gw Go.Conc Go.ChangeShapes Go.WideShapes Go.ChangeAt Go.RowKit
theorem own:ownKnob Tryz.prog.godebug=none := by kernel_rfl
theorem QLo:laidOutB Tryz.prog=true := by kernel_rfl
theorem QSr:Qju Tryz.prog Tryz.f5.params.toList=true := by kernel_rfl
theorem QVf {W:World} (h:laidMetH Tryz.prog Rows.topLockThereRow.laid W):At (Gw.view0 W) ⟨0, 0, none⟩ (([1, 10, 100, 1000, 10000, 100000, 1000000, 10000000, 100000000, 1000000000, 10000000000, 100000000000, 1000000000000, 10000000000000, 100000000000000, 1000000000000000, 10000000000000000, 100000000000000000, 1000000000000000000, 10000000000000000000]:List Int).map fun z => Value.int .u64 z) :=
  QLq (name := "internal/strconv.uint64pow10") (t := 236) (by kernel_rfl) (by kernel_rfl) (by kernel_rfl) Tryz.underlying236 Tryz.underlying143 (by kernel_rfl) (by kernel_rfl) h
theorem QHc (H:Type) (enc:TypeId×Value->H) (W:World) (base:Nat) (args:Array Value) (ds gs:List (DataW H)) (before:List MemPlace)
    (hval:∀ (j:Nat) t v, Tryz.f5.params[j]?=some t->args[j]?=some v->Value.okWide Tryz.prog W .any base t v)
    (hW:DataW.Whole enc Tryz.prog Tryz.f5.params.toList Rows.topLockThereSpec.vars false W args.toList ds gs before)
    (hL:laidMetH Tryz.prog Rows.topLockThereRow.laid W) :
    ∃ M last o w' t', runNT Tryz.prog (M+1) (solo (G (Frame.enter Tryz.prog 5 args .normal) []) W) #[]=(.ended o w', t')/\runN Tryz.prog M (solo (G (Frame.enter Tryz.prog 5 args .normal) []) W)=.next last /\
      step Tryz.prog last=.ended o w'/\Conc.Good Tryz.prog (fun v W' => Rows.topLockThereSpec.post enc Tryz.prog Tryz.f5 false true false false W args v W') last o w' t' := by
  have hW' := hW
  obtain ⟨p, q, hA0, hV, rfl, hfz, hnd⟩ := hW
  have hA:DataW.TrodAll enc Tryz.prog W 0 (fun _ => true) true Tryz.f5.params.toList args.toList ds p := hA0
  rw [Tryz.params5] at hA hval
  obtain ⟨v0, vs0, d0, ds0, p0, q0, hargs, rfl, rfl, h0, r0⟩ := trodAll_cons hA
  obtain ⟨v1, vs1, d1, ds1, p1, q1, rfl, rfl, rfl, h1, r1⟩ := trodAll_cons r0
  obtain ⟨v2, vs2, d2, ds2, p2, q2, rfl, rfl, rfl, h2, r2⟩ := trodAll_cons r1
  obtain ⟨rfl, rfl, rfl⟩ := trodAll_nil r2
  obtain rfl:args=#[v0, v1, v2] := by cases args;simp_all
  obtain ⟨rfl, rfl⟩ := trodVars_none hV
  obtain ⟨cs0, x0, rfl, s0, w0⟩ := Qwg QQy Tryz.underlying26 (hval 0 26 v0 rfl rfl) h0
  obtain ⟨cs1, x1, rfl, s1, w1⟩ := Qwg QQz Tryz.underlying39 (hval 1 39 v1 rfl rfl) h1
  obtain ⟨cs2, x2, rfl, s2, w2⟩ := QGb QRa Tryz.underlying40 (hval 2 40 v2 rfl rfl) h2
  obtain ⟨M, last, o, w', t', h1, h2, h3, h4⟩ := QWb (QKj [] (view0 W) (LtL.nil _) (QVf hL) cs0 x0 (Rep.step (Qvb W) s0) cs1 x1 (Rep.step (Qvb W) s1) cs2 x2 (Rep.step (Qvb W) s2) true (QFj x0 x1 x2))
  refine ⟨M, last, o, w', t', h1, h2, h3, h4.mono fun v hp => ?_⟩
  obtain ⟨rfl, hx⟩ := hp
  exact QLw QLo QSr hW' rfl rfl rfl rfl rfl Tryz.underlying4 hx
theorem QIj:Rows.topLockThereRow.wf (OpenSpec.ofChange Rows.topLockThereSpec)=true := by kernel_rfl
theorem QIk:laidOutB Tryz.prog=true := by kernel_rfl
theorem QIv:mapsRowed Tryz.prog=true := by kernel_rfl
theorem QJg:Tryz.f5.params.all (Tryz.prog.readableRec ·)=true := by kernel_rfl
theorem QJj:namedTie Tryz.prog Rows.topLockThereRow.named Rows.topLockThereSpec.vars=true := by kernel_rfl
theorem QJk:(Rows.topLockThereRow.stops == [])=true := by kernel_rfl
theorem QJl:(Tryz.prog.stops == [])=true := by kernel_rfl
theorem QJm:(Rows.topLockThereRow.knobs == [])=true := by kernel_rfl
theorem QJn:(Tryz.prog.stopKnobs == [])=true := by kernel_rfl
theorem QJo:(Rows.topLockThereRow.inPlace == Tryz.prog.inPlace 5)=true := by kernel_rfl
theorem QIl:(Rows.topLockThereRow.unfollowed == Tryz.prog.unfollowed 5)=true := by kernel_rfl
theorem QIm:(Rows.topLockThereRow.recurses == Tryz.prog.recurses 5)=true := by kernel_rfl
theorem QIn:(Rows.topLockThereRow.named == Tryz.prog.varsNamed 5)=true := by kernel_rfl
theorem QIo:(Rows.topLockThereRow.maps == (Tryz.f5.params.toList++Rows.topLockThereSpec.plain.varTypes Tryz.prog).any (Tryz.prog.mapsRec ·))=true := by kernel_rfl
theorem QIp:(Rows.topLockThereRow.ifaces == (Tryz.f5.params.toList++Rows.topLockThereSpec.plain.varTypes Tryz.prog).any (Tryz.prog.ifacesRec ·))=true := by kernel_rfl
theorem QIq:(Rows.topLockThereRow.mapsOut == Tryz.prog.mapsAmong Tryz.f5.resultTypes.toList)=true := by kernel_rfl
theorem QIr:(Rows.topLockThereRow.loops == (Tryz.f5.params.toList++Rows.topLockThereSpec.plain.varTypes Tryz.prog).any (Tryz.prog.loopsFrom ·))=true := by kernel_rfl
theorem QIs:(Rows.topLockThereRow.wideKeys == (Tryz.f5.params.toList++Rows.topLockThereSpec.plain.varTypes Tryz.prog++Tryz.f5.resultTypes.toList).any (Tryz.prog.wideKeysFrom ·))=true := by kernel_rfl
theorem QIt:Rows.topLockThereSpec.vars.all (Tryz.prog.varReadable ·)=true := by kernel_rfl
theorem QIu:Tryz.f5.resultTypes.all (fun t => Tryz.prog.readableRec t&&decide (t < Tryz.prog.types.size))=true := by kernel_rfl
theorem QIw:(Rows.topLockThereRow.ifacesOut == Tryz.f5.resultTypes.toList.any (Tryz.prog.ifacesRec ·))=true := by kernel_rfl
theorem QIx:(Rows.topLockThereRow.loopsOut == Tryz.f5.resultTypes.toList.any (Tryz.prog.loopsFrom ·))=true := by kernel_rfl
theorem QIy:(Rows.topLockThereRow.plainKeys == Tryz.prog.plainKeys)=true := by kernel_rfl
theorem QIz:Rows.topLockThereRow.shortTexts.isNone=true := by kernel_rfl
theorem QJa:Tryz.prog.stopsHeard=true := by kernel_rfl
theorem QJb:Tryz.prog.mayEnter=true := by kernel_rfl
theorem QJc:(Rows.topLockThereRow.lifted == Tryz.prog.liftsFinal)=true := by kernel_rfl
theorem QJd:(Tryz.prog.make == some Rows.topLockThereRow.make)=true := by kernel_rfl
theorem QJe:(Rows.topLockThereRow.kinds == (if Rows.topLockThereRow.domain.isEmpty then [] else Tryz.f5.params.toList.map fun t => match Tryz.prog.underlying t with | some (.int k) => some k | _ => none))=true := by kernel_rfl
theorem QJf:(Rows.topLockThereRow.pinned == Rows.topLockThereRow.pinnedBy)=true := by kernel_rfl
theorem QJh:(Rows.topLockThereRow.veiled == (Tryz.f5.params.toList++Rows.topLockThereSpec.plain.varTypes Tryz.prog++Tryz.f5.resultTypes.toList).any (Tryz.prog.veiledRec ·))=true := by kernel_rfl
theorem QJi:Rows.topLockThereRow.veiledFits Tryz.prog Tryz.f5.params.toList (Tryz.f5.params.toList++Rows.topLockThereSpec.plain.varTypes Tryz.prog++Tryz.f5.resultTypes.toList)=true := by kernel_rfl
theorem Yy {a b:Bool} (ha:a=true) (hb:b=true):(a&&b)=true := by subst ha;subst hb;rfl
theorem QGw:joinedFacts Tryz.prog 5 Tryz.f5 Rows.topLockThereSpec Rows.topLockThereRow=true := (Yy (Yy (Yy (Yy (Yy (Yy (Yy (Yy (Yy (Yy (Yy (Yy (Yy (Yy (Yy (Yy (Yy (Yy (Yy (Yy (Yy (Yy (Yy (Yy (Yy (Yy (Yy (Yy (Yy (Yy (Yy QIj QIk) QIv) QJg) QJj) QJk) QJl) QJm) QJn) QJo) QIl) QIm) QIn) QIo) QIp) QIq) QIr) QIs) QIt) QIu) QIw) QIx) QIy) QIz) QJa) QJb) QJc) QJd) QJe) QJf) QJh) QJi)
def Qrp (vs:Array Value):Obj->Obj
  | .cells _ t frozen => .cells vs t frozen
  | o => o
noncomputable def Qrq (os:Os):World := { World.holding Tryz.prog os ⟨#[], #[], []⟩ with heap := ((((World.holding Tryz.prog os ⟨#[], #[], []⟩).heap.modify 0 (Qrp #[.int .u64 1, .int .u64 10, .int .u64 100, .int .u64 1000, .int .u64 10000, .int .u64 100000, .int .u64 1000000, .int .u64 10000000, .int .u64 100000000, .int .u64 1000000000, .int .u64 10000000000, .int .u64 100000000000, .int .u64 1000000000000, .int .u64 10000000000000, .int .u64 100000000000000, .int .u64 1000000000000000, .int .u64 10000000000000000, .int .u64 100000000000000000, .int .u64 1000000000000000000, .int .u64 10000000000000000000])).modify 2 (Qrp #[.int .u8 0, .int .u8 1, .int .u8 28, .int .u8 2, .int .u8 29, .int .u8 14, .int .u8 24, .int .u8 3, .int .u8 30, .int .u8 22, .int .u8 20, .int .u8 15, .int .u8 25, .int .u8 17, .int .u8 4, .int .u8 8, .int .u8 31, .int .u8 27, .int .u8 13, .int .u8 23, .int .u8 21, .int .u8 19, .int .u8 16, .int .u8 7, .int .u8 26, .int .u8 12, .int .u8 18, .int .u8 6, .int .u8 11, .int .u8 5, .int .u8 10, .int .u8 9])).modify 3 (Qrp #[.int .u8 0, .int .u8 1, .int .u8 56, .int .u8 2, .int .u8 57, .int .u8 49, .int .u8 28, .int .u8 3, .int .u8 61, .int .u8 58, .int .u8 42, .int .u8 50, .int .u8 38, .int .u8 29, .int .u8 17, .int .u8 4, .int .u8 62, .int .u8 47, .int .u8 59, .int .u8 36, .int .u8 45, .int .u8 43, .int .u8 51, .int .u8 22, .int .u8 53, .int .u8 39, .int .u8 33, .int .u8 30, .int .u8 24, .int .u8 18, .int .u8 12, .int .u8 5, .int .u8 63, .int .u8 55, .int .u8 48, .int .u8 27, .int .u8 60, .int .u8 41, .int .u8 37, .int .u8 16, .int .u8 46, .int .u8 35, .int .u8 44, .int .u8 21, .int .u8 52, .int .u8 32, .int .u8 23, .int .u8 11, .int .u8 54, .int .u8 26, .int .u8 40, .int .u8 15, .int .u8 34, .int .u8 20, .int .u8 31, .int .u8 10, .int .u8 25, .int .u8 14, .int .u8 19, .int .u8 9, .int .u8 13, .int .u8 8, .int .u8 7, .int .u8 6])) }
theorem QLp (os:Os):laidMet Tryz.prog Rows.topLockThereRow.laid ((Qrq os).forCall (fun _ _ => 0) ⟨#[], #[.agg #[.slice none 0 0, .slice none 0 0, .slice none 0 0, .slice none 0 0], .agg #[.slice none 0 0, .slice none 0 0, .int .i64 0], .agg #[.int .i64 0, .int .i64 0]], []⟩).memory :=
  laidMet_of_run' 8 (by kernel_rfl) (by kernel_rfl)
theorem QBt (os:Os) {H:Type} (enc:TypeId×Value->H):∃ places, DataW.whole enc Tryz.prog ((Qrq os).forCall (fun _ _ => 0) ⟨#[], #[.agg #[.slice none 0 0, .slice none 0 0, .slice none 0 0, .slice none 0 0], .agg #[.slice none 0 0, .slice none 0 0, .int .i64 0], .agg #[.int .i64 0, .int .i64 0]], []⟩).memory Tryz.f5.params.toList Rows.topLockThereSpec.vars false (#[.agg #[.slice none 0 0, .slice none 0 0, .slice none 0 0, .slice none 0 0], .agg #[.slice none 0 0, .slice none 0 0, .int .i64 0], .agg #[.int .i64 0, .int .i64 0]]:Array Value).toList 8=some ([.agg [.nil, .nil, .nil, .nil], .agg [.nil, .nil, .lit (.int .i64 0)], .agg [.lit (.int .i64 0), .lit (.int .i64 0)]], [], places) :=
  ⟨[], by kernel_rfl⟩
theorem lifted (os:Os) (started:os.Started) (H:Type) (enc:TypeId×Value->H) :
    ReturnsInLeavingWide {} Tryz.checked os 5 .any ((OpenSpec.ofChange Rows.topLockThereSpec).preRow enc Tryz.prog Tryz.f5 Rows.topLockThereRow.domain false Rows.topLockThereRow.laid) (Rows.topLockThereSpec.post enc Tryz.prog Tryz.f5 false true false false) := by
  obtain ⟨places, hx⟩ := QBt os enc
  refine QSl (C := Tryz.checked) (s := Rows.topLockThereSpec) own started Tryz.func5
    (witness_row_at (enc := enc) (C := Tryz.checked) false (Qrq os) #[.agg #[.slice none 0 0, .slice none 0 0, .slice none 0 0, .slice none 0 0], .agg #[.slice none 0 0, .slice none 0 0, .int .i64 0], .agg #[.int .i64 0, .int .i64 0]] rfl (by kernel_rfl) (by kernel_rfl) (by kernel_rfl)
      (OpenSpec.preRow_of_cond 8 hx (by kernel_rfl) (fun k hk => by cases hk) (by kernel_rfl) (QLp os))) ?_
  intro W base args ds gs before hval hW hwt hL _
  exact QHc H enc W base args ds gs before hval hW hL
theorem said:Rows.TopLockThereSaid :=
  OpenClaim.holds_of_wide_leaving 5 Tryz.f5 rfl rfl rfl rfl rfl rfl rfl ⟨rfl, rfl, rfl, rfl, rfl⟩ rfl rfl rfl rfl rfl (by kernel_rfl) Tryz.func5 QGw
    (of_decide_eq_true (by kernel_rfl)) (by unfold Func.isWrapper;first | (rw [if_pos (by decide +kernel)];kernel_rfl) | (rw [if_neg (by decide +kernel)];exact ⟨rfl, rfl⟩))
    (fun os started H enc _ => by rw [OpenClaim.pre_eq_preRow];exact lifted os started H enc)
theorem plain (f:FuncId) (fn:Func) (hf:Tryz.pinned.checked.prog.funcNamed Rows.topLockThereRow.func=some f) (hfn:Tryz.pinned.checked.prog.funcs[f]?=some fn) :
    false=Tryz.pinned.checked.prog.looks []/\∀ (j:Nat) t, fn.params[j]?=some t->Tryz.pinned.checked.prog.wantsStandIn t=false := by
  obtain rfl:f=5 := Option.some.inj ((show Tryz.prog.funcNamed Rows.topLockThereRow.func=some 5 by kernel_rfl).symm.trans hf) |>.symm
  obtain rfl:fn=Tryz.f5 := (Option.some.inj (Tryz.func5.symm.trans hfn)).symm
  refine ⟨by kernel_rfl, fun j t ht => ?_⟩
  rw [Tryz.params5] at ht
  have hm := Array.mem_of_getElem? ht
  have hall:(#[26, 39, 40]:Array TypeId).all (fun t => !Tryz.prog.wantsStandIn t)=true := by kernel_rfl
  have := Array.all_eq_true'.1 hall t hm
  show Tryz.prog.wantsStandIn t=false
  simpa using this
theorem wfT:Rows.topLockThereRow.wfByText (OpenSpec.ofChange Rows.topLockThereSpec)=true := by kernel_rfl
theorem QNq:Tryz.pinned.checked.prog.mainIs=some (Rows.topLockThereCard.stood.harness.1, Rows.topLockThereCard.stood.harness.2.toList) := by kernel_rfl
theorem QKe:true=Rows.topLockThereRow.goesBy Tryz.pinned.checked.prog := by kernel_rfl
theorem card:Rows.TopLockThereCardSaid :=
  Claim7.holds_tied_goes_at .later _ _ _ _ _ said wfT topLockThere_row_tie rfl ⟨rfl, rfl⟩ QNq rfl plain QKe
#print axioms card
end Go.Proofs.YthonianbjkhnpaaGreatDoor.topLockThere
