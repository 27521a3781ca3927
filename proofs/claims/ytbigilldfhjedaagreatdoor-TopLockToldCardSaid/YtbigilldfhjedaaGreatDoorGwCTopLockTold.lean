/- The law TopLockTold answers true at every input, on every schedule, and leaves its arguments as they were. Condition: none beyond the row's own. (said in fewer words) -/
import Derived.Test.YtbigilldfhjedaaGreatDoorCards
import Derived.Test.YtbigilldfhjedaaGreatDoorTie
import Derived.Test.YtbigilldfhjedaaGreatDoorGwCloseRow
import Derived.Test.YtbigilldfhjedaaGreatDoorGwOpens
import Derived.Test.YtbigilldfhjedaaGreatDoorGwPTold
set_option linter.unusedVariables false
set_option linter.unusedSimpArgs false
set_option linter.unusedSectionVars false
set_option maxRecDepth 100000
namespace Go.Proofs.YtbigilldfhjedaaGreatDoor.topLockTold
open Go Go.Gw Go.Conc Go.ChangeShapes Go.WideShapes Go.ChangeAt Go.RowKit
theorem own:ownKnob Tryz.prog.godebug=none := by kernel_rfl
theorem QMr:laidOutB Tryz.prog=true := by kernel_rfl
theorem QUh:Qjd Tryz.prog Tryz.f4.params.toList=true := by kernel_rfl
theorem QXf {W:World} (h:laidMetH Tryz.prog Rows.topLockToldRow.laid W):gtab0 (Gw.view0 W) :=
  QMt (name := "guideway/lock.words") (d := Rows.laid_guideway_lock_words) (t := 84) (ss := ([(ByteArray.mk #[112,108,97,99,101]), (ByteArray.mk #[114,101,113,117,101,115,116]), (ByteArray.mk #[116,117,114,110]), (ByteArray.mk #[101,110,116,101,114]), (ByteArray.mk #[108,101,97,118,101]), (ByteArray.mk #[103,105,118,101]), (ByteArray.mk #[116,97,107,101])] : List ByteArray)) (by kernel_rfl) rfl (by kernel_rfl) (by kernel_rfl) (by kernel_rfl) Tryz.underlying84 Tryz.underlying9 (by kernel_rfl) h
theorem QHt (H:Type) (enc:TypeId×Value->H) (W:World) (base:Nat) (args:Array Value) (ds gs:List (DataW H)) (before:List MemPlace)
    (hval:∀ (j:Nat) t v, Tryz.f4.params[j]?=some t->args[j]?=some v->Value.okWide Tryz.prog W .any base t v)
    (hW:DataW.Whole enc Tryz.prog Tryz.f4.params.toList Rows.topLockToldSpec.vars false W args.toList ds gs before)
    (hL:laidMetH Tryz.prog Rows.topLockToldRow.laid W) :
    ∃ M last o w' t', runNT Tryz.prog (M+1) (solo (G (Frame.enter Tryz.prog 4 args .normal) []) W) #[]=(.ended o w', t')/\runN Tryz.prog M (solo (G (Frame.enter Tryz.prog 4 args .normal) []) W)=.next last /\
      step Tryz.prog last=.ended o w'/\Conc.Good Tryz.prog (fun v W' => Rows.topLockToldSpec.post enc Tryz.prog Tryz.f4 false true false false W args v W') last o w' t' := by
  have hW' := hW
  obtain ⟨p, q, hA0, hV, rfl, hfz, hnd⟩ := hW
  have hA:DataW.TrodAll enc Tryz.prog W 0 (fun _ => true) true Tryz.f4.params.toList args.toList ds p := hA0
  rw [Tryz.params4] at hA hval
  obtain ⟨v0, vs0, d0, ds0, p0, q0, hargs, rfl, rfl, h0, r0⟩ := trodAll_cons hA
  obtain ⟨v1, vs1, d1, ds1, p1, q1, rfl, rfl, rfl, h1, r1⟩ := trodAll_cons r0
  obtain ⟨v2, vs2, d2, ds2, p2, q2, rfl, rfl, rfl, h2, r2⟩ := trodAll_cons r1
  obtain ⟨rfl, rfl, rfl⟩ := trodAll_nil r2
  obtain rfl:args=#[v0, v1, v2] := by cases args;simp_all
  obtain ⟨rfl, rfl⟩ := trodVars_none hV
  obtain ⟨cs0, x0, rfl, s0, w0⟩ := QGo QSw Tryz.underlying26 (hval 0 26 v0 rfl rfl) h0
  obtain ⟨x1, s1, w1⟩ := QGq QSy Tryz.underlying55 (hval 1 55 v1 rfl rfl) h1
  obtain ⟨cs2, x2, rfl, s2, w2⟩ := QGp QSz Tryz.underlying56 (hval 2 56 v2 rfl rfl) h2
  obtain ⟨M, last, o, w', t', h1, h2, h3, h4⟩ := QYg (QLt [] (view0 W) (LtL.nil _) (QXf hL) cs0 x0 (Rep.step (Qvx W) s0) v1 x1 (s1.step (Qvx W)) cs2 x2 (Rep.step (Qvx W) s2) true (QFw x0 x1 x2 w0 w1 w2))
  refine ⟨M, last, o, w', t', h1, h2, h3, h4.mono fun v hp => ?_⟩
  obtain ⟨rfl, hx⟩ := hp
  exact QMx QMr QUh hW' rfl rfl rfl rfl rfl Tryz.underlying4 hx
theorem QJj:Rows.topLockToldRow.wf (OpenSpec.ofChange Rows.topLockToldSpec)=true := by kernel_rfl
theorem QJk:laidOutB Tryz.prog=true := by kernel_rfl
theorem QJv:mapsRowed Tryz.prog=true := by kernel_rfl
theorem QKg:Tryz.f4.params.all (Tryz.prog.readableRec ·)=true := by kernel_rfl
theorem QKj:namedTie Tryz.prog Rows.topLockToldRow.named Rows.topLockToldSpec.vars=true := by kernel_rfl
theorem QKk:(Rows.topLockToldRow.stops == [])=true := by kernel_rfl
theorem QKl:(Tryz.prog.stops == [])=true := by kernel_rfl
theorem QKm:(Rows.topLockToldRow.knobs == [])=true := by kernel_rfl
theorem QKn:(Tryz.prog.stopKnobs == [])=true := by kernel_rfl
theorem QKo:(Rows.topLockToldRow.inPlace == Tryz.prog.inPlace 4)=true := by kernel_rfl
theorem QJl:(Rows.topLockToldRow.unfollowed == Tryz.prog.unfollowed 4)=true := by kernel_rfl
theorem QJm:(Rows.topLockToldRow.recurses == Tryz.prog.recurses 4)=true := by kernel_rfl
theorem QJn:(Rows.topLockToldRow.named == Tryz.prog.varsNamed 4)=true := by kernel_rfl
theorem QJo:(Rows.topLockToldRow.maps == (Tryz.f4.params.toList++Rows.topLockToldSpec.plain.varTypes Tryz.prog).any (Tryz.prog.mapsRec ·))=true := by kernel_rfl
theorem QJp:(Rows.topLockToldRow.ifaces == (Tryz.f4.params.toList++Rows.topLockToldSpec.plain.varTypes Tryz.prog).any (Tryz.prog.ifacesRec ·))=true := by kernel_rfl
theorem QJq:(Rows.topLockToldRow.mapsOut == Tryz.prog.mapsAmong Tryz.f4.resultTypes.toList)=true := by kernel_rfl
theorem QJr:(Rows.topLockToldRow.loops == (Tryz.f4.params.toList++Rows.topLockToldSpec.plain.varTypes Tryz.prog).any (Tryz.prog.loopsFrom ·))=true := by kernel_rfl
theorem QJs:(Rows.topLockToldRow.wideKeys == (Tryz.f4.params.toList++Rows.topLockToldSpec.plain.varTypes Tryz.prog++Tryz.f4.resultTypes.toList).any (Tryz.prog.wideKeysFrom ·))=true := by kernel_rfl
theorem QJt:Rows.topLockToldSpec.vars.all (Tryz.prog.varReadable ·)=true := by kernel_rfl
theorem QJu:Tryz.f4.resultTypes.all (fun t => Tryz.prog.readableRec t&&decide (t < Tryz.prog.types.size))=true := by kernel_rfl
theorem QJw:(Rows.topLockToldRow.ifacesOut == Tryz.f4.resultTypes.toList.any (Tryz.prog.ifacesRec ·))=true := by kernel_rfl
theorem QJx:(Rows.topLockToldRow.loopsOut == Tryz.f4.resultTypes.toList.any (Tryz.prog.loopsFrom ·))=true := by kernel_rfl
theorem QJy:(Rows.topLockToldRow.plainKeys == Tryz.prog.plainKeys)=true := by kernel_rfl
theorem QJz:Rows.topLockToldRow.shortTexts.isNone=true := by kernel_rfl
theorem QKa:Tryz.prog.stopsHeard=true := by kernel_rfl
theorem QKb:Tryz.prog.mayEnter=true := by kernel_rfl
theorem QKc:(Rows.topLockToldRow.lifted == Tryz.prog.liftsFinal)=true := by kernel_rfl
theorem QKd:(Tryz.prog.make == some Rows.topLockToldRow.make)=true := by kernel_rfl
theorem QKe:(Rows.topLockToldRow.kinds == (if Rows.topLockToldRow.domain.isEmpty then [] else Tryz.f4.params.toList.map fun t => match Tryz.prog.underlying t with | some (.int k) => some k | _ => none))=true := by kernel_rfl
theorem QKf:(Rows.topLockToldRow.pinned == Rows.topLockToldRow.pinnedBy)=true := by kernel_rfl
theorem QKh:(Rows.topLockToldRow.veiled == (Tryz.f4.params.toList++Rows.topLockToldSpec.plain.varTypes Tryz.prog++Tryz.f4.resultTypes.toList).any (Tryz.prog.veiledRec ·))=true := by kernel_rfl
theorem QKi:Rows.topLockToldRow.veiledFits Tryz.prog Tryz.f4.params.toList (Tryz.f4.params.toList++Rows.topLockToldSpec.plain.varTypes Tryz.prog++Tryz.f4.resultTypes.toList)=true := by kernel_rfl
theorem YE {a b:Bool} (ha:a=true) (hb:b=true):(a&&b)=true := by subst ha;subst hb;rfl
theorem QHm:joinedFacts Tryz.prog 4 Tryz.f4 Rows.topLockToldSpec Rows.topLockToldRow=true := (YE (YE (YE (YE (YE (YE (YE (YE (YE (YE (YE (YE (YE (YE (YE (YE (YE (YE (YE (YE (YE (YE (YE (YE (YE (YE (YE (YE (YE (YE (YE QJj QJk) QJv) QKg) QKj) QKk) QKl) QKm) QKn) QKo) QJl) QJm) QJn) QJo) QJp) QJq) QJr) QJs) QJt) QJu) QJw) QJx) QJy) QJz) QKa) QKb) QKc) QKd) QKe) QKf) QKh) QKi)
def Qdd (vs:Array Value):Obj->Obj
  | .cells _ t frozen => .cells vs t frozen
  | o => o
noncomputable def Qrt (os:Os):World := { World.holding Tryz.prog os ⟨#[], #[], []⟩ with heap := (((((((((((World.holding Tryz.prog os ⟨#[], #[], []⟩).heap.modify 0 (Qdd #[.string ⟨#[112, 108, 97, 99, 101]⟩, .string ⟨#[114, 101, 113, 117, 101, 115, 116]⟩, .string ⟨#[116, 117, 114, 110]⟩, .string ⟨#[101, 110, 116, 101, 114]⟩, .string ⟨#[108, 101, 97, 118, 101]⟩, .string ⟨#[103, 105, 118, 101]⟩, .string ⟨#[116, 97, 107, 101]⟩])).modify 1 (Qdd #[.int .u64 1, .int .u64 10, .int .u64 100, .int .u64 1000, .int .u64 10000, .int .u64 100000, .int .u64 1000000, .int .u64 10000000, .int .u64 100000000, .int .u64 1000000000, .int .u64 10000000000, .int .u64 100000000000, .int .u64 1000000000000, .int .u64 10000000000000, .int .u64 100000000000000, .int .u64 1000000000000000, .int .u64 10000000000000000, .int .u64 100000000000000000, .int .u64 1000000000000000000, .int .u64 10000000000000000000])).modify 5 (Qdd (Go.Pinned.utf8FirstZ.map fun n:Nat => Value.int .u8 (n:Int)).toArray)).modify 6 (Qdd #[.int .u8 128, .int .u8 191, .int .u8 160, .int .u8 191, .int .u8 128, .int .u8 159, .int .u8 144, .int .u8 191, .int .u8 128, .int .u8 143, .int .u8 0, .int .u8 0, .int .u8 0, .int .u8 0, .int .u8 0, .int .u8 0, .int .u8 0, .int .u8 0, .int .u8 0, .int .u8 0, .int .u8 0, .int .u8 0, .int .u8 0, .int .u8 0, .int .u8 0, .int .u8 0, .int .u8 0, .int .u8 0, .int .u8 0, .int .u8 0, .int .u8 0, .int .u8 0])).modify 7 (Qdd #[.int .u8 0, .int .u8 1, .int .u8 28, .int .u8 2, .int .u8 29, .int .u8 14, .int .u8 24, .int .u8 3, .int .u8 30, .int .u8 22, .int .u8 20, .int .u8 15, .int .u8 25, .int .u8 17, .int .u8 4, .int .u8 8, .int .u8 31, .int .u8 27, .int .u8 13, .int .u8 23, .int .u8 21, .int .u8 19, .int .u8 16, .int .u8 7, .int .u8 26, .int .u8 12, .int .u8 18, .int .u8 6, .int .u8 11, .int .u8 5, .int .u8 10, .int .u8 9])).modify 8 (Qdd #[.int .u8 0, .int .u8 1, .int .u8 56, .int .u8 2, .int .u8 57, .int .u8 49, .int .u8 28, .int .u8 3, .int .u8 61, .int .u8 58, .int .u8 42, .int .u8 50, .int .u8 38, .int .u8 29, .int .u8 17, .int .u8 4, .int .u8 62, .int .u8 47, .int .u8 59, .int .u8 36, .int .u8 45, .int .u8 43, .int .u8 51, .int .u8 22, .int .u8 53, .int .u8 39, .int .u8 33, .int .u8 30, .int .u8 24, .int .u8 18, .int .u8 12, .int .u8 5, .int .u8 63, .int .u8 55, .int .u8 48, .int .u8 27, .int .u8 60, .int .u8 41, .int .u8 37, .int .u8 16, .int .u8 46, .int .u8 35, .int .u8 44, .int .u8 21, .int .u8 52, .int .u8 32, .int .u8 23, .int .u8 11, .int .u8 54, .int .u8 26, .int .u8 40, .int .u8 15, .int .u8 34, .int .u8 20, .int .u8 31, .int .u8 10, .int .u8 25, .int .u8 14, .int .u8 19, .int .u8 9, .int .u8 13, .int .u8 8, .int .u8 7, .int .u8 6])).modify 3 (Qdd #[.iface 287 (.pointer (some ⟨(World.holding Tryz.prog os ⟨#[], #[], []⟩).heap.size+0, 0, none⟩))])).modify 4 (Qdd #[.iface 287 (.pointer (some ⟨(World.holding Tryz.prog os ⟨#[], #[], []⟩).heap.size+1, 0, none⟩))])).push (Obj.cells #[.string ⟨#[105, 110, 118, 97, 108, 105, 100, 32, 115, 121, 110, 116, 97, 120]⟩] 289 (0, 0))).push (Obj.cells #[.string ⟨#[118, 97, 108, 117, 101, 32, 111, 117, 116, 32, 111, 102, 32, 114, 97, 110, 103, 101]⟩] 289 (0, 0))) }
theorem QMs (os:Os):laidMet Tryz.prog Rows.topLockToldRow.laid ((Qrt os).forCall (fun _ _ => 0) ⟨#[], #[.agg #[.slice none 0 0, .slice none 0 0, .slice none 0 0, .slice none 0 0], .slice none 0 0, .agg #[.int .i64 0, .int .i64 0, .int .i64 0, .int .i64 0, .int .i64 0, .int .i64 0]], []⟩).memory :=
  laidMet_of_run' 8 (by kernel_rfl) (by kernel_rfl)
theorem QCd (os:Os) {H:Type} (enc:TypeId×Value->H):∃ places, DataW.whole enc Tryz.prog ((Qrt os).forCall (fun _ _ => 0) ⟨#[], #[.agg #[.slice none 0 0, .slice none 0 0, .slice none 0 0, .slice none 0 0], .slice none 0 0, .agg #[.int .i64 0, .int .i64 0, .int .i64 0, .int .i64 0, .int .i64 0, .int .i64 0]], []⟩).memory Tryz.f4.params.toList Rows.topLockToldSpec.vars false (#[.agg #[.slice none 0 0, .slice none 0 0, .slice none 0 0, .slice none 0 0], .slice none 0 0, .agg #[.int .i64 0, .int .i64 0, .int .i64 0, .int .i64 0, .int .i64 0, .int .i64 0]]:Array Value).toList 8=some ([.agg [.nil, .nil, .nil, .nil], .nil, .agg [.lit (.int .i64 0), .lit (.int .i64 0), .lit (.int .i64 0), .lit (.int .i64 0), .lit (.int .i64 0), .lit (.int .i64 0)]], [], places) :=
  ⟨[], by kernel_rfl⟩
theorem lifted (os:Os) (started:os.Started) (H:Type) (enc:TypeId×Value->H) :
    ReturnsInLeavingWide {} Tryz.checked os 4 .any ((OpenSpec.ofChange Rows.topLockToldSpec).preRow enc Tryz.prog Tryz.f4 Rows.topLockToldRow.domain false Rows.topLockToldRow.laid) (Rows.topLockToldSpec.post enc Tryz.prog Tryz.f4 false true false false) := by
  obtain ⟨places, hx⟩ := QCd os enc
  refine QUd (C := Tryz.checked) (s := Rows.topLockToldSpec) own started Tryz.func4
    (witness_row_at (enc := enc) (C := Tryz.checked) false (Qrt os) #[.agg #[.slice none 0 0, .slice none 0 0, .slice none 0 0, .slice none 0 0], .slice none 0 0, .agg #[.int .i64 0, .int .i64 0, .int .i64 0, .int .i64 0, .int .i64 0, .int .i64 0]] rfl (by kernel_rfl) (by kernel_rfl) (by kernel_rfl)
      (OpenSpec.preRow_of_cond 8 hx (by kernel_rfl) (fun k hk => by cases hk) (by kernel_rfl) (QMs os))) ?_
  intro W base args ds gs before hval hW hwt hL _
  exact QHt H enc W base args ds gs before hval hW hL
theorem said:Rows.TopLockToldSaid :=
  OpenClaim.holds_of_wide_leaving 4 Tryz.f4 rfl rfl rfl rfl rfl rfl rfl ⟨rfl, rfl, rfl, rfl, rfl⟩ rfl rfl rfl rfl rfl (by kernel_rfl) Tryz.func4 QHm
    (of_decide_eq_true (by kernel_rfl)) (by unfold Func.isWrapper;first | (rw [if_pos (by decide +kernel)];kernel_rfl) | (rw [if_neg (by decide +kernel)];exact ⟨rfl, rfl⟩))
    (fun os started H enc _ => by rw [OpenClaim.pre_eq_preRow];exact lifted os started H enc)
theorem plain (f:FuncId) (fn:Func) (hf:Tryz.pinned.checked.prog.funcNamed Rows.topLockToldRow.func=some f) (hfn:Tryz.pinned.checked.prog.funcs[f]?=some fn) :
    true=Tryz.pinned.checked.prog.looks []/\∀ (j:Nat) t, fn.params[j]?=some t->Tryz.pinned.checked.prog.wantsStandIn t=false := by
  obtain rfl:f=4 := Option.some.inj ((show Tryz.prog.funcNamed Rows.topLockToldRow.func=some 4 by kernel_rfl).symm.trans hf) |>.symm
  obtain rfl:fn=Tryz.f4 := (Option.some.inj (Tryz.func4.symm.trans hfn)).symm
  refine ⟨by kernel_rfl, fun j t ht => ?_⟩
  rw [Tryz.params4] at ht
  have hm := Array.mem_of_getElem? ht
  have hall:(#[26, 55, 56]:Array TypeId).all (fun t => !Tryz.prog.wantsStandIn t)=true := by kernel_rfl
  have := Array.all_eq_true'.1 hall t hm
  show Tryz.prog.wantsStandIn t=false
  simpa using this
theorem wfT:Rows.topLockToldRow.wfByText (OpenSpec.ofChange Rows.topLockToldSpec)=true := by kernel_rfl
theorem QPa:Tryz.pinned.checked.prog.mainIs=some (Rows.topLockToldCard.stood.harness.1, Rows.topLockToldCard.stood.harness.2.toList) := by kernel_rfl
theorem QLn:true=Rows.topLockToldRow.goesBy Tryz.pinned.checked.prog := by kernel_rfl
theorem card:Rows.TopLockToldCardSaid :=
  Claim7.holds_tied_goes_at .later _ _ _ _ _ said wfT topLockTold_row_tie rfl ⟨rfl, rfl⟩ QPa rfl plain QLn
#print axioms card
end Go.Proofs.YtbigilldfhjedaaGreatDoor.topLockTold
