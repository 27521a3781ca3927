/- The law LocateTexts answers true at every input, and leaves its arguments as they were. Condition: none beyond the row's own. (said in fewer words) -/
import Derived.Test.YtigpjhlbndfkkaaGreatDoorCards
import Derived.Test.YtigpjhlbndfkkaaGreatDoorTie
import Derived.Test.YtigpjhlbndfkkaaGreatDoorGwOpens
import Derived.Test.YtigpjhlbndfkkaaGreatDoorGwPTexts
set_option linter.unusedVariables false
set_option linter.unusedSimpArgs false
set_option linter.unusedSectionVars false
set_option maxRecDepth 100000
namespace Go.Proofs.YtigpjhlbndfkkaaGreatDoor.locateTexts
open Go Go.Gw Go.ChangeShapes Go.WideShapes Go.ChangeAt Go.RowKit
theorem own:ownKnob Tryz.prog.godebug=none := by kernel_rfl
theorem Qyz:laidOutB Tryz.prog=true := by kernel_rfl
theorem QEq:Qdh Tryz.prog Tryz.f3.params.toList=true := by kernel_rfl
theorem QGx {W:World} (h:laidMetH Tryz.prog Rows.locateTextsRow.laid W):At (Gw.view0 W) ⟨0, 0, none⟩ (([0, 1, 3, 2]:List Int).map fun z => Value.int .i64 z) :=
  Qmu (name := "guideway/locate.turn") (t := 105) (by kernel_rfl) (by kernel_rfl) (by kernel_rfl) Tryz.underlying105 Tryz.underlying3 (by kernel_rfl) (by kernel_rfl) h
theorem QGy {W:World} (h:laidMetH Tryz.prog Rows.locateTextsRow.laid W):At (Gw.view0 W) ⟨2, 0, none⟩ (([1, 10, 100, 1000, 10000, 100000, 1000000, 10000000, 100000000, 1000000000, 10000000000, 100000000000, 1000000000000, 10000000000000, 100000000000000, 1000000000000000, 10000000000000000, 100000000000000000, 1000000000000000000, 10000000000000000000]:List Int).map fun z => Value.int .u64 z) :=
  Qmu (name := "internal/strconv.uint64pow10") (t := 177) (by kernel_rfl) (by kernel_rfl) (by kernel_rfl) Tryz.underlying177 Tryz.underlying153 (by kernel_rfl) (by kernel_rfl) h
theorem QGz {W:World} (h:laidMetH Tryz.prog Rows.locateTextsRow.laid W):gerr3 (Gw.view0 W) :=
  Qmt (name := "strconv.ErrSyntax") (d := Rows.laid_strconv_ErrSyntax) (t := 117) (by kernel_rfl) rfl (by kernel_rfl) (by kernel_rfl) ⟨_, Tryz.underlying117⟩ h
theorem QHa {W:World} (h:laidMetH Tryz.prog Rows.locateTextsRow.laid W):gerr4 (Gw.view0 W) :=
  Qmt (name := "strconv.ErrRange") (d := Rows.laid_strconv_ErrRange) (t := 117) (by kernel_rfl) rfl (by kernel_rfl) (by kernel_rfl) ⟨_, Tryz.underlying117⟩ h
theorem Quw (H:Type) (enc:TypeId×Value->H) (W:World) (base:Nat) (args:Array Value) (ds gs:List (DataW H)) (before:List MemPlace)
  (hval:∀ (j:Nat) t v, Tryz.f3.params[j]?=some t->args[j]?=some v->Value.okWide Tryz.prog W .any base t v)
  (hW:DataW.Whole enc Tryz.prog Tryz.f3.params.toList Rows.locateTextsSpec.vars false W args.toList ds gs before) (hL:laidMetH Tryz.prog Rows.locateTextsRow.laid W) :
  Calls Tryz.prog 3 args W fun e W' => ∃ v, e=.returned v/\Rows.locateTextsSpec.post enc Tryz.prog Tryz.f3 false true false false W args v W' := by
 have hW' := hW;obtain ⟨p, q, hA0, hV, rfl, hfz, hnd⟩ := hW;have hA:DataW.TrodAll enc Tryz.prog W 0 (fun _ => true) true Tryz.f3.params.toList args.toList ds p := hA0;rw [Tryz.params3] at hA hval;obtain ⟨v0, vs0, d0, ds0, p0, q0, hargs, rfl, rfl, h0, r0⟩ := trodAll_cons hA;obtain ⟨v1, vs1, d1, ds1, p1, q1, rfl, rfl, rfl, h1, r1⟩ := trodAll_cons r0;obtain ⟨v2, vs2, d2, ds2, p2, q2, rfl, rfl, rfl, h2, r2⟩ := trodAll_cons r1;obtain ⟨rfl, rfl, rfl⟩ := trodAll_nil r2;obtain rfl:args=#[v0, v1, v2] := by cases args;simp_all
 obtain ⟨rfl, rfl⟩ := trodVars_none hV;obtain ⟨cs0, x0, rfl, s0, w0⟩ := Qkp QDm Tryz.underlying24 (hval 0 24 v0 rfl rfl) h0;obtain ⟨cs1, x1, rfl, s1, w1⟩ := Qkp QDn Tryz.underlying26 (hval 1 26 v1 rfl rfl) h1;obtain ⟨x2, rfl, w2⟩ := Qub Tryz.underlying9 (hval 2 9 v2 rfl rfl) h2;refine Calls.mono (QHy (Qzb [] (view0 W) (LtL.nil _) (QGx hL) (QGy hL) (QGz hL) (QHa hL) cs0 x0 (Rep.step (Qsx W) s0) cs1 x1 (Rep.step (Qsx W) s1) x2 true (Qto x0 x1 x2 w0 w1 w2))) fun e W' he => ?_;obtain ⟨v, rfl, rfl, hx⟩ := he;exact ⟨_, rfl, Qze Qyz QEq hW' rfl rfl rfl rfl rfl Tryz.underlying4 hx⟩
def JX (vs:Array Value):Obj->Obj
 | .cells _ t frozen => .cells vs t frozen
 | o => o
noncomputable def Qho (os:Os):World := { World.holding Tryz.prog os ⟨#[], #[], []⟩ with heap := (((((((((((World.holding Tryz.prog os ⟨#[], #[], []⟩).heap.modify 0 (JX #[.int .i64 0, .int .i64 1, .int .i64 3, .int .i64 2])).modify 2 (JX #[.int .u64 1, .int .u64 10, .int .u64 100, .int .u64 1000, .int .u64 10000, .int .u64 100000, .int .u64 1000000, .int .u64 10000000, .int .u64 100000000, .int .u64 1000000000, .int .u64 10000000000, .int .u64 100000000000, .int .u64 1000000000000, .int .u64 10000000000000, .int .u64 100000000000000, .int .u64 1000000000000000, .int .u64 10000000000000000, .int .u64 100000000000000000, .int .u64 1000000000000000000, .int .u64 10000000000000000000])).modify 5 (JX (Go.Pinned.utf8FirstZ.map fun n:Nat => Value.int .u8 (n:Int)).toArray)).modify 6 (JX #[.int .u8 128, .int .u8 191, .int .u8 160, .int .u8 191, .int .u8 128, .int .u8 159, .int .u8 144, .int .u8 191, .int .u8 128, .int .u8 143, .int .u8 0, .int .u8 0, .int .u8 0, .int .u8 0, .int .u8 0, .int .u8 0, .int .u8 0, .int .u8 0, .int .u8 0, .int .u8 0, .int .u8 0, .int .u8 0, .int .u8 0, .int .u8 0, .int .u8 0, .int .u8 0, .int .u8 0, .int .u8 0, .int .u8 0, .int .u8 0, .int .u8 0, .int .u8 0])).modify 7 (JX #[.int .u8 0, .int .u8 1, .int .u8 28, .int .u8 2, .int .u8 29, .int .u8 14, .int .u8 24, .int .u8 3, .int .u8 30, .int .u8 22, .int .u8 20, .int .u8 15, .int .u8 25, .int .u8 17, .int .u8 4, .int .u8 8, .int .u8 31, .int .u8 27, .int .u8 13, .int .u8 23, .int .u8 21, .int .u8 19, .int .u8 16, .int .u8 7, .int .u8 26, .int .u8 12, .int .u8 18, .int .u8 6, .int .u8 11, .int .u8 5, .int .u8 10, .int .u8 9])).modify 8 (JX #[.int .u8 0, .int .u8 1, .int .u8 56, .int .u8 2, .int .u8 57, .int .u8 49, .int .u8 28, .int .u8 3, .int .u8 61, .int .u8 58, .int .u8 42, .int .u8 50, .int .u8 38, .int .u8 29, .int .u8 17, .int .u8 4, .int .u8 62, .int .u8 47, .int .u8 59, .int .u8 36, .int .u8 45, .int .u8 43, .int .u8 51, .int .u8 22, .int .u8 53, .int .u8 39, .int .u8 33, .int .u8 30, .int .u8 24, .int .u8 18, .int .u8 12, .int .u8 5, .int .u8 63, .int .u8 55, .int .u8 48, .int .u8 27, .int .u8 60, .int .u8 41, .int .u8 37, .int .u8 16, .int .u8 46, .int .u8 35, .int .u8 44, .int .u8 21, .int .u8 52, .int .u8 32, .int .u8 23, .int .u8 11, .int .u8 54, .int .u8 26, .int .u8 40, .int .u8 15, .int .u8 34, .int .u8 20, .int .u8 31, .int .u8 10, .int .u8 25, .int .u8 14, .int .u8 19, .int .u8 9, .int .u8 13, .int .u8 8, .int .u8 7, .int .u8 6])).modify 3 (JX #[.iface 191 (.pointer (some ⟨(World.holding Tryz.prog os ⟨#[], #[], []⟩).heap.size+0, 0, none⟩))])).modify 4 (JX #[.iface 191 (.pointer (some ⟨(World.holding Tryz.prog os ⟨#[], #[], []⟩).heap.size+1, 0, none⟩))])).push (Obj.cells #[.string ⟨#[105, 110, 118, 97, 108, 105, 100, 32, 115, 121, 110, 116, 97, 120]⟩] 193 (0, 0))).push (Obj.cells #[.string ⟨#[118, 97, 108, 117, 101, 32, 111, 117, 116, 32, 111, 102, 32, 114, 97, 110, 103, 101]⟩] 193 (0, 0))) }
theorem Qza (os:Os):laidMet Tryz.prog Rows.locateTextsRow.laid ((Qho os).forCall (fun _ _ => 0) ⟨#[], #[.agg #[.slice none 0 0, .int .i64 0, .int .i64 0, .int .i64 0, .int .i64 0, .int .i64 0, .int .i64 0, .int .i64 0, .bool false], .agg #[.slice none 0 0, .int .i64 0], .string ⟨#[]⟩], []⟩).memory :=
 laidMet_of_run' 8 (by kernel_rfl) (by kernel_rfl)
theorem Qpw (os:Os) {H:Type} (enc:TypeId×Value->H):∃ places, DataW.whole enc Tryz.prog ((Qho os).forCall (fun _ _ => 0) ⟨#[], #[.agg #[.slice none 0 0, .int .i64 0, .int .i64 0, .int .i64 0, .int .i64 0, .int .i64 0, .int .i64 0, .int .i64 0, .bool false], .agg #[.slice none 0 0, .int .i64 0], .string ⟨#[]⟩], []⟩).memory Tryz.f3.params.toList Rows.locateTextsSpec.vars false (#[.agg #[.slice none 0 0, .int .i64 0, .int .i64 0, .int .i64 0, .int .i64 0, .int .i64 0, .int .i64 0, .int .i64 0, .bool false], .agg #[.slice none 0 0, .int .i64 0], .string ⟨#[]⟩]:Array Value).toList 8=some ([.agg [.nil, .lit (.int .i64 0), .lit (.int .i64 0), .lit (.int .i64 0), .lit (.int .i64 0), .lit (.int .i64 0), .lit (.int .i64 0), .lit (.int .i64 0), .lit (.bool false)], .agg [.nil, .lit (.int .i64 0)], .lit (.string [])], [], places) :=
 ⟨[], by kernel_rfl⟩
theorem lifted (os:Os) (started:os.Started) (H:Type) (enc:TypeId×Value->H) (F:Stop.Interp) :
    ReturnsInHanded {} Tryz.checked os 3 .any ((OpenSpec.ofChange Rows.locateTextsSpec).preRow enc Tryz.prog Tryz.f3 Rows.locateTextsRow.domain false Rows.locateTextsRow.laid) (((OpenSpec.ofChange Rows.locateTextsSpec).at F).post enc Tryz.prog Tryz.f3 false true false false) := by
  obtain ⟨places, hx⟩ := Qpw os enc;refine returnsInHanded_of_row (C := Tryz.checked) (s := OpenSpec.ofChange Rows.locateTextsSpec) own started (by kernel_rfl) Tryz.func3
    (witness_row_at (enc := enc) (C := Tryz.checked) false (Qho os) #[.agg #[.slice none 0 0, .int .i64 0, .int .i64 0, .int .i64 0, .int .i64 0, .int .i64 0, .int .i64 0, .int .i64 0, .bool false], .agg #[.slice none 0 0, .int .i64 0], .string ⟨#[]⟩] rfl (by kernel_rfl) (by kernel_rfl) (by kernel_rfl)
      (OpenSpec.preRow_of_cond 8 hx (by kernel_rfl) (fun k hk => by cases hk) (by kernel_rfl) (Qza os))) ?_
  intro W base args ds gs before hval hW _ _ _ hL _ _;exact Quw H enc W base args ds gs before hval hW hL
theorem Qwd:Rows.locateTextsRow.wf (OpenSpec.ofChange Rows.locateTextsSpec)=true := by kernel_rfl
theorem Qwe:laidOutB Tryz.prog=true := by kernel_rfl
theorem Qwp:mapsRowed Tryz.prog=true := by kernel_rfl
theorem Qxa:Tryz.f3.params.all (Tryz.prog.readableRec ·)=true := by kernel_rfl
theorem Qxd:namedTie Tryz.prog Rows.locateTextsRow.named Rows.locateTextsSpec.vars=true := by kernel_rfl
theorem Qxe:(Rows.locateTextsRow.stops == [])=true := by kernel_rfl
theorem Qxf:(Tryz.prog.stops == [])=true := by kernel_rfl
theorem Qxg:(Rows.locateTextsRow.knobs == [])=true := by kernel_rfl
theorem Qxh:(Tryz.prog.stopKnobs == [])=true := by kernel_rfl
theorem Qxi:(Rows.locateTextsRow.inPlace == Tryz.prog.inPlace 3)=true := by kernel_rfl
theorem Qwf:(Rows.locateTextsRow.unfollowed == Tryz.prog.unfollowed 3)=true := by kernel_rfl
theorem Qwg:(Rows.locateTextsRow.recurses == Tryz.prog.recurses 3)=true := by kernel_rfl
theorem Qwh:(Rows.locateTextsRow.named == Tryz.prog.varsNamed 3)=true := by kernel_rfl
theorem Qwi:(Rows.locateTextsRow.maps == (Tryz.f3.params.toList++Rows.locateTextsSpec.plain.varTypes Tryz.prog).any (Tryz.prog.mapsRec ·))=true := by kernel_rfl
theorem Qwj:(Rows.locateTextsRow.ifaces == (Tryz.f3.params.toList++Rows.locateTextsSpec.plain.varTypes Tryz.prog).any (Tryz.prog.ifacesRec ·))=true := by kernel_rfl
theorem Qwk:(Rows.locateTextsRow.mapsOut == Tryz.prog.mapsAmong Tryz.f3.resultTypes.toList)=true := by kernel_rfl
theorem Qwl:(Rows.locateTextsRow.loops == (Tryz.f3.params.toList++Rows.locateTextsSpec.plain.varTypes Tryz.prog).any (Tryz.prog.loopsFrom ·))=true := by kernel_rfl
theorem Qwm:(Rows.locateTextsRow.wideKeys == (Tryz.f3.params.toList++Rows.locateTextsSpec.plain.varTypes Tryz.prog++Tryz.f3.resultTypes.toList).any (Tryz.prog.wideKeysFrom ·))=true := by kernel_rfl
theorem Qwn:Rows.locateTextsSpec.vars.all (Tryz.prog.varReadable ·)=true := by kernel_rfl
theorem Qwo:Tryz.f3.resultTypes.all (fun t => Tryz.prog.readableRec t&&decide (t < Tryz.prog.types.size))=true := by kernel_rfl
theorem Qwq:(Rows.locateTextsRow.ifacesOut == Tryz.f3.resultTypes.toList.any (Tryz.prog.ifacesRec ·))=true := by kernel_rfl
theorem Qwr:(Rows.locateTextsRow.loopsOut == Tryz.f3.resultTypes.toList.any (Tryz.prog.loopsFrom ·))=true := by kernel_rfl
theorem Qws:(Rows.locateTextsRow.plainKeys == Tryz.prog.plainKeys)=true := by kernel_rfl
theorem Qwt:Rows.locateTextsRow.shortTexts.isNone=true := by kernel_rfl
theorem Qwu:Tryz.prog.stopsHeard=true := by kernel_rfl
theorem Qwv:Tryz.prog.mayEnter=true := by kernel_rfl
theorem Qww:(Rows.locateTextsRow.lifted == Tryz.prog.liftsFinal)=true := by kernel_rfl
theorem Qwx:(Tryz.prog.make == some Rows.locateTextsRow.make)=true := by kernel_rfl
theorem Qwy:(Rows.locateTextsRow.kinds == (if Rows.locateTextsRow.domain.isEmpty then [] else Tryz.f3.params.toList.map fun t => match Tryz.prog.underlying t with | some (.int k) => some k | _ => none))=true := by kernel_rfl
theorem Qwz:(Rows.locateTextsRow.pinned == Rows.locateTextsRow.pinnedBy)=true := by kernel_rfl
theorem Qxb:(Rows.locateTextsRow.veiled == (Tryz.f3.params.toList++Rows.locateTextsSpec.plain.varTypes Tryz.prog++Tryz.f3.resultTypes.toList).any (Tryz.prog.veiledRec ·))=true := by kernel_rfl
theorem Qxc:Rows.locateTextsRow.veiledFits Tryz.prog Tryz.f3.params.toList (Tryz.f3.params.toList++Rows.locateTextsSpec.plain.varTypes Tryz.prog++Tryz.f3.resultTypes.toList)=true := by kernel_rfl
theorem XX {a b:Bool} (ha:a=true) (hb:b=true):(a&&b)=true := by subst ha;subst hb;rfl
theorem Quu:joinedFacts Tryz.prog 3 Tryz.f3 Rows.locateTextsSpec Rows.locateTextsRow=true := (XX (XX (XX (XX (XX (XX (XX (XX (XX (XX (XX (XX (XX (XX (XX (XX (XX (XX (XX (XX (XX (XX (XX (XX (XX (XX (XX (XX (XX (XX (XX Qwd Qwe) Qwp) Qxa) Qxd) Qxe) Qxf) Qxg) Qxh) Qxi) Qwf) Qwg) Qwh) Qwi) Qwj) Qwk) Qwl) Qwm) Qwn) Qwo) Qwq) Qwr) Qws) Qwt) Qwu) Qwv) Qww) Qwx) Qwy) Qwz) Qxb) Qxc)
theorem said:Rows.LocateTextsSaid :=
  OpenClaim.holds_of_cond 3 Tryz.f3 rfl rfl rfl rfl rfl rfl rfl ⟨rfl, rfl, rfl, rfl, rfl⟩ rfl rfl rfl rfl rfl (by kernel_rfl) Tryz.func3 Quu
    (of_decide_eq_true (by kernel_rfl)) (by unfold Func.isWrapper;first | (rw [if_pos (by decide +kernel)];kernel_rfl) | (rw [if_neg (by decide +kernel)];exact ⟨rfl, rfl⟩))
    (fun os started H enc _ F => by rw [OpenClaim.pre_eq_preRow];exact lifted os started H enc F)
theorem plain (f:FuncId) (fn:Func) (hf:Tryz.pinned.checked.prog.funcNamed Rows.locateTextsRow.func=some f) (hfn:Tryz.pinned.checked.prog.funcs[f]?=some fn) :
  true=Tryz.pinned.checked.prog.looks []/\∀ (j:Nat) t, fn.params[j]?=some t->Tryz.pinned.checked.prog.wantsStandIn t=false := by
 obtain rfl:f=3 := Option.some.inj ((show Tryz.prog.funcNamed Rows.locateTextsRow.func=some 3 by kernel_rfl).symm.trans hf) |>.symm;obtain rfl:fn=Tryz.f3 := (Option.some.inj (Tryz.func3.symm.trans hfn)).symm;refine ⟨by kernel_rfl, fun j t ht => ?_⟩;rw [Tryz.params3] at ht;have hm := Array.mem_of_getElem? ht;have hall:(#[24, 26, 9]:Array TypeId).all (fun t => !Tryz.prog.wantsStandIn t)=true := by kernel_rfl
 have := Array.all_eq_true'.1 hall t hm;show Tryz.prog.wantsStandIn t=false;simpa using this
theorem card:Rows.LocateTextsCardSaid :=
 Claim7.holds_tied_plain_at .later [] _ _ _ _ said (fun _ h => by cases h) (by kernel_rfl) (fun _ h => by cases h) locateTexts_row_tie rfl ⟨rfl, rfl⟩ (by kernel_rfl) rfl plain (by kernel_rfl)
#print axioms card
end Go.Proofs.YtigpjhlbndfkkaaGreatDoor.locateTexts
