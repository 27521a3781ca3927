/- Laws of the walk. Condition: each theorem says its own. -/
import Derived.Test.YtkdfngdamkbcnaaGreatDoorGwFnZ
import Derived.Test.YtkdfngdamkbcnaaGreatDoorGwFacts2
import Derived.Test.YtkdfngdamkbcnaaGreatDoorGwCj21
import Derived.Test.YtkdfngdamkbcnaaGreatDoorGwWg9
import Derived.Test.YtkdfngdamkbcnaaGreatDoorGwVd
import Derived.Test.YtkdfngdamkbcnaaGreatDoorGwLib5
import Derived.Test.YtkdfngdamkbcnaaGreatDoorGwLib23
set_option linter.unusedVariables false
set_option linter.unusedSimpArgs false
set_option linter.unusedSectionVars false
section
set_option maxRecDepth 100000
set_option maxHeartbeats 8000000
set_option linter.unusedVariables false
set_option linter.unusedSectionVars false
namespace Go.Gw
open Go Go.Conc Go.Proofs
attribute [local irreducible] T0 TS TT TP TX TZ Eff Stp WC Quiet gd
theorem Qwg:Xi Tryz.prog 164 1:=Yb (by kernel_rfl)
theorem Qvx:YG Tryz.prog 164:=⟨_,Tryz.underlying164,trivial⟩
theorem QLq:YG Tryz.prog 100:=⟨_,Tryz.underlying100,trivial⟩
theorem QMf:Xi Tryz.prog 100 1:=Yb (by kernel_rfl)
theorem QLr:YG Tryz.prog 167:=⟨_,Tryz.underlying167,trivial⟩
theorem Qwf:Xi Tryz.prog 179 1:=Yb (by kernel_rfl)
def Qcf (L:List Value) (x:List Nl):Value->World->Prop:=fun v w=>SlRd L w v x
def Jv:Code->Code
 | .seq _ y=>y
 | c=>c
def Qpt:Code->Array Oper
 | .region _ o _=>o
 | _=>#[]
noncomputable def Qjr (Wg:Nat):List Deferred:=[dcall 109 #[.pointer (some ⟨Wg,0,none⟩)]]
theorem QTf {P:Program} [JD P] {n:Nat} {ρ:Env} {w:World} {d:Option Nat} {t T:TypeId} {p:String} {af:Array Edge} {gu:Option (Nat×Bool)} {x y:Operand} {e C m cap j:Nat} {kk:IntKind} (hu:P.underlying T=some (.slice e)) (hs:Xi P e 1) (h1:j < m) (hx:Qk n ρ x=.slice (some ⟨C,0,none⟩) m cap) (hy:Qk n ρ y=.int kk (j:Int)) :
  Yl P n ρ ⟨d,.indexAddr T x y,t,p,af,gu⟩ w (.pointer (some ⟨C,j,none⟩)):=by
 have h2:(j:Int) < (m:Int):=by omega
 have e1:Addr.add ⟨C,0,none⟩ j=⟨C,j,none⟩:=by rw [YQ,Nat.zero_add]
 exact YX (Yd (Qlm _ _ _)) fun w1 _=>by simp [execOp,hx,hy,Instr.indexAt,asIntOf,run_underlying hu,Instr.sureAddr,h1,Ze hs,e1]
theorem QIg {Wg:Nat} {a:Act} {ops:Array Oper}:LW Tryz.prog 177 Wg 1018 .A (G ((baseD 108).at (wD (Qjr Wg) a) [.inRegion ops []]) [JV Tryz.prog]):=by
 refine ⟨rfl,.inl fun W _=>⟨_,stepG_region_end,?_⟩⟩;refine ⟨rfl,.inl fun W _=>⟨_,stepG_end,?_⟩⟩;refine ⟨rfl,.inl fun W _=>⟨_,stepG_unwind_enter (f:=109) (args:=#[.pointer (some ⟨Wg,0,none⟩)]) (ds:=[]) rfl lkLib.f_done (by kernel_rfl) rfl,?_⟩⟩;exact QIf lkLib (qt:=2) rfl (QMs Tryz.func108 rfl rfl)
theorem QLv {Z:Nat->Prop} {C Wg:Nat} {L:List Value} {w:World} (hL:LtL L w) {b2 b4 b5 k cap n:Nat} {pn:Value} {nd:Np} {x:List Nl}
    (h2:RowAt w b2 [.slice (some ⟨C,0,none⟩) n cap]) (h4:RowAt w b4 [.int .i64 k]) (h5:RowAt w b5 [pn]) (hp:PtRd L w pn (some nd)) (hk:k < n) (hs:Qiy nd.line=some x) :
    Wlk (Jw Tryz.prog Z) (fun g w=>∃ m,Qcg Tryz.prog 177 Wg C k (Qcf L x) m g w) (born Tryz.prog { target:=.fn (.func 108) #[.pointer (some ⟨Wg,0,none⟩),.pointer (some ⟨b5,0,none⟩),.pointer (some ⟨b2,0,none⟩),.pointer (some ⟨b4,0,none⟩)],args:=#[] }) w:=by
  letI:JD Tryz.prog:=⟨Jw Tryz.prog Z⟩
  obtain ⟨bn,rfl,hpn⟩:=hp.is;refine .ctl rfl (fun W=>QPx Tryz.func108 (by kernel_rfl) rfl) ?_;have e:=Qds [.pointer (some ⟨Wg,0,none⟩),.pointer (some ⟨b5,0,none⟩),.pointer (some ⟨b2,0,none⟩),.pointer (some ⟨b4,0,none⟩)] 12 (by simp);refine Eq.subst (motive:=fun a=>Wlk (Jw Tryz.prog Z) (fun g w=>∃ m,Qcg Tryz.prog 177 Wg C k (Qcf L x) m g w) (G ((baseD 108).at a [.code _]) [JV Tryz.prog]) w) e.symm ?_;refine .ctl rfl (fun W=>stepG_seq) ?_;refine .ctl rfl (fun W=>stepG_region) ?_;refine .ctl rfl (fun W=>stepG_defer rfl rfl (by simp [baseD]) rfl) ?_;refine .ctl rfl (fun W=>stepG_region_end) ?_;have eD:dcall 109 (Array.map (act 12 (fun i=>[Value.pointer (some ⟨Wg,0,none⟩),.pointer (some ⟨b5,0,none⟩),.pointer (some ⟨b2,0,none⟩),.pointer (some ⟨b4,0,none⟩)].getD i undef)).eval #[Operand.tmp 0])=dcall 109 #[.pointer (some ⟨Wg,0,none⟩)]:=by
    rw [JS];simp only [List.map_toArray,List.map_cons,List.map_nil];rfl
  rw [eD];show Wlk (Jw Tryz.prog Z) (fun g w=>∃ m,Qcg Tryz.prog 177 Wg C k (Qcf L x) m g w) (G ((baseD 108).at (wD (Qjr Wg) (act 12 (fun i=>[Value.pointer (some ⟨Wg,0,none⟩),.pointer (some ⟨b5,0,none⟩),.pointer (some ⟨b2,0,none⟩),.pointer (some ⟨b4,0,none⟩)].getD i undef))) [.code (Jv (Tryz.f108.body.getD .skip))]) [JV Tryz.prog]) w;refine QSb (n:=12) (j:=8) (ds:=Qjr Wg) (fun w0 w'=>Ext w0 w') Xm [(0,false),(1,false),(2,false),(3,false),(4,false),(5,false),(6,true),(7,false)] (by kernel_rfl) (fun w=>Chg.refl _ _) (by simp [baseD])
    (Kt:=fun ρ' w'=>ρ' 11=.pointer (some ⟨C,k,none⟩)/\SlRd L w' (ρ' 10) x) ?_ (fun ρ' w' ⟨k1,k2⟩=>.stop fun w1 r1=>⟨1018,rfl,G ((baseD 108).at (wD (Qjr Wg) (act 12 ρ')) [.inRegion (Qpt (Jv (Tryz.f108.body.getD .skip))) []]) [JV Tryz.prog],ρ' 10,fun W cs e hC hkc=>?_,QIg,fun w2 r2=>k2.step (Stepp.ext (r1.trans r2).ext)⟩)
  · have e0:Ext w { w with drawn:=w.drawn+1 }:=Ext.drew w;generalize ({ w with drawn:=w.drawn+1 }:World)=w0 at e0 ⊢;refine Qci (v:=.slice (some ⟨C,0,none⟩) n cap) rfl rfl (fun w' hS=>Ql QLr rfl (h2.at.ext (e0.trans hS))) ?_;refine Qci (v:=.int .i64 k) rfl rfl (fun w' hS=>Ql Q7 rfl (h4.at.ext (e0.trans hS))) ?_;refine Qci (v:=.pointer (some ⟨bn,0,none⟩)) rfl rfl (fun w' hS=>Ql Qvx rfl (h5.at.ext (e0.trans hS))) ?_;refine Qci (v:=.pointer (some ⟨bn,0,none⟩)) rfl rfl (fun w' hS=>XB rfl) ?_;refine Qci (v:=.pointer (some ⟨bn,0,none⟩)) rfl rfl (fun w' hS=>Yy 0 Tryz.underlying166 rfl rfl ⟨0,QMf⟩ rfl rfl) ?_;obtain ⟨cs0,hat,v1,v2,h1,h2',rfl⟩:=hpn.at;refine Qci (v:=v1) rfl rfl (fun w' hS=>Ql QLq rfl (hat.ext (e0.trans hS))) ?_;refine QAc rfl rfl (Qt Tryz.func110 (by kernel_rfl) rfl (QM rfl) (QHp (hL.chg e0) (h1.ext e0) hs) ?_);rintro _ w2 ⟨e2,v,rfl,hrd⟩;refine ⟨e2,?_⟩;refine Qci (v:=.pointer (some ⟨C,k,none⟩)) rfl rfl (fun w' hS=>QTf Tryz.underlying167 Qwf hk rfl rfl) ?_;exact QAd ⟨rfl,hrd⟩
  · obtain ⟨q,c,hv,_⟩:=k2.shape;refine QPy (ad:=⟨C,k,none⟩) (v:=ρ' 10) (u:=cs[k]) rfl rfl (by simp [baseD]) rfl rfl Qwf (by rw [Qrc,JS];exact k1) (by rw [Qrc,JS];rfl) ⟨q,_,c,hv⟩ (by kernel_rfl) (by simp [World.cell?,hC,hkc]) (by simp [World.frozen?,hC])
end Go.Gw

end
section
set_option maxRecDepth 100000
set_option maxHeartbeats 8000000
set_option linter.unusedVariables false
set_option linter.unusedSectionVars false
namespace Go.Gw
open Go Go.Conc Go.Proofs
attribute [local irreducible] T0 TS TT TP TX TZ Eff Stp WC Quiet gd
section
variable {P:Program}
theorem QW.go {ty:TypeId} {Wg C N Low:Nat} {et:TypeId} {cs0:Array Value} {S:Goroutine->World->Prop} {Z:Nat->Prop} {orig:Nat->Option Obj} {O:List (Nat×(Value->World->Prop))} {b:Frame} {a:Act} {kk:List Item} {cs:List Frame} {ops:Array Oper} {i:Nat} {rest:List Nat} {o:Oper} {cl:Call} {f:FuncId} {caps:Array Value} {w:World}
  (K:Nat->Prop) (k:Nat) (φ:Value->World->Prop) (ho:ops[i]?=some o) (hop:o.op=.go cl) (hw:Region.wanted o (yielded ops a.tmps)=true) (hb:b.kind≠.early) (hd:∀ W,(resolve a.eval cl o.type).run P W=.ok { target:=.fn (.func f) caps,args:=#[] } W) (hde:∀ W,(resolve a.eval cl o.type).events P W #[]=#[])
  (hdst:o.dst=none) (hk:k < N) (hkO:∀ p∈O,p.1≠k)
  (hC:∀ w1,Rel w w1->Rows K w1) (hW:∀ w1,Rel w w1->Wlk (Jw P fun b=>Z b\/K b) (fun g w=>∃ m,Qcg P ty Wg C k φ m g w) (born P { target:=.fn (.func f) caps,args:=#[] }) (hid (fun b=>Z b\/K b) (frz K w1)))
  (hn:∀ w1,Rel w w1->QW P ty Wg C N Low et cs0 S 0 (fun b=>Z b\/K b) (Qag Z K w1 orig) (O++[(k,φ)]) (G (b.at a (.inRegion ops rest::kk)) cs) (frz K w1)):QW P ty Wg C N Low et cs0 S 1 Z orig O (G (b.at a (.inRegion ops (i::rest)::kk)) cs) w:=by
 refine .fork _ _ K k φ rfl (fun W=>?_) hk hkO hC hW hn;have hrun:(execOp a.eval o).run P W=.ok (.spawn { target:=.fn (.func f) caps,args:=#[] }) W:=by simp [execOp,hop,hd]
 have hev:listed P b.fn a o W=#[]:=by
  simp_all [seen_none,execOp,listed]
 rw [stepG_spawn ho hw hb hrun rfl,hev,hdst];rfl
theorem Qyf {main:Bool} {b:Frame} {a:Act} {kk:List Item} {cs:List Frame} {ops:Array Oper} {i:Nat} {rest:List Nat} {o:Oper} {f:FuncId} {fn:Func} {c:Code} {args:Array Operand} {ats:Array TypeId} (W:World)
    (ho:ops[i]?=some o) (hw:Region.wanted o (yielded ops a.tmps)=true) (hk:b.kind≠.early) (hop:o.op=.call { callee:=.value (.func f),args,argTypes:=ats })
    (hf : P.funcs[f]? = some fn) (hname : (fn.name == "runtime.NumGoroutine") = false) (hb : fn.body = some c) :
    stepG P main (G (b.at a (.inRegion ops (i::rest)::kk)) cs) W=.go (G ((base f).at { tmps:=args.map a.eval++Array.replicate (fn.ntmps - (args.map a.eval).size) undef,defers:=[] } [.code c]) (b.at a (.inRegion ops (i::rest)::kk)::cs)) W #[]:=by
  have hb':fn.body.isNone=false:=by rw [hb];rfl
  rw [stepG_enter ho hw hk (run_call_body hop hf hname hb'),enter_at _ hf hb]
  grind [listed,events_call_body,seen_none]
end
section
variable {Wg C N Low:Nat} {et:TypeId} {cs0:Array Value} {S:Goroutine->World->Prop} {Z:Nat->Prop} {orig:Nat->Option Obj} {O:List (Nat×(Value->World->Prop))} {b:Frame} {a:Act} {kk:List Item} {cs:List Frame} {ops:Array Oper} {i:Nat} {rest:List Nat} {o:Oper} {w:World} {args:Array Operand} {ats:Array TypeId}
theorem QW.addc (ho:ops[i]?=some o) (hw:Region.wanted o (yielded ops a.tmps)=true) (hk:b.kind≠.early) (hop:o.op=.call { callee:=.value (.func 107),args,argTypes:=ats }) (ha:args.map a.eval=#[.pointer (some ⟨Wg,0,none⟩),.int .i64 1])
  (h:∀ w1,Rel w w1->QW Tryz.prog 177 Wg C N Low et cs0 S 1 Z orig O (G (b.at (a.put ((ops[i]?).bind (·.dst)) (.tuple #[])) (.inRegion ops rest::kk)) cs) w1):QW Tryz.prog 177 Wg C N Low et cs0 S 0 Z orig O (G (b.at a (.inRegion ops (i::rest)::kk)) cs) w:=by
 refine QW.of (.ctl rfl (fun W=>Qyf (c:=ConcR.Gen.body_add lkLink) W ho hw hk hop lkLib.f_add (by kernel_rfl) (by kernel_rfl)) (.stop fun w1 r1=>?_));refine .add _ 1000 rfl ?_ (fun w2 r2=>h w2 (r1.trans r2));rw [ha];refine Eq.subst (motive:=fun T=>MA Tryz.prog 177 Wg (G (b.at (a.put ((ops[i]?).bind (·.dst)) (.tuple #[])) (.inRegion ops rest::kk)) cs) 1000 .K (G ((base 107).at ⟨T,[]⟩ [.code (ConcR.Gen.body_add lkLink)]) (b.at a (.inRegion ops (i::rest)::kk)::cs))) ?_ (QIh lkLib)
 kernel_rfl
theorem QW.waitc (ho:ops[i]?=some o) (hw:Region.wanted o (yielded ops a.tmps)=true) (hk:b.kind≠.early) (hop:o.op=.call { callee:=.value (.func 111),args,argTypes:=ats }) (ha:args.map a.eval=#[.pointer (some ⟨Wg,0,none⟩)])
  (h:∀ w1 w' cs',Rel w w1->FullG C N Low cs0 O w1 w' cs'->S (G (b.at (a.put ((ops[i]?).bind (·.dst)) (.tuple #[])) (.inRegion ops rest::kk)) cs) (thaw Z orig (Ju C cs' et w'))):QW Tryz.prog 177 Wg C N Low et cs0 S 0 Z orig O (G (b.at a (.inRegion ops (i::rest)::kk)) cs) w:=by
 refine QW.of (.ctl rfl (fun W=>Qyf (c:=ConcR.Gen.body_wait lkLink) W ho hw hk hop lkLib.f_wait (by kernel_rfl) (by kernel_rfl)) (.stop fun w1 r1=>?_));refine .wait (AnW lkLink Wg (b.at a (.inRegion ops (i::rest)::kk)::cs)) _ 1000 1000 rfl (fun g ⟨T,hg,_⟩=>by rw [hg];rfl) rfl ?_ (fun g hg=>QIt lkLib g hg) (fun w2 w' cs' r2 hF=>h w2 w' cs' (r1.trans r2) hF);rw [ha];refine Eq.subst (motive:=fun T=>MW Tryz.prog 177 Wg (AnW lkLink Wg (b.at a (.inRegion ops (i::rest)::kk)::cs)) (G (b.at (a.put ((ops[i]?).bind (·.dst)) (.tuple #[])) (.inRegion ops rest::kk)) cs) 1000 .K (G ((base 111).at ⟨T,[]⟩ [.code (ConcR.Gen.body_wait lkLink)]) (b.at a (.inRegion ops (i::rest)::kk)::cs))) ?_ (QIu lkLib)
 kernel_rfl
end
end Go.Gw

end
section
set_option maxRecDepth 100000
set_option maxHeartbeats 8000000
set_option linter.unusedVariables false
set_option linter.unusedSectionVars false
namespace Go.Gw
open Go Go.Conc Go.Proofs
attribute [local irreducible] T0 TS TT TP TX TZ Eff Stp WC Quiet gd
theorem Jf {ρ:Env} {d i:Nat} {v:Value} (h:i < d):Xn ρ (some d) v i=ρ i:=by simp [Xn,upd,Qfx (Nat.ne_of_lt h)]
theorem QW.rely {P:Program} {ty:TypeId} {Wg C N Low:Nat} {et:TypeId} {cs0:Array Value} {S:Goroutine->World->Prop} {pd:Nat} {Z:Nat->Prop} {orig:Nat->Option Obj} {O:List (Nat×(Value->World->Prop))} {g:Goroutine} {w w1:World} (h:QW P ty Wg C N Low et cs0 S pd Z orig O g w) (r:Rel w w1):QW P ty Wg C N Low et cs0 S pd Z orig O g w1:=by
 cases h with
 | step nx hs h1 h2=>exact .step nx hs (fun w2 r2=>h1 w2 (r.trans r2)) (fun w2 r2=>h2 w2 (r.trans r2))
 | add gE m hs h1 h2=>exact .add gE m hs h1 (fun w2 r2=>h2 w2 (r.trans r2))
 | fork g' child K k φ hs h1 h2 h3 h4 h5 h6=>exact .fork g' child K k φ hs h1 h2 h3 (fun w2 r2=>h4 w2 (r.trans r2)) (fun w2 r2=>h5 w2 (r.trans r2)) (fun w2 r2=>h6 w2 (r.trans r2))
 | wait An gE m NA hs h1 h2 h3 h4 h5=>exact .wait An gE m NA hs h1 h2 h3 h4 (fun w2 w' cs r2 hF=>h5 w2 w' cs (r.trans r2) hF)
theorem QW.stop {P:Program} {ty:TypeId} {Wg C N Low:Nat} {et:TypeId} {cs0:Array Value} {S:Goroutine->World->Prop} {pd:Nat} {Z:Nat->Prop} {orig:Nat->Option Obj} {O:List (Nat×(Value->World->Prop))} {g:Goroutine} {w:World} {J:Jd P} (h:QW P ty Wg C N Low et cs0 S pd Z orig O g w):Wlk J (fun g w=>QW P ty Wg C N Low et cs0 S pd Z orig O g w) g w:=Wlk.stop fun w1 r=>h.rely r
theorem Qlp {ρ:Env} {d i:Nat} {v:Value} (h:i≠d):Xn ρ (some d) v i=ρ i:=by simp [Xn,upd,Qfx h]
theorem QTv:ZI Tryz.prog 164 [.pointer none]:=Zn (by kernel_rfl)
theorem QTx:ZI Tryz.prog 3 [.int .i64 0]:=Zn (by kernel_rfl)
noncomputable def Qef:List (Option Np)->Option (List (List Nl))
 | []=>some []
 | o::l=>Option.bind o fun n=>Option.bind (Qiy n.line) fun x=>Option.bind (Qef l) fun r=>some (x::r)
noncomputable def Qpj (ns:List (Option Np)):Option (List (List Nl)):=bif ns.isEmpty then none else Qef ns
theorem Qpi:∀ {ns:List (Option Np)} {rs:List (List Nl)},Qef ns=some rs->rs.length=ns.length/\∀ (k:Nat) (x:List Nl),rs[k]?=some x->∃ nd:Np,ns[k]?=some (some nd)/\Qiy nd.line=some x
 | [],rs,h=>by cases h;exact ⟨rfl,fun k x h=>by simp at h⟩
 | o::l,rs,h=>by
  unfold Qef at h;obtain ⟨nd,h1,h⟩:=Y9 h;obtain ⟨x,h2,h⟩:=Y9 h;obtain ⟨r,h3,h⟩:=Y9 h;cases h;obtain ⟨h4,h5⟩:=Qpi h3;refine ⟨by simp [h4],fun k y hy=>?_⟩;cases k with
  | zero=>simp at hy;subst hy;exact ⟨nd,by simp [h1],h2⟩
  | succ k=>simp at hy;obtain ⟨nd',h6,h7⟩:=h5 k y hy;exact ⟨nd',by simpa using h6,h7⟩
def Qqm:Code->Code
 | .seq x _=>x
 | c=>c
def lpO:Code->Code
 | .block _ (.loop c)=>c
 | c=>c
noncomputable def Qee:Code:=Jv (Tryz.f79.body.getD .skip)
noncomputable def Qwa:Code:=Jv (Jv (Jv Qee))
noncomputable def LBo:Code:=lpO (Jv (Qqm (Jv Qee)))
noncomputable def posts (L:List Value) (rs:List (List Nl)) (j:Nat):List (Nat×(Value->World->Prop)):=(List.range j).map fun k=>(k,Qcf L (rs.getD k []))
theorem QMn {L:List Value} {rs:List (List Nl)} {j:Nat}:posts L rs (j+1)=posts L rs j++[(j,Qcf L (rs.getD j []))]:=by
 unfold posts;rw [List.range_succ,List.map_append];rfl
theorem QMm {L:List Value} {rs:List (List Nl)} {j:Nat}:∀ p∈posts L rs j,p.1≠j:=fun p hp e=>by
 unfold posts at hp;obtain ⟨k,hk,rfl⟩:=List.mem_map.1 hp;have:=List.mem_range.1 hk;simp only at e;omega
section
variable {L:List Value} {w0:World} {C cap b2:Nat} {v:Value} {ns:List (Option Np)} {rs:List (List Nl)} {ρ0:Env}
structure On0 (L:List Value) (w0:World) (C cap b2:Nat) (v:Value) (ns:List (Option Np)) (rs:List (List Nl)) (ρ0:Env):Prop where
 hL:LtL L w0
 hC:pt C∈L
 r2:ρ0 2=pt b2
 n2:b2≠C
 B2:RowAt w0 b2 [.slice (some ⟨C,0,none⟩) ns.length cap]
 hs:SlRd L w0 v ns
 hn:ns.length<=cap
 hm:ns.length<=1073741824
 rs:Qef ns=some rs
theorem Qpo {b:Nat}:pt b∈[pt b]:=List.mem_singleton.2 rfl
theorem QEy (hP:On0 L w0 C cap b2 v ns rs ρ0) {Wg Low N:Nat} (hN:N=cap) {cs0:Array Value} {S:Goroutine->World->Prop} {b:Frame} (hb:b.kind≠.early) {kk:List Item} {cs:List Frame} (hW:w0.heap.size<=Wg)
    (hE:∀ ρ w Z orig,(∀ i,i < 3->ρ i=ρ0 i)->ρ 3=pt Wg->Inv w0 C Z orig w->QW Tryz.prog 177 Wg C N Low 179 cs0 S 0 Z orig (posts L rs ns.length) (G (b.at (act 91 ρ) kk) cs) w) :
    ∀ (i j:Nat),j+i=ns.length->∀ (ρ:Env) (w:World) (Z:Nat->Prop) (orig:Nat->Option Obj),(∀ i,i < 3->ρ i=ρ0 i)->ρ 3=pt Wg->ρ 21=v->ρ 22=.int .i64 ns.length->ρ 23=.int .i64 j->Inv w0 C Z orig w ->
      QW Tryz.prog 177 Wg C N Low 179 cs0 S 0 Z orig (posts L rs j) (G (b.at (act 91 ρ) (.code LBo::.inLoop LBo::.inBlock 0::kk)) cs) w:=by
  obtain ⟨hrl,hrg⟩:=Qpi hP.rs;have hm:=hP.hm
  have head : ∀ (j : Nat) (tr : Bool), tr = decide (j < ns.length) -> ∀ (ρ : Env) (w : World) (Z : Nat -> Prop) (orig : Nat -> Option Obj) (O : List (Nat × (Value -> World -> Prop))), ρ 22 = .int .i64 ns.length -> ρ 23 = .int .i64 j ->
      (∀ ρ',(∀ i,i < 24->ρ' i=ρ i)->QW Tryz.prog 177 Wg C N Low 179 cs0 S 0 Z orig O (G (b.at (act 91 ρ') (.code (bif tr then .skip else .exit 0)::.code (Jv (Jv LBo))::.inLoop LBo::.inBlock 0::kk)) cs) w) ->
      QW Tryz.prog 177 Wg C N Low 179 cs0 S 0 Z orig O (G (b.at (act 91 ρ) (.code LBo::.inLoop LBo::.inBlock 0::kk)) cs) w:=by
    intro j tr htr ρ w Z orig O h22 h23 hk;refine QW.of ?_
    letI:JD Tryz.prog:=⟨Jp Tryz.prog Z⟩
    refine Qaw (Qkl (n:=91) (K:=fun ρ' w'=>w'=w/\ρ' 24=.bool tr/\∀ i,i < 24->ρ' i=ρ i) ?_ hb ?_)
    · refine Zr (v:=.bool (decide ((j:Int) < (ns.length:Int)))) rfl (Q4 h23 h22) ?_;refine Qc ⟨rfl,?_,fun i hi=>Jf hi⟩;rw [htr];show Value.bool (decide ((j:Int) < (ns.length:Int)))=_;congr 1;by_cases h:j < ns.length
      · rw [decide_eq_true h,decide_eq_true];omega
      · rw [decide_eq_false h,decide_eq_false];omega
    · rintro ρ' w' ⟨rfl,h24,hr'⟩;exact Qaw (QBy (n:=91) (by exact h24) (hk ρ' hr').stop)
  intro i
  induction i with
  | zero =>
    intro j hj ρ w Z orig hρ h3 h21 h22 h23 hI;obtain rfl:j=ns.length:=by omega
    refine head _ false (by simp) ρ w Z orig _ h22 h23 fun ρ' hr=>QW.of ?_
    letI:JD Tryz.prog:=⟨Jp Tryz.prog Z⟩
    refine QDm rfl ?_;exact (hE ρ' w Z orig (fun i hi=>(hr i (by omega)).trans (hρ i hi)) ((hr 3 (by omega)).trans h3) hI).stop
  | succ i ih =>
    intro j hj ρ w Z orig hρ h3 h21 h22 h23 hI;refine head _ true (by simp;omega) ρ w Z orig _ h22 h23 fun ρ1 hr1=>QW.of ?_
    letI:JD Tryz.prog:=⟨Jp Tryz.prog Z⟩
    have q3:ρ1 3=pt Wg:=(hr1 3 (by omega)).trans h3;have q21:ρ1 21=v:=(hr1 21 (by omega)).trans h21;have q22:ρ1 22=.int .i64 ns.length:=(hr1 22 (by omega)).trans h22;have q23:ρ1 23=.int .i64 j:=(hr1 23 (by omega)).trans h23;have hjl:j < ns.length:=by omega
    obtain ⟨x,hx⟩:∃ x,rs[j]?=some x:=⟨_,List.getElem?_eq_getElem (by omega)⟩;obtain ⟨nd,hnd,hps⟩:=hrg j x hx;have hel:idx ns (j:Int)=some (some nd):=by unfold idx;rw [if_pos (by omega)];simpa using hnd
    have hs':SlRd L w v ns:=hP.hs.step (hI.stepp hP.hC);obtain ⟨csn,hat,pn,hpn,rfl⟩:=SlRd.at hs' hel;have hlt:C < w0.heap.size:=hI.lt8;refine QOs (Qaw (Qsm (Qaw (Qkl (n:=91) (K:=fun ρ' w'=>(∀ i,i < 24->i≠4->i≠5->ρ' i=ρ1 i)/\∃ b4 b5,ρ' 4=pt b4/\ρ' 5=pt b5/\w0.heap.size<=b4/\w0.heap.size<=b5/\Inv w0 C Z orig w'/\Box w' b4 [.int .i64 j] 3/\Box w' b5 [pn] 164/\PtRd L w' pn (some nd)) ?_ hb ?_))))
    · refine Zr (v:=.int .i64 j) rfl (Qj q23) ?_;refine Zr (v:=.pointer (some (Yq v (j:Int).toNat 1))) rfl (Xc Tryz.underlying133 Qwg hs' hel q21 q23) ?_;refine Zr (v:=pn) rfl (Ql Qvx rfl hat) ?_;refine Qh rfl (Xs QTx fun b4 w4 hb4 e4 hB4=>?_);refine Qh rfl (Xs QTv fun b5 w5 hb5 e5 hB5=>?_);have n45:b4≠b5:=fun e=>by have:=hB4.lt;omega
      refine Qh rfl (Jq (vs:=[.int .i64 j]) (cs':=[.int .i64 j]) QU rfl rfl rfl rfl (hB4.ext e5) rfl (Qi rfl QH) rfl fun w6 c6 hB6=>?_);have hB5':=hB5.chg c6 (QN n45);refine Qh rfl (Jq (vs:=[pn]) (cs':=[pn]) Qwg (Q6 hpn.one1) rfl rfl rfl hB5' rfl (Qi hpn.one1 QH) rfl fun w7 c7 hB7=>Qc ?_);have h4w:w0.heap.size<=b4:=Nat.le_trans hI.size hb4;have h5w:w0.heap.size<=b5:=Nat.le_trans (Nat.le_trans hI.size e4.size) hb5;have z4:¬ Z b4:=fun hz=>by obtain ⟨_,_,_,_,h1,_⟩:=hI.zrow _ hz;have:=Zw h1;omega
      have z5:¬ Z b5:=fun hz=>by obtain ⟨_,_,_,_,h1,_⟩:=hI.zrow _ hz;have:=Zw h1;have:=e4.size;omega
      have e07:Ext w w7:=QS (QS (e4.trans e5) c6 hb4) c7 (Nat.le_trans e4.size hb5);refine ⟨fun i hi h1 h2=>?_,b4,b5,?_,rfl,h4w,h5w,((((hI.ext e4).ext e5).chg c6 (.inr ⟨h4w,z4⟩)).chg c7 (.inr ⟨h5w,z5⟩)),hB6.chg c7 (QN n45.symm),hB7,hpn.ext e07⟩
      · exact (Qlp h2).trans ((Qlp h1).trans ((Jf (by omega)).trans ((Jf (by omega)).trans (Jf (by omega)))))
      · rfl
    · rintro ρ2 w2 ⟨k1,b4,b5,k4,k5,h4w,h5w,hI2,hB4,hB5,hpn2⟩;refine Qaw (Qkm ?_);refine .stop fun w3 r3=>?_;refine QW.addc rfl rfl hb rfl ?_ fun w4 r4=>QW.of ?_
      · rw [JS];simp only [List.map_toArray,List.map_cons,List.map_nil];show #[ρ2 3,Value.int .i64 1]=_;rw [(k1 3 (by omega) (by omega) (by omega)).trans q3]
      rw [ZY];show Wlk (Jp Tryz.prog Z) _ (G (b.at (act 91 (Xn ρ2 (some 28) (.tuple #[]))) _) cs) w4;generalize hρ3:Xn ρ2 (some 28) (.tuple #[])=ρ3;have hr3:∀ i,i < 28->ρ3 i=ρ2 i:=fun i hi=>by rw [<-hρ3];exact Jf hi
      have p3:ρ3 3=pt Wg:=(hr3 3 (by omega)).trans ((k1 3 (by omega) (by omega) (by omega)).trans q3);have p2:ρ3 2=pt b2:=(hr3 2 (by omega)).trans ((k1 2 (by omega) (by omega) (by omega)).trans ((hr1 2 (by omega)).trans ((hρ 2 (by omega)).trans hP.r2)));have p4:ρ3 4=pt b4:=(hr3 4 (by omega)).trans k4;have p5:ρ3 5=pt b5:=(hr3 5 (by omega)).trans k5;refine Qni (Qkm ?_);refine QLy (n:=91) (i:=0) (rest:=[1]) (K:=fun v w'=>v=.func (.func 108) #[] (List.toArray [pt Wg,pt b5,pt b2,pt b4])/\w'=w4) rfl rfl ?_ hb ?_
      · exact QCy (JQ (cs:=[pt Wg,pt b5,pt b2,pt b4]) (Zu p3 p5 p2 p4)) ⟨rfl,rfl⟩
      rintro _ w' ⟨rfl,rfl⟩;refine .stop fun w5 r5=>?_;have r25:Rel w2 w5:=(r3.trans r4).trans r5;have hI5:=hI2.rel r25;have hv:(act 91 (Xn ρ3 (some 29) (.func (.func 108) #[] (List.toArray [pt Wg,pt b5,pt b2,pt b4])))).eval (.tmp 29)=.func (.func 108) #[] (List.toArray [pt Wg,pt b5,pt b2,pt b4]):=by rw [JS];rfl
      have n4:b4≠C:=fun e=>by omega
      have n5:b5≠C:=fun e=>by omega
      refine QW.go (CC w5 C) j (Qcf L (rs.getD j [])) rfl rfl (by kernel_rfl) hb (f:=108) (caps:=#[pt Wg,pt b5,pt b2,pt b4]) (fun W=>?_) (fun W=>?_) rfl (by rw [hN];exact Nat.lt_of_lt_of_le hjl hP.hn) QMm (fun w6 r6=>QBq r6) (fun w6 r6=>?_) (fun w6 r6=>?_)
      · simp only [resolve,hv];simp [Deferred.ofValue]
      · simp only [resolve,hv];simp [Deferred.ofValue]
      · -- the worker
        have hgx:rs.getD j []=x:=by simp [List.getD,hx]
        rw [hgx];have sc:=Qsp (Z:=Z) (w:=w5) (w1:=w6) (L:=L) hP.hC r6;have scC:=Qsp (Z:=Z) (w:=w5) (w1:=w6) (L:=[pt C]) Qpo r6;have s0C:=(hI5.stepp (L:=[pt C]) Qpo).trans scC;refine QLv (n:=ns.length) (cap:=cap) (fun y hy k hk=>?_) (hP.B2.step s0C (Qdl hP.n2)) (RowAt.step scC (Qdl n4) (hB4.ext r25.ext).row) (RowAt.step scC (Qdl n5) (hB5.ext r25.ext).row) ((hpn2.ext r25.ext).step sc) hjl hps;have h1:=hP.hL y hy k hk;rw [Qnq,Qii];have:=r6.size;have:=hI5.size;omega
      · -- on
        have hI6:=hI5.frz r6;rw [<-QMn];generalize frz (CC w5 C) w6=w7 at hI6 ⊢;generalize hρ4:Xn ρ3 (some 29) (.func (.func 108) #[] (List.toArray [pt Wg,pt b5,pt b2,pt b4]))=ρ4;generalize (fun b=>Z b\/CC w5 C b)=Z2 at hI6 ⊢;generalize Qag Z (CC w5 C) w6 orig=orig2 at hI6 ⊢;have hr4:∀ i,i < 24->i≠4->i≠5->ρ4 i=ρ i:=fun i hi h1 h2=>by rw [<-hρ4];exact (Jf (by omega)).trans ((hr3 i (by omega)).trans ((k1 i hi h1 h2).trans (hr1 i hi)))
        refine QW.of ?_
        letI:JD Tryz.prog:=⟨Jp Tryz.prog Z2⟩
        refine Qni (QFn (Qkl (n:=91) (K:=fun ρ' w'=>w'=w7/\ρ' 23=.int .i64 ((j+1:Nat):Int)/\∀ i,i < 23->ρ' i=ρ4 i) ?_ hb ?_))
        · refine Zr (v:=.int .i64 (w64 ((j:Int)+1))) rfl (QK ((hr4 23 (by omega) (by omega) (by omega)).trans h23) rfl) ?_;refine Zr (v:=.int .i64 (w64 ((j:Int)+1))) rfl (Qj rfl) ?_;refine Qc ⟨rfl,?_,fun i hi=>(Jf hi).trans (Jf (by omega))⟩;show Value.int .i64 (w64 ((j:Int)+1))=_;rw [Xz (by omega)];rfl
        · rintro ρ5 w' ⟨rfl,k23,k5'⟩;refine QFo ?_;exact (ih (j+1) (by omega) ρ5 w' Z2 orig2 (fun i hi=>(k5' i (by omega)).trans ((hr4 i (by omega) (by omega) (by omega)).trans (hρ i hi))) ((k5' 3 (by omega)).trans ((hr4 3 (by omega) (by omega) (by omega)).trans h3)) ((k5' 21 (by omega)).trans ((hr4 21 (by omega) (by omega) (by omega)).trans h21)) ((k5' 22 (by omega)).trans ((hr4 22 (by omega) (by omega) (by omega)).trans h22)) k23 hI6).stop
end
end Go.Gw

end
section
set_option maxRecDepth 100000
set_option maxHeartbeats 8000000
set_option linter.unusedVariables false
set_option linter.unusedSectionVars false
namespace Go.Gw
open Go Go.Conc Go.Proofs
open Go.ConcR (wgBlock)
attribute [local irreducible] T0 TS TT TP TX TZ Eff Stp WC Quiet gd
theorem Inv.full {w0 w w':World} {C N Low:Nat} {Z:Nat->Prop} {orig:Nat->Option Obj} {cs0 cs:Array Value} {et:TypeId} {O:List (Nat×(Value->World->Prop))} (h:Inv w0 C Z orig w) (hF:FullG C N Low cs0 O w w' cs) (hlow:w0.heap.size<=Low):Inv w0 C Z orig (Ju C cs et w'):=by
 have hm:=hF.more;refine ⟨hm.os.trans h.os,hm.tape.trans h.tape,hm.output.trans h.output,by rw [Qpv,hm.size];exact h.size,fun b hb h8=>⟨(h.old b hb h8).1,fun hn=>?_⟩,fun b hb=>?_,h.z8,h.lt8⟩
 ·rw [Qej h8,hF.low b (by omega) h8];exact (h.old b hb h8).2 hn
 ·obtain ⟨cs1,e,fz,fz',h1,h2⟩:=h.zrow b hb;have hne:b≠C:=fun e=>h.z8 (e▸hb)
  exact ⟨cs1,e,fz,fz',by rw [Qej hne];exact hm.shows b cs1 e fz h1,h2⟩
theorem QNp {L:List Value} {C:Nat} {cs:Array Value} {et:TypeId} {w:World} (hC:pt C∈L):Stepp L w L (Ju C cs et w):=⟨fun {b cs1 e fz} hb hA=>⟨⟨fz,by grind [Qej,Qjp]⟩,hA⟩⟩
instance topJ:JD Tryz.prog:=⟨Jm Tryz.prog⟩
noncomputable def Qcv:Array Oper:=Qpt (Qqm Qee)
theorem zi230':ZI Tryz.prog 177 [.int .u64 0,.int .u32 0]:=Zn (by kernel_rfl)
theorem QFh {ρ:Env} {w:World} {C:Nat} {cs0:Array Value} {b:Frame} {k:List Item} {cs:List Frame} {S:Goroutine->World->Prop} (hb:b.kind≠.early) (hC:w.heap[C]?=some (.cells cs0 179 (0,0))) (hN:cs0.size+1 < 2147483647)
  (h:∀ Wg w1,Rel w w1->w.heap.size<=Wg->Wg < w1.heap.size->QW Tryz.prog 177 Wg C cs0.size Wg 179 cs0 S 0 (fun _=>False) (fun _=>none) [] (G (b.at (act 91 (Xn ρ (some 3) (.pointer (some ⟨Wg,0,none⟩)))) (.inRegion Qcv []::k)) cs) (ZQ C w1)) :
  ∀ w1,Rel w w1->(Jm Tryz.prog).Ph (G (b.at (act 91 ρ) (.inRegion Qcv [0]::k)) cs) w1 S:=by
 refine QFi (g:=G (b.at (act 91 ρ) (.inRegion Qcv [0]::k)) cs) rfl hC hN (fun Wg=>G (b.at (act 91 (Xn ρ (some 3) (.pointer (some ⟨Wg,0,none⟩)))) (.inRegion Qcv []::k)) cs) (fun W=>?_) h;obtain ⟨o,ho,hop,hg,hd⟩:∃ o:Oper,Qcv[0]?=some o/\o.op=.alloc 177/\o.guard=none/\o.dst=some 3:=⟨_,rfl,rfl,rfl,rfl⟩;obtain ⟨inf,z,hz1,hz2,hz3⟩:=zi230'.ex;have hT:(execOp (act 91 ρ).eval o).runT Tryz.prog W #[]=(.ok (.value (.pointer (some ⟨W.heap.size,0,none⟩))) { W with heap:=W.heap.push (wgBlock 177 0 0) },#[]):=by
  have hzc:z.cells=#[.int .u64 0,.int .u32 0]:=by grind
  have e0:execOp (act 91 ρ).eval o=(zeroValue 177 >>= fun z=>newVar 177 z >>= fun a=>Pure.pure (Value.pointer (some a))) >>= fun v=>Pure.pure (Next.value v):=by
   simp [execOp,hop,Instr.alloc]
  rw [e0];rfl
 rw [Sem.runT_eq] at hT;have hr:=congrArg Prod.fst hT;have he:(execOp (act 91 ρ).eval o).events Tryz.prog W #[]=#[]:=congrArg Prod.snd hT;have:=stepG_value (P:=Tryz.prog) (main:=true) (b:=b) (a:=act 91 ρ) (k:=k) (cs:=cs) (ops:=Qcv) (i:=0) (rest:=[]) ho (by simp [Region.wanted,hg]) hb hr
 grind [seen_none,listed,ZY]
theorem Inv.hide {w w1:World} {C:Nat} (r:Rel w w1) (hC:C < w.heap.size):Inv w C (fun _=>False) (fun _=>none) (ZQ C w1) :=
 ⟨r.os,r.tape,r.output,by rw [Qtn];exact r.size,fun b hb h8=>⟨fun h=>h.elim,fun _=>by rw [Qil h8];exact r.block b hb⟩,fun _ h=>h.elim,fun h=>h,hC⟩
end Go.Gw

end
section
set_option maxRecDepth 100000
set_option maxHeartbeats 8000000
set_option linter.unusedVariables false
set_option linter.unusedSectionVars false
namespace Go.Gw
open Go Go.Conc Go.Proofs
attribute [local irreducible] T0 TS TT TP TX TZ Eff Stp WC Quiet gd
variable {L:List Value} {w:World} {ρ:Env} {q:Post} {b b2 m:Nat} {v vs:Value} {ns:List (Option Np)} {rs xs0:List (List Nl)}
theorem QLu (hL:LtL (vs::L) w) (r0:ρ 0=pt b) (r2:ρ 2=pt b2) (hB:Box w b [.map (some m),v] 135) (hB2:Box w b2 [vs] 167) (hs:SlRd (vs::L) w v ns) (ho:Own 179 (vs::L) w vs xs0) (hn:Qq vs≠some b) (hn2:Qq vs≠some b2)
    (hm:mk (ns.length:Int) ([]:List Nl)=some xs0) (hcap:∃ C,vs=.slice (some ⟨C,0,none⟩) xs0.length xs0.length) (hA:∀ k,Qq vs=some k->Avoids L k) (h:Qpj ns=some rs)
    (hK:∀ ρ' w',(∀ i,i < 3->ρ' i=ρ i)->Chg [vs] w w'->SlRd L w' vs rs->WC Tryz.prog 91 Qwa q ρ' w'):WC Tryz.prog 91 Qee q ρ w:=by
  obtain ⟨C,hvs⟩:=hcap;obtain ⟨_,hmax,hx0⟩:=Qjj hm;have hlen:xs0.length=ns.length:=by grind
  have hG:Qef ns=some rs:=by
    grind [Qpj]
  obtain ⟨hrl,hrg⟩:=Qpi hG;rw [hlen] at hvs;have hbk:Qq vs=some C:=by rw [hvs];rfl
  have hbp:Qq (pt C)=Qq vs:=by rw [hbk];rfl
  obtain ⟨cs0,hrow,hsz⟩:∃ cs0,w.heap[C]?=some (.cells cs0 179 (0,0))/\cs0.size=ns.length:=by
    rcases ho.nilOr with ⟨h1,_⟩ | ⟨g,cap,cur,h1,h2,h3,h4,h5,_⟩
    · simp_all
    · rw [hvs] at h1;injection h1 with h6 h7 h8
      injection h6 with h6
      injection h6 with h6
      subst h6;exact ⟨cur,h2,by rw [h5,<-h8];exact Nat.mul_one _⟩
  have hClt:=Zw hrow;have hL1:LtL (pt C::L) w:=fun x hx k hk=>by
    rcases List.mem_cons.1 hx with rfl | hx
    · simp_all
    · exact hL x (List.mem_cons_of_mem _ hx) k hk
  have hs1:SlRd (pt C::L) w v ns:=hs.step (Stepp.ren hbp);have nb:b≠C:=fun e=>hn (by rw [hbk,e])
  have nb2:b2≠C:=fun e=>hn2 (by rw [hbk,e])
  have hP:On0 (pt C::L) w C ns.length b2 v ns rs ρ:=⟨hL1,Qv,r2,nb2,by rw [<-hvs];exact hB2.row,hs1,Nat.le_refl _,by omega,hG⟩;unfold WC;intro bf k cs Stop hb hQ;show Wlk (Jm Tryz.prog) Stop _ w;refine Qaw (Qkm ?_);show Wlk (Jm Tryz.prog) Stop (G (bf.at (act 91 ρ) (.inRegion Qcv [0]::.code (Jv Qee)::k)) cs) w;refine .phase (fun g' w'=>∃ ρ',g'=G (bf.at (act 91 ρ') (.inRegion (Qpt (Qqm (Jv (Jv Qee)))) []::.code Qwa::k)) cs/\(∀ i,i < 3->ρ' i=ρ i)/\Chg [vs] w w'/\SlRd L w' vs rs) rfl ?_ ?_
  · refine QFh hb hrow (by omega) fun Wg w1 r1 hWg hWl=>?_;have hI:=Inv.hide r1 hClt;refine QW.of ?_
    letI:JD Tryz.prog:=⟨Jp Tryz.prog fun _=>False⟩
    have hBh:=RowAt.step (hI.stepp (L:=[pt C]) Qpo) (Qdl nb) hB.row;have hsh:=hs1.step (hI.stepp (L:=pt C::L) Qv);refine Qni (Qaw (Qaw (Qkl (n:=91) (K:=fun ρ' w'=>w'=ZQ C w1/\(∀ i,i < 4->ρ' i=Xn ρ (some 3) (pt Wg) i)/\ρ' 21=v/\ρ' 22=.int .i64 ns.length/\ρ' 23=.int .i64 0) ?_ hb ?_)))
    · refine Zr (v:=pt b) rfl (Qj (by trivial)) ?_;refine Zr (v:=pt b) rfl (XB rfl) ?_;refine Zr (v:=.pointer (some ⟨b,1,none⟩)) rfl (Yy 1 Tryz.underlying135 rfl rfl ⟨0,Qay⟩ rfl rfl) ?_;refine Zr (v:=v) rfl (Ql Qgm rfl (At.drop hBh.at 1)) ?_;refine Zr (v:=.int .i64 ns.length) rfl (QQ rfl Tryz.underlying133 hsh rfl) ?_;refine Zr (v:=.int .i64 0) rfl (Qj rfl) ?_;exact Qc ⟨rfl,fun i hi=>(Jf (by omega)).trans ((Jf (by omega)).trans ((Jf (by omega)).trans ((Jf (by omega)).trans ((Jf (by omega)).trans (Jf (by omega)))))),rfl,rfl,rfl⟩
    · rintro ρ1 w' ⟨rfl,j1,j21,j22,j23⟩;refine Qsm (QId ?_);have g1:∀ i,i < 3->ρ1 i=ρ i:=fun i hi=>(j1 i (by omega)).trans (Qlp (by omega))
      refine (QEy hP (Low:=Wg) (by rw [hsz]) hb hWg (fun ρ2 w2 Z orig i1 i2 i3=>?_) ns.length 0 (by omega) ρ1 _ (fun _=>False) (fun _=>none) g1 ((j1 3 (by omega)).trans rfl) j21 j22 j23 hI).stop;refine QW.of ?_
      letI:JD Tryz.prog:=⟨Jp Tryz.prog Z⟩
      refine Qaw (Qkm (.stop fun w3 r3=>?_));refine QW.waitc rfl rfl hb rfl ?_ fun w4 w5 cs' r4 hF=>?_
      · rw [JS];simp only [List.map_toArray,List.map_cons,List.map_nil];show #[ρ2 3]=_;rw [i2]
      have hI4:=(i3.rel r3).rel r4;have hIf:=hI4.full (et:=179) hF hWg;rw [ZY];refine ⟨_,rfl,fun i hi=>(Qlp (by omega)).trans (i1 i hi),?_,?_⟩
      · have hc:=hIf.thaw;exact ⟨hc.os,hc.tape,hc.output,hc.size,fun x hx hav=>hc.block x hx (fun y hy e=>by
          rcases List.mem_singleton.1 hy with rfl;exact hav vs (List.mem_singleton.2 rfl) (hbp▸e))⟩
      · have hz:¬ Z C:=hIf.z8;have hCw:C < w5.heap.size:=by rw [hF.more.size];exact Nat.lt_of_lt_of_le hClt hI4.size
        have hget:(thaw Z orig (Ju C cs' 179 w5)).heap[C]?=some (.cells cs' 179 (0,0)):=by
          grind [Qep,Qpu]
        have hsz':cs'.size=ns.length:=by rw [hF.size,hsz]
        have hAC:Avoids L C:=hA C hbk;rw [hvs];have hmx:ns.length<=maxLen:=by unfold maxLen;omega
        have htk:(cs'.toList.drop 0).take (rs.length * 1)=cs'.toList:=by
          simp_all [Nat.le_refl,Array.length_toList,List.drop_zero,Nat.mul_one,List.take_of_length_le]
        have hEl:Elems L (thaw Z orig (Ju C cs' 179 w5)) ((cs'.toList.drop 0).take (rs.length * 1)) rs:=by
          rw [htk];refine ⟨by rw [Array.length_toList,hsz',hrl];exact (Nat.mul_one _).symm,fun i x hx=>?_⟩;have hi:i < rs.length:=(List.getElem?_eq_some_iff.1 hx).1;have hgx:rs.getD i []=x:=by simp_all
          obtain ⟨u,xw,hu,hus,hsh⟩:=hF.full (i,Qcf (pt C::L) (rs.getD i [])) (List.mem_map.2 ⟨i,List.mem_range.2 (by omega),rfl⟩);have hus:SlRd (pt C::L) xw u (rs.getD i []):=hus;rw [hgx] at hus;refine ⟨u,?_,(((hus.step (Shows.stepp hsh)).step (QNp (C:=C) (cs:=cs') (et:=179) Qv)).step hIf.thawS).sub (fun y hy=>List.mem_cons_of_mem _ hy)⟩;show ((cs'.toList).drop (i * 1)).take 1=[u];simp_all [List.drop_eq_getElem_cons,List.getElem?_eq_some_iff,some,Nat.mul_one]
        exact .inr ⟨C,0,ns.length,cs',179,(0,0),by rw [hrl],hget,hAC,by omega,hmx,by rw [hsz',Nat.zero_add];exact Nat.le_of_eq (Nat.mul_one _),hEl⟩
  · rintro g' w' ⟨ρ',rfl,hq1,hq2,hq3⟩;have hw:=hK ρ' w' hq1 hq2 hq3;unfold WC at hw;exact .ctl rfl (fun _=>stepG_region_end) (hw bf k cs Stop hb hQ)
end Go.Gw

end
section
set_option maxRecDepth 4096
set_option maxHeartbeats 8000000
set_option linter.unusedVariables false
set_option linter.unusedSectionVars false
namespace Go.Gw
open Go Go.Proofs
attribute [local irreducible] T0 TS TT TP TX TZ Eff Stp WC Quiet gd
noncomputable def QHa (el21791:(List Nl)) (x17435:(List (Option Np))) (x21743:Int):(Int×(List (Option Np))×(List ByteArray))->Option ((Int×(List (Option Np))×(List ByteArray))⊕((List (Option Np))×(List ByteArray))):=fun (x22811,x22815,x22821)=>(bif (decide (x22811 < (el21791.length:Int))) then ( (Option.bind (idx el21791 x22811) fun el22861=>(Option.bind (el22861.line) fun el22901=>(Option.bind (Qiu el22901.Nj) fun r22926=>(bif (!(Y0 x22821 r22926)) then ( (Option.bind (idx x17435 x21743) fun el23059=>(Option.bind (app x22815 ([(some (Np.mk el22861.line Opq.mk el22861.Ny))]:List (Option Np))) fun zs23109=>some (.inl (w64 (x22811+1),zs23109,(ZF x22821 r22926))) ) ) ) else ( some (.inl (w64 (x22811+1),x22815,x22821)) )) ) ) ) ) else ( some (.inr (x22815,x22821)) ))
noncomputable def QHb (r17517:(List (List Nl))) (x17435:(List (Option Np))):(Int×(List (Option Np))×(List ByteArray))->Option ((Int×(List (Option Np))×(List ByteArray))⊕((List (Option Np))×(List ByteArray))):=fun (x21743,x21747,x21753)=>(bif (decide (x21743 < (r17517.length:Int))) then ( (Option.bind (idx r17517 x21743) fun el21791=>(Option.bind (loop (QHa el21791 x17435 x21743) (0,x21747,x21753)) fun ((x22837,x22843):(List (Option Np))×(List ByteArray))=>some (.inl (w64 (x21743+1),x22837,x22843)) ) ) ) else ( some (.inr (x21747,x21753)) ))
noncomputable def QHc:((List (Option Np))×(List ByteArray))->Option (((List (Option Np))×(List ByteArray))⊕((List (Option Np))×(List ByteArray))):=fun (x17435,x17441)=>(bif ((decide (0 < (x17435.length:Int)))&&(decide ((x17441.length:Int)<=2000))) then ( (Option.bind (mk (x17435.length:Int) (([]:(List Nl)):(List Nl))) fun mk17474=>(Option.bind (Qpj x17435) fun r17517=>(Option.bind (loop (QHb r17517 x17435) (0,([]:List (Option Np)),x17441)) fun ((x21767,x21773):(List (Option Np))×(List ByteArray))=>some (.inl (x21767,x21773)) ) ) ) ) else ( some (.inr (x17435,x17441)) ))
noncomputable def Qub (p_p:Nd):Option (Int×Int):=(Option.bind (Qcr p_p) fun r24=>(bif (!decide (r24=0)) then ( some (0,r24) ) else ( (Option.bind (Qoi p_p) fun r243=>(Option.bind (Quq (some (Nk.mk p_p r243))) fun r273=>(Option.bind (loop QHc (r273.2,r273.1)) fun ((x17451,x17457):(List (Option Np))×(List ByteArray))=>(bif (decide (2000 < (x17457.length:Int))) then ( some (0,8) ) else ( some ((x17457.length:Int),0) )) ) ) ) )) )
theorem QGz {L:List Value} {w:World} (hL:LtL L w) {cs_p_p:List Value} {p_p:Nd} (h_p_p:Rep.rd L w cs_p_p p_p) {r:Int×Int} (h:Qub p_p=some r):CallsTo Tryz.prog 33 [(.agg cs_p_p.toArray)] w (fun v w'=>Ext w w'/\(.tuple #[(Iv r.1),(Iv r.2)])=v):=by
 have hS0:=h_p_p;obtain ⟨v1,v3,v5,v7,h2,h4,h6,h8,rfl⟩:=h_p_p;refine QV (n:=44) (rs:=[.tmp 2,.tmp 3]) Tryz.func33 rfl rfl rfl rfl rfl<|Qd<|Qh rfl (XQ (cs:=[v1,v3,v5,v7]) rfl rfl ?_);intro b14 wd15 hb16 he17 hB18;refine Qe rfl<|Qe rfl<|Qc<|Qg fun K22 hK22=>Qd<|Qa (QL (Box.at hB18) Yk rfl)<|bnd h fun r24 hr25 h=>Qh rfl (Qt Tryz.func46 Qjk rfl (QM rfl) (Qjd (LtL.nil _) ((hS0.ext he17).sub (fun _ h=>by cases h)) hr25) ?_);rintro _ wd26 ⟨he27,rfl⟩;have e29:=((Q1 w).trans he17).trans he27;refine Qe rfl<|Qc<|Qd<|Qb rfl<|Qa (X1 rfl rfl)<|Qc<|Qx h rfl (fun _ h=>?_) (fun _ h=>?_)
 ·refine Qd<|Qb rfl<|Qe rfl<|Qe rfl<|Qc<|Qr ?_;replace h:=Qf h;subst h;exact ⟨[_,_],⟨rfl,rfl,trivial⟩,e29,rfl⟩
 ·refine Qw<|hK22 _ _<|Qg fun K33 hK33=>Xq Xm (.q 0 (.q 1 (.m (.a 2 (.p 3 (.m (.a 4 (.m (.a 5 (.p 6 .done) .z)) .z))) .z)))) (by kernel_rfl) rfl ?_;intro wd172 he173;have e174:=(he17.trans he27).trans he173;have e175:=he27.trans he173;have e176:=e29.trans he173;refine QI rfl (fun w' hS=>(QL (Box.at (hB18.ext (e175.trans hS))) Yk rfl))<|QI rfl (fun w' hS=>(QL (Box.at (hB18.ext (e175.trans hS))) Yk rfl))<|QF<|bnd h fun r243 hr244 h=>QC rfl (Qt Tryz.func47 Qvm rfl (QM rfl) (Que (hL.chg e176) (hS0.ext e174) hr244) ?_);rintro _ wd245 ⟨he246,cs251,rfl,hrd252⟩;have e256:=e176.trans he246;obtain ⟨v247,v249,h248,h250,rfl⟩:=hrd252;refine ⟨he246,Qn rfl (fun w'=>(XC Qhu (Qy rfl rfl (Qy rfl rfl QR)) rfl))<|QF<|QC rfl (XQ (cs:=[v1,v3,v5,v7,v247,v249,(Iv r243.Nu)]) rfl rfl ?_)⟩;intro b259 wd260 hb261 he262 hB263;have e266:=(e174.trans he246).trans he262;have e269:=e256.trans he262;refine ⟨he262,QF ?_⟩;have h271:PtRd L wd260 (pt b259) (some (Nk.mk p_p r243)):=PtRd.of_box hB263 (Qan hL (Xa e256 hb261)) ⟨v1,v3,v5,v7,v247,v249,(h2.ext e266),(h4.ext e266),(h6.ext e266),(h8.ext e266),(h248.ext he262),(h250.ext he262),rfl⟩;refine bnd h fun r273 hr274 h=>QC rfl (Qt Tryz.func78 QLe rfl (QM rfl) (QHz (hL.chg e269) h271 hr274) ?_);rintro _ wd275 ⟨he276,b277,b278,v279,rfl,hb280,hb281,hn282,hB283,hB284,hf285,hn286,hn287,h288⟩;have hbf293:=Xa e269 hb280;have hf295:=YE e269 hf285;refine ⟨he276,Qm rfl rfl (fun w'=>(YD rfl))<|Q5<|hK33 _ _<|Qg fun K309 hK309=>bnd h fun o17462 hl17463 hn17464=>Q2 (fun (ρ:Env) (wd17446:World)=>∃ (x17451:(List (Option Np))) (x17457:(List ByteArray)) (v17450:Value),(x17451,x17457)=o17462/\ρ 5=(pt b277)/\Box wd17446 b277 [(.map (some b278)),v17450] 135/\MapAt wd17446 b278 x17457/\Own 164 (v17450::(pt b277)::(pt b278)::L) wd17446 v17450 x17451/\(Frs w v17450)/\(Qq v17450≠some b277)/\(Qq v17450≠some b278)/\Ext w wd17446) ?_ ?_⟩
  ·intro K17468 hK17468;refine QD<|Xp (fun sv ρ wd17430=>∃ (x17435:(List (Option Np))) (x17441:(List ByteArray)) (v17434:Value),(x17435,x17441)=sv/\ρ 5=(pt b277)/\Box wd17430 b277 [(.map (some b278)),v17434] 135/\MapAt wd17430 b278 x17441/\Own 164 (v17434::(pt b277)::(pt b278)::L) wd17430 v17434 x17435/\(Frs w v17434)/\(Qq v17434≠some b277)/\(Qq v17434≠some b278)/\Ext w wd17430) hl17463 ⟨r273.2,r273.1,v279,rfl,rfl,hB283,hB284,h288,hf295,hn286,hn287,(e269.trans he276)⟩ ?_;rintro _ ρ wd17430 ⟨x17435,x17441,v17434,rfl,hs17432,hB17440,hB17443,h17437,hf17438,hn17444,hn17445,e17431⟩ x17465 h hx17466 K17467 hK17467;refine Qg fun K17470 hK17470=>Qd<|Qb hs17432<|Qa (XB rfl)<|Qa (Qs 1 Tryz.underlying135 ⟨0,Qay⟩ rfl rfl)<|Qa (Ql Qgm rfl (At.drop (Box.at hB17440) 1))<|Qa (Qet rfl Tryz.underlying133 h17437 rfl)<|Qa (X4 rfl rfl)<|Qb rfl<|QA (Qz rfl) (fun hg=>(Qj hs17432))<|QA (Qz rfl) (fun hg=>(XB (Qo hg)))<|QA (Qz rfl) (fun hg=>(Qs 0 Tryz.underlying135 ⟨0,Qhc⟩ (Qo hg) rfl))<|QA (Qz rfl) (fun hg=>(Ql Qgl (Qo hg) (Box.at hB17440)))<|QA (Qz rfl) (fun hg=>(Qrg rfl Tryz.underlying132 (Qo hg) hB17443))<|QA (Qz rfl) (fun hg=>(Zg (Qo hg) rfl))<|Qa (XU rfl (fun hb=>(Qo hb)) rfl)<|Qc<|Qx h rfl (fun _ h=>?_) (fun _ h=>?_)
   ·refine Qw<|hK17470 _ _<|QD<|QB<|Qb hs17432<|Qh rfl (QCo (nf:=91) (rs:=[]) Tryz.func79 QLf rfl (QM rfl) rfl rfl rfl rfl ?_);refine Qd<|Qb rfl<|Qa (XB rfl)<|Qa (Qs 1 Tryz.underlying135 ⟨0,Qay⟩ rfl rfl)<|Qa (Ql Qgm rfl (At.drop (Box.at hB17440) 1))<|Qa (Qet rfl Tryz.underlying133 h17437 rfl)<|bnd h fun mk17474 hm17475 h=>Qh rfl (QCq (L:=(v17434::(pt b277)::(pt b278)::L)) (zcs:=[Sno]) (zero:=([]:(List Nl))) rfl rfl rfl Tryz.underlying167 QDc rfl rfl rfl (fun _ _=>⟨_,rfl,SlRd.nil _ _⟩) rfl rfl hm17475 ?_);intro v17476 wd17477 he17478 hf17479 h17480 v17476c;have hn17481:∀ b,Qq v17434=some b->Qq v17476≠some b:=fun b hb e=>by have:=hf17479 _ e;have:=h17437.blk_lt hb;omega
    have h17482:=h17437.step (Stepp.add v17476 he17478 hf17479) he17478 (fun _ _=>Avoids.nil _);have hn17484:=X8 hf17479 hB17440.lt;have hn17485:=X8 hf17479 hB17443.lt;have hf17486:=YE e17431 hf17479;have e17487:=e17431.trans he17478;refine Qh rfl (Xs QTs ?_);intro b17489 wd17490 hb17491 he17492 hB17493;have hn17494:=Xh (hB17440.ext he17478) hb17491;have hn17495:b17489≠b278:=Z3 (hB17443.ext he17478).lt hb17491;have hn17496:=YS h17482 hb17491;have hn17497:=YS h17480 hb17491;have h17499:=h17482.step (Qu he17492 hb17491) he17492 (fun _ _=>Avoids.nil _);have h17500:=h17480.step (Qu he17492 hb17491) he17492 (fun _ _=>Avoids.nil _);have e17501:=he17478.trans he17492;refine Qh rfl (Q3 QQt (Q6 h17500.one1) rfl rfl rfl hB17493 rfl (Qi h17500.one1 QH) rfl ?_);intro wd17504 hc17505 hB17506;have h17508:=(hB17440.ext e17501).chg hc17505 (QN hn17494);have h17509:=(hB17443.ext e17501).chg hc17505 (QN hn17495);have e17511:=QS (e17487.trans he17492) hc17505 (Xa e17487 hb17491);refine Qc ?_;have h17512:=((h17499.step (Qp hc17505 Qv) hc17505 (Xv hn17496)).sub Qyh).rd (fun b hb=>(Avoids.cons (Avoids.cons (Avoids.cons (Avoids.cons (fun x hx e=>by have:=hL x hx b e;have:=hf17438 b hb;omega) (fun e=>hn17445 (hb.trans e.symm))) (fun e=>hn17444 (hb.trans e.symm))) (hn17481 b hb)) (fun e=>hn17496 (hb.trans e.symm))));have h17515:=((h17500.step (Qp hc17505 Qv) hc17505 (Xv hn17497)).sub Qyh).sub Jy;have h17516:=h17512.sub Jy;refine bnd h fun r17517 hr17518 h=>QLu (L:=((pt b17489)::(pt b277)::(pt b278)::L)) (Yw (QO (QO (Qau (hL.chg e17511) h17509.lt) h17508) hB17506) h17515) rfl rfl h17508 hB17506 h17516 h17515 hn17484 hn17497 hm17475 v17476c (fun b hb=>(Avoids.cons (Avoids.cons (Avoids.cons (fun x hx e=>by have:=hL x hx b e;have:=hf17486 b hb;omega) (fun e=>hn17485 (hb.trans e.symm))) (fun e=>hn17484 (hb.trans e.symm))) (fun e=>hn17497 (hb.trans e.symm)))) hr17518 ?_;intro ρ wd17519 hp17520 hc17521 h17522;have hs17523:ρ 0=(pt b277):=(hp17520 0 (by decide)).trans rfl;have hs17524:ρ 2=(pt b17489):=(hp17520 2 (by decide)).trans rfl;have h17525:=h17508.chg hc17521 (Xl hn17484);refine Qd<|Qb hs17523<|Qa (XB rfl)<|Qa (Qs 1 Tryz.underlying135 ⟨0,Qay⟩ rfl rfl)<|Qa (Ql Qgm rfl (At.drop (Box.at h17525) 1))<|Qe rfl<|Qc<|Qd<|Qb hs17523<|Qa (XB rfl)<|Qa (Qs 1 Tryz.underlying135 ⟨0,Qay⟩ rfl rfl)<|Qh rfl (Jq (cs':=[(.map (some b278)),Sno]) Qay rfl rfl rfl rfl h17525 rfl (Qi rfl QH) rfl ?_);intro wd17534 hc17535 hB17536;have h17540:=h17522.step (Qp hc17535 Xb);refine Qc<|Qd<|Qa (Ql QOo hs17524 (Box.at ((hB17506.chg hc17521 (Xl hn17497)).chg hc17535 (QN hn17494.symm))))<|Qa (QQ rfl Tryz.underlying167 h17540 rfl)<|Qb rfl<|Qc ?_;have h21761:Own 164 (Sno::(pt b17489)::(pt b277)::(pt b278)::L) wd17534 Sno ([]:List (Option Np)):=Own.nil _ _ _;refine bnd h fun o21778 hl21779 hn21780=>Q2 (fun (ρ:Env) (wd21763:World)=>∃ (x21767:(List (Option Np))) (x21773:(List ByteArray)) (v21766:Value),(x21767,x21773)=o21778/\Box wd21763 b277 [(.map (some b278)),v21766] 135/\MapAt wd21763 b278 x21773/\Own 164 (v21766::(pt b277)::(pt b278)::L) wd21763 v21766 x21767/\(Frs w v21766)/\(Qq v21766≠some b277)/\(Qq v21766≠some b278)/\Ext w wd21763) ?_ ?_
    ·intro K21784 hK21784;refine QD<|Xp (fun sv ρ wd21735=>∃ (x21743:Int) (x21747:(List (Option Np))) (x21753:(List ByteArray)) (v21746:Value),(x21743,x21747,x21753)=sv/\ρ 0=(pt b277)/\ρ 6=v17434/\ρ 39=v17476/\ρ 40=(Iv (r17517.length:Int))/\ρ 41=(Iv x21743)/\SlRd (v21746::(pt b277)::(pt b278)::L) wd21735 v17434 x17435/\SlRd (v21746::(pt b277)::(pt b278)::L) wd21735 v17476 r17517/\Box wd21735 b277 [(.map (some b278)),v21746] 135/\MapAt wd21735 b278 x21753/\Own 164 (v21746::(pt b277)::(pt b278)::L) wd21735 v21746 x21747/\(Frs w v21746)/\(Qq v21746≠some b277)/\(Qq v21746≠some b278)/\Ext w wd21735) hl21779 ⟨0,([]:List (Option Np)),x17441,Sno,rfl,hs17523,rfl,rfl,rfl,rfl,(((((h17516.step (Qp hc17521 Qv)).sub Qgz).step (Qp hc17535 Xb)).step (Jl _)).sub J3),((h17540.step (Jl _)).sub J3),hB17536,((h17509.chg hc17521 (Xl hn17485)).chg hc17535 (QN hn282)),(h21761.sub J3),(fun b h=>ZO b h),(fun h=>by cases h),(fun h=>by cases h),(QS (XW e17511 hc17521 hf17486) hc17535 hbf293)⟩ ?_;rintro _ ρ wd21735 ⟨x21743,x21747,x21753,v21746,rfl,hs21737,hs21739,hs21741,hs21742,hs21744,h21738,h21740,hB21752,hB21755,h21749,hf21750,hn21756,hn21757,e21736⟩ x21781 h hx21782 K21783 hK21783;refine Qd<|Qa (Q4 hs21744 hs21742)<|Qc<|Qg fun K21787 hK21787=>Qx h rfl (fun _ h=>?_) (fun _ h=>?_)
     ·refine Qw<|hK21787 _ _<|Qg fun K21789 hK21789=>QD<|Qd<|Qb hs21744<|bnd h fun el21791 hel21792 h=>?_;have hq:=SlRd.at h21740 hel21792;obtain ⟨cs21795,hat21796,hrd21797⟩:=hq;obtain ⟨v21793,rfl,h21794⟩:=hrd21797;refine Qa (Xc Tryz.underlying167 Qyl h21740 hel21792 hs21741 hs21744)<|Qa (Ql Qgn rfl hat21796)<|Qe rfl<|Qe rfl<|Qc<|Qd<|Qb rfl<|Qa (QQ rfl Tryz.underlying179 h21794 rfl)<|Qb rfl<|Qc<|bnd h fun o22848 hl22849 hn22850=>Q2 (fun (ρ:Env) (wd22826:World)=>∃ (x22837:(List (Option Np))) (x22843:(List ByteArray)) (v22836:Value),(x22837,x22843)=o22848/\ρ 0=(pt b277)/\ρ 6=v17434/\ρ 39=v17476/\ρ 40=(Iv (r17517.length:Int))/\ρ 41=(Iv x21743)/\SlRd (v22836::(pt b277)::(pt b278)::L) wd22826 v17434 x17435/\SlRd (v22836::(pt b277)::(pt b278)::L) wd22826 v17476 r17517/\Box wd22826 b277 [(.map (some b278)),v22836] 135/\MapAt wd22826 b278 x22843/\Own 164 (v22836::(pt b277)::(pt b278)::L) wd22826 v22836 x22837/\(Frs w v22836)/\(Qq v22836≠some b277)/\(Qq v22836≠some b278)/\Ext w wd22826) ?_ ?_
      ·intro K22854 hK22854;refine QD<|Xp (fun sv ρ wd22798=>∃ (x22811:Int) (x22815:(List (Option Np))) (x22821:(List ByteArray)) (v22814:Value),(x22811,x22815,x22821)=sv/\ρ 0=(pt b277)/\ρ 6=v17434/\ρ 7=(Iv x21743)/\ρ 39=v17476/\ρ 40=(Iv (r17517.length:Int))/\ρ 41=(Iv x21743)/\ρ 46=v21793/\ρ 47=(Iv (el21791.length:Int))/\ρ 48=(Iv x22811)/\SlRd (v22814::(pt b277)::(pt b278)::L) wd22798 v17434 x17435/\SlRd (v22814::(pt b277)::(pt b278)::L) wd22798 v17476 r17517/\SlRd (v22814::(pt b277)::(pt b278)::L) wd22798 v21793 el21791/\Box wd22798 b277 [(.map (some b278)),v22814] 135/\MapAt wd22798 b278 x22821/\Own 164 (v22814::(pt b277)::(pt b278)::L) wd22798 v22814 x22815/\(Frs w v22814)/\(Qq v22814≠some b277)/\(Qq v22814≠some b278)/\Ext w wd22798) hl22849 ⟨0,x21747,x21753,v21746,rfl,hs21737,hs21739,rfl,hs21741,hs21742,hs21744,rfl,rfl,rfl,h21738,h21740,h21794,hB21752,hB21755,h21749,hf21750,hn21756,hn21757,e21736⟩ ?_;rintro _ ρ wd22798 ⟨x22811,x22815,x22821,v22814,rfl,hs22800,hs22802,hs22803,hs22805,hs22806,hs22807,hs22809,hs22810,hs22812,h22801,h22804,h22808,hB22820,hB22823,h22817,hf22818,hn22824,hn22825,e22799⟩ x22851 h hx22852 K22853 hK22853;refine Qd<|Qa (Q4 hs22812 hs22810)<|Qc<|Qg fun K22857 hK22857=>Qx h rfl (fun _ h=>?_) (fun _ h=>?_)
       ·refine Qw<|hK22857 _ _<|Qg fun K22859 hK22859=>QD<|Qd<|bnd h fun el22861 hel22862 h=>?_;have hq:=SlRd.at h22808 hel22862;obtain ⟨cs22865,hat22866,hrd22867⟩:=hq;obtain ⟨v22863,h22864,rfl⟩:=hrd22867;refine Qa (Xc Tryz.underlying179 Qym h22808 hel22862 hs22809 hs22812)<|Qa (QL hat22866 QAr rfl)<|Qh rfl (Xs QTu ?_);intro b22870 wd22871 hb22872 he22873 hB22874;have hn22876:b22870≠b278:=Z3 hB22823.lt hb22872;have hn22877:=YS h22817 hb22872;have h22882:=h22817.step (Qu he22873 hb22872) he22873 (fun _ _=>Avoids.nil _);have h22883:=h22864.step (Qu he22873 hb22872);refine Qh rfl (Q3 Qym rfl rfl rfl rfl hB22874 rfl (Qi rfl (Qi rfl (Qi rfl (Qi h22883.one1 QH)))) rfl ?_);intro wd22886 hc22887 hB22888;have h22889:=(h22801.step (Qu he22873 hb22872)).step (Qp hc22887 Qv);have h22890:=(h22804.step (Qu he22873 hb22872)).step (Qp hc22887 Qv);have h22891:=(h22808.step (Qu he22873 hb22872)).step (Qp hc22887 Qv);have h22892:=h22882.step (Qp hc22887 Qv) hc22887 (Xv hn22877);have h22893:=(hB22820.ext he22873).chg hc22887 (QN (Xh hB22820 hb22872));have h22894:=(hB22823.ext he22873).chg hc22887 (QN hn22876);have h22895:=h22883.step (Qp hc22887 Qv);refine Qc<|Qd<|Qa (Qs 3 Tryz.underlying182 ⟨0,Qyk⟩ rfl rfl)<|Qa (Ql Qgk rfl (At.drop (Box.at hB22888) 3))<|bnd h fun el22901 hel22902 h=>?_;have hq:=PtRd.get h22895 hel22902;obtain ⟨b22898,hv22899,h22900⟩:=hq;have hq:=PtAt.at h22900;obtain ⟨cs22916,hat22917,hrd22918⟩:=hq;obtain ⟨v22904,v22906,v22908,v22910,v22912,v22914,h22905,h22907,h22909,h22911,h22913,h22915,rfl⟩:=hrd22918;refine Qa (Zq hv22899 rfl)<|Qa (Qs 4 Tryz.underlying108 ⟨2,YL⟩ rfl rfl)<|Qa (QL (At.take (At.drop hat22917 4) 3) JB rfl)<|bnd h fun r22926 hr22927 h=>Qh rfl (Qt Tryz.func34 Qpd rfl (QM rfl) (@Qoh _ [] _ (LtL.nil _) [v22912,v22914,(Iv el22901.Nj.Nu)] el22901.Nj ⟨v22912,v22914,(h22913.sub (fun _ h=>by cases h)),(h22915.sub (fun _ h=>by cases h)),rfl⟩ r22926 hr22927) ?_);rintro _ wd22928 ⟨he22929,rfl⟩;have e22930:=(QS (e22799.trans he22873) hc22887 (Xa e22799 hb22872)).trans he22929;refine Qe rfl<|Qc<|Qd<|Qb hs22800<|Qa (XB rfl)<|Qa (Qs 0 Tryz.underlying135 ⟨0,Qhc⟩ rfl rfl)<|Qa (Ql Qgl rfl (Box.at (h22893.ext he22929)))<|Qb rfl<|Qa (Qma Tryz.underlying132 Tryz.underlying9 (by kernel_rfl) rfl rfl (h22894.ext he22929))<|Qa (Yo rfl)<|Qc<|Qx h rfl (fun _ h=>?_) (fun _ h=>?_)
        ·refine Qd<|Qb hs22800<|Qa (XB rfl)<|Qa (Qs 0 Tryz.underlying135 ⟨0,Qhc⟩ rfl rfl)<|Qa (Ql Qgl rfl (Box.at (h22893.ext he22929)))<|Qb rfl<|Qh rfl (Qfl Tryz.underlying132 Tryz.underlying9 rfl rfl rfl (h22894.ext he22929) ?_);intro wd22934 hc22935 hB22936;have h22937:=(h22889.ext he22929).step (Qp hc22935 Js);have h22940:=(h22892.ext he22929).step (Qp hc22935 Js) hc22935 (Xv hn22825);have h22941:=(h22893.ext he22929).chg hc22935 (QN hn282.symm);have h22942:=(h22895.ext he22929).step (Qp hc22935 Js);have h22943:=(hB22888.ext he22929).chg hc22935 (QN hn22876.symm);refine Qc<|Xq Xm (.p 0 (.p 1 (.p 2 (.p 3 (.p 5 (.p 7 (.p 8 (.p 9 (.p 11 (.q 4 (.q 6 (.q 10 (.q 12 (.p 13 (.m (.a 14 (.m (.a 15 (.m (.c 16 (.p 17 (.p 18 (.m (.c 19 .done .z)))) .z)) .z)) .z)))))))))))))))) (by kernel_rfl) rfl ?_;intro wd22952 he22953;have e22954:=(QS e22930 hc22935 (Xa e269 hb281)).trans he22953;refine Qm rfl rfl (fun w'=>(Qj hs22800))<|Qm rfl rfl (fun w'=>(Qj hs22800))<|Qn rfl (fun w'=>(XB rfl))<|Qn rfl (fun w'=>(Qs 1 Tryz.underlying135 ⟨0,Qay⟩ rfl rfl))<|Qn rfl (fun w'=>(Qs 3 Tryz.underlying182 ⟨0,Qyk⟩ rfl rfl))<|Qm rfl rfl (fun w'=>(Qj hs22802))<|Qm rfl rfl (fun w'=>(Qj hs22803))<|bnd h fun el23059 hel23060 h=>?_;have hq:=SlRd.at h22937 hel23060;obtain ⟨cs23063,hat23064,hrd23065⟩:=hq;obtain ⟨v23061,h23062,rfl⟩:=hrd23065;refine Qn rfl (fun w'=>(Xc Tryz.underlying133 QQs h22937 hel23060 rfl rfl))<|Qn rfl (fun w'=>(Qs 0 Tryz.underlying182 ⟨2,Qlh⟩ rfl rfl))<|QI rfl (fun w' hS=>(Ql Qgm rfl (At.drop (Box.at (h22941.ext (he22953.trans hS))) 1)))<|QI rfl (fun w' hS=>(Ql Qgk rfl (At.drop (Box.at (h22943.ext (he22953.trans hS))) 3)))<|QI rfl (fun w' hS=>(Ql QOn rfl (hat23064.ext' (he22953.trans hS))))<|QI rfl (fun w' hS=>(QL (At.take (Box.at (h22943.ext (he22953.trans hS))) 3) Qdj rfl)) ?_;have h23068:OpqRd ((pt b22870)::v22814::(pt b277)::(pt b278)::L) wd22952 v23061 Opq.mk:=(h23062.ext he22953).one1;refine Qn rfl (fun w'=>(XC Qsi (Qy rfl (Q6 h22942.one1) (Qy rfl (Q6 h23062.one1) (Qy rfl rfl QR))) rfl))<|QF<|QC rfl (XQ (cs:=[v22863,v23061,(Iv el22861.Ny.Kind),(Iv el22861.Ny.A),(Iv el22861.Ny.B)]) rfl rfl ?_);intro b23070 wd23071 hb23072 he23073 hB23074;have hn23076:b23070≠b278:=Z3 (hB22936.ext he22953).lt hb23072;have hn23078:=YS (h22940.ext he22953) hb23072;have e23080:=he22953.trans he23073;have e23081:=e22954.trans he23073;refine ⟨he23073,QF ?_⟩;have h23083:PtRd ((pt b22870)::v22814::(pt b277)::(pt b278)::L) wd23071 (pt b23070) (some (Np.mk el22861.line Opq.mk el22861.Ny)):=PtRd.of_box hB23074 (Avoids.cons (Avoids.cons (Avoids.cons (Avoids.cons (Qan hL (Xa e22954 hb23072)) (Qff hn23076.symm)) (Qff (Xh (h22941.ext he22953) hb23072).symm)) hn23078) (Qff (Xh (h22943.ext he22953) hb23072).symm)) ⟨v22863,v23061,(h22942.ext e23080),(h23068.ext he23073),rfl⟩;refine QC rfl (XR (xs:=([(some (Np.mk el22861.line Opq.mk el22861.Ny))]:List (Option Np))) Tryz.underlying133 Qng rfl (Qy rfl (Q6 h23083.one1) QR) rfl (Elems.cons (cs:=[(pt b23070)]) ⟨(pt b23070),h23083,rfl⟩ Elems.nil) rfl (QO (Yw (QO (Qau (hL.chg e23081) (hB22936.ext e23080).lt) (h22941.ext e23080)) (h22940.ext e23080)) (h22943.ext e23080)) ?_);intro b23088 wd23085 he23086 h23087;have e23089:=e23080.trans he23086;have e23091:=e23081.trans he23086;refine ⟨he23086,XH<|bnd h fun zs23109 hz23110 h=>XF rfl (JF Tryz.underlying133 Qng rfl rfl rfl rfl ((h22940.ext e23089).sub Jy) (h23087.sub Jy) hz23110 ?_)⟩;intro v23111 wd23112 hc23113 hbl23114 h23115;have hn23117:=XP hbl23114 hn22824 (h22941.ext e23089);have hn23118:Qq v23111≠some b278:=Qox hbl23114 hn22825 (hB22936.ext e23089).lt;refine Qn rfl (fun w'=>(XB rfl))<|Qn rfl (fun w'=>(Qs 1 Tryz.underlying135 ⟨0,Qay⟩ rfl rfl))<|XH<|XF rfl (Jq (cs':=[(.map (some b278)),v23111]) Qay (Q6 h23115.one1) rfl rfl rfl ((h22941.ext e23089).chg hc23113 (Xl hn22824)) rfl (Qi h23115.one1 QH) rfl ?_);intro wd23141 hc23142 hB23143;refine Q5<|hK22859 _ _<|QB<|Qa (QK hs22812 rfl)<|Qb rfl<|Qc ?_;replace h:=Qf h;subst h;refine hK22853 _ _ _ rfl ?_;exact ⟨w64 (x22811+1),zs23109,(ZF x22821 r22926),v23111,rfl,hs22800,hs22802,hs22803,hs22805,hs22806,hs22807,hs22809,hs22810,rfl,(((((h22937.ext e23089).sub Jy).step (Stepp.swap hc23113 hbl23114)).step (Qp hc23142 Zp)).sub J3),(((((((h22890.ext he22929).step (Qp hc22935 Js)).ext e23089).sub Jy).step (Stepp.swap hc23113 hbl23114)).step (Qp hc23142 Zp)).sub J3),(((((((h22891.ext he22929).step (Qp hc22935 Js)).ext e23089).sub Jy).step (Stepp.swap hc23113 hbl23114)).step (Qp hc23142 Zp)).sub J3),hB23143,(((hB22936.ext e23089).chg hc23113 (Xl hn22825)).chg hc23142 (QN hn282)),((h23115.step (Qp hc23142 Zp) hc23142 (Xv hn23117)).sub J3),(XX hbl23114 hf22818 e23091.size),hn23117,hn23118,(QS (XW e23091 hc23113 hf22818) hc23142 hbf293)⟩
        ·refine Qw<|hK22859 _ _<|QB<|Qa (QK hs22812 rfl)<|Qb rfl<|Qc ?_;replace h:=Qf h;subst h;refine hK22853 _ _ _ rfl ?_;exact ⟨w64 (x22811+1),x22815,x22821,v22814,rfl,hs22800,hs22802,hs22803,hs22805,hs22806,hs22807,hs22809,hs22810,rfl,((h22889.ext he22929).sub Qgz),((h22890.ext he22929).sub Qgz),((h22891.ext he22929).sub Qgz),(h22893.ext he22929),(h22894.ext he22929),((h22892.ext he22929).sub Qgz),hf22818,hn22824,hn22825,e22930⟩
       ·refine Xk ?_;replace h:=Qf h;subst h;obtain rfl:=hx22852 _ rfl;refine hK22854 _ _ ?_;exact ⟨x22815,x22821,v22814,rfl,hs22800,hs22802,hs22805,hs22806,hs22807,h22801,h22804,hB22820,hB22823,h22817,hf22818,hn22824,hn22825,e22799⟩
      ·rintro ρ wd22826 ⟨x22837,x22843,v22836,rfl,hs22828,hs22830,hs22832,hs22833,hs22834,h22829,h22831,hB22842,hB22845,h22839,hf22840,hn22846,hn22847,e22827⟩;replace h:=hn22850;refine hK21789 _ _<|QB<|Qa (QK hs22834 rfl)<|Qb rfl<|Qc ?_;replace h:=Qf h;subst h;refine hK21783 _ _ _ rfl ?_;exact ⟨w64 (x21743+1),x22837,x22843,v22836,rfl,hs22828,hs22830,hs22832,hs22833,rfl,h22829,h22831,hB22842,hB22845,h22839,hf22840,hn22846,hn22847,e22827⟩
     ·refine Xk ?_;replace h:=Qf h;subst h;obtain rfl:=hx21782 _ rfl;refine hK21784 _ _ ?_;exact ⟨x21747,x21753,v21746,rfl,hB21752,hB21755,h21749,hf21750,hn21756,hn21757,e21736⟩
    ·rintro ρ wd21763 ⟨x21767,x21773,v21766,rfl,hB21772,hB21775,h21769,hf21770,hn21776,hn21777,e21764⟩;replace h:=hn21780;refine ⟨[],trivial,?_⟩;refine Qc ?_;replace h:=Qf h;subst h;refine hK17467 _ _ _ rfl ?_;exact ⟨x21767,x21773,v21766,rfl,hs17432,hB21772,hB21775,h21769,hf21770,hn21776,hn21777,e21764⟩
   ·refine Xk ?_;replace h:=Qf h;subst h;obtain rfl:=hx17466 _ rfl;refine hK17468 _ _ ?_;exact ⟨x17435,x17441,v17434,rfl,hs17432,hB17440,hB17443,h17437,hf17438,hn17444,hn17445,e17431⟩
  ·rintro ρ wd17446 ⟨x17451,x17457,v17450,rfl,hs17448,hB17456,hB17459,h17453,hf17454,hn17460,hn17461,e17447⟩;replace h:=hn17464;refine hK309 _ _<|Qg fun K23163 hK23163=>Qd<|Qb hs17448<|Qa (XB rfl)<|Qa (Qs 0 Tryz.underlying135 ⟨0,Qhc⟩ rfl rfl)<|Qa (Ql Qgl rfl (Box.at hB17456))<|Qa (Qrg rfl Tryz.underlying132 rfl hB17459)<|Qa (X4 rfl rfl)<|Qc<|Qx h rfl (fun _ h=>?_) (fun _ h=>?_)
   ·refine Qd<|Qe rfl<|Qe rfl<|Qc<|Qr ?_;replace h:=Qf h;subst h;exact ⟨[_,_],⟨rfl,rfl,trivial⟩,e17447,rfl⟩
   ·refine Qw<|hK23163 _ _<|Qd<|Qb hs17448<|Qa (XB rfl)<|Qa (Qs 0 Tryz.underlying135 ⟨0,Qhc⟩ rfl rfl)<|Qa (Ql Qgl rfl (Box.at hB17456))<|Qa (Qrg rfl Tryz.underlying132 rfl hB17459)<|Qe rfl<|Qe rfl<|Qc<|Qr ?_;replace h:=Qf h;subst h;exact ⟨[_,_],⟨rfl,rfl,trivial⟩,e17447,rfl⟩

noncomputable def Qny:Option Bool:=(Option.bind (Qnx) fun r3=>(Option.bind (Qbp r3) fun r22=>(Option.bind (Qnx) fun r31=>(Option.bind (Qtw) fun r51=>(Option.bind (Quc r31 r51) fun r61=>(Option.bind (Qud (Ns.mk 1 0 0) 5) fun r114=>(Option.bind (Qub (Nd.mk ([(ByteArray.mk #[97])]:List ByteArray) ([(ByteArray.mk #[116])]:List ByteArray) [] [])) fun r174=>(Option.bind (bif (((decide (r22.2=0))&&(decide ((r22.1.length:Int)=3)))&&(decide (r61.2.2=0))) then Qiu (Nj.mk r61.1.Nf r61.1.Ng r61.1.Nu) else some default) fun r182=>some ((((((((decide (r22.2=0))&&(decide ((r22.1.length:Int)=3)))&&(decide (r61.2.2=0)))&&(decide (r182=(ByteArray.mk #[48,32,48,32,49,58,48,44,49,32,45]))))&&(decide (r114.2=0)))&&(decide ((Nx.mk r114.1.e0 r114.1.e1 r114.1.e2 r114.1.e3 r114.1.e4)=(Nx.mk 1 0 0 5 31))))&&(decide (r174.2=0)))&&(decide (r174.1=2))) ) ) ) ) ) ) ) )
theorem QGe {L:List Value} {w:World} (hL:LtL L w) {r:Bool} (h:Qny=some r):CallsTo Tryz.prog 6 [] w (fun v w'=>Ext w w'/\(.bool r)=v):=by
 have e0:=Q1 w;refine QV (n:=67) (rs:=[.tmp 0]) Tryz.func6 rfl rfl rfl rfl rfl<|QG rfl<|Qd<|bnd h fun r3 hr4 h=>Qh rfl (Qt Tryz.func31 Qvj rfl ev0 (Qtx (hL.chg e0) hr4) ?_);rintro _ wd5 ⟨he6,cs15,rfl,hrd16⟩;have e17:=e0.trans he6;obtain ⟨v7,v9,v11,v13,h8,h10,h12,h14,rfl⟩:=hrd16;refine bnd h fun r22 hr23 h=>Qh rfl (Qt Tryz.func22 Qvh rfl (QM rfl) (@Qtz _ L _ (hL.chg e17) [v7,v9,v11,v13] r3 ⟨v7,v9,v11,v13,h8,h10,h12,h14,rfl⟩ r22 hr23) ?_);rintro _ wd24 ⟨he25,v26,rfl,h27⟩;have e28:=e17.trans he25;refine Qb rfl<|Qa (Xg rfl rfl)<|Qa (Xg rfl rfl)<|Qe rfl<|Qe rfl<|Qc<|Qd<|bnd h fun r31 hr32 h=>Qh rfl (Qt Tryz.func31 Qvj rfl ev0 (Qtx (hL.chg e28) hr32) ?_);rintro _ wd33 ⟨he34,cs43,rfl,hrd44⟩;have e46:=e28.trans he34;have hS0:=hrd44;obtain ⟨v35,v37,v39,v41,h36,h38,h40,h42,rfl⟩:=hrd44;refine bnd h fun r51 hr52 h=>Qh rfl (Qt Tryz.func32 QKg rfl ev0 (QGd (hL.chg e46) hr52) ?_);rintro _ wd53 ⟨he54,v55,rfl,h56⟩;have e59:=e46.trans he54;refine bnd h fun r61 hr62 h=>Qh rfl (Qt Tryz.func18 QJz rfl (QT rfl rfl) (QHd (hL.chg e59) (hS0.ext he54) h56 hr62) ?_);rintro _ wd63 ⟨he64,cs69,rfl,hrd70⟩;have e74:=e59.trans he64;obtain ⟨v65,v67,h66,h68,rfl⟩:=hrd70;refine Qb rfl<|Qa (Xg rfl rfl)<|Qa (Xg rfl rfl)<|Qa (Xg rfl rfl)<|Qh rfl (Xs Qeu ?_);intro b77 wd78 hb79 he80 hB81;have h93:=h66.step (Qu he80 hb79);have h94:=h68.step (Qu he80 hb79);refine Qh rfl (Q3 YL rfl rfl rfl rfl hB81 rfl (Qi h93.one1 (Qi h94.one1 (Qi rfl QH))) rfl ?_);intro wd97 hc98 hB99;refine Qe rfl<|Qe rfl<|Qc<|Qd<|Qa (XC Qhv (Qy rfl rfl QR) rfl)<|bnd h fun r114 hr115 h=>Qh rfl (Qt Tryz.func7 nm7 rfl (QT rfl rfl) (@QHg _ [] _ (LtL.nil _) [(Iv 1),(Iv 0),(Iv 0)] (Ns.mk 1 0 0) rfl 5 r114 hr115) ?_);rintro _ wd116 ⟨he117,cs118,rfl,hrd119⟩;have e120:=(QS (e74.trans he80) hc98 (Xa e74 hb79)).trans he117;cases hrd119;refine Qb rfl<|Qa (Xg rfl rfl)<|Qa (Xg rfl rfl)<|Qh rfl (Xs Qev ?_);intro b121 wd122 hb123 he124 hB125;refine Qh rfl (Q3 Qli rfl rfl rfl rfl hB125 rfl (Qi rfl (Qi rfl (Qi rfl (Qi rfl (Qi rfl QH))))) rfl ?_);intro wd143 hc144 hB145;have h158:=(hB99.ext (he117.trans he124)).chg hc144 (QN (Xh (hB99.ext he117) hb123));have e159:=QS (e120.trans he124) hc144 (Xa e120 hb123);refine Qe rfl<|Qc<|Qd<|Qh rfl (XR (xs:=([(ByteArray.mk #[97])]:List ByteArray)) Tryz.underlying22 Z0 rfl (Qy rfl rfl QR) rfl (Elems.cons (cs:=[(.string (ByteArray.mk #[97]))]) rfl Elems.nil) rfl (QO (QO (hL.chg e159) h158) hB145) ?_);intro b164 wd161 he162 h163;have e165:=e159.trans he162;refine Qh rfl (XR (xs:=([(ByteArray.mk #[116])]:List ByteArray)) Tryz.underlying22 Z0 rfl (Qy rfl rfl QR) rfl (Elems.cons (cs:=[(.string (ByteArray.mk #[116]))]) rfl Elems.nil) rfl (QO (QO (hL.chg e165) (h158.ext he162)) (hB145.ext he162)) ?_);intro b170 wd167 he168 h169;refine Qa (XC Zt (Qy rfl (Q6 h163.one1) (Qy rfl (Q6 h169.one1) QR)) rfl)<|bnd h fun r174 hr175 h=>Qh rfl (Qt Tryz.func33 QKh rfl (QM rfl) (@QGz [] _ (LtL.nil _) [(.slice (some ⟨b164,0,none⟩) 1 1),(.slice (some ⟨b170,0,none⟩) 1 1),Sno,Sno] (Nd.mk ([(ByteArray.mk #[97])]:List ByteArray) ([(ByteArray.mk #[116])]:List ByteArray) [] []) ⟨(.slice (some ⟨b164,0,none⟩) 1 1),(.slice (some ⟨b170,0,none⟩) 1 1),Sno,Sno,((h163.ext he168).sub (fun _ h=>by cases h)),(h169.sub (fun _ h=>by cases h)),(SlRd.nil _ _),(SlRd.nil _ _),rfl⟩ r174 hr175) ?_);rintro _ wd176 ⟨he177,rfl⟩;have e178:=(he162.trans he168).trans he177;refine Qb rfl<|Qa (Xg rfl rfl)<|Qa (Xg rfl rfl)<|Qe rfl<|Qe rfl<|Qc<|Qd<|Qb rfl<|Qa (Xy rfl rfl)<|Qb rfl<|QA (Qz rfl) (fun hg=>(Qj rfl))<|QA (Qz rfl) (fun hg=>(QQ rfl Tryz.underlying64 ((((((h27.ext ((he34.trans he54).trans he64)).step (Qu he80 hb79)).step (Qp hc98 Qv)).ext he117).step (Qu he124 hb123)).step (Qp hc144 Qv)) (Qo hg)))<|QA (Qz rfl) (fun hg=>(Xy (Qo hg) rfl))<|Qa (XU rfl (fun hb=>(Qo hb)) rfl)<|Qb rfl<|QA (Qz rfl) (fun hg=>(Qj rfl))<|QA (Qz rfl) (fun hg=>(Xy (Qo hg) rfl))<|Qa (XU rfl (fun hb=>(Qo hb)) rfl)<|Qb rfl<|QA (Qz rfl) (fun hg=>(QL (Box.at (h158.ext e178)) JB rfl))<|bnd h fun r182 hr183 h=>Qrm _ (.string r182) (Qz rfl) (fun hg=>Qt Tryz.func34 Qpd rfl (QM (Qo hg)) (@Qoh _ [] _ (LtL.nil _) [v65,v67,(Iv r61.1.Nu)] (Nj.mk r61.1.Nf r61.1.Ng r61.1.Nu) ⟨v65,v67,((((((h93.step (Qp hc98 Qv)).ext he117).step (Qu he124 hb123)).step (Qp hc144 Qv)).ext e178).sub (fun _ h=>by cases h)),((((((h94.step (Qp hc98 Qv)).ext he117).step (Qu he124 hb123)).step (Qp hc144 Qv)).ext e178).sub (fun _ h=>by cases h)),rfl⟩ r182 (XA hg hr183)) (by rintro _ wd184 ⟨he185,rfl⟩;exact ⟨rfl,he185⟩)) ?_;intro wd184 he185;refine QA (Qz rfl) (fun hg=>(Qhi (Qo hg) rfl))<|Qa (XU rfl (fun hb=>(Qo hb)) rfl)<|Qb rfl<|QA (Qz rfl) (fun hg=>(Qj rfl))<|QA (Qz rfl) (fun hg=>(Xy (Qo hg) rfl))<|Qa (XU rfl (fun hb=>(Qo hb)) rfl)<|Qb rfl<|QA (Qz rfl) (fun hg=>(QL (Box.at (hB145.ext (e178.trans he185))) Qfb rfl))<|QA (Qz rfl) (fun hg=>(Qer Tryz.underlying34 QU Qev (Qy rfl rfl (Qy rfl rfl (Qy rfl rfl (Qy rfl rfl (Qy rfl rfl QR))))) rfl))<|QA (Qz rfl) (fun hg=>(QTa QCz (Qo hg) (Qo hg) (QDi (Nx.mk r114.1.e0 r114.1.e1 r114.1.e2 r114.1.e3 r114.1.e4) (Nx.mk 1 0 0 5 31))))<|Qa (XU rfl (fun hb=>(Qo hb)) rfl)<|Qb rfl<|QA (Qz rfl) (fun hg=>(Qj rfl))<|QA (Qz rfl) (fun hg=>(Xy (Qo hg) rfl))<|Qa (XU rfl (fun hb=>(Qo hb)) rfl)<|Qb rfl<|QA (Qz rfl) (fun hg=>(Qj rfl))<|QA (Qz rfl) (fun hg=>(Xy (Qo hg) rfl))<|Qa (XU rfl (fun hb=>(Qo hb)) rfl)<|Qe rfl<|Qc<|Qr ?_;replace h:=Qf h;subst h;exact ⟨[_],⟨rfl,trivial⟩,(((e165.trans he168).trans he177).trans he185),rfl⟩

end Go.Gw

end
