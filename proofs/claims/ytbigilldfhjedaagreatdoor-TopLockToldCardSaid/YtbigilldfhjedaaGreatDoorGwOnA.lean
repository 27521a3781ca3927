/- Laws of the walk. Condition: each theorem says its own. -/
import Derived.Test.YtbigilldfhjedaaGreatDoorGwFnZ
import Derived.Test.YtbigilldfhjedaaGreatDoorGwFacts2
import Derived.Test.YtbigilldfhjedaaGreatDoorGwCj21
import Derived.Test.YtbigilldfhjedaaGreatDoorGwWg9
import Derived.Test.YtbigilldfhjedaaGreatDoorGwVd
import Derived.Test.YtbigilldfhjedaaGreatDoorGwLib5
import Derived.Test.YtbigilldfhjedaaGreatDoorGwLib23
set_option linter.unusedVariables false
set_option linter.unusedSimpArgs false
set_option linter.unusedSectionVars false
open Option renaming bind→Ea
open Go.Gw.Avoids renaming cons→Eb,nil→Ee
open Nat renaming mul_one→Ec,le_trans→Ed,zero_add→Ef
section
set_option maxRecDepth 100000
set_option maxHeartbeats 8000000
set_option linter.unusedVariables false
set_option linter.unusedSectionVars false
namespace Go.Gw
open Go Go.Conc Go.Proofs
attribute [local irreducible] T0 TS TT TP TX TZ Eff Stp WC Quiet gd
theorem QBz:Xi Tryz.prog 174 1:=Yo (by kernel_rfl)
theorem QBo:YO Tryz.prog 174:=⟨_,Tryz.underlying174,trivial⟩
theorem QSm:YO Tryz.prog 122:=⟨_,Tryz.underlying122,trivial⟩
theorem QTg:Xi Tryz.prog 122 1:=Yo (by kernel_rfl)
theorem QSn:YO Tryz.prog 177:=⟨_,Tryz.underlying177,trivial⟩
theorem QBy:Xi Tryz.prog 188 1:=Yo (by kernel_rfl)
def Qdn (L:List Value) (x:List Nt):Value->World->Prop:=fun v w=>SlRd L w v x
def J2:Code->Code
 | .seq _ y=>y
 | c=>c
def Qtw:Code->Array Oper
 | .region _ o _=>o
 | _=>#[]
noncomputable def Qnh (Wg:Nat):List Deferred:=[dcall 115 #[.pointer (some ⟨Wg,0,none⟩)]]
theorem Q0g {P:Program} [JD P] {n:Nat} {ρ:Env} {w:World} {d:Option Nat} {t T:TypeId} {p:String} {af:Array Edge} {gu:Option (Nat×Bool)} {x y:Operand} {e C m cap j:Nat} {kk:IntKind} (hu:P.underlying T=some (.slice e)) (hs:Xi P e 1) (h1:j < m) (hx:Qm n ρ x=.slice (some ⟨C,0,none⟩) m cap) (hy:Qm n ρ y=.int kk (j:Int)) :
  Yl P n ρ ⟨d,.indexAddr T x y,t,p,af,gu⟩ w (.pointer (some ⟨C,j,none⟩)):=by
 have h2:(j:Int) < (m:Int):=by omega
 have e1:Addr.add ⟨C,0,none⟩ j=⟨C,j,none⟩:=by rw [YP,Ef]
 exact YL (X0 (Qox _ _ _)) fun w1 _=>by simp [execOp,hx,hy,Instr.indexAt,asIntOf,run_underlying hu,Instr.sureAddr,h1,YW hs,e1]
theorem QOx {Wg:Nat} {a:Act} {ops:Array Oper}:LW Tryz.prog 187 Wg 1018 .A (G ((baseD 114).at (wD (Qnh Wg) a) [.inRegion ops []]) [bot Tryz.prog]):=by
 refine ⟨rfl,.inl fun W _=>⟨_,stepG_region_end,?_⟩⟩;refine ⟨rfl,.inl fun W _=>⟨_,stepG_end,?_⟩⟩;refine ⟨rfl,.inl fun W _=>⟨_,stepG_unwind_enter (f:=115) (args:=#[.pointer (some ⟨Wg,0,none⟩)]) (ds:=[]) rfl lkLib.f_done (by kernel_rfl) rfl,?_⟩⟩;exact QOw lkLib (qt:=2) rfl (QTm Tryz.func114 rfl rfl)
theorem QSq {Z:Nat->Prop} {C Wg:Nat} {L:List Value} {w:World} (hL:LtL L w) {b2 b4 b5 k cap n:Nat} {pn:Value} {nd:Nv} {x:List Nt}
    (h2:RowAt w b2 [.slice (some ⟨C,0,none⟩) n cap]) (h4:RowAt w b4 [.int .i64 k]) (h5:RowAt w b5 [pn]) (hp:PtRd L w pn (some nd)) (hk:k < n) (hs:Qmj nd.line=some x) :
    Wlk (Jw Tryz.prog Z) (fun g w=>∃ m,Qdo Tryz.prog 187 Wg C k (Qdn L x) m g w) (born Tryz.prog { target:=.fn (.func 114) #[.pointer (some ⟨Wg,0,none⟩),.pointer (some ⟨b5,0,none⟩),.pointer (some ⟨b2,0,none⟩),.pointer (some ⟨b4,0,none⟩)],args:=#[] }) w:=by
  letI:JD Tryz.prog:=⟨Jw Tryz.prog Z⟩
  obtain ⟨bn,rfl,hpn⟩:=hp.is;refine .ctl rfl (fun W=>QWf Tryz.func114 (by kernel_rfl) rfl) ?_;have e:=Qfi [.pointer (some ⟨Wg,0,none⟩),.pointer (some ⟨b5,0,none⟩),.pointer (some ⟨b2,0,none⟩),.pointer (some ⟨b4,0,none⟩)] 12 (by simp);refine Eq.subst (motive:=fun a=>Wlk (Jw Tryz.prog Z) (fun g w=>∃ m,Qdo Tryz.prog 187 Wg C k (Qdn L x) m g w) (G ((baseD 114).at a [.code _]) [bot Tryz.prog]) w) e.symm ?_;refine .ctl rfl (fun W=>stepG_seq) ?_;refine .ctl rfl (fun W=>stepG_region) ?_;refine .ctl rfl (fun W=>stepG_defer rfl rfl (by simp [baseD]) rfl) ?_;refine .ctl rfl (fun W=>stepG_region_end) ?_;have eD:dcall 115 (Array.map (act 12 (fun i=>[Value.pointer (some ⟨Wg,0,none⟩),.pointer (some ⟨b5,0,none⟩),.pointer (some ⟨b2,0,none⟩),.pointer (some ⟨b4,0,none⟩)].getD i undef)).eval #[Operand.tmp 0])=dcall 115 #[.pointer (some ⟨Wg,0,none⟩)]:=by
    rw [Qak];simp only [List.map_toArray,List.map_cons,List.map_nil];rfl
  rw [eD];show Wlk (Jw Tryz.prog Z) (fun g w=>∃ m,Qdo Tryz.prog 187 Wg C k (Qdn L x) m g w) (G ((baseD 114).at (wD (Qnh Wg) (act 12 (fun i=>[Value.pointer (some ⟨Wg,0,none⟩),.pointer (some ⟨b5,0,none⟩),.pointer (some ⟨b2,0,none⟩),.pointer (some ⟨b4,0,none⟩)].getD i undef))) [.code (J2 (Tryz.f114.body.getD .skip))]) [bot Tryz.prog]) w;refine QZc (n:=12) (j:=8) (ds:=Qnh Wg) (fun w0 w'=>Ext w0 w') XI [(0,false),(1,false),(2,false),(3,false),(4,false),(5,false),(6,true),(7,false)] (by kernel_rfl) (fun w=>Chg.refl _ _) (by simp [baseD])
    (Kt:=fun ρ' w'=>ρ' 11=.pointer (some ⟨C,k,none⟩)/\SlRd L w' (ρ' 10) x) ?_ (fun ρ' w' ⟨k1,k2⟩=>.stop fun w1 r1=>⟨1018,rfl,G ((baseD 114).at (wD (Qnh Wg) (act 12 ρ')) [.inRegion (Qtw (J2 (Tryz.f114.body.getD .skip))) []]) [bot Tryz.prog],ρ' 10,fun W cs e hC hkc=>?_,QOx,fun w2 r2=>k2.step (Stepp.ext (r1.trans r2).ext)⟩)
  · have e0:Ext w { w with drawn:=w.drawn+1 }:=Ext.drew w;generalize ({ w with drawn:=w.drawn+1 }:World)=w0 at e0 ⊢;refine Qdq (v:=.slice (some ⟨C,0,none⟩) n cap) rfl rfl (fun w' hS=>Qk QSn rfl (h2.at.ext (e0.trans hS))) ?_;refine Qdq (v:=.int .i64 k) rfl rfl (fun w' hS=>Qk Q0 rfl (h4.at.ext (e0.trans hS))) ?_;refine Qdq (v:=.pointer (some ⟨bn,0,none⟩)) rfl rfl (fun w' hS=>Qk QBo rfl (h5.at.ext (e0.trans hS))) ?_;refine Qdq (v:=.pointer (some ⟨bn,0,none⟩)) rfl rfl (fun w' hS=>Ys rfl) ?_;refine Qdq (v:=.pointer (some ⟨bn,0,none⟩)) rfl rfl (fun w' hS=>ZB 0 Tryz.underlying176 rfl rfl ⟨0,QTg⟩ rfl rfl) ?_;obtain ⟨cs0,hat,v1,v2,h1,h2',rfl⟩:=hpn.at;refine Qdq (v:=v1) rfl rfl (fun w' hS=>Qk QSm rfl (hat.ext (e0.trans hS))) ?_;refine QFq rfl rfl (Qq Tryz.func116 (by kernel_rfl) rfl (QH rfl) (QOd (hL.chg e0) (h1.ext e0) hs) ?_);rintro _ w2 ⟨e2,v,rfl,hrd⟩;refine ⟨e2,?_⟩;refine Qdq (v:=.pointer (some ⟨C,k,none⟩)) rfl rfl (fun w' hS=>Q0g Tryz.underlying177 QBy hk rfl rfl) ?_;exact QFr ⟨rfl,hrd⟩
  · obtain ⟨q,c,hv,_⟩:=k2.shape;refine QWg (ad:=⟨C,k,none⟩) (v:=ρ' 10) (u:=cs[k]) rfl rfl (by simp [baseD]) rfl rfl QBy (by rw [Qvz,Qak];exact k1) (by rw [Qvz,Qak];rfl) ⟨q,_,c,hv⟩ (by kernel_rfl) (by simp [World.cell?,hC,hkc]) (by simp [World.frozen?,hC])
end Go.Gw

end
section
set_option maxRecDepth 100000
set_option maxHeartbeats 8000000
set_option linter.unusedVariables false
set_option linter.unusedSectionVars false
namespace Go.Gw
open Go Go.Conc Go.Proofs
attribute [local irreducible] T0 TS TT TP TX TZ Eff Stp WC Quiet gd
section
variable {P:Program}
theorem QW.go {ty:TypeId} {Wg C N Low:Nat} {et:TypeId} {cs0:Array Value} {S:Goroutine->World->Prop} {Z:Nat->Prop} {orig:Nat->Option Obj} {O:List (Nat×(Value->World->Prop))} {b:Frame} {a:Act} {kk:List Item} {cs:List Frame} {ops:Array Oper} {i:Nat} {rest:List Nat} {o:Oper} {cl:Call} {f:FuncId} {caps:Array Value} {w:World}
  (K:Nat->Prop) (k:Nat) (φ:Value->World->Prop) (ho:ops[i]?=some o) (hop:o.op=.go cl) (hw:Region.wanted o (yielded ops a.tmps)=true) (hb:b.kind≠.early) (hd:∀ W,(resolve a.eval cl o.type).run P W=.ok { target:=.fn (.func f) caps,args:=#[] } W) (hde:∀ W,(resolve a.eval cl o.type).events P W #[]=#[])
  (hdst:o.dst=none) (hk:k < N) (hkO:∀ p∈O,p.1≠k)
  (hC:∀ w1,Rel w w1->Rows K w1) (hW:∀ w1,Rel w w1->Wlk (Jw P fun b=>Z b\/K b) (fun g w=>∃ m,Qdo P ty Wg C k φ m g w) (born P { target:=.fn (.func f) caps,args:=#[] }) (hid (fun b=>Z b\/K b) (frz K w1)))
  (hn:∀ w1,Rel w w1->QW P ty Wg C N Low et cs0 S 0 (fun b=>Z b\/K b) (Qbl Z K w1 orig) (O++[(k,φ)]) (G (b.at a (.inRegion ops rest::kk)) cs) (frz K w1)):QW P ty Wg C N Low et cs0 S 1 Z orig O (G (b.at a (.inRegion ops (i::rest)::kk)) cs) w:=by
 refine .fork _ _ K k φ rfl (fun W=>?_) hk hkO hC hW hn;have hrun:(execOp a.eval o).run P W=.ok (.spawn { target:=.fn (.func f) caps,args:=#[] }) W:=by simp [execOp,hop,hd]
 have hev:listed P b.fn a o W=#[]:=by
  simp_all [seen_none,execOp,listed]
 rw [stepG_spawn ho hw hb hrun rfl,hev,hdst];rfl
theorem QDl {main:Bool} {b:Frame} {a:Act} {kk:List Item} {cs:List Frame} {ops:Array Oper} {i:Nat} {rest:List Nat} {o:Oper} {f:FuncId} {fn:Func} {c:Code} {args:Array Operand} {ats:Array TypeId} (W:World)
    (ho:ops[i]?=some o) (hw:Region.wanted o (yielded ops a.tmps)=true) (hk:b.kind≠.early) (hop:o.op=.call { callee:=.value (.func f),args,argTypes:=ats })
    (hf : P.funcs[f]? = some fn) (hname : (fn.name == "runtime.NumGoroutine") = false) (hb : fn.body = some c) :
    stepG P main (G (b.at a (.inRegion ops (i::rest)::kk)) cs) W=.go (G ((base f).at { tmps:=args.map a.eval++Array.replicate (fn.ntmps - (args.map a.eval).size) undef,defers:=[] } [.code c]) (b.at a (.inRegion ops (i::rest)::kk)::cs)) W #[]:=by
  have hb':fn.body.isNone=false:=by rw [hb];rfl
  rw [stepG_enter ho hw hk (run_call_body hop hf hname hb'),enter_at _ hf hb]
  grind [listed,events_call_body,seen_none]
end
section
variable {Wg C N Low:Nat} {et:TypeId} {cs0:Array Value} {S:Goroutine->World->Prop} {Z:Nat->Prop} {orig:Nat->Option Obj} {O:List (Nat×(Value->World->Prop))} {b:Frame} {a:Act} {kk:List Item} {cs:List Frame} {ops:Array Oper} {i:Nat} {rest:List Nat} {o:Oper} {w:World} {args:Array Operand} {ats:Array TypeId}
theorem QW.addc (ho:ops[i]?=some o) (hw:Region.wanted o (yielded ops a.tmps)=true) (hk:b.kind≠.early) (hop:o.op=.call { callee:=.value (.func 113),args,argTypes:=ats }) (ha:args.map a.eval=#[.pointer (some ⟨Wg,0,none⟩),.int .i64 1])
  (h:∀ w1,Rel w w1->QW Tryz.prog 187 Wg C N Low et cs0 S 1 Z orig O (G (b.at (a.put ((ops[i]?).bind (·.dst)) (.tuple #[])) (.inRegion ops rest::kk)) cs) w1):QW Tryz.prog 187 Wg C N Low et cs0 S 0 Z orig O (G (b.at a (.inRegion ops (i::rest)::kk)) cs) w:=by
 refine QW.of (.ctl rfl (fun W=>QDl (c:=ConcR.Gen.body_add lkLink) W ho hw hk hop lkLib.f_add (by kernel_rfl) (by kernel_rfl)) (.stop fun w1 r1=>?_));refine .add _ 1000 rfl ?_ (fun w2 r2=>h w2 (r1.trans r2));rw [ha];refine Eq.subst (motive:=fun T=>MA Tryz.prog 187 Wg (G (b.at (a.put ((ops[i]?).bind (·.dst)) (.tuple #[])) (.inRegion ops rest::kk)) cs) 1000 .K (G ((base 113).at ⟨T,[]⟩ [.code (ConcR.Gen.body_add lkLink)]) (b.at a (.inRegion ops (i::rest)::kk)::cs))) ?_ (QOy lkLib)
 kernel_rfl
theorem QW.waitc (ho:ops[i]?=some o) (hw:Region.wanted o (yielded ops a.tmps)=true) (hk:b.kind≠.early) (hop:o.op=.call { callee:=.value (.func 117),args,argTypes:=ats }) (ha:args.map a.eval=#[.pointer (some ⟨Wg,0,none⟩)])
  (h:∀ w1 w' cs',Rel w w1->FullG C N Low cs0 O w1 w' cs'->S (G (b.at (a.put ((ops[i]?).bind (·.dst)) (.tuple #[])) (.inRegion ops rest::kk)) cs) (thaw Z orig (J1 C cs' et w'))):QW Tryz.prog 187 Wg C N Low et cs0 S 0 Z orig O (G (b.at a (.inRegion ops (i::rest)::kk)) cs) w:=by
 refine QW.of (.ctl rfl (fun W=>QDl (c:=ConcR.Gen.body_wait lkLink) W ho hw hk hop lkLib.f_wait (by kernel_rfl) (by kernel_rfl)) (.stop fun w1 r1=>?_));refine .wait (AnW lkLink Wg (b.at a (.inRegion ops (i::rest)::kk)::cs)) _ 1000 1000 rfl (fun g ⟨T,hg,_⟩=>by rw [hg];rfl) rfl ?_ (fun g hg=>QPk lkLib g hg) (fun w2 w' cs' r2 hF=>h w2 w' cs' (r1.trans r2) hF);rw [ha];refine Eq.subst (motive:=fun T=>MW Tryz.prog 187 Wg (AnW lkLink Wg (b.at a (.inRegion ops (i::rest)::kk)::cs)) (G (b.at (a.put ((ops[i]?).bind (·.dst)) (.tuple #[])) (.inRegion ops rest::kk)) cs) 1000 .K (G ((base 117).at ⟨T,[]⟩ [.code (ConcR.Gen.body_wait lkLink)]) (b.at a (.inRegion ops (i::rest)::kk)::cs))) ?_ (QPl lkLib)
 kernel_rfl
end
end Go.Gw

end
section
set_option maxRecDepth 100000
set_option maxHeartbeats 8000000
set_option linter.unusedVariables false
set_option linter.unusedSectionVars false
namespace Go.Gw
open Go Go.Conc Go.Proofs
attribute [local irreducible] T0 TS TT TP TX TZ Eff Stp WC Quiet gd
theorem JQ {ρ:Env} {d i:Nat} {v:Value} (h:i < d):Xn ρ (some d) v i=ρ i:=by simp [Xn,upd,Qiq (Nat.ne_of_lt h)]
theorem QW.rely {P:Program} {ty:TypeId} {Wg C N Low:Nat} {et:TypeId} {cs0:Array Value} {S:Goroutine->World->Prop} {pd:Nat} {Z:Nat->Prop} {orig:Nat->Option Obj} {O:List (Nat×(Value->World->Prop))} {g:Goroutine} {w w1:World} (h:QW P ty Wg C N Low et cs0 S pd Z orig O g w) (r:Rel w w1):QW P ty Wg C N Low et cs0 S pd Z orig O g w1:=by
 cases h with
 | step nx hs h1 h2=>exact .step nx hs (fun w2 r2=>h1 w2 (r.trans r2)) (fun w2 r2=>h2 w2 (r.trans r2))
 | add gE m hs h1 h2=>exact .add gE m hs h1 (fun w2 r2=>h2 w2 (r.trans r2))
 | fork g' child K k φ hs h1 h2 h3 h4 h5 h6=>exact .fork g' child K k φ hs h1 h2 h3 (fun w2 r2=>h4 w2 (r.trans r2)) (fun w2 r2=>h5 w2 (r.trans r2)) (fun w2 r2=>h6 w2 (r.trans r2))
 | wait An gE m NA hs h1 h2 h3 h4 h5=>exact .wait An gE m NA hs h1 h2 h3 h4 (fun w2 w' cs r2 hF=>h5 w2 w' cs (r.trans r2) hF)
theorem QW.stop {P:Program} {ty:TypeId} {Wg C N Low:Nat} {et:TypeId} {cs0:Array Value} {S:Goroutine->World->Prop} {pd:Nat} {Z:Nat->Prop} {orig:Nat->Option Obj} {O:List (Nat×(Value->World->Prop))} {g:Goroutine} {w:World} {J:Jd P} (h:QW P ty Wg C N Low et cs0 S pd Z orig O g w):Wlk J (fun g w=>QW P ty Wg C N Low et cs0 S pd Z orig O g w) g w:=Wlk.stop fun w1 r=>h.rely r
theorem Qpb {ρ:Env} {d i:Nat} {v:Value} (h:i≠d):Xn ρ (some d) v i=ρ i:=by simp [Xn,upd,Qiq h]
theorem Q0y:ZI Tryz.prog 174 [.pointer none]:=Z1 (by kernel_rfl)
theorem Q1a:ZI Tryz.prog 3 [.int .i64 0]:=Z1 (by kernel_rfl)
noncomputable def Qfz:List (Option Nv)->Option (List (List Nt))
 | []=>some []
 | o::l=>Ea o fun n=>Ea (Qmj n.line) fun x=>Ea (Qfz l) fun r=>some (x::r)
noncomputable def Qto (ns:List (Option Nv)):Option (List (List Nt)):=bif ns.isEmpty then none else Qfz ns
theorem Qtn:∀ {ns:List (Option Nv)} {rs:List (List Nt)},Qfz ns=some rs->rs.length=ns.length/\∀ (k:Nat) (x:List Nt),rs[k]?=some x->∃ nd:Nv,ns[k]?=some (some nd)/\Qmj nd.line=some x
 | [],rs,h=>by cases h;exact ⟨rfl,fun k x h=>by simp at h⟩
 | o::l,rs,h=>by
  unfold Qfz at h;obtain ⟨nd,h1,h⟩:=XZ h;obtain ⟨x,h2,h⟩:=XZ h;obtain ⟨r,h3,h⟩:=XZ h;cases h;obtain ⟨h4,h5⟩:=Qtn h3;refine ⟨by simp [h4],fun k y hy=>?_⟩;cases k with
  | zero=>simp at hy;subst hy;exact ⟨nd,by simp [h1],h2⟩
  | succ k=>simp at hy;obtain ⟨nd',h6,h7⟩:=h5 k y hy;exact ⟨nd',by simpa using h6,h7⟩
def Quw:Code->Code
 | .seq x _=>x
 | c=>c
def lpO:Code->Code
 | .block _ (.loop c)=>c
 | c=>c
noncomputable def Qfy:Code:=J2 (Tryz.f81.body.getD .skip)
noncomputable def QBs:Code:=J2 (J2 (J2 Qfy))
noncomputable def LBo:Code:=lpO (J2 (Quw (J2 Qfy)))
noncomputable def posts (L:List Value) (rs:List (List Nt)) (j:Nat):List (Nat×(Value->World->Prop)):=(List.range j).map fun k=>(k,Qdn L (rs.getD k []))
theorem QTk {L:List Value} {rs:List (List Nt)} {j:Nat}:posts L rs (j+1)=posts L rs j++[(j,Qdn L (rs.getD j []))]:=by
 unfold posts;rw [List.range_succ,List.map_append];rfl
theorem QTj {L:List Value} {rs:List (List Nt)} {j:Nat}:∀ p∈posts L rs j,p.1≠j:=fun p hp e=>by
 unfold posts at hp;obtain ⟨k,hk,rfl⟩:=List.mem_map.1 hp;have:=List.mem_range.1 hk;simp only at e;omega
section
variable {L:List Value} {w0:World} {C cap b2:Nat} {v:Value} {ns:List (Option Nv)} {rs:List (List Nt)} {ρ0:Env}
structure On0 (L:List Value) (w0:World) (C cap b2:Nat) (v:Value) (ns:List (Option Nv)) (rs:List (List Nt)) (ρ0:Env):Prop where
 hL:LtL L w0
 hC:pt C∈L
 r2:ρ0 2=pt b2
 n2:b2≠C
 B2:RowAt w0 b2 [.slice (some ⟨C,0,none⟩) ns.length cap]
 hs:SlRd L w0 v ns
 hn:ns.length<=cap
 hm:ns.length<=1073741824
 rs:Qfz ns=some rs
theorem Qts {b:Nat}:pt b∈[pt b]:=List.mem_singleton.2 rfl
theorem QLc (hP:On0 L w0 C cap b2 v ns rs ρ0) {Wg Low N:Nat} (hN:N=cap) {cs0:Array Value} {S:Goroutine->World->Prop} {b:Frame} (hb:b.kind≠.early) {kk:List Item} {cs:List Frame} (hW:w0.heap.size<=Wg)
    (hE:∀ ρ w Z orig,(∀ i,i < 3->ρ i=ρ0 i)->ρ 3=pt Wg->Inv w0 C Z orig w->QW Tryz.prog 187 Wg C N Low 188 cs0 S 0 Z orig (posts L rs ns.length) (G (b.at (act 91 ρ) kk) cs) w) :
    ∀ (i j:Nat),j+i=ns.length->∀ (ρ:Env) (w:World) (Z:Nat->Prop) (orig:Nat->Option Obj),(∀ i,i < 3->ρ i=ρ0 i)->ρ 3=pt Wg->ρ 21=v->ρ 22=.int .i64 ns.length->ρ 23=.int .i64 j->Inv w0 C Z orig w ->
      QW Tryz.prog 187 Wg C N Low 188 cs0 S 0 Z orig (posts L rs j) (G (b.at (act 91 ρ) (.code LBo::.inLoop LBo::.inBlock 0::kk)) cs) w:=by
  obtain ⟨hrl,hrg⟩:=Qtn hP.rs;have hm:=hP.hm
  have head : ∀ (j : Nat) (tr : Bool), tr = decide (j < ns.length) -> ∀ (ρ : Env) (w : World) (Z : Nat -> Prop) (orig : Nat -> Option Obj) (O : List (Nat × (Value -> World -> Prop))), ρ 22 = .int .i64 ns.length -> ρ 23 = .int .i64 j ->
      (∀ ρ',(∀ i,i < 24->ρ' i=ρ i)->QW Tryz.prog 187 Wg C N Low 188 cs0 S 0 Z orig O (G (b.at (act 91 ρ') (.code (bif tr then .skip else .exit 0)::.code (J2 (J2 LBo))::.inLoop LBo::.inBlock 0::kk)) cs) w) ->
      QW Tryz.prog 187 Wg C N Low 188 cs0 S 0 Z orig O (G (b.at (act 91 ρ) (.code LBo::.inLoop LBo::.inBlock 0::kk)) cs) w:=by
    intro j tr htr ρ w Z orig O h22 h23 hk;refine QW.of ?_
    letI:JD Tryz.prog:=⟨Jp Tryz.prog Z⟩
    refine Qcl (Qoc (n:=91) (K:=fun ρ' w'=>w'=w/\ρ' 24=.bool tr/\∀ i,i < 24->ρ' i=ρ i) ?_ hb ?_)
    · refine ZQ (v:=.bool (decide ((j:Int) < (ns.length:Int)))) rfl (Xc h23 h22) ?_;refine Qb ⟨rfl,?_,fun i hi=>JQ hi⟩;rw [htr];show Value.bool (decide ((j:Int) < (ns.length:Int)))=_;congr 1;by_cases h:j < ns.length
      · rw [decide_eq_true h,decide_eq_true];omega
      · rw [decide_eq_false h,decide_eq_false];omega
    · rintro ρ' w' ⟨rfl,h24,hr'⟩;exact Qcl (QHr (n:=91) (by exact h24) (hk ρ' hr').stop)
  intro i
  induction i with
  | zero =>
    intro j hj ρ w Z orig hρ h3 h21 h22 h23 hI;obtain rfl:j=ns.length:=by omega
    refine head _ false (by simp) ρ w Z orig _ h22 h23 fun ρ' hr=>QW.of ?_
    letI:JD Tryz.prog:=⟨Jp Tryz.prog Z⟩
    refine QJh rfl ?_;exact (hE ρ' w Z orig (fun i hi=>(hr i (by omega)).trans (hρ i hi)) ((hr 3 (by omega)).trans h3) hI).stop
  | succ i ih =>
    intro j hj ρ w Z orig hρ h3 h21 h22 h23 hI;refine head _ true (by simp;omega) ρ w Z orig _ h22 h23 fun ρ1 hr1=>QW.of ?_
    letI:JD Tryz.prog:=⟨Jp Tryz.prog Z⟩
    have q3:ρ1 3=pt Wg:=(hr1 3 (by omega)).trans h3;have q21:ρ1 21=v:=(hr1 21 (by omega)).trans h21;have q22:ρ1 22=.int .i64 ns.length:=(hr1 22 (by omega)).trans h22;have q23:ρ1 23=.int .i64 j:=(hr1 23 (by omega)).trans h23;have hjl:j < ns.length:=by omega
    obtain ⟨x,hx⟩:∃ x,rs[j]?=some x:=⟨_,List.getElem?_eq_getElem (by omega)⟩;obtain ⟨nd,hnd,hps⟩:=hrg j x hx;have hel:idx ns (j:Int)=some (some nd):=by unfold idx;rw [if_pos (by omega)];simpa using hnd
    have hs':SlRd L w v ns:=hP.hs.step (hI.stepp hP.hC);obtain ⟨csn,hat,pn,hpn,rfl⟩:=SlRd.at hs' hel;have hlt:C < w0.heap.size:=hI.lt8;refine QVi (Qcl (Qxm (Qcl (Qoc (n:=91) (K:=fun ρ' w'=>(∀ i,i < 24->i≠4->i≠5->ρ' i=ρ1 i)/\∃ b4 b5,ρ' 4=pt b4/\ρ' 5=pt b5/\w0.heap.size<=b4/\w0.heap.size<=b5/\Inv w0 C Z orig w'/\Box w' b4 [.int .i64 j] 3/\Box w' b5 [pn] 174/\PtRd L w' pn (some nd)) ?_ hb ?_))))
    · refine ZQ (v:=.int .i64 j) rfl (QB q23) ?_;refine ZQ (v:=.pointer (some (ZE v (j:Int).toNat 1))) rfl (Q8 Tryz.underlying145 QBz hs' hel q21 q23) ?_;refine ZQ (v:=pn) rfl (Qk QBo rfl hat) ?_;refine Qe rfl (Q9 Q1a fun b4 w4 hb4 e4 hB4=>?_);refine Qe rfl (Q9 Q0y fun b5 w5 hb5 e5 hB5=>?_);have n45:b4≠b5:=fun e=>by have:=hB4.lt;omega
      refine Qe rfl (Y2 (vs:=[.int .i64 j]) (cs':=[.int .i64 j]) QO rfl rfl rfl rfl (hB4.ext e5) rfl (Qg rfl QF) rfl fun w6 c6 hB6=>?_);have hB5':=hB5.chg c6 (QA n45);refine Qe rfl (Y2 (vs:=[pn]) (cs':=[pn]) QBz (Q5 hpn.one1) rfl rfl rfl hB5' rfl (Qg hpn.one1 QF) rfl fun w7 c7 hB7=>Qb ?_);have h4w:w0.heap.size<=b4:=Ed hI.size hb4;have h5w:w0.heap.size<=b5:=Ed (Ed hI.size e4.size) hb5;have z4:¬ Z b4:=fun hz=>by obtain ⟨_,_,_,_,h1,_⟩:=hI.zrow _ hz;have:=ZX h1;omega
      have z5:¬ Z b5:=fun hz=>by obtain ⟨_,_,_,_,h1,_⟩:=hI.zrow _ hz;have:=ZX h1;have:=e4.size;omega
      have e07:Ext w w7:=QG (QG (e4.trans e5) c6 hb4) c7 (Ed e4.size hb5);refine ⟨fun i hi h1 h2=>?_,b4,b5,?_,rfl,h4w,h5w,((((hI.ext e4).ext e5).chg c6 (.inr ⟨h4w,z4⟩)).chg c7 (.inr ⟨h5w,z5⟩)),hB6.chg c7 (QA n45.symm),hB7,hpn.ext e07⟩
      · exact (Qpb h2).trans ((Qpb h1).trans ((JQ (by omega)).trans ((JQ (by omega)).trans (JQ (by omega)))))
      · rfl
    · rintro ρ2 w2 ⟨k1,b4,b5,k4,k5,h4w,h5w,hI2,hB4,hB5,hpn2⟩;refine Qcl (Qod ?_);refine .stop fun w3 r3=>?_;refine QW.addc rfl rfl hb rfl ?_ fun w4 r4=>QW.of ?_
      · rw [Qak];simp only [List.map_toArray,List.map_cons,List.map_nil];show #[ρ2 3,Value.int .i64 1]=_;rw [(k1 3 (by omega) (by omega) (by omega)).trans q3]
      rw [JA];show Wlk (Jp Tryz.prog Z) _ (G (b.at (act 91 (Xn ρ2 (some 28) (.tuple #[]))) _) cs) w4;generalize hρ3:Xn ρ2 (some 28) (.tuple #[])=ρ3;have hr3:∀ i,i < 28->ρ3 i=ρ2 i:=fun i hi=>by rw [<-hρ3];exact JQ hi
      have p3:ρ3 3=pt Wg:=(hr3 3 (by omega)).trans ((k1 3 (by omega) (by omega) (by omega)).trans q3);have p2:ρ3 2=pt b2:=(hr3 2 (by omega)).trans ((k1 2 (by omega) (by omega) (by omega)).trans ((hr1 2 (by omega)).trans ((hρ 2 (by omega)).trans hP.r2)));have p4:ρ3 4=pt b4:=(hr3 4 (by omega)).trans k4;have p5:ρ3 5=pt b5:=(hr3 5 (by omega)).trans k5;refine Qqz (Qod ?_);refine QSt (n:=91) (i:=0) (rest:=[1]) (K:=fun v w'=>v=.func (.func 114) #[] (List.toArray [pt Wg,pt b5,pt b2,pt b4])/\w'=w4) rfl rfl ?_ hb ?_
      · exact QIr (Qba (cs:=[pt Wg,pt b5,pt b2,pt b4]) (J8 p3 p5 p2 p4)) ⟨rfl,rfl⟩
      rintro _ w' ⟨rfl,rfl⟩;refine .stop fun w5 r5=>?_;have r25:Rel w2 w5:=(r3.trans r4).trans r5;have hI5:=hI2.rel r25;have hv:(act 91 (Xn ρ3 (some 29) (.func (.func 114) #[] (List.toArray [pt Wg,pt b5,pt b2,pt b4])))).eval (.tmp 29)=.func (.func 114) #[] (List.toArray [pt Wg,pt b5,pt b2,pt b4]):=by rw [Qak];rfl
      have n4:b4≠C:=fun e=>by omega
      have n5:b5≠C:=fun e=>by omega
      refine QW.go (CC w5 C) j (Qdn L (rs.getD j [])) rfl rfl (by kernel_rfl) hb (f:=114) (caps:=#[pt Wg,pt b5,pt b2,pt b4]) (fun W=>?_) (fun W=>?_) rfl (by rw [hN];exact Nat.lt_of_lt_of_le hjl hP.hn) QTj (fun w6 r6=>QHe r6) (fun w6 r6=>?_) (fun w6 r6=>?_)
      · simp only [resolve,hv];simp [Deferred.ofValue]
      · simp only [resolve,hv];simp [Deferred.ofValue]
      · -- the worker
        have hgx:rs.getD j []=x:=by simp [List.getD,hx]
        rw [hgx];have sc:=Qxs (Z:=Z) (w:=w5) (w1:=w6) (L:=L) hP.hC r6;have scC:=Qxs (Z:=Z) (w:=w5) (w1:=w6) (L:=[pt C]) Qts r6;have s0C:=(hI5.stepp (L:=[pt C]) Qts).trans scC;refine QSq (n:=ns.length) (cap:=cap) (fun y hy k hk=>?_) (hP.B2.step s0C (Qfa hP.n2)) (RowAt.step scC (Qfa n4) (hB4.ext r25.ext).row) (RowAt.step scC (Qfa n5) (hB5.ext r25.ext).row) ((hpn2.ext r25.ext).step sc) hjl hps;have h1:=hP.hL y hy k hk;rw [Qrl,Qlh];have:=r6.size;have:=hI5.size;omega
      · -- on
        have hI6:=hI5.frz r6;rw [<-QTk];generalize frz (CC w5 C) w6=w7 at hI6 ⊢;generalize hρ4:Xn ρ3 (some 29) (.func (.func 114) #[] (List.toArray [pt Wg,pt b5,pt b2,pt b4]))=ρ4;generalize (fun b=>Z b\/CC w5 C b)=Z2 at hI6 ⊢;generalize Qbl Z (CC w5 C) w6 orig=orig2 at hI6 ⊢;have hr4:∀ i,i < 24->i≠4->i≠5->ρ4 i=ρ i:=fun i hi h1 h2=>by rw [<-hρ4];exact (JQ (by omega)).trans ((hr3 i (by omega)).trans ((k1 i hi h1 h2).trans (hr1 i hi)))
        refine QW.of ?_
        letI:JD Tryz.prog:=⟨Jp Tryz.prog Z2⟩
        refine Qqz (QMa (Qoc (n:=91) (K:=fun ρ' w'=>w'=w7/\ρ' 23=.int .i64 ((j+1:Nat):Int)/\∀ i,i < 23->ρ' i=ρ4 i) ?_ hb ?_))
        · refine ZQ (v:=.int .i64 (w64 ((j:Int)+1))) rfl (Q6 ((hr4 23 (by omega) (by omega) (by omega)).trans h23) rfl) ?_;refine ZQ (v:=.int .i64 (w64 ((j:Int)+1))) rfl (QB rfl) ?_;refine Qb ⟨rfl,?_,fun i hi=>(JQ hi).trans (JQ (by omega))⟩;show Value.int .i64 (w64 ((j:Int)+1))=_;rw [Yh (by omega)];rfl
        · rintro ρ5 w' ⟨rfl,k23,k5'⟩;refine QMb ?_;exact (ih (j+1) (by omega) ρ5 w' Z2 orig2 (fun i hi=>(k5' i (by omega)).trans ((hr4 i (by omega) (by omega) (by omega)).trans (hρ i hi))) ((k5' 3 (by omega)).trans ((hr4 3 (by omega) (by omega) (by omega)).trans h3)) ((k5' 21 (by omega)).trans ((hr4 21 (by omega) (by omega) (by omega)).trans h21)) ((k5' 22 (by omega)).trans ((hr4 22 (by omega) (by omega) (by omega)).trans h22)) k23 hI6).stop
end
end Go.Gw

end
section
set_option maxRecDepth 100000
set_option maxHeartbeats 8000000
set_option linter.unusedVariables false
set_option linter.unusedSectionVars false
namespace Go.Gw
open Go Go.Conc Go.Proofs
open Go.ConcR (wgBlock)
attribute [local irreducible] T0 TS TT TP TX TZ Eff Stp WC Quiet gd
theorem Inv.full {w0 w w':World} {C N Low:Nat} {Z:Nat->Prop} {orig:Nat->Option Obj} {cs0 cs:Array Value} {et:TypeId} {O:List (Nat×(Value->World->Prop))} (h:Inv w0 C Z orig w) (hF:FullG C N Low cs0 O w w' cs) (hlow:w0.heap.size<=Low):Inv w0 C Z orig (J1 C cs et w'):=by
 have hm:=hF.more;refine ⟨hm.os.trans h.os,hm.tape.trans h.tape,hm.output.trans h.output,by rw [Qty,hm.size];exact h.size,fun b hb h8=>⟨(h.old b hb h8).1,fun hn=>?_⟩,fun b hb=>?_,h.z8,h.lt8⟩
 ·rw [Qgd h8,hF.low b (by omega) h8];exact (h.old b hb h8).2 hn
 ·obtain ⟨cs1,e,fz,fz',h1,h2⟩:=h.zrow b hb;have hne:b≠C:=fun e=>h.z8 (e▸hb)
  exact ⟨cs1,e,fz,fz',by rw [Qgd hne];exact hm.shows b cs1 e fz h1,h2⟩
theorem QUg {L:List Value} {C:Nat} {cs:Array Value} {et:TypeId} {w:World} (hC:pt C∈L):Stepp L w L (J1 C cs et w):=⟨fun {b cs1 e fz} hb hA=>⟨⟨fz,by grind [Qgd,Qne]⟩,hA⟩⟩
instance topJ:JD Tryz.prog:=⟨Jm Tryz.prog⟩
noncomputable def Qee:Array Oper:=Qtw (Quw Qfy)
theorem zi230':ZI Tryz.prog 187 [.int .u64 0,.int .u32 0]:=Z1 (by kernel_rfl)
theorem QLq {ρ:Env} {w:World} {C:Nat} {cs0:Array Value} {b:Frame} {k:List Item} {cs:List Frame} {S:Goroutine->World->Prop} (hb:b.kind≠.early) (hC:w.heap[C]?=some (.cells cs0 188 (0,0))) (hN:cs0.size+1 < 2147483647)
  (h:∀ Wg w1,Rel w w1->w.heap.size<=Wg->Wg < w1.heap.size->QW Tryz.prog 187 Wg C cs0.size Wg 188 cs0 S 0 (fun _=>False) (fun _=>none) [] (G (b.at (act 91 (Xn ρ (some 3) (.pointer (some ⟨Wg,0,none⟩)))) (.inRegion Qee []::k)) cs) (Ju C w1)) :
  ∀ w1,Rel w w1->(Jm Tryz.prog).Ph (G (b.at (act 91 ρ) (.inRegion Qee [0]::k)) cs) w1 S:=by
 refine QLr (g:=G (b.at (act 91 ρ) (.inRegion Qee [0]::k)) cs) rfl hC hN (fun Wg=>G (b.at (act 91 (Xn ρ (some 3) (.pointer (some ⟨Wg,0,none⟩)))) (.inRegion Qee []::k)) cs) (fun W=>?_) h;obtain ⟨o,ho,hop,hg,hd⟩:∃ o:Oper,Qee[0]?=some o/\o.op=.alloc 187/\o.guard=none/\o.dst=some 3:=⟨_,rfl,rfl,rfl,rfl⟩;obtain ⟨inf,z,hz1,hz2,hz3⟩:=zi230'.ex;have hT:(execOp (act 91 ρ).eval o).runT Tryz.prog W #[]=(.ok (.value (.pointer (some ⟨W.heap.size,0,none⟩))) { W with heap:=W.heap.push (wgBlock 187 0 0) },#[]):=by
  have hzc:z.cells=#[.int .u64 0,.int .u32 0]:=by grind
  have e0:execOp (act 91 ρ).eval o=(zeroValue 187 >>= fun z=>newVar 187 z >>= fun a=>Pure.pure (Value.pointer (some a))) >>= fun v=>Pure.pure (Next.value v):=by
   simp [execOp,hop,Instr.alloc]
  rw [e0];rfl
 rw [Sem.runT_eq] at hT;have hr:=congrArg Prod.fst hT;have he:(execOp (act 91 ρ).eval o).events Tryz.prog W #[]=#[]:=congrArg Prod.snd hT;have:=stepG_value (P:=Tryz.prog) (main:=true) (b:=b) (a:=act 91 ρ) (k:=k) (cs:=cs) (ops:=Qee) (i:=0) (rest:=[]) ho (by simp [Region.wanted,hg]) hb hr
 grind [seen_none,listed,JA]
theorem Inv.hide {w w1:World} {C:Nat} (r:Rel w w1) (hC:C < w.heap.size):Inv w C (fun _=>False) (fun _=>none) (Ju C w1) :=
 ⟨r.os,r.tape,r.output,by rw [Qyv];exact r.size,fun b hb h8=>⟨fun h=>h.elim,fun _=>by rw [Qlk h8];exact r.block b hb⟩,fun _ h=>h.elim,fun h=>h,hC⟩
end Go.Gw

end
section
set_option maxRecDepth 100000
set_option maxHeartbeats 8000000
set_option linter.unusedVariables false
set_option linter.unusedSectionVars false
namespace Go.Gw
open Go Go.Conc Go.Proofs
attribute [local irreducible] T0 TS TT TP TX TZ Eff Stp WC Quiet gd
variable {L:List Value} {w:World} {ρ:Env} {q:Post} {b b2 m:Nat} {v vs:Value} {ns:List (Option Nv)} {rs xs0:List (List Nt)}
theorem QSp (hL:LtL (vs::L) w) (r0:ρ 0=pt b) (r2:ρ 2=pt b2) (hB:Box w b [.map (some m),v] 147) (hB2:Box w b2 [vs] 177) (hs:SlRd (vs::L) w v ns) (ho:Own 188 (vs::L) w vs xs0) (hn:Qu vs≠some b) (hn2:Qu vs≠some b2)
    (hm:mk (ns.length:Int) ([]:List Nt)=some xs0) (hcap:∃ C,vs=.slice (some ⟨C,0,none⟩) xs0.length xs0.length) (hA:∀ k,Qu vs=some k->Avoids L k) (h:Qto ns=some rs)
    (hK:∀ ρ' w',(∀ i,i < 3->ρ' i=ρ i)->Chg [vs] w w'->SlRd L w' vs rs->WC Tryz.prog 91 QBs q ρ' w'):WC Tryz.prog 91 Qfy q ρ w:=by
  obtain ⟨C,hvs⟩:=hcap;obtain ⟨_,hmax,hx0⟩:=Qmv hm;have hlen:xs0.length=ns.length:=by grind
  have hG:Qfz ns=some rs:=by
    grind [Qto]
  obtain ⟨hrl,hrg⟩:=Qtn hG;rw [hlen] at hvs;have hbk:Qu vs=some C:=by rw [hvs];rfl
  have hbp:Qu (pt C)=Qu vs:=by rw [hbk];rfl
  obtain ⟨cs0,hrow,hsz⟩:∃ cs0,w.heap[C]?=some (.cells cs0 188 (0,0))/\cs0.size=ns.length:=by
    rcases ho.nilOr with ⟨h1,_⟩ | ⟨g,cap,cur,h1,h2,h3,h4,h5,_⟩
    · simp_all
    · rw [hvs] at h1;injection h1 with h6 h7 h8
      injection h6 with h6
      injection h6 with h6
      subst h6;exact ⟨cur,h2,by rw [h5,<-h8];exact Ec _⟩
  have hClt:=ZX hrow;have hL1:LtL (pt C::L) w:=fun x hx k hk=>by
    rcases List.mem_cons.1 hx with rfl | hx
    · simp_all
    · exact hL x (List.mem_cons_of_mem _ hx) k hk
  have hs1:SlRd (pt C::L) w v ns:=hs.step (Stepp.ren hbp);have nb:b≠C:=fun e=>hn (by rw [hbk,e])
  have nb2:b2≠C:=fun e=>hn2 (by rw [hbk,e])
  have hP:On0 (pt C::L) w C ns.length b2 v ns rs ρ:=⟨hL1,Qp,r2,nb2,by rw [<-hvs];exact hB2.row,hs1,Nat.le_refl _,by omega,hG⟩;unfold WC;intro bf k cs Stop hb hQ;show Wlk (Jm Tryz.prog) Stop _ w;refine Qcl (Qod ?_);show Wlk (Jm Tryz.prog) Stop (G (bf.at (act 91 ρ) (.inRegion Qee [0]::.code (J2 Qfy)::k)) cs) w;refine .phase (fun g' w'=>∃ ρ',g'=G (bf.at (act 91 ρ') (.inRegion (Qtw (Quw (J2 (J2 Qfy)))) []::.code QBs::k)) cs/\(∀ i,i < 3->ρ' i=ρ i)/\Chg [vs] w w'/\SlRd L w' vs rs) rfl ?_ ?_
  · refine QLq hb hrow (by omega) fun Wg w1 r1 hWg hWl=>?_;have hI:=Inv.hide r1 hClt;refine QW.of ?_
    letI:JD Tryz.prog:=⟨Jp Tryz.prog fun _=>False⟩
    have hBh:=RowAt.step (hI.stepp (L:=[pt C]) Qts) (Qfa nb) hB.row;have hsh:=hs1.step (hI.stepp (L:=pt C::L) Qp);refine Qqz (Qcl (Qcl (Qoc (n:=91) (K:=fun ρ' w'=>w'=Ju C w1/\(∀ i,i < 4->ρ' i=Xn ρ (some 3) (pt Wg) i)/\ρ' 21=v/\ρ' 22=.int .i64 ns.length/\ρ' 23=.int .i64 0) ?_ hb ?_)))
    · refine ZQ (v:=pt b) rfl (QB (by trivial)) ?_;refine ZQ (v:=pt b) rfl (Ys rfl) ?_;refine ZQ (v:=.pointer (some ⟨b,1,none⟩)) rfl (ZB 1 Tryz.underlying147 rfl rfl ⟨0,Qco⟩ rfl rfl) ?_;refine ZQ (v:=v) rfl (Qk Qji rfl (At.drop hBh.at 1)) ?_;refine ZQ (v:=.int .i64 ns.length) rfl (QR rfl Tryz.underlying145 hsh rfl) ?_;refine ZQ (v:=.int .i64 0) rfl (QB rfl) ?_;exact Qb ⟨rfl,fun i hi=>(JQ (by omega)).trans ((JQ (by omega)).trans ((JQ (by omega)).trans ((JQ (by omega)).trans ((JQ (by omega)).trans (JQ (by omega)))))),rfl,rfl,rfl⟩
    · rintro ρ1 w' ⟨rfl,j1,j21,j22,j23⟩;refine Qxm (QOt ?_);have g1:∀ i,i < 3->ρ1 i=ρ i:=fun i hi=>(j1 i (by omega)).trans (Qpb (by omega))
      refine (QLc hP (Low:=Wg) (by rw [hsz]) hb hWg (fun ρ2 w2 Z orig i1 i2 i3=>?_) ns.length 0 (by omega) ρ1 _ (fun _=>False) (fun _=>none) g1 ((j1 3 (by omega)).trans rfl) j21 j22 j23 hI).stop;refine QW.of ?_
      letI:JD Tryz.prog:=⟨Jp Tryz.prog Z⟩
      refine Qcl (Qod (.stop fun w3 r3=>?_));refine QW.waitc rfl rfl hb rfl ?_ fun w4 w5 cs' r4 hF=>?_
      · rw [Qak];simp only [List.map_toArray,List.map_cons,List.map_nil];show #[ρ2 3]=_;rw [i2]
      have hI4:=(i3.rel r3).rel r4;have hIf:=hI4.full (et:=188) hF hWg;rw [JA];refine ⟨_,rfl,fun i hi=>(Qpb (by omega)).trans (i1 i hi),?_,?_⟩
      · have hc:=hIf.thaw;exact ⟨hc.os,hc.tape,hc.output,hc.size,fun x hx hav=>hc.block x hx (fun y hy e=>by
          rcases List.mem_singleton.1 hy with rfl;exact hav vs (List.mem_singleton.2 rfl) (hbp▸e))⟩
      · have hz:¬ Z C:=hIf.z8;have hCw:C < w5.heap.size:=by rw [hF.more.size];exact Nat.lt_of_lt_of_le hClt hI4.size
        have hget:(thaw Z orig (J1 C cs' 188 w5)).heap[C]?=some (.cells cs' 188 (0,0)):=by
          grind [Qgn,Qtx]
        have hsz':cs'.size=ns.length:=by rw [hF.size,hsz]
        have hAC:Avoids L C:=hA C hbk;rw [hvs];have hmx:ns.length<=maxLen:=by unfold maxLen;omega
        have htk:(cs'.toList.drop 0).take (rs.length * 1)=cs'.toList:=by
          simp_all [Nat.le_refl,Array.length_toList,List.drop_zero,Ec,List.take_of_length_le]
        have hEl:Elems L (thaw Z orig (J1 C cs' 188 w5)) ((cs'.toList.drop 0).take (rs.length * 1)) rs:=by
          rw [htk];refine ⟨by rw [Array.length_toList,hsz',hrl];exact (Ec _).symm,fun i x hx=>?_⟩;have hi:i < rs.length:=(List.getElem?_eq_some_iff.1 hx).1;have hgx:rs.getD i []=x:=by simp_all
          obtain ⟨u,xw,hu,hus,hsh⟩:=hF.full (i,Qdn (pt C::L) (rs.getD i [])) (List.mem_map.2 ⟨i,List.mem_range.2 (by omega),rfl⟩);have hus:SlRd (pt C::L) xw u (rs.getD i []):=hus;rw [hgx] at hus;refine ⟨u,?_,(((hus.step (Shows.stepp hsh)).step (QUg (C:=C) (cs:=cs') (et:=188) Qp)).step hIf.thawS).sub (fun y hy=>List.mem_cons_of_mem _ hy)⟩;show ((cs'.toList).drop (i * 1)).take 1=[u];simp_all [List.drop_eq_getElem_cons,List.getElem?_eq_some_iff,some,Ec]
        exact .inr ⟨C,0,ns.length,cs',188,(0,0),by rw [hrl],hget,hAC,by omega,hmx,by rw [hsz',Ef];exact Nat.le_of_eq (Ec _),hEl⟩
  · rintro g' w' ⟨ρ',rfl,hq1,hq2,hq3⟩;have hw:=hK ρ' w' hq1 hq2 hq3;unfold WC at hw;exact .ctl rfl (fun _=>stepG_region_end) (hw bf k cs Stop hb hQ)
end Go.Gw

end
section
set_option maxRecDepth 4096
set_option maxHeartbeats 8000000
set_option linter.unusedVariables false
set_option linter.unusedSectionVars false
namespace Go.Gw
open Go Go.Proofs
attribute [local irreducible] T0 TS TT TP TX TZ Eff Stp WC Quiet gd
noncomputable def QNt (el21791:(List Nt)) (x17435:(List (Option Nv))) (x21743:Int):(Int×(List (Option Nv))×(List ByteArray))->Option ((Int×(List (Option Nv))×(List ByteArray))⊕((List (Option Nv))×(List ByteArray))):=fun (x22811,x22815,x22821)=>(bif (decide (x22811 < (el21791.length:Int))) then ( (Ea (idx el21791 x22811) fun el22861=>(Ea (el22861.line) fun el22901=>(Ea (Qea el22901.Ng) fun r22926=>(bif (!(Zf x22821 r22926)) then ( (Ea (idx x17435 x21743) fun el23059=>(Ea (app x22815 ([(some (Nv.mk el22861.line Opq.mk el22861.Ny))]:List (Option Nv))) fun zs23109=>some (.inl (w64 (x22811+1),zs23109,(Jb x22821 r22926))) ) ) ) else ( some (.inl (w64 (x22811+1),x22815,x22821)) )) ) ) ) ) else ( some (.inr (x22815,x22821)) ))
noncomputable def QNu (r17517:(List (List Nt))) (x17435:(List (Option Nv))):(Int×(List (Option Nv))×(List ByteArray))->Option ((Int×(List (Option Nv))×(List ByteArray))⊕((List (Option Nv))×(List ByteArray))):=fun (x21743,x21747,x21753)=>(bif (decide (x21743 < (r17517.length:Int))) then ( (Ea (idx r17517 x21743) fun el21791=>(Ea (loop (QNt el21791 x17435 x21743) (0,x21747,x21753)) fun ((x22837,x22843):(List (Option Nv))×(List ByteArray))=>some (.inl (w64 (x21743+1),x22837,x22843)) ) ) ) else ( some (.inr (x21747,x21753)) ))
noncomputable def QNv:((List (Option Nv))×(List ByteArray))->Option (((List (Option Nv))×(List ByteArray))⊕((List (Option Nv))×(List ByteArray))):=fun (x17435,x17441)=>(bif ((decide (0 < (x17435.length:Int)))&&(decide ((x17441.length:Int)<=2000))) then ( (Ea (mk (x17435.length:Int) (([]:(List Nt)):(List Nt))) fun mk17474=>(Ea (Qto x17435) fun r17517=>(Ea (loop (QNu r17517 x17435) (0,([]:List (Option Nv)),x17441)) fun ((x21767,x21773):(List (Option Nv))×(List ByteArray))=>some (.inl (x21767,x21773)) ) ) ) ) else ( some (.inr (x17435,x17441)) ))
noncomputable def Qzr (p_p:Nf):Option (Int×Int):=(Ea (Qeb p_p) fun r24=>(bif (!decide (r24=0)) then ( some (0,r24) ) else ( (Ea (Qfo p_p) fun r243=>(Ea (QAd (some (Nn.mk p_p r243))) fun r273=>(Ea (loop QNv (r273.2,r273.1)) fun ((x17451,x17457):(List (Option Nv))×(List ByteArray))=>(bif (decide (2000 < (x17457.length:Int))) then ( some (0,8) ) else ( some ((x17457.length:Int),0) )) ) ) ) )) )
theorem QNs {L:List Value} {w:World} (hL:LtL L w) {cs_p_p:List Value} {p_p:Nf} (h_p_p:Rep.rd L w cs_p_p p_p) {r:Int×Int} (h:Qzr p_p=some r):CallsTo Tryz.prog 32 [(.agg cs_p_p.toArray)] w (fun v w'=>Ext w w'/\(.tuple #[(Iv r.1),(Iv r.2)])=v):=by
 have hS0:=h_p_p;obtain ⟨v1,v3,v5,v7,h2,h4,h6,h8,rfl⟩:=h_p_p;refine QS (n:=44) (rs:=[.tmp 2,.tmp 3]) Tryz.func32 rfl rfl rfl rfl rfl<|Qd<|Qe rfl (XA (cs:=[v1,v3,v5,v7]) rfl rfl ?_);intro b14 wd15 hb16 he17 hB18;refine Qh rfl<|Qh rfl<|Qb<|Qi fun K22 hK22=>Qd<|Qa (QY (Box.at hB18) Yn rfl)<|bnd h fun r24 hr25 h=>Qe rfl (Qq Tryz.func61 Qna rfl (QH rfl) (Qmo (LtL.nil _) ((hS0.ext he17).sub (fun _ h=>by cases h)) hr25) ?_);rintro _ wd26 ⟨he27,rfl⟩;have e29:=((QU w).trans he17).trans he27;refine Qh rfl<|Qb<|Qd<|Qc rfl<|Qa (XF rfl rfl)<|Qb<|Qx h rfl (fun _ h=>?_) (fun _ h=>?_)
 ·refine Qd<|Qc rfl<|Qh rfl<|Qh rfl<|Qb<|Qs ?_;replace h:=Qf h;subst h;exact ⟨[_,_],⟨rfl,rfl,trivial⟩,e29,rfl⟩
 ·refine Qw<|hK22 _ _<|Qi fun K33 hK33=>XK XI (.q 0 (.q 1 (.m (.a 2 (.p 3 (.m (.a 4 (.m (.a 5 (.p 6 .done) .z)) .z))) .z)))) (by kernel_rfl) rfl ?_;intro wd172 he173;have e174:=(he17.trans he27).trans he173;have e175:=he27.trans he173;have e176:=e29.trans he173;refine QX rfl (fun w' hS=>(QY (Box.at (hB18.ext (e175.trans hS))) Yn rfl))<|QX rfl (fun w' hS=>(QY (Box.at (hB18.ext (e175.trans hS))) Yn rfl))<|QK<|bnd h fun r243 hr244 h=>QE rfl (Qq Tryz.func63 Qth rfl (QH rfl) (Qse (hL.chg e176) (hS0.ext e174) hr244) ?_);rintro _ wd245 ⟨he246,cs251,rfl,hrd252⟩;have e256:=e176.trans he246;obtain ⟨v247,v249,h248,h250,rfl⟩:=hrd252;refine ⟨he246,Qy rfl (fun w'=>(Xo Qhi (Qt rfl rfl (Qt rfl rfl QP)) rfl))<|QK<|QE rfl (XA (cs:=[v1,v3,v5,v7,v247,v249,(Iv r243.Ni)]) rfl rfl ?_)⟩;intro b259 wd260 hb261 he262 hB263;have e266:=(e174.trans he246).trans he262;have e269:=e256.trans he262;refine ⟨he262,QK ?_⟩;have h271:PtRd L wd260 (pt b259) (some (Nn.mk p_p r243)):=PtRd.of_box hB263 (Qam hL (Q3 e256 hb261)) ⟨v1,v3,v5,v7,v247,v249,(h2.ext e266),(h4.ext e266),(h6.ext e266),(h8.ext e266),(h248.ext he262),(h250.ext he262),rfl⟩;refine bnd h fun r273 hr274 h=>QE rfl (Qq Tryz.func80 QRw rfl (QH rfl) (QOm (hL.chg e269) h271 hr274) ?_);rintro _ wd275 ⟨he276,b277,b278,v279,rfl,hb280,hb281,hn282,hB283,hB284,hf285,hn286,hn287,h288⟩;have hbf293:=Q3 e269 hb280;have hf295:=Yt e269 hf285;refine ⟨he276,QD rfl rfl (fun w'=>(XY rfl))<|Xl<|hK33 _ _<|Qi fun K309 hK309=>bnd h fun o17462 hl17463 hn17464=>Xe (fun (ρ:Env) (wd17446:World)=>∃ (x17451:(List (Option Nv))) (x17457:(List ByteArray)) (v17450:Value),(x17451,x17457)=o17462/\ρ 5=(pt b277)/\Box wd17446 b277 [(.map (some b278)),v17450] 147/\MapAt wd17446 b278 x17457/\Own 174 (v17450::(pt b277)::(pt b278)::L) wd17446 v17450 x17451/\(Frs w v17450)/\(Qu v17450≠some b277)/\(Qu v17450≠some b278)/\Ext w wd17446) ?_ ?_⟩
  ·intro K17468 hK17468;refine QL<|Xt (fun sv ρ wd17430=>∃ (x17435:(List (Option Nv))) (x17441:(List ByteArray)) (v17434:Value),(x17435,x17441)=sv/\ρ 5=(pt b277)/\Box wd17430 b277 [(.map (some b278)),v17434] 147/\MapAt wd17430 b278 x17441/\Own 174 (v17434::(pt b277)::(pt b278)::L) wd17430 v17434 x17435/\(Frs w v17434)/\(Qu v17434≠some b277)/\(Qu v17434≠some b278)/\Ext w wd17430) hl17463 ⟨r273.2,r273.1,v279,rfl,rfl,hB283,hB284,h288,hf295,hn286,hn287,(e269.trans he276)⟩ ?_;rintro _ ρ wd17430 ⟨x17435,x17441,v17434,rfl,hs17432,hB17440,hB17443,h17437,hf17438,hn17444,hn17445,e17431⟩ x17465 h hx17466 K17467 hK17467;refine Qi fun K17470 hK17470=>Qd<|Qc hs17432<|Qa (Ys rfl)<|Qa (Qn 1 Tryz.underlying147 ⟨0,Qco⟩ rfl rfl)<|Qa (Qk Qji rfl (At.drop (Box.at hB17440) 1))<|Qa (Qgt rfl Tryz.underlying145 h17437 rfl)<|Qa (Yy rfl rfl)<|Qc rfl<|Qv (QN rfl) (fun hg=>(QB hs17432))<|Qv (QN rfl) (fun hg=>(Ys (Qo hg)))<|Qv (QN rfl) (fun hg=>(Qn 0 Tryz.underlying147 ⟨0,Qjx⟩ (Qo hg) rfl))<|Qv (QN rfl) (fun hg=>(Qk Qjh (Qo hg) (Box.at hB17440)))<|Qv (QN rfl) (fun hg=>(Qwf rfl Tryz.underlying144 (Qo hg) hB17443))<|Qv (QN rfl) (fun hg=>(Jz (Qo hg) rfl))<|Qa (X1 rfl (fun hb=>(Qo hb)) rfl)<|Qb<|Qx h rfl (fun _ h=>?_) (fun _ h=>?_)
   ·refine Qw<|hK17470 _ _<|QL<|QC<|Qc hs17432<|Qe rfl (QIh (nf:=91) (rs:=[]) Tryz.func81 QRx rfl (QH rfl) rfl rfl rfl rfl ?_);refine Qd<|Qc rfl<|Qa (Ys rfl)<|Qa (Qn 1 Tryz.underlying147 ⟨0,Qco⟩ rfl rfl)<|Qa (Qk Qji rfl (At.drop (Box.at hB17440) 1))<|Qa (Qgt rfl Tryz.underlying145 h17437 rfl)<|bnd h fun mk17474 hm17475 h=>Qe rfl (QIj (L:=(v17434::(pt b277)::(pt b278)::L)) (zcs:=[Sno]) (zero:=([]:(List Nt))) rfl rfl rfl Tryz.underlying177 QIv rfl rfl rfl (fun _ _=>⟨_,rfl,SlRd.nil _ _⟩) rfl rfl hm17475 ?_);intro v17476 wd17477 he17478 hf17479 h17480 v17476c;have hn17481:∀ b,Qu v17434=some b->Qu v17476≠some b:=fun b hb e=>by have:=hf17479 _ e;have:=h17437.blk_lt hb;omega
    have h17482:=h17437.step (Stepp.add v17476 he17478 hf17479) he17478 (fun _ _=>Ee _);have hn17484:=X5 hf17479 hB17440.lt;have hn17485:=X5 hf17479 hB17443.lt;have hf17486:=Yt e17431 hf17479;have e17487:=e17431.trans he17478;refine Qe rfl (Q9 Q0v ?_);intro b17489 wd17490 hb17491 he17492 hB17493;have hn17494:=QQ (hB17440.ext he17478) hb17491;have hn17495:b17489≠b278:=JI (hB17443.ext he17478).lt hb17491;have hn17496:=Zp h17482 hb17491;have hn17497:=Zp h17480 hb17491;have h17499:=h17482.step (Ql he17492 hb17491) he17492 (fun _ _=>Ee _);have h17500:=h17480.step (Ql he17492 hb17491) he17492 (fun _ _=>Ee _);have e17501:=he17478.trans he17492;refine Qe rfl (QT QXc (Q5 h17500.one1) rfl rfl rfl hB17493 rfl (Qg h17500.one1 QF) rfl ?_);intro wd17504 hc17505 hB17506;have h17508:=(hB17440.ext e17501).chg hc17505 (QA hn17494);have h17509:=(hB17443.ext e17501).chg hc17505 (QA hn17495);have e17511:=QG (e17487.trans he17492) hc17505 (Q3 e17487 hb17491);refine Qb ?_;have h17512:=((h17499.step (Qj hc17505 Qp) hc17505 (Xu hn17496)).sub QDt).rd (fun b hb=>(Eb (Eb (Eb (Eb (fun x hx e=>by have:=hL x hx b e;have:=hf17438 b hb;omega) (fun e=>hn17445 (hb.trans e.symm))) (fun e=>hn17444 (hb.trans e.symm))) (hn17481 b hb)) (fun e=>hn17496 (hb.trans e.symm))));have h17515:=((h17500.step (Qj hc17505 Qp) hc17505 (Xu hn17497)).sub QDt).sub Jg;have h17516:=h17512.sub Jg;refine bnd h fun r17517 hr17518 h=>QSp (L:=((pt b17489)::(pt b277)::(pt b278)::L)) (Yu (Qz (Qz (Qcg (hL.chg e17511) h17509.lt) h17508) hB17506) h17515) rfl rfl h17508 hB17506 h17516 h17515 hn17484 hn17497 hm17475 v17476c (fun b hb=>(Eb (Eb (Eb (fun x hx e=>by have:=hL x hx b e;have:=hf17486 b hb;omega) (fun e=>hn17485 (hb.trans e.symm))) (fun e=>hn17484 (hb.trans e.symm))) (fun e=>hn17497 (hb.trans e.symm)))) hr17518 ?_;intro ρ wd17519 hp17520 hc17521 h17522;have hs17523:ρ 0=(pt b277):=(hp17520 0 (by decide)).trans rfl;have hs17524:ρ 2=(pt b17489):=(hp17520 2 (by decide)).trans rfl;have h17525:=h17508.chg hc17521 (Xm hn17484);refine Qd<|Qc hs17523<|Qa (Ys rfl)<|Qa (Qn 1 Tryz.underlying147 ⟨0,Qco⟩ rfl rfl)<|Qa (Qk Qji rfl (At.drop (Box.at h17525) 1))<|Qh rfl<|Qb<|Qd<|Qc hs17523<|Qa (Ys rfl)<|Qa (Qn 1 Tryz.underlying147 ⟨0,Qco⟩ rfl rfl)<|Qe rfl (Y2 (cs':=[(.map (some b278)),Sno]) Qco rfl rfl rfl rfl h17525 rfl (Qg rfl QF) rfl ?_);intro wd17534 hc17535 hB17536;have h17540:=h17522.step (Qj hc17535 Xa);refine Qb<|Qd<|Qa (Qk QVf hs17524 (Box.at ((hB17506.chg hc17521 (Xm hn17497)).chg hc17535 (QA hn17494.symm))))<|Qa (QR rfl Tryz.underlying177 h17540 rfl)<|Qc rfl<|Qb ?_;have h21761:Own 174 (Sno::(pt b17489)::(pt b277)::(pt b278)::L) wd17534 Sno ([]:List (Option Nv)):=Own.nil _ _ _;refine bnd h fun o21778 hl21779 hn21780=>Xe (fun (ρ:Env) (wd21763:World)=>∃ (x21767:(List (Option Nv))) (x21773:(List ByteArray)) (v21766:Value),(x21767,x21773)=o21778/\Box wd21763 b277 [(.map (some b278)),v21766] 147/\MapAt wd21763 b278 x21773/\Own 174 (v21766::(pt b277)::(pt b278)::L) wd21763 v21766 x21767/\(Frs w v21766)/\(Qu v21766≠some b277)/\(Qu v21766≠some b278)/\Ext w wd21763) ?_ ?_
    ·intro K21784 hK21784;refine QL<|Xt (fun sv ρ wd21735=>∃ (x21743:Int) (x21747:(List (Option Nv))) (x21753:(List ByteArray)) (v21746:Value),(x21743,x21747,x21753)=sv/\ρ 0=(pt b277)/\ρ 6=v17434/\ρ 39=v17476/\ρ 40=(Iv (r17517.length:Int))/\ρ 41=(Iv x21743)/\SlRd (v21746::(pt b277)::(pt b278)::L) wd21735 v17434 x17435/\SlRd (v21746::(pt b277)::(pt b278)::L) wd21735 v17476 r17517/\Box wd21735 b277 [(.map (some b278)),v21746] 147/\MapAt wd21735 b278 x21753/\Own 174 (v21746::(pt b277)::(pt b278)::L) wd21735 v21746 x21747/\(Frs w v21746)/\(Qu v21746≠some b277)/\(Qu v21746≠some b278)/\Ext w wd21735) hl21779 ⟨0,([]:List (Option Nv)),x17441,Sno,rfl,hs17523,rfl,rfl,rfl,rfl,(((((h17516.step (Qj hc17521 Qp)).sub Qjw).step (Qj hc17535 Xa)).step (Jq _)).sub Qaw),((h17540.step (Jq _)).sub Qaw),hB17536,((h17509.chg hc17521 (Xm hn17485)).chg hc17535 (QA hn282)),(h21761.sub Qaw),(fun b h=>ZU b h),(fun h=>by cases h),(fun h=>by cases h),(QG (XS e17511 hc17521 hf17486) hc17535 hbf293)⟩ ?_;rintro _ ρ wd21735 ⟨x21743,x21747,x21753,v21746,rfl,hs21737,hs21739,hs21741,hs21742,hs21744,h21738,h21740,hB21752,hB21755,h21749,hf21750,hn21756,hn21757,e21736⟩ x21781 h hx21782 K21783 hK21783;refine Qd<|Qa (Xc hs21744 hs21742)<|Qb<|Qi fun K21787 hK21787=>Qx h rfl (fun _ h=>?_) (fun _ h=>?_)
     ·refine Qw<|hK21787 _ _<|Qi fun K21789 hK21789=>QL<|Qd<|Qc hs21744<|bnd h fun el21791 hel21792 h=>?_;have hq:=SlRd.at h21740 hel21792;obtain ⟨cs21795,hat21796,hrd21797⟩:=hq;obtain ⟨v21793,rfl,h21794⟩:=hrd21797;refine Qa (Q8 Tryz.underlying177 QEa h21740 hel21792 hs21741 hs21744)<|Qa (Qk Qjj rfl hat21796)<|Qh rfl<|Qh rfl<|Qb<|Qd<|Qc rfl<|Qa (QR rfl Tryz.underlying188 h21794 rfl)<|Qc rfl<|Qb<|bnd h fun o22848 hl22849 hn22850=>Xe (fun (ρ:Env) (wd22826:World)=>∃ (x22837:(List (Option Nv))) (x22843:(List ByteArray)) (v22836:Value),(x22837,x22843)=o22848/\ρ 0=(pt b277)/\ρ 6=v17434/\ρ 39=v17476/\ρ 40=(Iv (r17517.length:Int))/\ρ 41=(Iv x21743)/\SlRd (v22836::(pt b277)::(pt b278)::L) wd22826 v17434 x17435/\SlRd (v22836::(pt b277)::(pt b278)::L) wd22826 v17476 r17517/\Box wd22826 b277 [(.map (some b278)),v22836] 147/\MapAt wd22826 b278 x22843/\Own 174 (v22836::(pt b277)::(pt b278)::L) wd22826 v22836 x22837/\(Frs w v22836)/\(Qu v22836≠some b277)/\(Qu v22836≠some b278)/\Ext w wd22826) ?_ ?_
      ·intro K22854 hK22854;refine QL<|Xt (fun sv ρ wd22798=>∃ (x22811:Int) (x22815:(List (Option Nv))) (x22821:(List ByteArray)) (v22814:Value),(x22811,x22815,x22821)=sv/\ρ 0=(pt b277)/\ρ 6=v17434/\ρ 7=(Iv x21743)/\ρ 39=v17476/\ρ 40=(Iv (r17517.length:Int))/\ρ 41=(Iv x21743)/\ρ 46=v21793/\ρ 47=(Iv (el21791.length:Int))/\ρ 48=(Iv x22811)/\SlRd (v22814::(pt b277)::(pt b278)::L) wd22798 v17434 x17435/\SlRd (v22814::(pt b277)::(pt b278)::L) wd22798 v17476 r17517/\SlRd (v22814::(pt b277)::(pt b278)::L) wd22798 v21793 el21791/\Box wd22798 b277 [(.map (some b278)),v22814] 147/\MapAt wd22798 b278 x22821/\Own 174 (v22814::(pt b277)::(pt b278)::L) wd22798 v22814 x22815/\(Frs w v22814)/\(Qu v22814≠some b277)/\(Qu v22814≠some b278)/\Ext w wd22798) hl22849 ⟨0,x21747,x21753,v21746,rfl,hs21737,hs21739,rfl,hs21741,hs21742,hs21744,rfl,rfl,rfl,h21738,h21740,h21794,hB21752,hB21755,h21749,hf21750,hn21756,hn21757,e21736⟩ ?_;rintro _ ρ wd22798 ⟨x22811,x22815,x22821,v22814,rfl,hs22800,hs22802,hs22803,hs22805,hs22806,hs22807,hs22809,hs22810,hs22812,h22801,h22804,h22808,hB22820,hB22823,h22817,hf22818,hn22824,hn22825,e22799⟩ x22851 h hx22852 K22853 hK22853;refine Qd<|Qa (Xc hs22812 hs22810)<|Qb<|Qi fun K22857 hK22857=>Qx h rfl (fun _ h=>?_) (fun _ h=>?_)
       ·refine Qw<|hK22857 _ _<|Qi fun K22859 hK22859=>QL<|Qd<|bnd h fun el22861 hel22862 h=>?_;have hq:=SlRd.at h22808 hel22862;obtain ⟨cs22865,hat22866,hrd22867⟩:=hq;obtain ⟨v22863,h22864,rfl⟩:=hrd22867;refine Qa (Q8 Tryz.underlying188 QEb h22808 hel22862 hs22809 hs22812)<|Qa (QY hat22866 QGf rfl)<|Qe rfl (Q9 Q0x ?_);intro b22870 wd22871 hb22872 he22873 hB22874;have hn22876:b22870≠b278:=JI hB22823.lt hb22872;have hn22877:=Zp h22817 hb22872;have h22882:=h22817.step (Ql he22873 hb22872) he22873 (fun _ _=>Ee _);have h22883:=h22864.step (Ql he22873 hb22872);refine Qe rfl (QT QEb rfl rfl rfl rfl hB22874 rfl (Qg rfl (Qg rfl (Qg rfl (Qg h22883.one1 QF)))) rfl ?_);intro wd22886 hc22887 hB22888;have h22889:=(h22801.step (Ql he22873 hb22872)).step (Qj hc22887 Qp);have h22890:=(h22804.step (Ql he22873 hb22872)).step (Qj hc22887 Qp);have h22891:=(h22808.step (Ql he22873 hb22872)).step (Qj hc22887 Qp);have h22892:=h22882.step (Qj hc22887 Qp) hc22887 (Xu hn22877);have h22893:=(hB22820.ext he22873).chg hc22887 (QA (QQ hB22820 hb22872));have h22894:=(hB22823.ext he22873).chg hc22887 (QA hn22876);have h22895:=h22883.step (Qj hc22887 Qp);refine Qb<|Qd<|Qa (Qn 3 Tryz.underlying191 ⟨0,QDy⟩ rfl rfl)<|Qa (Qk Qjg rfl (At.drop (Box.at hB22888) 3))<|bnd h fun el22901 hel22902 h=>?_;have hq:=PtRd.get h22895 hel22902;obtain ⟨b22898,hv22899,h22900⟩:=hq;have hq:=PtAt.at h22900;obtain ⟨cs22916,hat22917,hrd22918⟩:=hq;obtain ⟨v22904,v22906,v22908,v22910,v22912,v22914,h22905,h22907,h22909,h22911,h22913,h22915,rfl⟩:=hrd22918;refine Qa (Zj hv22899 rfl)<|Qa (Qn 4 Tryz.underlying125 ⟨2,XO⟩ rfl rfl)<|Qa (QY (At.take (At.drop hat22917 4) 3) Yd rfl)<|bnd h fun r22926 hr22927 h=>Qe rfl (Qq Tryz.func9 nm9 rfl (QH rfl) (@Qlx _ [] _ (LtL.nil _) [v22912,v22914,(Iv el22901.Ng.Ni)] el22901.Ng ⟨v22912,v22914,(h22913.sub (fun _ h=>by cases h)),(h22915.sub (fun _ h=>by cases h)),rfl⟩ r22926 hr22927) ?_);rintro _ wd22928 ⟨he22929,rfl⟩;have e22930:=(QG (e22799.trans he22873) hc22887 (Q3 e22799 hb22872)).trans he22929;refine Qh rfl<|Qb<|Qd<|Qc hs22800<|Qa (Ys rfl)<|Qa (Qn 0 Tryz.underlying147 ⟨0,Qjx⟩ rfl rfl)<|Qa (Qk Qjh rfl (Box.at (h22893.ext he22929)))<|Qc rfl<|Qa (Qpi Tryz.underlying144 Tryz.underlying9 (by kernel_rfl) rfl rfl (h22894.ext he22929))<|Qa (Yb rfl)<|Qb<|Qx h rfl (fun _ h=>?_) (fun _ h=>?_)
        ·refine Qd<|Qc hs22800<|Qa (Ys rfl)<|Qa (Qn 0 Tryz.underlying147 ⟨0,Qjx⟩ rfl rfl)<|Qa (Qk Qjh rfl (Box.at (h22893.ext he22929)))<|Qc rfl<|Qe rfl (Qhq Tryz.underlying144 Tryz.underlying9 rfl rfl rfl (h22894.ext he22929) ?_);intro wd22934 hc22935 hB22936;have h22937:=(h22889.ext he22929).step (Qj hc22935 Zy);have h22940:=(h22892.ext he22929).step (Qj hc22935 Zy) hc22935 (Xu hn22825);have h22941:=(h22893.ext he22929).chg hc22935 (QA hn282.symm);have h22942:=(h22895.ext he22929).step (Qj hc22935 Zy);have h22943:=(hB22888.ext he22929).chg hc22935 (QA hn22876.symm);refine Qb<|XK XI (.p 0 (.p 1 (.p 2 (.p 3 (.p 5 (.p 7 (.p 8 (.p 9 (.p 11 (.q 4 (.q 6 (.q 10 (.q 12 (.p 13 (.m (.a 14 (.m (.a 15 (.m (.c 16 (.p 17 (.p 18 (.m (.c 19 .done .z)))) .z)) .z)) .z)))))))))))))))) (by kernel_rfl) rfl ?_;intro wd22952 he22953;have e22954:=(QG e22930 hc22935 (Q3 e269 hb281)).trans he22953;refine QD rfl rfl (fun w'=>(QB hs22800))<|QD rfl rfl (fun w'=>(QB hs22800))<|Qy rfl (fun w'=>(Ys rfl))<|Qy rfl (fun w'=>(Qn 1 Tryz.underlying147 ⟨0,Qco⟩ rfl rfl))<|Qy rfl (fun w'=>(Qn 3 Tryz.underlying191 ⟨0,QDy⟩ rfl rfl))<|QD rfl rfl (fun w'=>(QB hs22802))<|QD rfl rfl (fun w'=>(QB hs22803))<|bnd h fun el23059 hel23060 h=>?_;have hq:=SlRd.at h22937 hel23060;obtain ⟨cs23063,hat23064,hrd23065⟩:=hq;obtain ⟨v23061,h23062,rfl⟩:=hrd23065;refine Qy rfl (fun w'=>(Q8 Tryz.underlying145 QXb h22937 hel23060 rfl rfl))<|Qy rfl (fun w'=>(Qn 0 Tryz.underlying191 ⟨2,Jh⟩ rfl rfl))<|QX rfl (fun w' hS=>(Qk Qji rfl (At.drop (Box.at (h22941.ext (he22953.trans hS))) 1)))<|QX rfl (fun w' hS=>(Qk Qjg rfl (At.drop (Box.at (h22943.ext (he22953.trans hS))) 3)))<|QX rfl (fun w' hS=>(Qk QVe rfl (hat23064.ext' (he22953.trans hS))))<|QX rfl (fun w' hS=>(QY (At.take (Box.at (h22943.ext (he22953.trans hS))) 3) Zb rfl)) ?_;have h23068:OpqRd ((pt b22870)::v22814::(pt b277)::(pt b278)::L) wd22952 v23061 Opq.mk:=(h23062.ext he22953).one1;refine Qy rfl (fun w'=>(Xo Qxk (Qt rfl (Q5 h22942.one1) (Qt rfl (Q5 h23062.one1) (Qt rfl rfl QP))) rfl))<|QK<|QE rfl (XA (cs:=[v22863,v23061,(Iv el22861.Ny.Kind),(Iv el22861.Ny.A),(Iv el22861.Ny.B)]) rfl rfl ?_);intro b23070 wd23071 hb23072 he23073 hB23074;have hn23076:b23070≠b278:=JI (hB22936.ext he22953).lt hb23072;have hn23078:=Zp (h22940.ext he22953) hb23072;have e23080:=he22953.trans he23073;have e23081:=e22954.trans he23073;refine ⟨he23073,QK ?_⟩;have h23083:PtRd ((pt b22870)::v22814::(pt b277)::(pt b278)::L) wd23071 (pt b23070) (some (Nv.mk el22861.line Opq.mk el22861.Ny)):=PtRd.of_box hB23074 (Eb (Eb (Eb (Eb (Qam hL (Q3 e22954 hb23072)) (Qbx hn23076.symm)) (Qbx (QQ (h22941.ext he22953) hb23072).symm)) hn23078) (Qbx (QQ (h22943.ext he22953) hb23072).symm)) ⟨v22863,v23061,(h22942.ext e23080),(h23068.ext he23073),rfl⟩;refine QE rfl (XM (xs:=([(some (Nv.mk el22861.line Opq.mk el22861.Ny))]:List (Option Nv))) Tryz.underlying145 Qqw rfl (Qt rfl (Q5 h23083.one1) QP) rfl (Elems.cons (cs:=[(pt b23070)]) ⟨(pt b23070),h23083,rfl⟩ Elems.nil) rfl (Qz (Yu (Qz (Qcg (hL.chg e23081) (hB22936.ext e23080).lt) (h22941.ext e23080)) (h22940.ext e23080)) (h22943.ext e23080)) ?_);intro b23088 wd23085 he23086 h23087;have e23089:=e23080.trans he23086;have e23091:=e23081.trans he23086;refine ⟨he23086,X2<|bnd h fun zs23109 hz23110 h=>Yi rfl (JE Tryz.underlying145 Qqw rfl rfl rfl rfl ((h22940.ext e23089).sub Jg) (h23087.sub Jg) hz23110 ?_)⟩;intro v23111 wd23112 hc23113 hbl23114 h23115;have hn23117:=XQ hbl23114 hn22824 (h22941.ext e23089);have hn23118:Qu v23111≠some b278:=Qsy hbl23114 hn22825 (hB22936.ext e23089).lt;refine Qy rfl (fun w'=>(Ys rfl))<|Qy rfl (fun w'=>(Qn 1 Tryz.underlying147 ⟨0,Qco⟩ rfl rfl))<|X2<|Yi rfl (Y2 (cs':=[(.map (some b278)),v23111]) Qco (Q5 h23115.one1) rfl rfl rfl ((h22941.ext e23089).chg hc23113 (Xm hn22824)) rfl (Qg h23115.one1 QF) rfl ?_);intro wd23141 hc23142 hB23143;refine Xl<|hK22859 _ _<|QC<|Qa (Q6 hs22812 rfl)<|Qc rfl<|Qb ?_;replace h:=Qf h;subst h;refine hK22853 _ _ _ rfl ?_;exact ⟨w64 (x22811+1),zs23109,(Jb x22821 r22926),v23111,rfl,hs22800,hs22802,hs22803,hs22805,hs22806,hs22807,hs22809,hs22810,rfl,(((((h22937.ext e23089).sub Jg).step (Stepp.swap hc23113 hbl23114)).step (Qj hc23142 Zx)).sub Qaw),(((((((h22890.ext he22929).step (Qj hc22935 Zy)).ext e23089).sub Jg).step (Stepp.swap hc23113 hbl23114)).step (Qj hc23142 Zx)).sub Qaw),(((((((h22891.ext he22929).step (Qj hc22935 Zy)).ext e23089).sub Jg).step (Stepp.swap hc23113 hbl23114)).step (Qj hc23142 Zx)).sub Qaw),hB23143,(((hB22936.ext e23089).chg hc23113 (Xm hn22825)).chg hc23142 (QA hn282)),((h23115.step (Qj hc23142 Zx) hc23142 (Xu hn23117)).sub Qaw),(XX hbl23114 hf22818 e23091.size),hn23117,hn23118,(QG (XS e23091 hc23113 hf22818) hc23142 hbf293)⟩
        ·refine Qw<|hK22859 _ _<|QC<|Qa (Q6 hs22812 rfl)<|Qc rfl<|Qb ?_;replace h:=Qf h;subst h;refine hK22853 _ _ _ rfl ?_;exact ⟨w64 (x22811+1),x22815,x22821,v22814,rfl,hs22800,hs22802,hs22803,hs22805,hs22806,hs22807,hs22809,hs22810,rfl,((h22889.ext he22929).sub Qjw),((h22890.ext he22929).sub Qjw),((h22891.ext he22929).sub Qjw),(h22893.ext he22929),(h22894.ext he22929),((h22892.ext he22929).sub Qjw),hf22818,hn22824,hn22825,e22930⟩
       ·refine Xp ?_;replace h:=Qf h;subst h;have ho:=hx22852 _ rfl;subst ho;refine hK22854 _ _ ?_;exact ⟨x22815,x22821,v22814,rfl,hs22800,hs22802,hs22805,hs22806,hs22807,h22801,h22804,hB22820,hB22823,h22817,hf22818,hn22824,hn22825,e22799⟩
      ·rintro ρ wd22826 ⟨x22837,x22843,v22836,rfl,hs22828,hs22830,hs22832,hs22833,hs22834,h22829,h22831,hB22842,hB22845,h22839,hf22840,hn22846,hn22847,e22827⟩;replace h:=hn22850;refine hK21789 _ _<|QC<|Qa (Q6 hs22834 rfl)<|Qc rfl<|Qb ?_;replace h:=Qf h;subst h;refine hK21783 _ _ _ rfl ?_;exact ⟨w64 (x21743+1),x22837,x22843,v22836,rfl,hs22828,hs22830,hs22832,hs22833,rfl,h22829,h22831,hB22842,hB22845,h22839,hf22840,hn22846,hn22847,e22827⟩
     ·refine Xp ?_;replace h:=Qf h;subst h;have ho:=hx21782 _ rfl;subst ho;refine hK21784 _ _ ?_;exact ⟨x21747,x21753,v21746,rfl,hB21752,hB21755,h21749,hf21750,hn21756,hn21757,e21736⟩
    ·rintro ρ wd21763 ⟨x21767,x21773,v21766,rfl,hB21772,hB21775,h21769,hf21770,hn21776,hn21777,e21764⟩;replace h:=hn21780;refine ⟨[],trivial,?_⟩;refine Qb ?_;replace h:=Qf h;subst h;refine hK17467 _ _ _ rfl ?_;exact ⟨x21767,x21773,v21766,rfl,hs17432,hB21772,hB21775,h21769,hf21770,hn21776,hn21777,e21764⟩
   ·refine Xp ?_;replace h:=Qf h;subst h;have ho:=hx17466 _ rfl;subst ho;refine hK17468 _ _ ?_;exact ⟨x17435,x17441,v17434,rfl,hs17432,hB17440,hB17443,h17437,hf17438,hn17444,hn17445,e17431⟩
  ·rintro ρ wd17446 ⟨x17451,x17457,v17450,rfl,hs17448,hB17456,hB17459,h17453,hf17454,hn17460,hn17461,e17447⟩;replace h:=hn17464;refine hK309 _ _<|Qi fun K23163 hK23163=>Qd<|Qc hs17448<|Qa (Ys rfl)<|Qa (Qn 0 Tryz.underlying147 ⟨0,Qjx⟩ rfl rfl)<|Qa (Qk Qjh rfl (Box.at hB17456))<|Qa (Qwf rfl Tryz.underlying144 rfl hB17459)<|Qa (Yy rfl rfl)<|Qb<|Qx h rfl (fun _ h=>?_) (fun _ h=>?_)
   ·refine Qd<|Qh rfl<|Qh rfl<|Qb<|Qs ?_;replace h:=Qf h;subst h;exact ⟨[_,_],⟨rfl,rfl,trivial⟩,e17447,rfl⟩
   ·refine Qw<|hK23163 _ _<|Qd<|Qc hs17448<|Qa (Ys rfl)<|Qa (Qn 0 Tryz.underlying147 ⟨0,Qjx⟩ rfl rfl)<|Qa (Qk Qjh rfl (Box.at hB17456))<|Qa (Qwf rfl Tryz.underlying144 rfl hB17459)<|Qh rfl<|Qh rfl<|Qb<|Qs ?_;replace h:=Qf h;subst h;exact ⟨[_,_],⟨rfl,rfl,trivial⟩,e17447,rfl⟩

noncomputable def Qrk:Option Bool:=(Ea (Qzo) fun r3=>(Ea (Qzn) fun r22=>(Ea (Qib r3 r22) fun r30=>(Ea (Qzr (Nf.mk ([(ByteArray.mk #[97])]:List ByteArray) ([(ByteArray.mk #[116])]:List ByteArray) [] [])) fun r84=>(Ea (bif (decide (r30.2.2=0)) then Qea (Ng.mk r30.1.Na r30.1.Nb r30.1.Ni) else some default) fun r92=>some ((((decide (r30.2.2=0))&&(decide (r92=(ByteArray.mk #[48,32,48,32,49,58,48,44,49,32,45]))))&&(decide (r84.2=0)))&&(decide (r84.1=2))) ) ) ) ) )
theorem QLu {L:List Value} {w:World} (hL:LtL L w) {r:Bool} (h:Qrk=some r):CallsTo Tryz.prog 21 [] w (fun v w'=>Ext w w'/\(.bool r)=v):=by
 have e0:=QU w;refine QS (n:=35) (rs:=[.tmp 0]) Tryz.func21 rfl rfl rfl rfl rfl<|QM rfl<|Qd<|bnd h fun r3 hr4 h=>Qe rfl (Qq Tryz.func30 QRm rfl ev0 (QMw (hL.chg e0) hr4) ?_);rintro _ wd5 ⟨he6,cs15,rfl,hrd16⟩;have e17:=e0.trans he6;have hS0:=hrd16;obtain ⟨v7,v9,v11,v13,h8,h10,h12,h14,rfl⟩:=hrd16;refine bnd h fun r22 hr23 h=>Qe rfl (Qq Tryz.func31 QRn rfl ev0 (QMv (hL.chg e17) hr23) ?_);rintro _ wd24 ⟨he25,v26,rfl,h27⟩;have e28:=e17.trans he25;refine bnd h fun r30 hr31 h=>Qe rfl (Qq Tryz.func22 QAw rfl (QZ rfl rfl) (Qzs (hL.chg e28) (hS0.ext he25) h27 hr31) ?_);rintro _ wd32 ⟨he33,cs38,rfl,hrd39⟩;have e41:=e28.trans he33;obtain ⟨v34,v36,h35,h37,rfl⟩:=hrd39;refine Qc rfl<|Qa (Xd rfl rfl)<|Qa (Xd rfl rfl)<|Qa (Xd rfl rfl)<|Qe rfl (Q9 Zk ?_);intro b44 wd45 hb46 he47 hB48;have h55:=h35.step (Ql he47 hb46);have h56:=h37.step (Ql he47 hb46);refine Qe rfl (QT XO rfl rfl rfl rfl hB48 rfl (Qg h55.one1 (Qg h56.one1 (Qg rfl QF))) rfl ?_);intro wd59 hc60 hB61;have e69:=QG (e41.trans he47) hc60 (Q3 e41 hb46);refine Qh rfl<|Qh rfl<|Qb<|Qd<|Qe rfl (XM (xs:=([(ByteArray.mk #[97])]:List ByteArray)) Tryz.underlying22 Js rfl (Qt rfl rfl QP) rfl (Elems.cons (cs:=[(.string (ByteArray.mk #[97]))]) rfl Elems.nil) rfl (Qz (hL.chg e69) hB61) ?_);intro b74 wd71 he72 h73;have e75:=e69.trans he72;refine Qe rfl (XM (xs:=([(ByteArray.mk #[116])]:List ByteArray)) Tryz.underlying22 Js rfl (Qt rfl rfl QP) rfl (Elems.cons (cs:=[(.string (ByteArray.mk #[116]))]) rfl Elems.nil) rfl (Qz (hL.chg e75) (hB61.ext he72)) ?_);intro b80 wd77 he78 h79;refine Qa (Xo ZT (Qt rfl (Q5 h73.one1) (Qt rfl (Q5 h79.one1) QP)) rfl)<|bnd h fun r84 hr85 h=>Qe rfl (Qq Tryz.func32 QRo rfl (QH rfl) (@QNs [] _ (LtL.nil _) [(.slice (some ⟨b74,0,none⟩) 1 1),(.slice (some ⟨b80,0,none⟩) 1 1),Sno,Sno] (Nf.mk ([(ByteArray.mk #[97])]:List ByteArray) ([(ByteArray.mk #[116])]:List ByteArray) [] []) ⟨(.slice (some ⟨b74,0,none⟩) 1 1),(.slice (some ⟨b80,0,none⟩) 1 1),Sno,Sno,((h73.ext he78).sub (fun _ h=>by cases h)),(h79.sub (fun _ h=>by cases h)),(SlRd.nil _ _),(SlRd.nil _ _),rfl⟩ r84 hr85) ?_);rintro _ wd86 ⟨he87,rfl⟩;have e88:=(he72.trans he78).trans he87;refine Qc rfl<|Qa (Xd rfl rfl)<|Qa (Xd rfl rfl)<|Qh rfl<|Qh rfl<|Qb<|Qd<|Qc rfl<|Qa (Xw rfl rfl)<|Qc rfl<|Qv (QN rfl) (fun hg=>(QY (Box.at (hB61.ext e88)) Yd rfl))<|bnd h fun r92 hr93 h=>Qbt _ (.string r92) (QN rfl) (fun hg=>Qq Tryz.func9 nm9 rfl (QH (Qo hg)) (@Qlx _ [] _ (LtL.nil _) [v34,v36,(Iv r30.1.Ni)] (Ng.mk r30.1.Na r30.1.Nb r30.1.Ni) ⟨v34,v36,(((h55.step (Qj hc60 Qp)).ext e88).sub (fun _ h=>by cases h)),(((h56.step (Qj hc60 Qp)).ext e88).sub (fun _ h=>by cases h)),rfl⟩ r92 (Ye hg hr93)) (by rintro _ wd94 ⟨he95,rfl⟩;exact ⟨rfl,he95⟩)) ?_;intro wd94 he95;refine Qv (QN rfl) (fun hg=>(Qaz (Qo hg) rfl))<|Qa (X1 rfl (fun hb=>(Qo hb)) rfl)<|Qc rfl<|Qv (QN rfl) (fun hg=>(QB rfl))<|Qv (QN rfl) (fun hg=>(Xw (Qo hg) rfl))<|Qa (X1 rfl (fun hb=>(Qo hb)) rfl)<|Qc rfl<|Qv (QN rfl) (fun hg=>(QB rfl))<|Qv (QN rfl) (fun hg=>(Xw (Qo hg) rfl))<|Qa (X1 rfl (fun hb=>(Qo hb)) rfl)<|Qh rfl<|Qb<|Qs ?_;cases Qf h;exact ⟨[_],⟨rfl,trivial⟩,(((e75.trans he78).trans he87).trans he95),rfl⟩

end Go.Gw

end
section
namespace Go.Gw
open Go
section
variable {P:Program} [JD P] {n:Nat} {ρ:Env} {w:World}
variable {d:Option Nat} {t T:TypeId} {p:String} {af:Array Edge} {gu:Option (Nat×Bool)} {x y:Operand}
theorem QIp {α:Type} {b k:Nat} {i:Int} {xs:List α} {el:α} {v:Value} {cs vs:List Value} {T':TypeId} {K:Value->World->Prop} (f:Nat->List Value) (hs:Xi P T k) (hv:v.cells.toList=vs) (hk:vs.length=k)
  (hx:Qm n ρ x=.pointer (some (Addr.add ⟨b,0,none⟩ (i.toNat * k)))) (hy:Qm n ρ y=v) (hi:idx xs i=some el) (hn:xs.length=3) (hb:Box w b cs T') (hl:cs.length=3 * k) (h1:∀ u∈vs,u.oneCell'=true)
  (h0:YT cs 0 vs=f 0) (h2:YT cs k vs=f 1) (h3:YT cs (2 * k) vs=f 2)
  (h:∀ w',Chg [.pointer (some ⟨b,0,none⟩)] w w'->Box w' b (f i.toNat) T'->K undef w'):Eff P ⟨d,.store T x y,t,p,af,gu⟩ n ρ w K:=by
 have hlt:=(JG hi).2.1;rw [hn] at hlt;rw [YP,Ef] at hx;refine Y2 (vs:=vs) (k:=k) hs hv hk hx hy hb ?_ h1 (cs':=f i.toNat) ?_ h
 ·rw [Nat.ble_eq,hl];have:(i.toNat+1) * k<=3 * k:=Nat.mul_le_mul_right k (by omega);rw [Nat.succ_mul] at this;exact this
 ·have hj:i.toNat=0\/i.toNat=1\/i.toNat=2:=by omega
  rcases hj with e | e | e<;>rw [e]
  ·simpa using h0
  ·simpa using h2
  ·exact h3
end
theorem QOu {α:Type} {xs:List α} {i:Int} {el:α} (hn:xs.length=3) (h:idx xs i=some el):i < ((3:Nat):Int):=by obtain ⟨h0,h1,_⟩:=JG h;omega
end Go.Gw

end
