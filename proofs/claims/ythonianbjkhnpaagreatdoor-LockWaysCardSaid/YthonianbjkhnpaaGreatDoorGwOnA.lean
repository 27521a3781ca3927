/- Laws of the walk. Condition: each theorem says its own. -/
import Derived.Test.YthonianbjkhnpaaGreatDoorGwFnZ
import Derived.Test.YthonianbjkhnpaaGreatDoorGwFacts2
import Derived.Test.YthonianbjkhnpaaGreatDoorGwCj21
import Derived.Test.YthonianbjkhnpaaGreatDoorGwWg9
set_option linter.unusedVariables false
set_option linter.unusedSimpArgs false
set_option linter.unusedSectionVars false
open Nat renaming mul_one→Ea,le_trans→Eb
section
set_option maxRecDepth 100000
set_option maxHeartbeats 8000000
set_option linter.unusedVariables false
set_option linter.unusedSectionVars false
namespace Go.Gw
open Go Go.Conc Go.Proofs
attribute [local irreducible] T0 TS TT TP TX TZ Eff Stp WC Quiet gd
theorem QDf:Xr Tryz.prog 105 1:=Yv (by kernel_rfl)
theorem QCr:Zd Tryz.prog 105:=⟨_,Tryz.underlying105,trivial⟩
theorem QTj:Zd Tryz.prog 88:=⟨_,Tryz.underlying88,trivial⟩
theorem QUa:Xr Tryz.prog 88 1:=Yv (by kernel_rfl)
theorem QTk:Zd Tryz.prog 138:=⟨_,Tryz.underlying138,trivial⟩
theorem QDe:Xr Tryz.prog 150 1:=Yv (by kernel_rfl)
def Qeo (L:List Value) (x:List Nu):Value->World->Prop:=fun v w=>SlRd L w v x
def Qan:Code->Code
 | .seq _ y=>y
 | c=>c
def Qvh:Code->Array Oper
 | .region _ o _=>o
 | _=>#[]
noncomputable def Qog (Wg:Nat):List Deferred:=[dcall 80 #[.pointer (some ⟨Wg,0,none⟩)]]
theorem Q0y {P:Program} [JD P] {n:Nat} {ρ:Env} {w:World} {d:Option Nat} {t T:TypeId} {p:String} {af:Array Edge} {gu:Option (Nat×Bool)} {x y:Operand} {e C m cap j:Nat} {kk:IntKind} (hu:P.underlying T=some (.slice e)) (hs:Xr P e 1) (h1:j < m) (hx:Qr n ρ x=.slice (some ⟨C,0,none⟩) m cap) (hy:Qr n ρ y=.int kk (j:Int)) :
  Yl P n ρ ⟨d,.indexAddr T x y,t,p,af,gu⟩ w (.pointer (some ⟨C,j,none⟩)):=by
 have h2:(j:Int) < (m:Int):=by omega
 have e1:Addr.add ⟨C,0,none⟩ j=⟨C,j,none⟩:=by rw [Y1,Nat.zero_add]
 exact Zf (Yn (Qlc _ _ _)) fun w1 _=>by simp [execOp,hx,hy,Instr.indexAt,asIntOf,run_underlying hu,Instr.sureAddr,h1,Zs hs,e1]
theorem QPu {Wg:Nat} {a:Act} {ops:Array Oper}:LW Tryz.prog 148 Wg 1018 .A (G ((baseD 79).at (wD (Qog Wg) a) [.inRegion ops []]) [bot Tryz.prog]):=by
 refine ⟨rfl,.inl fun W _=>⟨_,stepG_region_end,?_⟩⟩;refine ⟨rfl,.inl fun W _=>⟨_,stepG_end,?_⟩⟩;refine ⟨rfl,.inl fun W _=>⟨_,stepG_unwind_enter (f:=80) (args:=#[.pointer (some ⟨Wg,0,none⟩)]) (ds:=[]) rfl lkLib.f_done (by kernel_rfl) rfl,?_⟩⟩;exact QPt lkLib (qt:=2) rfl (QUi Tryz.func79 rfl rfl)
theorem QTm {Z:Nat->Prop} {C Wg:Nat} {L:List Value} {w:World} (hL:LtL L w) {b2 b4 b5 k cap n:Nat} {pn:Value} {nd:Nl} {x:List Nu}
    (h2:RowAt w b2 [.slice (some ⟨C,0,none⟩) n cap]) (h4:RowAt w b4 [.int .i64 k]) (h5:RowAt w b5 [pn]) (hp:PtRd L w pn (some nd)) (hk:k < n) (hs:Qgt nd.line=some x) :
    Wlk (Jw Tryz.prog Z) (fun g w=>∃ m,Qep Tryz.prog 148 Wg C k (Qeo L x) m g w) (born Tryz.prog { target:=.fn (.func 79) #[.pointer (some ⟨Wg,0,none⟩),.pointer (some ⟨b5,0,none⟩),.pointer (some ⟨b2,0,none⟩),.pointer (some ⟨b4,0,none⟩)],args:=#[] }) w:=by
  letI:JD Tryz.prog:=⟨Jw Tryz.prog Z⟩
  obtain ⟨bn,rfl,hpn⟩:=hp.is;refine .ctl rfl (fun W=>QXr Tryz.func79 (by kernel_rfl) rfl) ?_;have e:=Qgh [.pointer (some ⟨Wg,0,none⟩),.pointer (some ⟨b5,0,none⟩),.pointer (some ⟨b2,0,none⟩),.pointer (some ⟨b4,0,none⟩)] 12 (by simp);refine Eq.subst (motive:=fun a=>Wlk (Jw Tryz.prog Z) (fun g w=>∃ m,Qep Tryz.prog 148 Wg C k (Qeo L x) m g w) (G ((baseD 79).at a [.code _]) [bot Tryz.prog]) w) e.symm ?_;refine .ctl rfl (fun W=>stepG_seq) ?_;refine .ctl rfl (fun W=>stepG_region) ?_;refine .ctl rfl (fun W=>stepG_defer rfl rfl (by simp [baseD]) rfl) ?_;refine .ctl rfl (fun W=>stepG_region_end) ?_;have eD:dcall 80 (Array.map (act 12 (fun i=>[Value.pointer (some ⟨Wg,0,none⟩),.pointer (some ⟨b5,0,none⟩),.pointer (some ⟨b2,0,none⟩),.pointer (some ⟨b4,0,none⟩)].getD i undef)).eval #[Operand.tmp 0])=dcall 80 #[.pointer (some ⟨Wg,0,none⟩)]:=by
    rw [Qbg];simp only [List.map_toArray,List.map_cons,List.map_nil];rfl
  rw [eD];show Wlk (Jw Tryz.prog Z) (fun g w=>∃ m,Qep Tryz.prog 148 Wg C k (Qeo L x) m g w) (G ((baseD 79).at (wD (Qog Wg) (act 12 (fun i=>[Value.pointer (some ⟨Wg,0,none⟩),.pointer (some ⟨b5,0,none⟩),.pointer (some ⟨b2,0,none⟩),.pointer (some ⟨b4,0,none⟩)].getD i undef))) [.code (Qan (Tryz.f79.body.getD .skip))]) [bot Tryz.prog]) w;refine QZx (n:=12) (j:=8) (ds:=Qog Wg) (fun w0 w'=>Ext w0 w') XD [(0,false),(1,false),(2,false),(3,false),(4,false),(5,false),(6,true),(7,false)] (by kernel_rfl) (fun w=>Chg.refl _ _) (by simp [baseD])
    (Kt:=fun ρ' w'=>ρ' 11=.pointer (some ⟨C,k,none⟩)/\SlRd L w' (ρ' 10) x) ?_ (fun ρ' w' ⟨k1,k2⟩=>.stop fun w1 r1=>⟨1018,rfl,G ((baseD 79).at (wD (Qog Wg) (act 12 ρ')) [.inRegion (Qvh (Qan (Tryz.f79.body.getD .skip))) []]) [bot Tryz.prog],ρ' 10,fun W cs e hC hkc=>?_,QPu,fun w2 r2=>k2.step (Stepp.ext (r1.trans r2).ext)⟩)
  · have e0:Ext w { w with drawn:=w.drawn+1 }:=Ext.drew w;generalize ({ w with drawn:=w.drawn+1 }:World)=w0 at e0 ⊢;refine Qer (v:=.slice (some ⟨C,0,none⟩) n cap) rfl rfl (fun w' hS=>Qh QTk rfl (h2.at.ext (e0.trans hS))) ?_;refine Qer (v:=.int .i64 k) rfl rfl (fun w' hS=>Qh QP rfl (h4.at.ext (e0.trans hS))) ?_;refine Qer (v:=.pointer (some ⟨bn,0,none⟩)) rfl rfl (fun w' hS=>Qh QCr rfl (h5.at.ext (e0.trans hS))) ?_;refine Qer (v:=.pointer (some ⟨bn,0,none⟩)) rfl rfl (fun w' hS=>X5 rfl) ?_;refine Qer (v:=.pointer (some ⟨bn,0,none⟩)) rfl rfl (fun w' hS=>Jb 0 Tryz.underlying107 rfl rfl ⟨0,QUa⟩ rfl rfl) ?_;obtain ⟨cs0,hat,v1,v2,h1,h2',rfl⟩:=hpn.at;refine Qer (v:=v1) rfl rfl (fun w' hS=>Qh QTj rfl (hat.ext (e0.trans hS))) ?_;refine QHh rfl rfl (Qs Tryz.func81 (by kernel_rfl) rfl (QO rfl) (QPf (hL.chg e0) (h1.ext e0) hs) ?_);rintro _ w2 ⟨e2,v,rfl,hrd⟩;refine ⟨e2,?_⟩;refine Qer (v:=.pointer (some ⟨C,k,none⟩)) rfl rfl (fun w' hS=>Q0y Tryz.underlying138 QDe hk rfl rfl) ?_;exact QHi ⟨rfl,hrd⟩
  · obtain ⟨q,c,hv,_⟩:=k2.shape;refine QXs (ad:=⟨C,k,none⟩) (v:=ρ' 10) (u:=cs[k]) rfl rfl (by simp [baseD]) rfl rfl QDe (by rw [Qwx,Qbg];exact k1) (by rw [Qwx,Qbg];rfl) ⟨q,_,c,hv⟩ (by kernel_rfl) (by simp [World.cell?,hC,hkc]) (by simp [World.frozen?,hC])
end Go.Gw

end
section
set_option maxRecDepth 100000
set_option maxHeartbeats 8000000
set_option linter.unusedVariables false
set_option linter.unusedSectionVars false
namespace Go.Gw
open Go Go.Conc Go.Proofs
attribute [local irreducible] T0 TS TT TP TX TZ Eff Stp WC Quiet gd
section
variable {P:Program}
theorem QW.go {ty:TypeId} {Wg C N Low:Nat} {et:TypeId} {cs0:Array Value} {S:Goroutine->World->Prop} {Z:Nat->Prop} {orig:Nat->Option Obj} {O:List (Nat×(Value->World->Prop))} {b:Frame} {a:Act} {kk:List Item} {cs:List Frame} {ops:Array Oper} {i:Nat} {rest:List Nat} {o:Oper} {cl:Call} {f:FuncId} {caps:Array Value} {w:World}
  (K:Nat->Prop) (k:Nat) (φ:Value->World->Prop) (ho:ops[i]?=some o) (hop:o.op=.go cl) (hw:Region.wanted o (yielded ops a.tmps)=true) (hb:b.kind≠.early) (hd:∀ W,(resolve a.eval cl o.type).run P W=.ok { target:=.fn (.func f) caps,args:=#[] } W) (hde:∀ W,(resolve a.eval cl o.type).events P W #[]=#[])
  (hdst:o.dst=none) (hk:k < N) (hkO:∀ p∈O,p.1≠k)
  (hC:∀ w1,Rel w w1->Rows K w1) (hW:∀ w1,Rel w w1->Wlk (Jw P fun b=>Z b\/K b) (fun g w=>∃ m,Qep P ty Wg C k φ m g w) (born P { target:=.fn (.func f) caps,args:=#[] }) (hid (fun b=>Z b\/K b) (frz K w1)))
  (hn:∀ w1,Rel w w1->QW P ty Wg C N Low et cs0 S 0 (fun b=>Z b\/K b) (Qcb Z K w1 orig) (O++[(k,φ)]) (G (b.at a (.inRegion ops rest::kk)) cs) (frz K w1)):QW P ty Wg C N Low et cs0 S 1 Z orig O (G (b.at a (.inRegion ops (i::rest)::kk)) cs) w:=by
 refine .fork _ _ K k φ rfl (fun W=>?_) hk hkO hC hW hn;have hrun:(execOp a.eval o).run P W=.ok (.spawn { target:=.fn (.func f) caps,args:=#[] }) W:=by simp [execOp,hop,hd]
 have hev:listed P b.fn a o W=#[]:=by
  simp_all [seen_none,execOp,listed]
 rw [stepG_spawn ho hw hb hrun rfl,hev,hdst];rfl
theorem QFj {main:Bool} {b:Frame} {a:Act} {kk:List Item} {cs:List Frame} {ops:Array Oper} {i:Nat} {rest:List Nat} {o:Oper} {f:FuncId} {fn:Func} {c:Code} {args:Array Operand} {ats:Array TypeId} (W:World)
    (ho:ops[i]?=some o) (hw:Region.wanted o (yielded ops a.tmps)=true) (hk:b.kind≠.early) (hop:o.op=.call { callee:=.value (.func f),args,argTypes:=ats })
    (hf : P.funcs[f]? = some fn) (hname : (fn.name == "runtime.NumGoroutine") = false) (hb : fn.body = some c) :
    stepG P main (G (b.at a (.inRegion ops (i::rest)::kk)) cs) W=.go (G ((base f).at { tmps:=args.map a.eval++Array.replicate (fn.ntmps - (args.map a.eval).size) undef,defers:=[] } [.code c]) (b.at a (.inRegion ops (i::rest)::kk)::cs)) W #[]:=by
  have hb':fn.body.isNone=false:=by rw [hb];rfl
  rw [stepG_enter ho hw hk (run_call_body hop hf hname hb'),enter_at _ hf hb]
  grind [listed,events_call_body,seen_none]
end
section
variable {Wg C N Low:Nat} {et:TypeId} {cs0:Array Value} {S:Goroutine->World->Prop} {Z:Nat->Prop} {orig:Nat->Option Obj} {O:List (Nat×(Value->World->Prop))} {b:Frame} {a:Act} {kk:List Item} {cs:List Frame} {ops:Array Oper} {i:Nat} {rest:List Nat} {o:Oper} {w:World} {args:Array Operand} {ats:Array TypeId}
theorem QW.addc (ho:ops[i]?=some o) (hw:Region.wanted o (yielded ops a.tmps)=true) (hk:b.kind≠.early) (hop:o.op=.call { callee:=.value (.func 78),args,argTypes:=ats }) (ha:args.map a.eval=#[.pointer (some ⟨Wg,0,none⟩),.int .i64 1])
  (h:∀ w1,Rel w w1->QW Tryz.prog 148 Wg C N Low et cs0 S 1 Z orig O (G (b.at (a.put ((ops[i]?).bind (·.dst)) (.tuple #[])) (.inRegion ops rest::kk)) cs) w1):QW Tryz.prog 148 Wg C N Low et cs0 S 0 Z orig O (G (b.at a (.inRegion ops (i::rest)::kk)) cs) w:=by
 refine QW.of (.ctl rfl (fun W=>QFj (c:=ConcR.Gen.body_add lkLink) W ho hw hk hop lkLib.f_add (by kernel_rfl) (by kernel_rfl)) (.stop fun w1 r1=>?_));refine .add _ 1000 rfl ?_ (fun w2 r2=>h w2 (r1.trans r2));rw [ha];refine Eq.subst (motive:=fun T=>MA Tryz.prog 148 Wg (G (b.at (a.put ((ops[i]?).bind (·.dst)) (.tuple #[])) (.inRegion ops rest::kk)) cs) 1000 .K (G ((base 78).at ⟨T,[]⟩ [.code (ConcR.Gen.body_add lkLink)]) (b.at a (.inRegion ops (i::rest)::kk)::cs))) ?_ (QPv lkLib)
 kernel_rfl
theorem QW.waitc (ho:ops[i]?=some o) (hw:Region.wanted o (yielded ops a.tmps)=true) (hk:b.kind≠.early) (hop:o.op=.call { callee:=.value (.func 82),args,argTypes:=ats }) (ha:args.map a.eval=#[.pointer (some ⟨Wg,0,none⟩)])
  (h:∀ w1 w' cs',Rel w w1->FullG C N Low cs0 O w1 w' cs'->S (G (b.at (a.put ((ops[i]?).bind (·.dst)) (.tuple #[])) (.inRegion ops rest::kk)) cs) (thaw Z orig (Qal C cs' et w'))):QW Tryz.prog 148 Wg C N Low et cs0 S 0 Z orig O (G (b.at a (.inRegion ops (i::rest)::kk)) cs) w:=by
 refine QW.of (.ctl rfl (fun W=>QFj (c:=ConcR.Gen.body_wait lkLink) W ho hw hk hop lkLib.f_wait (by kernel_rfl) (by kernel_rfl)) (.stop fun w1 r1=>?_));refine .wait (AnW lkLink Wg (b.at a (.inRegion ops (i::rest)::kk)::cs)) _ 1000 1000 rfl (fun g ⟨T,hg,_⟩=>by rw [hg];rfl) rfl ?_ (fun g hg=>QQi lkLib g hg) (fun w2 w' cs' r2 hF=>h w2 w' cs' (r1.trans r2) hF);rw [ha];refine Eq.subst (motive:=fun T=>MW Tryz.prog 148 Wg (AnW lkLink Wg (b.at a (.inRegion ops (i::rest)::kk)::cs)) (G (b.at (a.put ((ops[i]?).bind (·.dst)) (.tuple #[])) (.inRegion ops rest::kk)) cs) 1000 .K (G ((base 82).at ⟨T,[]⟩ [.code (ConcR.Gen.body_wait lkLink)]) (b.at a (.inRegion ops (i::rest)::kk)::cs))) ?_ (QQj lkLib)
 kernel_rfl
end
end Go.Gw

end
section
set_option maxRecDepth 100000
set_option maxHeartbeats 8000000
set_option linter.unusedVariables false
set_option linter.unusedSectionVars false
namespace Go.Gw
open Go Go.Conc Go.Proofs
attribute [local irreducible] T0 TS TT TP TX TZ Eff Stp WC Quiet gd
theorem J8 {ρ:Env} {d i:Nat} {v:Value} (h:i < d):Xv ρ (some d) v i=ρ i:=by simp [Xv,upd,Qjq (Nat.ne_of_lt h)]
theorem QW.rely {P:Program} {ty:TypeId} {Wg C N Low:Nat} {et:TypeId} {cs0:Array Value} {S:Goroutine->World->Prop} {pd:Nat} {Z:Nat->Prop} {orig:Nat->Option Obj} {O:List (Nat×(Value->World->Prop))} {g:Goroutine} {w w1:World} (h:QW P ty Wg C N Low et cs0 S pd Z orig O g w) (r:Rel w w1):QW P ty Wg C N Low et cs0 S pd Z orig O g w1:=by
 cases h with
 | step nx hs h1 h2=>exact .step nx hs (fun w2 r2=>h1 w2 (r.trans r2)) (fun w2 r2=>h2 w2 (r.trans r2))
 | add gE m hs h1 h2=>exact .add gE m hs h1 (fun w2 r2=>h2 w2 (r.trans r2))
 | fork g' child K k φ hs h1 h2 h3 h4 h5 h6=>exact .fork g' child K k φ hs h1 h2 h3 (fun w2 r2=>h4 w2 (r.trans r2)) (fun w2 r2=>h5 w2 (r.trans r2)) (fun w2 r2=>h6 w2 (r.trans r2))
 | wait An gE m NA hs h1 h2 h3 h4 h5=>exact .wait An gE m NA hs h1 h2 h3 h4 (fun w2 w' cs r2 hF=>h5 w2 w' cs (r.trans r2) hF)
theorem QW.stop {P:Program} {ty:TypeId} {Wg C N Low:Nat} {et:TypeId} {cs0:Array Value} {S:Goroutine->World->Prop} {pd:Nat} {Z:Nat->Prop} {orig:Nat->Option Obj} {O:List (Nat×(Value->World->Prop))} {g:Goroutine} {w:World} {J:Jd P} (h:QW P ty Wg C N Low et cs0 S pd Z orig O g w):Wlk J (fun g w=>QW P ty Wg C N Low et cs0 S pd Z orig O g w) g w:=Wlk.stop fun w1 r=>h.rely r
theorem Qqe {ρ:Env} {d i:Nat} {v:Value} (h:i≠d):Xv ρ (some d) v i=ρ i:=by simp [Xv,upd,Qjq h]
theorem Q1p:ZI Tryz.prog 105 [.pointer none]:=Je (by kernel_rfl)
theorem Q1r:ZI Tryz.prog 3 [.int .i64 0]:=Je (by kernel_rfl)
noncomputable def Qed:List (Option Nl)->Option (List (List Nu))
 | []=>some []
 | o::l=>Option.bind o fun n=>Option.bind (Qgt n.line) fun x=>Option.bind (Qed l) fun r=>some (x::r)
noncomputable def Qjt (ns:List (Option Nl)):Option (List (List Nu)):=bif ns.isEmpty then none else Qed ns
theorem Qum:∀ {ns:List (Option Nl)} {rs:List (List Nu)},Qed ns=some rs->rs.length=ns.length/\∀ (k:Nat) (x:List Nu),rs[k]?=some x->∃ nd:Nl,ns[k]?=some (some nd)/\Qgt nd.line=some x
 | [],rs,h=>by cases h;exact ⟨rfl,fun k x h=>by simp at h⟩
 | o::l,rs,h=>by
  unfold Qed at h;obtain ⟨nd,h1,h⟩:=Qdm h;obtain ⟨x,h2,h⟩:=Qdm h;obtain ⟨r,h3,h⟩:=Qdm h;cases h;obtain ⟨h4,h5⟩:=Qum h3;refine ⟨by simp [h4],fun k y hy=>?_⟩;cases k with
  | zero=>simp at hy;subst hy;exact ⟨nd,by simp [h1],h2⟩
  | succ k=>simp at hy;obtain ⟨nd',h6,h7⟩:=h5 k y hy;exact ⟨nd',by simpa using h6,h7⟩
def Qwa:Code->Code
 | .seq x _=>x
 | c=>c
def lpO:Code->Code
 | .block _ (.loop c)=>c
 | c=>c
noncomputable def Qha:Code:=Qan (Tryz.f40.body.getD .skip)
noncomputable def QCw:Code:=Qan (Qan (Qan Qha))
noncomputable def LBo:Code:=lpO (Qan (Qwa (Qan Qha)))
noncomputable def posts (L:List Value) (rs:List (List Nu)) (j:Nat):List (Nat×(Value->World->Prop)):=(List.range j).map fun k=>(k,Qeo L (rs.getD k []))
theorem QUg {L:List Value} {rs:List (List Nu)} {j:Nat}:posts L rs (j+1)=posts L rs j++[(j,Qeo L (rs.getD j []))]:=by
 unfold posts;rw [List.range_succ,List.map_append];rfl
theorem QUf {L:List Value} {rs:List (List Nu)} {j:Nat}:∀ p∈posts L rs j,p.1≠j:=fun p hp e=>by
 unfold posts at hp;obtain ⟨k,hk,rfl⟩:=List.mem_map.1 hp;have:=List.mem_range.1 hk;simp only at e;omega
section
variable {L:List Value} {w0:World} {C cap b2:Nat} {v:Value} {ns:List (Option Nl)} {rs:List (List Nu)} {ρ0:Env}
structure On0 (L:List Value) (w0:World) (C cap b2:Nat) (v:Value) (ns:List (Option Nl)) (rs:List (List Nu)) (ρ0:Env):Prop where
 hL:LtL L w0
 hC:pt C∈L
 r2:ρ0 2=pt b2
 n2:b2≠C
 B2:RowAt w0 b2 [.slice (some ⟨C,0,none⟩) ns.length cap]
 hs:SlRd L w0 v ns
 hn:ns.length<=cap
 hm:ns.length<=1073741824
 rs:Qed ns=some rs
theorem Qur {b:Nat}:pt b∈[pt b]:=List.mem_singleton.2 rfl
theorem QLz (hP:On0 L w0 C cap b2 v ns rs ρ0) {Wg Low N:Nat} (hN:N=cap) {cs0:Array Value} {S:Goroutine->World->Prop} {b:Frame} (hb:b.kind≠.early) {kk:List Item} {cs:List Frame} (hW:w0.heap.size<=Wg)
    (hE:∀ ρ w Z orig,(∀ i,i < 3->ρ i=ρ0 i)->ρ 3=pt Wg->Inv w0 C Z orig w->QW Tryz.prog 148 Wg C N Low 150 cs0 S 0 Z orig (posts L rs ns.length) (G (b.at (act 91 ρ) kk) cs) w) :
    ∀ (i j:Nat),j+i=ns.length->∀ (ρ:Env) (w:World) (Z:Nat->Prop) (orig:Nat->Option Obj),(∀ i,i < 3->ρ i=ρ0 i)->ρ 3=pt Wg->ρ 21=v->ρ 22=.int .i64 ns.length->ρ 23=.int .i64 j->Inv w0 C Z orig w ->
      QW Tryz.prog 148 Wg C N Low 150 cs0 S 0 Z orig (posts L rs j) (G (b.at (act 91 ρ) (.code LBo::.inLoop LBo::.inBlock 0::kk)) cs) w:=by
  obtain ⟨hrl,hrg⟩:=Qum hP.rs;have hm:=hP.hm
  have head : ∀ (j : Nat) (tr : Bool), tr = decide (j < ns.length) -> ∀ (ρ : Env) (w : World) (Z : Nat -> Prop) (orig : Nat -> Option Obj) (O : List (Nat × (Value -> World -> Prop))), ρ 22 = .int .i64 ns.length -> ρ 23 = .int .i64 j ->
      (∀ ρ',(∀ i,i < 24->ρ' i=ρ i)->QW Tryz.prog 148 Wg C N Low 150 cs0 S 0 Z orig O (G (b.at (act 91 ρ') (.code (bif tr then .skip else .exit 0)::.code (Qan (Qan LBo))::.inLoop LBo::.inBlock 0::kk)) cs) w) ->
      QW Tryz.prog 148 Wg C N Low 150 cs0 S 0 Z orig O (G (b.at (act 91 ρ) (.code LBo::.inLoop LBo::.inBlock 0::kk)) cs) w:=by
    intro j tr htr ρ w Z orig O h22 h23 hk;refine QW.of ?_
    letI:JD Tryz.prog:=⟨Jp Tryz.prog Z⟩
    refine Qdc (Qpg (n:=91) (K:=fun ρ' w'=>w'=w/\ρ' 24=.bool tr/\∀ i,i < 24->ρ' i=ρ i) ?_ hb ?_)
    · refine Jf (v:=.bool (decide ((j:Int) < (ns.length:Int)))) rfl (Q9 h23 h22) ?_;refine Qb ⟨rfl,?_,fun i hi=>J8 hi⟩;rw [htr];show Value.bool (decide ((j:Int) < (ns.length:Int)))=_;congr 1;by_cases h:j < ns.length
      · rw [decide_eq_true h,decide_eq_true];omega
      · rw [decide_eq_false h,decide_eq_false];omega
    · rintro ρ' w' ⟨rfl,h24,hr'⟩;exact Qdc (QJh (n:=91) (by exact h24) (hk ρ' hr').stop)
  intro i
  induction i with
  | zero =>
    intro j hj ρ w Z orig hρ h3 h21 h22 h23 hI;obtain rfl:j=ns.length:=by omega
    refine head _ false (by simp) ρ w Z orig _ h22 h23 fun ρ' hr=>QW.of ?_
    letI:JD Tryz.prog:=⟨Jp Tryz.prog Z⟩
    refine QKl rfl ?_;exact (hE ρ' w Z orig (fun i hi=>(hr i (by omega)).trans (hρ i hi)) ((hr 3 (by omega)).trans h3) hI).stop
  | succ i ih =>
    intro j hj ρ w Z orig hρ h3 h21 h22 h23 hI;refine head _ true (by simp;omega) ρ w Z orig _ h22 h23 fun ρ1 hr1=>QW.of ?_
    letI:JD Tryz.prog:=⟨Jp Tryz.prog Z⟩
    have q3:ρ1 3=pt Wg:=(hr1 3 (by omega)).trans h3;have q21:ρ1 21=v:=(hr1 21 (by omega)).trans h21;have q22:ρ1 22=.int .i64 ns.length:=(hr1 22 (by omega)).trans h22;have q23:ρ1 23=.int .i64 j:=(hr1 23 (by omega)).trans h23;have hjl:j < ns.length:=by omega
    obtain ⟨x,hx⟩:∃ x,rs[j]?=some x:=⟨_,List.getElem?_eq_getElem (by omega)⟩;obtain ⟨nd,hnd,hps⟩:=hrg j x hx;have hel:idx ns (j:Int)=some (some nd):=by unfold idx;rw [if_pos (by omega)];simpa using hnd
    have hs':SlRd L w v ns:=hP.hs.step (hI.stepp hP.hC);obtain ⟨csn,hat,pn,hpn,rfl⟩:=SlRd.at hs' hel;have hlt:C < w0.heap.size:=hI.lt8;refine QWs (Qdc (Qyh (Qdc (Qpg (n:=91) (K:=fun ρ' w'=>(∀ i,i < 24->i≠4->i≠5->ρ' i=ρ1 i)/\∃ b4 b5,ρ' 4=pt b4/\ρ' 5=pt b5/\w0.heap.size<=b4/\w0.heap.size<=b5/\Inv w0 C Z orig w'/\Box w' b4 [.int .i64 j] 3/\Box w' b5 [pn] 105/\PtRd L w' pn (some nd)) ?_ hb ?_))))
    · refine Jf (v:=.int .i64 j) rfl (Qz q23) ?_;refine Jf (v:=.pointer (some (YG v (j:Int).toNat 1))) rfl (Q5 Tryz.underlying93 QDf hs' hel q21 q23) ?_;refine Jf (v:=pn) rfl (Qh QCr rfl hat) ?_;refine Qg rfl (Xh Q1r fun b4 w4 hb4 e4 hB4=>?_);refine Qg rfl (Xh Q1p fun b5 w5 hb5 e5 hB5=>?_);have n45:b4≠b5:=fun e=>by have:=hB4.lt;omega
      refine Qg rfl (Zq (vs:=[.int .i64 j]) (cs':=[.int .i64 j]) QH rfl rfl rfl rfl (hB4.ext e5) rfl (Qj rfl QJ) rfl fun w6 c6 hB6=>?_);have hB5':=hB5.chg c6 (QB n45);refine Qg rfl (Zq (vs:=[pn]) (cs':=[pn]) QDf (Xa hpn.one1) rfl rfl rfl hB5' rfl (Qj hpn.one1 QJ) rfl fun w7 c7 hB7=>Qb ?_);have h4w:w0.heap.size<=b4:=Eb hI.size hb4;have h5w:w0.heap.size<=b5:=Eb (Eb hI.size e4.size) hb5;have z4:¬ Z b4:=fun hz=>by obtain ⟨_,_,_,_,h1,_⟩:=hI.zrow _ hz;have:=Js h1;omega
      have z5:¬ Z b5:=fun hz=>by obtain ⟨_,_,_,_,h1,_⟩:=hI.zrow _ hz;have:=Js h1;have:=e4.size;omega
      have e07:Ext w w7:=QM (QM (e4.trans e5) c6 hb4) c7 (Eb e4.size hb5);refine ⟨fun i hi h1 h2=>?_,b4,b5,?_,rfl,h4w,h5w,((((hI.ext e4).ext e5).chg c6 (.inr ⟨h4w,z4⟩)).chg c7 (.inr ⟨h5w,z5⟩)),hB6.chg c7 (QB n45.symm),hB7,hpn.ext e07⟩
      · exact (Qqe h2).trans ((Qqe h1).trans ((J8 (by omega)).trans ((J8 (by omega)).trans (J8 (by omega)))))
      · rfl
    · rintro ρ2 w2 ⟨k1,b4,b5,k4,k5,h4w,h5w,hI2,hB4,hB5,hpn2⟩;refine Qdc (Qph ?_);refine .stop fun w3 r3=>?_;refine QW.addc rfl rfl hb rfl ?_ fun w4 r4=>QW.of ?_
      · rw [Qbg];simp only [List.map_toArray,List.map_cons,List.map_nil];show #[ρ2 3,Value.int .i64 1]=_;rw [(k1 3 (by omega) (by omega) (by omega)).trans q3]
      rw [JS];show Wlk (Jp Tryz.prog Z) _ (G (b.at (act 91 (Xv ρ2 (some 28) (.tuple #[]))) _) cs) w4;generalize hρ3:Xv ρ2 (some 28) (.tuple #[])=ρ3;have hr3:∀ i,i < 28->ρ3 i=ρ2 i:=fun i hi=>by rw [<-hρ3];exact J8 hi
      have p3:ρ3 3=pt Wg:=(hr3 3 (by omega)).trans ((k1 3 (by omega) (by omega) (by omega)).trans q3);have p2:ρ3 2=pt b2:=(hr3 2 (by omega)).trans ((k1 2 (by omega) (by omega) (by omega)).trans ((hr1 2 (by omega)).trans ((hρ 2 (by omega)).trans hP.r2)));have p4:ρ3 4=pt b4:=(hr3 4 (by omega)).trans k4;have p5:ρ3 5=pt b5:=(hr3 5 (by omega)).trans k5;refine Qsb (Qph ?_);refine QTp (n:=91) (i:=0) (rest:=[1]) (K:=fun v w'=>v=.func (.func 79) #[] (List.toArray [pt Wg,pt b5,pt b2,pt b4])/\w'=w4) rfl rfl ?_ hb ?_
      · exact QKd (Qbf (cs:=[pt Wg,pt b5,pt b2,pt b4]) (JU p3 p5 p2 p4)) ⟨rfl,rfl⟩
      rintro _ w' ⟨rfl,rfl⟩;refine .stop fun w5 r5=>?_;have r25:Rel w2 w5:=(r3.trans r4).trans r5;have hI5:=hI2.rel r25;have hv:(act 91 (Xv ρ3 (some 29) (.func (.func 79) #[] (List.toArray [pt Wg,pt b5,pt b2,pt b4])))).eval (.tmp 29)=.func (.func 79) #[] (List.toArray [pt Wg,pt b5,pt b2,pt b4]):=by rw [Qbg];rfl
      have n4:b4≠C:=fun e=>by omega
      have n5:b5≠C:=fun e=>by omega
      refine QW.go (CC w5 C) j (Qeo L (rs.getD j [])) rfl rfl (by kernel_rfl) hb (f:=79) (caps:=#[pt Wg,pt b5,pt b2,pt b4]) (fun W=>?_) (fun W=>?_) rfl (by rw [hN];exact Nat.lt_of_lt_of_le hjl hP.hn) QUf (fun w6 r6=>QIw r6) (fun w6 r6=>?_) (fun w6 r6=>?_)
      · simp only [resolve,hv];simp [Deferred.ofValue]
      · simp only [resolve,hv];simp [Deferred.ofValue]
      · -- the worker
        have hgx:rs.getD j []=x:=by simp [List.getD,hx]
        rw [hgx];have sc:=Qyk (Z:=Z) (w:=w5) (w1:=w6) (L:=L) hP.hC r6;have scC:=Qyk (Z:=Z) (w:=w5) (w1:=w6) (L:=[pt C]) Qur r6;have s0C:=(hI5.stepp (L:=[pt C]) Qur).trans scC;refine QTm (n:=ns.length) (cap:=cap) (fun y hy k hk=>?_) (hP.B2.step s0C (Qgc hP.n2)) (RowAt.step scC (Qgc n4) (hB4.ext r25.ext).row) (RowAt.step scC (Qgc n5) (hB5.ext r25.ext).row) ((hpn2.ext r25.ext).step sc) hjl hps;have h1:=hP.hL y hy k hk;rw [Qsk,Qmk];have:=r6.size;have:=hI5.size;omega
      · -- on
        have hI6:=hI5.frz r6;rw [<-QUg];generalize frz (CC w5 C) w6=w7 at hI6 ⊢;generalize hρ4:Xv ρ3 (some 29) (.func (.func 79) #[] (List.toArray [pt Wg,pt b5,pt b2,pt b4]))=ρ4;generalize (fun b=>Z b\/CC w5 C b)=Z2 at hI6 ⊢;generalize Qcb Z (CC w5 C) w6 orig=orig2 at hI6 ⊢;have hr4:∀ i,i < 24->i≠4->i≠5->ρ4 i=ρ i:=fun i hi h1 h2=>by rw [<-hρ4];exact (J8 (by omega)).trans ((hr3 i (by omega)).trans ((k1 i hi h1 h2).trans (hr1 i hi)))
        refine QW.of ?_
        letI:JD Tryz.prog:=⟨Jp Tryz.prog Z2⟩
        refine Qsb (QMs (Qpg (n:=91) (K:=fun ρ' w'=>w'=w7/\ρ' 23=.int .i64 ((j+1:Nat):Int)/\∀ i,i < 23->ρ' i=ρ4 i) ?_ hb ?_))
        · refine Jf (v:=.int .i64 (w64 ((j:Int)+1))) rfl (QV ((hr4 23 (by omega) (by omega) (by omega)).trans h23) rfl) ?_;refine Jf (v:=.int .i64 (w64 ((j:Int)+1))) rfl (Qz rfl) ?_;refine Qb ⟨rfl,?_,fun i hi=>(J8 hi).trans (J8 (by omega))⟩;show Value.int .i64 (w64 ((j:Int)+1))=_;rw [Yy (by omega)];rfl
        · rintro ρ5 w' ⟨rfl,k23,k5'⟩;refine QMt ?_;exact (ih (j+1) (by omega) ρ5 w' Z2 orig2 (fun i hi=>(k5' i (by omega)).trans ((hr4 i (by omega) (by omega) (by omega)).trans (hρ i hi))) ((k5' 3 (by omega)).trans ((hr4 3 (by omega) (by omega) (by omega)).trans h3)) ((k5' 21 (by omega)).trans ((hr4 21 (by omega) (by omega) (by omega)).trans h21)) ((k5' 22 (by omega)).trans ((hr4 22 (by omega) (by omega) (by omega)).trans h22)) k23 hI6).stop
end
end Go.Gw

end
section
set_option maxRecDepth 100000
set_option maxHeartbeats 8000000
set_option linter.unusedVariables false
set_option linter.unusedSectionVars false
namespace Go.Gw
open Go Go.Conc Go.Proofs
open Go.ConcR (wgBlock)
attribute [local irreducible] T0 TS TT TP TX TZ Eff Stp WC Quiet gd
theorem Inv.full {w0 w w':World} {C N Low:Nat} {Z:Nat->Prop} {orig:Nat->Option Obj} {cs0 cs:Array Value} {et:TypeId} {O:List (Nat×(Value->World->Prop))} (h:Inv w0 C Z orig w) (hF:FullG C N Low cs0 O w w' cs) (hlow:w0.heap.size<=Low):Inv w0 C Z orig (Qal C cs et w'):=by
 have hm:=hF.more;refine ⟨hm.os.trans h.os,hm.tape.trans h.tape,hm.output.trans h.output,by rw [Qvj,hm.size];exact h.size,fun b hb h8=>⟨(h.old b hb h8).1,fun hn=>?_⟩,fun b hb=>?_,h.z8,h.lt8⟩
 ·rw [Qhf h8,hF.low b (by omega) h8];exact (h.old b hb h8).2 hn
 ·obtain ⟨cs1,e,fz,fz',h1,h2⟩:=h.zrow b hb;have hne:b≠C:=fun e=>h.z8 (e▸hb)
  exact ⟨cs1,e,fz,fz',by rw [Qhf hne];exact hm.shows b cs1 e fz h1,h2⟩
theorem QVq {L:List Value} {C:Nat} {cs:Array Value} {et:TypeId} {w:World} (hC:pt C∈L):Stepp L w L (Qal C cs et w):=⟨fun {b cs1 e fz} hb hA=>⟨⟨fz,by grind [Qhf,Qoe]⟩,hA⟩⟩
instance topJ:JD Tryz.prog:=⟨Jm Tryz.prog⟩
noncomputable def Qfj:Array Oper:=Qvh (Qwa Qha)
theorem zi230':ZI Tryz.prog 148 [.int .u64 0,.int .u32 0]:=Je (by kernel_rfl)
theorem QMl {ρ:Env} {w:World} {C:Nat} {cs0:Array Value} {b:Frame} {k:List Item} {cs:List Frame} {S:Goroutine->World->Prop} (hb:b.kind≠.early) (hC:w.heap[C]?=some (.cells cs0 150 (0,0))) (hN:cs0.size+1 < 2147483647)
  (h:∀ Wg w1,Rel w w1->w.heap.size<=Wg->Wg < w1.heap.size->QW Tryz.prog 148 Wg C cs0.size Wg 150 cs0 S 0 (fun _=>False) (fun _=>none) [] (G (b.at (act 91 (Xv ρ (some 3) (.pointer (some ⟨Wg,0,none⟩)))) (.inRegion Qfj []::k)) cs) (JL C w1)) :
  ∀ w1,Rel w w1->(Jm Tryz.prog).Ph (G (b.at (act 91 ρ) (.inRegion Qfj [0]::k)) cs) w1 S:=by
 refine QMm (g:=G (b.at (act 91 ρ) (.inRegion Qfj [0]::k)) cs) rfl hC hN (fun Wg=>G (b.at (act 91 (Xv ρ (some 3) (.pointer (some ⟨Wg,0,none⟩)))) (.inRegion Qfj []::k)) cs) (fun W=>?_) h;obtain ⟨o,ho,hop,hg,hd⟩:∃ o:Oper,Qfj[0]?=some o/\o.op=.alloc 148/\o.guard=none/\o.dst=some 3:=⟨_,rfl,rfl,rfl,rfl⟩;obtain ⟨inf,z,hz1,hz2,hz3⟩:=zi230'.ex;have hT:(execOp (act 91 ρ).eval o).runT Tryz.prog W #[]=(.ok (.value (.pointer (some ⟨W.heap.size,0,none⟩))) { W with heap:=W.heap.push (wgBlock 148 0 0) },#[]):=by
  have hzc:z.cells=#[.int .u64 0,.int .u32 0]:=by grind
  have e0:execOp (act 91 ρ).eval o=(zeroValue 148 >>= fun z=>newVar 148 z >>= fun a=>Pure.pure (Value.pointer (some a))) >>= fun v=>Pure.pure (Next.value v):=by
   simp [execOp,hop,Instr.alloc]
  rw [e0];rfl
 rw [Sem.runT_eq] at hT;have hr:=congrArg Prod.fst hT;have he:(execOp (act 91 ρ).eval o).events Tryz.prog W #[]=#[]:=congrArg Prod.snd hT;have:=stepG_value (P:=Tryz.prog) (main:=true) (b:=b) (a:=act 91 ρ) (k:=k) (cs:=cs) (ops:=Qfj) (i:=0) (rest:=[]) ho (by simp [Region.wanted,hg]) hb hr
 grind [seen_none,listed,JS]
theorem Inv.hide {w w1:World} {C:Nat} (r:Rel w w1) (hC:C < w.heap.size):Inv w C (fun _=>False) (fun _=>none) (JL C w1) :=
 ⟨r.os,r.tape,r.output,by rw [Qzt];exact r.size,fun b hb h8=>⟨fun h=>h.elim,fun _=>by rw [Qmn h8];exact r.block b hb⟩,fun _ h=>h.elim,fun h=>h,hC⟩
end Go.Gw

end
section
set_option maxRecDepth 100000
set_option maxHeartbeats 8000000
set_option linter.unusedVariables false
set_option linter.unusedSectionVars false
namespace Go.Gw
open Go Go.Conc Go.Proofs
attribute [local irreducible] T0 TS TT TP TX TZ Eff Stp WC Quiet gd
variable {L:List Value} {w:World} {ρ:Env} {q:Post} {b b2 m:Nat} {v vs:Value} {ns:List (Option Nl)} {rs xs0:List (List Nu)}
theorem QCx (hL:LtL (vs::L) w) (r0:ρ 0=pt b) (r2:ρ 2=pt b2) (hB:Box w b [.map (some m),v] 95) (hB2:Box w b2 [vs] 138) (hs:SlRd (vs::L) w v ns) (ho:Own 150 (vs::L) w vs xs0) (hn:Qq vs≠some b) (hn2:Qq vs≠some b2)
    (hm:mk (ns.length:Int) ([]:List Nu)=some xs0) (hcap:∃ C,vs=.slice (some ⟨C,0,none⟩) xs0.length xs0.length) (hA:∀ k,Qq vs=some k->Avoids L k) (h:Qjt ns=some rs)
    (hK:∀ ρ' w',(∀ i,i < 3->ρ' i=ρ i)->Chg [vs] w w'->SlRd L w' vs rs->WC Tryz.prog 91 QCw q ρ' w'):WC Tryz.prog 91 Qha q ρ w:=by
  obtain ⟨C,hvs⟩:=hcap;obtain ⟨_,hmax,hx0⟩:=Qnv hm;have hlen:xs0.length=ns.length:=by grind
  have hG:Qed ns=some rs:=by
    grind [Qjt]
  obtain ⟨hrl,hrg⟩:=Qum hG;rw [hlen] at hvs;have hbk:Qq vs=some C:=by rw [hvs];rfl
  have hbp:Qq (pt C)=Qq vs:=by rw [hbk];rfl
  obtain ⟨cs0,hrow,hsz⟩:∃ cs0,w.heap[C]?=some (.cells cs0 150 (0,0))/\cs0.size=ns.length:=by
    rcases ho.nilOr with ⟨h1,_⟩ | ⟨g,cap,cur,h1,h2,h3,h4,h5,_⟩
    · simp_all
    · rw [hvs] at h1;injection h1 with h6 h7 h8
      injection h6 with h6
      injection h6 with h6
      subst h6;exact ⟨cur,h2,by rw [h5,<-h8];exact Ea _⟩
  have hClt:=Js hrow;have hL1:LtL (pt C::L) w:=fun x hx k hk=>by
    rcases List.mem_cons.1 hx with rfl | hx
    · simp_all
    · exact hL x (List.mem_cons_of_mem _ hx) k hk
  have hs1:SlRd (pt C::L) w v ns:=hs.step (Stepp.ren hbp);have nb:b≠C:=fun e=>hn (by rw [hbk,e])
  have nb2:b2≠C:=fun e=>hn2 (by rw [hbk,e])
  have hP:On0 (pt C::L) w C ns.length b2 v ns rs ρ:=⟨hL1,Qn,r2,nb2,by rw [<-hvs];exact hB2.row,hs1,Nat.le_refl _,by omega,hG⟩;unfold WC;intro bf k cs Stop hb hQ;show Wlk (Jm Tryz.prog) Stop _ w;refine Qdc (Qph ?_);show Wlk (Jm Tryz.prog) Stop (G (bf.at (act 91 ρ) (.inRegion Qfj [0]::.code (Qan Qha)::k)) cs) w;refine .phase (fun g' w'=>∃ ρ',g'=G (bf.at (act 91 ρ') (.inRegion (Qvh (Qwa (Qan (Qan Qha)))) []::.code QCw::k)) cs/\(∀ i,i < 3->ρ' i=ρ i)/\Chg [vs] w w'/\SlRd L w' vs rs) rfl ?_ ?_
  · refine QMl hb hrow (by omega) fun Wg w1 r1 hWg hWl=>?_;have hI:=Inv.hide r1 hClt;refine QW.of ?_
    letI:JD Tryz.prog:=⟨Jp Tryz.prog fun _=>False⟩
    have hBh:=RowAt.step (hI.stepp (L:=[pt C]) Qur) (Qgc nb) hB.row;have hsh:=hs1.step (hI.stepp (L:=pt C::L) Qn);refine Qsb (Qdc (Qdc (Qpg (n:=91) (K:=fun ρ' w'=>w'=JL C w1/\(∀ i,i < 4->ρ' i=Xv ρ (some 3) (pt Wg) i)/\ρ' 21=v/\ρ' 22=.int .i64 ns.length/\ρ' 23=.int .i64 0) ?_ hb ?_)))
    · refine Jf (v:=pt b) rfl (Qz (by trivial)) ?_;refine Jf (v:=pt b) rfl (X5 rfl) ?_;refine Jf (v:=.pointer (some ⟨b,1,none⟩)) rfl (Jb 1 Tryz.underlying95 rfl rfl ⟨0,Ja⟩ rfl rfl) ?_;refine Jf (v:=v) rfl (Qh Qce rfl (At.drop hBh.at 1)) ?_;refine Jf (v:=.int .i64 ns.length) rfl (QL rfl Tryz.underlying93 hsh rfl) ?_;refine Jf (v:=.int .i64 0) rfl (Qz rfl) ?_;exact Qb ⟨rfl,fun i hi=>(J8 (by omega)).trans ((J8 (by omega)).trans ((J8 (by omega)).trans ((J8 (by omega)).trans ((J8 (by omega)).trans (J8 (by omega)))))),rfl,rfl,rfl⟩
    · rintro ρ1 w' ⟨rfl,j1,j21,j22,j23⟩;refine Qyh (QPr ?_);have g1:∀ i,i < 3->ρ1 i=ρ i:=fun i hi=>(j1 i (by omega)).trans (Qqe (by omega))
      refine (QLz hP (Low:=Wg) (by rw [hsz]) hb hWg (fun ρ2 w2 Z orig i1 i2 i3=>?_) ns.length 0 (by omega) ρ1 _ (fun _=>False) (fun _=>none) g1 ((j1 3 (by omega)).trans rfl) j21 j22 j23 hI).stop;refine QW.of ?_
      letI:JD Tryz.prog:=⟨Jp Tryz.prog Z⟩
      refine Qdc (Qph (.stop fun w3 r3=>?_));refine QW.waitc rfl rfl hb rfl ?_ fun w4 w5 cs' r4 hF=>?_
      · rw [Qbg];simp only [List.map_toArray,List.map_cons,List.map_nil];show #[ρ2 3]=_;rw [i2]
      have hI4:=(i3.rel r3).rel r4;have hIf:=hI4.full (et:=150) hF hWg;rw [JS];refine ⟨_,rfl,fun i hi=>(Qqe (by omega)).trans (i1 i hi),?_,?_⟩
      · have hc:=hIf.thaw;exact ⟨hc.os,hc.tape,hc.output,hc.size,fun x hx hav=>hc.block x hx (fun y hy e=>by
          rcases List.mem_singleton.1 hy with rfl;exact hav vs (List.mem_singleton.2 rfl) (hbp▸e))⟩
      · have hz:¬ Z C:=hIf.z8;have hCw:C < w5.heap.size:=by rw [hF.more.size];exact Nat.lt_of_lt_of_le hClt hI4.size
        have hget:(thaw Z orig (Qal C cs' 150 w5)).heap[C]?=some (.cells cs' 150 (0,0)):=by
          grind [Qht,Qvi]
        have hsz':cs'.size=ns.length:=by rw [hF.size,hsz]
        have hAC:Avoids L C:=hA C hbk;rw [hvs];have hmx:ns.length<=maxLen:=by unfold maxLen;omega
        have htk:(cs'.toList.drop 0).take (rs.length * 1)=cs'.toList:=by
          simp_all [Nat.le_refl,Array.length_toList,List.drop_zero,Ea,List.take_of_length_le]
        have hEl:Elems L (thaw Z orig (Qal C cs' 150 w5)) ((cs'.toList.drop 0).take (rs.length * 1)) rs:=by
          rw [htk];refine ⟨by rw [Array.length_toList,hsz',hrl];exact (Ea _).symm,fun i x hx=>?_⟩;have hi:i < rs.length:=(List.getElem?_eq_some_iff.1 hx).1;have hgx:rs.getD i []=x:=by simp_all
          obtain ⟨u,xw,hu,hus,hsh⟩:=hF.full (i,Qeo (pt C::L) (rs.getD i [])) (List.mem_map.2 ⟨i,List.mem_range.2 (by omega),rfl⟩);have hus:SlRd (pt C::L) xw u (rs.getD i []):=hus;rw [hgx] at hus;refine ⟨u,?_,(((hus.step (Shows.stepp hsh)).step (QVq (C:=C) (cs:=cs') (et:=150) Qn)).step hIf.thawS).sub (fun y hy=>List.mem_cons_of_mem _ hy)⟩;show ((cs'.toList).drop (i * 1)).take 1=[u];simp_all [List.drop_eq_getElem_cons,List.getElem?_eq_some_iff,some,Ea]
        exact .inr ⟨C,0,ns.length,cs',150,(0,0),by rw [hrl],hget,hAC,by omega,hmx,by rw [hsz',Nat.zero_add];exact Nat.le_of_eq (Ea _),hEl⟩
  · rintro g' w' ⟨ρ',rfl,hq1,hq2,hq3⟩;have hw:=hK ρ' w' hq1 hq2 hq3;unfold WC at hw;exact .ctl rfl (fun _=>stepG_region_end) (hw bf k cs Stop hb hQ)
end Go.Gw

end
