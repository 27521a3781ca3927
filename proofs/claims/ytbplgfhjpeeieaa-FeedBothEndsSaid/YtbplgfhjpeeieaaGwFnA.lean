/- What functions come to, printed by a program of this work. No condition. -/
import Derived.Test.YtbplgfhjpeeieaaGwFacts
import Derived.Test.YtbplgfhjpeeieaaGwPlan2
set_option linter.unusedVariables false
set_option linter.unusedSimpArgs false
set_option linter.unusedSectionVars false
set_option maxRecDepth 4096
set_option maxHeartbeats 8000000
set_option linter.unusedVariables false
set_option linter.unusedSectionVars false
namespace Go.Gw
open Go Go.Proofs
attribute [local irreducible] T0 TS TT TP TX TZ Eff Stp WC Quiet gd
variable [JD Try.prog]
theorem QW : type_of% @Try.underlying52 := Try.underlying52
theorem Xw : type_of% @Try.underlying95 := Try.underlying95
theorem XB : type_of% @Try.underlying94 := Try.underlying94
theorem Xi : type_of% @Try.underlying159 := Try.underlying159
noncomputable def Qsp (p_a : (List FeedDeparture)) (p_b : (List FeedDeparture)) : (Int) → Option ((Int) ⊕ (Bool ⊕ (Unit))):=fun d=>(bif (decide (d < (p_a.length : Int))) then ( (Option.bind (idx p_a d) fun h=>(Option.bind (idx p_b d) fun r=>(bif (!(decide (h = r))) then ( some (.inr (.inl false)) ) else ( some (.inl (w64 (d + 1))) )) ) ) ) else ( some (.inr (.inr ())) ))
noncomputable def Qfb (p_a : (List FeedDeparture)) (p_b : (List FeedDeparture)) : Option Bool:=(bif (!decide ((p_a.length : Int) = (p_b.length : Int))) then ( some false ) else ( (Option.bind (loop (Qsp p_a p_b) 0) fun d=>jn0 d fun (_ : Unit)=>some true ) ))
theorem QGg (L : List Value) (w : World) (hL : LtL L w) (v_p_a : Value) (p_a : (List FeedDeparture)) (h_p_a : SlRd L w v_p_a p_a) (v_p_b : Value) (p_b : (List FeedDeparture)) (h_p_b : SlRd L w v_p_b p_b) (r : Bool) (h : Qfb p_a p_b = some r) : CallsTo Try.prog 27 [v_p_a,v_p_b] w (fun v w'=>Ext w w'∧(.bool r) = v):=by
 have e0 : Ext w w:=Chg.refl _ _;refine QZ (n:=26) (rs:=[.tmp 4]) Try.func27 rfl rfl rfl rfl rfl<|QH (.bool false) rfl<|Qs fun K4 aa=>Qi<|Qg v_p_a rfl<|Qe (Iv (p_a.length : Int)) (QY rfl Try.underlying29 h_p_a rfl)<|Qg v_p_b rfl<|Qe (Iv (p_b.length : Int)) (QY rfl Try.underlying29 h_p_b rfl)<|Qe (.bool (!decide ((p_a.length : Int) = (p_b.length : Int)))) (Xc rfl rfl)<|Qf<|QE (b:=(!decide ((p_a.length : Int) = (p_b.length : Int)))) rfl (fun aj=>?_) (fun aj=>?_)
 ·clear aa;replace h:=Qx aj h;refine QH (.bool false) rfl<|QB ?_;replace h:=Qm h;subst h;exact ⟨[(.bool false)],⟨rfl,trivial⟩,e0,rfl⟩
 ·replace h:=QC aj h;refine QF<|aa _ _<|Qs fun K8 an=>QH (Iv 0) rfl ?_;replace h:=Qj h;obtain ⟨ap,am,ab⟩:=h;refine Q9 (fun (ρ : Env) (ae : World)=>.inr () = ap∧Ext w ae) ?_ ?_
  ·clear aa an;intro av X;refine QP<|Xf (fun sv ρ G=>∃ (d : Int),d = sv∧ρ 0 = v_p_a∧ρ 1 = v_p_b∧ρ 5 = (Iv d)∧SlRd L G v_p_a p_a∧SlRd L G v_p_b p_b∧Ext w G) am ⟨0,rfl,rfl,rfl,rfl,h_p_a,h_p_b,e0⟩ ?_;rintro _ ρ G ⟨d,rfl,S,ac,E,J,V,af⟩ az h ad au M;refine Qs fun aw D=>Qi<|Qg (Iv d) E<|Qg v_p_a S<|Qe (Iv (p_a.length : Int)) (QY rfl Try.underlying29 J rfl)<|Qe (.bool (decide (d < (p_a.length : Int)))) (Q8 rfl rfl)<|Qf<|QE (b:=(decide (d < (p_a.length : Int)))) rfl (fun O=>?_) (fun O=>?_)
   ·clear X;replace h:=Qx O h;refine QF<|D _ _<|Qs fun ax Y=>QP<|Qs fun ay N=>Xv Xt (.p 0 (.p 1 (.p 2 (.p 4 (.p 5 (.p 6 (.q 3 (.q 7 (.p 8 .done))))))))) (by kernel_rfl) rfl ?_;intro aq B;have ag:=af.trans B;refine Qp (v:=v_p_a) rfl rfl (fun w'=>(QA S))<|Qp (v:=(Iv d)) rfl rfl (fun w'=>(QA E)) ?_;replace h:=Qj h;obtain ⟨u,T,h⟩:=h;have hq:=SlRd.at J T;obtain ⟨ak,ah,H⟩:=hq;have H : ak = [(.string u.Train),(Iv u.At)]:=H;subst H;refine Qp (v:=(.pointer (some (QK v_p_a (d : Int).toNat 2)))) rfl rfl (fun w'=>(Q5 Try.underlying29 Qfn J T rfl rfl))<|Qp (v:=v_p_b) rfl rfl (fun w'=>(QA ac))<|Qp (v:=(Iv d)) rfl rfl (fun w'=>(QA E)) ?_;replace h:=Qj h;obtain ⟨A,U,h⟩:=h;have hq:=SlRd.at V U;obtain ⟨al,ai,I⟩:=hq;have I : al = [(.string A.Train),(Iv A.At)]:=I;subst I;refine Qp (v:=(.pointer (some (QK v_p_b (d : Int).toNat 2)))) rfl rfl (fun w'=>(Q5 Try.underlying29 Qfn V U rfl rfl))<|Q4 (v:=(.agg (List.toArray [(.string u.Train),(Iv u.At)]))) rfl rfl (fun w' hS=>(QM (cs:=[(.string u.Train),(Iv u.At)]) Qgj rfl (ah.ext' (B.trans hS))))<|Q4 (v:=(.agg (List.toArray [(.string A.Train),(Iv A.At)]))) rfl rfl (fun w' hS=>(QM (cs:=[(.string A.Train),(Iv A.At)]) Qgj rfl (ai.ext' (B.trans hS))))<|Qp (v:=(.bool (!(decide (u = A))))) rfl rfl (fun w'=>(Qla Qym rfl rfl (Qyt u A)))<|Xk<|N _ _<|QE (b:=(!(decide (u = A)))) rfl (fun R=>?_) (fun R=>?_)
    ·clear M D Y N;replace h:=Qx R h;refine QH (.bool false) rfl<|QB ?_;replace h:=Qm h;subst h;have ho:=ad _ rfl;subst ho;replace h:=XF ab;replace h:=Qm h;subst h;exact ⟨[(.bool false)],⟨rfl,trivial⟩,ag,rfl⟩
    ·clear D N;replace h:=QC R h;refine QF<|Y _ _<|QR<|Qg (Iv d) E<|Qe (Iv (w64 (d + 1))) (QU rfl rfl)<|Qn (Iv (w64 (d + 1))) rfl<|Qf ?_;replace h:=Qm h;subst h;refine M _ _ _ rfl ?_;exact ⟨w64 (d + 1),rfl,S,ac,rfl,(J.ext B),(V.ext B),ag⟩
   ·clear M D;replace h:=QC O h;refine Xe ?_;replace h:=Qm h;subst h;have ho:=ad _ rfl;subst ho;refine X _ _ ?_;exact ⟨rfl,af⟩
  ·clear aa;rintro ρ ae ⟨rfl,ao⟩;replace h:=XJ ab;refine an _ _<|QH (.bool true) rfl<|QB ?_;replace h:=Qm h;subst h;exact ⟨[(.bool true)],⟨rfl,trivial⟩,ao,rfl⟩

end Go.Gw
