/- Laws of the walk. Condition: each theorem says its own. -/
import Derived.Test.YtbigilldfhjedaaGreatDoorGwLib5
import Derived.IntWalk
import Derived.Test.YtbigilldfhjedaaGreatDoorGwFacts2
import Derived.Test.YtbigilldfhjedaaGreatDoorGwLib21
import Derived.Test.YtbigilldfhjedaaGreatDoorGwVd
set_option linter.unusedVariables false
set_option linter.unusedSimpArgs false
set_option linter.unusedSectionVars false
section
set_option linter.unusedSectionVars false
namespace Go.Gw
open Go

theorem Yh {x:Int} (h:-9223372036854775808<=x/\x<=9223372036854775807):w64 x=x:=Go.IntWalk.i64_in x h

def Runs {α:Type} (e:Option α) (Q:α->Prop):Prop:=∃ a,e=some a/\Q a

section
variable {α β σ μ:Type} {Q:α->Prop} {e e':Option α}
theorem Runs.some {a:α} (h:Q a):Runs (some a) Q:=⟨a,rfl,h⟩
theorem Runs.bind {e:Option β} {f:β->Option α} (h:Runs e fun b=>Runs (f b) Q):Runs (e.bind f) Q:=by
 obtain ⟨b,rfl,a,ha,hq⟩:=h;exact ⟨a,ha,hq⟩
theorem Runs.mono {Q':α->Prop} (h:Runs e Q) (hm:∀ a,Q a->Q' a):Runs e Q':=by obtain ⟨a,ha,hq⟩:=h;exact ⟨a,ha,hm _ hq⟩
theorem Runs.eq {a:α} (h:Runs e (·=a)):e=.some a:=by obtain ⟨b,hb,rfl⟩:=h;exact hb
theorem Runs.call {e:Option β} {f:β->Option α} {b:β} (h:e=.some b) (hq:Runs (f b) Q):Runs (e.bind f) Q:=by simp_all
theorem Runs.callR {e:Option β} {f:β->Option α} {R:β->Prop} (h:Runs e R) (hq:∀ b,R b->Runs (f b) Q):Runs (e.bind f) Q:=by obtain ⟨b,rfl,hb⟩:=h;grind
theorem Runs.bif {b:Bool} (ht:b=true->Runs e Q) (hf:b=false->Runs e' Q):Runs (bif b then e else e') Q:=by
 grind
theorem Runs.bif_t {b:Bool} (hb:b=true) (ht:Runs e Q):Runs (bif b then e else e') Q:=by simp_all
theorem Runs.bif_f {b:Bool} (hb:b=false) (hf:Runs e' Q):Runs (bif b then e else e') Q:=by simp_all
theorem Runs.jr {m:μ} {f:μ->Option α} (h:Runs (f m) Q):Runs (Xv (.inr m) f) Q:=h
def Rnd (I:σ->Prop) (m:σ->Nat) (Q:β->Prop) (s:σ):σ⊕β->Prop
 | .inl s'=>I s'/\m s' < m s
 | .inr o=>Q o
theorem Runs.loop {step:σ->Option (σ⊕β)} {s:σ} {Q:β->Prop} (I:σ->Prop) (m:σ->Nat) (h0:I s) (h:∀ s,I s->Runs (step s) (Rnd I m Q s)):Runs (Gw.loop step s) Q:=by
 generalize hk:m s=k
 induction k using Nat.strongRecOn generalizing s with
 | _ k ih =>
  obtain ⟨x,hx,hq⟩:=h s h0;cases x with
  | inl s' =>
   rw [Qce hx];exact ih (m s') (by have:=hq.2;omega) hq.1 rfl
  | inr o=>rw [Qcf hx];exact ⟨o,rfl,hq⟩
theorem Qap {step:σ->Option (σ⊕β)} {o:β} (S:Nat->σ) (n:Nat) (h:∀ k,k < n->step (S k)=.some (.inl (S (k+1)))) (he:step (S n)=.some (.inr o)):Gw.loop step (S 0)=.some o:=by
 have key:∀ j k,j+k=n->Gw.loop step (S k)=.some o:=by
  intro j
  induction j with
  | zero=>grind [Qcf]
  | succ j ih=>grind [Qce]
 simp_all

theorem Xq {xs:List β} {k:Nat} (h:k < xs.length):Gw.idx xs (k:Int)=.some xs[k]:=by
 simp_all [if_pos,Int.toNat_natCast,List.getElem?_eq_getElem,Gw.idx]
theorem Xq? {xs:List β} {k:Nat}:Gw.idx xs (k:Int)=xs[k]?:=by
 rfl
theorem Zt {xs ys:List β} (h:xs.length+ys.length<=1073741824):app xs ys=.some (xs++ys):=by unfold app;grind
theorem QTn {a b:Int} (h:b≠0):quo a b=.some (w64 (a.tdiv b)):=by unfold quo;grind
end
end Go.Gw

end
section
set_option maxRecDepth 100000
set_option maxHeartbeats 8000000
set_option linter.unusedVariables false
set_option linter.unusedSectionVars false
namespace Go.Gw
open Go Go.Proofs
theorem Qql:Xi Tryz.prog 89 2:=Yo (by kernel_rfl)
theorem Qhm:Xi Tryz.prog 86 1:=Yo (by kernel_rfl)
theorem Qqg:YO Tryz.prog 86:=⟨_,Tryz.underlying86,trivial⟩
attribute [local irreducible] T0 TS TT TP Eff Stp WC Quiet gd
variable [JD Tryz.prog]
theorem Qxl {w:World} {b:Nat} {v:Value} {q:Value} (hq:q=.pointer none\/q=.pointer (some ⟨b,0,none⟩)) (hB:Box w b [q,v] 89) (h1:v.oneCell'=true):CallsTo Tryz.prog 84 [.pointer (some ⟨b,0,none⟩)] w (fun r w'=>Chg [.pointer (some ⟨b,0,none⟩)] w w'/\Jn []=r/\Box w' b [.pointer (some ⟨b,0,none⟩),v] 89):=by
 refine Qkr (n:=20) (rs:=[]) Tryz.func84 rfl rfl rfl rfl rfl ?_;rcases hq with rfl | rfl
 ·refine Qd <| Q1 (.pointer (some ⟨b,0,none⟩)) rfl <| Xg (.pointer (some ⟨b,0,none⟩)) (Ys rfl) <| Xg (.pointer (some ⟨b,0,none⟩)) (ZB 0 Tryz.underlying89 rfl rfl ⟨0,Qhm⟩ rfl rfl) <| Xg (.pointer none) (Qk Qqg rfl hB.at) <| Xg (.bool true) (Q0a Tryz.underlying86 rfl rfl) <| Qb <| YD (b:=true) rfl (fun _=>?_) (fun h=>by cases h)
  refine QC <| Q1 (.pointer (some ⟨b,0,none⟩)) rfl <| Q1 (.pointer (some ⟨b,0,none⟩)) rfl <| Xg (.pointer (some ⟨b,0,none⟩)) (Q0t (k:=1) Tryz.underlying86 Tryz.underlying193 Qql hB rfl) <| Xg (.pointer (some ⟨b,0,none⟩)) (Qwd (args:=[.pointer (some ⟨b,0,none⟩)]) Tryz.func119 (by kernel_rfl) (by kernel_rfl) (by kernel_rfl) (g:=Extern.AbiNoEscape.same) (by kernel_rfl) (QH rfl) rfl) <| Xg (.pointer (some ⟨b,0,none⟩)) (Q0e (k:=2) Tryz.underlying193 Tryz.underlying86 Qql hB (by kernel_rfl) rfl) <| Xg (.pointer (some ⟨b,0,none⟩)) (Ys rfl) <| Xg (.pointer (some ⟨b,0,none⟩)) (ZB 0 Tryz.underlying89 rfl rfl ⟨0,Qhm⟩ rfl rfl) <| Qe rfl (Y2 (vs:=[.pointer (some ⟨b,0,none⟩)]) (cs':=[.pointer (some ⟨b,0,none⟩),v]) Qhm rfl rfl rfl rfl hB rfl (Qg rfl QF) rfl ?_)
  intro w' hc hB';exact Qb ⟨[],trivial,hc,rfl,hB'⟩
 ·refine Qd <| Q1 (.pointer (some ⟨b,0,none⟩)) rfl <| Xg (.pointer (some ⟨b,0,none⟩)) (Ys rfl) <| Xg (.pointer (some ⟨b,0,none⟩)) (ZB 0 Tryz.underlying89 rfl rfl ⟨0,Qhm⟩ rfl rfl) <| Xg (.pointer (some ⟨b,0,none⟩)) (Qk Qqg rfl hB.at) <| Xg (.bool false) (Q0b Tryz.underlying86 rfl rfl) <| Qb <| YD (b:=false) rfl (fun h=>by cases h) (fun _=>?_)
  refine Qd <| Q1 (.pointer (some ⟨b,0,none⟩)) rfl <| Xg (.pointer (some ⟨b,0,none⟩)) (Ys rfl) <| Xg (.pointer (some ⟨b,0,none⟩)) (ZB 0 Tryz.underlying89 rfl rfl ⟨0,Qhm⟩ rfl rfl) <| Xg (.pointer (some ⟨b,0,none⟩)) (Qk Qqg rfl hB.at) <| Q1 (.pointer (some ⟨b,0,none⟩)) rfl <| Xg (.bool false) (Q0l (k:=1) Tryz.underlying86 Qql rfl rfl) <| Qb <| YD (b:=false) rfl (fun h=>by cases h) (fun _=>?_)
  exact Qw ⟨[],trivial,Chg.refl _ _,rfl,hB⟩
theorem J7:Xi Tryz.prog 87 1:=Yo (by kernel_rfl)
theorem Qcx:YO Tryz.prog 87:=⟨_,Tryz.underlying87,trivial⟩
theorem bi5:EInfo Tryz.prog 5 1 1 (.int .u8 0):=⟨_,rfl,by kernel_rfl,by kernel_rfl,by kernel_rfl,rfl,Nat.one_pos⟩
abbrev pb (b:Nat):Value:=.pointer (some ⟨b,0,none⟩)
theorem Qkt {u v:Value} {w w':World} (h:Chg [u] w w'):Chg [v,u] w w':=h.mono (fun x hx=>by simp_all)
theorem Qhk {L:List Value} {w:World} {b:Nat} {v:Value} {xs zs:List U8} {s:ByteArray} (hb:BldAt 89 w b v) (ho:Own 5 (v::pb b::L) w v xs) (hn:Qu v≠some b) (hm:app xs (bl s)=some zs) :
  CallsTo Tryz.prog 36 [pb b,.string s] w (fun r w'=>Chg [v,pb b] w w'/\∃ v',Jn [.int .i64 s.size,.nilIface]=r/\BldAt 89 w' b v'/\Own 5 (v'::pb b::L) w' v' zs/\Qu v'≠some b/\∀ k,Qu v'=some k->Qu v=some k\/w.heap.size<=k):=by
 obtain ⟨hr,q,hq,hB⟩:=hb;refine QS (n:=19) (rs:=[.tmp 4,.tmp 5]) Tryz.func36 rfl rfl rfl rfl rfl ?_;refine Qd <| XC (.int .i64 0) rfl <| XC .nilIface rfl <| Qb <| Qd <| Q1 (pb b) rfl <| Qe rfl (Qq Tryz.func84 (by kernel_rfl) rfl (QH rfl) (Qxl hq hB ho.one1) ?_)
 rintro _ w1 ⟨hc1,rfl,hB1⟩;have ho1:Own 5 (v::pb b::L) w1 v xs:=ho.step (Qj hc1 Xa) hc1 (Xu hn);refine Qb <| Qd <| Q1 (pb b) rfl <| Q1 (pb b) rfl <| Xg (pb b) (Ys rfl) <| Xg (.pointer (some ⟨b,1,none⟩)) (ZB 1 Tryz.underlying89 rfl rfl ⟨0,J7⟩ rfl rfl) <| Xg v (Qk Qcx rfl (hB1.at.drop 1)) <| Q1 (.string s) rfl <| Qe rfl (QIa Tryz.underlying87 Tryz.underlying9 bi5 rfl rfl rfl rfl ho1 hr hm ?_)
 intro v' w2 hc2 hbl ho2 hr2;have hbl':∀ k,Qu v'=some k->Qu v=some k\/w.heap.size<=k:=fun k hk=>(hbl k hk).imp id fun h=>Nat.le_trans hc1.size h
 have hn':Qu v'≠some b:=XQ hbl hn hB1;have hB2:Box w2 b [pb b,v] 89:=hB1.chg hc2 (Xm hn);refine Xg (pb b) (Ys rfl) <| Xg (.pointer (some ⟨b,1,none⟩)) (ZB 1 Tryz.underlying89 rfl rfl ⟨0,J7⟩ rfl rfl) <| Qe rfl (Y2 (vs:=[v']) (cs':=[pb b,v']) J7 (Q5 ho2.one1) rfl rfl rfl hB2 rfl (Qg ho2.one1 QF) rfl ?_)
 intro w3 hc3 hB3;have ho3:Own 5 (v'::pb b::L) w3 v' zs:=ho2.step (Qj hc3 Xa) hc3 (Xu hn');refine Qb <| Qd <| Q1 (.string s) rfl <| Xg (.int .i64 s.size) (Zi rfl Tryz.underlying9 rfl) <| XC (.int .i64 s.size) rfl <| XC .nilIface rfl <| Qb <| Qs ⟨[.int .i64 s.size,.nilIface],⟨rfl,rfl,trivial⟩,?_,v',rfl,⟨hr2,_,.inr rfl,hB3⟩,ho3,hn',hbl'⟩
 exact ((Qkt hc1).trans (hc2.mono (fun x hx=>by rcases List.mem_singleton.1 hx with rfl;simp))).trans (Qkt hc3)
theorem Qqj:Tryz.prog.follows .mixedOrders=true:=by kernel_rfl
theorem Qqi {L:List Value} {w:World} {b:Nat} {v:Value} {xs:List U8} (hb:BldAt 89 w b v) (ho:Own 5 L w v xs) :
  CallsTo Tryz.prog 37 [pb b] w (fun r w'=>Chg [v] w w'/\Jn [.string (Jv xs)]=r):=by
 obtain ⟨hr,q,hq,hB⟩:=hb;refine QS (n:=14) (rs:=[.tmp 2]) Tryz.func37 rfl rfl rfl rfl rfl ?_;refine Qd <| XC (.string .empty) rfl <| Qb <| Qi fun K hK=>Qpq Qqj (.p 0 (.p 1 (.p 2 (.q 3 (.q 4 (.p 5 (.p 6 (.p 7 (.q 8 (.p 9 (.b 10 (.p 11 .done)))))))))))) (by kernel_rfl) ?_
 intro w0 e0;refine YA (v:=pb b) rfl rfl (fun w'=>QB rfl) <| YA (v:=pb b) rfl rfl (fun w'=>Ys rfl) <| YA (v:=.pointer (some ⟨b,1,none⟩)) rfl rfl (fun w'=>ZB 1 Tryz.underlying89 rfl rfl ⟨0,J7⟩ rfl rfl) <| Qdr (v:=v) rfl rfl (fun w' hS=>Qk Qcx rfl ((hB.ext (e0.trans hS)).at.drop 1)) <|
  Qdr (v:=sdp v) rfl rfl (fun w' hS=>Q0q (ho.step (Stepp.ext (e0.trans hS)) (e0.trans hS) (fun _ _=>Avoids.nil _)) hr rfl) <| YA (v:=pb b) rfl rfl (fun w'=>QB rfl) <| YA (v:=pb b) rfl rfl (fun w'=>Ys rfl) <| YA (v:=.pointer (some ⟨b,1,none⟩)) rfl rfl (fun w'=>ZB 1 Tryz.underlying89 rfl rfl ⟨0,J7⟩ rfl rfl) <| Qdr (v:=v) rfl rfl (fun w' hS=>Qk Qcx rfl ((hB.ext (e0.trans hS)).at.drop 1)) <|
  YA (v:=.int .i64 xs.length) rfl rfl (fun w'=>Qgt rfl Tryz.underlying87 ho rfl) <| QFs rfl rfl (QIq rfl Tryz.underlying148 bi5 rfl rfl (ho.step (Stepp.ext e0) e0 (fun _ _=>Avoids.nil _)) ?_)
 intro w1 hc;refine YA (v:=.string (Jv xs)) rfl rfl (fun w'=>XY rfl) <| Qpo <| hK _ _ <| Qs ⟨[.string (Jv xs)],⟨rfl,trivial⟩,(e0.mono (fun _ h=>by cases h)).trans hc,rfl⟩
section
variable {P:Program} [JD P] {n:Nat} {ρ:Env} {w:World}
variable {d:Option Nat} {t T U:TypeId} {p:String} {af:Array Edge} {gu:Option (Nat×Bool)} {x y z:Operand}
theorem QZv {e:TypeId} {k:IntKind} {sz m c b:Nat} (hu:P.underlying T=some (.slice e)) (hz:Xi P e sz) (hx:Qm n ρ x=.slice (some ⟨b,0,none⟩) m c) (hh:Qm n ρ z=.int k 0):Yl P n ρ ⟨d,.slice T x none (some z) none,t,p,af,gu⟩ w (.slice (some ⟨b,0,none⟩) 0 c) :=
 YL (X0 (J5 _ _ _ _ _)) fun w1 _=>by
  simp [execOp,hx,hh,Instr.sliceAt,Instr.slice,run_underlying hu,Instr.sliceBounds,Instr.sliceBound,asIntOf,YW hz,Addr.add]
theorem QZr {k:IntKind} {a b c:Int} (h:k.wrap (a+b)=c) (hx:Qm n ρ x=.int k a) (hy:Qm n ρ y=.int k b):Yl P n ρ ⟨d,.binOp .add T x y U,t,p,af,gu⟩ w (.int k c):=h▸Q6 hx hy
theorem QZu {e:TypeId} {sz c:Nat} {a:Addr} {aT:Array TypeId} (ha:aT[0]?=some T) (hu:P.underlying T=some (.slice e)) (hz:Xi P e sz) (hx:Qm n ρ x=.slice (some a) 0 c) (hy:Qm n ρ y=.slice none 0 0):Yl P n ρ ⟨d,.call ⟨.builtin .copy,#[x,y],aT⟩,t,p,af,gu⟩ w (.int .i64 0):=by
 have e0:execOp (Qm n ρ) ⟨d,.call ⟨.builtin .copy,#[x,y],aT⟩,t,p,af,gu⟩=(Builtin.copy_ aT t #[.slice (some a) 0 c,.slice none 0 0] >>= fun v=>Pure.pure (Next.value v)):=by
  simp [execOp,resolve,invoke,builtin,hx,hy]
 refine YL (by grind [X0,QXn]) fun w1 _=>?_;rw [e0];simp [Builtin.copy_,ha,run_underlying hu,YW hz,Builtin.lenOf,Builtin.firstCells,storeCells,goInt]
end
theorem QGx {L:List Value} {w:World} {b:Nat} {q:Value} {i:Int} (hq:q=.pointer (some ⟨b,0,none⟩)) (hB:Box w b [q,.slice none 0 0] 89) (h0:0 < i) (h1:i<=1073741824) :
    CallsTo Tryz.prog 120 [pb b,.int .i64 i] w (fun r w'=>Chg [pb b] w w'/\Jn []=r/\∃ v',Qcj v'/\Box w' b [q,v'] 89/\Own 5 (v'::pb b::L) w' v' ([]:List U8)/\Qu v'≠some b/\∀ k,Qu v'=some k->w.heap.size<=k):=by
  refine Qkr (n:=30) (rs:=[]) Tryz.func120 rfl rfl rfl rfl rfl ?_;have hw:w64 (w64 (2 * 0)+i)=i:=by grind [Yh]
  refine Qi fun K hK=>Qpq Qqj (.p 0 (.p 1 (.p 2 (.q 3 (.p 4 (.p 5 (.p 6 (.p 7 (.p 9 (.p 10 (.p 11 (.q 12 (.p 13 (.e 8 (.p 14 (.p 15 .done)))))))))))))))) (by kernel_rfl) ?_;intro w0 e0;refine YA (v:=pb b) rfl rfl (fun w'=>QB rfl) <| YA (v:=pb b) rfl rfl (fun w'=>Ys rfl) <| YA (v:=.pointer (some ⟨b,1,none⟩)) rfl rfl (fun w'=>ZB 1 Tryz.underlying89 rfl rfl ⟨0,J7⟩ rfl rfl) <| Qdr (v:=.slice none 0 0) rfl rfl (fun w' hS=>Qk Qcx rfl ((hB.ext (e0.trans hS)).at.drop 1)) <|
    YA (v:=.int .i64 0) rfl rfl (fun w'=>Qgq rfl Tryz.underlying87 rfl) <| YA (v:=.int .i64 (w64 (2 * 0))) rfl rfl (fun w'=>Qgv rfl rfl) <| YA (v:=.int .i64 i) rfl rfl (fun w'=>QB rfl) <| YA (v:=.int .i64 i) rfl rfl (fun w'=>QZr hw rfl rfl) <|
    YA (v:=pb b) rfl rfl (fun w'=>QB rfl) <| YA (v:=pb b) rfl rfl (fun w'=>Ys rfl) <| YA (v:=.pointer (some ⟨b,1,none⟩)) rfl rfl (fun w'=>ZB 1 Tryz.underlying89 rfl rfl ⟨0,J7⟩ rfl rfl) <| Qdr (v:=.slice none 0 0) rfl rfl (fun w' hS=>Qk Qcx rfl ((hB.ext (e0.trans hS)).at.drop 1)) <|
    YA (v:=.int .i64 0) rfl rfl (fun w'=>Qgt rfl Tryz.underlying87 (Own.nil (α:=U8) 5 [] w') rfl) <| QFt rfl rfl (QIk (T:=87) (ps:=#[3]) Tryz.func184 (by kernel_rfl) (by kernel_rfl) (by kernel_rfl) (by kernel_rfl) Tryz.underlying87 rfl h0 h1 ?_)
  rintro v1 w1 e1 hf1 ⟨b1,c1,cs,rfl,hrow,hsz,hle,hmx⟩;refine ⟨e1,?_⟩;have hB1:Box w1 b [q,.slice none 0 0] 89:=hB.ext (e0.trans e1);have hcs:c1≠0:=by omega
  have hbn:w0.heap.size<=b1:=hf1 b1 rfl;have hne:b1≠b:=fun e=>by have:=(hB.ext e0).lt;omega
  refine YA (v:=.slice (some ⟨b1,0,none⟩) 0 c1) rfl rfl (fun w'=>QZv Tryz.underlying87 bi5.size rfl rfl) <| YA (v:=.slice (some ⟨b1,0,none⟩) 0 c1) rfl rfl (fun w'=>XY rfl) <| Qpo <| hK _ _ <| Qd <| Q1 (.slice (some ⟨b1,0,none⟩) 0 c1) rfl <| Q1 (pb b) rfl <| Xg (pb b) (Ys rfl) <| Xg (.pointer (some ⟨b,1,none⟩)) (ZB 1 Tryz.underlying89 rfl rfl ⟨0,J7⟩ rfl rfl) <| Xg (.slice none 0 0) (Qk Qcx rfl (hB1.at.drop 1)) <| Xg (.int .i64 0) (QZu rfl Tryz.underlying87 bi5.size rfl rfl) <| Qb <|
    QC <| Q1 (pb b) rfl <| Q1 (.slice (some ⟨b1,0,none⟩) 0 c1) rfl <| Xg (pb b) (Ys rfl) <| Xg (.pointer (some ⟨b,1,none⟩)) (ZB 1 Tryz.underlying89 rfl rfl ⟨0,J7⟩ rfl rfl) <| Qe rfl (Y2 (vs:=[.slice (some ⟨b1,0,none⟩) 0 c1]) (cs':=[q,.slice (some ⟨b1,0,none⟩) 0 c1]) J7 rfl rfl rfl rfl hB1 rfl (Qg rfl QF) rfl ?_)
  intro w2 hc2 hB2;have ho1:Own 5 (.slice (some ⟨b1,0,none⟩) 0 c1::pb b::L) w1 (.slice (some ⟨b1,0,none⟩) 0 c1) ([]:List U8):=⟨[],⟨rfl,.inr ⟨b1,c1,cs,rfl,Nat.zero_le _,hrow,Nat.zero_le _,hmx,by rw [hsz];exact (Nat.mul_one _).symm,rfl⟩⟩,Elems.nil⟩;have hn1:Qu (.slice (some ⟨b1,0,none⟩) 0 c1)≠some b:=fun e=>hne (by grind [Qu])
  refine Qb ⟨[],trivial,((e0.trans e1).mono (fun _ h=>by cases h)).trans hc2,rfl,_,fun a m h=>?_,hB2,ho1.step (Qj hc2 Xa) hc2 (Xu hn1),hn1,fun k hk=>?_⟩
  · simp_all
  · have hk:some b1=some k:=hk;cases hk;exact Nat.le_trans e0.size hbn
def grw (i:Int):Option Unit:=if 0<=i/\i<=1073741824 then some () else none
theorem QGw {L:List Value} {w:World} {b:Nat} {i:Int} {u:Unit} (hb:BldAt 89 w b (.slice none 0 0)) (hg:grw i=some u) :
  CallsTo Tryz.prog 85 [pb b,.int .i64 i] w (fun r w'=>Chg [.slice none 0 0,pb b] w w'/\∃ v',Jn []=r/\BldAt 89 w' b v'/\Own 5 (v'::pb b::L) w' v' ([]:List U8)/\Qu v'≠some b/\∀ k,Qu v'=some k->Qu (.slice none 0 0)=some k\/w.heap.size<=k):=by
 obtain ⟨h0,h1⟩:0<=i/\i<=1073741824:=by
  grind [grw]
 obtain ⟨hr,q,hq,hB⟩:=hb;refine Qkr (n:=25) (rs:=[]) Tryz.func85 rfl rfl rfl rfl rfl ?_;refine Qd <| Q1 (pb b) rfl <| Qe rfl (Qq Tryz.func84 (by kernel_rfl) rfl (QH rfl) (Qxl hq hB rfl) ?_)
 rintro _ w1 ⟨hc1,rfl,hB1⟩;refine Qb <| Qi fun K hK=>Qd <| Q1 (.int .i64 i) rfl <| Xg (.bool (decide (i < 0))) (Xc rfl rfl) <| Qb <| YD (b:=decide (i < 0)) rfl (fun h=>by grind) (fun _=>Qw <| hK _ _ ?_)
 refine Qi fun K2 hK2=>Qpq Qqj (.p 0 (.p 1 (.p 2 (.q 3 (.p 4 (.p 5 (.p 6 (.p 7 (.q 8 (.p 9 (.p 10 (.p 11 (.p 12 .done))))))))))))) (by kernel_rfl) ?_;intro w2 e2;have hB2:∀ w',Ext w2 w'->Box w' b [pb b,.slice none 0 0] 89:=fun w' hS=>hB1.ext (e2.trans hS)
 have hw:IntKind.i64.wrap (0 - 0)=0:=rfl;refine YA (v:=pb b) rfl rfl (fun w'=>QB rfl) <| YA (v:=pb b) rfl rfl (fun w'=>Ys rfl) <| YA (v:=.pointer (some ⟨b,1,none⟩)) rfl rfl (fun w'=>ZB 1 Tryz.underlying89 rfl rfl ⟨0,J7⟩ rfl rfl) <| Qdr (v:=.slice none 0 0) rfl rfl (fun w' hS=>Qk Qcx rfl ((hB2 w' hS).at.drop 1)) <|
  YA (v:=.int .i64 0) rfl rfl (fun w'=>Qgq rfl Tryz.underlying87 rfl) <| YA (v:=pb b) rfl rfl (fun w'=>QB rfl) <| YA (v:=pb b) rfl rfl (fun w'=>Ys rfl) <| YA (v:=.pointer (some ⟨b,1,none⟩)) rfl rfl (fun w'=>ZB 1 Tryz.underlying89 rfl rfl ⟨0,J7⟩ rfl rfl) <| Qdr (v:=.slice none 0 0) rfl rfl (fun w' hS=>Qk Qcx rfl ((hB2 w' hS).at.drop 1)) <|
  YA (v:=.int .i64 0) rfl rfl (fun w'=>Qgt rfl Tryz.underlying87 (Own.nil (α:=U8) 5 [] w') rfl) <| YA (v:=.int .i64 (IntKind.i64.wrap (0 - 0))) rfl rfl (fun w'=>Y1 rfl rfl) <| YA (v:=.int .i64 i) rfl rfl (fun w'=>QB rfl) <| YA (v:=.bool (decide (IntKind.i64.wrap (0 - 0) < i))) rfl rfl (fun w'=>Xc rfl rfl) <| Qpo <| hK2 _ _ ?_
 rw [hw];refine YD (b:=decide (0 < i)) rfl (fun h=>?_) (fun h=>?_)
 ·have h:0 < i:=by grind
  refine QC <| Q1 (pb b) rfl <| Q1 (.int .i64 i) rfl <| Qe rfl (Qq Tryz.func120 (by kernel_rfl) rfl (QZ rfl rfl) (QGx (L:=L) rfl (hB1.ext e2) h h1) ?_)
  rintro _ w3 ⟨hc3,rfl,v',hr',hB3,ho3,hn3,hf3⟩;exact Qb ⟨[],trivial,Qkt ((hc1.trans (e2.mono (fun _ h=>by cases h))).trans hc3),v',rfl,⟨hr',_,.inr rfl,hB3⟩,ho3,hn3,fun k hk=>.inr (Nat.le_trans (Nat.le_trans hc1.size e2.size) (hf3 k hk))⟩
 ·exact Qw ⟨[],trivial,Qkt (hc1.trans (e2.mono (fun _ h=>by cases h))),_,rfl,⟨QCj,_,.inr rfl,hB1.ext e2⟩,Own.nil _ _ _,(fun h=>by cases h),(fun k h=>by cases h)⟩
end Go.Gw

end
section
set_option linter.unusedSectionVars false
set_option linter.unusedVariables false
namespace Go.Gw
open Go
section
variable {P:Program} [JD P] {n:Nat} {ρ:Env} {w:World}
variable {d:Option Nat} {t T U:TypeId} {p:String} {af:Array Edge} {gu:Option (Nat×Bool)} {x y z:Operand}
end
end Go.Gw

end
section
set_option linter.unusedSectionVars false
set_option linter.unusedVariables false
namespace Go.Gw
open Go
def ErrRd (T:TypeId) (v:Value) (k:Int):Prop:=(k=0/\v=.nilIface)\/(0 < k/\v=.iface T (.int .i64 k))\/(k < 0/\∃ U a,U≠T/\v=.iface U (.pointer a))
theorem ErrRd.nil {T:TypeId}:ErrRd T .nilIface 0:=.inl ⟨rfl,rfl⟩
section
variable {P:Program} [JD P] {n:Nat} {ρ:Env} {w:World}
variable {d:Option Nat} {t T U I:TypeId} {p:String} {af:Array Edge} {gu:Option (Nat×Bool)} {x y z:Operand} {v:Value} {k j:Int}
omit [JD P] in
theorem QCk {es:Array Event} (hu:∃ ms,P.underlying I=some (.interface ms)) (h:ErrRd T v k):(Op.equal I v .nilIface).runT P w es=(.ok (decide (k=0)) w,es):=by
 obtain ⟨ms,hu⟩:=hu;rw [Op.equal,show Op.maxDepth=9999+1 from rfl,Op.equalIn];rcases h with ⟨rfl,rfl⟩ | ⟨h,rfl⟩ | ⟨h,U,a,_,rfl⟩
 ·exact (Xb (Y4 hu)).trans rfl
 ·refine (Xb (Y4 hu)).trans ?_;rw [decide_eq_false (by omega)];rfl
 ·refine (Xb (Y4 hu)).trans ?_;rw [decide_eq_false (by omega)];rfl
theorem Q0j (hu:∃ ms,P.underlying I=some (.interface ms)) (h:ErrRd T v k) (hx:Qm n ρ x=v):Yl P n ρ ⟨d,.binOp .neq I x (.const .nilIface) U,t,p,af,gu⟩ w (.bool (!decide (k=0))):=Ym fun w es=>by
 have hy:Qm n ρ (.const .nilIface)=.nilIface:=rfl;have:=QCk (w:=w) (es:=es) hu h;rcases h with ⟨rfl,rfl⟩ | ⟨_,rfl⟩ | ⟨_,_,_,_,rfl⟩<;>(simp only [execOp,hx,hy,eqGuard,binOp,Bool.or_true,Bool.not_true,Bool.false_eq_true,if_true,if_false];first | exact (Xb (Xb (a:=()) rfl)).trans ((Xb (Xb this)).trans rfl) | exact (Xb (Xb this)).trans rfl)
theorem QZz (hu:∃ ms,P.underlying I=some (.interface ms)) (h:ErrRd T v k) (hx:Qm n ρ x=v):Yl P n ρ ⟨d,.binOp .eql I x (.const .nilIface) U,t,p,af,gu⟩ w (.bool (decide (k=0))):=Ym fun w es=>by
 have hy:Qm n ρ (.const .nilIface)=.nilIface:=rfl;have:=QCk (w:=w) (es:=es) hu h;rcases h with ⟨rfl,rfl⟩ | ⟨_,rfl⟩ | ⟨_,_,_,_,rfl⟩<;>(simp only [execOp,hx,hy,eqGuard,binOp,Bool.or_true,Bool.not_true,Bool.false_eq_true,if_true,if_false];first | exact (Xb (Xb (a:=()) rfl)).trans ((Xb (Xb this)).trans rfl) | exact (Xb (Xb this)).trans rfl)
end
end Go.Gw

end
