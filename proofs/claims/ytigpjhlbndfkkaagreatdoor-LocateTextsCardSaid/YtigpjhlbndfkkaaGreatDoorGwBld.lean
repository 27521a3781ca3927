/- Laws of the walk. Condition: each theorem says its own. -/
import Derived.Test.YtigpjhlbndfkkaaGreatDoorGwFacts2
import Derived.Test.YtigpjhlbndfkkaaGreatDoorGwLib21
import Derived.Test.YtigpjhlbndfkkaaGreatDoorGwPl
import Derived.Test.YtigpjhlbndfkkaaGreatDoorGwCj6
import GoSem.Core.Utf8
set_option linter.unusedVariables false
set_option linter.unusedSimpArgs false
set_option linter.unusedSectionVars false
open List renaming mem_singleton→Ea,append_assoc→Eb,getElem?_eq_some_iff→Ed
open Nat renaming mul_one→Ec,le_trans→Ee,add_sub_cancel_left→Ef,add_zero→Eg
section
set_option maxRecDepth 100000
set_option maxHeartbeats 8000000
set_option linter.unusedVariables false
set_option linter.unusedSectionVars false
namespace Go.Gw
open Go Go.Proofs
theorem Qgz:Q6 Tryz.prog 115 2:=YF (by kernel_rfl)
theorem Qcx:Q6 Tryz.prog 112 1:=YF (by kernel_rfl)
theorem Qgr:Y5 Tryz.prog 112:=⟨_,Tryz.underlying112,trivial⟩
attribute [local irreducible] T0 TS TT TP Eff Stp WC Quiet gd
variable [JD Tryz.prog]
theorem Qgu {w:World} {b:Nat} {v:Value} {q:Value} (hq:q=.pointer none\/q=.pointer (some ⟨b,0,none⟩)) (hB:Box w b [q,v] 115) (h1:v.oneCell'=true):CallsTo Tryz.prog 85 [.pointer (some ⟨b,0,none⟩)] w (fun r w'=>Chg [.pointer (some ⟨b,0,none⟩)] w w'/\ZX []=r/\Box w' b [.pointer (some ⟨b,0,none⟩),v] 115):=by
 refine Qai (n:=20) (rs:=[]) Tryz.func85 rfl rfl rfl rfl rfl ?_;rcases hq with rfl | rfl
 ·refine Qd <| Qc (.pointer (some ⟨b,0,none⟩)) rfl <| Qa (.pointer (some ⟨b,0,none⟩)) (Xy rfl) <| Qa (.pointer (some ⟨b,0,none⟩)) (Qw 0 Tryz.underlying115 rfl rfl ⟨0,Qcx⟩ rfl rfl) <| Qa (.pointer none) (Qt Qgr rfl hB.at) <| Qa (.bool true) (QJg Tryz.underlying112 rfl rfl) <| Qb <| Qx (b:=true) rfl (fun _=>?_) (fun h=>by cases h)
  refine QB <| Qc (.pointer (some ⟨b,0,none⟩)) rfl <| Qc (.pointer (some ⟨b,0,none⟩)) rfl <| Qa (.pointer (some ⟨b,0,none⟩)) (QKb (k:=1) Tryz.underlying112 Tryz.underlying154 Qgz hB rfl) <| Qa (.pointer (some ⟨b,0,none⟩)) (Qjt (args:=[.pointer (some ⟨b,0,none⟩)]) Tryz.func104 (by kernel_rfl) (by kernel_rfl) (by kernel_rfl) (g:=Extern.AbiNoEscape.same) (by kernel_rfl) (QO rfl) rfl) <| Qa (.pointer (some ⟨b,0,none⟩)) (QJl (k:=2) Tryz.underlying154 Tryz.underlying112 Qgz hB (by kernel_rfl) rfl) <| Qa (.pointer (some ⟨b,0,none⟩)) (Xy rfl) <| Qa (.pointer (some ⟨b,0,none⟩)) (Qw 0 Tryz.underlying115 rfl rfl ⟨0,Qcx⟩ rfl rfl) <| Qh rfl (Ys (vs:=[.pointer (some ⟨b,0,none⟩)]) (cs':=[.pointer (some ⟨b,0,none⟩),v]) Qcx rfl rfl rfl rfl hB rfl (Qi rfl QH) rfl ?_)
  intro w' hc hB';exact Qb ⟨[],trivial,hc,rfl,hB'⟩
 ·refine Qd <| Qc (.pointer (some ⟨b,0,none⟩)) rfl <| Qa (.pointer (some ⟨b,0,none⟩)) (Xy rfl) <| Qa (.pointer (some ⟨b,0,none⟩)) (Qw 0 Tryz.underlying115 rfl rfl ⟨0,Qcx⟩ rfl rfl) <| Qa (.pointer (some ⟨b,0,none⟩)) (Qt Qgr rfl hB.at) <| Qa (.bool false) (QJh Tryz.underlying112 rfl rfl) <| Qb <| Qx (b:=false) rfl (fun h=>by cases h) (fun _=>?_)
  refine Qd <| Qc (.pointer (some ⟨b,0,none⟩)) rfl <| Qa (.pointer (some ⟨b,0,none⟩)) (Xy rfl) <| Qa (.pointer (some ⟨b,0,none⟩)) (Qw 0 Tryz.underlying115 rfl rfl ⟨0,Qcx⟩ rfl rfl) <| Qa (.pointer (some ⟨b,0,none⟩)) (Qt Qgr rfl hB.at) <| Qc (.pointer (some ⟨b,0,none⟩)) rfl <| Qa (.bool false) (QJs (k:=1) Tryz.underlying112 Qgz rfl rfl) <| Qb <| Qx (b:=false) rfl (fun h=>by cases h) (fun _=>?_)
  exact Qy ⟨[],trivial,Chg.refl _ _,rfl,hB⟩
theorem Zi:Q6 Tryz.prog 113 1:=YF (by kernel_rfl)
theorem Jv:Y5 Tryz.prog 113:=⟨_,Tryz.underlying113,trivial⟩
theorem bi5:EInfo Tryz.prog 5 1 1 (.int .u8 0):=⟨_,rfl,by kernel_rfl,by kernel_rfl,by kernel_rfl,rfl,Nat.one_pos⟩
abbrev pb (b:Nat):Value:=.pointer (some ⟨b,0,none⟩)
theorem Qbi {u v:Value} {w w':World} (h:Chg [u] w w'):Chg [v,u] w w':=h.mono (fun x hx=>by simp_all)
theorem Qgv {L:List Value} {w:World} {b:Nat} {v:Value} {xs zs:List U8} {s:ByteArray} (hb:BldAt 115 w b v) (ho:Own 5 (v::pb b::L) w v xs) (hn:Qv v≠some b) (hm:Xz xs (bl s)=some zs) :
  CallsTo Tryz.prog 65 [pb b,.string s] w (fun r w'=>Chg [v,pb b] w w'/\∃ v',ZX [.int .i64 s.size,.nilIface]=r/\BldAt 115 w' b v'/\Own 5 (v'::pb b::L) w' v' zs/\Qv v'≠some b/\∀ k,Qv v'=some k->Qv v=some k\/w.heap.size<=k):=by
 obtain ⟨hr,q,hq,hB⟩:=hb;refine QJ (n:=19) (rs:=[.tmp 4,.tmp 5]) Tryz.func65 rfl rfl rfl rfl rfl ?_;refine Qd <| Qe (.int .i64 0) rfl <| Qe .nilIface rfl <| Qb <| Qd <| Qc (pb b) rfl <| Qh rfl (Qs Tryz.func85 (by kernel_rfl) rfl (QO rfl) (Qgu hq hB ho.one1) ?_)
 rintro _ w1 ⟨hc1,rfl,hB1⟩;have ho1:Own 5 (v::pb b::L) w1 v xs:=ho.step (QQ hc1 XA) hc1 (Ju hn);refine Qb <| Qd <| Qc (pb b) rfl <| Qc (pb b) rfl <| Qa (pb b) (Xy rfl) <| Qa (.pointer (some ⟨b,1,none⟩)) (Qw 1 Tryz.underlying115 rfl rfl ⟨0,Zi⟩ rfl rfl) <| Qa v (Qt Jv rfl (hB1.at.drop 1)) <| Qc (.string s) rfl <| Qh rfl (Qvh Tryz.underlying113 Tryz.underlying9 bi5 rfl rfl rfl rfl ho1 hr hm ?_)
 intro v' w2 hc2 hbl ho2 hr2;have hbl':∀ k,Qv v'=some k->Qv v=some k\/w.heap.size<=k:=fun k hk=>(hbl k hk).imp id fun h=>Ee hc1.size h
 have hn':Qv v'≠some b:=ZG hbl hn hB1;have hB2:Box w2 b [pb b,v] 115:=hB1.chg hc2 (YN hn);refine Qa (pb b) (Xy rfl) <| Qa (.pointer (some ⟨b,1,none⟩)) (Qw 1 Tryz.underlying115 rfl rfl ⟨0,Zi⟩ rfl rfl) <| Qh rfl (Ys (vs:=[v']) (cs':=[pb b,v']) Zi (ZQ ho2.one1) rfl rfl rfl hB2 rfl (Qi ho2.one1 QH) rfl ?_)
 intro w3 hc3 hB3;have ho3:Own 5 (v'::pb b::L) w3 v' zs:=ho2.step (QQ hc3 XA) hc3 (Ju hn');refine Qb <| Qd <| Qc (.string s) rfl <| Qa (.int .i64 s.size) (Yc rfl Tryz.underlying9 rfl) <| Qe (.int .i64 s.size) rfl <| Qe .nilIface rfl <| Qb <| Qu ⟨[.int .i64 s.size,.nilIface],⟨rfl,rfl,trivial⟩,?_,v',rfl,⟨hr2,_,.inr rfl,hB3⟩,ho3,hn',hbl'⟩
 exact ((Qbi hc1).trans (hc2.mono (fun x hx=>by rcases Ea.1 hx with rfl;simp))).trans (Qbi hc3)
theorem Qgw:Tryz.prog.follows .mixedOrders=true:=by kernel_rfl
theorem Qlc {L:List Value} {w:World} {b:Nat} {v:Value} {xs:List U8} (hb:BldAt 115 w b v) (ho:Own 5 L w v xs) :
  CallsTo Tryz.prog 62 [pb b] w (fun r w'=>Chg [v] w w'/\ZX [.string (X3 xs)]=r):=by
 obtain ⟨hr,q,hq,hB⟩:=hb;refine QJ (n:=14) (rs:=[.tmp 2]) Tryz.func62 rfl rfl rfl rfl rfl ?_;refine Qd <| Qe (.string .empty) rfl <| Qb <| Qn fun K hK=>Qgh Qgw (.p 0 (.p 1 (.p 2 (.q 3 (.q 4 (.p 5 (.p 6 (.p 7 (.q 8 (.p 9 (.b 10 (.p 11 .done)))))))))))) (by kernel_rfl) ?_
 intro w0 e0;refine XP (v:=pb b) rfl rfl (fun w'=>Qp rfl) <| XP (v:=pb b) rfl rfl (fun w'=>Xy rfl) <| XP (v:=.pointer (some ⟨b,1,none⟩)) rfl rfl (fun w'=>Qw 1 Tryz.underlying115 rfl rfl ⟨0,Zi⟩ rfl rfl) <| Qac (v:=v) rfl rfl (fun w' hS=>Qt Jv rfl ((hB.ext (e0.trans hS)).at.drop 1)) <|
  Qac (v:=ZU v) rfl rfl (fun w' hS=>QJx (ho.step (Stepp.ext (e0.trans hS)) (e0.trans hS) (fun _ _=>Avoids.nil _)) hr rfl) <| XP (v:=pb b) rfl rfl (fun w'=>Qp rfl) <| XP (v:=pb b) rfl rfl (fun w'=>Xy rfl) <| XP (v:=.pointer (some ⟨b,1,none⟩)) rfl rfl (fun w'=>Qw 1 Tryz.underlying115 rfl rfl ⟨0,Zi⟩ rfl rfl) <| Qac (v:=v) rfl rfl (fun w' hS=>Qt Jv rfl ((hB.ext (e0.trans hS)).at.drop 1)) <|
  XP (v:=.int .i64 xs.length) rfl rfl (fun w'=>Ja rfl Tryz.underlying113 ho rfl) <| Qtq rfl rfl (Qlx rfl Tryz.underlying138 bi5 rfl rfl (ho.step (Stepp.ext e0) e0 (fun _ _=>Avoids.nil _)) ?_)
 intro w1 hc;refine XP (v:=.string (X3 xs)) rfl rfl (fun w'=>Yx rfl) <| Qge <| hK _ _ <| Qu ⟨[.string (X3 xs)],⟨rfl,trivial⟩,(e0.mono (fun _ h=>by cases h)).trans hc,rfl⟩
section
variable {P:Program} [JD P] {n:Nat} {ρ:Env} {w:World}
variable {d:Option Nat} {t T U:TypeId} {p:String} {af:Array Edge} {gu:Option (Nat×Bool)} {x y z:Operand}
theorem QJb {e:TypeId} {k:IntKind} {sz m c b:Nat} (hu:P.underlying T=some (.slice e)) (hz:Q6 P e sz) (hx:Qm n ρ x=.slice (some ⟨b,0,none⟩) m c) (hh:Qm n ρ z=.int k 0):Yl P n ρ ⟨d,.slice T x none (some z) none,t,p,af,gu⟩ w (.slice (some ⟨b,0,none⟩) 0 c) :=
 Yj (XC (JF _ _ _ _ _)) fun w1 _=>by
  simp [execOp,hx,hh,Instr.sliceAt,Instr.slice,run_underlying hu,Instr.sliceBounds,Instr.sliceBound,asIntOf,YW hz,Addr.add]
theorem QIw {k:IntKind} {a b c:Int} (h:k.wrap (a+b)=c) (hx:Qm n ρ x=.int k a) (hy:Qm n ρ y=.int k b):Yl P n ρ ⟨d,.binOp .add T x y U,t,p,af,gu⟩ w (.int k c):=h▸QI hx hy
theorem QJa {e:TypeId} {sz c:Nat} {a:Addr} {aT:Array TypeId} (ha:aT[0]?=some T) (hu:P.underlying T=some (.slice e)) (hz:Q6 P e sz) (hx:Qm n ρ x=.slice (some a) 0 c) (hy:Qm n ρ y=.slice none 0 0):Yl P n ρ ⟨d,.call ⟨.builtin .copy,#[x,y],aT⟩,t,p,af,gu⟩ w (.int .i64 0):=by
 have e0:execOp (Qm n ρ) ⟨d,.call ⟨.builtin .copy,#[x,y],aT⟩,t,p,af,gu⟩=(Builtin.copy_ aT t #[.slice (some a) 0 c,.slice none 0 0] >>= fun v=>Pure.pure (Next.value v)):=by
  simp [execOp,resolve,invoke,builtin,hx,hy]
 refine Yj (by grind [XC,Qrz]) fun w1 _=>?_;rw [e0];simp [Builtin.copy_,ha,run_underlying hu,YW hz,Builtin.lenOf,Builtin.firstCells,storeCells,goInt]
end
theorem Qun {L:List Value} {w:World} {b:Nat} {q:Value} {i:Int} (hq:q=.pointer (some ⟨b,0,none⟩)) (hB:Box w b [q,.slice none 0 0] 115) (h0:0 < i) (h1:i<=1073741824) :
    CallsTo Tryz.prog 87 [pb b,.int .i64 i] w (fun r w'=>Chg [pb b] w w'/\ZX []=r/\∃ v',Z5 v'/\Box w' b [q,v'] 115/\Own 5 (v'::pb b::L) w' v' ([]:List U8)/\Qv v'≠some b/\∀ k,Qv v'=some k->w.heap.size<=k):=by
  refine Qai (n:=30) (rs:=[]) Tryz.func87 rfl rfl rfl rfl rfl ?_;have hw:w64 (w64 (2 * 0)+i)=i:=by grind [Xs]
  refine Qn fun K hK=>Qgh Qgw (.p 0 (.p 1 (.p 2 (.q 3 (.p 4 (.p 5 (.p 6 (.p 7 (.p 9 (.p 10 (.p 11 (.q 12 (.p 13 (.e 8 (.p 14 (.p 15 .done)))))))))))))))) (by kernel_rfl) ?_;intro w0 e0;refine XP (v:=pb b) rfl rfl (fun w'=>Qp rfl) <| XP (v:=pb b) rfl rfl (fun w'=>Xy rfl) <| XP (v:=.pointer (some ⟨b,1,none⟩)) rfl rfl (fun w'=>Qw 1 Tryz.underlying115 rfl rfl ⟨0,Zi⟩ rfl rfl) <| Qac (v:=.slice none 0 0) rfl rfl (fun w' hS=>Qt Jv rfl ((hB.ext (e0.trans hS)).at.drop 1)) <|
    XP (v:=.int .i64 0) rfl rfl (fun w'=>Qtb rfl Tryz.underlying113 rfl) <| XP (v:=.int .i64 (w64 (2 * 0))) rfl rfl (fun w'=>YI rfl rfl) <| XP (v:=.int .i64 i) rfl rfl (fun w'=>Qp rfl) <| XP (v:=.int .i64 i) rfl rfl (fun w'=>QIw hw rfl rfl) <|
    XP (v:=pb b) rfl rfl (fun w'=>Qp rfl) <| XP (v:=pb b) rfl rfl (fun w'=>Xy rfl) <| XP (v:=.pointer (some ⟨b,1,none⟩)) rfl rfl (fun w'=>Qw 1 Tryz.underlying115 rfl rfl ⟨0,Zi⟩ rfl rfl) <| Qac (v:=.slice none 0 0) rfl rfl (fun w' hS=>Qt Jv rfl ((hB.ext (e0.trans hS)).at.drop 1)) <|
    XP (v:=.int .i64 0) rfl rfl (fun w'=>Ja rfl Tryz.underlying113 (Own.nil (α:=U8) 5 [] w') rfl) <| Qtr rfl rfl (Qvr (T:=113) (ps:=#[3]) Tryz.func109 (by kernel_rfl) (by kernel_rfl) (by kernel_rfl) (by kernel_rfl) Tryz.underlying113 rfl h0 h1 ?_)
  rintro v1 w1 e1 hf1 ⟨b1,c1,cs,rfl,hrow,hsz,hle,hmx⟩;refine ⟨e1,?_⟩;have hB1:Box w1 b [q,.slice none 0 0] 115:=hB.ext (e0.trans e1);have hcs:c1≠0:=by omega
  have hbn:w0.heap.size<=b1:=hf1 b1 rfl;have hne:b1≠b:=fun e=>by have:=(hB.ext e0).lt;omega
  refine XP (v:=.slice (some ⟨b1,0,none⟩) 0 c1) rfl rfl (fun w'=>QJb Tryz.underlying113 bi5.size rfl rfl) <| XP (v:=.slice (some ⟨b1,0,none⟩) 0 c1) rfl rfl (fun w'=>Yx rfl) <| Qge <| hK _ _ <| Qd <| Qc (.slice (some ⟨b1,0,none⟩) 0 c1) rfl <| Qc (pb b) rfl <| Qa (pb b) (Xy rfl) <| Qa (.pointer (some ⟨b,1,none⟩)) (Qw 1 Tryz.underlying115 rfl rfl ⟨0,Zi⟩ rfl rfl) <| Qa (.slice none 0 0) (Qt Jv rfl (hB1.at.drop 1)) <| Qa (.int .i64 0) (QJa rfl Tryz.underlying113 bi5.size rfl rfl) <| Qb <|
    QB <| Qc (pb b) rfl <| Qc (.slice (some ⟨b1,0,none⟩) 0 c1) rfl <| Qa (pb b) (Xy rfl) <| Qa (.pointer (some ⟨b,1,none⟩)) (Qw 1 Tryz.underlying115 rfl rfl ⟨0,Zi⟩ rfl rfl) <| Qh rfl (Ys (vs:=[.slice (some ⟨b1,0,none⟩) 0 c1]) (cs':=[q,.slice (some ⟨b1,0,none⟩) 0 c1]) Zi rfl rfl rfl rfl hB1 rfl (Qi rfl QH) rfl ?_)
  intro w2 hc2 hB2;have ho1:Own 5 (.slice (some ⟨b1,0,none⟩) 0 c1::pb b::L) w1 (.slice (some ⟨b1,0,none⟩) 0 c1) ([]:List U8):=⟨[],⟨rfl,.inr ⟨b1,c1,cs,rfl,Nat.zero_le _,hrow,Nat.zero_le _,hmx,by rw [hsz];exact (Ec _).symm,rfl⟩⟩,Elems.nil⟩;have hn1:Qv (.slice (some ⟨b1,0,none⟩) 0 c1)≠some b:=fun e=>hne (by grind [Qv])
  refine Qb ⟨[],trivial,((e0.trans e1).mono (fun _ h=>by cases h)).trans hc2,rfl,_,fun a m h=>?_,hB2,ho1.step (QQ hc2 XA) hc2 (Ju hn1),hn1,fun k hk=>?_⟩
  · simp_all
  · have hk:some b1=some k:=hk;cases hk;exact Ee e0.size hbn
def grw (i:Int):Option Unit:=if 0<=i/\i<=1073741824 then some () else none
theorem Qum {L:List Value} {w:World} {b:Nat} {i:Int} {u:Unit} (hb:BldAt 115 w b (.slice none 0 0)) (hg:grw i=some u) :
  CallsTo Tryz.prog 64 [pb b,.int .i64 i] w (fun r w'=>Chg [.slice none 0 0,pb b] w w'/\∃ v',ZX []=r/\BldAt 115 w' b v'/\Own 5 (v'::pb b::L) w' v' ([]:List U8)/\Qv v'≠some b/\∀ k,Qv v'=some k->Qv (.slice none 0 0)=some k\/w.heap.size<=k):=by
 obtain ⟨h0,h1⟩:0<=i/\i<=1073741824:=by
  grind [grw]
 obtain ⟨hr,q,hq,hB⟩:=hb;refine Qai (n:=25) (rs:=[]) Tryz.func64 rfl rfl rfl rfl rfl ?_;refine Qd <| Qc (pb b) rfl <| Qh rfl (Qs Tryz.func85 (by kernel_rfl) rfl (QO rfl) (Qgu hq hB rfl) ?_)
 rintro _ w1 ⟨hc1,rfl,hB1⟩;refine Qb <| Qn fun K hK=>Qd <| Qc (.int .i64 i) rfl <| Qa (.bool (decide (i < 0))) (Xb rfl rfl) <| Qb <| Qx (b:=decide (i < 0)) rfl (fun h=>by grind) (fun _=>Qy <| hK _ _ ?_)
 refine Qn fun K2 hK2=>Qgh Qgw (.p 0 (.p 1 (.p 2 (.q 3 (.p 4 (.p 5 (.p 6 (.p 7 (.q 8 (.p 9 (.p 10 (.p 11 (.p 12 .done))))))))))))) (by kernel_rfl) ?_;intro w2 e2;have hB2:∀ w',Ext w2 w'->Box w' b [pb b,.slice none 0 0] 115:=fun w' hS=>hB1.ext (e2.trans hS)
 have hw:IntKind.i64.wrap (0 - 0)=0:=rfl;refine XP (v:=pb b) rfl rfl (fun w'=>Qp rfl) <| XP (v:=pb b) rfl rfl (fun w'=>Xy rfl) <| XP (v:=.pointer (some ⟨b,1,none⟩)) rfl rfl (fun w'=>Qw 1 Tryz.underlying115 rfl rfl ⟨0,Zi⟩ rfl rfl) <| Qac (v:=.slice none 0 0) rfl rfl (fun w' hS=>Qt Jv rfl ((hB2 w' hS).at.drop 1)) <|
  XP (v:=.int .i64 0) rfl rfl (fun w'=>Qtb rfl Tryz.underlying113 rfl) <| XP (v:=pb b) rfl rfl (fun w'=>Qp rfl) <| XP (v:=pb b) rfl rfl (fun w'=>Xy rfl) <| XP (v:=.pointer (some ⟨b,1,none⟩)) rfl rfl (fun w'=>Qw 1 Tryz.underlying115 rfl rfl ⟨0,Zi⟩ rfl rfl) <| Qac (v:=.slice none 0 0) rfl rfl (fun w' hS=>Qt Jv rfl ((hB2 w' hS).at.drop 1)) <|
  XP (v:=.int .i64 0) rfl rfl (fun w'=>Ja rfl Tryz.underlying113 (Own.nil (α:=U8) 5 [] w') rfl) <| XP (v:=.int .i64 (IntKind.i64.wrap (0 - 0))) rfl rfl (fun w'=>Q9 rfl rfl) <| XP (v:=.int .i64 i) rfl rfl (fun w'=>Qp rfl) <| XP (v:=.bool (decide (IntKind.i64.wrap (0 - 0) < i))) rfl rfl (fun w'=>Xb rfl rfl) <| Qge <| hK2 _ _ ?_
 rw [hw];refine Qx (b:=decide (0 < i)) rfl (fun h=>?_) (fun h=>?_)
 ·have h:0 < i:=by grind
  refine QB <| Qc (pb b) rfl <| Qc (.int .i64 i) rfl <| Qh rfl (Qs Tryz.func87 (by kernel_rfl) rfl (QR rfl rfl) (Qun (L:=L) rfl (hB1.ext e2) h h1) ?_)
  rintro _ w3 ⟨hc3,rfl,v',hr',hB3,ho3,hn3,hf3⟩;exact Qb ⟨[],trivial,Qbi ((hc1.trans (e2.mono (fun _ h=>by cases h))).trans hc3),v',rfl,⟨hr',_,.inr rfl,hB3⟩,ho3,hn3,fun k hk=>.inr (Ee (Ee hc1.size e2.size) (hf3 k hk))⟩
 ·exact Qy ⟨[],trivial,Qbi (hc1.trans (e2.mono (fun _ h=>by cases h))),_,rfl,⟨Qqf,_,.inr rfl,hB1.ext e2⟩,Own.nil _ _ _,(fun h=>by cases h),(fun k h=>by cases h)⟩
end Go.Gw

end
section
namespace Go.Gw
open Go
section
variable {P:Program} [JD P] {n:Nat} {ρ:Env} {w:World}
variable {d:Option Nat} {t T:TypeId} {p:String} {af:Array Edge} {gu:Option (Nat×Bool)} {x y:Operand}
end
end Go.Gw

end
section
namespace Go.Gw
open Go
structure RwB where
 b:Nat
 pre:List Value
 post:List Value
 T:TypeId
 cap:Nat
def YG (xs:List U8):List Value:=(ZA xs).map (Value.int .u8)
theorem Qaa (xs:List U8):(YG xs).length=xs.length:=@List.length_map _ _ (ZA xs) (Value.int .u8)
theorem Qsp {xs:List U8} {k:Nat} {el:U8} (h:xs[k]?=some el):(YG xs)[k]?=some (.int .u8 el):=by
 have h2:(ZA xs)[k]?=some el:=h;unfold YG;rw [List.getElem?_map,h2];rfl
theorem QIa (xs:List U8) (k:Nat) (y:U8):YG (xs.set k y)=(YG xs).set k (.int .u8 y):=by
 show List.map (Value.int .u8) ((ZA xs).set k y)=(List.map (Value.int .u8) (ZA xs)).set k (.int .u8 y);exact List.map_set
def Rwo (B:RwB) (_e:TypeId) (_L:List Value) (w:World) (v:Value) (xs:List U8):Prop :=
 v=.slice (some ⟨B.b,B.pre.length,none⟩) xs.length B.cap/\Box w B.b (B.pre++YG xs++B.post) B.T
section
variable {B:RwB} {e e':TypeId} {L:List Value} {w w':World} {v:Value} {xs:List U8} {i:Int} {el:U8}
theorem Rwo.ext (h:Rwo B e L w v xs) (c:Ext w w'):Rwo B e L w' v xs:=⟨h.1,h.2.ext c⟩
theorem Rwo.sub {L':List Value} (h:Rwo B e L w v xs) (_hs:∀ x∈L',x∈L):Rwo B e L' w v xs:=h
theorem Rwo.at (h:Rwo B e L w v xs) (hel:idx xs i=some el):∃ cs,At w (Xv v i.toNat 1) cs/\Rep.rd (α:=U8) L w cs el:=by
 obtain ⟨h0,h1,h2⟩:=YD hel;obtain ⟨rfl,hb⟩:=h;refine ⟨[.int .u8 el],?_,rfl⟩;show At w (Addr.add ⟨B.b,B.pre.length,none⟩ (i.toNat * 1)) _;rw [X2,Ec];refine At.of_block hb fun j u hu=>?_;cases j with
 | zero =>
  cases hu;rw [Eg,List.getElem?_toArray,Eb,List.getElem?_append_right (Nat.le_add_right _ _),Ef,List.getElem?_append_left (by rw [Qaa];exact h1),Qsp h2]
 | succ j=>cases hu
end
section
variable {P:Program} [JD P] {n:Nat} {ρ:Env} {w:World}
variable {d:Option Nat} {t T:TypeId} {p:String} {af:Array Edge} {gu:Option (Nat×Bool)} {x y z:Operand}
variable {B:RwB} {e e':TypeId} {L:List Value} {v:Value} {xs:List U8} {i:Int} {el:U8}
theorem QJo {w2:World} {aT:Array TypeId} (hT:aT[0]?=some T) (hu:P.underlying T=some (.slice e)) (hs:Rwo B e' L w2 v xs) (hx:Qm n ρ x=v):Yl P n ρ ⟨d,.call ⟨.builtin .len,#[x],aT⟩,t,p,af,gu⟩ w (.int .i64 xs.length):=by
 obtain ⟨rfl,_⟩:=hs;exact Qju hT hu hx
theorem Zg {w2:World} {k:IntKind} (hu:P.underlying T=some (.slice e)) (hs:Q6 P e 1) (hown:Rwo B e L w2 v xs)
  (hel:idx xs i=some el) (hx:Qm n ρ x=v) (hy:Qm n ρ y=.int k i):Yl P n ρ ⟨d,.indexAddr T x y,t,p,af,gu⟩ w (.pointer (some (Xv v i.toNat 1))):=by
 obtain ⟨h0,h1,_⟩:=YD hel;obtain ⟨rfl,_⟩:=hown;have h2:i < (xs.length:Int):=by omega
 exact Yj (XC (Qfr _ _ _)) fun w1 _=>by simp [execOp,hx,hy,Instr.indexAt,asIntOf,run_underlying hu,h0,h2,YW hs,Xv]
theorem Za {y':U8} {off k:Nat} {u:Value} {vs:List Value} {K:Value->World->Prop} (hs:Q6 P T k) (hc:u.cells.toList=vs) (hk:vs.length=k) (hown:Rwo B e L w v xs) (hv:v∈L) (hel:idx xs i=some el)
  (hx:Qm n ρ x=.pointer (some ((Xv v i.toNat 1).add off))) (hy:Qm n ρ y=u) (hl:Nat.ble (off+k) 1=true) (h1:∀ c∈vs,c.oneCell'=true)
  (hset:∀ w' cs,Rep.rd (α:=U8) L w' cs el->Rep.rd (α:=U8) L w' (X4 cs off vs) y')
  (h:∀ w',Chg [v] w w'->Rwo B e L w' v (xs.set i.toNat y')->K undef w'):Eff P ⟨d,.store T x y,t,p,af,gu⟩ n ρ w K:=by
 obtain ⟨h0,h2,h3⟩:=YD hel;obtain ⟨rfl,hb⟩:=hown;have hset2:X4 [.int .u8 el] off vs=[.int .u8 y']:=hset w [.int .u8 el] rfl;have hl2:off+k<=1:=by simpa using hl
 have hx2:Qm n ρ x=.pointer (some ⟨B.b,B.pre.length+i.toNat+off,none⟩):=by
  rw [hx];show Value.pointer (some ((Addr.add ⟨B.b,B.pre.length,none⟩ (i.toNat * 1)).add off))=_;rw [X2,X2,Ec]
 have hcs:X4 (B.pre++YG xs++B.post) (B.pre.length+i.toNat+off) vs=B.pre++YG (xs.set i.toNat y')++B.post:=by
  have hlen:(YG xs).length=xs.length:=Qaa xs;have hsame:∀ u,(B.pre++YG xs++B.post).set (B.pre.length+i.toNat) u=B.pre++(YG xs).set i.toNat u++B.post:=fun u=>by
   rw [Eb,List.set_append_right _ _ (Nat.le_add_right _ _),Ef,List.set_append_left _ _ (by omega),Eb]
  match vs,hk with
  | [],hk =>
   have e1:[Value.int .u8 el]=[.int .u8 y']:=hset2;cases e1;have e2:YG (xs.set i.toNat el)=YG xs:=by
    rw [show xs.set i.toNat el=xs from by
     obtain ⟨_,e2⟩:=Ed.1 h3;rw [<-e2,List.set_getElem_self]]
   rw [e2];rfl
  | [a],hk =>
   have ho:off=0:=by
    have:k=1:=by rw [<-hk];rfl
    omega
   subst ho;have e1:[a]=[Value.int .u8 y']:=hset2;cases e1;rw [Eg,QIa];exact hsame _
  | a::a2::l,hk =>
   have:k=(a::a2::l).length:=hk.symm;simp at this;omega
 refine Ys (vs:=vs) (k:=k) hs hc hk hx2 hy hb ?_ h1 hcs fun w' hc' hB=>h w' ⟨hc'.os,hc'.tape,hc'.output,hc'.size,fun b hbl hA=>hc'.block b hbl fun q hq=>?_⟩ ⟨by rw [List.length_set],hB⟩
 ·rw [Nat.ble_eq];simp only [List.length_append,Qaa];omega
 ·rw [Ea] at hq;subst hq;exact (hA _ (Ea.2 rfl):Qv (Value.slice (some ⟨B.b,B.pre.length,none⟩) xs.length B.cap)≠some b)
theorem QJz {e m h b:Nat} (hu:P.underlying T=some (.array m e)) (hs:Q6 P e 1) (hh:1<=h/\h<=m) (hx:Qm n ρ x=.pointer (some ⟨b,0,none⟩)) (hy:Qm n ρ y=.int .i64 (h:Int)) :
  Yl P n ρ ⟨d,.slice T x none (some y) none,t,p,af,gu⟩ w (.slice (some ⟨b,0,none⟩) h m):=by
 obtain ⟨h1,h2⟩:=hh;exact Yj (XC (JF _ _ _ _ _)) fun w1 _=>by simp [execOp,hx,hy,Instr.sliceAt,run_underlying hu,Instr.sureAddr,Instr.sliceBounds,Instr.sliceBound,asIntOf,YW hs,h2,Addr.add]
theorem Qti {e m h:Nat} {b:Nat} (hu:P.underlying T=some (.array m e)) (hs:Q6 P e 1) (hh:1<=h/\1+h < m) (hx:Qm n ρ x=.pointer (some ⟨b,0,none⟩)) (hy:Qm n ρ y=.int .i64 ((1+h:Nat):Int)) :
  Yl P n ρ ⟨d,.slice T x (some (.const (.int .i64 1))) (some y) none,t,p,af,gu⟩ w (.slice (some ⟨b,1,none⟩) h (m - 1)):=by
 obtain ⟨h1,h2⟩:=hh;have h0:¬ m=1:=by omega
 have h3:(1:Int)+(h:Int)<=(m:Int):=by omega
 have h4:(0:Int)<=1+(h:Int):=by omega
 have h5:(1+(h:Int)).toNat=1+h:=by omega
 have hc1:Qm n ρ (.const (.int .i64 1))=.int .i64 1:=rfl;have h6:¬ m - 1=0:=by omega
 exact Yj (XC (JF _ _ _ _ _)) fun w1 _=>by
  simp [execOp,hx,hy,hc1,Instr.sliceAt,run_underlying hu,Instr.sureAddr,Instr.sliceBounds,Instr.sliceBound,asIntOf,YW hs,h0,h3,h4,h5,Addr.add];intro hlt;omega
end
theorem Qrc {w:World} {b len cap:Nat} {pre post:List Value} {xs:List U8} {cs:List Value} {T':TypeId} (hb:Box w b cs T') (hcs:cs=pre++YG xs++post) (hl:xs.length=len) (hlc:len<=cap/\cap<=1000) (hc:pre.length+cap<=cs.length):SlRd (α:=U8) [] w (.slice (some ⟨b,pre.length,none⟩) len cap) xs:=by
 subst hl;refine .inr ⟨b,pre.length,cap,cs.toArray,T',(0,0),rfl,hb,Avoids.nil _,hlc.1,by unfold maxLen;omega,by show pre.length+cap * 1<=_;simp;omega,?_⟩;have h1:xs.length * Rep.n U8=xs.length:=Ec _;have h2:(cs.toArray.toList.drop pre.length).take (xs.length * Rep.n U8)=YG xs:=by
  rw [h1,show cs.toArray.toList=cs from rfl,hcs,Eb,List.drop_left,List.take_append_of_le_length (by rw [Qaa];exact Nat.le_refl _),List.take_of_length_le (by rw [Qaa];exact Nat.le_refl _)]
 rw [h2];refine ⟨by rw [Qaa,h1],fun i x hx=>?_⟩;show ((YG xs).drop (i * 1)).take 1=[.int .u8 x];have h3:=Qsp hx;obtain ⟨h4,h5⟩:=Ed.1 h3;rw [Ec,List.drop_eq_getElem_cons h4,h5];rfl
end Go.Gw

end
section
set_option linter.unusedSectionVars false
set_option linter.unusedVariables false
namespace Go.Gw
open Go Go.MapKept
def ItAt (w:World) (b:Nat) (s:ByteArray) (k:Int):Prop:=∃ m:Nat,k=(m:Int)/\w.heap[b]?=some (.stringIter s m)
def XH (s:ByteArray) (k:Int):Int:=((Utf8.decode s k.toNat).1:Nat)
def Z4 (s:ByteArray) (k:Int):Int:=if k < (s.size:Int) then k+((Utf8.decode s k.toNat).2:Nat) else k
def ZJ (s:ByteArray) (k:Int):Value:=if k < (s.size:Int) then .tuple #[.bool true,.int .i64 k,.int .i32 (XH s k)] else .tuple #[.bool false]
section
variable {w w':World} {b:Nat} {s:ByteArray} {k:Int}
theorem ItAt.lt (h:ItAt w b s k):b < w.heap.size:=by obtain ⟨_,_,h⟩:=h;exact Jx h
theorem ItAt.chg {H:List Value} (h:ItAt w b s k) (c:Chg H w w') (hA:Avoids H b):ItAt w' b s k:=by
 obtain ⟨m,h1,h2⟩:=h;exact ⟨m,h1,(c.block b (Jx h2) hA).trans h2⟩
theorem ItAt.ext (h:ItAt w b s k) (c:Ext w w'):ItAt w' b s k:=h.chg c (Avoids.nil _)
end
section
variable {P:Program} [JD P] {n:Nat} {ρ:Env} {w w':World}
variable {d:Option Nat} {t T U:TypeId} {p:String} {af:Array Edge} {gu:Option (Nat×Bool)} {x y z:Operand} {b:Nat} {s:ByteArray} {k:Int}
theorem Qvt {K:Value->World->Prop} (hu:P.underlying T=some .string) (hx:Qm n ρ x=.string s) (h:∀ b w',w.heap.size<=b->Ext w w'->ItAt w' b s 0->K (.pointer (some ⟨b,0,none⟩)) w'):Eff P ⟨d,.range T x,t,p,af,gu⟩ n ρ w K:=by
  have hE:execOp (Qm n ρ) ⟨d,.range T x,t,p,af,gu⟩=(Instr.range T (.string s) >>= fun v=>Pure.pure (Next.value v)):=by simp [execOp,hx]
  have hr:∀ W ev,(Instr.range T (.string s)).runT P W ev=((newObj (.stringIter s 0)) >>= fun b=>(Pure.pure (Value.pointer (some ⟨b,0,none⟩)):Sem Value)).runT P W ev:=fun W ev=>by
    unfold Instr.range;exact (QY (Yw hu)).trans rfl
  refine ⟨fun w1 r=>?_,.inr fun w1 r=>?_⟩
  · rw [hE];refine Qhf (w:=w1) (fun w2 r2=>?_) w1 (Rel.refl _);intro F Z W es es' r' w' hA hv hr';have ht:YU P ((newObj (.stringIter s 0)) >>= fun b=>(Pure.pure (Value.pointer (some ⟨b,0,none⟩)):Sem Value)) w2:=(Tame.bnd (Qjm _ rfl) fun _=>.pure _).fr0;rw [hr] at hr';obtain ⟨F',W',us,h1,h2⟩:=ht hA hv hr';exact ⟨F',W',us,by rw [hr];exact h1,h2⟩
  · have hh:=heap_alloc w1 (.stringIter s 0);have hv:(execOp (Qm n ρ) ⟨d,.range T x,t,p,af,gu⟩).run P w1=.ok (.value (.pointer (some ⟨w1.heap.size,0,none⟩))) (w1.alloc (.stringIter s 0)):=by
      rw [<-Sem.runT_fst P _ w1 #[],hE,QY (hr w1 #[])];rfl
    rw [hv];have he:Ext w1 (w1.alloc (.stringIter s 0)):=Ext.alloc w1 _;exact h _ _ r.ext.size (r.ext.trans he) ⟨0,rfl,hh.1⟩
omit [JD P] in
theorem Qqm {W:World} {ev:Array Event} {m:Nat} (hb:W.heap[b]?=some (.stringIter s m)) (hm:m < s.size) :
  (Instr.next (.pointer (some ⟨b,0,none⟩)) true t).runT P W ev=(.ok (.tuple #[.bool true,.int .i64 (m:Int),.int .i32 (((Utf8.decode s m).1:Nat):Int)]) { W with heap:=W.heap.setIfInBounds b (.stringIter s (m+(Utf8.decode s m).2)) },(ev.push ⟨.obj b,false,false⟩).push ⟨.obj b,true,false⟩):=by
 unfold Instr.next;refine (QY (Qql hb (by simp) rfl)).trans ?_;dsimp only;rw [if_pos hm];exact (QY (QEv hb (by simp) rfl)).trans rfl
omit [JD P] in
theorem Qqn {W:World} {ev:Array Event} {m:Nat} (hb:W.heap[b]?=some (.stringIter s m)) (hm:¬ m < s.size) :
  (Instr.next (.pointer (some ⟨b,0,none⟩)) true t).runT P W ev=(.ok (.tuple #[.bool false]) W,ev.push ⟨.obj b,false,false⟩):=by
 unfold Instr.next;refine (QY (Qql hb (by simp) rfl)).trans ?_;dsimp only;rw [if_neg hm];rfl
theorem Qvs {K:Value->World->Prop} (hx:Qm n ρ x=.pointer (some ⟨b,0,none⟩)) (hi:ItAt w b s k) (h:∀ w',Chg [.pointer (some ⟨b,0,none⟩)] w w'->ItAt w' b s (Z4 s k)->K (ZJ s k) w'):Eff P ⟨d,.next x true,t,p,af,gu⟩ n ρ w K:=by
 have hE:execOp (Qm n ρ) ⟨d,.next x true,t,p,af,gu⟩=(Instr.next (.pointer (some ⟨b,0,none⟩)) true t >>= fun v=>Pure.pure (Next.value v)):=by simp [execOp,hx]
 obtain ⟨m,rfl,hb⟩:=hi;have hat:∀ w1,Rel w w1->w1.heap[b]?=some (.stringIter s m):=fun w1 r=>(r.block b (Jx hb)).trans hb
 by_cases hm:m < s.size
 ·refine ⟨?_,.inr fun w1 r=>?_⟩
  ·rw [hE];refine Qhf fun w1 r=>?_;exact Qxz ⟨hat w1 r,(by simp),(by intro e;cases e)⟩ (by simp) fun W ev hW=>Qqm hW hm
  ·have h1:=hat w1 r;rw [<-Sem.runT_fst P _ w1 #[],hE,QY (Qqm h1 hm)];have hlt:b < w1.heap.size:=Jx h1;have hv:ZJ s (m:Int)=.tuple #[.bool true,.int .i64 (m:Int),.int .i32 (((Utf8.decode s m).1:Nat):Int)]:=by unfold ZJ XH;rw [if_pos (by omega),Int.toNat_natCast]
   have hp:Z4 s (m:Int)=((m+(Utf8.decode s m).2:Nat):Int):=by unfold Z4;rw [if_pos (by omega),Int.toNat_natCast];omega
   have:=h { w1 with heap:=w1.heap.setIfInBounds b (.stringIter s (m+(Utf8.decode s m).2)) } (r.ext.mono (fun _ h=>by cases h) |>.trans ⟨rfl,rfl,rfl,by simp,fun i hi hA=>?_⟩) ⟨m+(Utf8.decode s m).2,hp,by simp [hlt]⟩
   ·rw [hv] at this;exact this
   ·have hne:b≠i:=fun e=>hA _ (Ea.2 rfl) (by simp [Qv,e])
    simp_all
 ·refine ⟨?_,.inr fun w1 r=>?_⟩
  ·rw [hE];refine Qhf fun w1 r=>?_;exact Qxy ⟨hat w1 r,(by simp),(by intro e;cases e)⟩ fun W ev hW=>Qqn hW hm
  ·have h1:=hat w1 r;rw [<-Sem.runT_fst P _ w1 #[],hE,QY (Qqn h1 hm)];have hv:ZJ s (m:Int)=.tuple #[.bool false]:=by unfold ZJ;rw [if_neg (by omega)]
   have hp:Z4 s (m:Int)=(m:Int):=by unfold Z4;rw [if_neg (by omega)]
   have:=h w1 (r.ext.mono (fun _ h=>by cases h)) ⟨m,hp,h1⟩;rw [hv] at this;exact this
theorem QJu (hx:Qm n ρ x=ZJ s k):Yl P n ρ ⟨d,.extract x 0,t,p,af,gu⟩ w (.bool (decide (k < (s.size:Int)))):=by
 by_cases h:k < (s.size:Int)
 ·have hv:ZJ s k=.tuple #[.bool true,.int .i64 k,.int .i32 (XH s k)]:=by unfold ZJ;rw [if_pos h]
  rw [decide_eq_true h];exact QT (hx.trans hv) rfl
 ·have hv:ZJ s k=.tuple #[.bool false]:=by unfold ZJ;rw [if_neg h]
  rw [decide_eq_false h];exact QT (hx.trans hv) rfl
theorem QJv (h:decide (k < (s.size:Int))=true) (hx:Qm n ρ x=ZJ s k):Yl P n ρ ⟨d,.extract x 2,t,p,af,gu⟩ w (.int .i32 (XH s k)):=by
 have hv:ZJ s k=.tuple #[.bool true,.int .i64 k,.int .i32 (XH s k)]:=by unfold ZJ;rw [if_pos (of_decide_eq_true h)]
 exact QT (hx.trans hv) rfl
end
end Go.Gw

end
section
set_option linter.unusedSectionVars false
set_option linter.unusedVariables false
namespace Go.Gw
open Go
section
variable {P:Program} [JD P] {n:Nat} {ρ:Env} {w:World}
variable {d:Option Nat} {t T U:TypeId} {p:String} {af:Array Edge} {gu:Option (Nat×Bool)} {x y z:Operand}
theorem Qra:∀ (vs cells pre:List Value),vs.length=cells.length->X4 (pre++cells) pre.length vs=pre++vs
 | [],cells,pre,h=>by
  have:cells=[]:=List.eq_nil_of_length_eq_zero h.symm;subst this;rfl
 | v::vs,[],pre,h=>by cases h
 | v::vs,c::cells,pre,h=>by
  have h1:=Qra vs cells (pre++[v]) (by simpa using h);show X4 ((pre++c::cells).set pre.length v) (pre.length+1) vs=_;rw [show (pre++c::cells).set pre.length v=(pre++[v])++cells by simp];simpa using h1
theorem QFn {vs cells:List Value} (h:vs.length=cells.length):X4 cells 0 vs=vs:=Qra vs cells [] h
theorem Qvp {e:TypeId} {zz:Value} {L:List Value} {v:Value} {xs:List U8} {s:ByteArray} {K:Value->World->Prop} {aT:Array TypeId} (hu:P.underlying T=some (.slice e)) (hi:EInfo P e 1 1 zz) (hT:aT=#[T,U]) (hx:Qm n ρ x=v) (hy:Qm n ρ y=.string s)
  (hown:Own e L w v xs) (hlen:xs.length=s.size) (h0:0 < s.size) (h:∀ w',Chg [v] w w'->Own e L w' v (bl s)->K (.int .i64 s.size) w'):Eff P ⟨d,.call ⟨.builtin .copy,#[x,y],aT⟩,t,p,af,gu⟩ n ρ w K:=by
 subst hT;refine ZE (Qsa hx hy) fun w1 e1=>?_;replace hown:=hown.step (Stepp.ext e1) e1 (fun _ _=>Avoids.nil _);obtain ⟨i,i1,i2,i3,i4,i5,i6⟩:=hi.ex;obtain ⟨cells,ho,hE⟩:=hown;rcases ho.2 with ⟨_,hh⟩ | ⟨g,cap,cur,rfl,_,hg,h4,h5,hcs,htake⟩
 ·omega
 have hcl:cells.length=s.size:=by rw [hE.1,hlen];exact Ec _
 have hsl:(Lib.strCells s).length=s.size:=Lib.strCells_length s;obtain ⟨w',hr,ho2,hg2⟩:=Qiw (P:=P) (Lib.strCells s) 0 0 cells w1 ho (by omega) (fun c hc=>by
  rw [Qrq] at hc;obtain ⟨b,_,rfl⟩:=List.mem_map.1 hc;rfl)
 have hcp:(Builtin.copy_ #[T,U] t #[.slice (some ⟨g,0,none⟩) xs.length cap,.string s]).run P w1=.ok (goInt s.size) w':=by
  have hm:Nat.min s.size xs.length=s.size:=by rw [hlen];exact Nat.min_self _
  have hf:=Lib.run_firstCells_string (P:=P) (w:=w1) i.size s;simp [Builtin.copy_,run_underlying hu,Builtin.lenOf,sizeOf,typeInfo,i1,hm,hf,hr,Result.andThen,Sem.run_bind]
 have e0:execOp (Qm n ρ) ⟨d,.call ⟨.builtin .copy,#[x,y],#[T,U]⟩,t,p,af,gu⟩=(Builtin.copy_ #[T,U] t #[.slice (some ⟨g,0,none⟩) xs.length cap,.string s] >>= fun v=>Pure.pure (Next.value v)):=by
  simp [execOp,resolve,invoke,builtin,hx,hy]
 rw [e0];simp only [Sem.run_bind,hcp,Result.andThen,Sem.run_pure,effR];have hc:Chg [Value.slice (some ⟨g,0,none⟩) xs.length cap] w1 w':=⟨hg2.os,hg2.tape,hg2.output,hg2.size,fun b hb hA=>hg2.block b hb (fun e=>hA _ (Ea.2 rfl) (by cases e;rfl))⟩;refine h w' ((e1.mono (fun _ h=>by cases h)).trans hc) ⟨Lib.strCells s,?_,Qma _ _ _⟩;rw [YZ,<-hlen];rw [Eg,QFn (by omega)] at ho2;exact ho2
end
end Go.Gw

end
