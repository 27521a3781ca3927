/- Laws of the walk. Condition: each theorem says its own. -/
import Derived.Test.YtbigilldfhjedaaGreatDoorGwFacts2
import Derived.Test.YtbigilldfhjedaaGreatDoorGwLib21
import Derived.Test.YtbigilldfhjedaaGreatDoorGwPl
import Derived.Test.YtbigilldfhjedaaGreatDoorGwLib5
set_option linter.unusedVariables false
set_option linter.unusedSimpArgs false
set_option linter.unusedSectionVars false
open List renaming mem_singleton→Ea,append_assoc→Eb,getElem?_eq_some_iff→Ed
open Nat renaming mul_one→Ec,le_trans→Ee,add_sub_cancel_left→Ef,add_zero→Eg
section
set_option maxRecDepth 100000
set_option maxHeartbeats 8000000
namespace Go.Gw
open Go Go.Proofs
theorem Qra:Xh Tryz.prog 89 2:=Yi (by kernel_rfl)
theorem Qhw:Xh Tryz.prog 86 1:=Yi (by kernel_rfl)
theorem Qqu:YV Tryz.prog 86:=⟨_,Tryz.underlying86,trivial⟩
attribute [local irreducible] T0 TS TT TP Eff Stp WC Quiet gd
variable [JD Tryz.prog]
theorem Qxt {w:World} {b:Nat} {v:Value} {q:Value} (hq:q=.pointer none\/q=.pointer (some ⟨b,0,none⟩)) (hB:Box w b [q,v] 89) (h1:v.oneCell'=true):CallsTo Tryz.prog 84 [.pointer (some ⟨b,0,none⟩)] w (fun r w'=>Chg [.pointer (some ⟨b,0,none⟩)] w w'/\Je []=r/\Box w' b [.pointer (some ⟨b,0,none⟩),v] 89):=by
 refine Qcr (n:=20) (rs:=[]) Tryz.func84 rfl rfl rfl rfl rfl ?_;rcases hq with rfl | rfl
 ·refine Qd <| Q5 (.pointer (some ⟨b,0,none⟩)) rfl <| XO (.pointer (some ⟨b,0,none⟩)) (Yn rfl) <| XO (.pointer (some ⟨b,0,none⟩)) (ZT 0 Tryz.underlying89 rfl rfl ⟨0,Qhw⟩ rfl rfl) <| XO (.pointer none) (Qj Qqu rfl hB.at) <| XO (.bool true) (Q5y Tryz.underlying86 rfl rfl) <| Qb <| Y1 (b:=true) rfl (fun _=>?_) (fun h=>by cases h)
  refine Qz <| Q5 (.pointer (some ⟨b,0,none⟩)) rfl <| Q5 (.pointer (some ⟨b,0,none⟩)) rfl <| XO (.pointer (some ⟨b,0,none⟩)) (Q6t (k:=1) Tryz.underlying86 Tryz.underlying193 Qra hB rfl) <| XO (.pointer (some ⟨b,0,none⟩)) (Qwj (args:=[.pointer (some ⟨b,0,none⟩)]) Tryz.func119 (by kernel_rfl) (by kernel_rfl) (by kernel_rfl) (g:=Extern.AbiNoEscape.same) (by kernel_rfl) (QI rfl) rfl) <| XO (.pointer (some ⟨b,0,none⟩)) (Q6c (k:=2) Tryz.underlying193 Tryz.underlying86 Qra hB (by kernel_rfl) rfl) <| XO (.pointer (some ⟨b,0,none⟩)) (Yn rfl) <| XO (.pointer (some ⟨b,0,none⟩)) (ZT 0 Tryz.underlying89 rfl rfl ⟨0,Qhw⟩ rfl rfl) <| Qg rfl (Y9 (vs:=[.pointer (some ⟨b,0,none⟩)]) (cs':=[.pointer (some ⟨b,0,none⟩),v]) Qhw rfl rfl rfl rfl hB rfl (Qk rfl QH) rfl ?_)
  intro w' hc hB';exact Qb ⟨[],trivial,hc,rfl,hB'⟩
 ·refine Qd <| Q5 (.pointer (some ⟨b,0,none⟩)) rfl <| XO (.pointer (some ⟨b,0,none⟩)) (Yn rfl) <| XO (.pointer (some ⟨b,0,none⟩)) (ZT 0 Tryz.underlying89 rfl rfl ⟨0,Qhw⟩ rfl rfl) <| XO (.pointer (some ⟨b,0,none⟩)) (Qj Qqu rfl hB.at) <| XO (.bool false) (Q5z Tryz.underlying86 rfl rfl) <| Qb <| Y1 (b:=false) rfl (fun h=>by cases h) (fun _=>?_)
  refine Qd <| Q5 (.pointer (some ⟨b,0,none⟩)) rfl <| XO (.pointer (some ⟨b,0,none⟩)) (Yn rfl) <| XO (.pointer (some ⟨b,0,none⟩)) (ZT 0 Tryz.underlying89 rfl rfl ⟨0,Qhw⟩ rfl rfl) <| XO (.pointer (some ⟨b,0,none⟩)) (Qj Qqu rfl hB.at) <| Q5 (.pointer (some ⟨b,0,none⟩)) rfl <| XO (.bool false) (Q6m (k:=1) Tryz.underlying86 Qra rfl rfl) <| Qb <| Y1 (b:=false) rfl (fun h=>by cases h) (fun _=>?_)
  exact Qp ⟨[],trivial,Chg.refl _ _,rfl,hB⟩
theorem J5:Xh Tryz.prog 87 1:=Yi (by kernel_rfl)
theorem Qco:YV Tryz.prog 87:=⟨_,Tryz.underlying87,trivial⟩
theorem bi5:EInfo Tryz.prog 5 1 1 (.int .u8 0):=⟨_,rfl,by kernel_rfl,by kernel_rfl,by kernel_rfl,rfl,Nat.one_pos⟩
abbrev pb (b:Nat):Value:=.pointer (some ⟨b,0,none⟩)
theorem Qlh {u v:Value} {w w':World} (h:Chg [u] w w'):Chg [v,u] w w':=h.mono (fun x hx=>by simp_all)
theorem Qee {L:List Value} {w:World} {b:Nat} {v:Value} {xs zs:List U8} {s:ByteArray} (hb:BldAt 89 w b v) (ho:Own 5 (v::pb b::L) w v xs) (hn:Qv v≠some b) (hm:app xs (bl s)=some zs) :
  CallsTo Tryz.prog 36 [pb b,.string s] w (fun r w'=>Chg [v,pb b] w w'/\∃ v',Je [.int .i64 s.size,.nilIface]=r/\BldAt 89 w' b v'/\Own 5 (v'::pb b::L) w' v' zs/\Qv v'≠some b/\∀ k,Qv v'=some k->Qv v=some k\/w.heap.size<=k):=by
 obtain ⟨hr,q,hq,hB⟩:=hb;refine QL (n:=19) (rs:=[.tmp 4,.tmp 5]) Tryz.func36 rfl rfl rfl rfl rfl ?_;refine Qd <| XH (.int .i64 0) rfl <| XH .nilIface rfl <| Qb <| Qd <| Q5 (pb b) rfl <| Qg rfl (Qs Tryz.func84 (by kernel_rfl) rfl (QI rfl) (Qxt hq hB ho.one1) ?_)
 rintro _ w1 ⟨hc1,rfl,hB1⟩;have ho1:Own 5 (v::pb b::L) w1 v xs:=ho.step (Qt hc1 XU) hc1 (XF hn);refine Qb <| Qd <| Q5 (pb b) rfl <| Q5 (pb b) rfl <| XO (pb b) (Yn rfl) <| XO (.pointer (some ⟨b,1,none⟩)) (ZT 1 Tryz.underlying89 rfl rfl ⟨0,J5⟩ rfl rfl) <| XO v (Qj Qco rfl (hB1.at.drop 1)) <| Q5 (.string s) rfl <| Qg rfl (QKr Tryz.underlying87 Tryz.underlying9 bi5 rfl rfl rfl rfl ho1 hr hm ?_)
 intro v' w2 hc2 hbl ho2 hr2;have hbl':∀ k,Qv v'=some k->Qv v=some k\/w.heap.size<=k:=fun k hk=>(hbl k hk).imp id fun h=>Ee hc1.size h
 have hn':Qv v'≠some b:=YN hbl hn hB1;have hB2:Box w2 b [pb b,v] 89:=hB1.chg hc2 (X8 hn);refine XO (pb b) (Yn rfl) <| XO (.pointer (some ⟨b,1,none⟩)) (ZT 1 Tryz.underlying89 rfl rfl ⟨0,J5⟩ rfl rfl) <| Qg rfl (Y9 (vs:=[v']) (cs':=[pb b,v']) J5 (XL ho2.one1) rfl rfl rfl hB2 rfl (Qk ho2.one1 QH) rfl ?_)
 intro w3 hc3 hB3;have ho3:Own 5 (v'::pb b::L) w3 v' zs:=ho2.step (Qt hc3 XU) hc3 (XF hn');refine Qb <| Qd <| Q5 (.string s) rfl <| XO (.int .i64 s.size) (Yu rfl Tryz.underlying9 rfl) <| XH (.int .i64 s.size) rfl <| XH .nilIface rfl <| Qb <| Qr ⟨[.int .i64 s.size,.nilIface],⟨rfl,rfl,trivial⟩,?_,v',rfl,⟨hr2,_,.inr rfl,hB3⟩,ho3,hn',hbl'⟩
 exact ((Qlh hc1).trans (hc2.mono (fun x hx=>by rcases Ea.1 hx with rfl;simp))).trans (Qlh hc3)
theorem Qqy:Tryz.prog.follows .mixedOrders=true:=by kernel_rfl
theorem Qqx {L:List Value} {w:World} {b:Nat} {v:Value} {xs:List U8} (hb:BldAt 89 w b v) (ho:Own 5 L w v xs) :
  CallsTo Tryz.prog 37 [pb b] w (fun r w'=>Chg [v] w w'/\Je [.string (YS xs)]=r):=by
 obtain ⟨hr,q,hq,hB⟩:=hb;refine QL (n:=14) (rs:=[.tmp 2]) Tryz.func37 rfl rfl rfl rfl rfl ?_;refine Qd <| XH (.string .empty) rfl <| Qb <| Qh fun K hK=>Qqf Qqy (.p 0 (.p 1 (.p 2 (.q 3 (.q 4 (.p 5 (.p 6 (.p 7 (.q 8 (.p 9 (.b 10 (.p 11 .done)))))))))))) (by kernel_rfl) ?_
 intro w0 e0;refine YC (v:=pb b) rfl rfl (fun w'=>Qq rfl) <| YC (v:=pb b) rfl rfl (fun w'=>Yn rfl) <| YC (v:=.pointer (some ⟨b,1,none⟩)) rfl rfl (fun w'=>ZT 1 Tryz.underlying89 rfl rfl ⟨0,J5⟩ rfl rfl) <| Qea (v:=v) rfl rfl (fun w' hS=>Qj Qco rfl ((hB.ext (e0.trans hS)).at.drop 1)) <|
  Qea (v:=sdp v) rfl rfl (fun w' hS=>Q6p (ho.step (Stepp.ext (e0.trans hS)) (e0.trans hS) (fun _ _=>Avoids.nil _)) hr rfl) <| YC (v:=pb b) rfl rfl (fun w'=>Qq rfl) <| YC (v:=pb b) rfl rfl (fun w'=>Yn rfl) <| YC (v:=.pointer (some ⟨b,1,none⟩)) rfl rfl (fun w'=>ZT 1 Tryz.underlying89 rfl rfl ⟨0,J5⟩ rfl rfl) <| Qea (v:=v) rfl rfl (fun w' hS=>Qj Qco rfl ((hB.ext (e0.trans hS)).at.drop 1)) <|
  YC (v:=.int .i64 xs.length) rfl rfl (fun w'=>Qds rfl Tryz.underlying87 ho rfl) <| QIh rfl rfl (Qyt rfl Tryz.underlying148 bi5 rfl rfl (ho.step (Stepp.ext e0) e0 (fun _ _=>Avoids.nil _)) ?_)
 intro w1 hc;refine YC (v:=.string (YS xs)) rfl rfl (fun w'=>X6 rfl) <| Qqe <| hK _ _ <| Qr ⟨[.string (YS xs)],⟨rfl,trivial⟩,(e0.mono (fun _ h=>by cases h)).trans hc,rfl⟩
section
variable {P:Program} [JD P] {n:Nat} {ρ:Env} {w:World}
variable {d:Option Nat} {t T U:TypeId} {p:String} {af:Array Edge} {gu:Option (Nat×Bool)} {x y z:Operand}
theorem Q5u {e:TypeId} {k:IntKind} {sz m c b:Nat} (hu:P.underlying T=some (.slice e)) (hz:Xh P e sz) (hx:Qn n ρ x=.slice (some ⟨b,0,none⟩) m c) (hh:Qn n ρ z=.int k 0):Yl P n ρ ⟨d,.slice T x none (some z) none,t,p,af,gu⟩ w (.slice (some ⟨b,0,none⟩) 0 c) :=
 YQ (X5 (Qaa _ _ _ _ _)) fun w1 _=>by
  simp [execOp,hx,hh,Instr.sliceAt,Instr.slice,run_underlying hu,Instr.sliceBounds,Instr.sliceBound,asIntOf,Zg hz,Addr.add]
theorem Q5q {k:IntKind} {a b c:Int} (h:k.wrap (a+b)=c) (hx:Qn n ρ x=.int k a) (hy:Qn n ρ y=.int k b):Yl P n ρ ⟨d,.binOp .add T x y U,t,p,af,gu⟩ w (.int k c):=h▸QN hx hy
theorem Q5t {e:TypeId} {sz c:Nat} {a:Addr} {aT:Array TypeId} (ha:aT[0]?=some T) (hu:P.underlying T=some (.slice e)) (hz:Xh P e sz) (hx:Qn n ρ x=.slice (some a) 0 c) (hy:Qn n ρ y=.slice none 0 0):Yl P n ρ ⟨d,.call ⟨.builtin .copy,#[x,y],aT⟩,t,p,af,gu⟩ w (.int .i64 0):=by
 have e0:execOp (Qn n ρ) ⟨d,.call ⟨.builtin .copy,#[x,y],aT⟩,t,p,af,gu⟩=(Builtin.copy_ aT t #[.slice (some a) 0 c,.slice none 0 0] >>= fun v=>Pure.pure (Next.value v)):=by
  simp [execOp,resolve,invoke,builtin,hx,hy]
 refine YQ (by grind [X5,QGt]) fun w1 _=>?_;rw [e0];simp [Builtin.copy_,ha,run_underlying hu,Zg hz,Builtin.lenOf,Builtin.firstCells,storeCells,goInt]
end
theorem QJq {L:List Value} {w:World} {b:Nat} {q:Value} {i:Int} (hq:q=.pointer (some ⟨b,0,none⟩)) (hB:Box w b [q,.slice none 0 0] 89) (h0:0 < i) (h1:i<=1073741824) :
    CallsTo Tryz.prog 120 [pb b,.int .i64 i] w (fun r w'=>Chg [pb b] w w'/\Je []=r/\∃ v',Qby v'/\Box w' b [q,v'] 89/\Own 5 (v'::pb b::L) w' v' ([]:List U8)/\Qv v'≠some b/\∀ k,Qv v'=some k->w.heap.size<=k):=by
  refine Qcr (n:=30) (rs:=[]) Tryz.func120 rfl rfl rfl rfl rfl ?_;have hw:w64 (w64 (2 * 0)+i)=i:=by grind [XS]
  refine Qh fun K hK=>Qqf Qqy (.p 0 (.p 1 (.p 2 (.q 3 (.p 4 (.p 5 (.p 6 (.p 7 (.p 9 (.p 10 (.p 11 (.q 12 (.p 13 (.e 8 (.p 14 (.p 15 .done)))))))))))))))) (by kernel_rfl) ?_;intro w0 e0;refine YC (v:=pb b) rfl rfl (fun w'=>Qq rfl) <| YC (v:=pb b) rfl rfl (fun w'=>Yn rfl) <| YC (v:=.pointer (some ⟨b,1,none⟩)) rfl rfl (fun w'=>ZT 1 Tryz.underlying89 rfl rfl ⟨0,J5⟩ rfl rfl) <| Qea (v:=.slice none 0 0) rfl rfl (fun w' hS=>Qj Qco rfl ((hB.ext (e0.trans hS)).at.drop 1)) <|
    YC (v:=.int .i64 0) rfl rfl (fun w'=>Qpu rfl Tryz.underlying87 rfl) <| YC (v:=.int .i64 (w64 (2 * 0))) rfl rfl (fun w'=>Ji rfl rfl) <| YC (v:=.int .i64 i) rfl rfl (fun w'=>Qq rfl) <| YC (v:=.int .i64 i) rfl rfl (fun w'=>Q5q hw rfl rfl) <|
    YC (v:=pb b) rfl rfl (fun w'=>Qq rfl) <| YC (v:=pb b) rfl rfl (fun w'=>Yn rfl) <| YC (v:=.pointer (some ⟨b,1,none⟩)) rfl rfl (fun w'=>ZT 1 Tryz.underlying89 rfl rfl ⟨0,J5⟩ rfl rfl) <| Qea (v:=.slice none 0 0) rfl rfl (fun w' hS=>Qj Qco rfl ((hB.ext (e0.trans hS)).at.drop 1)) <|
    YC (v:=.int .i64 0) rfl rfl (fun w'=>Qds rfl Tryz.underlying87 (Own.nil (α:=U8) 5 [] w') rfl) <| QIi rfl rfl (QLd (T:=87) (ps:=#[3]) Tryz.func184 (by kernel_rfl) (by kernel_rfl) (by kernel_rfl) (by kernel_rfl) Tryz.underlying87 rfl h0 h1 ?_)
  rintro v1 w1 e1 hf1 ⟨b1,c1,cs,rfl,hrow,hsz,hle,hmx⟩;refine ⟨e1,?_⟩;have hB1:Box w1 b [q,.slice none 0 0] 89:=hB.ext (e0.trans e1);have hcs:c1≠0:=by omega
  have hbn:w0.heap.size<=b1:=hf1 b1 rfl;have hne:b1≠b:=fun e=>by have:=(hB.ext e0).lt;omega
  refine YC (v:=.slice (some ⟨b1,0,none⟩) 0 c1) rfl rfl (fun w'=>Q5u Tryz.underlying87 bi5.size rfl rfl) <| YC (v:=.slice (some ⟨b1,0,none⟩) 0 c1) rfl rfl (fun w'=>X6 rfl) <| Qqe <| hK _ _ <| Qd <| Q5 (.slice (some ⟨b1,0,none⟩) 0 c1) rfl <| Q5 (pb b) rfl <| XO (pb b) (Yn rfl) <| XO (.pointer (some ⟨b,1,none⟩)) (ZT 1 Tryz.underlying89 rfl rfl ⟨0,J5⟩ rfl rfl) <| XO (.slice none 0 0) (Qj Qco rfl (hB1.at.drop 1)) <| XO (.int .i64 0) (Q5t rfl Tryz.underlying87 bi5.size rfl rfl) <| Qb <|
    Qz <| Q5 (pb b) rfl <| Q5 (.slice (some ⟨b1,0,none⟩) 0 c1) rfl <| XO (pb b) (Yn rfl) <| XO (.pointer (some ⟨b,1,none⟩)) (ZT 1 Tryz.underlying89 rfl rfl ⟨0,J5⟩ rfl rfl) <| Qg rfl (Y9 (vs:=[.slice (some ⟨b1,0,none⟩) 0 c1]) (cs':=[q,.slice (some ⟨b1,0,none⟩) 0 c1]) J5 rfl rfl rfl rfl hB1 rfl (Qk rfl QH) rfl ?_)
  intro w2 hc2 hB2;have ho1:Own 5 (.slice (some ⟨b1,0,none⟩) 0 c1::pb b::L) w1 (.slice (some ⟨b1,0,none⟩) 0 c1) ([]:List U8):=⟨[],⟨rfl,.inr ⟨b1,c1,cs,rfl,Nat.zero_le _,hrow,Nat.zero_le _,hmx,by rw [hsz];exact (Ec _).symm,rfl⟩⟩,Elems.nil⟩;have hn1:Qv (.slice (some ⟨b1,0,none⟩) 0 c1)≠some b:=fun e=>hne (by grind [Qv])
  refine Qb ⟨[],trivial,((e0.trans e1).mono (fun _ h=>by cases h)).trans hc2,rfl,_,fun a m h=>?_,hB2,ho1.step (Qt hc2 XU) hc2 (XF hn1),hn1,fun k hk=>?_⟩
  · simp_all
  · have hk:some b1=some k:=hk;cases hk;exact Ee e0.size hbn
def grw (i:Int):Option Unit:=if 0<=i/\i<=1073741824 then some () else none
theorem QJp {L:List Value} {w:World} {b:Nat} {i:Int} {u:Unit} (hb:BldAt 89 w b (.slice none 0 0)) (hg:grw i=some u) :
  CallsTo Tryz.prog 85 [pb b,.int .i64 i] w (fun r w'=>Chg [.slice none 0 0,pb b] w w'/\∃ v',Je []=r/\BldAt 89 w' b v'/\Own 5 (v'::pb b::L) w' v' ([]:List U8)/\Qv v'≠some b/\∀ k,Qv v'=some k->Qv (.slice none 0 0)=some k\/w.heap.size<=k):=by
 obtain ⟨h0,h1⟩:0<=i/\i<=1073741824:=by
  grind [grw]
 obtain ⟨hr,q,hq,hB⟩:=hb;refine Qcr (n:=25) (rs:=[]) Tryz.func85 rfl rfl rfl rfl rfl ?_;refine Qd <| Q5 (pb b) rfl <| Qg rfl (Qs Tryz.func84 (by kernel_rfl) rfl (QI rfl) (Qxt hq hB rfl) ?_)
 rintro _ w1 ⟨hc1,rfl,hB1⟩;refine Qb <| Qh fun K hK=>Qd <| Q5 (.int .i64 i) rfl <| XO (.bool (decide (i < 0))) (Q2 rfl rfl) <| Qb <| Y1 (b:=decide (i < 0)) rfl (fun h=>by grind) (fun _=>Qp <| hK _ _ ?_)
 refine Qh fun K2 hK2=>Qqf Qqy (.p 0 (.p 1 (.p 2 (.q 3 (.p 4 (.p 5 (.p 6 (.p 7 (.q 8 (.p 9 (.p 10 (.p 11 (.p 12 .done))))))))))))) (by kernel_rfl) ?_;intro w2 e2;have hB2:∀ w',Ext w2 w'->Box w' b [pb b,.slice none 0 0] 89:=fun w' hS=>hB1.ext (e2.trans hS)
 have hw:IntKind.i64.wrap (0 - 0)=0:=rfl;refine YC (v:=pb b) rfl rfl (fun w'=>Qq rfl) <| YC (v:=pb b) rfl rfl (fun w'=>Yn rfl) <| YC (v:=.pointer (some ⟨b,1,none⟩)) rfl rfl (fun w'=>ZT 1 Tryz.underlying89 rfl rfl ⟨0,J5⟩ rfl rfl) <| Qea (v:=.slice none 0 0) rfl rfl (fun w' hS=>Qj Qco rfl ((hB2 w' hS).at.drop 1)) <|
  YC (v:=.int .i64 0) rfl rfl (fun w'=>Qpu rfl Tryz.underlying87 rfl) <| YC (v:=pb b) rfl rfl (fun w'=>Qq rfl) <| YC (v:=pb b) rfl rfl (fun w'=>Yn rfl) <| YC (v:=.pointer (some ⟨b,1,none⟩)) rfl rfl (fun w'=>ZT 1 Tryz.underlying89 rfl rfl ⟨0,J5⟩ rfl rfl) <| Qea (v:=.slice none 0 0) rfl rfl (fun w' hS=>Qj Qco rfl ((hB2 w' hS).at.drop 1)) <|
  YC (v:=.int .i64 0) rfl rfl (fun w'=>Qds rfl Tryz.underlying87 (Own.nil (α:=U8) 5 [] w') rfl) <| YC (v:=.int .i64 (IntKind.i64.wrap (0 - 0))) rfl rfl (fun w'=>XE rfl rfl) <| YC (v:=.int .i64 i) rfl rfl (fun w'=>Qq rfl) <| YC (v:=.bool (decide (IntKind.i64.wrap (0 - 0) < i))) rfl rfl (fun w'=>Q2 rfl rfl) <| Qqe <| hK2 _ _ ?_
 rw [hw];refine Y1 (b:=decide (0 < i)) rfl (fun h=>?_) (fun h=>?_)
 ·have h:0 < i:=by grind
  refine Qz <| Q5 (pb b) rfl <| Q5 (.int .i64 i) rfl <| Qg rfl (Qs Tryz.func120 (by kernel_rfl) rfl (QY rfl rfl) (QJq (L:=L) rfl (hB1.ext e2) h h1) ?_)
  rintro _ w3 ⟨hc3,rfl,v',hr',hB3,ho3,hn3,hf3⟩;exact Qb ⟨[],trivial,Qlh ((hc1.trans (e2.mono (fun _ h=>by cases h))).trans hc3),v',rfl,⟨hr',_,.inr rfl,hB3⟩,ho3,hn3,fun k hk=>.inr (Ee (Ee hc1.size e2.size) (hf3 k hk))⟩
 ·exact Qp ⟨[],trivial,Qlh (hc1.trans (e2.mono (fun _ h=>by cases h))),_,rfl,⟨QEl,_,.inr rfl,hB1.ext e2⟩,Own.nil _ _ _,(fun h=>by cases h),(fun k h=>by cases h)⟩
end Go.Gw

end
section
namespace Go.Gw
open Go
section
variable {P:Program} [JD P] {n:Nat} {ρ:Env} {w:World}
variable {d:Option Nat} {t T:TypeId} {p:String} {af:Array Edge} {gu:Option (Nat×Bool)} {x y:Operand}
end
end Go.Gw

end
section
namespace Go.Gw
open Go
structure RwB where
 b:Nat
 pre:List Value
 post:List Value
 T:TypeId
 cap:Nat
def Zs (xs:List U8):List Value:=(JL xs).map (Value.int .u8)
theorem Qdq (xs:List U8):(Zs xs).length=xs.length:=@List.length_map _ _ (JL xs) (Value.int .u8)
theorem QHg {xs:List U8} {k:Nat} {el:U8} (h:xs[k]?=some el):(Zs xs)[k]?=some (.int .u8 el):=by
 have h2:(JL xs)[k]?=some el:=h;unfold Zs;rw [List.getElem?_map,h2];rfl
theorem Q4p (xs:List U8) (k:Nat) (y:U8):Zs (xs.set k y)=(Zs xs).set k (.int .u8 y):=by
 show List.map (Value.int .u8) ((JL xs).set k y)=(List.map (Value.int .u8) (JL xs)).set k (.int .u8 y);exact List.map_set
def Rwo (B:RwB) (_e:TypeId) (_L:List Value) (w:World) (v:Value) (xs:List U8):Prop :=
 v=.slice (some ⟨B.b,B.pre.length,none⟩) xs.length B.cap/\Box w B.b (B.pre++Zs xs++B.post) B.T
section
variable {B:RwB} {e e':TypeId} {L:List Value} {w w':World} {v:Value} {xs:List U8} {i:Int} {el:U8}
theorem Rwo.ext (h:Rwo B e L w v xs) (c:Ext w w'):Rwo B e L w' v xs:=⟨h.1,h.2.ext c⟩
theorem Rwo.sub {L':List Value} (h:Rwo B e L w v xs) (_hs:∀ x∈L',x∈L):Rwo B e L' w v xs:=h
theorem Rwo.at (h:Rwo B e L w v xs) (hel:idx xs i=some el):∃ cs,At w (Yy v i.toNat 1) cs/\Rep.rd (α:=U8) L w cs el:=by
 obtain ⟨h0,h1,h2⟩:=Z8 hel;obtain ⟨rfl,hb⟩:=h;refine ⟨[.int .u8 el],?_,rfl⟩;show At w (Addr.add ⟨B.b,B.pre.length,none⟩ (i.toNat * 1)) _;rw [YD,Ec];refine At.of_block hb fun j u hu=>?_;cases j with
 | zero =>
  cases hu;rw [Eg,List.getElem?_toArray,Eb,List.getElem?_append_right (Nat.le_add_right _ _),Ef,List.getElem?_append_left (by rw [Qdq];exact h1),QHg h2]
 | succ j=>cases hu
end
section
variable {P:Program} [JD P] {n:Nat} {ρ:Env} {w:World}
variable {d:Option Nat} {t T:TypeId} {p:String} {af:Array Edge} {gu:Option (Nat×Bool)} {x y z:Operand}
variable {B:RwB} {e e':TypeId} {L:List Value} {v:Value} {xs:List U8} {i:Int} {el:U8}
theorem Q6g {w2:World} {aT:Array TypeId} (hT:aT[0]?=some T) (hu:P.underlying T=some (.slice e)) (hs:Rwo B e' L w2 v xs) (hx:Qn n ρ x=v):Yl P n ρ ⟨d,.call ⟨.builtin .len,#[x],aT⟩,t,p,af,gu⟩ w (.int .i64 xs.length):=by
 obtain ⟨rfl,_⟩:=hs;exact Qkn hT hu hx
theorem Jh {w2:World} {k:IntKind} (hu:P.underlying T=some (.slice e)) (hs:Xh P e 1) (hown:Rwo B e L w2 v xs)
  (hel:idx xs i=some el) (hx:Qn n ρ x=v) (hy:Qn n ρ y=.int k i):Yl P n ρ ⟨d,.indexAddr T x y,t,p,af,gu⟩ w (.pointer (some (Yy v i.toNat 1))):=by
 obtain ⟨h0,h1,_⟩:=Z8 hel;obtain ⟨rfl,_⟩:=hown;have h2:i < (xs.length:Int):=by omega
 exact YQ (X5 (Qkg _ _ _)) fun w1 _=>by simp [execOp,hx,hy,Instr.indexAt,asIntOf,run_underlying hu,h0,h2,Zg hs,Yy]
theorem Z7 {y':U8} {off k:Nat} {u:Value} {vs:List Value} {K:Value->World->Prop} (hs:Xh P T k) (hc:u.cells.toList=vs) (hk:vs.length=k) (hown:Rwo B e L w v xs) (hv:v∈L) (hel:idx xs i=some el)
  (hx:Qn n ρ x=.pointer (some ((Yy v i.toNat 1).add off))) (hy:Qn n ρ y=u) (hl:Nat.ble (off+k) 1=true) (h1:∀ c∈vs,c.oneCell'=true)
  (hset:∀ w' cs,Rep.rd (α:=U8) L w' cs el->Rep.rd (α:=U8) L w' (YO cs off vs) y')
  (h:∀ w',Chg [v] w w'->Rwo B e L w' v (xs.set i.toNat y')->K undef w'):Eff P ⟨d,.store T x y,t,p,af,gu⟩ n ρ w K:=by
 obtain ⟨h0,h2,h3⟩:=Z8 hel;obtain ⟨rfl,hb⟩:=hown;have hset2:YO [.int .u8 el] off vs=[.int .u8 y']:=hset w [.int .u8 el] rfl;have hl2:off+k<=1:=by simpa using hl
 have hx2:Qn n ρ x=.pointer (some ⟨B.b,B.pre.length+i.toNat+off,none⟩):=by
  rw [hx];show Value.pointer (some ((Addr.add ⟨B.b,B.pre.length,none⟩ (i.toNat * 1)).add off))=_;rw [YD,YD,Ec]
 have hcs:YO (B.pre++Zs xs++B.post) (B.pre.length+i.toNat+off) vs=B.pre++Zs (xs.set i.toNat y')++B.post:=by
  have hlen:(Zs xs).length=xs.length:=Qdq xs;have hsame:∀ u,(B.pre++Zs xs++B.post).set (B.pre.length+i.toNat) u=B.pre++(Zs xs).set i.toNat u++B.post:=fun u=>by
   rw [Eb,List.set_append_right _ _ (Nat.le_add_right _ _),Ef,List.set_append_left _ _ (by omega),Eb]
  match vs,hk with
  | [],hk =>
   have e1:[Value.int .u8 el]=[.int .u8 y']:=hset2;cases e1;have e2:Zs (xs.set i.toNat el)=Zs xs:=by
    rw [show xs.set i.toNat el=xs from by
     obtain ⟨_,e2⟩:=Ed.1 h3;rw [<-e2,List.set_getElem_self]]
   rw [e2];rfl
  | [a],hk =>
   have ho:off=0:=by
    have:k=1:=by rw [<-hk];rfl
    omega
   subst ho;have e1:[a]=[Value.int .u8 y']:=hset2;cases e1;rw [Eg,Q4p];exact hsame _
  | a::a2::l,hk =>
   have:k=(a::a2::l).length:=hk.symm;simp at this;omega
 refine Y9 (vs:=vs) (k:=k) hs hc hk hx2 hy hb ?_ h1 hcs fun w' hc' hB=>h w' ⟨hc'.os,hc'.tape,hc'.output,hc'.size,fun b hbl hA=>hc'.block b hbl fun q hq=>?_⟩ ⟨by rw [List.length_set],hB⟩
 ·rw [Nat.ble_eq];simp only [List.length_append,Qdq];omega
 ·rw [Ea] at hq;subst hq;exact (hA _ (Ea.2 rfl):Qv (Value.slice (some ⟨B.b,B.pre.length,none⟩) xs.length B.cap)≠some b)
theorem Q6r {e m h b:Nat} (hu:P.underlying T=some (.array m e)) (hs:Xh P e 1) (hh:1<=h/\h<=m) (hx:Qn n ρ x=.pointer (some ⟨b,0,none⟩)) (hy:Qn n ρ y=.int .i64 (h:Int)) :
  Yl P n ρ ⟨d,.slice T x none (some y) none,t,p,af,gu⟩ w (.slice (some ⟨b,0,none⟩) h m):=by
 obtain ⟨h1,h2⟩:=hh;exact YQ (X5 (Qaa _ _ _ _ _)) fun w1 _=>by simp [execOp,hx,hy,Instr.sliceAt,run_underlying hu,Instr.sureAddr,Instr.sliceBounds,Instr.sliceBound,asIntOf,Zg hs,h2,Addr.add]
theorem QHy {e m h:Nat} {b:Nat} (hu:P.underlying T=some (.array m e)) (hs:Xh P e 1) (hh:1<=h/\1+h < m) (hx:Qn n ρ x=.pointer (some ⟨b,0,none⟩)) (hy:Qn n ρ y=.int .i64 ((1+h:Nat):Int)) :
  Yl P n ρ ⟨d,.slice T x (some (.const (.int .i64 1))) (some y) none,t,p,af,gu⟩ w (.slice (some ⟨b,1,none⟩) h (m - 1)):=by
 obtain ⟨h1,h2⟩:=hh;have h0:¬ m=1:=by omega
 have h3:(1:Int)+(h:Int)<=(m:Int):=by omega
 have h4:(0:Int)<=1+(h:Int):=by omega
 have h5:(1+(h:Int)).toNat=1+h:=by omega
 have hc1:Qn n ρ (.const (.int .i64 1))=.int .i64 1:=rfl;have h6:¬ m - 1=0:=by omega
 exact YQ (X5 (Qaa _ _ _ _ _)) fun w1 _=>by
  simp [execOp,hx,hy,hc1,Instr.sliceAt,run_underlying hu,Instr.sureAddr,Instr.sliceBounds,Instr.sliceBound,asIntOf,Zg hs,h0,h3,h4,h5,Addr.add];intro hlt;omega
end
theorem QFj {w:World} {b len cap:Nat} {pre post:List Value} {xs:List U8} {cs:List Value} {T':TypeId} (hb:Box w b cs T') (hcs:cs=pre++Zs xs++post) (hl:xs.length=len) (hlc:len<=cap/\cap<=1000) (hc:pre.length+cap<=cs.length):SlRd (α:=U8) [] w (.slice (some ⟨b,pre.length,none⟩) len cap) xs:=by
 subst hl;refine .inr ⟨b,pre.length,cap,cs.toArray,T',(0,0),rfl,hb,Avoids.nil _,hlc.1,by unfold maxLen;omega,by show pre.length+cap * 1<=_;simp;omega,?_⟩;have h1:xs.length * Rep.n U8=xs.length:=Ec _;have h2:(cs.toArray.toList.drop pre.length).take (xs.length * Rep.n U8)=Zs xs:=by
  rw [h1,show cs.toArray.toList=cs from rfl,hcs,Eb,List.drop_left,List.take_append_of_le_length (by rw [Qdq];exact Nat.le_refl _),List.take_of_length_le (by rw [Qdq];exact Nat.le_refl _)]
 rw [h2];refine ⟨by rw [Qdq,h1],fun i x hx=>?_⟩;show ((Zs xs).drop (i * 1)).take 1=[.int .u8 x];have h3:=QHg hx;obtain ⟨h4,h5⟩:=Ed.1 h3;rw [Ec,List.drop_eq_getElem_cons h4,h5];rfl
end Go.Gw

end
section
namespace Go.Gw
open Go
section
variable {P:Program} [JD P] {n:Nat} {ρ:Env} {w:World}
variable {d:Option Nat} {t T U:TypeId} {p:String} {af:Array Edge} {gu:Option (Nat×Bool)} {x y z:Operand}
theorem QFh:∀ (vs cells pre:List Value),vs.length=cells.length->YO (pre++cells) pre.length vs=pre++vs
 | [],cells,pre,h=>by
  have:cells=[]:=List.eq_nil_of_length_eq_zero h.symm;subst this;rfl
 | v::vs,[],pre,h=>by cases h
 | v::vs,c::cells,pre,h=>by
  have h1:=QFh vs cells (pre++[v]) (by simpa using h);show YO ((pre++c::cells).set pre.length v) (pre.length+1) vs=_;rw [show (pre++c::cells).set pre.length v=(pre++[v])++cells by simp];simpa using h1
theorem Q0k {vs cells:List Value} (h:vs.length=cells.length):YO cells 0 vs=vs:=QFh vs cells [] h
theorem QKx {e:TypeId} {zz:Value} {L:List Value} {v:Value} {xs:List U8} {s:ByteArray} {K:Value->World->Prop} {aT:Array TypeId} (hu:P.underlying T=some (.slice e)) (hi:EInfo P e 1 1 zz) (hT:aT=#[T,U]) (hx:Qn n ρ x=v) (hy:Qn n ρ y=.string s)
  (hown:Own e L w v xs) (hlen:xs.length=s.size) (h0:0 < s.size) (h:∀ w',Chg [v] w w'->Own e L w' v (bl s)->K (.int .i64 s.size) w'):Eff P ⟨d,.call ⟨.builtin .copy,#[x,y],aT⟩,t,p,af,gu⟩ n ρ w K:=by
 subst hT;refine ZZ (Q3x hx hy) fun w1 e1=>?_;replace hown:=hown.step (Stepp.ext e1) e1 (fun _ _=>Avoids.nil _);obtain ⟨i,i1,i2,i3,i4,i5,i6⟩:=hi.ex;obtain ⟨cells,ho,hE⟩:=hown;rcases ho.2 with ⟨_,hh⟩ | ⟨g,cap,cur,rfl,_,hg,h4,h5,hcs,htake⟩
 ·omega
 have hcl:cells.length=s.size:=by rw [hE.1,hlen];exact Ec _
 have hsl:(Lib.strCells s).length=s.size:=Lib.strCells_length s;obtain ⟨w',hr,ho2,hg2⟩:=Qou (P:=P) (Lib.strCells s) 0 0 cells w1 ho (by omega) (fun c hc=>by
  rw [QGd] at hc;obtain ⟨b,_,rfl⟩:=List.mem_map.1 hc;rfl)
 have hcp:(Builtin.copy_ #[T,U] t #[.slice (some ⟨g,0,none⟩) xs.length cap,.string s]).run P w1=.ok (goInt s.size) w':=by
  have hm:Nat.min s.size xs.length=s.size:=by rw [hlen];exact Nat.min_self _
  have hf:=Lib.run_firstCells_string (P:=P) (w:=w1) i.size s;simp [Builtin.copy_,run_underlying hu,Builtin.lenOf,sizeOf,typeInfo,i1,hm,hf,hr,Result.andThen,Sem.run_bind]
 have e0:execOp (Qn n ρ) ⟨d,.call ⟨.builtin .copy,#[x,y],#[T,U]⟩,t,p,af,gu⟩=(Builtin.copy_ #[T,U] t #[.slice (some ⟨g,0,none⟩) xs.length cap,.string s] >>= fun v=>Pure.pure (Next.value v)):=by
  simp [execOp,resolve,invoke,builtin,hx,hy]
 rw [e0];simp only [Sem.run_bind,hcp,Result.andThen,Sem.run_pure,effR];have hc:Chg [Value.slice (some ⟨g,0,none⟩) xs.length cap] w1 w':=⟨hg2.os,hg2.tape,hg2.output,hg2.size,fun b hb hA=>hg2.block b hb (fun e=>hA _ (Ea.2 rfl) (by cases e;rfl))⟩;refine h w' ((e1.mono (fun _ h=>by cases h)).trans hc) ⟨Lib.strCells s,?_,Qyx _ _ _⟩;rw [Zn,<-hlen];rw [Eg,Q0k (by omega)] at ho2;exact ho2
end
end Go.Gw

end
