/- The builder of texts: a byte. No condition. -/
import Derived.Test.YtigpjhlbndfkkaaGreatDoorGwBld
set_option linter.unusedVariables false
set_option linter.unusedSimpArgs false
set_option linter.unusedSectionVars false
set_option maxRecDepth 100000
set_option maxHeartbeats 8000000
set_option linter.unusedVariables false
set_option linter.unusedSectionVars false
namespace Go.Gw
open Go Go.Proofs
attribute [local irreducible] T0 TS TT TP Eff Stp WC Quiet gd
variable [JD Tryz.prog]
theorem QEp {e:TypeId} {L:List Value} {w:World} {v:Value} {xs:List U8} (h:Own e L w v xs) (hx:xs≠[]):Z5 v:=by
 rcases h.nilOr with ⟨_,h1⟩ | ⟨g,cap,cur,rfl,_,h2,_⟩
 ·exact absurd h1 hx
 ·intro a m e;cases e;have:0 < xs.length:=List.length_pos_iff.2 hx;omega
theorem Qld {L:List Value} {w:World} {b:Nat} {v:Value} {xs zs:List U8} {c:Int} (hL:LtL (v::pb b::L) w) (hb:BldAt 115 w b v) (ho:Own 5 (v::pb b::L) w v xs) (hn:Qv v≠some b) (hm:Xz xs ([c]:List U8)=some zs) :
  CallsTo Tryz.prog 61 [pb b,.int .u8 c] w (fun r w'=>Chg [v,pb b] w w'/\∃ v',.nilIface=r/\BldAt 115 w' b v'/\Own 5 (v'::pb b::L) w' v' zs/\Qv v'≠some b/\∀ k,Qv v'=some k->Qv v=some k\/w.heap.size<=k):=by
 obtain ⟨hr,q,hq,hB⟩:=hb;refine QJ (n:=17) (rs:=[.tmp 4]) Tryz.func61 rfl rfl rfl rfl rfl ?_;refine QN .nilIface rfl <| Qd <| Qc (pb b) rfl <| Qh rfl (Qs Tryz.func85 (by kernel_rfl) rfl (QO rfl) (Qgu hq hB ho.one1) ?_)
 rintro _ w1 ⟨hc1,rfl,hB1⟩;have ho1:Own 5 (v::pb b::L) w1 v xs:=ho.step (QQ hc1 XA) hc1 (Ju hn);refine Qb <| Qd <| Qc (pb b) rfl <| Qc (pb b) rfl <| Qa (pb b) (Xy rfl) <| Qa (.pointer (some ⟨b,1,none⟩)) (Qw 1 Tryz.underlying115 rfl rfl ⟨0,Zi⟩ rfl rfl) <| Qa v (Qt Jv rfl (hB1.at.drop 1)) <| Qc (.int .u8 c) rfl <| Qh rfl (Xu (xs:=([c]:List U8)) (cells:=[.int .u8 c]) Tryz.underlying113 bi5 rfl (QC rfl rfl QV) rfl (Elems.cons (cs:=[.int .u8 c]) rfl Elems.nil) rfl (hL.chg hc1) ?_)
 intro b2 w2 he2 hS;have ho2:Own 5 (v::pb b::L) w2 v xs:=ho1.step (Stepp.ext he2) he2 (fun _ _=>Avoids.nil _);have hB2:Box w2 b [pb b,v] 115:=hB1.ext he2;refine Qh rfl (YP Tryz.underlying113 bi5 rfl rfl rfl rfl ho2 hS hm ?_);intro v' w3 hc3 hbl ho3;have hsz:w.heap.size<=w2.heap.size:=Nat.le_trans hc1.size he2.size;have hbl':∀ k,Qv v'=some k->Qv v=some k\/w.heap.size<=k:=fun k hk=>(hbl k hk).imp id fun h=>Nat.le_trans hsz h
 have hn':Qv v'≠some b:=ZG hbl hn hB2;have hB3:Box w3 b [pb b,v] 115:=hB2.chg hc3 (YN hn);have hz:zs≠[]:=by
  intro e;have:=congrArg List.length (Qgm hm).2;rw [List.length_append,e] at this;simp at this
 have hr3:Z5 v':=QEp ho3 hz;refine Qa (pb b) (Xy rfl) <| Qa (.pointer (some ⟨b,1,none⟩)) (Qw 1 Tryz.underlying115 rfl rfl ⟨0,Zi⟩ rfl rfl) <| Qh rfl (Ys (vs:=[v']) (cs':=[pb b,v']) Zi (ZQ ho3.one1) rfl rfl rfl hB3 rfl (Qi ho3.one1 QH) rfl ?_)
 intro w4 hc4 hB4;have ho4:Own 5 (v'::pb b::L) w4 v' zs:=ho3.step (QQ hc4 XA) hc4 (Ju hn');refine Qb <| QN .nilIface rfl <| Qu ⟨[.nilIface],⟨rfl,trivial⟩,?_,v',rfl,⟨hr3,_,.inr rfl,hB4⟩,ho4,hn',hbl'⟩
 exact (((Qbi hc1).trans (he2.mono (fun _ h=>by cases h))).trans (hc3.mono (fun x hx=>by rcases List.mem_singleton.1 hx with rfl;simp))).trans (Qbi hc4)
end Go.Gw
