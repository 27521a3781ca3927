/- Laws of the walk. Condition: each theorem says its own. -/
import Derived.Test.YtbplgfhjpeeieaaGwFnZ
import Derived.Test.YtbplgfhjpeeieaaGwFacts2
import Derived.Test.YtbplgfhjpeeieaaGwCj22
import Derived.Test.YtbplgfhjpeeieaaGwPlan2
set_option linter.unusedVariables false
set_option linter.unusedSimpArgs false
set_option linter.unusedSectionVars false
section
set_option maxRecDepth 100000
set_option maxHeartbeats 8000000
set_option linter.unusedVariables false
set_option linter.unusedSectionVars false
namespace Go.Gw
open Go Go.Conc Go.Proofs
theorem zi3 : ZI Try.prog 3 [.int .i64 0]:=ZG (by kernel_rfl)
theorem QVd : ZI Try.prog 156 [.chan none]:=ZG (by kernel_rfl)
theorem QSw : XV Try.prog 156 1:=YM (by kernel_rfl)
theorem Qzt : ZJ Try.prog 156:=⟨_,Try.underlying156,trivial⟩
attribute [local irreducible] T0 TS TT TP TX TZ Eff Stp WC Quiet gd
def Jy (L : List Value) (r : feed_plan) : Value → World → Prop:=fun v w=>∃ cs0 : List Value,v = .agg cs0.toArray ∧ Rep.rd L w cs0 r
theorem QCc {Z : Nat → Prop} {c : Nat} {L : List Value} {w : World} (hL : LtL L w) {net : feed_net} {t : FeedTrain} {at_ : Int} {b5 b9 b10 b11 : Nat} {v1 v3 v5 v : Value}
    (hn : Rep.rd L w [v1,v3,v5] net) (h5 : RowAt w b5 [v1,v3,v5]) (ht : SlRd L w v t.Steps) (h9 : RowAt w b9 [.string t.Name,.int .i64 t.Earliest,.int .i64 t.Latest,v]) (h10 : RowAt w b10 [.chan (some c)]) (h11 : RowAt w b11 [.int .i64 at_])
    {fl : Nat} {r : feed_plan} (hs : Qap fl net [feed_run.mk t at_] (w64 (at_ - t.Earliest)) = some r) :
    Wlk (Jw Try.prog Z) (fun g w=>∃ k,Qay Try.prog c (Jy L r) k g w) (born Try.prog { target:=.fn (.func 88) #[.pointer (some ⟨b10,0,none⟩),.pointer (some ⟨b5,0,none⟩),.pointer (some ⟨b9,0,none⟩),.pointer (some ⟨b11,0,none⟩)],args:=#[] }) w:=by
  letI : JD Try.prog:=⟨Jw Try.prog Z⟩
  refine .ctl rfl (fun W=>QSr Try.func88 (by kernel_rfl) rfl) ?_
  have e:=Qnj [.pointer (some ⟨b10,0,none⟩),.pointer (some ⟨b5,0,none⟩),.pointer (some ⟨b9,0,none⟩),.pointer (some ⟨b11,0,none⟩)] 15 (by simp)
  refine Eq.subst (motive:=fun a=>Wlk (Jw Try.prog Z) (fun g w=>∃ k,Qay Try.prog c (Jy L r) k g w) (G ((baseD 88).at a [.code _]) [JB Try.prog]) w) e.symm ?_
  refine QUf (n:=15) (j:=11) (fun w0 w'=>Ext w0 w') XM [(0,false),(1,false),(2,false),(3,false),(4,false),(6,false),(7,false),(8,false),(9,false),(5,true),(10,true)] (by kernel_rfl) (fun w=>Chg.refl _ _) (by simp [baseD])
    (Kt:=fun ρ' w'=>ρ' 4 = .chan (some c) ∧ Jy L r (ρ' 14) w') ?_ (fun ρ' w' ⟨k1,cs0,k2,k3⟩=>.stop fun w1 r1=>⟨4,QQu Try.func88 rfl rfl rfl rfl (by kernel_rfl) rfl (by rw [Qam]; exact k1) (by rw [Qam]; exact k2) fun w2 r2=>⟨cs0,rfl,Rep.step (Stepp.ext (r1.trans r2).ext) k3⟩⟩)
  have e0 : Ext w { w with drawn:=w.drawn + 1 }:=Ext.drew w
  generalize ({ w with drawn:=w.drawn + 1 } : World) = w0 at e0 ⊢
  refine Qak (v:=.chan (some c)) rfl rfl (fun w' hS=>Qq Qzt rfl (h10.at.ext (e0.trans hS))) ?_
  refine Qak (v:=.agg (List.toArray [v1,v3,v5])) rfl rfl (fun w' hS=>QI (cs:=[v1,v3,v5]) YG rfl (h5.at.ext (e0.trans hS))) ?_
  refine Qak (v:=.agg (List.toArray [.string t.Name,.int .i64 t.Earliest,.int .i64 t.Latest,v])) rfl rfl (fun w' hS=>QI (cs:=[.string t.Name,.int .i64 t.Earliest,.int .i64 t.Latest,v]) ZB rfl (h9.at.ext (e0.trans hS))) ?_
  refine Qak (v:=.int .i64 at_) rfl rfl (fun w' hS=>Qq QN rfl (h11.at.ext (e0.trans hS))) ?_
  refine Qak (v:=.agg (List.toArray [.string t.Name,.int .i64 t.Earliest,.int .i64 t.Latest,v,.int .i64 at_])) rfl rfl (fun w' hS=>Xq (cells:=[.string t.Name,.int .i64 t.Earliest,.int .i64 t.Latest,v,.int .i64 at_]) Qmy (QB rfl rfl (QB rfl rfl QV)) rfl) ?_
  refine Qak (v:=.int .i64 at_) rfl rfl (fun w' hS=>Qq QN rfl (h11.at.ext (e0.trans hS))) ?_
  refine Qak (v:=.pointer (some ⟨b9,1,none⟩)) rfl rfl (fun w' hS=>Qp 1 Try.underlying127 rfl rfl ⟨0,QH⟩ rfl rfl) ?_
  refine Qak (v:=.int .i64 t.Earliest) rfl rfl (fun w' hS=>Qq QN rfl (At.drop (h9.at.ext (e0.trans hS)) 1)) ?_
  refine Qak (v:=.int .i64 (w64 (at_ - t.Earliest))) rfl rfl (fun w' hS=>Zj rfl rfl) ?_
  refine Qro rfl rfl (XA (xs:=([feed_run.mk t at_] : List feed_run)) (cells:=[.string t.Name,.int .i64 t.Earliest,.int .i64 t.Latest,v,.int .i64 at_]) Try.underlying159 Zf rfl (QB rfl rfl QV) rfl (Elems.cons (cs:=[.string t.Name,.int .i64 t.Earliest,.int .i64 t.Latest,v,.int .i64 at_]) ⟨v,ht.ext e0,rfl⟩ Elems.nil) rfl (hL.chg e0) ?_)
  intro b w1 e1 h1
  refine ⟨e1,?_⟩
  refine Qro rfl rfl (Qx Try.func87 Qdu rfl (Ya rfl rfl rfl) (Qvs fl L _ (hL.chg (e0.trans e1)) [v1,v3,v5] net (Rep.step (Stepp.ext (e0.trans e1)) hn) _ [feed_run.mk t at_] h1 (w64 (at_ - t.Earliest)) r hs) ?_)
  rintro _ w2 ⟨e2,cs0,rfl,hrd⟩
  exact ⟨e1.trans e2,QCl ⟨rfl,cs0,rfl,hrd⟩⟩
end Go.Gw

end
section
set_option maxRecDepth 100000
set_option maxHeartbeats 8000000
set_option linter.unusedVariables false
set_option linter.unusedSectionVars false
namespace Go.Gw
open Go Go.Conc Go.Proofs
attribute [local irreducible] T0 TS TT TP TX TZ Eff Stp WC Quiet gd
/-! ### What it comes to -/
noncomputable def Qpv (net : feed_net) (t : FeedTrain) (k : Nat) : Option feed_plan:=Qap 4 net [feed_run.mk t (t.Earliest + k)] k
noncomputable def Qaa (net : feed_net) (t : FeedTrain) : Nat → Option (List feed_plan)
  | 0=>some []
  | m + 1=>Option.bind (Qaa net t m) fun l=>Option.bind (Qpv net t m) fun r=>some (l ++ [r])
noncomputable def ZO : List feed_plan → feed_plan → Option feed_plan
  | [],b=>some b
  | p :: ps,b=>Option.bind (Qcb p b) fun x=>ZO ps (bif x then p else b)
open Classical in
noncomputable def Qdm (net : feed_net) (t : FeedTrain) : Option feed_plan :=
  if 0 ≤ t.Earliest ∧ t.Earliest ≤ t.Latest ∧ t.Latest ≤ 1000000000 then
    Option.bind (Qaa net t (t.Latest - t.Earliest + 1).toNat) fun rs=>if h : ∃ r,∀ l : List feed_plan,l.Perm rs → ZO l ⟨[],0,false⟩ = some r then some h.choose else none
  else none
theorem QJr {net : feed_net} {t : FeedTrain} {r : feed_plan} (h : Qdm net t = some r) : (0 ≤ t.Earliest ∧ t.Earliest ≤ t.Latest ∧ t.Latest ≤ 1000000000) ∧ ∃ rs,Qaa net t (t.Latest - t.Earliest + 1).toNat = some rs ∧ ∀ l : List feed_plan,l.Perm rs → ZO l ⟨[],0,false⟩ = some r:=by
  unfold Qdm at h
  split at h
  · rename_i hc
    refine ⟨hc,?_⟩
    cases hl : Qaa net t (t.Latest - t.Earliest + 1).toNat with
    | none=>rw [hl] at h; cases h
    | some rs =>
      rw [hl] at h
      simp only [Qv] at h
      split at h
      · rename_i he
        cases h
        exact ⟨rs,rfl,he.choose_spec⟩
      · cases h
  · cases h
theorem Qjy {net : feed_net} {t : FeedTrain} : ∀ {m : Nat} {rs : List feed_plan},Qaa net t m = some rs → rs.length = m ∧ ∀ k r,rs[k]? = some r → Qpv net t k = some r
  | 0,rs,h=>by simp [Qaa] at h; subst h; simp
  | m + 1,rs,h=>by
    simp only [Qaa] at h
    cases hl : Qaa net t m with
    | none=>rw [hl] at h; cases h
    | some l =>
      rw [hl] at h
      simp only [Qv] at h
      cases hr : Qpv net t m with
      | none=>rw [hr] at h; cases h
      | some r =>
        rw [hr] at h
        simp only [Qv,Option.some.injEq] at h
        subst h
        obtain ⟨h1,h2⟩:=Qjy hl
        refine ⟨by simp [h1],fun k x hx=>?_⟩
        rcases Nat.lt_or_ge k l.length with h3 | h3
        · rw [List.getElem?_append_left h3] at hx; exact h2 k x hx
        · rw [List.getElem?_append_right h3] at hx
          have hk : k - l.length = 0:=by
            rcases Nat.eq_zero_or_pos (k - l.length) with h4 | h4
            · exact h4
            · rw [List.getElem?_eq_none (by simp; omega)] at hx; cases hx
          rw [hk] at hx
          simp at hx
          subst hx
          have : k = m:=by omega
          subst this; exact hr
theorem Qoy : ∀ (l : List feed_plan) (l2 : List feed_plan) (b : feed_plan),ZO (l ++ l2) b = Option.bind (ZO l b) fun x=>ZO l2 x
  | [],l2,b=>rfl
  | p :: l,l2,b=>by
    simp only [List.cons_append,ZO]
    cases Qcb p b with
    | none=>rfl
    | some x=>simp only [Qv]; exact Qoy l l2 _
/-! ### The code -/
def Zr : Code → Code
  | .seq _ y=>y
  | c=>c
def sq1 : Code → Code
  | .seq x _=>x
  | c=>c
def els : Code → Code
  | .cond _ _ y=>y
  | c=>c
noncomputable def Qgg : Code:=Zr (els (Zr (sq1 (Zr (Zr (Zr (Zr (Zr (Try.f22.body.getD .skip)))))))))
theorem X5 {ρ : Env} {d i : Nat} {v : Value} (h : i ≠ d) : XG ρ (some d) v i = ρ i:=by simp [XG,upd,Qjq h]
theorem Qah {ρ : Env} {d i : Nat} {v : Value} (h : i < d) : XG ρ (some d) v i = ρ i:=by simp [XG,upd,Qjq (Nat.ne_of_lt h)]
theorem wi {i : Int} (h0 : 0 ≤ i) (h1 : i ≤ 2000000000) : w64 i = i:=Go.IntWalk.i64_in i ⟨by omega,by omega⟩
def lpB : Code → Code
  | .block _ (.loop c)=>c
  | c=>c
noncomputable def LB0 : Code:=lpB (Zr (sq1 (Zr Qgg)))
noncomputable def LB2 : Code:=lpB (Zr (Zr (Zr Qgg)))

section
variable {L : List Value} {w0 : World} {b5 b8 b9 : Nat} {net : feed_net} {v1 v3 v5 v : Value} {t : FeedTrain} {ρ0 : Env} {rs : List feed_plan} {m : Nat}
structure Par0 (L : List Value) (w0 : World) (b5 b8 b9 : Nat) (net : feed_net) (v1 v3 v5 v : Value) (t : FeedTrain) (ρ0 : Env) (rs : List feed_plan) (m : Nat) : Prop where
  hL : LtL L w0
  h8 : pt b8 ∈ L
  n5 : b5 ≠ b8
  n9 : b9 ≠ b8
  r5 : ρ0 5 = pt b5
  r8 : ρ0 8 = pt b8
  r9 : ρ0 9 = pt b9
  B5 : RowAt w0 b5 [v1,v3,v5]
  B9 : RowAt w0 b9 [.string t.Name,.int .i64 t.Earliest,.int .i64 t.Latest,v]
  rn : Rep.rd L w0 [v1,v3,v5] net
  rt : SlRd L w0 v t.Steps
  e0 : 0 ≤ t.Earliest
  e1 : t.Earliest ≤ t.Latest
  e2 : t.Latest ≤ 1000000000
  em : m = (t.Latest - t.Earliest + 1).toNat
  rs : Qaa net t m = some rs

theorem Qab {b : Nat} : pt b ∈ [pt b]:=List.mem_singleton.2 rfl
theorem QKc (hP : Par0 L w0 b5 b8 b9 net v1 v3 v5 v t ρ0 rs m) {c : Nat} (hc : w0.heap.size ≤ c) {S : Goroutine → World → Prop} {b : Frame} (hb : b.kind ≠ .early) {kk : List Item} {cs : List Frame} {b10 : Nat} (h10 : w0.heap.size ≤ b10)
    (hE : ∀ ρ w Z orig,(∀ i,i < 10 → ρ i = ρ0 i) → ρ 10 = pt b10 → Inv w0 b8 Z orig w → RowAt w b10 [.chan (some c)] → Box w b8 [.slice none 0 0,.int .i64 0,.bool false] 154 → PW Try.prog c S Z orig (rs.map (Jy L)) (G (b.at (act 94 ρ) kk) cs) w) :
    ∀ (i j : Nat),j + i = m → ∀ (ρ : Env) (w : World) (Z : Nat → Prop) (orig : Nat → Option Obj) (b11 : Nat),(∀ i,i < 10 → ρ i = ρ0 i) → ρ 10 = pt b10 → ρ 11 = pt b11 → Inv w0 b8 Z orig w → RowAt w b10 [.chan (some c)] → Box w b8 [.slice none 0 0,.int .i64 0,.bool false] 154 →
      Box w b11 [.int .i64 (t.Earliest + j)] 3 → w0.heap.size ≤ b11 → ¬ Z b11 → PW Try.prog c S Z orig ((rs.take j).map (Jy L)) (G (b.at (act 94 ρ) (.code LB0 :: .inLoop LB0 :: .inBlock 0 :: kk)) cs) w:=by
  obtain ⟨hrl,hrg⟩:=Qjy hP.rs
  have hm : (m : Int) = t.Latest - t.Earliest + 1:=by have:=hP.em; have:=hP.e1; omega
  have hE0:=hP.e0
  have hE2:=hP.e2
  have h8lt : ∀ {w Z orig},Inv w0 b8 Z orig w → b8 < w0.heap.size:=fun h=>h.lt8
  -- the loop's head
  have head : ∀ (j : Nat) (tr : Bool), tr = decide (t.Earliest + j ≤ t.Latest) → ∀ (ρ : Env) (w : World) (Z : Nat → Prop) (orig : Nat → Option Obj) (b11 : Nat) (O : List (Value → World → Prop)), (∀ i, i < 10 → ρ i = ρ0 i) → ρ 11 = pt b11 → Inv w0 b8 Z orig w → Box w b11 [.int .i64 (t.Earliest + j)] 3 →
      (∀ ρ',(∀ i,i < 44 → ρ' i = ρ i) → PW Try.prog c S Z orig O (G (b.at (act 94 ρ') (.code (bif tr then .skip else .exit 0) :: .code (Zr LB0) :: .inLoop LB0 :: .inBlock 0 :: kk)) cs) w) →
      PW Try.prog c S Z orig O (G (b.at (act 94 ρ) (.code LB0 :: .inLoop LB0 :: .inBlock 0 :: kk)) cs) w:=by
    intro j tr htr ρ w Z orig b11 O hρ h11 hI hB11 hk
    refine PW.of ?_
    letI : JD Try.prog:=⟨Jp Try.prog Z⟩
    have hB9:=hP.B9.step (hI.stepp (L:=[pt b8]) Qab) (YH hP.n9)
    refine JI (JI (Qch (n:=94) (K:=fun ρ' w'=>w' = w ∧ ρ' 47 = .bool tr ∧ ∀ i,i < 44 → ρ' i = ρ i) ?_ hb ?_))
    · refine Yz (v:=.int .i64 (t.Earliest + j)) rfl (Qq QN h11 hB11.at) ?_
      refine Yz (v:=.pointer (some ⟨b9,2,none⟩)) rfl (Qp 2 Try.underlying127 rfl rfl ⟨0,QH⟩ ((hρ 9 (by omega)).trans hP.r9) rfl) ?_
      refine Yz (v:=.int .i64 t.Latest) rfl (Qq QN rfl (At.drop hB9.at 2)) ?_
      refine Yz (v:=.bool (decide (t.Earliest + j ≤ t.Latest))) rfl (YZ rfl rfl) ?_
      exact Qb ⟨rfl,by rw [htr]; rfl,fun i hi=>(Qah (by omega)).trans ((Qah (by omega)).trans ((Qah (by omega)).trans (Qah hi)))⟩
    · rintro ρ' w' ⟨rfl,h47,hr⟩
      exact Qnd (n:=94) (by exact h47) (hk ρ' hr).stop
  intro i
  induction i with
  | zero =>
    intro j hj ρ w Z orig b11 hρ hρ10 hρ11 hI hR10 hB8 hB11 h11 hz11
    obtain rfl : j = m:=by omega
    refine head j false (by simp; omega) ρ w Z orig b11 _ hρ hρ11 hI hB11 fun ρ' hr=>PW.of ?_
    letI : JD Try.prog:=⟨Jp Try.prog Z⟩
    refine Qte rfl ?_
    rw [List.take_of_length_le (by omega)]
    exact (hE ρ' w Z orig (fun i hi=>(hr i (by omega)).trans (hρ i hi)) ((hr 10 (by omega)).trans hρ10) hI hR10 hB8).stop
  | succ i ih =>
    intro j hj ρ w Z orig b11 hρ hρ10 hρ11 hI hR10 hB8 hB11 h11 hz11
    refine head j true (by simp; omega) ρ w Z orig b11 _ hρ hρ11 hI hB11 fun ρ1 hr1=>PW.of ?_
    letI : JD Try.prog:=⟨Jp Try.prog Z⟩
    refine Qqn (JI (Qig (Qqe ?_)))
    -- the go statement
    have q5 : ρ1 5 = pt b5:=(hr1 5 (by omega)).trans ((hρ 5 (by omega)).trans hP.r5)
    have q9 : ρ1 9 = pt b9:=(hr1 9 (by omega)).trans ((hρ 9 (by omega)).trans hP.r9)
    have q10 : ρ1 10 = pt b10:=(hr1 10 (by omega)).trans hρ10
    have q11 : ρ1 11 = pt b11:=(hr1 11 (by omega)).trans hρ11
    refine Qyl (n:=94) (i:=0) (rest:=[1]) (K:=fun v w'=>v = .func (.func 88) #[] (List.toArray [pt b10,pt b5,pt b9,pt b11]) ∧ w' = w) rfl rfl ?_ hb ?_
    · exact Qtd (Qmd (cs:=[pt b10,pt b5,pt b9,pt b11]) (ev4 q10 q5 q9 q11)) ⟨rfl,rfl⟩
    rintro _ w' ⟨rfl,rfl⟩
    refine .stop fun w1 r1=>?_
    have hjm : j < m:=by omega
    obtain ⟨r,hr⟩ : ∃ r,rs[j]? = some r:=⟨_,List.getElem?_eq_getElem (by omega)⟩
    have hrun:=hrg j r hr
    have hI1:=hI.rel r1
    have hsz : w0.heap.size ≤ w'.heap.size:=hI.size
    have hB11' : Box w1 b11 [.int .i64 (t.Earliest + j)] 3:=hB11.ext r1.ext
    have n11 : b11 ≠ b8:=fun e=>by have:=hI.lt8; omega
    have n10 : b10 ≠ b8:=fun e=>by have:=hI.lt8; omega
    have hv : (act 94 (XG ρ1 (some 50) (.func (.func 88) #[] (List.toArray [pt b10,pt b5,pt b9,pt b11])))).eval (.tmp 50) = .func (.func 88) #[] (List.toArray [pt b10,pt b5,pt b9,pt b11]):=by rw [Qam]; rfl
    refine PW.go (CC w1 b8) (Jy L r) rfl rfl (by kernel_rfl) hb (f:=88) (caps:=#[pt b10,pt b5,pt b9,pt b11]) (fun W=>?_) (fun W=>?_) rfl (fun w2 r2=>QDp r2) (fun w2 r2=>?_) (fun w2 r2=>?_)
    · simp only [resolve,hv]
      simp [Deferred.ofValue]
    · simp only [resolve,hv]
      simp [Deferred.ofValue]
    · -- the QCc
      have sc:=Qsl (Z:=Z) (w:=w1) (w1:=w2) (L:=L) hP.h8 r2
      have sc8:=Qsl (Z:=Z) (w:=w1) (w1:=w2) (L:=[pt b8]) Qab r2
      have s0:=(hI1.stepp hP.h8).trans sc
      have s08:=(hI1.stepp (L:=[pt b8]) Qab).trans sc8
      refine QCc (fl:=4) (t:=t) (at_:=t.Earliest + j) (fun x hx k hk=>?_) (Rep.step s0 hP.rn) (hP.B5.step s08 (YH hP.n5)) (hP.rt.step s0) (hP.B9.step s08 (YH hP.n9)) (RowAt.step sc8 (YH n10) (hR10.step (Stepp.ext (L:=[pt b8]) r1.ext) (YH n10))) (RowAt.step sc8 (YH n11) hB11'.row) ?_
      · have h1:=hP.hL x hx k hk
        rw [Qpc,Qjh]
        have:=r2.size
        have:=hI1.size
        omega
      · rw [show t.Earliest + (j : Int) - t.Earliest = j by omega,wi (by omega) (by omega)]
        exact hrun
    · -- on
      have hI2:=hI1.frz r2
      have hO : (rs.take j).map (Jy L) ++ [Jy L r] = (rs.take (j + 1)).map (Jy L):=by rw [List.take_add_one,hr]; simp
      rw [hO]
      have sf:=QKg (w:=w1) (w1:=w2) (b8:=b8) (L:=[pt b8]) r2
      have hR10' : RowAt (frz (CC w1 b8) w2) b10 [.chan (some c)]:=RowAt.step sf (YH n10) (hR10.step (Stepp.ext (L:=[pt b8]) r1.ext) (YH n10))
      have hR11' : RowAt (frz (CC w1 b8) w2) b11 [.int .i64 (t.Earliest + j)]:=RowAt.step sf (YH n11) hB11'.row
      have hB8':=QKf r2 (hB8.ext r1.ext)
      generalize frz (CC w1 b8) w2 = w3 at hI2 hR10' hR11' hB8' ⊢
      generalize hρ2 : XG ρ1 (some 50) (.func (.func 88) #[] (List.toArray [pt b10,pt b5,pt b9,pt b11])) = ρ2
      generalize (fun b=>Z b ∨ CC w1 b8 b) = Z2 at hI2 ⊢
      generalize J9 Z (CC w1 b8) w2 orig = orig2 at hI2 ⊢
      have hr2 : ∀ i,i < 44 → ρ2 i = ρ1 i:=fun i hi=>by rw [← hρ2]; exact Qah (by omega)
      have hz3 : ∀ {x},Z2 x → x < w3.heap.size:=fun hx=>by obtain ⟨_,_,_,_,h1,_⟩:=hI2.zrow _ hx; exact ZD h1
      refine PW.of ?_
      letI : JD Try.prog:=⟨Jp Try.prog Z2⟩
      refine QEw (Qwu (Qsu (n:=94) (K:=fun ρ' w'=>(∀ i,i < 11 → ρ' i = ρ2 i) ∧ ∃ b',ρ' 11 = pt b' ∧ Inv w0 b8 Z2 orig2 w' ∧ RowAt w' b10 [.chan (some c)] ∧ Box w' b8 [.slice none 0 0,.int .i64 0,.bool false] 154 ∧ Box w' b' [.int .i64 (t.Earliest + (j + 1 : Nat))] 3 ∧ w0.heap.size ≤ b' ∧ ¬ Z2 b') ?_ hb ?_))
      · refine Qhw (Qhw (QK (Yz (v:=.int .i64 (t.Earliest + j)) rfl (Qq QN ((hr2 11 (by omega)).trans q11) hR11'.at) (Qb (QK (Qk rfl (Q9 zi3 fun b' w4 hb4 e4 hB4=>?_)))))))
        refine Qk rfl (YW (vs:=[.int .i64 (t.Earliest + j)]) (cs':=[.int .i64 (t.Earliest + j)]) QH rfl rfl rfl rfl hB4 rfl (Qe rfl QG) rfl fun w5 c5 hB5=>Qb (QK ?_))
        refine Yz (v:=.int .i64 (t.Earliest + j)) rfl (Qq QN rfl hB5.at) ?_
        refine Yz (v:=.int .i64 (w64 (t.Earliest + j + 1))) rfl (QY rfl rfl) ?_
        rw [show w64 (t.Earliest + j + 1) = t.Earliest + (j + 1 : Nat) by rw [wi (by omega) (by omega)]; omega]
        refine Qk rfl (YW (vs:=[.int .i64 (t.Earliest + (j + 1 : Nat))]) (cs':=[.int .i64 (t.Earliest + (j + 1 : Nat))]) QH rfl rfl rfl rfl hB5 rfl (Qe rfl QG) rfl fun w6 c6 hB6=>Qb ?_)
        have hzb : ¬ Z2 b':=fun hx=>by have:=hz3 hx; omega
        have hbw : w0.heap.size ≤ b':=Nat.le_trans hI2.size hb4
        have nb8 : b8 ≠ b':=fun e=>by have:=hI2.lt8; omega
        have nb10 : b10 ≠ b':=fun e=>by have:=hR10'.lt; omega
        refine ⟨fun i hi=>?_,b',rfl,((hI2.ext e4).chg c5 (.inr ⟨hbw,hzb⟩)).chg c6 (.inr ⟨hbw,hzb⟩),?_,?_,hB6,hbw,hzb⟩
        · exact (Qah (by omega)).trans ((Qah (by omega)).trans ((Qah (by omega)).trans (Qah (by omega))))
        · have k1:=hR10'.step (Stepp.ext (L:=[pt b']) e4) (YH nb10)
          exact (k1.step (Qf (L:=[pt b']) c5 Qab) (YH nb10)).step (Qf (L:=[pt b']) c6 Qab) (YH nb10)
        · exact ((hB8'.ext e4).chg c5 (YH nb8)).chg c6 (YH nb8)
      · rintro ρ' w' ⟨k1,b',k2,k3,k4,k5,k6,k7,k8⟩
        refine Qwv ?_
        exact (ih (j + 1) (by omega) ρ' w' Z2 orig2 b' (fun i hi=>(k1 i (by omega)).trans ((hr2 i (by omega)).trans ((hr1 i (by omega)).trans (hρ i hi)))) ((k1 10 (by omega)).trans ((hr2 10 (by omega)).trans q10)) k2 k3 k4 k5 k6 k7 k8).stop
end
end Go.Gw

end
section
set_option maxRecDepth 100000
set_option maxHeartbeats 8000000
set_option linter.unusedVariables false
set_option linter.unusedSectionVars false
namespace Go.Gw
open Go Go.Conc Go.Proofs
attribute [local irreducible] T0 TS TT TP TX TZ Eff Stp WC Quiet gd
theorem zi154' : ZI Try.prog 154 [.slice none 0 0,.int .i64 0,.bool false]:=ZG (by kernel_rfl)
section
variable {L : List Value} {w0 : World} {b5 b8 b9 : Nat} {net : feed_net} {v1 v3 v5 v : Value} {t : FeedTrain} {ρ0 : Env} {rs : List feed_plan} {m : Nat}

theorem QKy {α β : Type} {f : α → β} {l : List α} {O1 O2 : List β} {φ : β} (h : l.map f = O1 ++ φ :: O2) : ∃ l1 p l2,l = l1 ++ p :: l2 ∧ l1.map f = O1 ∧ f p = φ ∧ l2.map f = O2:=by
  obtain ⟨l1,l',rfl,h1,h2⟩:=List.map_eq_append_iff.1 h
  obtain ⟨p,l2,rfl,h3,h4⟩:=List.map_eq_cons_iff.1 h2
  exact ⟨l1,p,l2,rfl,h1,h3,h4⟩

theorem QPp (hP : Par0 L w0 b5 b8 b9 net v1 v3 v5 v t ρ0 rs m) {r : feed_plan} (hr : ∀ l : List feed_plan, l.Perm rs → ZO l ⟨[], 0, false⟩ = some r) {c : Nat} (hc : w0.heap.size ≤ c) {S : Goroutine → World → Prop} {b : Frame} (hb : b.kind ≠ .early) {kk : List Item} {cs : List Frame} {b10 : Nat} (h10 : w0.heap.size ≤ b10)
    (hE : ∀ ρ w v8,(∀ i,i < 10 → ρ i = ρ0 i) → Chg [pt b8] w0 w → SlRd L w v8 r.at_ → Box w b8 [v8,.int .i64 r.delay,.bool r.found] 154 → S (G (b.at (act 94 ρ) kk) cs) w) :
    ∀ (i : Nat) (rem dn : List feed_plan) (best : feed_plan),rem.length = i → (dn ++ rem).Perm rs → ZO dn ⟨[],0,false⟩ = some best → ∀ (ρ : Env) (w : World) (Z : Nat → Prop) (orig : Nat → Option Obj) (v8 : Value),
      (∀ i,i < 10 → ρ i = ρ0 i) → ρ 10 = pt b10 → ρ 57 = .int .i64 m → ρ 58 = .int .i64 (m - i : Int) → Inv w0 b8 Z orig w → RowAt w b10 [.chan (some c)] → Box w b8 [v8,.int .i64 best.delay,.bool best.found] 154 → SlRd L w v8 best.at_ →
      PW Try.prog c S Z orig (rem.map (Jy L)) (G (b.at (act 94 ρ) (.code LB2 :: .inLoop LB2 :: .inBlock 2 :: kk)) cs) w:=by
  obtain ⟨hrl,hrg⟩:=Qjy hP.rs
  have hm : (m : Int) = t.Latest - t.Earliest + 1:=by have:=hP.em; have:=hP.e1; omega
  have hE0:=hP.e0
  have hE2:=hP.e2
  have n10 : ∀ {w Z orig},Inv w0 b8 Z orig w → b10 ≠ b8:=fun h e=>by have:=h.lt8; omega
  have head : ∀ (i : Nat) (tr : Bool), i ≤ m → tr = decide (0 < i) → ∀ (ρ : Env) (w : World) (Z : Nat → Prop) (orig : Nat → Option Obj) (O : List (Value → World → Prop)), ρ 57 = .int .i64 m → ρ 58 = .int .i64 (m - i : Int) →
      (∀ ρ',(∀ i,i < 59 → ρ' i = ρ i) → PW Try.prog c S Z orig O (G (b.at (act 94 ρ') (.code (bif tr then .skip else .exit 2) :: .code (Zr (Zr LB2)) :: .inLoop LB2 :: .inBlock 2 :: kk)) cs) w) →
      PW Try.prog c S Z orig O (G (b.at (act 94 ρ) (.code LB2 :: .inLoop LB2 :: .inBlock 2 :: kk)) cs) w:=by
    intro i tr him htr ρ w Z orig O h57 h58 hk
    refine PW.of ?_
    letI : JD Try.prog:=⟨Jp Try.prog Z⟩
    refine JI (Qch (n:=94) (K:=fun ρ' w'=>w' = w ∧ ρ' 59 = .bool tr ∧ ∀ i,i < 59 → ρ' i = ρ i) ?_ hb ?_)
    · refine Yz (v:=.bool (decide ((m - i : Int) < m))) rfl (Xe h58 h57) ?_
      refine Qb ⟨rfl,?_,fun i hi=>Qah hi⟩
      rw [htr]
      show Value.bool (decide ((m - i : Int) < m)) = _
      congr 1
      by_cases h : 0 < i
      · rw [decide_eq_true h,decide_eq_true]; omega
      · rw [decide_eq_false h,decide_eq_false]; omega
    · rintro ρ' w' ⟨rfl,h59,hr'⟩
      exact JI (Qnd (n:=94) (by exact h59) (hk ρ' hr').stop)
  intro i
  induction i with
  | zero =>
    intro rem dn best hlen hperm hfold ρ w Z orig v8 hρ hρ10 h57 h58 hI hR10 hB8 hs8
    obtain rfl:=List.eq_nil_of_length_eq_zero hlen
    refine head 0 false (Nat.zero_le _) (by simp) ρ w Z orig _ h57 h58 fun ρ' hr'=>PW.of ?_
    letI : JD Try.prog:=⟨Jp Try.prog Z⟩
    refine Qte rfl (.stop fun w1 r1=>.done rfl fun w2 r2=>?_)
    rw [List.append_nil] at hperm
    have hbr : best = r:=by have:=hr dn hperm; rw [hfold] at this; exact Option.some.inj this
    subst hbr
    have hI2:=(hI.rel r1).rel r2
    exact hE ρ' _ v8 (fun i hi=>(hr' i (by omega)).trans (hρ i hi)) hI2.thaw (((hs8.step (Stepp.ext r1.ext)).step (Stepp.ext r2.ext)).step hI2.thawS) (hI2.thawB ((hB8.ext r1.ext).ext r2.ext))
  | succ i ih =>
    intro rem dn best hlen hperm hfold ρ w Z orig v8 hρ hρ10 h57 h58 hI hR10 hB8 hs8
    have him : i + 1 ≤ m:=by
      have h1:=hperm.length_eq
      rw [List.length_append] at h1
      omega
    refine head (i + 1) true him (by simp) ρ w Z orig _ h57 h58 fun ρ1 hr1=>PW.of ?_
    letI : JD Try.prog:=⟨Jp Try.prog Z⟩
    have q10 : ρ1 10 = pt b10:=(hr1 10 (by omega)).trans hρ10
    refine Qqn (JI (Qig (JI (Qqe ?_))))
    refine Qyl (n:=94) (i:=0) (rest:=[1,2,3]) (K:=fun v w'=>v = .chan (some c) ∧ w' = w) rfl rfl (Qtd (Qq Qzt q10 hR10.at) ⟨rfl,rfl⟩) hb ?_
    rintro _ w' ⟨rfl,rfl⟩
    refine .stop fun w1 r1=>?_
    obtain ⟨inf,z,hz1,hz2,_⟩:=zi154'.ex
    refine PW.rcv (z:=z) rfl rfl (by kernel_rfl) hb Try.underlying156 ⟨inf,hz1,hz2⟩ (by rw [Qam]; rfl) (fun e=>by rw [List.map_eq_nil_iff] at e; subst e; simp at hlen) ?_
    intro O1 φ O2 hO w2 xw w3 u r2 hφ hsh hmo hlo
    obtain ⟨rem1,p,rem2,rfl,hO1,hφp,hO2⟩:=QKy hO
    subst hO1; subst hφp; subst hO2
    obtain ⟨cs0,rfl,hp⟩:=hφ
    obtain ⟨v9,hs9,rfl⟩:=hp
    have hI3:=((hI.rel r1).rel r2).more hmo hlo hc
    have hR3:=((hR10.step (Stepp.ext (L:=[]) r1.ext) (Avoids.nil _)).step (Stepp.ext (L:=[]) r2.ext) (Avoids.nil _)).step (Shows.stepp (L:=[]) hmo.shows) (Avoids.nil _)
    have hB3:=hmo.shows.box ((hB8.ext r1.ext).ext r2.ext)
    have hs3:=((hs8.step (Stepp.ext r1.ext)).step (Stepp.ext r2.ext)).step (Shows.stepp hmo.shows)
    have hs9:=hs9.step (Shows.stepp hsh)
    -- the plan's place among the others
    have hperm2 : (dn ++ p :: (rem1 ++ rem2)).Perm rs:=((List.Perm.append_left dn List.perm_middle).symm).trans hperm
    have hf2:=hr _ hperm2
    rw [Qoy,hfold,Qv] at hf2
    simp only [ZO] at hf2
    obtain ⟨x,hx⟩ : ∃ x,Qcb p best = some x:=by
      cases hbs : Qcb p best with
      | none=>rw [hbs] at hf2; cases hf2
      | some x=>exact ⟨x,rfl⟩
    have hfold2 : ZO (dn ++ [p]) ⟨[],0,false⟩ = some (bif x then p else best):=by
      rw [Qoy,hfold,Qv]
      simp only [ZO,hx,Qv]
    have fin : ∀ (ρ' : Env) (w4 : World) (v8' : Value), (∀ i, i < 12 → ρ' i = ρ1 i) → ρ' 57 = ρ1 57 → ρ' 58 = ρ1 58 → Inv w0 b8 Z orig w4 → RowAt w4 b10 [.chan (some c)] → Box w4 b8 [v8', .int .i64 (bif x then p else best).delay, .bool (bif x then p else best).found] 154 → SlRd L w4 v8' (bif x then p else best).at_ →
        Wlk (Jp Try.prog Z) (fun g w=>PW Try.prog c S Z orig (rem1.map (Jy L) ++ rem2.map (Jy L)) g w) (G (b.at (act 94 ρ') (.inBlock 3 :: .code (Zr (Zr (Zr LB2))) :: .inLoop LB2 :: .inBlock 2 :: kk)) cs) w4:=by
      intro ρ' w4 v8' k1 k2 k3 k4 k5 k6 k7
      letI : JD Try.prog:=⟨Jp Try.prog Z⟩
      refine Qwu (Qch (n:=94) (K:=fun ρ2 w5=>w5 = w4 ∧ (∀ i,i < 12 → ρ2 i = ρ' i) ∧ ρ2 57 = ρ' 57 ∧ ρ2 58 = .int .i64 (m - i : Int)) ?_ hb ?_)
      · refine Yz (v:=.int .i64 (w64 ((m - (i + 1 : Nat) : Int) + 1))) rfl (QY (k3.trans ((hr1 58 (by omega)).trans h58)) rfl) ?_
        refine Yz (v:=.int .i64 (w64 ((m - (i + 1 : Nat) : Int) + 1))) rfl (QF rfl) ?_
        refine Qb ⟨rfl,fun j hj=>(X5 (by omega)).trans (X5 (by omega)),(X5 (by omega)).trans (X5 (by omega)),?_⟩
        show Value.int .i64 (w64 ((m - (i + 1 : Nat) : Int) + 1)) = _
        rw [wi (by omega) (by omega)]
        congr 1
        omega
      · rintro ρ2 w5 ⟨rfl,j1,j2,j3⟩
        refine Qwv ?_
        rw [← List.map_append]
        exact (ih (rem1 ++ rem2) (dn ++ [p]) _ (by simp at hlen ⊢; omega) (by simpa using hperm2) hfold2 ρ2 w5 Z orig v8' (fun i hi=>(j1 i (by omega)).trans ((k1 i (by omega)).trans ((hr1 i (by omega)).trans (hρ i hi)))) ((j1 10 (by omega)).trans ((k1 10 (by omega)).trans q10)) (j2.trans (k2.trans ((hr1 57 (by omega)).trans h57))) j3 k4 k5 k6 k7).stop
    refine PW.of ?_
    rw [ZY]
    letI : JD Try.prog:=⟨Jp Try.prog Z⟩
    have hz3 : ∀ {x},Z x → x < w3.heap.size:=fun hx=>by obtain ⟨_,_,_,_,h1,_⟩:=hI3.zrow _ hx; exact ZD h1
    refine Qyn (n:=94) (k:=2) (m:=2) (K:=fun ρ' w4=>(∀ i,i < 12 → ρ' i = ρ1 i) ∧ ρ' 57 = ρ1 57 ∧ ρ' 58 = ρ1 58 ∧ ∃ b12,ρ' 12 = pt b12 ∧ Inv w0 b8 Z orig w4 ∧ RowAt w4 b10 [.chan (some c)] ∧ Box w4 b8 [v8,.int .i64 best.delay,.bool best.found] 154 ∧ SlRd L w4 v8 best.at_ ∧
      Box w4 b12 [v9,.int .i64 p.delay,.bool p.found] 154 ∧ SlRd L w4 v9 p.at_) rfl ?_ hb ?_
    · refine Qk rfl (Q9 zi154' fun b' w4 hb4 e4 hB4=>?_)
      refine Qk rfl (YW (vs:=[v9,.int .i64 p.delay,.bool p.found]) (cs':=[v9,.int .i64 p.delay,.bool p.found]) Z8 rfl rfl rfl rfl hB4 rfl (Qe hs9.one1 (Qe rfl (Qe rfl QG))) rfl fun w5 c5 hB5=>Qb ?_)
      have hzb : ¬ Z b':=fun hx=>by have:=hz3 hx; omega
      have hbw : w0.heap.size ≤ b':=Nat.le_trans hI3.size hb4
      have nb8 : b8 ≠ b':=fun e=>by have:=hI3.lt8; omega
      have nb10 : b10 ≠ b':=fun e=>by have:=hR3.lt; omega
      have hLb : ∀ {v xs},SlRd L w3 v xs → SlRd L w5 v (xs : List Int):=fun h=>by
        have h1 : SlRd (pt b' :: L) w4 _ _:=h.step (Stepp.add (pt b') e4 (fun k hk=>by simp [pt,Qh] at hk; omega))
        exact (h1.step (Qf c5 (List.mem_cons_self ..))).sub (fun _ hx=>List.mem_cons_of_mem _ hx)
      refine ⟨fun j hj=>(X5 (by omega)).trans ((X5 (by omega)).trans (X5 (by omega))),(X5 (by omega)).trans ((X5 (by omega)).trans (X5 (by omega))),(X5 (by omega)).trans ((X5 (by omega)).trans (X5 (by omega))),b',rfl,(hI3.ext e4).chg c5 (.inr ⟨hbw,hzb⟩),?_,(hB3.ext e4).chg c5 (YH nb8),hLb hs3,hB5,hLb hs9⟩
      exact (hR3.step (Stepp.ext (L:=[pt b']) e4) (YH nb10)).step (Qf (L:=[pt b']) c5 Qab) (YH nb10)
    · rintro ρ2 w4 ⟨k1,k2,k3,b12,k4,k5,k6,k7,k8,k9,k10⟩
      have q8 : ρ2 8 = pt b8:=(k1 8 (by omega)).trans ((hr1 8 (by omega)).trans ((hρ 8 (by omega)).trans hP.r8))
      refine JI (Qch (n:=94) (K:=fun ρ' w5=>(∀ i,i < 13 → ρ' i = ρ2 i) ∧ ρ' 57 = ρ2 57 ∧ ρ' 58 = ρ2 58 ∧ ρ' 64 = .bool x ∧ Ext w4 w5) ?_ hb ?_)
      · refine Yz (v:=.agg (List.toArray [v9,.int .i64 p.delay,.bool p.found])) rfl (QI (cs:=[v9,.int .i64 p.delay,.bool p.found]) Zl k4 k9.at) ?_
        refine Yz (v:=.agg (List.toArray [v8,.int .i64 best.delay,.bool best.found])) rfl (QI (cs:=[v8,.int .i64 best.delay,.bool best.found]) Zl q8 k7.at) ?_
        refine Qk rfl (Qx Try.func89 Qgf rfl (QX rfl rfl) (Qfu [] _ (LtL.nil _) [v9,.int .i64 p.delay,.bool p.found] p ⟨v9,k10.sub (fun _ h=>by cases h),rfl⟩ [v8,.int .i64 best.delay,.bool best.found] best ⟨v8,k8.sub (fun _ h=>by cases h),rfl⟩ x hx) ?_)
        rintro _ w5 ⟨e5,rfl⟩
        exact Qb ⟨fun j hj=>(X5 (by omega)).trans ((X5 (by omega)).trans (X5 (by omega))),(X5 (by omega)).trans ((X5 (by omega)).trans (X5 (by omega))),(X5 (by omega)).trans ((X5 (by omega)).trans (X5 (by omega))),rfl,e5⟩
      · rintro ρ3 w5 ⟨j1,j2,j3,j4,e5⟩
        refine Qnd (n:=94) (by exact j4) ?_
        have g1 : ∀ i,i < 12 → ρ3 i = ρ1 i:=fun i hi=>(j1 i (by omega)).trans (k1 i hi)
        have k6':=k6.step (Stepp.ext (L:=[]) e5) (Avoids.nil _)
        cases x with
        | false=>exact Qqn (fin ρ3 w5 v8 g1 (j2.trans k2) (j3.trans k3) (k5.ext e5) k6' (k7.ext e5) (k8.step (Stepp.ext e5)))
        | true =>
          refine Qch (n:=94) (K:=fun ρ' w6=>(∀ i,i < 12 → ρ' i = ρ3 i) ∧ ρ' 57 = ρ3 57 ∧ ρ' 58 = ρ3 58 ∧ Chg [pt b8] w5 w6 ∧ Box w6 b8 [v9,.int .i64 p.delay,.bool p.found] 154) ?_ hb ?_
          · refine Yz (v:=.agg (List.toArray [v9,.int .i64 p.delay,.bool p.found])) rfl (QI (cs:=[v9,.int .i64 p.delay,.bool p.found]) Zl ((j1 12 (by omega)).trans k4) (k9.ext e5).at) ?_
            refine Qk rfl (YW (vs:=[v9,.int .i64 p.delay,.bool p.found]) (cs':=[v9,.int .i64 p.delay,.bool p.found]) Z8 rfl rfl ((g1 8 (by omega)).trans ((hr1 8 (by omega)).trans ((hρ 8 (by omega)).trans hP.r8))) rfl (k7.ext e5) rfl (Qe k10.one1 (Qe rfl (Qe rfl QG))) rfl fun w6 c6 hB6=>Qb ?_)
            exact ⟨fun j hj=>X5 (by omega),X5 (by omega),X5 (by omega),c6,hB6⟩
          · rintro ρ4 w6 ⟨i1,i2,i3,c6,hB6⟩
            refine fin ρ4 w6 v9 (fun i hi=>(i1 i hi).trans (g1 i hi)) (i2.trans (j2.trans k2)) (i3.trans (j3.trans k3)) ((k5.ext e5).chg c6 (.inl rfl)) ?_ hB6 (((k10.step (Stepp.ext e5)).step (Qf c6 hP.h8)))
            exact k6'.step (Qf (L:=[pt b8]) c6 Qab) (YH (n10 k5))
end
end Go.Gw

end
section
set_option maxRecDepth 100000
set_option maxHeartbeats 1000000
set_option linter.unusedVariables false
set_option linter.unusedSectionVars false
namespace Go.Gw
open Go Go.Conc Go.Proofs
attribute [local irreducible] T0 TS TT TP TX TZ Eff Stp WC Quiet gd
instance topJ : JD Try.prog:=⟨Jm Try.prog⟩
def QQk : Code → List Oper
  | .region _ o _=>o.toList
  | _=>[]
noncomputable def ops11 : List Oper:=QQk (sq1 Qgg)
theorem QDr {ρ : Env} {w : World} {b : Frame} {k : List Item} {cs : List Frame} {S : Goroutine → World → Prop} (hb : b.kind ≠ .early)
    (h : ∀ c w1,Rel w w1 → w.heap.size ≤ c → PW Try.prog c S (fun _=>False) (fun _=>none) [] (G (b.at (act 94 (XG ρ (some 41) (.chan (some c)))) (.inRegion ops11.toArray [1,2] :: k)) cs) w1) :
    ∀ w1,Rel w w1 → (Jm Try.prog).Ph (G (b.at (act 94 ρ) (.inRegion ops11.toArray [0,1,2] :: k)) cs) w1 S:=by
  refine QDs (g:=G (b.at (act 94 ρ) (.inRegion ops11.toArray [0,1,2] :: k)) cs) rfl (fun c=>G (b.at (act 94 (XG ρ (some 41) (.chan (some c)))) (.inRegion ops11.toArray [1,2] :: k)) cs) (fun W=>?_) h
  have e : ops11.toArray[0]? = some { dst := some 41, op := .makeChan 156 (.const (.int .i64 0)), type := 156, pos := "plan.go:64", after := #[], guard := none } := by kernel_rfl
  have:=QSs (P:=Try.prog) (main:=true) (b:=b) (a:=act 94 ρ) (k:=k) (cs:=cs) (ops:=ops11.toArray) (i:=0) (rest:=[1,2]) e rfl rfl hb Try.underlying156 (by rw [Qam]; rfl) (by kernel_rfl) W
  rw [ZY] at this
  exact this
section
variable {L : List Value} {w : World} {b5 b8 b9 : Nat} {net : feed_net} {v1 v3 v5 v : Value} {t : FeedTrain} {ρ : Env} {q : Post} {r : feed_plan}
theorem QOj (hL : LtL L w) (h8 : pt b8 ∈ L) (n5 : b5 ≠ b8) (n9 : b9 ≠ b8) (r5 : ρ 5 = pt b5) (r8 : ρ 8 = pt b8) (r9 : ρ 9 = pt b9) (hB5 : Box w b5 [v1, v3, v5] 149) (hB9 : Box w b9 [.string t.Name, .int .i64 t.Earliest, .int .i64 t.Latest, v] 127) (hB8 : Box w b8 [.slice none 0 0, .int .i64 0, .bool false] 154)
    (hn : Rep.rd L w [v1,v3,v5] net) (ht : SlRd L w v t.Steps) (h : Qdm net t = some r)
    (hK : ∀ ρ' w' v8,(∀ i,i < 10 → ρ' i = ρ i) → Chg [pt b8] w w' → SlRd L w' v8 r.at_ → Box w' b8 [v8,.int .i64 r.delay,.bool r.found] 154 → q.norm ρ' w') : WC Try.prog 94 Qgg q ρ w:=by
  obtain ⟨⟨e0,e1,e2⟩,rs,hrs,hr⟩:=QJr h
  have hP : Par0 L w b5 b8 b9 net v1 v3 v5 v t ρ rs (t.Latest - t.Earliest + 1).toNat:=⟨hL,h8,n5,n9,r5,r8,r9,hB5.row,hB9.row,hn,ht,e0,e1,e2,rfl,hrs⟩
  have hlen:=(Qjy hrs).1
  unfold WC
  intro b k cs Stop hb hQ
  show Wlk (Jm Try.prog) Stop _ w
  refine JI (Qqe ?_)
  show Wlk (Jm Try.prog) Stop (G (b.at (act 94 ρ) (.inRegion ops11.toArray [0,1,2] :: .code (Zr Qgg) :: k)) cs) w
  refine .phase (fun g' w'=>∃ ρ',g' = G (b.at (act 94 ρ') k) cs ∧ q.norm ρ' w') rfl ?_ ?_
  · refine QDr hb fun c w1 r1 hc=>?_
    have hI1:=(Inv.start hB8.lt).rel r1
    have hB81:=hB8.ext r1.ext
    refine PW.of ?_
    letI : JD Try.prog:=⟨Jp Try.prog fun _=>False⟩
    refine Qyn (ops:=ops11) (n:=94) (k:=1) (m:=2) (K:=fun ρ' w2=>(∀ i,i < 10 → ρ' i = ρ i) ∧ ∃ b10,ρ' 10 = pt b10 ∧ w.heap.size ≤ b10 ∧ Inv w b8 (fun _=>False) (fun _=>none) w2 ∧ RowAt w2 b10 [.chan (some c)] ∧ Box w2 b8 [.slice none 0 0,.int .i64 0,.bool false] 154) rfl ?_ hb ?_
    · refine Qk rfl (Q9 QVd fun b' w4 hb4 e4 hB4=>?_)
      refine Qk rfl (YW (vs:=[.chan (some c)]) (cs':=[.chan (some c)]) QSw rfl rfl rfl rfl hB4 rfl (Qe rfl QG) rfl fun w5 c5 hB5=>Qb ?_)
      have hbw : w.heap.size ≤ b':=Nat.le_trans hI1.size hb4
      have nb8 : b8 ≠ b':=fun e=>by have:=hI1.lt8; omega
      exact ⟨fun i hi=>(X5 (by omega)).trans (X5 (by omega)),b',rfl,hbw,(hI1.ext e4).chg c5 (.inr ⟨hbw,fun h=>h⟩),hB5.row,(hB81.ext e4).chg c5 (YH nb8)⟩
    · rintro ρ2 w2 ⟨k1,b10,k2,k3,k4,k5,k6⟩
      refine JI (JI (Qch (n:=94) (K:=fun ρ' w3=>(∀ i,i < 11 → ρ' i = ρ2 i) ∧ ∃ b11,ρ' 11 = pt b11 ∧ w.heap.size ≤ b11 ∧ Inv w b8 (fun _=>False) (fun _=>none) w3 ∧ RowAt w3 b10 [.chan (some c)] ∧ Box w3 b8 [.slice none 0 0,.int .i64 0,.bool false] 154 ∧ Box w3 b11 [.int .i64 t.Earliest] 3) ?_ hb ?_))
      · have hB9':=hP.B9.step (k4.stepp (L:=[pt b8]) Qab) (YH n9)
        refine Yz (v:=.pointer (some ⟨b9,1,none⟩)) rfl (Qp 1 Try.underlying127 rfl rfl ⟨0,QH⟩ ((k1 9 (by omega)).trans r9) rfl) ?_
        refine Yz (v:=.int .i64 t.Earliest) rfl (Qq QN rfl (At.drop hB9'.at 1)) ?_
        refine Qk rfl (Q9 zi3 fun b' w4 hb4 e4 hB4=>?_)
        refine Qk rfl (YW (vs:=[.int .i64 t.Earliest]) (cs':=[.int .i64 t.Earliest]) QH rfl rfl rfl rfl hB4 rfl (Qe rfl QG) rfl fun w5 c5 hB5=>Qb ?_)
        have hbw : w.heap.size ≤ b':=Nat.le_trans k4.size hb4
        have nb8 : b8 ≠ b':=fun e=>by have:=k4.lt8; omega
        have nb10 : b10 ≠ b':=fun e=>by have:=k5.lt; omega
        refine ⟨fun i hi=>(X5 (by omega)).trans ((X5 (by omega)).trans (X5 (by omega))),b',rfl,hbw,(k4.ext e4).chg c5 (.inr ⟨hbw,fun h=>h⟩),?_,(k6.ext e4).chg c5 (YH nb8),hB5⟩
        exact (k5.step (Stepp.ext (L:=[pt b']) e4) (YH nb10)).step (Qf (L:=[pt b']) c5 Qab) (YH nb10)
      · rintro ρ3 w3 ⟨j1,b11,j2,j3,j4,j5,j6,j7⟩
        refine Qig (Qxj ?_)
        have g1 : ∀ i,i < 10 → ρ3 i = ρ i:=fun i hi=>(j1 i (by omega)).trans (k1 i hi)
        refine (QKc hP (b10:=b10) hc hb k3 (fun ρ4 w4 Z orig i1 i2 i3 i4 i5=>?_) (t.Latest - t.Earliest + 1).toNat 0 (by omega) ρ3 w3 (fun _=>False) (fun _=>none) b11 g1 ((j1 10 (by omega)).trans k2) j2 j4 j5 j6 (by simpa using j7) j3 (fun h=>h)).stop
        refine PW.of ?_
        letI : JD Try.prog:=⟨Jp Try.prog Z⟩
        have hB9':=hP.B9.step (i3.stepp (L:=[pt b8]) Qab) (YH n9)
        refine JI (Qch (n:=94) (K:=fun ρ' w5=>w5 = w4 ∧ (∀ i,i < 52 → ρ' i = ρ4 i) ∧ ρ' 57 = .int .i64 (t.Latest - t.Earliest + 1).toNat ∧ ρ' 58 = .int .i64 0) ?_ hb ?_)
        · refine Yz (v:=.pointer (some ⟨b9,2,none⟩)) rfl (Qp 2 Try.underlying127 rfl rfl ⟨0,QH⟩ ((i1 9 (by omega)).trans r9) rfl) ?_
          refine Yz (v:=.int .i64 t.Latest) rfl (Qq QN rfl (At.drop hB9'.at 2)) ?_
          refine Yz (v:=.pointer (some ⟨b9,1,none⟩)) rfl (Qp 1 Try.underlying127 rfl rfl ⟨0,QH⟩ ((i1 9 (by omega)).trans r9) rfl) ?_
          refine Yz (v:=.int .i64 t.Earliest) rfl (Qq QN rfl (At.drop hB9'.at 1)) ?_
          refine Yz (v:=.int .i64 (w64 (t.Latest - t.Earliest))) rfl (Zj rfl rfl) ?_
          refine Yz (v:=.int .i64 (w64 (w64 (t.Latest - t.Earliest) + 1))) rfl (QY rfl rfl) ?_
          refine Yz (v:=.int .i64 0) rfl (QF rfl) ?_
          refine Qb ⟨rfl,fun i hi=>(X5 (by omega)).trans ((X5 (by omega)).trans ((X5 (by omega)).trans ((X5 (by omega)).trans ((X5 (by omega)).trans ((X5 (by omega)).trans (X5 (by omega))))))),?_,rfl⟩
          show Value.int .i64 (w64 (w64 (t.Latest - t.Earliest) + 1)) = _
          rw [wi (i:=t.Latest - t.Earliest) (by omega) (by omega),wi (by omega) (by omega)]
          congr 1
          omega
        · rintro ρ5 w5 ⟨rfl,l1,l2,l3⟩
          refine Qig (Qxj ?_)
          refine (QPp hP hr (b10:=b10) hc hb k3 (fun ρ6 w6 v8 o1 o2 o3 o4=>⟨ρ6,rfl,hK ρ6 w6 v8 o1 o2 o3 o4⟩) (t.Latest - t.Earliest + 1).toNat rs [] ⟨[],0,false⟩ hlen (by simp) rfl ρ5 w5 Z orig (.slice none 0 0) (fun i hi=>(l1 i (by omega)).trans (i1 i hi)) ((l1 10 (by omega)).trans i2) l2 (by rw [l3,Int.sub_self]) i3 i4 i5 (SlRd.nil _ _)).stop
  · rintro g' w' ⟨ρ',rfl,hq⟩
    exact hQ .normal _ _ ⟨ρ',rfl,hq⟩
end
end Go.Gw

end
section
set_option maxRecDepth 4096
set_option maxHeartbeats 8000000
set_option linter.unusedVariables false
set_option linter.unusedSectionVars false
namespace Go.Gw
open Go Go.Proofs
attribute [local irreducible] T0 TS TT TP TX TZ Eff Stp WC Quiet gd
noncomputable def Qtk (r20 : (feed_net × Int)) (x205 : (List Int)) : ((List FeedDeparture) × Int) → Option (((List FeedDeparture) × Int) ⊕ ((List FeedDeparture))):=fun (x544,x552)=>(bif (decide (x552 < (x205.length : Int))) then ( (Option.bind (idx x205 x552) fun el597=>(Option.bind (idx r20.1.FeedNet.Trains x552) fun el603=>(Option.bind (app x544 ([(FeedDeparture.mk el603.Name el597)] : List FeedDeparture)) fun zs618=>some (.inl (zs618,w64 (x552 + 1))) ) ) ) ) else ( some (.inr x544) ))
noncomputable def Qiu (p_Listappend : FeedNet) : Option ((List FeedDeparture) × Int × Int):=(Option.bind (Qca p_Listappend) fun r20=>(bif (!decide (r20.2 = 0)) then ( some (([] : (List FeedDeparture)),0,r20.2) ) else ( (Option.bind (Qof (feed_net.mk (FeedNet.mk r20.1.FeedNet.Stations r20.1.FeedNet.Sections r20.1.FeedNet.Trains))) fun r70=>(bif (!decide (r70 = 0)) then ( some (([] : (List FeedDeparture)),0,r70) ) else ( (Option.bind (α:=((List Int) × Int × Bool)) ( (bif (decide ((r20.1.FeedNet.Trains.length : Int) = 0)) then ( (Option.bind (Qap 4 (feed_net.mk (FeedNet.mk r20.1.FeedNet.Stations r20.1.FeedNet.Sections r20.1.FeedNet.Trains)) [] 0) fun r218=>some (r218.at_,r218.delay,r218.found) ) ) else ( (Option.bind (idx r20.1.FeedNet.Trains 0) fun el243=>(Option.bind (Qdm (feed_net.mk (FeedNet.mk r20.1.FeedNet.Stations r20.1.FeedNet.Sections r20.1.FeedNet.Trains)) el243) fun r285=>some (r285.at_,r285.delay,r285.found) ) ) )) ) fun ((x205,x209,x210) : (List Int) × Int × Bool)=>(bif (!x210) then ( some (([] : (List FeedDeparture)),0,12) ) else ( (Option.bind (loop (Qtk r20 x205) (([] : List FeedDeparture),0)) fun (x575 : (List FeedDeparture))=>some (x575,x209,0) ) )) ) )) ) )) )
theorem QHe (L : List Value) (w : World) (hL : LtL L w) (cs_p_Listappend : List Value) (p_Listappend : FeedNet) (h_p_Listappend : Rep.rd L w cs_p_Listappend p_Listappend) (r : (List FeedDeparture) × Int × Int) (h : Qiu p_Listappend = some r) : CallsTo Try.prog 22 [(.agg cs_p_Listappend.toArray)] w (fun v w'=>Ext w w'∧∃ (v0 : Value),(.tuple #[v0,(Iv r.2.1),(Iv r.2.2)]) = v∧SlRd L w' v0 r.1):=by
 obtain ⟨v1,v3,v5,h2,h4,h6,rfl⟩:=h_p_Listappend;refine Q3 (n:=94) (rs:=[.tmp 2,.tmp 3,.tmp 4]) Try.func22 rfl rfl rfl rfl rfl<|Qd<|Qk rfl (Xr (cs:=[v1,v3,v5]) rfl rfl ?_);intro b11 wd12 hb13 he14 hB15;have e17:=(Q0 w).trans he14;refine Qj (.slice none 0 0) rfl<|Qj (Iv 0) rfl<|Qj (Iv 0) rfl<|Qb<|Qd<|Qa (AgV [v1,v3,v5]) (QI (cs:=[v1,v3,v5]) XE rfl (Box.at hB15)) ?_;replace h:=Qg h;obtain ⟨r20,hr21,h⟩:=h;refine Qk rfl (Qx Try.func85 Qpr rfl (Xl rfl) (Qom L _ (hL.chg e17) [v1,v3,v5] p_Listappend ⟨v1,v3,v5,(h2.ext he14),(h4.ext he14),(h6.ext he14),rfl⟩ r20 hr21) ?_);rintro _ wd22 ⟨he23,cs30,rfl,hrd31⟩;have e33:=e17.trans he23;obtain ⟨v24,v26,v28,h25,h27,h29,rfl⟩:=hrd31;refine Qc (.tuple #[(AgV [v24,v26,v28]),(Iv r20.2)]) rfl<|Qa (AgV [v24,v26,v28]) (Xm rfl rfl)<|Qa (Iv r20.2) (Xm rfl rfl)<|Qk rfl (Q9 JO ?_);intro b37 wd38 hb39 he40 hB41;have h47:=h25.step (Qm he40 hb39);have h48:=h27.step (Qm he40 hb39);have h49:=h29.step (Qm he40 hb39);refine Qk rfl (QT (vs:=[v24,v26,v28]) Z7 rfl rfl rfl rfl hB41 rfl (Qe h47.one1 (Qe h48.one1 (Qe h49.one1 QG))) rfl ?_);intro wd53 hc54 hB55;have h60:=h47.step (Qf hc54 Ql);have h61:=h48.step (Qf hc54 Ql);have h62:=h49.step (Qf hc54 Ql);have e63:=QO (e33.trans he40) hc54 (Xa e33 hb39);refine Qj (Iv r20.2) rfl<|Qb<|Qn fun K64 hK64=>Qd<|Qc (Iv r20.2) rfl<|Qa (.bool (!decide (r20.2 = 0))) (XH rfl rfl)<|Qb<|Qw (b:=(!decide (r20.2 = 0))) rfl (fun hb66=>?_) (fun hb66=>?_)
 ·clear hK64;replace h:=Qs hb66 h;refine Qd<|Qc (Iv r20.2) rfl<|Qj (.slice none 0 0) rfl<|Qj (Iv 0) rfl<|Qj (Iv r20.2) rfl<|Qb<|Qu ?_;replace h:=Qi h;subst h;exact ⟨[(.slice none 0 0),(Iv 0),(Iv r20.2)],⟨rfl,rfl,rfl,trivial⟩,e63,(.slice none 0 0),rfl,(SlRd.nil _ _)⟩
 ·replace h:=Qz hb66 h;refine Qy<|hK64 _ _<|Qn fun K68 hK68=>Qd<|Qa (AgV [v24,v26,v28]) (QI (cs:=[v24,v26,v28]) YG rfl (Box.at hB55)) ?_;replace h:=Qg h;obtain ⟨r70,hr71,h⟩:=h;refine Qk rfl (Qx Try.func86 QNo rfl (Xl rfl) (QJb [] _ (LtL.nil _) [v24,v26,v28] (feed_net.mk (FeedNet.mk r20.1.FeedNet.Stations r20.1.FeedNet.Sections r20.1.FeedNet.Trains)) ⟨v24,v26,v28,(h60.sub (fun _ h=>by cases h)),(h61.sub (fun _ h=>by cases h)),(h62.sub (fun _ h=>by cases h)),rfl⟩ r70 hr71) ?_);rintro _ wd72 ⟨he73,rfl⟩;have e74:=e63.trans he73;refine Qj (Iv r70) rfl<|Qb<|Qd<|Qc (Iv r70) rfl<|Qa (.bool (!decide (r70 = 0))) (XH rfl rfl)<|Qb<|Qw (b:=(!decide (r70 = 0))) rfl (fun hb76=>?_) (fun hb76=>?_)
  ·clear hK64 hK68;replace h:=Qs hb76 h;refine Qd<|Qc (Iv r70) rfl<|Qj (.slice none 0 0) rfl<|Qj (Iv 0) rfl<|Qj (Iv r70) rfl<|Qb<|Qu ?_;replace h:=Qi h;subst h;exact ⟨[(.slice none 0 0),(Iv 0),(Iv r70)],⟨rfl,rfl,rfl,trivial⟩,e74,(.slice none 0 0),rfl,(SlRd.nil _ _)⟩
  ·clear hK64;replace h:=Qz hb76 h;refine Qy<|hK68 _ _<|Qd<|Qk rfl (Q9 Qbr ?_);intro b79 wd80 hb81 he82 hB83;have hn85:=QR (hB55.ext he73) hb81;have hbf86:=Xa e74 hb81;have h90:=(h60.ext he73).step (Qm he82 hb81);have h91:=(h61.ext he73).step (Qm he82 hb81);have h92:=(h62.ext he73).step (Qm he82 hb81);have e93:=he73.trans he82;have e94:=e74.trans he82;refine Qb<|Qn fun K96 hK96=>Qd<|Qa (pt b37) (Qp 0 Try.underlying149 rfl rfl ⟨2,Xu⟩ rfl rfl)<|Qa (ptk b37 2) (Qp 2 Try.underlying26 rfl rfl ⟨0,X3⟩ rfl rfl)<|Qa v28 (Qq X9 rfl (At.drop (Box.at (hB55.ext e93)) 2))<|Qa (Iv (r20.1.FeedNet.Trains.length : Int)) (QU rfl Try.underlying24 h92 rfl)<|Qa (.bool (decide ((r20.1.FeedNet.Trains.length : Int) = 0))) (X4 rfl rfl)<|Qb ?_;replace h:=Qg h;obtain ⟨o213,ho214,hn215⟩:=h;refine Xc (fun (ρ : Env) (wd196 : World)=>∃ (x205 : (List Int)) (x209 : Int) (x210 : Bool) (v206 : Value),(x205,x209,x210) = o213∧ρ 5 = (pt b37)∧ρ 8 = (pt b79)∧SlRd ((pt b79) :: (pt b37) :: L) wd196 v24 r20.1.FeedNet.Stations∧SlRd ((pt b79) :: (pt b37) :: L) wd196 v26 r20.1.FeedNet.Sections∧SlRd ((pt b79) :: (pt b37) :: L) wd196 v28 r20.1.FeedNet.Trains∧SlRd ((pt b79) :: (pt b37) :: L) wd196 v206 x205∧Box wd196 b37 [v24,v26,v28] 149∧Box wd196 b79 [v206,(Iv x209),(.bool x210)] 154∧Ext w wd196) ?_ ?_
   ·clear hK68 hK96;intro K216 hK216;replace h:=ho214;clear ho214;refine Qw (b:=(decide ((r20.1.FeedNet.Trains.length : Int) = 0))) rfl (fun hb217=>?_) (fun hb217=>?_)
    ·replace h:=Qs hb217 h;refine QK<|Qa (AgV [v24,v26,v28]) (QI (cs:=[v24,v26,v28]) YG rfl (Box.at (hB55.ext e93))) ?_;replace h:=Qg h;obtain ⟨r218,hr219,h⟩:=h;refine Qk rfl (Qx Try.func87 Qdu rfl (Ya rfl rfl rfl) (Qvs 4 ((pt b79) :: (pt b37) :: L) _ (QZ (QZ (hL.chg e94) (hB55.ext e93)) hB83) [v24,v26,v28] (feed_net.mk (FeedNet.mk r20.1.FeedNet.Stations r20.1.FeedNet.Sections r20.1.FeedNet.Trains)) ⟨v24,v26,v28,h90,h91,h92,rfl⟩ (.slice none 0 0) [] (SlRd.nil _ _) 0 r218 hr219) ?_);rintro _ wd220 ⟨he221,cs224,rfl,hrd225⟩;obtain ⟨v222,h223,rfl⟩:=hrd225;refine Qk rfl (QT (vs:=[v222,(Iv r218.delay),(.bool r218.found)]) Z8 rfl rfl rfl rfl (hB83.ext he221) rfl (Qe h223.one1 (Qe rfl (Qe rfl QG))) rfl ?_);intro wd229 hc230 hB231;refine Qb ?_;replace h:=Qi h;subst h;refine hK216 _ _ ?_;exact ⟨r218.at_,r218.delay,r218.found,v222,rfl,rfl,rfl,((h90.ext he221).step (Qf hc230 Ql)),((h91.ext he221).step (Qf hc230 Ql)),((h92.ext he221).step (Qf hc230 Ql)),(h223.step (Qf hc230 Ql)),((hB55.ext (e93.trans he221)).chg hc230 (QA hn85)),hB231,(QO (e94.trans he221) hc230 hbf86)⟩
    ·replace h:=Qz hb217 h;refine Qd<|Qa (pt b37) (Qp 0 Try.underlying149 rfl rfl ⟨2,Xu⟩ rfl rfl)<|Qa (ptk b37 2) (Qp 2 Try.underlying26 rfl rfl ⟨0,X3⟩ rfl rfl)<|Qa v28 (Qq X9 rfl (At.drop (Box.at (hB55.ext e93)) 2)) ?_;replace h:=Qg h;obtain ⟨el243,hel244,h⟩:=h;have hq:=SlRd.at h92 hel244;obtain ⟨cs247,hat248,hrd249⟩:=hq;obtain ⟨v245,h246,rfl⟩:=hrd249;refine Qa (.pointer (some (QD v28 (0 : Int).toNat 4))) (Q7 Try.underlying24 Ye h92 hel244 rfl rfl)<|Qa (AgV [(.string el243.Name),(Iv el243.Earliest),(Iv el243.Latest),v245]) (QI (cs:=[(.string el243.Name),(Iv el243.Earliest),(Iv el243.Latest),v245]) ZB rfl hat248)<|Qk rfl (Q9 Qaj ?_);intro b252 wd253 hb254 he255 hB256;have hn259:=QR hB83 hb254;have h267:=h246.step (Qm he255 hb254);refine Qk rfl (QT (vs:=[(.string el243.Name),(Iv el243.Earliest),(Iv el243.Latest),v245]) Ye rfl rfl rfl rfl hB256 rfl (Qe rfl (Qe rfl (Qe rfl (Qe h267.one1 QG)))) rfl ?_);intro wd271 hc272 hB273;have h278:=(h90.step (Qm he255 hb254)).step (Qf hc272 Ql);have h279:=(h91.step (Qm he255 hb254)).step (Qf hc272 Ql);have h280:=(h92.step (Qm he255 hb254)).step (Qf hc272 Ql);have h281:=(hB55.ext (e93.trans he255)).chg hc272 (QA (QR (hB55.ext e93) hb254));have h282:=(hB83.ext he255).chg hc272 (QA hn259);have e284:=QO (e94.trans he255) hc272 (Xa e94 hb254);refine Qb ?_;replace h:=Qg h;obtain ⟨r285,hr286,h⟩:=h;refine QOj (L:=((pt b252) :: (pt b79) :: (pt b37) :: L)) (b5:=b37) (b8:=b79) (b9:=b252) (net:=(feed_net.mk (FeedNet.mk r20.1.FeedNet.Stations r20.1.FeedNet.Sections r20.1.FeedNet.Trains))) (t:=el243) (v1:=v24) (v3:=v26) (v5:=v28) (v:=v245) (QZ (QZ (QZ (hL.chg e284) h281) h282) hB273) Q1 hn85.symm hn259 rfl rfl rfl h281 hB273 h282 ⟨v24,v26,v28,h278,h279,h280,rfl⟩ (h267.step (Qf hc272 Ql)) hr286 ?_;intro ρ wd287 v288 hp289 hc290 h291 hB292;have hs293 : ρ 0 = (AgV [v1,v3,v5]):=(hp289 0 (by decide)).trans rfl;have hs294 : ρ 1 = (pt b11):=(hp289 1 (by decide)).trans rfl;have hs295 : ρ 2 = (.slice none 0 0):=(hp289 2 (by decide)).trans rfl;have hs296 : ρ 3 = (Iv 0):=(hp289 3 (by decide)).trans rfl;have hs297 : ρ 4 = (Iv 0):=(hp289 4 (by decide)).trans rfl;have hs298 : ρ 5 = (pt b37):=(hp289 5 (by decide)).trans rfl;have hs299 : ρ 6 = (Iv r20.2):=(hp289 6 (by decide)).trans rfl;have hs300 : ρ 7 = (Iv r70):=(hp289 7 (by decide)).trans rfl;have hs301 : ρ 8 = (pt b79):=(hp289 8 (by decide)).trans rfl;have hs302 : ρ 9 = (pt b252):=(hp289 9 (by decide)).trans rfl;replace h:=Qi h;subst h;refine hK216 _ _ ?_;exact ⟨r285.at_,r285.delay,r285.found,v288,rfl,hs298,hs301,((h278.step (Qf hc290 Q1)).sub Qae),((h279.step (Qf hc290 Q1)).sub Qae),((h280.step (Qf hc290 Q1)).sub Qae),(h291.sub Qae),(h281.chg hc290 (QA hn85)),hB292,(QO e284 hc290 hbf86)⟩
   ·clear hK68;rintro ρ wd196 ⟨x205,x209,x210,v206,rfl,hs198,hs199,h200,h201,h202,h208,hB204,hB212,e197⟩;replace h:=hn215;refine hK96 _ _<|Qn fun K315 hK315=>Qd<|Qa (ptk b79 2) (Qp 2 Try.underlying154 rfl rfl ⟨0,sz4⟩ hs199 rfl)<|Qa (.bool x210) (Qq sc4 rfl (At.drop (Box.at hB212) 2))<|Qa (.bool (!x210)) (X7 rfl)<|Qb<|Qw (b:=(!x210)) rfl (fun hb317=>?_) (fun hb317=>?_)
    ·clear hK315 hK96;replace h:=Qs hb317 h;refine Qd<|Qj (.slice none 0 0) rfl<|Qj (Iv 0) rfl<|Qj (Iv 12) rfl<|Qb<|Qu ?_;replace h:=Qi h;subst h;exact ⟨[(.slice none 0 0),(Iv 0),(Iv 12)],⟨rfl,rfl,rfl,trivial⟩,e197,(.slice none 0 0),rfl,(SlRd.nil _ _)⟩
    ·clear hK96;replace h:=Qz hb317 h;refine Qy<|hK315 _ _<|QJ (.slice none 0 0) rfl<|Qn fun K320 hK320=>Qd<|Qa (pt b79) (Qp 0 Try.underlying154 rfl rfl ⟨0,ZV⟩ hs199 rfl)<|Qa v206 (Qq Jq rfl (Box.at hB212))<|Qa (Iv (x205.length : Int)) (QU rfl Try.underlying52 h208 rfl)<|Qc (Iv 0) rfl<|Qb ?_;have h568 : Own 62 ((.slice none 0 0) :: (pt b79) :: (pt b37) :: L) wd196 (.slice none 0 0) ([] : List FeedDeparture):=Own.nil _ _ _;replace h:=Qg h;obtain ⟨o584,hl585,hn586⟩:=h;refine Xc (fun (ρ : Env) (wd570 : World)=>∃ (x575 : (List FeedDeparture)) (v574 : Value),x575 = o584∧ρ 8 = (pt b79)∧ρ 13 = v574∧SlRd (v574 :: (pt b79) :: L) wd570 v206 x205∧Box wd570 b79 [v206,(Iv x209),(.bool x210)] 154∧Own 62 (v574 :: (pt b79) :: L) wd570 v574 x575∧(∀ b,Qh v574 = some b → w.heap.size ≤ b)∧(Qh v574 ≠ some b79)∧Ext w wd570) ?_ ?_
     ·clear hK315 hK320;intro K590 hK590;refine QM<|Xj (fun sv ρ wd538=>∃ (x544 : (List FeedDeparture)) (x552 : Int) (v543 : Value),(x544,x552) = sv∧ρ 5 = (pt b37)∧ρ 8 = (pt b79)∧ρ 13 = v543∧ρ 71 = v206∧ρ 72 = (Iv (x205.length : Int))∧ρ 73 = (Iv x552)∧SlRd (v543 :: (pt b79) :: (pt b37) :: L) wd538 v206 x205∧SlRd (v543 :: (pt b79) :: (pt b37) :: L) wd538 v24 r20.1.FeedNet.Stations∧SlRd (v543 :: (pt b79) :: (pt b37) :: L) wd538 v26 r20.1.FeedNet.Sections∧SlRd (v543 :: (pt b79) :: (pt b37) :: L) wd538 v28 r20.1.FeedNet.Trains∧Box wd538 b37 [v24,v26,v28] 149∧Box wd538 b79 [v206,(Iv x209),(.bool x210)] 154∧Own 62 (v543 :: (pt b79) :: (pt b37) :: L) wd538 v543 x544∧(∀ b,Qh v543 = some b → w.heap.size ≤ b)∧(Qh v543 ≠ some b37)∧(Qh v543 ≠ some b79)∧Ext w wd538) hl585 ⟨([] : List FeedDeparture),0,(.slice none 0 0),rfl,hs198,hs199,rfl,rfl,rfl,rfl,(h208.step (XT _)),(h200.step (XT _)),(h201.step (XT _)),(h202.step (XT _)),hB204,hB212,h568,(fun b h=>ZN b h),(fun h=>by cases h),(fun h=>by cases h),e197⟩ ?_;rintro _ ρ wd538 ⟨x544,x552,v543,rfl,hs540,hs541,hs548,hs550,hs551,hs553,h549,h554,h555,h556,hB558,hB560,h546,hf547,hn561,hn562,e539⟩ x587 h hx588 K589 hK589;refine Qd<|Qa (.bool (decide (x552 < (x205.length : Int)))) (Xe hs553 hs551)<|Qb<|Qn fun K593 hK593=>Qw (b:=(decide (x552 < (x205.length : Int)))) rfl (fun hb594=>?_) (fun hb594=>?_)
      ·clear hK590;replace h:=Qs hb594 h;refine Qy<|hK593 _ _<|Qn fun K595 hK595=>QM<|Qd<|Qc (Iv x552) hs553 ?_;replace h:=Qg h;obtain ⟨el597,hel598,h⟩:=h;have hq:=SlRd.at h549 hel598;obtain ⟨cs599,hat600,hrd601⟩:=hq;have hrd601 : cs599 = [(Iv el597)]:=hrd601;subst hrd601;refine Qa (.pointer (some (QD v206 (x552 : Int).toNat 1))) (Q7 Try.underlying52 QH h549 hel598 hs550 hs553)<|Qa (Iv el597) (Qq QN rfl hat600)<|Qj (Iv x552) rfl<|Qj (Iv el597) rfl<|Qb<|QK<|Qc v543 hs548<|Qa (pt b37) (Qp 0 Try.underlying149 rfl rfl ⟨2,Xu⟩ hs540 rfl)<|Qa (ptk b37 2) (Qp 2 Try.underlying26 rfl rfl ⟨0,X3⟩ rfl rfl)<|Qa v28 (Qq X9 rfl (At.drop (Box.at hB558) 2))<|Qc (Iv x552) rfl ?_;replace h:=Qg h;obtain ⟨el603,hel604,h⟩:=h;have hq:=SlRd.at h556 hel604;obtain ⟨cs607,hat608,hrd609⟩:=hq;obtain ⟨v605,h606,rfl⟩:=hrd609;refine Qa (.pointer (some (QD v28 (x552 : Int).toNat 4))) (Q7 Try.underlying24 Ye h556 hel604 rfl rfl)<|Qa (.pointer (some (QD v28 (x552 : Int).toNat 4))) (Qp 0 Try.underlying127 rfl rfl ⟨0,YP⟩ rfl rfl)<|Qa (.string el603.Name) (Qq YJ rfl hat608)<|Qc (Iv el597) rfl<|Qa (AgV [(.string el603.Name),(Iv el597)]) (Xq (cells:=[(.string el603.Name),(Iv el597)]) Qcz (QB rfl rfl (QB rfl rfl QV)) rfl)<|Qk rfl (XA (xs:=([(FeedDeparture.mk el603.Name el597)] : List FeedDeparture)) (cells:=[(.string el603.Name),(Iv el597)]) Try.underlying29 Qby rfl (QB rfl rfl QV) rfl (Elems.cons (cs:=[(.string el603.Name),(Iv el597)]) rfl Elems.nil) rfl (XF (QZ (QZ (hL.chg e539) hB558) hB560) h546) ?_);intro b615 wd612 he613 h614;have e616:=e539.trans he613;replace h:=Qg h;obtain ⟨zs618,hz619,h⟩:=h;refine Qk rfl (Y9 Try.underlying29 Qby rfl rfl rfl rfl (h546.ext he613) h614 hz619 ?_);intro v620 wd621 hc622 hbl623 h624;have hn626 : Qh v620 ≠ some b37:=Q4 hbl623 hn561 (hB558.ext he613);have hn627 : Qh v620 ≠ some b79:=Q4 hbl623 hn562 (hB560.ext he613);refine Qj v620 rfl<|Qb<|hK595 _ _<|QK<|Qa (Iv (w64 (x552 + 1))) (QY hs553 rfl)<|Qc (Iv (w64 (x552 + 1))) rfl<|Qb ?_;replace h:=Qi h;subst h;refine hK589 _ _ _ rfl ?_;exact ⟨zs618,w64 (x552 + 1),v620,rfl,hs540,hs541,rfl,hs550,hs551,rfl,((h549.ext he613).step (Stepp.swap hc622 hbl623)),((h554.ext he613).step (Stepp.swap hc622 hbl623)),((h555.ext he613).step (Stepp.swap hc622 hbl623)),((h556.ext he613).step (Stepp.swap hc622 hbl623)),((hB558.ext he613).chg hc622 (QS hn561)),((hB560.ext he613).chg hc622 (QS hn562)),h624,(Xv hbl623 hf547 e616.size),hn626,hn627,(Xo e616 hc622 hf547)⟩
      ·clear hK589 hK593;replace h:=Qz hb594 h;refine Xi ?_;replace h:=Qi h;subst h;have ho:=hx588 _ rfl;subst ho;refine hK590 _ _ ?_;exact ⟨x544,v543,rfl,hs541,hs548,(h549.sub (Q5 Ql (Q5 Q1 Qau))),hB560,(h546.sub (Q5 Ql (Q5 Q1 Qau))),hf547,hn562,e539⟩
     ·clear hK315;rintro ρ wd570 ⟨x575,v574,rfl,hs572,hs579,h580,hB582,h577,hf578,hn583,e571⟩;replace h:=hn586;refine hK320 _ _<|Qn fun K639 hK639=>XW XM (.p 0 (.p 1 (.p 3 (.q 2 (.p 4 (.p 5 .done)))))) (by kernel_rfl) rfl ?_;intro wd640 he641;refine Qo (v:=v574) rfl rfl (fun w'=>(QF hs579))<|Qo (v:=(ptk b79 1)) rfl rfl (fun w'=>(Qp 1 Try.underlying154 rfl rfl ⟨0,QH⟩ hs572 rfl))<|Qo (v:=v574) rfl rfl (fun w'=>(X6 rfl))<|Q6 (v:=(Iv x209)) rfl rfl (fun w' hS=>(Qq QN rfl (At.drop (Box.at (hB582.ext (he641.trans hS))) 1)))<|Qo (v:=(Iv x209)) rfl rfl (fun w'=>(X6 rfl))<|Qo (v:=(Iv 0)) rfl rfl (fun w'=>(X6 rfl))<|Xn<|hK639 _ _<|Qu ?_;replace h:=Qi h;subst h;exact ⟨[v574,(Iv x209),(Iv 0)],⟨rfl,rfl,rfl,trivial⟩,(e571.trans he641),v574,rfl,((h577.ext he641).rdL YT hL hf578)⟩

noncomputable def QVj : Option Bool:=(Option.bind (Qbg 2900) fun r3=>(Option.bind (Qiu r3) fun r19=>(Option.bind (Qbg 3000) fun r28=>(Option.bind (Qiv r28 ([(FeedDeparture.mk (ByteArray.mk #[120]) 0)] : List FeedDeparture) (Range.mk 0 1)) fun r53=>(Option.bind (bif ((decide (r19.2.2 = 0)) && (decide (r19.2.1 = 1))) then Qko r19.1 ([(FeedDeparture.mk (ByteArray.mk #[120]) 0),(FeedDeparture.mk (ByteArray.mk #[121]) 1)] : List FeedDeparture) else some default) fun r99=>some ((((((decide (r19.2.2 = 0)) && (decide (r19.2.1 = 1))) && r99) && (decide (r53.2 = 0))) && (decide (r53.1.Fed = 2200000000))) && (decide (r53.1.Back = 500000000))) ) ) ) ) )
noncomputable def Qjn : Option Bool:=(Option.bind (Qbg 3000) fun r10=>(Option.bind (Qno r10 ([(FeedDeparture.mk (ByteArray.mk #[120]) 0)] : List FeedDeparture) 0) fun r26=>(Option.bind (Qbg 2900) fun r36=>(Option.bind (Qiu r36) fun r54=>(Option.bind (Qbg 3000) fun r66=>(Option.bind (Qiv r66 ([(FeedDeparture.mk (ByteArray.mk #[120]) 0)] : List FeedDeparture) (Range.mk 0 1)) fun r86=>(Option.bind (Qbg 2900) fun r135=>(Option.bind (Qnn r135 ([(FeedDeparture.mk (ByteArray.mk #[120]) 0),(FeedDeparture.mk (ByteArray.mk #[121]) 0)] : List FeedDeparture)) fun r158=>(Option.bind (Qnm (FeedLadder.mk ([1,2,3] : List Int) ([6,12] : List Int))) fun r188=>(Option.bind (bif (decide (r26.2 = 0)) then Qib r26.1 ([1320000000,880000000] : List Int) else some default) fun r215=>(Option.bind (bif ((((decide (r26.2 = 0)) && r215) && (decide (r54.2.2 = 0))) && (decide (r54.2.1 = 1))) then Qko r54.1 ([(FeedDeparture.mk (ByteArray.mk #[120]) 0),(FeedDeparture.mk (ByteArray.mk #[121]) 1)] : List FeedDeparture) else some default) fun r242=>(Option.bind (bif ((((((((decide (r26.2 = 0)) && r215) && (decide (r54.2.2 = 0))) && (decide (r54.2.1 = 1))) && r242) && (decide (r86.2 = 0))) && (decide ((FeedBook.mk r86.1.Fed r86.1.Used r86.1.Braked r86.1.Lost r86.1.Back r86.1.Burned) = (FeedBook.mk 2200000000 2000000000 500000000 200000000 500000000 0)))) && (decide (r158.2 = 0))) then Qib r158.1 ([0,1] : List Int) else some default) fun r271=>(Option.bind (bif ((((((((((decide (r26.2 = 0)) && r215) && (decide (r54.2.2 = 0))) && (decide (r54.2.1 = 1))) && r242) && (decide (r86.2 = 0))) && (decide ((FeedBook.mk r86.1.Fed r86.1.Used r86.1.Braked r86.1.Lost r86.1.Back r86.1.Burned) = (FeedBook.mk 2200000000 2000000000 500000000 200000000 500000000 0)))) && (decide (r158.2 = 0))) && r271) && (decide (r188.2 = 0))) then Qex 11 else some default) fun r285=>(Option.bind (bif ((((((((((decide (r26.2 = 0)) && r215) && (decide (r54.2.2 = 0))) && (decide (r54.2.1 = 1))) && r242) && (decide (r86.2 = 0))) && (decide ((FeedBook.mk r86.1.Fed r86.1.Used r86.1.Braked r86.1.Lost r86.1.Back r86.1.Burned) = (FeedBook.mk 2200000000 2000000000 500000000 200000000 500000000 0)))) && (decide (r158.2 = 0))) && r271) && (decide (r188.2 = 0))) then Qex 5 else some default) fun r302=>(Option.bind (bif ((((((((((decide (r26.2 = 0)) && r215) && (decide (r54.2.2 = 0))) && (decide (r54.2.1 = 1))) && r242) && (decide (r86.2 = 0))) && (decide ((FeedBook.mk r86.1.Fed r86.1.Used r86.1.Braked r86.1.Lost r86.1.Back r86.1.Burned) = (FeedBook.mk 2200000000 2000000000 500000000 200000000 500000000 0)))) && (decide (r158.2 = 0))) && r271) && (decide (r188.2 = 0))) then Qex (-7) else some default) fun r319=>(Option.bind (bif ((((((((((decide (r26.2 = 0)) && r215) && (decide (r54.2.2 = 0))) && (decide (r54.2.1 = 1))) && r242) && (decide (r86.2 = 0))) && (decide ((FeedBook.mk r86.1.Fed r86.1.Used r86.1.Braked r86.1.Lost r86.1.Back r86.1.Burned) = (FeedBook.mk 2200000000 2000000000 500000000 200000000 500000000 0)))) && (decide (r158.2 = 0))) && r271) && (decide (r188.2 = 0))) then Qms r188.1 ([r285,r302,r319] : List Frac) else some default) fun r353=>some (((((((((((decide (r26.2 = 0)) && r215) && (decide (r54.2.2 = 0))) && (decide (r54.2.1 = 1))) && r242) && (decide (r86.2 = 0))) && (decide ((FeedBook.mk r86.1.Fed r86.1.Used r86.1.Braked r86.1.Lost r86.1.Back r86.1.Burned) = (FeedBook.mk 2200000000 2000000000 500000000 200000000 500000000 0)))) && (decide (r158.2 = 0))) && r271) && (decide (r188.2 = 0))) && r353) ) ) ) ) ) ) ) ) ) ) ) ) ) ) ) )
theorem QKs (L : List Value) (w : World) (hL : LtL L w) (r : Bool) (h : Qjn = some r) : CallsTo Try.prog 19 [] w (fun v w'=>Ext w w'∧(.bool r) = v):=by
 have e0:=Q0 w;refine Q3 (n:=101) (rs:=[.tmp 0]) Try.func19 rfl rfl rfl rfl rfl<|QJ (.bool false) rfl<|Qd<|Qa (AgV [(.string (ByteArray.mk #[120])),(Iv 0)]) (Xq (cells:=[(.string (ByteArray.mk #[120])),(Iv 0)]) Qcz (QB rfl rfl QV) rfl)<|Qk rfl (XA (xs:=([(FeedDeparture.mk (ByteArray.mk #[120]) 0)] : List FeedDeparture)) (cells:=[(.string (ByteArray.mk #[120])),(Iv 0)]) Try.underlying29 Qby rfl (QB rfl rfl QV) rfl (Elems.cons (cs:=[(.string (ByteArray.mk #[120])),(Iv 0)]) rfl Elems.nil) rfl (hL.chg e0) ?_);intro b6 wd3 he4 h5;have e7:=e0.trans he4;refine Qj (.slice (some ⟨b6,0,none⟩) 1 1) rfl<|Qb<|Qd ?_;replace h:=Qg h;obtain ⟨r10,hr11,h⟩:=h;refine Qk rfl (Qx Try.func83 Qjv rfl (Xl rfl) (Qjm L _ (hL.chg e7) 3000 r10 hr11) ?_);rintro _ wd12 ⟨he13,cs20,rfl,hrd21⟩;have e22:=e7.trans he13;obtain ⟨v14,v16,v18,h15,h17,h19,rfl⟩:=hrd21;refine Qc (.slice (some ⟨b6,0,none⟩) 1 1) rfl ?_;replace h:=Qg h;obtain ⟨r26,hr27,h⟩:=h;refine Qk rfl (Qx Try.func41 QNc rfl (Ya rfl rfl rfl) (QHx L _ (hL.chg e22) [v14,v16,v18] r10 ⟨v14,v16,v18,h15,h17,h19,rfl⟩ (.slice (some ⟨b6,0,none⟩) 1 1) ([(FeedDeparture.mk (ByteArray.mk #[120]) 0)] : List FeedDeparture) (h5.ext he13) 0 r26 hr27) ?_);rintro _ wd28 ⟨he29,v30,rfl,h31⟩;have e33:=e22.trans he29;refine Qc (.tuple #[v30,(Iv r26.2)]) rfl<|Qa v30 (Xm rfl rfl)<|Qa (Iv r26.2) (Xm rfl rfl)<|Qj v30 rfl<|Qj (Iv r26.2) rfl<|Qb<|Qd ?_;replace h:=Qg h;obtain ⟨r36,hr37,h⟩:=h;refine Qk rfl (Qx Try.func83 Qjv rfl (Xl rfl) (Qjm L _ (hL.chg e33) 2900 r36 hr37) ?_);rintro _ wd38 ⟨he39,cs46,rfl,hrd47⟩;have e50:=e33.trans he39;obtain ⟨v40,v42,v44,h41,h43,h45,rfl⟩:=hrd47;replace h:=Qg h;obtain ⟨r54,hr55,h⟩:=h;refine Qk rfl (Qx Try.func22 QMt rfl (Xl rfl) (QHe L _ (hL.chg e50) [v40,v42,v44] r36 ⟨v40,v42,v44,h41,h43,h45,rfl⟩ r54 hr55) ?_);rintro _ wd56 ⟨he57,v58,rfl,h59⟩;have e63:=e50.trans he57;refine Qc (.tuple #[v58,(Iv r54.2.1),(Iv r54.2.2)]) rfl<|Qa v58 (Xm rfl rfl)<|Qa (Iv r54.2.1) (Xm rfl rfl)<|Qa (Iv r54.2.2) (Xm rfl rfl)<|Qj v58 rfl<|Qj (Iv r54.2.1) rfl<|Qj (Iv r54.2.2) rfl<|Qb<|Qd ?_;replace h:=Qg h;obtain ⟨r66,hr67,h⟩:=h;refine Qk rfl (Qx Try.func83 Qjv rfl (Xl rfl) (Qjm L _ (hL.chg e63) 3000 r66 hr67) ?_);rintro _ wd68 ⟨he69,cs76,rfl,hrd77⟩;obtain ⟨v70,v72,v74,h71,h73,h75,rfl⟩:=hrd77;refine Qc (.slice (some ⟨b6,0,none⟩) 1 1) rfl<|Qa (AgV [(Iv 0),(Iv 1)]) (Xq (cells:=[(Iv 0),(Iv 1)]) QDl (QB rfl rfl QV) rfl) ?_;replace h:=Qg h;obtain ⟨r86,hr87,h⟩:=h;refine Qk rfl (Qx Try.func48 QNf rfl (Ya rfl rfl rfl) (QHh [] _ (LtL.nil _) [v70,v72,v74] r66 ⟨v70,v72,v74,(h71.sub (fun _ h=>by cases h)),(h73.sub (fun _ h=>by cases h)),(h75.sub (fun _ h=>by cases h)),rfl⟩ (.slice (some ⟨b6,0,none⟩) 1 1) ([(FeedDeparture.mk (ByteArray.mk #[120]) 0)] : List FeedDeparture) ((h5.ext ((((he13.trans he29).trans he39).trans he57).trans he69)).sub (fun _ h=>by cases h)) [(Iv 0),(Iv 1)] (Range.mk 0 1) rfl r86 hr87) ?_);rintro _ wd88 ⟨he89,cs90,rfl,hrd91⟩;have e97:=(e63.trans he69).trans he89;have hrd91 : cs90 = [(Iv r86.1.Fed),(Iv r86.1.Used),(Iv r86.1.Braked),(Iv r86.1.Lost),(Iv r86.1.Back),(Iv r86.1.Burned)]:=hrd91;subst hrd91;refine Qc (.tuple #[(AgV [(Iv r86.1.Fed),(Iv r86.1.Used),(Iv r86.1.Braked),(Iv r86.1.Lost),(Iv r86.1.Back),(Iv r86.1.Burned)]),(Iv r86.2)]) rfl<|Qa (AgV [(Iv r86.1.Fed),(Iv r86.1.Used),(Iv r86.1.Braked),(Iv r86.1.Lost),(Iv r86.1.Back),(Iv r86.1.Burned)]) (Xm rfl rfl)<|Qa (Iv r86.2) (Xm rfl rfl)<|Qk rfl (Q9 Qrm ?_);intro b98 wd99 hb100 he101 hB102;refine Qk rfl (QT (vs:=[(Iv r86.1.Fed),(Iv r86.1.Used),(Iv r86.1.Braked),(Iv r86.1.Lost),(Iv r86.1.Back),(Iv r86.1.Burned)]) Qrd rfl rfl rfl rfl hB102 rfl (Qe rfl (Qe rfl (Qe rfl (Qe rfl (Qe rfl (Qe rfl QG)))))) rfl ?_);intro wd118 hc119 hB120;have e133:=QO (e97.trans he101) hc119 (Xa e97 hb100);refine Qj (Iv r86.2) rfl<|Qb<|Qd ?_;replace h:=Qg h;obtain ⟨r135,hr136,h⟩:=h;refine Qk rfl (Qx Try.func83 Qjv rfl (Xl rfl) (Qjm ((pt b98) :: L) _ (QZ (hL.chg e133) hB120) 2900 r135 hr136) ?_);rintro _ wd137 ⟨he138,cs145,rfl,hrd146⟩;have e147:=e133.trans he138;obtain ⟨v139,v141,v143,h140,h142,h144,rfl⟩:=hrd146;refine Qa (AgV [(.string (ByteArray.mk #[120])),(Iv 0)]) (Xq (cells:=[(.string (ByteArray.mk #[120])),(Iv 0)]) Qcz (QB rfl rfl QV) rfl)<|Qa (AgV [(.string (ByteArray.mk #[121])),(Iv 0)]) (Xq (cells:=[(.string (ByteArray.mk #[121])),(Iv 0)]) Qcz (QB rfl rfl QV) rfl)<|Qk rfl (XA (xs:=([(FeedDeparture.mk (ByteArray.mk #[120]) 0),(FeedDeparture.mk (ByteArray.mk #[121]) 0)] : List FeedDeparture)) (cells:=[(.string (ByteArray.mk #[120])),(Iv 0),(.string (ByteArray.mk #[121])),(Iv 0)]) Try.underlying29 Qby rfl (QB rfl rfl (QB rfl rfl QV)) rfl (Elems.cons (cs:=[(.string (ByteArray.mk #[120])),(Iv 0)]) rfl (Elems.cons (cs:=[(.string (ByteArray.mk #[121])),(Iv 0)]) rfl Elems.nil)) rfl (QZ (hL.chg e147) (hB120.ext he138)) ?_);intro b154 wd151 he152 h153;have e155:=he138.trans he152;have e156:=e147.trans he152;replace h:=Qg h;obtain ⟨r158,hr159,h⟩:=h;refine Qk rfl (Qx Try.func35 QNa rfl (QX rfl rfl) (QHv ((pt b98) :: L) _ (QZ (hL.chg e156) (hB120.ext e155)) [v139,v141,v143] r135 ⟨v139,v141,v143,(h140.ext he152),(h142.ext he152),(h144.ext he152),rfl⟩ (.slice (some ⟨b154,0,none⟩) 2 2) ([(FeedDeparture.mk (ByteArray.mk #[120]) 0),(FeedDeparture.mk (ByteArray.mk #[121]) 0)] : List FeedDeparture) h153 r158 hr159) ?_);rintro _ wd160 ⟨he161,v162,rfl,h163⟩;have e164:=e155.trans he161;have e166:=e156.trans he161;refine Qc (.tuple #[v162,(Iv r158.2)]) rfl<|Qa v162 (Xm rfl rfl)<|Qa (Iv r158.2) (Xm rfl rfl)<|Qj v162 rfl<|Qj (Iv r158.2) rfl<|Qb<|Qd<|Qk rfl (XA (xs:=([1,2,3] : List Int)) (cells:=[(Iv 1),(Iv 2),(Iv 3)]) Try.underlying52 Yw rfl (QB rfl rfl (QB rfl rfl (QB rfl rfl QV))) rfl (Elems.cons (cs:=[(Iv 1)]) rfl (Elems.cons (cs:=[(Iv 2)]) rfl (Elems.cons (cs:=[(Iv 3)]) rfl Elems.nil))) rfl (QZ (hL.chg e166) (hB120.ext e164)) ?_);intro b172 wd169 he170 h171;have e173:=e164.trans he170;have e176:=e166.trans he170;refine Qk rfl (XA (xs:=([6,12] : List Int)) (cells:=[(Iv 6),(Iv 12)]) Try.underlying52 Yw rfl (QB rfl rfl (QB rfl rfl QV)) rfl (Elems.cons (cs:=[(Iv 6)]) rfl (Elems.cons (cs:=[(Iv 12)]) rfl Elems.nil)) rfl (QZ (hL.chg e176) (hB120.ext e173)) ?_);intro b181 wd178 he179 h180;have e182:=e173.trans he179;have e186:=e176.trans he179;refine Qa (AgV [(.slice (some ⟨b172,0,none⟩) 3 3),(.slice (some ⟨b181,0,none⟩) 2 2)]) (Xq (cells:=[(.slice (some ⟨b172,0,none⟩) 3 3),(.slice (some ⟨b181,0,none⟩) 2 2)]) QDm (QB rfl (XO h171.one1) (QB rfl (XO h180.one1) QV)) rfl) ?_;replace h:=Qg h;obtain ⟨r188,hr189,h⟩:=h;refine Qk rfl (Qx Try.func54 QNg rfl (Xl rfl) (QHt ((pt b98) :: L) _ (QZ (hL.chg e186) (hB120.ext e182)) [(.slice (some ⟨b172,0,none⟩) 3 3),(.slice (some ⟨b181,0,none⟩) 2 2)] (FeedLadder.mk ([1,2,3] : List Int) ([6,12] : List Int)) ⟨(.slice (some ⟨b172,0,none⟩) 3 3),(.slice (some ⟨b181,0,none⟩) 2 2),(h171.ext he179),h180,rfl⟩ r188 hr189) ?_);rintro _ wd190 ⟨he191,v192,rfl,h193⟩;have e194:=e182.trans he191;have e199:=e186.trans he191;refine Qc (.tuple #[v192,(Iv r188.2)]) rfl<|Qa v192 (Xm rfl rfl)<|Qa (Iv r188.2) (Xm rfl rfl)<|Qj v192 rfl<|Qj (Iv r188.2) rfl<|Qb<|Qd<|Qc (Iv r26.2) rfl<|Qa (.bool (decide (r26.2 = 0))) (X4 rfl rfl)<|Qc (.bool (decide (r26.2 = 0))) rfl<|Qt (v:=v30) (decide (r26.2 = 0)) (QQ rfl rfl rfl rfl) (fun hg=>(QF rfl))<|Qhs (fun v w'=>SlRd ((pt b98) :: L) w' v ([1320000000,880000000] : List Int)) (decide (r26.2 = 0)) (QQ rfl rfl rfl rfl) (fun hg=>XA (xs:=([1320000000,880000000] : List Int)) (cells:=[(Iv 1320000000),(Iv 880000000)]) Try.underlying52 Yw rfl (QB rfl rfl (QB rfl rfl QV)) rfl (Elems.cons (cs:=[(Iv 1320000000)]) rfl (Elems.cons (cs:=[(Iv 880000000)]) rfl Elems.nil)) rfl (QZ (hL.chg e199) (hB120.ext e194)) (fun _ _ he h1=>⟨he,h1⟩)) ?_;intro v202 wd203 he204 h205;have e206:=e194.trans he204;replace h:=Qg h;obtain ⟨r215,hr216,h⟩:=h;refine ZX (decide (r26.2 = 0)) (.bool r215) (QQ rfl rfl rfl rfl) (fun hg=>Qx Try.func39 Qyg rfl (QX (Qr hg) (Qr hg)) (Qsb [] _ (LtL.nil _) v30 r26.1 (((((h31.ext (((he39.trans he57).trans he69).trans he89)).step (Qm he101 hb100)).step (Qf hc119 Ql)).ext e206).sub (fun _ h=>by cases h)) v202 ([1320000000,880000000] : List Int) ((h205 hg).sub (fun _ h=>by cases h)) r215 (Qs hg hr216)) (by rintro _ wd217 ⟨he218,rfl⟩;exact ⟨rfl,he218⟩)) ?_;intro wd217 he218;have e219:=e206.trans he218;have e226:=(e199.trans he204).trans he218;refine Qa (.bool ((decide (r26.2 = 0)) && r215)) (XQ rfl (fun hb=>(Qr hb)) rfl)<|Qc (.bool ((decide (r26.2 = 0)) && r215)) rfl<|Qt (v:=(Iv r54.2.2)) ((decide (r26.2 = 0)) && r215) (QQ rfl rfl rfl rfl) (fun hg=>(QF rfl))<|Qt (v:=(.bool (decide (r54.2.2 = 0)))) ((decide (r26.2 = 0)) && r215) (QQ rfl rfl rfl rfl) (fun hg=>(X4 (Qr hg) rfl))<|Qa (.bool (((decide (r26.2 = 0)) && r215) && (decide (r54.2.2 = 0)))) (XQ rfl (fun hb=>(Qr hb)) rfl)<|Qc (.bool (((decide (r26.2 = 0)) && r215) && (decide (r54.2.2 = 0)))) rfl<|Qt (v:=(Iv r54.2.1)) (((decide (r26.2 = 0)) && r215) && (decide (r54.2.2 = 0))) (QQ rfl rfl rfl rfl) (fun hg=>(QF rfl))<|Qt (v:=(.bool (decide (r54.2.1 = 1)))) (((decide (r26.2 = 0)) && r215) && (decide (r54.2.2 = 0))) (QQ rfl rfl rfl rfl) (fun hg=>(X4 (Qr hg) rfl))<|Qa (.bool ((((decide (r26.2 = 0)) && r215) && (decide (r54.2.2 = 0))) && (decide (r54.2.1 = 1)))) (XQ rfl (fun hb=>(Qr hb)) rfl)<|Qc (.bool ((((decide (r26.2 = 0)) && r215) && (decide (r54.2.2 = 0))) && (decide (r54.2.1 = 1)))) rfl<|Qt (v:=v58) ((((decide (r26.2 = 0)) && r215) && (decide (r54.2.2 = 0))) && (decide (r54.2.1 = 1))) (QQ rfl rfl rfl rfl) (fun hg=>(QF rfl))<|Qt (v:=(AgV [(.string (ByteArray.mk #[120])),(Iv 0)])) ((((decide (r26.2 = 0)) && r215) && (decide (r54.2.2 = 0))) && (decide (r54.2.1 = 1))) (QQ rfl rfl rfl rfl) (fun hg=>(Xq (cells:=[(.string (ByteArray.mk #[120])),(Iv 0)]) Qcz (QB rfl rfl QV) rfl))<|Qt (v:=(AgV [(.string (ByteArray.mk #[121])),(Iv 1)])) ((((decide (r26.2 = 0)) && r215) && (decide (r54.2.2 = 0))) && (decide (r54.2.1 = 1))) (QQ rfl rfl rfl rfl) (fun hg=>(Xq (cells:=[(.string (ByteArray.mk #[121])),(Iv 1)]) Qcz (QB rfl rfl (QB rfl rfl QV)) rfl))<|Qhs (fun v w'=>SlRd ((pt b98) :: L) w' v ([(FeedDeparture.mk (ByteArray.mk #[120]) 0),(FeedDeparture.mk (ByteArray.mk #[121]) 1)] : List FeedDeparture)) ((((decide (r26.2 = 0)) && r215) && (decide (r54.2.2 = 0))) && (decide (r54.2.1 = 1))) (QQ rfl rfl rfl rfl) (fun hg=>XA (xs:=([(FeedDeparture.mk (ByteArray.mk #[120]) 0),(FeedDeparture.mk (ByteArray.mk #[121]) 1)] : List FeedDeparture)) (cells:=[(.string (ByteArray.mk #[120])),(Iv 0),(.string (ByteArray.mk #[121])),(Iv 1)]) Try.underlying29 Qby rfl (QB (Qr hg) rfl (QB (Qr hg) rfl QV)) rfl (Elems.cons (cs:=[(.string (ByteArray.mk #[120])),(Iv 0)]) rfl (Elems.cons (cs:=[(.string (ByteArray.mk #[121])),(Iv 1)]) rfl Elems.nil)) rfl (QZ (hL.chg e226) (hB120.ext e219)) (fun _ _ he h1=>⟨he,h1⟩)) ?_;intro v227 wd228 he229 h230;have e231:=e219.trans he229;replace h:=Qg h;obtain ⟨r242,hr243,h⟩:=h;refine ZX ((((decide (r26.2 = 0)) && r215) && (decide (r54.2.2 = 0))) && (decide (r54.2.1 = 1))) (.bool r242) (QQ rfl rfl rfl rfl) (fun hg=>Qx Try.func27 QMu rfl (QX (Qr hg) (Qr hg)) (QPz [] _ (LtL.nil _) v58 r54.1 (((((h59.ext (he69.trans he89)).step (Qm he101 hb100)).step (Qf hc119 Ql)).ext e231).sub (fun _ h=>by cases h)) v227 ([(FeedDeparture.mk (ByteArray.mk #[120]) 0),(FeedDeparture.mk (ByteArray.mk #[121]) 1)] : List FeedDeparture) ((h230 hg).sub (fun _ h=>by cases h)) r242 (Qs hg hr243)) (by rintro _ wd244 ⟨he245,rfl⟩;exact ⟨rfl,he245⟩)) ?_;intro wd244 he245;have e246:=e231.trans he245;have e254:=(e226.trans he229).trans he245;refine Qa (.bool (((((decide (r26.2 = 0)) && r215) && (decide (r54.2.2 = 0))) && (decide (r54.2.1 = 1))) && r242)) (XQ rfl (fun hb=>(Qr hb)) rfl)<|Qc (.bool (((((decide (r26.2 = 0)) && r215) && (decide (r54.2.2 = 0))) && (decide (r54.2.1 = 1))) && r242)) rfl<|Qt (v:=(Iv r86.2)) (((((decide (r26.2 = 0)) && r215) && (decide (r54.2.2 = 0))) && (decide (r54.2.1 = 1))) && r242) (QQ rfl rfl rfl rfl) (fun hg=>(QF rfl))<|Qt (v:=(.bool (decide (r86.2 = 0)))) (((((decide (r26.2 = 0)) && r215) && (decide (r54.2.2 = 0))) && (decide (r54.2.1 = 1))) && r242) (QQ rfl rfl rfl rfl) (fun hg=>(X4 (Qr hg) rfl))<|Qa (.bool ((((((decide (r26.2 = 0)) && r215) && (decide (r54.2.2 = 0))) && (decide (r54.2.1 = 1))) && r242) && (decide (r86.2 = 0)))) (XQ rfl (fun hb=>(Qr hb)) rfl)<|Qc (.bool ((((((decide (r26.2 = 0)) && r215) && (decide (r54.2.2 = 0))) && (decide (r54.2.1 = 1))) && r242) && (decide (r86.2 = 0)))) rfl<|Qt (v:=(AgV [(Iv r86.1.Fed),(Iv r86.1.Used),(Iv r86.1.Braked),(Iv r86.1.Lost),(Iv r86.1.Back),(Iv r86.1.Burned)])) ((((((decide (r26.2 = 0)) && r215) && (decide (r54.2.2 = 0))) && (decide (r54.2.1 = 1))) && r242) && (decide (r86.2 = 0))) (QQ rfl rfl rfl rfl) (fun hg=>(QI (cs:=[(Iv r86.1.Fed),(Iv r86.1.Used),(Iv r86.1.Braked),(Iv r86.1.Lost),(Iv r86.1.Back),(Iv r86.1.Burned)]) Qhz rfl (Box.at (hB120.ext e246))))<|Qt (v:=(AgV [(Iv 2200000000),(Iv 2000000000),(Iv 500000000),(Iv 200000000),(Iv 500000000),(Iv 0)])) ((((((decide (r26.2 = 0)) && r215) && (decide (r54.2.2 = 0))) && (decide (r54.2.1 = 1))) && r242) && (decide (r86.2 = 0))) (QQ rfl rfl rfl rfl) (fun hg=>(Xq (cells:=[(Iv 2200000000),(Iv 2000000000),(Iv 500000000),(Iv 200000000),(Iv 500000000),(Iv 0)]) Qsj (QB rfl rfl (QB rfl rfl (QB rfl rfl (QB rfl rfl (QB rfl rfl QV))))) rfl))<|Qt (v:=(.bool (decide ((FeedBook.mk r86.1.Fed r86.1.Used r86.1.Braked r86.1.Lost r86.1.Back r86.1.Burned) = (FeedBook.mk 2200000000 2000000000 500000000 200000000 500000000 0))))) ((((((decide (r26.2 = 0)) && r215) && (decide (r54.2.2 = 0))) && (decide (r54.2.1 = 1))) && r242) && (decide (r86.2 = 0))) (QQ rfl rfl rfl rfl) (fun hg=>(QUr QEu (Qr hg) (Qr hg) (QFc (FeedBook.mk r86.1.Fed r86.1.Used r86.1.Braked r86.1.Lost r86.1.Back r86.1.Burned) (FeedBook.mk 2200000000 2000000000 500000000 200000000 500000000 0))))<|Qa (.bool (((((((decide (r26.2 = 0)) && r215) && (decide (r54.2.2 = 0))) && (decide (r54.2.1 = 1))) && r242) && (decide (r86.2 = 0))) && (decide ((FeedBook.mk r86.1.Fed r86.1.Used r86.1.Braked r86.1.Lost r86.1.Back r86.1.Burned) = (FeedBook.mk 2200000000 2000000000 500000000 200000000 500000000 0))))) (XQ rfl (fun hb=>(Qr hb)) rfl)<|Qc (.bool (((((((decide (r26.2 = 0)) && r215) && (decide (r54.2.2 = 0))) && (decide (r54.2.1 = 1))) && r242) && (decide (r86.2 = 0))) && (decide ((FeedBook.mk r86.1.Fed r86.1.Used r86.1.Braked r86.1.Lost r86.1.Back r86.1.Burned) = (FeedBook.mk 2200000000 2000000000 500000000 200000000 500000000 0))))) rfl<|Qt (v:=(Iv r158.2)) (((((((decide (r26.2 = 0)) && r215) && (decide (r54.2.2 = 0))) && (decide (r54.2.1 = 1))) && r242) && (decide (r86.2 = 0))) && (decide ((FeedBook.mk r86.1.Fed r86.1.Used r86.1.Braked r86.1.Lost r86.1.Back r86.1.Burned) = (FeedBook.mk 2200000000 2000000000 500000000 200000000 500000000 0)))) (QQ rfl rfl rfl rfl) (fun hg=>(QF rfl))<|Qt (v:=(.bool (decide (r158.2 = 0)))) (((((((decide (r26.2 = 0)) && r215) && (decide (r54.2.2 = 0))) && (decide (r54.2.1 = 1))) && r242) && (decide (r86.2 = 0))) && (decide ((FeedBook.mk r86.1.Fed r86.1.Used r86.1.Braked r86.1.Lost r86.1.Back r86.1.Burned) = (FeedBook.mk 2200000000 2000000000 500000000 200000000 500000000 0)))) (QQ rfl rfl rfl rfl) (fun hg=>(X4 (Qr hg) rfl))<|Qa (.bool ((((((((decide (r26.2 = 0)) && r215) && (decide (r54.2.2 = 0))) && (decide (r54.2.1 = 1))) && r242) && (decide (r86.2 = 0))) && (decide ((FeedBook.mk r86.1.Fed r86.1.Used r86.1.Braked r86.1.Lost r86.1.Back r86.1.Burned) = (FeedBook.mk 2200000000 2000000000 500000000 200000000 500000000 0)))) && (decide (r158.2 = 0)))) (XQ rfl (fun hb=>(Qr hb)) rfl)<|Qc (.bool ((((((((decide (r26.2 = 0)) && r215) && (decide (r54.2.2 = 0))) && (decide (r54.2.1 = 1))) && r242) && (decide (r86.2 = 0))) && (decide ((FeedBook.mk r86.1.Fed r86.1.Used r86.1.Braked r86.1.Lost r86.1.Back r86.1.Burned) = (FeedBook.mk 2200000000 2000000000 500000000 200000000 500000000 0)))) && (decide (r158.2 = 0)))) rfl<|Qt (v:=v162) ((((((((decide (r26.2 = 0)) && r215) && (decide (r54.2.2 = 0))) && (decide (r54.2.1 = 1))) && r242) && (decide (r86.2 = 0))) && (decide ((FeedBook.mk r86.1.Fed r86.1.Used r86.1.Braked r86.1.Lost r86.1.Back r86.1.Burned) = (FeedBook.mk 2200000000 2000000000 500000000 200000000 500000000 0)))) && (decide (r158.2 = 0))) (QQ rfl rfl rfl rfl) (fun hg=>(QF rfl))<|Qhs (fun v w'=>SlRd ((pt b98) :: L) w' v ([0,1] : List Int)) ((((((((decide (r26.2 = 0)) && r215) && (decide (r54.2.2 = 0))) && (decide (r54.2.1 = 1))) && r242) && (decide (r86.2 = 0))) && (decide ((FeedBook.mk r86.1.Fed r86.1.Used r86.1.Braked r86.1.Lost r86.1.Back r86.1.Burned) = (FeedBook.mk 2200000000 2000000000 500000000 200000000 500000000 0)))) && (decide (r158.2 = 0))) (QQ rfl rfl rfl rfl) (fun hg=>XA (xs:=([0,1] : List Int)) (cells:=[(Iv 0),(Iv 1)]) Try.underlying52 Yw rfl (QB rfl rfl (QB rfl rfl QV)) rfl (Elems.cons (cs:=[(Iv 0)]) rfl (Elems.cons (cs:=[(Iv 1)]) rfl Elems.nil)) rfl (QZ (hL.chg e254) (hB120.ext e246)) (fun _ _ he h1=>⟨he,h1⟩)) ?_;intro v255 wd256 he257 h258;replace h:=Qg h;obtain ⟨r271,hr272,h⟩:=h;refine ZX ((((((((decide (r26.2 = 0)) && r215) && (decide (r54.2.2 = 0))) && (decide (r54.2.1 = 1))) && r242) && (decide (r86.2 = 0))) && (decide ((FeedBook.mk r86.1.Fed r86.1.Used r86.1.Braked r86.1.Lost r86.1.Back r86.1.Burned) = (FeedBook.mk 2200000000 2000000000 500000000 200000000 500000000 0)))) && (decide (r158.2 = 0))) (.bool r271) (QQ rfl rfl rfl rfl) (fun hg=>Qx Try.func39 Qyg rfl (QX (Qr hg) (Qr hg)) (Qsb [] _ (LtL.nil _) v162 r158.1 ((h163.ext (((((((he170.trans he179).trans he191).trans he204).trans he218).trans he229).trans he245).trans he257)).sub (fun _ h=>by cases h)) v255 ([0,1] : List Int) ((h258 hg).sub (fun _ h=>by cases h)) r271 (Qs hg hr272)) (by rintro _ wd273 ⟨he274,rfl⟩;exact ⟨rfl,he274⟩)) ?_;intro wd273 he274;refine Qa (.bool (((((((((decide (r26.2 = 0)) && r215) && (decide (r54.2.2 = 0))) && (decide (r54.2.1 = 1))) && r242) && (decide (r86.2 = 0))) && (decide ((FeedBook.mk r86.1.Fed r86.1.Used r86.1.Braked r86.1.Lost r86.1.Back r86.1.Burned) = (FeedBook.mk 2200000000 2000000000 500000000 200000000 500000000 0)))) && (decide (r158.2 = 0))) && r271)) (XQ rfl (fun hb=>(Qr hb)) rfl)<|Qc (.bool (((((((((decide (r26.2 = 0)) && r215) && (decide (r54.2.2 = 0))) && (decide (r54.2.1 = 1))) && r242) && (decide (r86.2 = 0))) && (decide ((FeedBook.mk r86.1.Fed r86.1.Used r86.1.Braked r86.1.Lost r86.1.Back r86.1.Burned) = (FeedBook.mk 2200000000 2000000000 500000000 200000000 500000000 0)))) && (decide (r158.2 = 0))) && r271)) rfl<|Qt (v:=(Iv r188.2)) (((((((((decide (r26.2 = 0)) && r215) && (decide (r54.2.2 = 0))) && (decide (r54.2.1 = 1))) && r242) && (decide (r86.2 = 0))) && (decide ((FeedBook.mk r86.1.Fed r86.1.Used r86.1.Braked r86.1.Lost r86.1.Back r86.1.Burned) = (FeedBook.mk 2200000000 2000000000 500000000 200000000 500000000 0)))) && (decide (r158.2 = 0))) && r271) (QQ rfl rfl rfl rfl) (fun hg=>(QF rfl))<|Qt (v:=(.bool (decide (r188.2 = 0)))) (((((((((decide (r26.2 = 0)) && r215) && (decide (r54.2.2 = 0))) && (decide (r54.2.1 = 1))) && r242) && (decide (r86.2 = 0))) && (decide ((FeedBook.mk r86.1.Fed r86.1.Used r86.1.Braked r86.1.Lost r86.1.Back r86.1.Burned) = (FeedBook.mk 2200000000 2000000000 500000000 200000000 500000000 0)))) && (decide (r158.2 = 0))) && r271) (QQ rfl rfl rfl rfl) (fun hg=>(X4 (Qr hg) rfl))<|Qa (.bool ((((((((((decide (r26.2 = 0)) && r215) && (decide (r54.2.2 = 0))) && (decide (r54.2.1 = 1))) && r242) && (decide (r86.2 = 0))) && (decide ((FeedBook.mk r86.1.Fed r86.1.Used r86.1.Braked r86.1.Lost r86.1.Back r86.1.Burned) = (FeedBook.mk 2200000000 2000000000 500000000 200000000 500000000 0)))) && (decide (r158.2 = 0))) && r271) && (decide (r188.2 = 0)))) (XQ rfl (fun hb=>(Qr hb)) rfl)<|Qc (.bool ((((((((((decide (r26.2 = 0)) && r215) && (decide (r54.2.2 = 0))) && (decide (r54.2.1 = 1))) && r242) && (decide (r86.2 = 0))) && (decide ((FeedBook.mk r86.1.Fed r86.1.Used r86.1.Braked r86.1.Lost r86.1.Back r86.1.Burned) = (FeedBook.mk 2200000000 2000000000 500000000 200000000 500000000 0)))) && (decide (r158.2 = 0))) && r271) && (decide (r188.2 = 0)))) rfl<|Qt (v:=v192) ((((((((((decide (r26.2 = 0)) && r215) && (decide (r54.2.2 = 0))) && (decide (r54.2.1 = 1))) && r242) && (decide (r86.2 = 0))) && (decide ((FeedBook.mk r86.1.Fed r86.1.Used r86.1.Braked r86.1.Lost r86.1.Back r86.1.Burned) = (FeedBook.mk 2200000000 2000000000 500000000 200000000 500000000 0)))) && (decide (r158.2 = 0))) && r271) && (decide (r188.2 = 0))) (QQ rfl rfl rfl rfl) (fun hg=>(QF rfl)) ?_;replace h:=Qg h;obtain ⟨r285,hr286,h⟩:=h;refine ZX ((((((((((decide (r26.2 = 0)) && r215) && (decide (r54.2.2 = 0))) && (decide (r54.2.1 = 1))) && r242) && (decide (r86.2 = 0))) && (decide ((FeedBook.mk r86.1.Fed r86.1.Used r86.1.Braked r86.1.Lost r86.1.Back r86.1.Burned) = (FeedBook.mk 2200000000 2000000000 500000000 200000000 500000000 0)))) && (decide (r158.2 = 0))) && r271) && (decide (r188.2 = 0))) (AgV [(Iv r285.Num),(Iv r285.Den)]) (QQ rfl rfl rfl rfl) (fun hg=>Qx Try.func84 Qpq rfl (Xl rfl) (Qmw [] _ (LtL.nil _) 11 r285 (Qs hg hr286)) (by rintro _ wd287 ⟨he288,cs289,rfl,hrd290⟩;have hrd290 : cs289 = [(Iv r285.Num),(Iv r285.Den)]:=hrd290;subst hrd290;exact ⟨rfl,he288⟩)) ?_;intro wd287 he288;replace h:=Qg h;obtain ⟨r302,hr303,h⟩:=h;refine ZX ((((((((((decide (r26.2 = 0)) && r215) && (decide (r54.2.2 = 0))) && (decide (r54.2.1 = 1))) && r242) && (decide (r86.2 = 0))) && (decide ((FeedBook.mk r86.1.Fed r86.1.Used r86.1.Braked r86.1.Lost r86.1.Back r86.1.Burned) = (FeedBook.mk 2200000000 2000000000 500000000 200000000 500000000 0)))) && (decide (r158.2 = 0))) && r271) && (decide (r188.2 = 0))) (AgV [(Iv r302.Num),(Iv r302.Den)]) (QQ rfl rfl rfl rfl) (fun hg=>Qx Try.func84 Qpq rfl (Xl rfl) (Qmw [] _ (LtL.nil _) 5 r302 (Qs hg hr303)) (by rintro _ wd304 ⟨he305,cs306,rfl,hrd307⟩;have hrd307 : cs306 = [(Iv r302.Num),(Iv r302.Den)]:=hrd307;subst hrd307;exact ⟨rfl,he305⟩)) ?_;intro wd304 he305;replace h:=Qg h;obtain ⟨r319,hr320,h⟩:=h;refine ZX ((((((((((decide (r26.2 = 0)) && r215) && (decide (r54.2.2 = 0))) && (decide (r54.2.1 = 1))) && r242) && (decide (r86.2 = 0))) && (decide ((FeedBook.mk r86.1.Fed r86.1.Used r86.1.Braked r86.1.Lost r86.1.Back r86.1.Burned) = (FeedBook.mk 2200000000 2000000000 500000000 200000000 500000000 0)))) && (decide (r158.2 = 0))) && r271) && (decide (r188.2 = 0))) (AgV [(Iv r319.Num),(Iv r319.Den)]) (QQ rfl rfl rfl rfl) (fun hg=>Qx Try.func84 Qpq rfl (Xl rfl) (Qmw [] _ (LtL.nil _) (-7) r319 (Qs hg hr320)) (by rintro _ wd321 ⟨he322,cs323,rfl,hrd324⟩;have hrd324 : cs323 = [(Iv r319.Num),(Iv r319.Den)]:=hrd324;subst hrd324;exact ⟨rfl,he322⟩)) ?_;intro wd321 he322;have e335:=((((e254.trans he257).trans he274).trans he288).trans he305).trans he322;refine Qhs (fun v w'=>SlRd ((pt b98) :: L) w' v ([r285,r302,r319] : List Frac)) ((((((((((decide (r26.2 = 0)) && r215) && (decide (r54.2.2 = 0))) && (decide (r54.2.1 = 1))) && r242) && (decide (r86.2 = 0))) && (decide ((FeedBook.mk r86.1.Fed r86.1.Used r86.1.Braked r86.1.Lost r86.1.Back r86.1.Burned) = (FeedBook.mk 2200000000 2000000000 500000000 200000000 500000000 0)))) && (decide (r158.2 = 0))) && r271) && (decide (r188.2 = 0))) (QQ rfl rfl rfl rfl) (fun hg=>XA (xs:=([r285,r302,r319] : List Frac)) (cells:=[(Iv r285.Num),(Iv r285.Den),(Iv r302.Num),(Iv r302.Den),(Iv r319.Num),(Iv r319.Den)]) Try.underlying95 Qni rfl (QB (Qr hg) rfl (QB (Qr hg) rfl (QB (Qr hg) rfl QV))) rfl (Elems.cons (cs:=[(Iv r285.Num),(Iv r285.Den)]) rfl (Elems.cons (cs:=[(Iv r302.Num),(Iv r302.Den)]) rfl (Elems.cons (cs:=[(Iv r319.Num),(Iv r319.Den)]) rfl Elems.nil))) rfl (QZ (hL.chg e335) (hB120.ext (((((e246.trans he257).trans he274).trans he288).trans he305).trans he322))) (fun _ _ he h1=>⟨he,h1⟩)) ?_;intro v336 wd337 he338 h339;replace h:=Qg h;obtain ⟨r353,hr354,h⟩:=h;refine ZX ((((((((((decide (r26.2 = 0)) && r215) && (decide (r54.2.2 = 0))) && (decide (r54.2.1 = 1))) && r242) && (decide (r86.2 = 0))) && (decide ((FeedBook.mk r86.1.Fed r86.1.Used r86.1.Braked r86.1.Lost r86.1.Back r86.1.Burned) = (FeedBook.mk 2200000000 2000000000 500000000 200000000 500000000 0)))) && (decide (r158.2 = 0))) && r271) && (decide (r188.2 = 0))) (.bool r353) (QQ rfl rfl rfl rfl) (fun hg=>Qx Try.func60 QNh rfl (QX (Qr hg) (Qr hg)) (QDg [] _ (LtL.nil _) v192 r188.1 ((h193.ext (((((((((he204.trans he218).trans he229).trans he245).trans he257).trans he274).trans he288).trans he305).trans he322).trans he338)).sub (fun _ h=>by cases h)) v336 ([r285,r302,r319] : List Frac) ((h339 hg).sub (fun _ h=>by cases h)) r353 (Qs hg hr354)) (by rintro _ wd355 ⟨he356,rfl⟩;exact ⟨rfl,he356⟩)) ?_;intro wd355 he356;refine Qa (.bool (((((((((((decide (r26.2 = 0)) && r215) && (decide (r54.2.2 = 0))) && (decide (r54.2.1 = 1))) && r242) && (decide (r86.2 = 0))) && (decide ((FeedBook.mk r86.1.Fed r86.1.Used r86.1.Braked r86.1.Lost r86.1.Back r86.1.Burned) = (FeedBook.mk 2200000000 2000000000 500000000 200000000 500000000 0)))) && (decide (r158.2 = 0))) && r271) && (decide (r188.2 = 0))) && r353)) (XQ rfl (fun hb=>(Qr hb)) rfl)<|Qj (.bool (((((((((((decide (r26.2 = 0)) && r215) && (decide (r54.2.2 = 0))) && (decide (r54.2.1 = 1))) && r242) && (decide (r86.2 = 0))) && (decide ((FeedBook.mk r86.1.Fed r86.1.Used r86.1.Braked r86.1.Lost r86.1.Back r86.1.Burned) = (FeedBook.mk 2200000000 2000000000 500000000 200000000 500000000 0)))) && (decide (r158.2 = 0))) && r271) && (decide (r188.2 = 0))) && r353)) rfl<|Qb<|Qu ?_;replace h:=Qi h;subst h;exact ⟨[(.bool (((((((((((decide (r26.2 = 0)) && r215) && (decide (r54.2.2 = 0))) && (decide (r54.2.1 = 1))) && r242) && (decide (r86.2 = 0))) && (decide ((FeedBook.mk r86.1.Fed r86.1.Used r86.1.Braked r86.1.Lost r86.1.Back r86.1.Burned) = (FeedBook.mk 2200000000 2000000000 500000000 200000000 500000000 0)))) && (decide (r158.2 = 0))) && r271) && (decide (r188.2 = 0))) && r353))],⟨rfl,trivial⟩,((e335.trans he338).trans he356),rfl⟩

end Go.Gw

end
