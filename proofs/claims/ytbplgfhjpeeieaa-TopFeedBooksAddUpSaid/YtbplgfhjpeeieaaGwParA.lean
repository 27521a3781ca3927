/- Laws of the walk. Condition: each theorem says its own. -/
import Derived.Test.YtbplgfhjpeeieaaGwFnZ
import Derived.Test.YtbplgfhjpeeieaaGwFacts2
import Derived.Test.YtbplgfhjpeeieaaGwCj22
import Derived.Test.YtbplgfhjpeeieaaGwPlan2
set_option linter.unusedVariables false
set_option linter.unusedSimpArgs false
set_option linter.unusedSectionVars false
section
set_option maxRecDepth 100000
set_option maxHeartbeats 8000000
set_option linter.unusedVariables false
set_option linter.unusedSectionVars false
namespace Go.Gw
open Go Go.Conc Go.Proofs
theorem zi3 : ZI Try.prog 3 [.int .i64 0] := ZA (by kernel_rfl)
theorem QPz : ZI Try.prog 156 [.chan none] := ZA (by kernel_rfl)
theorem QNu : Xt Try.prog 156 1 := Yr (by kernel_rfl)
theorem Qww : Zk Try.prog 156 := ⟨_, Try.underlying156, trivial⟩
attribute [local irreducible] T0 TS TT TP TX TZ Eff Stp WC Quiet gd
def Jt (L : List Value) (r : feed_plan) : Value → World → Prop := fun v w => ∃ cs0 : List Value, v = .agg cs0.toArray ∧ Rep.rd L w cs0 r
theorem Qzd {Z : Nat → Prop} {c : Nat} {L : List Value} {w : World} (hL : LtL L w) {net : feed_net} {t : FeedTrain} {at_ : Int} {b5 b9 b10 b11 : Nat} {v1 v3 v5 v : Value}
    (hn : Rep.rd L w [v1, v3, v5] net) (h5 : RowAt w b5 [v1, v3, v5]) (ht : SlRd L w v t.Steps) (h9 : RowAt w b9 [.string t.Name, .int .i64 t.Earliest, .int .i64 t.Latest, v]) (h10 : RowAt w b10 [.chan (some c)]) (h11 : RowAt w b11 [.int .i64 at_])
    {fl : Nat} {r : feed_plan} (hs : YQ fl net [feed_run.mk t at_] (w64 (at_ - t.Earliest)) = some r) :
    Wlk (Jw Try.prog Z) (fun g w => ∃ k, Qbh Try.prog c (Jt L r) k g w) (born Try.prog { target := .fn (.func 88) #[.pointer (some ⟨b10, 0, none⟩), .pointer (some ⟨b5, 0, none⟩), .pointer (some ⟨b9, 0, none⟩), .pointer (some ⟨b11, 0, none⟩)], args := #[] }) w := by
  letI : JD Try.prog := ⟨Jw Try.prog Z⟩
  refine .ctl rfl (fun W => QNn Try.func88 (by kernel_rfl) rfl) ?_
  have e := Qmo [.pointer (some ⟨b10, 0, none⟩), .pointer (some ⟨b5, 0, none⟩), .pointer (some ⟨b9, 0, none⟩), .pointer (some ⟨b11, 0, none⟩)] 15 (by simp)
  refine Eq.subst (motive := fun a => Wlk (Jw Try.prog Z) (fun g w => ∃ k, Qbh Try.prog c (Jt L r) k g w) (G ((baseD 88).at a [.code _]) [Jy Try.prog]) w) e.symm ?_
  refine QPf (n := 15) (j := 11) (fun w0 w' => Ext w0 w') XL [(0, false), (1, false), (2, false), (3, false), (4, false), (6, false), (7, false), (8, false), (9, false), (5, true), (10, true)] (by kernel_rfl) (fun w => Chg.refl _ _) (by simp [baseD])
    (Kt := fun ρ' w' => ρ' 4 = .chan (some c) ∧ Jt L r (ρ' 14) w') ?_ (fun ρ' w' ⟨k1, cs0, k2, k3⟩ => .stop fun w1 r1 => ⟨4, QLv Try.func88 rfl rfl rfl rfl (by kernel_rfl) rfl (by rw [Qar]; exact k1) (by rw [Qar]; exact k2) fun w2 r2 => ⟨cs0, rfl, Rep.step (Stepp.ext (r1.trans r2).ext) k3⟩⟩)
  have e0 : Ext w { w with drawn := w.drawn + 1 } := Ext.drew w
  generalize ({ w with drawn := w.drawn + 1 } : World) = w0 at e0 ⊢
  refine Qap (v := .chan (some c)) rfl rfl (fun w' hS => Qp Qww rfl (h10.at.ext (e0.trans hS))) ?_
  refine Qap (v := .agg (List.toArray [v1, v3, v5])) rfl rfl (fun w' hS => QN (cs := [v1, v3, v5]) ZB rfl (h5.at.ext (e0.trans hS))) ?_
  refine Qap (v := .agg (List.toArray [.string t.Name, .int .i64 t.Earliest, .int .i64 t.Latest, v])) rfl rfl (fun w' hS => QN (cs := [.string t.Name, .int .i64 t.Earliest, .int .i64 t.Latest, v]) Jv rfl (h9.at.ext (e0.trans hS))) ?_
  refine Qap (v := .int .i64 at_) rfl rfl (fun w' hS => Qp QG rfl (h11.at.ext (e0.trans hS))) ?_
  refine Qap (v := .agg (List.toArray [.string t.Name, .int .i64 t.Earliest, .int .i64 t.Latest, v, .int .i64 at_])) rfl rfl (fun w' hS => Xa (cells := [.string t.Name, .int .i64 t.Earliest, .int .i64 t.Latest, v, .int .i64 at_]) Qmc (QE rfl rfl (QE rfl rfl QS)) rfl) ?_
  refine Qap (v := .int .i64 at_) rfl rfl (fun w' hS => Qp QG rfl (h11.at.ext (e0.trans hS))) ?_
  refine Qap (v := .pointer (some ⟨b9, 1, none⟩)) rfl rfl (fun w' hS => Qr 1 Try.underlying127 rfl rfl ⟨0, QI⟩ rfl rfl) ?_
  refine Qap (v := .int .i64 t.Earliest) rfl rfl (fun w' hS => Qp QG rfl (At.drop (h9.at.ext (e0.trans hS)) 1)) ?_
  refine Qap (v := .int .i64 (w64 (at_ - t.Earliest))) rfl rfl (fun w' hS => Jc rfl rfl) ?_
  refine Qpk rfl rfl (Yi (xs := ([feed_run.mk t at_] : List feed_run)) (cells := [.string t.Name, .int .i64 t.Earliest, .int .i64 t.Latest, v, .int .i64 at_]) Try.underlying159 Qbl rfl (QE rfl rfl QS) rfl (Elems.cons (cs := [.string t.Name, .int .i64 t.Earliest, .int .i64 t.Latest, v, .int .i64 at_]) ⟨v, ht.ext e0, rfl⟩ Elems.nil) rfl (hL.chg e0) ?_)
  intro b w1 e1 h1
  refine ⟨e1, ?_⟩
  refine Qpk rfl rfl (Qy Try.func87 Qef rfl (XR rfl rfl rfl) (Qso fl L _ (hL.chg (e0.trans e1)) [v1, v3, v5] net (Rep.step (Stepp.ext (e0.trans e1)) hn) _ [feed_run.mk t at_] h1 (w64 (at_ - t.Earliest)) r hs) ?_)
  rintro _ w2 ⟨e2, cs0, rfl, hrd⟩
  exact ⟨e1.trans e2, Qzn ⟨rfl, cs0, rfl, hrd⟩⟩
end Go.Gw

end
section
set_option maxRecDepth 100000
set_option maxHeartbeats 8000000
set_option linter.unusedVariables false
set_option linter.unusedSectionVars false
namespace Go.Gw
open Go Go.Conc Go.Proofs
attribute [local irreducible] T0 TS TT TP TX TZ Eff Stp WC Quiet gd
/-! ### What it comes to -/
noncomputable def Qgl (net : feed_net) (t : FeedTrain) (k : Nat) : Option feed_plan := YQ 4 net [feed_run.mk t (t.Earliest + k)] k
noncomputable def JB (net : feed_net) (t : FeedTrain) : Nat → Option (List feed_plan)
  | 0 => some []
  | m + 1 => Option.bind (JB net t m) fun l => Option.bind (Qgl net t m) fun r => some (l ++ [r])
noncomputable def Zd : List feed_plan → feed_plan → Option feed_plan
  | [], b => some b
  | p :: ps, b => Option.bind (Qay p b) fun x => Zd ps (bif x then p else b)
open Classical in
noncomputable def Qax (net : feed_net) (t : FeedTrain) : Option feed_plan :=
  if 0 ≤ t.Earliest ∧ t.Earliest ≤ t.Latest ∧ t.Latest ≤ 1000000000 then
    Option.bind (JB net t (t.Latest - t.Earliest + 1).toNat) fun rs => if h : ∃ r, ∀ l : List feed_plan, l.Perm rs → Zd l ⟨[], 0, false⟩ = some r then some h.choose else none
  else none
theorem QGb {net : feed_net} {t : FeedTrain} {r : feed_plan} (h : Qax net t = some r) : (0 ≤ t.Earliest ∧ t.Earliest ≤ t.Latest ∧ t.Latest ≤ 1000000000) ∧ ∃ rs, JB net t (t.Latest - t.Earliest + 1).toNat = some rs ∧ ∀ l : List feed_plan, l.Perm rs → Zd l ⟨[], 0, false⟩ = some r := by
  unfold Qax at h
  split at h
  · rename_i hc
    refine ⟨hc, ?_⟩
    cases hl : JB net t (t.Latest - t.Earliest + 1).toNat with
    | none => rw [hl] at h; cases h
    | some rs =>
      rw [hl] at h
      simp only [Qs] at h
      split at h
      · rename_i he
        cases h
        exact ⟨rs, rfl, he.choose_spec⟩
      · cases h
  · cases h
theorem Qjo {net : feed_net} {t : FeedTrain} : ∀ {m : Nat} {rs : List feed_plan}, JB net t m = some rs → rs.length = m ∧ ∀ k r, rs[k]? = some r → Qgl net t k = some r
  | 0, rs, h => by simp [JB] at h; subst h; simp
  | m + 1, rs, h => by
    simp only [JB] at h
    cases hl : JB net t m with
    | none => rw [hl] at h; cases h
    | some l =>
      rw [hl] at h
      simp only [Qs] at h
      cases hr : Qgl net t m with
      | none => rw [hr] at h; cases h
      | some r =>
        rw [hr] at h
        simp only [Qs, Option.some.injEq] at h
        subst h
        obtain ⟨h1, h2⟩ := Qjo hl
        refine ⟨by simp [h1], fun k x hx => ?_⟩
        rcases Nat.lt_or_ge k l.length with h3 | h3
        · rw [List.getElem?_append_left h3] at hx; exact h2 k x hx
        · rw [List.getElem?_append_right h3] at hx
          have hk : k - l.length = 0 := by
            rcases Nat.eq_zero_or_pos (k - l.length) with h4 | h4
            · exact h4
            · rw [List.getElem?_eq_none (by simp; omega)] at hx; cases hx
          rw [hk] at hx
          simp at hx
          subst hx
          have : k = m := by omega
          subst this; exact hr
theorem Qnj : ∀ (l : List feed_plan) (l2 : List feed_plan) (b : feed_plan), Zd (l ++ l2) b = Option.bind (Zd l b) fun x => Zd l2 x
  | [], l2, b => rfl
  | p :: l, l2, b => by
    simp only [List.cons_append, Zd]
    cases Qay p b with
    | none => rfl
    | some x => simp only [Qs]; exact Qnj l l2 _
/-! ### The code -/
def Zg : Code → Code
  | .seq _ y => y
  | c => c
def sq1 : Code → Code
  | .seq x _ => x
  | c => c
def els : Code → Code
  | .cond _ _ y => y
  | c => c
noncomputable def Qgk : Code := Zg (els (Zg (sq1 (Zg (Zg (Zg (Zg (Zg (Try.f22.body.getD .skip)))))))))
theorem XI {ρ : Env} {d i : Nat} {v : Value} (h : i ≠ d) : Xw ρ (some d) v i = ρ i := by simp [Xw, upd, Qjg h]
theorem Qal {ρ : Env} {d i : Nat} {v : Value} (h : i < d) : Xw ρ (some d) v i = ρ i := by simp [Xw, upd, Qjg (Nat.ne_of_lt h)]
theorem wi {i : Int} (h0 : 0 ≤ i) (h1 : i ≤ 2000000000) : w64 i = i := Go.IntWalk.i64_in i ⟨by omega, by omega⟩
def lpB : Code → Code
  | .block _ (.loop c) => c
  | c => c
noncomputable def LB0 : Code := lpB (Zg (sq1 (Zg Qgk)))
noncomputable def LB2 : Code := lpB (Zg (Zg (Zg Qgk)))

section
variable {L : List Value} {w0 : World} {b5 b8 b9 : Nat} {net : feed_net} {v1 v3 v5 v : Value} {t : FeedTrain} {ρ0 : Env} {rs : List feed_plan} {m : Nat}
structure Par0 (L : List Value) (w0 : World) (b5 b8 b9 : Nat) (net : feed_net) (v1 v3 v5 v : Value) (t : FeedTrain) (ρ0 : Env) (rs : List feed_plan) (m : Nat) : Prop where
  hL : LtL L w0
  h8 : pt b8 ∈ L
  n5 : b5 ≠ b8
  n9 : b9 ≠ b8
  r5 : ρ0 5 = pt b5
  r8 : ρ0 8 = pt b8
  r9 : ρ0 9 = pt b9
  B5 : RowAt w0 b5 [v1, v3, v5]
  B9 : RowAt w0 b9 [.string t.Name, .int .i64 t.Earliest, .int .i64 t.Latest, v]
  rn : Rep.rd L w0 [v1, v3, v5] net
  rt : SlRd L w0 v t.Steps
  e0 : 0 ≤ t.Earliest
  e1 : t.Earliest ≤ t.Latest
  e2 : t.Latest ≤ 1000000000
  em : m = (t.Latest - t.Earliest + 1).toNat
  rs : JB net t m = some rs

theorem Qaf {b : Nat} : pt b ∈ [pt b] := List.mem_singleton.2 rfl
theorem QGq (hP : Par0 L w0 b5 b8 b9 net v1 v3 v5 v t ρ0 rs m) {c : Nat} (hc : w0.heap.size ≤ c) {S : Goroutine → World → Prop} {b : Frame} (hb : b.kind ≠ .early) {kk : List Item} {cs : List Frame} {b10 : Nat} (h10 : w0.heap.size ≤ b10)
    (hE : ∀ ρ w Z orig, (∀ i, i < 10 → ρ i = ρ0 i) → ρ 10 = pt b10 → Inv w0 b8 Z orig w → RowAt w b10 [.chan (some c)] → Box w b8 [.slice none 0 0, .int .i64 0, .bool false] 154 → PW Try.prog c S Z orig (rs.map (Jt L)) (G (b.at (act 94 ρ) kk) cs) w) :
    ∀ (i j : Nat), j + i = m → ∀ (ρ : Env) (w : World) (Z : Nat → Prop) (orig : Nat → Option Obj) (b11 : Nat), (∀ i, i < 10 → ρ i = ρ0 i) → ρ 10 = pt b10 → ρ 11 = pt b11 → Inv w0 b8 Z orig w → RowAt w b10 [.chan (some c)] → Box w b8 [.slice none 0 0, .int .i64 0, .bool false] 154 →
      Box w b11 [.int .i64 (t.Earliest + j)] 3 → w0.heap.size ≤ b11 → ¬ Z b11 → PW Try.prog c S Z orig ((rs.take j).map (Jt L)) (G (b.at (act 94 ρ) (.code LB0 :: .inLoop LB0 :: .inBlock 0 :: kk)) cs) w := by
  obtain ⟨hrl, hrg⟩ := Qjo hP.rs
  have hm : (m : Int) = t.Latest - t.Earliest + 1 := by have := hP.em; have := hP.e1; omega
  have hE0 := hP.e0
  have hE2 := hP.e2
  have h8lt : ∀ {w Z orig}, Inv w0 b8 Z orig w → b8 < w0.heap.size := fun h => h.lt8
  -- the loop's head
  have head : ∀ (j : Nat) (tr : Bool), tr = decide (t.Earliest + j ≤ t.Latest) → ∀ (ρ : Env) (w : World) (Z : Nat → Prop) (orig : Nat → Option Obj) (b11 : Nat) (O : List (Value → World → Prop)), (∀ i, i < 10 → ρ i = ρ0 i) → ρ 11 = pt b11 → Inv w0 b8 Z orig w → Box w b11 [.int .i64 (t.Earliest + j)] 3 →
      (∀ ρ', (∀ i, i < 44 → ρ' i = ρ i) → PW Try.prog c S Z orig O (G (b.at (act 94 ρ') (.code (bif tr then .skip else .exit 0) :: .code (Zg LB0) :: .inLoop LB0 :: .inBlock 0 :: kk)) cs) w) →
      PW Try.prog c S Z orig O (G (b.at (act 94 ρ) (.code LB0 :: .inLoop LB0 :: .inBlock 0 :: kk)) cs) w := by
    intro j tr htr ρ w Z orig b11 O hρ h11 hI hB11 hk
    refine PW.of ?_
    letI : JD Try.prog := ⟨Jp Try.prog Z⟩
    have hB9 := hP.B9.step (hI.stepp (L := [pt b8]) Qaf) (Yu hP.n9)
    refine JE (JE (Qcs (n := 94) (K := fun ρ' w' => w' = w ∧ ρ' 47 = .bool tr ∧ ∀ i, i < 44 → ρ' i = ρ i) ?_ hb ?_))
    · refine Ym (v := .int .i64 (t.Earliest + j)) rfl (Qp QG h11 hB11.at) ?_
      refine Ym (v := .pointer (some ⟨b9, 2, none⟩)) rfl (Qr 2 Try.underlying127 rfl rfl ⟨0, QI⟩ ((hρ 9 (by omega)).trans hP.r9) rfl) ?_
      refine Ym (v := .int .i64 t.Latest) rfl (Qp QG rfl (At.drop hB9.at 2)) ?_
      refine Ym (v := .bool (decide (t.Earliest + j ≤ t.Latest))) rfl (YY rfl rfl) ?_
      exact Qb ⟨rfl, by rw [htr]; rfl, fun i hi => (Qal (by omega)).trans ((Qal (by omega)).trans ((Qal (by omega)).trans (Qal hi)))⟩
    · rintro ρ' w' ⟨rfl, h47, hr⟩
      exact Qmh (n := 94) (by exact h47) (hk ρ' hr).stop
  intro i
  induction i with
  | zero =>
    intro j hj ρ w Z orig b11 hρ hρ10 hρ11 hI hR10 hB8 hB11 h11 hz11
    obtain rfl : j = m := by omega
    refine head j false (by simp; omega) ρ w Z orig b11 _ hρ hρ11 hI hB11 fun ρ' hr => PW.of ?_
    letI : JD Try.prog := ⟨Jp Try.prog Z⟩
    refine Qqt rfl ?_
    rw [List.take_of_length_le (by omega)]
    exact (hE ρ' w Z orig (fun i hi => (hr i (by omega)).trans (hρ i hi)) ((hr 10 (by omega)).trans hρ10) hI hR10 hB8).stop
  | succ i ih =>
    intro j hj ρ w Z orig b11 hρ hρ10 hρ11 hI hR10 hB8 hB11 h11 hz11
    refine head j true (by simp; omega) ρ w Z orig b11 _ hρ hρ11 hI hB11 fun ρ1 hr1 => PW.of ?_
    letI : JD Try.prog := ⟨Jp Try.prog Z⟩
    refine Qot (JE (Qhx (Qom ?_)))
    -- the go statement
    have q5 : ρ1 5 = pt b5 := (hr1 5 (by omega)).trans ((hρ 5 (by omega)).trans hP.r5)
    have q9 : ρ1 9 = pt b9 := (hr1 9 (by omega)).trans ((hρ 9 (by omega)).trans hP.r9)
    have q10 : ρ1 10 = pt b10 := (hr1 10 (by omega)).trans hρ10
    have q11 : ρ1 11 = pt b11 := (hr1 11 (by omega)).trans hρ11
    refine Qvl (n := 94) (i := 0) (rest := [1]) (K := fun v w' => v = .func (.func 88) #[] (List.toArray [pt b10, pt b5, pt b9, pt b11]) ∧ w' = w) rfl rfl ?_ hb ?_
    · exact Qqq (Qll (cs := [pt b10, pt b5, pt b9, pt b11]) (ev4 q10 q5 q9 q11)) ⟨rfl, rfl⟩
    rintro _ w' ⟨rfl, rfl⟩
    refine .stop fun w1 r1 => ?_
    have hjm : j < m := by omega
    obtain ⟨r, hr⟩ : ∃ r, rs[j]? = some r := ⟨_, List.getElem?_eq_getElem (by omega)⟩
    have hrun := hrg j r hr
    have hI1 := hI.rel r1
    have hsz : w0.heap.size ≤ w'.heap.size := hI.size
    have hB11' : Box w1 b11 [.int .i64 (t.Earliest + j)] 3 := hB11.ext r1.ext
    have n11 : b11 ≠ b8 := fun e => by have := hI.lt8; omega
    have n10 : b10 ≠ b8 := fun e => by have := hI.lt8; omega
    have hv : (act 94 (Xw ρ1 (some 50) (.func (.func 88) #[] (List.toArray [pt b10, pt b5, pt b9, pt b11])))).eval (.tmp 50) = .func (.func 88) #[] (List.toArray [pt b10, pt b5, pt b9, pt b11]) := by rw [Qar]; rfl
    refine PW.go (CC w1 b8) (Jt L r) rfl rfl (by kernel_rfl) hb (f := 88) (caps := #[pt b10, pt b5, pt b9, pt b11]) (fun W => ?_) (fun W => ?_) rfl (fun w2 r2 => QAs r2) (fun w2 r2 => ?_) (fun w2 r2 => ?_)
    · simp only [resolve, hv]
      simp [Deferred.ofValue]
    · simp only [resolve, hv]
      simp [Deferred.ofValue]
    · -- the Qzd
      have sc := Qqc (Z := Z) (w := w1) (w1 := w2) (L := L) hP.h8 r2
      have sc8 := Qqc (Z := Z) (w := w1) (w1 := w2) (L := [pt b8]) Qaf r2
      have s0 := (hI1.stepp hP.h8).trans sc
      have s08 := (hI1.stepp (L := [pt b8]) Qaf).trans sc8
      refine Qzd (fl := 4) (t := t) (at_ := t.Earliest + j) (fun x hx k hk => ?_) (Rep.step s0 hP.rn) (hP.B5.step s08 (Yu hP.n5)) (hP.rt.step s0) (hP.B9.step s08 (Yu hP.n9)) (RowAt.step sc8 (Yu n10) (hR10.step (Stepp.ext (L := [pt b8]) r1.ext) (Yu n10))) (RowAt.step sc8 (Yu n11) hB11'.row) ?_
      · have h1 := hP.hL x hx k hk
        rw [Qnt, Qiz]
        have := r2.size
        have := hI1.size
        omega
      · rw [show t.Earliest + (j : Int) - t.Earliest = j by omega, wi (by omega) (by omega)]
        exact hrun
    · -- on
      have hI2 := hI1.frz r2
      have hO : (rs.take j).map (Jt L) ++ [Jt L r] = (rs.take (j + 1)).map (Jt L) := by rw [List.take_add_one, hr]; simp
      rw [hO]
      have sf := QGv (w := w1) (w1 := w2) (b8 := b8) (L := [pt b8]) r2
      have hR10' : RowAt (frz (CC w1 b8) w2) b10 [.chan (some c)] := RowAt.step sf (Yu n10) (hR10.step (Stepp.ext (L := [pt b8]) r1.ext) (Yu n10))
      have hR11' : RowAt (frz (CC w1 b8) w2) b11 [.int .i64 (t.Earliest + j)] := RowAt.step sf (Yu n11) hB11'.row
      have hB8' := QGu r2 (hB8.ext r1.ext)
      generalize frz (CC w1 b8) w2 = w3 at hI2 hR10' hR11' hB8' ⊢
      generalize hρ2 : Xw ρ1 (some 50) (.func (.func 88) #[] (List.toArray [pt b10, pt b5, pt b9, pt b11])) = ρ2
      generalize (fun b => Z b ∨ CC w1 b8 b) = Z2 at hI2 ⊢
      generalize Qae Z (CC w1 b8) w2 orig = orig2 at hI2 ⊢
      have hr2 : ∀ i, i < 44 → ρ2 i = ρ1 i := fun i hi => by rw [← hρ2]; exact Qal (by omega)
      have hz3 : ∀ {x}, Z2 x → x < w3.heap.size := fun hx => by obtain ⟨_, _, _, _, h1, _⟩ := hI2.zrow _ hx; exact ZG h1
      refine PW.of ?_
      letI : JD Try.prog := ⟨Jp Try.prog Z2⟩
      refine QBv (Qtq (Qqi (n := 94) (K := fun ρ' w' => (∀ i, i < 11 → ρ' i = ρ2 i) ∧ ∃ b', ρ' 11 = pt b' ∧ Inv w0 b8 Z2 orig2 w' ∧ RowAt w' b10 [.chan (some c)] ∧ Box w' b8 [.slice none 0 0, .int .i64 0, .bool false] 154 ∧ Box w' b' [.int .i64 (t.Earliest + (j + 1 : Nat))] 3 ∧ w0.heap.size ≤ b' ∧ ¬ Z2 b') ?_ hb ?_))
      · refine Qhm (Qhm (QQ (Ym (v := .int .i64 (t.Earliest + j)) rfl (Qp QG ((hr2 11 (by omega)).trans q11) hR11'.at) (Qb (QQ (Qh rfl (Q7 zi3 fun b' w4 hb4 e4 hB4 => ?_)))))))
        refine Qh rfl (QH (vs := [.int .i64 (t.Earliest + j)]) (cs' := [.int .i64 (t.Earliest + j)]) QI rfl rfl rfl rfl hB4 rfl (Qc rfl QC) rfl fun w5 c5 hB5 => Qb (QQ ?_))
        refine Ym (v := .int .i64 (t.Earliest + j)) rfl (Qp QG rfl hB5.at) ?_
        refine Ym (v := .int .i64 (w64 (t.Earliest + j + 1))) rfl (Q4 rfl rfl) ?_
        rw [show w64 (t.Earliest + j + 1) = t.Earliest + (j + 1 : Nat) by rw [wi (by omega) (by omega)]; omega]
        refine Qh rfl (QH (vs := [.int .i64 (t.Earliest + (j + 1 : Nat))]) (cs' := [.int .i64 (t.Earliest + (j + 1 : Nat))]) QI rfl rfl rfl rfl hB5 rfl (Qc rfl QC) rfl fun w6 c6 hB6 => Qb ?_)
        have hzb : ¬ Z2 b' := fun hx => by have := hz3 hx; omega
        have hbw : w0.heap.size ≤ b' := Nat.le_trans hI2.size hb4
        have nb8 : b8 ≠ b' := fun e => by have := hI2.lt8; omega
        have nb10 : b10 ≠ b' := fun e => by have := hR10'.lt; omega
        refine ⟨fun i hi => ?_, b', rfl, ((hI2.ext e4).chg c5 (.inr ⟨hbw, hzb⟩)).chg c6 (.inr ⟨hbw, hzb⟩), ?_, ?_, hB6, hbw, hzb⟩
        · exact (Qal (by omega)).trans ((Qal (by omega)).trans ((Qal (by omega)).trans (Qal (by omega))))
        · have k1 := hR10'.step (Stepp.ext (L := [pt b']) e4) (Yu nb10)
          exact (k1.step (Qg (L := [pt b']) c5 Qaf) (Yu nb10)).step (Qg (L := [pt b']) c6 Qaf) (Yu nb10)
        · exact ((hB8'.ext e4).chg c5 (Yu nb8)).chg c6 (Yu nb8)
      · rintro ρ' w' ⟨k1, b', k2, k3, k4, k5, k6, k7, k8⟩
        refine Qtr ?_
        exact (ih (j + 1) (by omega) ρ' w' Z2 orig2 b' (fun i hi => (k1 i (by omega)).trans ((hr2 i (by omega)).trans ((hr1 i (by omega)).trans (hρ i hi)))) ((k1 10 (by omega)).trans ((hr2 10 (by omega)).trans q10)) k2 k3 k4 k5 k6 k7 k8).stop
end
end Go.Gw

end
section
set_option maxRecDepth 100000
set_option maxHeartbeats 8000000
set_option linter.unusedVariables false
set_option linter.unusedSectionVars false
namespace Go.Gw
open Go Go.Conc Go.Proofs
attribute [local irreducible] T0 TS TT TP TX TZ Eff Stp WC Quiet gd
theorem zi154' : ZI Try.prog 154 [.slice none 0 0, .int .i64 0, .bool false] := ZA (by kernel_rfl)
section
variable {L : List Value} {w0 : World} {b5 b8 b9 : Nat} {net : feed_net} {v1 v3 v5 v : Value} {t : FeedTrain} {ρ0 : Env} {rs : List feed_plan} {m : Nat}

theorem QHy {α β : Type} {f : α → β} {l : List α} {O1 O2 : List β} {φ : β} (h : l.map f = O1 ++ φ :: O2) : ∃ l1 p l2, l = l1 ++ p :: l2 ∧ l1.map f = O1 ∧ f p = φ ∧ l2.map f = O2 := by
  obtain ⟨l1, l', rfl, h1, h2⟩ := List.map_eq_append_iff.1 h
  obtain ⟨p, l2, rfl, h3, h4⟩ := List.map_eq_cons_iff.1 h2
  exact ⟨l1, p, l2, rfl, h1, h3, h4⟩

theorem QLb (hP : Par0 L w0 b5 b8 b9 net v1 v3 v5 v t ρ0 rs m) {r : feed_plan} (hr : ∀ l : List feed_plan, l.Perm rs → Zd l ⟨[], 0, false⟩ = some r) {c : Nat} (hc : w0.heap.size ≤ c) {S : Goroutine → World → Prop} {b : Frame} (hb : b.kind ≠ .early) {kk : List Item} {cs : List Frame} {b10 : Nat} (h10 : w0.heap.size ≤ b10)
    (hE : ∀ ρ w v8, (∀ i, i < 10 → ρ i = ρ0 i) → Chg [pt b8] w0 w → SlRd L w v8 r.at_ → Box w b8 [v8, .int .i64 r.delay, .bool r.found] 154 → S (G (b.at (act 94 ρ) kk) cs) w) :
    ∀ (i : Nat) (rem dn : List feed_plan) (best : feed_plan), rem.length = i → (dn ++ rem).Perm rs → Zd dn ⟨[], 0, false⟩ = some best → ∀ (ρ : Env) (w : World) (Z : Nat → Prop) (orig : Nat → Option Obj) (v8 : Value),
      (∀ i, i < 10 → ρ i = ρ0 i) → ρ 10 = pt b10 → ρ 57 = .int .i64 m → ρ 58 = .int .i64 (m - i : Int) → Inv w0 b8 Z orig w → RowAt w b10 [.chan (some c)] → Box w b8 [v8, .int .i64 best.delay, .bool best.found] 154 → SlRd L w v8 best.at_ →
      PW Try.prog c S Z orig (rem.map (Jt L)) (G (b.at (act 94 ρ) (.code LB2 :: .inLoop LB2 :: .inBlock 2 :: kk)) cs) w := by
  obtain ⟨hrl, hrg⟩ := Qjo hP.rs
  have hm : (m : Int) = t.Latest - t.Earliest + 1 := by have := hP.em; have := hP.e1; omega
  have hE0 := hP.e0
  have hE2 := hP.e2
  have n10 : ∀ {w Z orig}, Inv w0 b8 Z orig w → b10 ≠ b8 := fun h e => by have := h.lt8; omega
  have head : ∀ (i : Nat) (tr : Bool), i ≤ m → tr = decide (0 < i) → ∀ (ρ : Env) (w : World) (Z : Nat → Prop) (orig : Nat → Option Obj) (O : List (Value → World → Prop)), ρ 57 = .int .i64 m → ρ 58 = .int .i64 (m - i : Int) →
      (∀ ρ', (∀ i, i < 59 → ρ' i = ρ i) → PW Try.prog c S Z orig O (G (b.at (act 94 ρ') (.code (bif tr then .skip else .exit 2) :: .code (Zg (Zg LB2)) :: .inLoop LB2 :: .inBlock 2 :: kk)) cs) w) →
      PW Try.prog c S Z orig O (G (b.at (act 94 ρ) (.code LB2 :: .inLoop LB2 :: .inBlock 2 :: kk)) cs) w := by
    intro i tr him htr ρ w Z orig O h57 h58 hk
    refine PW.of ?_
    letI : JD Try.prog := ⟨Jp Try.prog Z⟩
    refine JE (Qcs (n := 94) (K := fun ρ' w' => w' = w ∧ ρ' 59 = .bool tr ∧ ∀ i, i < 59 → ρ' i = ρ i) ?_ hb ?_)
    · refine Ym (v := .bool (decide ((m - i : Int) < m))) rfl (Xh h58 h57) ?_
      refine Qb ⟨rfl, ?_, fun i hi => Qal hi⟩
      rw [htr]
      show Value.bool (decide ((m - i : Int) < m)) = _
      congr 1
      by_cases h : 0 < i
      · rw [decide_eq_true h, decide_eq_true]; omega
      · rw [decide_eq_false h, decide_eq_false]; omega
    · rintro ρ' w' ⟨rfl, h59, hr'⟩
      exact JE (Qmh (n := 94) (by exact h59) (hk ρ' hr').stop)
  intro i
  induction i with
  | zero =>
    intro rem dn best hlen hperm hfold ρ w Z orig v8 hρ hρ10 h57 h58 hI hR10 hB8 hs8
    obtain rfl := List.eq_nil_of_length_eq_zero hlen
    refine head 0 false (Nat.zero_le _) (by simp) ρ w Z orig _ h57 h58 fun ρ' hr' => PW.of ?_
    letI : JD Try.prog := ⟨Jp Try.prog Z⟩
    refine Qqt rfl (.stop fun w1 r1 => .done rfl fun w2 r2 => ?_)
    rw [List.append_nil] at hperm
    have hbr : best = r := by have := hr dn hperm; rw [hfold] at this; exact Option.some.inj this
    subst hbr
    have hI2 := (hI.rel r1).rel r2
    exact hE ρ' _ v8 (fun i hi => (hr' i (by omega)).trans (hρ i hi)) hI2.thaw (((hs8.step (Stepp.ext r1.ext)).step (Stepp.ext r2.ext)).step hI2.thawS) (hI2.thawB ((hB8.ext r1.ext).ext r2.ext))
  | succ i ih =>
    intro rem dn best hlen hperm hfold ρ w Z orig v8 hρ hρ10 h57 h58 hI hR10 hB8 hs8
    have him : i + 1 ≤ m := by
      have h1 := hperm.length_eq
      rw [List.length_append] at h1
      omega
    refine head (i + 1) true him (by simp) ρ w Z orig _ h57 h58 fun ρ1 hr1 => PW.of ?_
    letI : JD Try.prog := ⟨Jp Try.prog Z⟩
    have q10 : ρ1 10 = pt b10 := (hr1 10 (by omega)).trans hρ10
    refine Qot (JE (Qhx (JE (Qom ?_))))
    refine Qvl (n := 94) (i := 0) (rest := [1, 2, 3]) (K := fun v w' => v = .chan (some c) ∧ w' = w) rfl rfl (Qqq (Qp Qww q10 hR10.at) ⟨rfl, rfl⟩) hb ?_
    rintro _ w' ⟨rfl, rfl⟩
    refine .stop fun w1 r1 => ?_
    obtain ⟨inf, z, hz1, hz2, _⟩ := zi154'.ex
    refine PW.rcv (z := z) rfl rfl (by kernel_rfl) hb Try.underlying156 ⟨inf, hz1, hz2⟩ (by rw [Qar]; rfl) (fun e => by rw [List.map_eq_nil_iff] at e; subst e; simp at hlen) ?_
    intro O1 φ O2 hO w2 xw w3 u r2 hφ hsh hmo hlo
    obtain ⟨rem1, p, rem2, rfl, hO1, hφp, hO2⟩ := QHy hO
    subst hO1; subst hφp; subst hO2
    obtain ⟨cs0, rfl, hp⟩ := hφ
    obtain ⟨v9, hs9, rfl⟩ := hp
    have hI3 := ((hI.rel r1).rel r2).more hmo hlo hc
    have hR3 := ((hR10.step (Stepp.ext (L := []) r1.ext) (Avoids.nil _)).step (Stepp.ext (L := []) r2.ext) (Avoids.nil _)).step (Shows.stepp (L := []) hmo.shows) (Avoids.nil _)
    have hB3 := hmo.shows.box ((hB8.ext r1.ext).ext r2.ext)
    have hs3 := ((hs8.step (Stepp.ext r1.ext)).step (Stepp.ext r2.ext)).step (Shows.stepp hmo.shows)
    have hs9 := hs9.step (Shows.stepp hsh)
    -- the plan's place among the others
    have hperm2 : (dn ++ p :: (rem1 ++ rem2)).Perm rs := ((List.Perm.append_left dn List.perm_middle).symm).trans hperm
    have hf2 := hr _ hperm2
    rw [Qnj, hfold, Qs] at hf2
    simp only [Zd] at hf2
    obtain ⟨x, hx⟩ : ∃ x, Qay p best = some x := by
      cases hbs : Qay p best with
      | none => rw [hbs] at hf2; cases hf2
      | some x => exact ⟨x, rfl⟩
    have hfold2 : Zd (dn ++ [p]) ⟨[], 0, false⟩ = some (bif x then p else best) := by
      rw [Qnj, hfold, Qs]
      simp only [Zd, hx, Qs]
    have fin : ∀ (ρ' : Env) (w4 : World) (v8' : Value), (∀ i, i < 12 → ρ' i = ρ1 i) → ρ' 57 = ρ1 57 → ρ' 58 = ρ1 58 → Inv w0 b8 Z orig w4 → RowAt w4 b10 [.chan (some c)] → Box w4 b8 [v8', .int .i64 (bif x then p else best).delay, .bool (bif x then p else best).found] 154 → SlRd L w4 v8' (bif x then p else best).at_ →
        Wlk (Jp Try.prog Z) (fun g w => PW Try.prog c S Z orig (rem1.map (Jt L) ++ rem2.map (Jt L)) g w) (G (b.at (act 94 ρ') (.inBlock 3 :: .code (Zg (Zg (Zg LB2))) :: .inLoop LB2 :: .inBlock 2 :: kk)) cs) w4 := by
      intro ρ' w4 v8' k1 k2 k3 k4 k5 k6 k7
      letI : JD Try.prog := ⟨Jp Try.prog Z⟩
      refine Qtq (Qcs (n := 94) (K := fun ρ2 w5 => w5 = w4 ∧ (∀ i, i < 12 → ρ2 i = ρ' i) ∧ ρ2 57 = ρ' 57 ∧ ρ2 58 = .int .i64 (m - i : Int)) ?_ hb ?_)
      · refine Ym (v := .int .i64 (w64 ((m - (i + 1 : Nat) : Int) + 1))) rfl (Q4 (k3.trans ((hr1 58 (by omega)).trans h58)) rfl) ?_
        refine Ym (v := .int .i64 (w64 ((m - (i + 1 : Nat) : Int) + 1))) rfl (QK rfl) ?_
        refine Qb ⟨rfl, fun j hj => (XI (by omega)).trans (XI (by omega)), (XI (by omega)).trans (XI (by omega)), ?_⟩
        show Value.int .i64 (w64 ((m - (i + 1 : Nat) : Int) + 1)) = _
        rw [wi (by omega) (by omega)]
        congr 1
        omega
      · rintro ρ2 w5 ⟨rfl, j1, j2, j3⟩
        refine Qtr ?_
        rw [← List.map_append]
        exact (ih (rem1 ++ rem2) (dn ++ [p]) _ (by simp at hlen ⊢; omega) (by simpa using hperm2) hfold2 ρ2 w5 Z orig v8' (fun i hi => (j1 i (by omega)).trans ((k1 i (by omega)).trans ((hr1 i (by omega)).trans (hρ i hi)))) ((j1 10 (by omega)).trans ((k1 10 (by omega)).trans q10)) (j2.trans (k2.trans ((hr1 57 (by omega)).trans h57))) j3 k4 k5 k6 k7).stop
    refine PW.of ?_
    rw [Ju]
    letI : JD Try.prog := ⟨Jp Try.prog Z⟩
    have hz3 : ∀ {x}, Z x → x < w3.heap.size := fun hx => by obtain ⟨_, _, _, _, h1, _⟩ := hI3.zrow _ hx; exact ZG h1
    refine Qvo (n := 94) (k := 2) (m := 2) (K := fun ρ' w4 => (∀ i, i < 12 → ρ' i = ρ1 i) ∧ ρ' 57 = ρ1 57 ∧ ρ' 58 = ρ1 58 ∧ ∃ b12, ρ' 12 = pt b12 ∧ Inv w0 b8 Z orig w4 ∧ RowAt w4 b10 [.chan (some c)] ∧ Box w4 b8 [v8, .int .i64 best.delay, .bool best.found] 154 ∧ SlRd L w4 v8 best.at_ ∧
      Box w4 b12 [v9, .int .i64 p.delay, .bool p.found] 154 ∧ SlRd L w4 v9 p.at_) rfl ?_ hb ?_
    · refine Qh rfl (Q7 zi154' fun b' w4 hb4 e4 hB4 => ?_)
      refine Qh rfl (QH (vs := [v9, .int .i64 p.delay, .bool p.found]) (cs' := [v9, .int .i64 p.delay, .bool p.found]) Z7 rfl rfl rfl rfl hB4 rfl (Qc hs9.one1 (Qc rfl (Qc rfl QC))) rfl fun w5 c5 hB5 => Qb ?_)
      have hzb : ¬ Z b' := fun hx => by have := hz3 hx; omega
      have hbw : w0.heap.size ≤ b' := Nat.le_trans hI3.size hb4
      have nb8 : b8 ≠ b' := fun e => by have := hI3.lt8; omega
      have nb10 : b10 ≠ b' := fun e => by have := hR3.lt; omega
      have hLb : ∀ {v xs}, SlRd L w3 v xs → SlRd L w5 v (xs : List Int) := fun h => by
        have h1 : SlRd (pt b' :: L) w4 _ _ := h.step (Stepp.add (pt b') e4 (fun k hk => by simp [pt, Qf] at hk; omega))
        exact (h1.step (Qg c5 (List.mem_cons_self ..))).sub (fun _ hx => List.mem_cons_of_mem _ hx)
      refine ⟨fun j hj => (XI (by omega)).trans ((XI (by omega)).trans (XI (by omega))), (XI (by omega)).trans ((XI (by omega)).trans (XI (by omega))), (XI (by omega)).trans ((XI (by omega)).trans (XI (by omega))), b', rfl, (hI3.ext e4).chg c5 (.inr ⟨hbw, hzb⟩), ?_, (hB3.ext e4).chg c5 (Yu nb8), hLb hs3, hB5, hLb hs9⟩
      exact (hR3.step (Stepp.ext (L := [pt b']) e4) (Yu nb10)).step (Qg (L := [pt b']) c5 Qaf) (Yu nb10)
    · rintro ρ2 w4 ⟨k1, k2, k3, b12, k4, k5, k6, k7, k8, k9, k10⟩
      have q8 : ρ2 8 = pt b8 := (k1 8 (by omega)).trans ((hr1 8 (by omega)).trans ((hρ 8 (by omega)).trans hP.r8))
      refine JE (Qcs (n := 94) (K := fun ρ' w5 => (∀ i, i < 13 → ρ' i = ρ2 i) ∧ ρ' 57 = ρ2 57 ∧ ρ' 58 = ρ2 58 ∧ ρ' 64 = .bool x ∧ Ext w4 w5) ?_ hb ?_)
      · refine Ym (v := .agg (List.toArray [v9, .int .i64 p.delay, .bool p.found])) rfl (QN (cs := [v9, .int .i64 p.delay, .bool p.found]) Zb k4 k9.at) ?_
        refine Ym (v := .agg (List.toArray [v8, .int .i64 best.delay, .bool best.found])) rfl (QN (cs := [v8, .int .i64 best.delay, .bool best.found]) Zb q8 k7.at) ?_
        refine Qh rfl (Qy Try.func89 Qgi rfl (Xb rfl rfl) (Qfu [] _ (LtL.nil _) [v9, .int .i64 p.delay, .bool p.found] p ⟨v9, k10.sub (fun _ h => by cases h), rfl⟩ [v8, .int .i64 best.delay, .bool best.found] best ⟨v8, k8.sub (fun _ h => by cases h), rfl⟩ x hx) ?_)
        rintro _ w5 ⟨e5, rfl⟩
        exact Qb ⟨fun j hj => (XI (by omega)).trans ((XI (by omega)).trans (XI (by omega))), (XI (by omega)).trans ((XI (by omega)).trans (XI (by omega))), (XI (by omega)).trans ((XI (by omega)).trans (XI (by omega))), rfl, e5⟩
      · rintro ρ3 w5 ⟨j1, j2, j3, j4, e5⟩
        refine Qmh (n := 94) (by exact j4) ?_
        have g1 : ∀ i, i < 12 → ρ3 i = ρ1 i := fun i hi => (j1 i (by omega)).trans (k1 i hi)
        have k6' := k6.step (Stepp.ext (L := []) e5) (Avoids.nil _)
        cases x with
        | false => exact Qot (fin ρ3 w5 v8 g1 (j2.trans k2) (j3.trans k3) (k5.ext e5) k6' (k7.ext e5) (k8.step (Stepp.ext e5)))
        | true =>
          refine Qcs (n := 94) (K := fun ρ' w6 => (∀ i, i < 12 → ρ' i = ρ3 i) ∧ ρ' 57 = ρ3 57 ∧ ρ' 58 = ρ3 58 ∧ Chg [pt b8] w5 w6 ∧ Box w6 b8 [v9, .int .i64 p.delay, .bool p.found] 154) ?_ hb ?_
          · refine Ym (v := .agg (List.toArray [v9, .int .i64 p.delay, .bool p.found])) rfl (QN (cs := [v9, .int .i64 p.delay, .bool p.found]) Zb ((j1 12 (by omega)).trans k4) (k9.ext e5).at) ?_
            refine Qh rfl (QH (vs := [v9, .int .i64 p.delay, .bool p.found]) (cs' := [v9, .int .i64 p.delay, .bool p.found]) Z7 rfl rfl ((g1 8 (by omega)).trans ((hr1 8 (by omega)).trans ((hρ 8 (by omega)).trans hP.r8))) rfl (k7.ext e5) rfl (Qc k10.one1 (Qc rfl (Qc rfl QC))) rfl fun w6 c6 hB6 => Qb ?_)
            exact ⟨fun j hj => XI (by omega), XI (by omega), XI (by omega), c6, hB6⟩
          · rintro ρ4 w6 ⟨i1, i2, i3, c6, hB6⟩
            refine fin ρ4 w6 v9 (fun i hi => (i1 i hi).trans (g1 i hi)) (i2.trans (j2.trans k2)) (i3.trans (j3.trans k3)) ((k5.ext e5).chg c6 (.inl rfl)) ?_ hB6 (((k10.step (Stepp.ext e5)).step (Qg c6 hP.h8)))
            exact k6'.step (Qg (L := [pt b8]) c6 Qaf) (Yu (n10 k5))
end
end Go.Gw

end
section
set_option maxRecDepth 100000
set_option maxHeartbeats 1000000
set_option linter.unusedVariables false
set_option linter.unusedSectionVars false
namespace Go.Gw
open Go Go.Conc Go.Proofs
attribute [local irreducible] T0 TS TT TP TX TZ Eff Stp WC Quiet gd
instance topJ : JD Try.prog := ⟨Jm Try.prog⟩
def QLm : Code → List Oper
  | .region _ o _ => o.toList
  | _ => []
noncomputable def ops11 : List Oper := QLm (sq1 Qgk)
theorem QAu {ρ : Env} {w : World} {b : Frame} {k : List Item} {cs : List Frame} {S : Goroutine → World → Prop} (hb : b.kind ≠ .early)
    (h : ∀ c w1, Rel w w1 → w.heap.size ≤ c → PW Try.prog c S (fun _ => False) (fun _ => none) [] (G (b.at (act 94 (Xw ρ (some 41) (.chan (some c)))) (.inRegion ops11.toArray [1, 2] :: k)) cs) w1) :
    ∀ w1, Rel w w1 → (Jm Try.prog).Ph (G (b.at (act 94 ρ) (.inRegion ops11.toArray [0, 1, 2] :: k)) cs) w1 S := by
  refine QAv (g := G (b.at (act 94 ρ) (.inRegion ops11.toArray [0, 1, 2] :: k)) cs) rfl (fun c => G (b.at (act 94 (Xw ρ (some 41) (.chan (some c)))) (.inRegion ops11.toArray [1, 2] :: k)) cs) (fun W => ?_) h
  have e : ops11.toArray[0]? = some { dst := some 41, op := .makeChan 156 (.const (.int .i64 0)), type := 156, pos := "plan.go:64", after := #[], guard := none } := by kernel_rfl
  have := QNo (P := Try.prog) (main := true) (b := b) (a := act 94 ρ) (k := k) (cs := cs) (ops := ops11.toArray) (i := 0) (rest := [1, 2]) e rfl rfl hb Try.underlying156 (by rw [Qar]; rfl) (by kernel_rfl) W
  rw [Ju] at this
  exact this
section
variable {L : List Value} {w : World} {b5 b8 b9 : Nat} {net : feed_net} {v1 v3 v5 v : Value} {t : FeedTrain} {ρ : Env} {q : Post} {r : feed_plan}
theorem QKh (hL : LtL L w) (h8 : pt b8 ∈ L) (n5 : b5 ≠ b8) (n9 : b9 ≠ b8) (r5 : ρ 5 = pt b5) (r8 : ρ 8 = pt b8) (r9 : ρ 9 = pt b9) (hB5 : Box w b5 [v1, v3, v5] 149) (hB9 : Box w b9 [.string t.Name, .int .i64 t.Earliest, .int .i64 t.Latest, v] 127) (hB8 : Box w b8 [.slice none 0 0, .int .i64 0, .bool false] 154)
    (hn : Rep.rd L w [v1, v3, v5] net) (ht : SlRd L w v t.Steps) (h : Qax net t = some r)
    (hK : ∀ ρ' w' v8, (∀ i, i < 10 → ρ' i = ρ i) → Chg [pt b8] w w' → SlRd L w' v8 r.at_ → Box w' b8 [v8, .int .i64 r.delay, .bool r.found] 154 → q.norm ρ' w') : WC Try.prog 94 Qgk q ρ w := by
  obtain ⟨⟨e0, e1, e2⟩, rs, hrs, hr⟩ := QGb h
  have hP : Par0 L w b5 b8 b9 net v1 v3 v5 v t ρ rs (t.Latest - t.Earliest + 1).toNat := ⟨hL, h8, n5, n9, r5, r8, r9, hB5.row, hB9.row, hn, ht, e0, e1, e2, rfl, hrs⟩
  have hlen := (Qjo hrs).1
  unfold WC
  intro b k cs Stop hb hQ
  show Wlk (Jm Try.prog) Stop _ w
  refine JE (Qom ?_)
  show Wlk (Jm Try.prog) Stop (G (b.at (act 94 ρ) (.inRegion ops11.toArray [0, 1, 2] :: .code (Zg Qgk) :: k)) cs) w
  refine .phase (fun g' w' => ∃ ρ', g' = G (b.at (act 94 ρ') k) cs ∧ q.norm ρ' w') rfl ?_ ?_
  · refine QAu hb fun c w1 r1 hc => ?_
    have hI1 := (Inv.start hB8.lt).rel r1
    have hB81 := hB8.ext r1.ext
    refine PW.of ?_
    letI : JD Try.prog := ⟨Jp Try.prog fun _ => False⟩
    refine Qvo (ops := ops11) (n := 94) (k := 1) (m := 2) (K := fun ρ' w2 => (∀ i, i < 10 → ρ' i = ρ i) ∧ ∃ b10, ρ' 10 = pt b10 ∧ w.heap.size ≤ b10 ∧ Inv w b8 (fun _ => False) (fun _ => none) w2 ∧ RowAt w2 b10 [.chan (some c)] ∧ Box w2 b8 [.slice none 0 0, .int .i64 0, .bool false] 154) rfl ?_ hb ?_
    · refine Qh rfl (Q7 QPz fun b' w4 hb4 e4 hB4 => ?_)
      refine Qh rfl (QH (vs := [.chan (some c)]) (cs' := [.chan (some c)]) QNu rfl rfl rfl rfl hB4 rfl (Qc rfl QC) rfl fun w5 c5 hB5 => Qb ?_)
      have hbw : w.heap.size ≤ b' := Nat.le_trans hI1.size hb4
      have nb8 : b8 ≠ b' := fun e => by have := hI1.lt8; omega
      exact ⟨fun i hi => (XI (by omega)).trans (XI (by omega)), b', rfl, hbw, (hI1.ext e4).chg c5 (.inr ⟨hbw, fun h => h⟩), hB5.row, (hB81.ext e4).chg c5 (Yu nb8)⟩
    · rintro ρ2 w2 ⟨k1, b10, k2, k3, k4, k5, k6⟩
      refine JE (JE (Qcs (n := 94) (K := fun ρ' w3 => (∀ i, i < 11 → ρ' i = ρ2 i) ∧ ∃ b11, ρ' 11 = pt b11 ∧ w.heap.size ≤ b11 ∧ Inv w b8 (fun _ => False) (fun _ => none) w3 ∧ RowAt w3 b10 [.chan (some c)] ∧ Box w3 b8 [.slice none 0 0, .int .i64 0, .bool false] 154 ∧ Box w3 b11 [.int .i64 t.Earliest] 3) ?_ hb ?_))
      · have hB9' := hP.B9.step (k4.stepp (L := [pt b8]) Qaf) (Yu n9)
        refine Ym (v := .pointer (some ⟨b9, 1, none⟩)) rfl (Qr 1 Try.underlying127 rfl rfl ⟨0, QI⟩ ((k1 9 (by omega)).trans r9) rfl) ?_
        refine Ym (v := .int .i64 t.Earliest) rfl (Qp QG rfl (At.drop hB9'.at 1)) ?_
        refine Qh rfl (Q7 zi3 fun b' w4 hb4 e4 hB4 => ?_)
        refine Qh rfl (QH (vs := [.int .i64 t.Earliest]) (cs' := [.int .i64 t.Earliest]) QI rfl rfl rfl rfl hB4 rfl (Qc rfl QC) rfl fun w5 c5 hB5 => Qb ?_)
        have hbw : w.heap.size ≤ b' := Nat.le_trans k4.size hb4
        have nb8 : b8 ≠ b' := fun e => by have := k4.lt8; omega
        have nb10 : b10 ≠ b' := fun e => by have := k5.lt; omega
        refine ⟨fun i hi => (XI (by omega)).trans ((XI (by omega)).trans (XI (by omega))), b', rfl, hbw, (k4.ext e4).chg c5 (.inr ⟨hbw, fun h => h⟩), ?_, (k6.ext e4).chg c5 (Yu nb8), hB5⟩
        exact (k5.step (Stepp.ext (L := [pt b']) e4) (Yu nb10)).step (Qg (L := [pt b']) c5 Qaf) (Yu nb10)
      · rintro ρ3 w3 ⟨j1, b11, j2, j3, j4, j5, j6, j7⟩
        refine Qhx (Quh ?_)
        have g1 : ∀ i, i < 10 → ρ3 i = ρ i := fun i hi => (j1 i (by omega)).trans (k1 i hi)
        refine (QGq hP (b10 := b10) hc hb k3 (fun ρ4 w4 Z orig i1 i2 i3 i4 i5 => ?_) (t.Latest - t.Earliest + 1).toNat 0 (by omega) ρ3 w3 (fun _ => False) (fun _ => none) b11 g1 ((j1 10 (by omega)).trans k2) j2 j4 j5 j6 (by simpa using j7) j3 (fun h => h)).stop
        refine PW.of ?_
        letI : JD Try.prog := ⟨Jp Try.prog Z⟩
        have hB9' := hP.B9.step (i3.stepp (L := [pt b8]) Qaf) (Yu n9)
        refine JE (Qcs (n := 94) (K := fun ρ' w5 => w5 = w4 ∧ (∀ i, i < 52 → ρ' i = ρ4 i) ∧ ρ' 57 = .int .i64 (t.Latest - t.Earliest + 1).toNat ∧ ρ' 58 = .int .i64 0) ?_ hb ?_)
        · refine Ym (v := .pointer (some ⟨b9, 2, none⟩)) rfl (Qr 2 Try.underlying127 rfl rfl ⟨0, QI⟩ ((i1 9 (by omega)).trans r9) rfl) ?_
          refine Ym (v := .int .i64 t.Latest) rfl (Qp QG rfl (At.drop hB9'.at 2)) ?_
          refine Ym (v := .pointer (some ⟨b9, 1, none⟩)) rfl (Qr 1 Try.underlying127 rfl rfl ⟨0, QI⟩ ((i1 9 (by omega)).trans r9) rfl) ?_
          refine Ym (v := .int .i64 t.Earliest) rfl (Qp QG rfl (At.drop hB9'.at 1)) ?_
          refine Ym (v := .int .i64 (w64 (t.Latest - t.Earliest))) rfl (Jc rfl rfl) ?_
          refine Ym (v := .int .i64 (w64 (w64 (t.Latest - t.Earliest) + 1))) rfl (Q4 rfl rfl) ?_
          refine Ym (v := .int .i64 0) rfl (QK rfl) ?_
          refine Qb ⟨rfl, fun i hi => (XI (by omega)).trans ((XI (by omega)).trans ((XI (by omega)).trans ((XI (by omega)).trans ((XI (by omega)).trans ((XI (by omega)).trans (XI (by omega))))))), ?_, rfl⟩
          show Value.int .i64 (w64 (w64 (t.Latest - t.Earliest) + 1)) = _
          rw [wi (i := t.Latest - t.Earliest) (by omega) (by omega), wi (by omega) (by omega)]
          congr 1
          omega
        · rintro ρ5 w5 ⟨rfl, l1, l2, l3⟩
          refine Qhx (Quh ?_)
          refine (QLb hP hr (b10 := b10) hc hb k3 (fun ρ6 w6 v8 o1 o2 o3 o4 => ⟨ρ6, rfl, hK ρ6 w6 v8 o1 o2 o3 o4⟩) (t.Latest - t.Earliest + 1).toNat rs [] ⟨[], 0, false⟩ hlen (by simp) rfl ρ5 w5 Z orig (.slice none 0 0) (fun i hi => (l1 i (by omega)).trans (i1 i hi)) ((l1 10 (by omega)).trans i2) l2 (by rw [l3, Int.sub_self]) i3 i4 i5 (SlRd.nil _ _)).stop
  · rintro g' w' ⟨ρ', rfl, hq⟩
    exact hQ .normal _ _ ⟨ρ', rfl, hq⟩
end
end Go.Gw

end
section
set_option maxRecDepth 4096
set_option maxHeartbeats 8000000
set_option linter.unusedVariables false
set_option linter.unusedSectionVars false
namespace Go.Gw
open Go Go.Proofs
attribute [local irreducible] T0 TS TT TP TX TZ Eff Stp WC Quiet gd
noncomputable def Qcg (r20 : (feed_net × Int)) (x205 : (List Int)) : ((List FeedDeparture) × Int) → Option (((List FeedDeparture) × Int) ⊕ ((List FeedDeparture))):=fun (x544,x552)=>(bif (decide (x552 < (x205.length : Int))) then ( (Option.bind (idx x205 x552) fun el597=>(Option.bind (idx r20.1.FeedNet.Trains x552) fun el603=>(Option.bind (app x544 ([(FeedDeparture.mk el603.Name el597)] : List FeedDeparture)) fun zs618=>some (.inl (zs618,w64 (x552 + 1))) ) ) ) ) else ( some (.inr x544) ))
noncomputable def Qaw (p_Listappend : FeedNet) : Option ((List FeedDeparture) × Int × Int):=(Option.bind (Qcj p_Listappend) fun r20=>(bif (!decide (r20.2 = 0)) then ( some (([] : (List FeedDeparture)),0,r20.2) ) else ( (Option.bind (Qdx (feed_net.mk (FeedNet.mk r20.1.FeedNet.Stations r20.1.FeedNet.Sections r20.1.FeedNet.Trains))) fun r70=>(bif (!decide (r70 = 0)) then ( some (([] : (List FeedDeparture)),0,r70) ) else ( (Option.bind (α:=((List Int) × Int × Bool)) ( (bif (decide ((r20.1.FeedNet.Trains.length : Int) = 0)) then ( (Option.bind (YQ 4 (feed_net.mk (FeedNet.mk r20.1.FeedNet.Stations r20.1.FeedNet.Sections r20.1.FeedNet.Trains)) [] 0) fun r218=>some (r218.at_,r218.delay,r218.found) ) ) else ( (Option.bind (idx r20.1.FeedNet.Trains 0) fun el243=>(Option.bind (Qax (feed_net.mk (FeedNet.mk r20.1.FeedNet.Stations r20.1.FeedNet.Sections r20.1.FeedNet.Trains)) el243) fun r285=>some (r285.at_,r285.delay,r285.found) ) ) )) ) fun ((x205,x209,x210) : (List Int) × Int × Bool)=>(bif (!x210) then ( some (([] : (List FeedDeparture)),0,12) ) else ( (Option.bind (loop (Qcg r20 x205) (([] : List FeedDeparture),0)) fun (x575 : (List FeedDeparture))=>some (x575,x209,0) ) )) ) )) ) )) )
theorem Qrb (L : List Value) (w : World) (hL : LtL L w) (cs_p_Listappend : List Value) (p_Listappend : FeedNet) (h_p_Listappend : Rep.rd L w cs_p_Listappend p_Listappend) (r : (List FeedDeparture) × Int × Int) (h : Qaw p_Listappend = some r) : CallsTo Try.prog 22 [(.agg cs_p_Listappend.toArray)] w (fun v w'=>Ext w w'∧∃ (v0 : Value),(.tuple #[v0,(Iv r.2.1),(Iv r.2.2)]) = v∧SlRd L w' v0 r.1):=by
 have e0 : Ext w w:=Chg.refl _ _;obtain ⟨v1,v3,v5,h2,h4,h6,rfl⟩:=h_p_Listappend;refine Xc (n:=94) (rs:=[.tmp 2,.tmp 3,.tmp 4]) Try.func22 rfl rfl rfl rfl rfl<|Qe<|Qh rfl (Xr (cs:=[v1,v3,v5]) rfl rfl ?_);intro b11 wd12 hb13 he14 hB15;have e17:=e0.trans he14;refine Qk (.slice none 0 0) rfl<|Qk (Iv 0) rfl<|Qk (Iv 0) rfl<|Qb<|Qe<|Qa (AgV [v1,v3,v5]) (QN (cs:=[v1,v3,v5]) Yt rfl (Box.at hB15)) ?_;replace h:=Qi h;obtain ⟨r20,hr21,h⟩:=h;refine Qh rfl (Qy Try.func85 Qvg rfl (Q9 rfl) (Qsw L _ (hL.chg e17) [v1,v3,v5] p_Listappend ⟨v1,v3,v5,(h2.ext he14),(h4.ext he14),(h6.ext he14),rfl⟩ r20 hr21) ?_);rintro _ wd22 ⟨he23,cs30,rfl,hrd31⟩;have e33:=e17.trans he23;obtain ⟨v24,v26,v28,h25,h27,h29,rfl⟩:=hrd31;refine Qd (.tuple #[(AgV [v24,v26,v28]),(Iv r20.2)]) rfl<|Qa (AgV [v24,v26,v28]) (Xs rfl rfl)<|Qa (Iv r20.2) (Xs rfl rfl)<|Qh rfl (Q7 Qez ?_);intro b37 wd38 hb39 he40 hB41;have hbf43:=Q8 e33 hb39;have h47:=h25.step (Qm he40 hb39);have h48:=h27.step (Qm he40 hb39);have h49:=h29.step (Qm he40 hb39);have e51:=e33.trans he40;refine Qh rfl (QH (vs:=[v24,v26,v28]) (cs':=[v24,v26,v28]) Qcz rfl rfl rfl rfl hB41 rfl (Qc h47.one1 (Qc h48.one1 (Qc h49.one1 QC))) rfl ?_);intro wd53 hc54 hB55;have h60:=h47.step (Qg hc54 Qn);have h61:=h48.step (Qg hc54 Qn);have h62:=h49.step (Qg hc54 Qn);have e63:=QJ e51 hc54 hbf43;refine Qk (Iv r20.2) rfl<|Qb<|Ql fun K64 hK64=>Qe<|Qd (Iv r20.2) rfl<|Qa (.bool (!decide (r20.2 = 0))) (XJ rfl rfl)<|Qb<|Qv (b:=(!decide (r20.2 = 0))) rfl (fun hb66=>?_) (fun hb66=>?_)
 ·clear hK64;replace h:=Qw hb66 h;refine Qe<|Qd (Iv r20.2) rfl<|Qk (.slice none 0 0) rfl<|Qk (Iv 0) rfl<|Qk (Iv r20.2) rfl<|Qb<|QA ?_;replace h:=Qj h;subst h;exact ⟨[(.slice none 0 0),(Iv 0),(Iv r20.2)],⟨rfl,rfl,rfl,trivial⟩,e63,(.slice none 0 0),rfl,(SlRd.nil _ _)⟩
 ·replace h:=QD hb66 h;refine Qx<|hK64 _ _<|Ql fun K68 hK68=>Qe<|Qa (AgV [v24,v26,v28]) (QN (cs:=[v24,v26,v28]) ZB rfl (Box.at hB55)) ?_;replace h:=Qi h;obtain ⟨r70,hr71,h⟩:=h;refine Qh rfl (Qy Try.func86 QJo rfl (Q9 rfl) (QFl [] _ (LtL.nil _) [v24,v26,v28] (feed_net.mk (FeedNet.mk r20.1.FeedNet.Stations r20.1.FeedNet.Sections r20.1.FeedNet.Trains)) ⟨v24,v26,v28,(h60.sub (fun _ h=>by cases h)),(h61.sub (fun _ h=>by cases h)),(h62.sub (fun _ h=>by cases h)),rfl⟩ r70 hr71) ?_);rintro _ wd72 ⟨he73,rfl⟩;have e74:=e63.trans he73;refine Qk (Iv r70) rfl<|Qb<|Qe<|Qd (Iv r70) rfl<|Qa (.bool (!decide (r70 = 0))) (XJ rfl rfl)<|Qb<|Qv (b:=(!decide (r70 = 0))) rfl (fun hb76=>?_) (fun hb76=>?_)
  ·clear hK64 hK68;replace h:=Qw hb76 h;refine Qe<|Qd (Iv r70) rfl<|Qk (.slice none 0 0) rfl<|Qk (Iv 0) rfl<|Qk (Iv r70) rfl<|Qb<|QA ?_;replace h:=Qj h;subst h;exact ⟨[(.slice none 0 0),(Iv 0),(Iv r70)],⟨rfl,rfl,rfl,trivial⟩,e74,(.slice none 0 0),rfl,(SlRd.nil _ _)⟩
  ·clear hK64;replace h:=QD hb76 h;refine Qx<|hK68 _ _<|Qe<|Qh rfl (Q7 Qby ?_);intro b79 wd80 hb81 he82 hB83;have hn85 : b79 ≠ b37:=QL (hB55.ext he73) hb81;have hbf86:=Q8 e74 hb81;have h90:=(h60.ext he73).step (Qm he82 hb81);have h91:=(h61.ext he73).step (Qm he82 hb81);have h92:=(h62.ext he73).step (Qm he82 hb81);have e93:=he73.trans he82;have e94:=e74.trans he82;refine Qb<|Ql fun K96 hK96=>Qe<|Qa (pt b37) (Qr 0 Try.underlying149 rfl rfl ⟨2,X9⟩ rfl rfl)<|Qa (ptk b37 2) (Qr 2 Try.underlying26 rfl rfl ⟨0,X3⟩ rfl rfl)<|Qa v28 (Qp Yc rfl (At.drop (Box.at (hB55.ext e93)) 2))<|Qa (Iv (r20.1.FeedNet.Trains.length : Int)) (Q6 rfl Try.underlying24 h92 rfl)<|Qa (.bool (decide ((r20.1.FeedNet.Trains.length : Int) = 0))) (Yz rfl rfl)<|Qb ?_;replace h:=Qi h;obtain ⟨o213,ho214,hn215⟩:=h;refine Xm (fun (ρ : Env) (wd196 : World)=>∃ (x205 : (List Int)) (x209 : Int) (x210 : Bool) (v206 : Value),(x205,x209,x210) = o213∧ρ 5 = (pt b37)∧ρ 8 = (pt b79)∧SlRd ((pt b79) :: (pt b37) :: L) wd196 v24 r20.1.FeedNet.Stations∧SlRd ((pt b79) :: (pt b37) :: L) wd196 v26 r20.1.FeedNet.Sections∧SlRd ((pt b79) :: (pt b37) :: L) wd196 v28 r20.1.FeedNet.Trains∧SlRd ((pt b79) :: (pt b37) :: L) wd196 v206 x205∧Box wd196 b37 [v24,v26,v28] 149∧Box wd196 b79 [v206,(Iv x209),(.bool x210)] 154∧Ext w wd196) ?_ ?_
   ·clear hK68 hK96;intro K216 hK216;replace h:=ho214;clear ho214;refine Qv (b:=(decide ((r20.1.FeedNet.Trains.length : Int) = 0))) rfl (fun hb217=>?_) (fun hb217=>?_)
    ·replace h:=Qw hb217 h;refine QQ<|Qa (AgV [v24,v26,v28]) (QN (cs:=[v24,v26,v28]) ZB rfl (Box.at (hB55.ext e93))) ?_;replace h:=Qi h;obtain ⟨r218,hr219,h⟩:=h;refine Qh rfl (Qy Try.func87 Qef rfl (XR rfl rfl rfl) (Qso 4 ((pt b79) :: (pt b37) :: L) _ (Q5 (Q5 (hL.chg e94) (hB55.ext e93)) hB83) [v24,v26,v28] (feed_net.mk (FeedNet.mk r20.1.FeedNet.Stations r20.1.FeedNet.Sections r20.1.FeedNet.Trains)) ⟨v24,v26,v28,h90,h91,h92,rfl⟩ (.slice none 0 0) [] (SlRd.nil _ _) 0 r218 hr219) ?_);rintro _ wd220 ⟨he221,cs224,rfl,hrd225⟩;have e226:=e93.trans he221;have e227:=e94.trans he221;obtain ⟨v222,h223,rfl⟩:=hrd225;refine Qh rfl (QH (vs:=[v222,(Iv r218.delay),(.bool r218.found)]) (cs':=[v222,(Iv r218.delay),(.bool r218.found)]) Z7 rfl rfl rfl rfl (hB83.ext he221) rfl (Qc h223.one1 (Qc rfl (Qc rfl QC))) rfl ?_);intro wd229 hc230 hB231;have h236:=(h90.ext he221).step (Qg hc230 Qn);have h237:=(h91.ext he221).step (Qg hc230 Qn);have h238:=(h92.ext he221).step (Qg hc230 Qn);have h239:=(hB55.ext e226).chg hc230 (Qt hn85);have h240:=h223.step (Qg hc230 Qn);have e241:=QJ e227 hc230 hbf86;refine Qb ?_;replace h:=Qj h;subst h;refine hK216 _ _ ?_;exact ⟨r218.at_,r218.delay,r218.found,v222,rfl,rfl,rfl,h236,h237,h238,h240,h239,hB231,e241⟩
    ·replace h:=QD hb217 h;refine Qe<|Qa (pt b37) (Qr 0 Try.underlying149 rfl rfl ⟨2,X9⟩ rfl rfl)<|Qa (ptk b37 2) (Qr 2 Try.underlying26 rfl rfl ⟨0,X3⟩ rfl rfl)<|Qa v28 (Qp Yc rfl (At.drop (Box.at (hB55.ext e93)) 2)) ?_;replace h:=Qi h;obtain ⟨el243,hel244,h⟩:=h;have hq:=SlRd.at h92 hel244;obtain ⟨cs247,hat248,hrd249⟩:=hq;obtain ⟨v245,h246,rfl⟩:=hrd249;refine Qa (.pointer (some (QT v28 (0 : Int).toNat 4))) (Xe Try.underlying24 YN h92 hel244 rfl rfl)<|Qa (AgV [(.string el243.Name),(Iv el243.Earliest),(Iv el243.Latest),v245]) (QN (cs:=[(.string el243.Name),(Iv el243.Earliest),(Iv el243.Latest),v245]) Jv rfl hat248)<|Qh rfl (Q7 Qln ?_);intro b252 wd253 hb254 he255 hB256;have hn258 : b252 ≠ b37:=QL (hB55.ext e93) hb254;have hn259 : b252 ≠ b79:=QL hB83 hb254;have hbf260:=Q8 e94 hb254;have h264:=h90.step (Qm he255 hb254);have h265:=h91.step (Qm he255 hb254);have h266:=h92.step (Qm he255 hb254);have h267:=h246.step (Qm he255 hb254);have e268:=e93.trans he255;have e269:=e94.trans he255;refine Qh rfl (QH (vs:=[(.string el243.Name),(Iv el243.Earliest),(Iv el243.Latest),v245]) (cs':=[(.string el243.Name),(Iv el243.Earliest),(Iv el243.Latest),v245]) YN rfl rfl rfl rfl hB256 rfl (Qc rfl (Qc rfl (Qc rfl (Qc h267.one1 QC)))) rfl ?_);intro wd271 hc272 hB273;have h278:=h264.step (Qg hc272 Qn);have h279:=h265.step (Qg hc272 Qn);have h280:=h266.step (Qg hc272 Qn);have h281:=(hB55.ext e268).chg hc272 (Qt hn258);have h282:=(hB83.ext he255).chg hc272 (Qt hn259);have h283:=h267.step (Qg hc272 Qn);have e284:=QJ e269 hc272 hbf260;refine Qb ?_;replace h:=Qi h;obtain ⟨r285,hr286,h⟩:=h;refine QKh (L:=((pt b252) :: (pt b79) :: (pt b37) :: L)) (b5:=b37) (b8:=b79) (b9:=b252) (net:=(feed_net.mk (FeedNet.mk r20.1.FeedNet.Stations r20.1.FeedNet.Sections r20.1.FeedNet.Trains))) (t:=el243) (v1:=v24) (v3:=v26) (v5:=v28) (v:=v245) (Q5 (Q5 (Q5 (hL.chg e284) h281) h282) hB273) QZ hn85.symm hn259 rfl rfl rfl h281 hB273 h282 ⟨v24,v26,v28,h278,h279,h280,rfl⟩ h283 hr286 ?_;intro ρ wd287 v288 hp289 hc290 h291 hB292;have hs293 : ρ 0 = (AgV [v1,v3,v5]):=(hp289 0 (by decide)).trans rfl;have hs294 : ρ 1 = (pt b11):=(hp289 1 (by decide)).trans rfl;have hs295 : ρ 2 = (.slice none 0 0):=(hp289 2 (by decide)).trans rfl;have hs296 : ρ 3 = (Iv 0):=(hp289 3 (by decide)).trans rfl;have hs297 : ρ 4 = (Iv 0):=(hp289 4 (by decide)).trans rfl;have hs298 : ρ 5 = (pt b37):=(hp289 5 (by decide)).trans rfl;have hs299 : ρ 6 = (Iv r20.2):=(hp289 6 (by decide)).trans rfl;have hs300 : ρ 7 = (Iv r70):=(hp289 7 (by decide)).trans rfl;have hs301 : ρ 8 = (pt b79):=(hp289 8 (by decide)).trans rfl;have hs302 : ρ 9 = (pt b252):=(hp289 9 (by decide)).trans rfl;have h307:=h278.step (Qg hc290 QZ);have h308:=h279.step (Qg hc290 QZ);have h309:=h280.step (Qg hc290 QZ);have h310:=h281.chg hc290 (Qt hn85);have e313:=QJ e284 hc290 hbf86;replace h:=Qj h;subst h;refine hK216 _ _ ?_;exact ⟨r285.at_,r285.delay,r285.found,v288,rfl,hs298,hs301,(h307.sub Zs),(h308.sub Zs),(h309.sub Zs),(h291.sub Zs),h310,hB292,e313⟩
   ·clear hK68;rintro ρ wd196 ⟨x205,x209,x210,v206,rfl,hs198,hs199,h200,h201,h202,h208,hB204,hB212,e197⟩;replace h:=hn215;refine hK96 _ _<|Ql fun K315 hK315=>Qe<|Qa (ptk b79 2) (Qr 2 Try.underlying154 rfl rfl ⟨0,sz4⟩ hs199 rfl)<|Qa (.bool x210) (Qp sc4 rfl (At.drop (Box.at hB212) 2))<|Qa (.bool (!x210)) (Xp rfl)<|Qb<|Qv (b:=(!x210)) rfl (fun hb317=>?_) (fun hb317=>?_)
    ·clear hK315 hK96;replace h:=Qw hb317 h;refine Qe<|Qk (.slice none 0 0) rfl<|Qk (Iv 0) rfl<|Qk (Iv 12) rfl<|Qb<|QA ?_;replace h:=Qj h;subst h;exact ⟨[(.slice none 0 0),(Iv 0),(Iv 12)],⟨rfl,rfl,rfl,trivial⟩,e197,(.slice none 0 0),rfl,(SlRd.nil _ _)⟩
    ·clear hK96;replace h:=QD hb317 h;refine Qx<|hK315 _ _<|QR (.slice none 0 0) rfl<|Ql fun K320 hK320=>Qe<|Qa (pt b79) (Qr 0 Try.underlying154 rfl rfl ⟨0,Qeo⟩ hs199 rfl)<|Qa v206 (Qp Qkf rfl (Box.at hB212))<|Qa (Iv (x205.length : Int)) (Q6 rfl Try.underlying52 h208 rfl)<|Qd (Iv 0) rfl<|Qb ?_;have h563:=h200.step (YB _);have h564:=h201.step (YB _);have h565:=h202.step (YB _);have h566:=h208.step (YB _);have h568 : Own 62 ((.slice none 0 0) :: (pt b79) :: (pt b37) :: L) wd196 (.slice none 0 0) ([] : List FeedDeparture):=Own.nil _ _ _;replace h:=Qi h;obtain ⟨o584,hl585,hn586⟩:=h;refine Xm (fun (ρ : Env) (wd570 : World)=>∃ (x575 : (List FeedDeparture)) (v574 : Value),x575 = o584∧ρ 8 = (pt b79)∧ρ 13 = v574∧SlRd (v574 :: (pt b79) :: L) wd570 v206 x205∧Box wd570 b79 [v206,(Iv x209),(.bool x210)] 154∧Own 62 (v574 :: (pt b79) :: L) wd570 v574 x575∧(∀ b,Qf v574 = some b → w.heap.size ≤ b)∧(Qf v574 ≠ some b79)∧Ext w wd570) ?_ ?_
     ·clear hK315 hK320;intro K590 hK590;refine QP<|Xu (fun sv ρ wd538=>∃ (x544 : (List FeedDeparture)) (x552 : Int) (v543 : Value),(x544,x552) = sv∧ρ 5 = (pt b37)∧ρ 8 = (pt b79)∧ρ 13 = v543∧ρ 71 = v206∧ρ 72 = (Iv (x205.length : Int))∧ρ 73 = (Iv x552)∧SlRd (v543 :: (pt b79) :: (pt b37) :: L) wd538 v206 x205∧SlRd (v543 :: (pt b79) :: (pt b37) :: L) wd538 v24 r20.1.FeedNet.Stations∧SlRd (v543 :: (pt b79) :: (pt b37) :: L) wd538 v26 r20.1.FeedNet.Sections∧SlRd (v543 :: (pt b79) :: (pt b37) :: L) wd538 v28 r20.1.FeedNet.Trains∧Box wd538 b37 [v24,v26,v28] 149∧Box wd538 b79 [v206,(Iv x209),(.bool x210)] 154∧Own 62 (v543 :: (pt b79) :: (pt b37) :: L) wd538 v543 x544∧(∀ b,Qf v543 = some b → w.heap.size ≤ b)∧(Qf v543 ≠ some b37)∧(Qf v543 ≠ some b79)∧Ext w wd538) hl585 ⟨([] : List FeedDeparture),0,(.slice none 0 0),rfl,hs198,hs199,rfl,rfl,rfl,rfl,h566,h563,h564,h565,hB204,hB212,h568,(fun b h=>Qcb b h),(fun h=>by cases h),(fun h=>by cases h),e197⟩ ?_;rintro _ ρ wd538 ⟨x544,x552,v543,rfl,hs540,hs541,hs548,hs550,hs551,hs553,h549,h554,h555,h556,hB558,hB560,h546,hf547,hn561,hn562,e539⟩ x587 h hx588 K589 hK589;refine Qe<|Qa (.bool (decide (x552 < (x205.length : Int)))) (Xh hs553 hs551)<|Qb<|Ql fun K593 hK593=>Qv (b:=(decide (x552 < (x205.length : Int)))) rfl (fun hb594=>?_) (fun hb594=>?_)
      ·clear hK590;replace h:=Qw hb594 h;refine Qx<|hK593 _ _<|Ql fun K595 hK595=>QP<|Qe<|Qd (Iv x552) hs553 ?_;replace h:=Qi h;obtain ⟨el597,hel598,h⟩:=h;have hq:=SlRd.at h549 hel598;obtain ⟨cs599,hat600,hrd601⟩:=hq;have hrd601 : cs599 = [(Iv el597)]:=hrd601;subst hrd601;refine Qa (.pointer (some (QT v206 (x552 : Int).toNat 1))) (Xe Try.underlying52 QI h549 hel598 hs550 hs553)<|Qa (Iv el597) (Qp QG rfl hat600)<|Qk (Iv x552) rfl<|Qk (Iv el597) rfl<|Qb<|QQ<|Qd v543 hs548<|Qa (pt b37) (Qr 0 Try.underlying149 rfl rfl ⟨2,X9⟩ hs540 rfl)<|Qa (ptk b37 2) (Qr 2 Try.underlying26 rfl rfl ⟨0,X3⟩ rfl rfl)<|Qa v28 (Qp Yc rfl (At.drop (Box.at hB558) 2))<|Qd (Iv x552) rfl ?_;replace h:=Qi h;obtain ⟨el603,hel604,h⟩:=h;have hq:=SlRd.at h556 hel604;obtain ⟨cs607,hat608,hrd609⟩:=hq;obtain ⟨v605,h606,rfl⟩:=hrd609;refine Qa (.pointer (some (QT v28 (x552 : Int).toNat 4))) (Xe Try.underlying24 YN h556 hel604 rfl rfl)<|Qa (.pointer (some (QT v28 (x552 : Int).toNat 4))) (Qr 0 Try.underlying127 rfl rfl ⟨0,YU⟩ rfl rfl)<|Qa (.string el603.Name) (Qp YM rfl hat608)<|Qd (Iv el597) rfl<|Qa (AgV [(.string el603.Name),(Iv el597)]) (Xa (cells:=[(.string el603.Name),(Iv el597)]) Qfd (QE rfl rfl (QE rfl rfl QS)) rfl)<|Qh rfl (Yi (xs:=([(FeedDeparture.mk el603.Name el597)] : List FeedDeparture)) (cells:=[(.string el603.Name),(Iv el597)]) Try.underlying29 J1 rfl (QE rfl rfl QS) rfl (Elems.cons (cs:=[(.string el603.Name),(Iv el597)]) rfl Elems.nil) rfl (ZO (Q5 (Q5 (hL.chg e539) hB558) hB560) h546) ?_);intro b615 wd612 he613 h614;have e616:=e539.trans he613;replace h:=Qi h;obtain ⟨zs618,hz619,h⟩:=h;refine Qh rfl (Qce Try.underlying29 J1 rfl rfl rfl rfl (h546.ext he613) h614 hz619 ?_);intro v620 wd621 hc622 hbl623 h624;have hn626 : Qf v620 ≠ some b37:=Q1 hbl623 hn561 (hB558.ext he613);have hn627 : Qf v620 ≠ some b79:=Q1 hbl623 hn562 (hB560.ext he613);have hf628:=XK hbl623 hf547 e616.size;have h629:=(h549.ext he613).step (Stepp.swap hc622 hbl623);have h630:=(h554.ext he613).step (Stepp.swap hc622 hbl623);have h631:=(h555.ext he613).step (Stepp.swap hc622 hbl623);have h632:=(h556.ext he613).step (Stepp.swap hc622 hbl623);have h633:=(hB558.ext he613).chg hc622 (QW hn561);have h634:=(hB560.ext he613).chg hc622 (QW hn562);have e637:=XB e616 hc622 hf547;refine Qk v620 rfl<|Qb<|hK595 _ _<|QQ<|Qa (Iv (w64 (x552 + 1))) (Q4 hs553 rfl)<|Qd (Iv (w64 (x552 + 1))) rfl<|Qb ?_;replace h:=Qj h;subst h;refine hK589 _ _ _ rfl ?_;exact ⟨zs618,w64 (x552 + 1),v620,rfl,hs540,hs541,rfl,hs550,hs551,rfl,h629,h630,h631,h632,h633,h634,h624,hf628,hn626,hn627,e637⟩
      ·clear hK589 hK593;replace h:=QD hb594 h;refine Xo ?_;replace h:=Qj h;subst h;have ho:=hx588 _ rfl;subst ho;refine hK590 _ _ ?_;exact ⟨x544,v543,rfl,hs541,hs548,(h549.sub (Q2 Qn (Q2 QZ (QO YT)))),hB560,(h546.sub (Q2 Qn (Q2 QZ (QO YT)))),hf547,hn562,e539⟩
     ·clear hK315;rintro ρ wd570 ⟨x575,v574,rfl,hs572,hs579,h580,hB582,h577,hf578,hn583,e571⟩;replace h:=hn586;refine hK320 _ _<|Ql fun K639 hK639=>XN XL (.p 0 (.p 1 (.p 3 (.q 2 (.p 4 (.p 5 .done)))))) (by kernel_rfl) rfl ?_;intro wd640 he641;have e642:=e571.trans he641;refine Qo (v:=v574) rfl rfl (fun w'=>(QK hs579))<|Qo (v:=(ptk b79 1)) rfl rfl (fun w'=>(Qr 1 Try.underlying154 rfl rfl ⟨0,QI⟩ hs572 rfl))<|Qo (v:=v574) rfl rfl (fun w'=>(Y9 rfl))<|QX (v:=(Iv x209)) rfl rfl (fun w' hS=>(Qp QG rfl (At.drop (Box.at (hB582.ext (he641.trans hS))) 1)))<|Qo (v:=(Iv x209)) rfl rfl (fun w'=>(Y9 rfl))<|Qo (v:=(Iv 0)) rfl rfl (fun w'=>(Y9 rfl))<|Xk<|hK639 _ _<|QA ?_;replace h:=Qj h;subst h;exact ⟨[v574,(Iv x209),(Iv 0)],⟨rfl,rfl,rfl,trivial⟩,e642,v574,rfl,((h577.ext he641).rdL YT hL hf578)⟩

noncomputable def Qjc : Option Bool:=(Option.bind (Qbq 2900) fun r3=>(Option.bind (Qaw r3) fun r19=>(Option.bind (Qbq 3000) fun r28=>(Option.bind (J2 r28 ([(FeedDeparture.mk (ByteArray.mk #[120]) 0)] : List FeedDeparture) (Range.mk 0 1)) fun r53=>(Option.bind (bif ((decide (r19.2.2 = 0)) && (decide (r19.2.1 = 1))) then Qjz r19.1 ([(FeedDeparture.mk (ByteArray.mk #[120]) 0),(FeedDeparture.mk (ByteArray.mk #[121]) 1)] : List FeedDeparture) else some default) fun r99=>some ((((((decide (r19.2.2 = 0)) && (decide (r19.2.1 = 1))) && r99) && (decide (r53.2 = 0))) && (decide (r53.1.Fed = 2200000000))) && (decide (r53.1.Back = 500000000))) ) ) ) ) )
theorem QHb (L : List Value) (w : World) (hL : LtL L w) (r : Bool) (h : Qjc = some r) : CallsTo Try.prog 81 [] w (fun v w'=>Ext w w'∧(.bool r) = v):=by
 have e0 : Ext w w:=Chg.refl _ _;refine Xc (n:=47) (rs:=[.tmp 0]) Try.func81 rfl rfl rfl rfl rfl<|QR (.bool false) rfl<|Qe ?_;replace h:=Qi h;obtain ⟨r3,hr4,h⟩:=h;refine Qh rfl (Qy Try.func83 Qvf rfl (Q9 rfl) (Qtx L _ (hL.chg e0) 2900 r3 hr4) ?_);rintro _ wd5 ⟨he6,cs13,rfl,hrd14⟩;have e15:=e0.trans he6;obtain ⟨v7,v9,v11,h8,h10,h12,rfl⟩:=hrd14;replace h:=Qi h;obtain ⟨r19,hr20,h⟩:=h;refine Qh rfl (Qy Try.func22 Qve rfl (Q9 rfl) (Qrb L _ (hL.chg e15) [v7,v9,v11] r3 ⟨v7,v9,v11,h8,h10,h12,rfl⟩ r19 hr20) ?_);rintro _ wd21 ⟨he22,v23,rfl,h24⟩;have e25:=e15.trans he22;refine Qd (.tuple #[v23,(Iv r19.2.1),(Iv r19.2.2)]) rfl<|Qa v23 (Xs rfl rfl)<|Qa (Iv r19.2.1) (Xs rfl rfl)<|Qa (Iv r19.2.2) (Xs rfl rfl)<|Qk v23 rfl<|Qk (Iv r19.2.1) rfl<|Qk (Iv r19.2.2) rfl<|Qb<|Qe ?_;replace h:=Qi h;obtain ⟨r28,hr29,h⟩:=h;refine Qh rfl (Qy Try.func83 Qvf rfl (Q9 rfl) (Qtx L _ (hL.chg e25) 3000 r28 hr29) ?_);rintro _ wd30 ⟨he31,cs38,rfl,hrd39⟩;have e41:=e25.trans he31;obtain ⟨v32,v34,v36,h33,h35,h37,rfl⟩:=hrd39;refine Qa (AgV [(.string (ByteArray.mk #[120])),(Iv 0)]) (Xa (cells:=[(.string (ByteArray.mk #[120])),(Iv 0)]) Qfd (QE rfl rfl QS) rfl)<|Qh rfl (Yi (xs:=([(FeedDeparture.mk (ByteArray.mk #[120]) 0)] : List FeedDeparture)) (cells:=[(.string (ByteArray.mk #[120])),(Iv 0)]) Try.underlying29 J1 rfl (QE rfl rfl QS) rfl (Elems.cons (cs:=[(.string (ByteArray.mk #[120])),(Iv 0)]) rfl Elems.nil) rfl (hL.chg e41) ?_);intro b48 wd45 he46 h47;have e49:=he31.trans he46;have e51:=e41.trans he46;refine Qa (AgV [(Iv 0),(Iv 1)]) (Xa (cells:=[(Iv 0),(Iv 1)]) Qhu (QE rfl rfl QS) rfl) ?_;replace h:=Qi h;obtain ⟨r53,hr54,h⟩:=h;refine Qh rfl (Qy Try.func48 Qjk rfl (XR rfl rfl rfl) (Qio [] _ (LtL.nil _) [v32,v34,v36] r28 ⟨v32,v34,v36,((h33.ext he46).sub (fun _ h=>by cases h)),((h35.ext he46).sub (fun _ h=>by cases h)),((h37.ext he46).sub (fun _ h=>by cases h)),rfl⟩ (.slice (some ⟨b48,0,none⟩) 1 1) ([(FeedDeparture.mk (ByteArray.mk #[120]) 0)] : List FeedDeparture) (h47.sub (fun _ h=>by cases h)) [(Iv 0),(Iv 1)] (Range.mk 0 1) rfl r53 hr54) ?_);rintro _ wd55 ⟨he56,cs57,rfl,hrd58⟩;have e59:=e49.trans he56;have e62:=e51.trans he56;have hrd58 : cs57 = [(Iv r53.1.Fed),(Iv r53.1.Used),(Iv r53.1.Braked),(Iv r53.1.Lost),(Iv r53.1.Back),(Iv r53.1.Burned)]:=hrd58;subst hrd58;refine Qd (.tuple #[(AgV [(Iv r53.1.Fed),(Iv r53.1.Used),(Iv r53.1.Braked),(Iv r53.1.Lost),(Iv r53.1.Back),(Iv r53.1.Burned)]),(Iv r53.2)]) rfl<|Qa (AgV [(Iv r53.1.Fed),(Iv r53.1.Used),(Iv r53.1.Braked),(Iv r53.1.Lost),(Iv r53.1.Back),(Iv r53.1.Burned)]) (Xs rfl rfl)<|Qa (Iv r53.2) (Xs rfl rfl)<|Qh rfl (Q7 Qbf ?_);intro b63 wd64 hb65 he66 hB67;have hbf68:=Q8 e62 hb65;have h72:=(h24.ext e59).step (Qm he66 hb65);have e77:=e62.trans he66;refine Qh rfl (QH (vs:=[(Iv r53.1.Fed),(Iv r53.1.Used),(Iv r53.1.Braked),(Iv r53.1.Lost),(Iv r53.1.Back),(Iv r53.1.Burned)]) (cs':=[(Iv r53.1.Fed),(Iv r53.1.Used),(Iv r53.1.Braked),(Iv r53.1.Lost),(Iv r53.1.Back),(Iv r53.1.Burned)]) Ys rfl rfl rfl rfl hB67 rfl (Qc rfl (Qc rfl (Qc rfl (Qc rfl (Qc rfl (Qc rfl QC)))))) rfl ?_);intro wd79 hc80 hB81;have h85:=h72.step (Qg hc80 Qn);have e90:=QJ e77 hc80 hbf68;refine Qk (Iv r53.2) rfl<|Qb<|Qe<|Qd (Iv r19.2.2) rfl<|Qa (.bool (decide (r19.2.2 = 0))) (Yz rfl rfl)<|Qd (.bool (decide (r19.2.2 = 0))) rfl<|Qu (v:=(Iv r19.2.1)) (decide (r19.2.2 = 0)) (Q3 rfl rfl rfl rfl) (fun hg=>(QK rfl))<|Qu (v:=(.bool (decide (r19.2.1 = 1)))) (decide (r19.2.2 = 0)) (Q3 rfl rfl rfl rfl) (fun hg=>(Yz (Qq hg) rfl))<|Qa (.bool ((decide (r19.2.2 = 0)) && (decide (r19.2.1 = 1)))) (XY rfl (fun hb=>(Qq hb)) rfl)<|Qd (.bool ((decide (r19.2.2 = 0)) && (decide (r19.2.1 = 1)))) rfl<|Qu (v:=v23) ((decide (r19.2.2 = 0)) && (decide (r19.2.1 = 1))) (Q3 rfl rfl rfl rfl) (fun hg=>(QK rfl))<|Qu (v:=(AgV [(.string (ByteArray.mk #[120])),(Iv 0)])) ((decide (r19.2.2 = 0)) && (decide (r19.2.1 = 1))) (Q3 rfl rfl rfl rfl) (fun hg=>(Xa (cells:=[(.string (ByteArray.mk #[120])),(Iv 0)]) Qfd (QE rfl rfl QS) rfl))<|Qu (v:=(AgV [(.string (ByteArray.mk #[121])),(Iv 1)])) ((decide (r19.2.2 = 0)) && (decide (r19.2.1 = 1))) (Q3 rfl rfl rfl rfl) (fun hg=>(Xa (cells:=[(.string (ByteArray.mk #[121])),(Iv 1)]) Qfd (QE rfl rfl (QE rfl rfl QS)) rfl))<|Qzm (fun v w'=>SlRd ((pt b63) :: L) w' v ([(FeedDeparture.mk (ByteArray.mk #[120]) 0),(FeedDeparture.mk (ByteArray.mk #[121]) 1)] : List FeedDeparture)) ((decide (r19.2.2 = 0)) && (decide (r19.2.1 = 1))) (Q3 rfl rfl rfl rfl) (fun hg=>Yi (xs:=([(FeedDeparture.mk (ByteArray.mk #[120]) 0),(FeedDeparture.mk (ByteArray.mk #[121]) 1)] : List FeedDeparture)) (cells:=[(.string (ByteArray.mk #[120])),(Iv 0),(.string (ByteArray.mk #[121])),(Iv 1)]) Try.underlying29 J1 rfl (QE (Qq hg) rfl (QE (Qq hg) rfl QS)) rfl (Elems.cons (cs:=[(.string (ByteArray.mk #[120])),(Iv 0)]) rfl (Elems.cons (cs:=[(.string (ByteArray.mk #[121])),(Iv 1)]) rfl Elems.nil)) rfl (Q5 (hL.chg e90) hB81) (fun _ _ he h1=>⟨he,h1⟩)) ?_;intro v92 wd93 he94 h95;have e96:=e90.trans he94;replace h:=Qi h;obtain ⟨r99,hr100,h⟩:=h;refine JY ((decide (r19.2.2 = 0)) && (decide (r19.2.1 = 1))) (.bool r99) (Q3 rfl rfl rfl rfl) (fun hg=>Qy Try.func27 QJg rfl (Xb (Qq hg) (Qq hg)) (QLh [] _ (LtL.nil _) v23 r19.1 ((h85.ext he94).sub (fun _ h=>by cases h)) v92 ([(FeedDeparture.mk (ByteArray.mk #[120]) 0),(FeedDeparture.mk (ByteArray.mk #[121]) 1)] : List FeedDeparture) ((h95 hg).sub (fun _ h=>by cases h)) r99 (Qw hg hr100)) (by rintro _ wd101 ⟨he102,rfl⟩;exact ⟨rfl,he102⟩)) ?_;intro wd101 he102;have e103:=he94.trans he102;have e104:=e96.trans he102;refine Qa (.bool (((decide (r19.2.2 = 0)) && (decide (r19.2.1 = 1))) && r99)) (XY rfl (fun hb=>(Qq hb)) rfl)<|Qd (.bool (((decide (r19.2.2 = 0)) && (decide (r19.2.1 = 1))) && r99)) rfl<|Qu (v:=(Iv r53.2)) (((decide (r19.2.2 = 0)) && (decide (r19.2.1 = 1))) && r99) (Q3 rfl rfl rfl rfl) (fun hg=>(QK rfl))<|Qu (v:=(.bool (decide (r53.2 = 0)))) (((decide (r19.2.2 = 0)) && (decide (r19.2.1 = 1))) && r99) (Q3 rfl rfl rfl rfl) (fun hg=>(Yz (Qq hg) rfl))<|Qa (.bool ((((decide (r19.2.2 = 0)) && (decide (r19.2.1 = 1))) && r99) && (decide (r53.2 = 0)))) (XY rfl (fun hb=>(Qq hb)) rfl)<|Qd (.bool ((((decide (r19.2.2 = 0)) && (decide (r19.2.1 = 1))) && r99) && (decide (r53.2 = 0)))) rfl<|Qu (v:=(pt b63)) ((((decide (r19.2.2 = 0)) && (decide (r19.2.1 = 1))) && r99) && (decide (r53.2 = 0))) (Q3 rfl rfl rfl rfl) (fun hg=>(Qr 0 Try.underlying78 rfl rfl ⟨0,QI⟩ rfl rfl))<|Qu (v:=(Iv r53.1.Fed)) ((((decide (r19.2.2 = 0)) && (decide (r19.2.1 = 1))) && r99) && (decide (r53.2 = 0))) (Q3 rfl rfl rfl rfl) (fun hg=>(Qp QG (Qq hg) (Box.at (hB81.ext e103))))<|Qu (v:=(.bool (decide (r53.1.Fed = 2200000000)))) ((((decide (r19.2.2 = 0)) && (decide (r19.2.1 = 1))) && r99) && (decide (r53.2 = 0))) (Q3 rfl rfl rfl rfl) (fun hg=>(Yz (Qq hg) rfl))<|Qa (.bool (((((decide (r19.2.2 = 0)) && (decide (r19.2.1 = 1))) && r99) && (decide (r53.2 = 0))) && (decide (r53.1.Fed = 2200000000)))) (XY rfl (fun hb=>(Qq hb)) rfl)<|Qd (.bool (((((decide (r19.2.2 = 0)) && (decide (r19.2.1 = 1))) && r99) && (decide (r53.2 = 0))) && (decide (r53.1.Fed = 2200000000)))) rfl<|Qu (v:=(ptk b63 4)) (((((decide (r19.2.2 = 0)) && (decide (r19.2.1 = 1))) && r99) && (decide (r53.2 = 0))) && (decide (r53.1.Fed = 2200000000))) (Q3 rfl rfl rfl rfl) (fun hg=>(Qr 4 Try.underlying78 rfl rfl ⟨0,QI⟩ rfl rfl))<|Qu (v:=(Iv r53.1.Back)) (((((decide (r19.2.2 = 0)) && (decide (r19.2.1 = 1))) && r99) && (decide (r53.2 = 0))) && (decide (r53.1.Fed = 2200000000))) (Q3 rfl rfl rfl rfl) (fun hg=>(Qp QG (Qq hg) (At.drop (Box.at (hB81.ext e103)) 4)))<|Qu (v:=(.bool (decide (r53.1.Back = 500000000)))) (((((decide (r19.2.2 = 0)) && (decide (r19.2.1 = 1))) && r99) && (decide (r53.2 = 0))) && (decide (r53.1.Fed = 2200000000))) (Q3 rfl rfl rfl rfl) (fun hg=>(Yz (Qq hg) rfl))<|Qa (.bool ((((((decide (r19.2.2 = 0)) && (decide (r19.2.1 = 1))) && r99) && (decide (r53.2 = 0))) && (decide (r53.1.Fed = 2200000000))) && (decide (r53.1.Back = 500000000)))) (XY rfl (fun hb=>(Qq hb)) rfl)<|Qk (.bool ((((((decide (r19.2.2 = 0)) && (decide (r19.2.1 = 1))) && r99) && (decide (r53.2 = 0))) && (decide (r53.1.Fed = 2200000000))) && (decide (r53.1.Back = 500000000)))) rfl<|Qb<|QA ?_;replace h:=Qj h;subst h;exact ⟨[(.bool ((((((decide (r19.2.2 = 0)) && (decide (r19.2.1 = 1))) && r99) && (decide (r53.2 = 0))) && (decide (r53.1.Fed = 2200000000))) && (decide (r53.1.Back = 500000000))))],⟨rfl,trivial⟩,e104,rfl⟩

noncomputable def QQh : Option Bool:=(Option.bind (Qbq 3000) fun r10=>(Option.bind (QEl r10 ([(FeedDeparture.mk (ByteArray.mk #[120]) 0)] : List FeedDeparture) 0) fun r26=>(Option.bind (Qbq 2900) fun r36=>(Option.bind (Qaw r36) fun r54=>(Option.bind (Qbq 3000) fun r66=>(Option.bind (J2 r66 ([(FeedDeparture.mk (ByteArray.mk #[120]) 0)] : List FeedDeparture) (Range.mk 0 1)) fun r86=>(Option.bind (Qbq 2900) fun r135=>(Option.bind (QEk r135 ([(FeedDeparture.mk (ByteArray.mk #[120]) 0),(FeedDeparture.mk (ByteArray.mk #[121]) 0)] : List FeedDeparture)) fun r158=>(Option.bind (QEj (FeedLadder.mk ([1,2,3] : List Int) ([6,12] : List Int))) fun r188=>(Option.bind (bif (decide (r26.2 = 0)) then Qps r26.1 ([1320000000,880000000] : List Int) else some default) fun r215=>(Option.bind (bif ((((decide (r26.2 = 0)) && r215) && (decide (r54.2.2 = 0))) && (decide (r54.2.1 = 1))) then Qjz r54.1 ([(FeedDeparture.mk (ByteArray.mk #[120]) 0),(FeedDeparture.mk (ByteArray.mk #[121]) 1)] : List FeedDeparture) else some default) fun r242=>(Option.bind (bif ((((((((decide (r26.2 = 0)) && r215) && (decide (r54.2.2 = 0))) && (decide (r54.2.1 = 1))) && r242) && (decide (r86.2 = 0))) && (decide ((FeedBook.mk r86.1.Fed r86.1.Used r86.1.Braked r86.1.Lost r86.1.Back r86.1.Burned) = (FeedBook.mk 2200000000 2000000000 500000000 200000000 500000000 0)))) && (decide (r158.2 = 0))) then Qps r158.1 ([0,1] : List Int) else some default) fun r271=>(Option.bind (bif ((((((((((decide (r26.2 = 0)) && r215) && (decide (r54.2.2 = 0))) && (decide (r54.2.1 = 1))) && r242) && (decide (r86.2 = 0))) && (decide ((FeedBook.mk r86.1.Fed r86.1.Used r86.1.Braked r86.1.Lost r86.1.Back r86.1.Burned) = (FeedBook.mk 2200000000 2000000000 500000000 200000000 500000000 0)))) && (decide (r158.2 = 0))) && r271) && (decide (r188.2 = 0))) then Qma 11 else some default) fun r285=>(Option.bind (bif ((((((((((decide (r26.2 = 0)) && r215) && (decide (r54.2.2 = 0))) && (decide (r54.2.1 = 1))) && r242) && (decide (r86.2 = 0))) && (decide ((FeedBook.mk r86.1.Fed r86.1.Used r86.1.Braked r86.1.Lost r86.1.Back r86.1.Burned) = (FeedBook.mk 2200000000 2000000000 500000000 200000000 500000000 0)))) && (decide (r158.2 = 0))) && r271) && (decide (r188.2 = 0))) then Qma 5 else some default) fun r302=>(Option.bind (bif ((((((((((decide (r26.2 = 0)) && r215) && (decide (r54.2.2 = 0))) && (decide (r54.2.1 = 1))) && r242) && (decide (r86.2 = 0))) && (decide ((FeedBook.mk r86.1.Fed r86.1.Used r86.1.Braked r86.1.Lost r86.1.Back r86.1.Burned) = (FeedBook.mk 2200000000 2000000000 500000000 200000000 500000000 0)))) && (decide (r158.2 = 0))) && r271) && (decide (r188.2 = 0))) then Qma (-7) else some default) fun r319=>(Option.bind (bif ((((((((((decide (r26.2 = 0)) && r215) && (decide (r54.2.2 = 0))) && (decide (r54.2.1 = 1))) && r242) && (decide (r86.2 = 0))) && (decide ((FeedBook.mk r86.1.Fed r86.1.Used r86.1.Braked r86.1.Lost r86.1.Back r86.1.Burned) = (FeedBook.mk 2200000000 2000000000 500000000 200000000 500000000 0)))) && (decide (r158.2 = 0))) && r271) && (decide (r188.2 = 0))) then QAd r188.1 ([r285,r302,r319] : List Frac) else some default) fun r353=>some (((((((((((decide (r26.2 = 0)) && r215) && (decide (r54.2.2 = 0))) && (decide (r54.2.1 = 1))) && r242) && (decide (r86.2 = 0))) && (decide ((FeedBook.mk r86.1.Fed r86.1.Used r86.1.Braked r86.1.Lost r86.1.Back r86.1.Burned) = (FeedBook.mk 2200000000 2000000000 500000000 200000000 500000000 0)))) && (decide (r158.2 = 0))) && r271) && (decide (r188.2 = 0))) && r353) ) ) ) ) ) ) ) ) ) ) ) ) ) ) ) )
end Go.Gw

end
