/- Laws of the walk. Condition: each theorem says its own. -/
import Derived.Test.YtglaeocolbnpdaaGreatGwPlan
import Derived.Laws.ByValue
import Derived.Laws.Externs
import Derived.WalkSpells
section
namespace Go.Gw
open Go
section
variable {P : Program} {n : Nat} {q : Post} {ρ : Env} {w : World}

def TX (P : Program) (n : Nat) (ops : List Oper) (K : Env → World → Prop) : Pl → Env → World → Prop
  | .done, ρ, w => K ρ w
  | .p i r, ρ, w => ∃ o v, ops[i]? = some o ∧ Quiet P n ops.toArray (fun _ => True) o ρ v ∧ TX P n ops K r (XA ρ o.dst v) w
  | .q i r, ρ, w => ∃ o v, ops[i]? = some o ∧ Quiet P n ops.toArray (Ext w) o ρ v ∧ TX P n ops K r (XA ρ o.dst v) w
  | .e i r, ρ, w => ∃ o, ops[i]? = some o ∧ Stp P n ops.toArray o ρ w (fun ρ' w' => Ext w w' ∧ TX P n ops K r ρ' w')
  | .b i r, ρ, w => ∃ o, ops[i]? = some o ∧ Stp P n ops.toArray o ρ w (fun ρ' w' => TX P n ops K r ρ' w')
  | .f i r j s, ρ, w => (∃ o, ops[i]? = some o ∧ Stp P n ops.toArray o ρ w (fun ρ' w' => Ext w w' ∧ TX P n ops K r ρ' w')) ∧
      (∃ o, ops[j]? = some o ∧ Stp P n ops.toArray o ρ w (fun ρ' w' => Ext w w' ∧ TX P n ops K s ρ' w'))

def anyX (P : Program) (ops : Array Oper) (Q : Exit → Act → World → Prop) (bs : List Nat) (Kt : Array Bool → Act → World → Prop) : Nat → (World → Prop) → Array Bool → Act → World → Prop
  | 0, _, listed, a, w => Kt listed a w
  | fuel + 1, S, listed, a, w => Region.ready .any ops listed ≠ [] ∧ ∀ i ∈ Region.ready .any ops listed, wpOp P ops Q i (fun a' w' => ∃ S' : World → Prop, (bs.contains i = false → S w → S' w' ∧ ∀ x, S' x → S x) ∧ anyX P ops Q bs Kt fuel S' (listed.setIfInBounds i true) a' w') a w

theorem anyX.toAny {ops : Array Oper} {Q : Exit → Act → World → Prop} {bs : List Nat} {Kt : Array Bool → Act → World → Prop} (ht : ∀ listed a w, Kt listed a w → wpAny P .any ops Q 0 listed a w) :
    ∀ (fuel : Nat) (S : World → Prop) (listed : Array Bool) (a : Act) (w : World), anyX P ops Q bs Kt fuel S listed a w → wpAny P .any ops Q fuel listed a w
  | 0, _, listed, a, w, h => ht _ _ _ h
  | fuel + 1, S, listed, a, w, h => ⟨fun h0 => absurd h0 h.1, fun i hi => wpOp_mono (fun a' w' ⟨S', _, h'⟩ => anyX.toAny ht fuel S' _ a' w' h') (h.2 i hi)⟩

theorem Qpg {ops : Array Oper} {Q : Exit → Act → World → Prop} {bs : List Nat} {Si : World → Prop} {Kt : Array Bool → Act → World → Prop} {i : Nat} {oi : Oper} {v : Value} (hi : ops[i]? = some oi)
    (hb : (∀ b ∈ bs, Qap ops ops.size b i = true) ∨ ∀ w, Si w)
    (hsel : ∀ (j : Nat) (o : Oper) cs b, ops[j]? = some o → o.op ≠ .select cs b) (hQ : ∀ c a w, ¬ Q (.panic c) a w) :
    ∀ (fuel : Nat) (S : World → Prop) (listed : Array Bool) (a : Act) (w : World), listed.size = ops.size → Closed ops listed → fuel + 1 = Jc listed ops.size →
      (∀ j oj, ops[j]? = some oj → j ≠ i → listed.getD j true = false → (∀ e ∈ oj.after, Region.binds .any e = true → e.on ≠ i) → oi.apart ops oj = true) →
      i ∈ Region.ready .any ops listed → YieldsIf P ops Si oi v a → Si w → ((S w ∧ ∀ x, S x → Si x) ∨ ∀ w, Si w) →
      anyX P ops Q bs Kt fuel S (listed.setIfInBounds i true) (a.put oi.dst v) w → anyX P ops Q bs Kt (fuel + 1) S listed a w := by
  have hQ' : ∀ c (a : Act) w, Q (.panic c) (a.put oi.dst v) w → Q (.panic c) a w := fun c a w h => absurd h (hQ _ _ _)
  have hlt : ∀ {j : Nat} {listed : Array Bool}, j ∈ Region.ready .any ops listed → j < ops.size := fun hj => by
    obtain ⟨_, oj, hoj, _⟩ := mem_ready.1 hj
    exact (Array.getElem?_eq_some_iff.1 hoj).1
  have him := (Array.getElem?_eq_some_iff.1 hi).1
  intro fuel
  induction fuel with
  | zero =>
    intro S listed a w hls hcl hcnt _ hr hy hSw hD H
    have hiu := (mem_ready.1 hr).1
    refine ⟨fun h => (by rw [h] at hr; cases hr), fun j hj => ?_⟩
    by_cases hji : j = i
    · subst hji; exact hy.wpOp hi hSw ⟨S, fun _ h => ⟨h, fun _ h => h⟩, H⟩
    · exfalso
      have := Qtl (listed := listed) (hlt hj) him hji (by simpa using (mem_ready.1 hj).1) (by simpa using hiu)
      omega
  | succ fuel ih =>
    intro S listed a w hls hcl hcnt hfree hr hy hSw hD H
    have hiu := (mem_ready.1 hr).1
    refine ⟨fun h => (by rw [h] at hr; cases hr), fun j hj => ?_⟩
    by_cases hji : j = i
    · subst hji; exact hy.wpOp hi hSw ⟨S, fun _ h => ⟨h, fun _ h => h⟩, H⟩
    · have h1 := H.2 j (ready_mono hj hji)
      obtain ⟨hjun, oj, hoj, hall⟩ := mem_ready.1 hj
      have hnot : ∀ e ∈ oj.after, Region.binds .any e = true → e.on ≠ i := fun e he hb heq => by
        have h1 := hall e he hb
        have h0 := (mem_ready.1 hr).1
        rw [heq] at h1
        rcases Nat.lt_or_ge i listed.size with h' | h'
        · simp [h'] at h0 h1; rw [h0] at h1; cases h1
        · simp [Array.getElem?_eq_none h'] at h1
      have h2 := wpOp_putIf hoj (hfree j oj hoj hji hjun hnot) (fun cs b => hsel i oi cs b hi) (fun cs b => hsel j oj cs b hoj) hQ' hy h1
      have hfree' : ∀ k ok, ops[k]? = some ok → k ≠ i → (listed.setIfInBounds j true).getD k true = false →
          (∀ e ∈ ok.after, Region.binds .any e = true → e.on ≠ i) → oi.apart ops ok = true := fun k ok hk hki hun hno => hfree k ok hk hki (QGl hun).1 hno
      have hbj : bs.contains j = false ∨ ∀ w, Si w := by
        rcases hb with hb | hb
        · left
          cases hc : bs.contains j with
          | false => rfl
          | true =>
            exfalso
            have hm := Qmg hcl _ _ _ _ hoj hall (hb j (by simpa using hc))
            have him' : i < listed.size := by rw [hls]; exact him
            simp [Array.getD, him'] at hiu hm
            rw [hiu] at hm; cases hm
        · exact .inr hb
      refine wpOp_mono (fun a' w' h3 => ?_) h2
      obtain ⟨hy', S', hk', h4⟩ := h3
      refine ⟨S', hk', ?_⟩
      have hD' : (S' w' ∧ ∀ x, S' x → Si x) ∨ ∀ w, Si w := by
        rcases hD with hD | hD
        · rcases hbj with hbj | hbj
          · exact .inl ⟨(hk' hbj hD.1).1, fun x hx => hD.2 x ((hk' hbj hD.1).2 x hx)⟩
          · exact .inr hbj
        · exact .inr hD
      have hSw' : Si w' := by
        rcases hD' with h | h
        · exact h.2 _ h.1
        · exact h _
      refine ih S' (listed.setIfInBounds j true) a' w' (by simpa using hls) (hcl.set hj) (by have := Js (listed := listed) (hlt hj) (by simpa using hjun); omega) hfree' (ready_mono hr (Ne.symm hji)) hy' hSw' hD' ?_
      rw [Array.setIfInBounds_comm _ _ hji]
      exact h4

theorem TX.toX {ops : List Oper} {bs : List Nat} {K : Env → World → Prop} (hsel : Region.noSelect ops.toArray = true) (hK : ∀ ρ w, K ρ w → q.norm ρ w) :
    ∀ (p : Pl) (listed : Array Bool) (ρ : Env) (w : World), listed.size = ops.toArray.size → Closed ops.toArray listed → Jc listed ops.toArray.size = p.len → Zu ops.toArray bs p listed = true →
    TX P n ops K p ρ w → anyX P ops.toArray (q.Q n) bs (fun listed a w => wpAny P .any ops.toArray (q.Q n) 0 listed a w) p.len (Ext w) listed (Xi n ρ) w
  | .done, listed, ρ, w, _, _, _, hok, h => ⟨by simpa [Zu] using hok, ρ, rfl, hK _ _ h⟩
  | .p i r, listed, ρ, w, hls, hcl, hc, hok, h => by
    simp only [Zu, Bool.and_eq_true] at hok
    obtain ⟨⟨hf, hr⟩, hrest⟩ := hok
    obtain ⟨o, v, hi', hq, ht⟩ := h
    have hi : ops.toArray[i]? = some o := by simpa using hi'
    have him := (Array.getElem?_eq_some_iff.1 hi).1
    have hr : i ∈ Region.ready .any ops.toArray listed := by simpa using hr
    have hc' := Js (listed := listed) him (by simpa using (mem_ready.1 hr).1)
    simp only [Pl.len] at hc
    refine Qpg (Si := fun _ => True) hi (.inr fun _ => trivial) (Region.noSelect_spec hsel) (fun _ _ _ h => h) r.len (Ext w) listed _ w hls hcl hc.symm (Region.free_spec hi hf) hr hq.yields trivial (.inr fun _ => trivial) ?_
    rw [ZM]
    exact TX.toX hsel hK r _ _ w (by simpa using hls) (hcl.set hr) (by omega) hrest ht
  | .q i r, listed, ρ, w, hls, hcl, hc, hok, h => by
    simp only [Zu, Bool.and_eq_true, List.all_eq_true] at hok
    obtain ⟨⟨⟨hm, hf⟩, hr⟩, hrest⟩ := hok
    obtain ⟨o, v, hi', hq, ht⟩ := h
    have hi : ops.toArray[i]? = some o := by simpa using hi'
    have him := (Array.getElem?_eq_some_iff.1 hi).1
    have hr : i ∈ Region.ready .any ops.toArray listed := by simpa using hr
    have hc' := Js (listed := listed) him (by simpa using (mem_ready.1 hr).1)
    simp only [Pl.len] at hc
    refine Qpg (Si := Ext w) hi (.inl hm) (Region.noSelect_spec hsel) (fun _ _ _ h => h) r.len (Ext w) listed _ w hls hcl hc.symm (Region.free_spec hi hf) hr hq.yields (Chg.refl _ _) (.inl ⟨Chg.refl _ _, fun _ h => h⟩) ?_
    rw [ZM]
    exact TX.toX hsel hK r _ _ w (by simpa using hls) (hcl.set hr) (by omega) hrest ht
  | .e i r, listed, ρ, w, hls, hcl, hc, hok, h => by
    simp only [Zu, Bool.and_eq_true, beq_iff_eq] at hok
    obtain ⟨hr, hnb, hrest⟩ := hok
    obtain ⟨o, hi', hs⟩ := h
    have hi : ops.toArray[i]? = some o := by simpa using hi'
    have hr' : i ∈ Region.ready .any ops.toArray listed := by rw [hr]; simp
    have hc' := Js (listed := listed) (Array.getElem?_eq_some_iff.1 hi).1 (by simpa using (mem_ready.1 hr').1)
    simp only [Pl.len] at hc
    refine ⟨by rw [hr]; simp, fun j hj => ?_⟩
    have hj : j = i := by rw [hr] at hj; simpa using hj
    subst hj
    exact hs.toWpOp hi fun ρ w' h' => ⟨Ext w', fun _ _ => ⟨Chg.refl _ _, fun _ hx => Chg.trans h'.1 hx⟩, TX.toX hsel hK r _ _ w' (by simpa using hls) (hcl.set hr') (by omega) hrest h'.2⟩
  | .b i r, listed, ρ, w, hls, hcl, hc, hok, h => by
    simp only [Zu, Bool.and_eq_true, beq_iff_eq] at hok
    obtain ⟨hr, hib, hnq, hrest⟩ := hok
    obtain ⟨o, hi', hs⟩ := h
    have hi : ops.toArray[i]? = some o := by simpa using hi'
    have hr' : i ∈ Region.ready .any ops.toArray listed := by rw [hr]; simp
    have hc' := Js (listed := listed) (Array.getElem?_eq_some_iff.1 hi).1 (by simpa using (mem_ready.1 hr').1)
    simp only [Pl.len] at hc
    refine ⟨by rw [hr]; simp, fun j hj => ?_⟩
    have hj : j = i := by rw [hr] at hj; simpa using hj
    subst hj
    refine hs.toWpOp hi fun ρ w' h' => ⟨Ext w', ?_, TX.toX hsel hK r _ _ w' (by simpa using hls) (hcl.set hr') (by omega) hrest h'⟩
    intro hb; rw [hib] at hb; cases hb
  | .f i r j s, listed, ρ, w, hls, hcl, hc, hok, h => by
    simp only [Zu, Bool.and_eq_true, beq_iff_eq] at hok
    obtain ⟨hr, hlen, hn1, hn2, hrest, hrest2⟩ := hok
    obtain ⟨⟨o, hi', hs⟩, o2, hj', hs2⟩ := h
    have hi : ops.toArray[i]? = some o := by simpa using hi'
    have hj2 : ops.toArray[j]? = some o2 := by simpa using hj'
    have hri : i ∈ Region.ready .any ops.toArray listed := by rw [hr]; simp
    have hrj : j ∈ Region.ready .any ops.toArray listed := by rw [hr]; simp
    have hci := Js (listed := listed) (Array.getElem?_eq_some_iff.1 hi).1 (by simpa using (mem_ready.1 hri).1)
    have hcj := Js (listed := listed) (Array.getElem?_eq_some_iff.1 hj2).1 (by simpa using (mem_ready.1 hrj).1)
    have hlen : r.len = s.len := by simpa using hlen
    simp only [Pl.len] at hc
    refine ⟨by rw [hr]; simp, fun k hk => ?_⟩
    rw [hr] at hk
    rcases List.mem_cons.1 hk with rfl | hk
    · exact hs.toWpOp hi fun ρ w' h' => ⟨Ext w', fun _ _ => ⟨Chg.refl _ _, fun _ hx => Chg.trans h'.1 hx⟩, TX.toX hsel hK r _ _ w' (by simpa using hls) (hcl.set hri) (by omega) hrest h'.2⟩
    · have hk : k = j := by simpa using hk
      subst hk
      have := fun ρ w' (h' : Ext w w' ∧ TX P n ops K s ρ w') => TX.toX hsel hK s (listed.setIfInBounds k true) ρ w' (by simpa using hls) (hcl.set hrj) (by omega) hrest2 h'.2
      refine hs2.toWpOp hj2 fun ρ w' h' => ⟨Ext w', fun _ _ => ⟨Chg.refl _ _, fun _ hx => Chg.trans h'.1 hx⟩, ?_⟩
      have h3 := this ρ w' h'
      rw [← hlen] at h3
      exact h3

theorem Xu {id : Nat} {ops : List Oper} (hm : P.follows .mixedOrders = true) (p : Pl) (hok : Qsn ops.toArray p = true) (h : ∀ w1, Ext w w1 → TX P n ops q.norm p ρ w1) : WC P n (.region id ops.toArray true) q ρ w := by
  simp only [Qsn, Bool.and_eq_true] at hok
  obtain ⟨hsel, hl, hp⟩ := hok
  have hl : p.len = ops.toArray.size := by simpa [Nat.beq_eq] using hl
  refine wp_region_any hm ?_
  have h1 := TX.toX (q := q) hsel (fun _ _ h => h) p (Array.replicate ops.toArray.size false) ρ { w with drawn := w.drawn + 1 } (by simp) (Closed.none _ _) (by rw [Qtk _ _ (Nat.le_refl _), hl]) hp (h _ (Ext.drew w))
  have h2 := anyX.toAny (fun _ _ _ h => h) p.len _ _ _ _ h1
  rw [hl] at h2
  exact h2

section
variable {K : Env → World → Prop} {ops : List Oper} {o : Oper} {i : Nat} {r : Pl} {v : Value}
theorem Xf (h : K ρ w) : TX P n ops K .done ρ w := h
theorem Qn (hi : ops[i]? = some o) (hw : XL ops.toArray o n ρ = true) (hy : ∀ w', Yl P n ρ o w' v) (h : TX P n ops K r (XA ρ o.dst v) w) : TX P n ops K (.p i r) ρ w :=
  ⟨o, v, hi, .inl ⟨hw, fun w' _ => hy w'⟩, h⟩
theorem QK (hi : ops[i]? = some o) (hw : XL ops.toArray o n ρ = true) (hy : ∀ w', Ext w w' → Yl P n ρ o w' v) (h : TX P n ops K r (XA ρ o.dst v) w) : TX P n ops K (.q i r) ρ w :=
  ⟨o, v, hi, .inl ⟨hw, hy⟩, h⟩
theorem Zb (b : Bool) (hi : ops[i]? = some o) (hw : XL ops.toArray o n ρ = b) (hy : ∀ w', b = true → Yl P n ρ o w' v) (h : TX P n ops K r (XA ρ o.dst (gd b v)) w) : TX P n ops K (.p i r) ρ w := by
  cases b with
  | true => rw [QQ rfl] at h; exact Qn hi hw (fun w' => hy w' rfl) h
  | false => rw [Qbm rfl] at h; exact ⟨o, undef, hi, .inr ⟨hw, rfl⟩, h⟩
theorem Zy (b : Bool) (hi : ops[i]? = some o) (hw : XL ops.toArray o n ρ = b) (hy : ∀ w', Ext w w' → b = true → Yl P n ρ o w' v) (h : TX P n ops K r (XA ρ o.dst (gd b v)) w) : TX P n ops K (.q i r) ρ w := by
  cases b with
  | true => rw [QQ rfl] at h; exact QK hi hw (fun w' hS => hy w' hS rfl) h
  | false => rw [Qbm rfl] at h; exact ⟨o, undef, hi, .inr ⟨hw, rfl⟩, h⟩
theorem QG (hi : ops[i]? = some o) (hw : XL ops.toArray o n ρ = true) (h : Eff P o n ρ w (fun v w' => Ext w w' ∧ TX P n ops K r (XA ρ o.dst v) w')) : TX P n ops K (.e i r) ρ w :=
  ⟨o, hi, by unfold Stp; rw [if_pos hw]; exact h⟩
theorem XB (hi : ops[i]? = some o) (hw : XL ops.toArray o n ρ = true) (h : Eff P o n ρ w (fun v w' => TX P n ops K r (XA ρ o.dst v) w')) : TX P n ops K (.b i r) ρ w :=
  ⟨o, hi, by unfold Stp; rw [if_pos hw]; exact h⟩
theorem Qeu (b : Bool) (V : Value) (hi : ops[i]? = some o) (hw : XL ops.toArray o n ρ = b) (ht : b = true → Eff P o n ρ w (fun v w' => v = V ∧ Ext w w'))
    (h : ∀ w', Ext w w' → Ext w w' ∧ TX P n ops K r (XA ρ o.dst (gd b V)) w') : TX P n ops K (.e i r) ρ w := by
  refine ⟨o, hi, ?_⟩
  unfold Stp
  cases b with
  | true =>
    rw [if_pos hw]
    refine (ht rfl).mono fun v w' ⟨hv, he⟩ => ?_
    have := h w' he; rw [QQ rfl] at this; rw [hv]; exact this
  | false =>
    rw [if_neg (by simp [hw])]
    have := h w (Chg.refl _ _); rw [Qbm rfl] at this; exact this
theorem Qus (Φ : Value → World → Prop) (b : Bool) (hi : ops[i]? = some o) (hw : XL ops.toArray o n ρ = b) (ht : b = true → Eff P o n ρ w (fun v w' => Ext w w' ∧ Φ v w'))
    (h : ∀ v w', Ext w w' → (b = true → Φ v w') → Ext w w' ∧ TX P n ops K r (XA ρ o.dst (gd b v)) w') : TX P n ops K (.e i r) ρ w := by
  refine ⟨o, hi, ?_⟩
  unfold Stp
  cases b with
  | true =>
    rw [if_pos hw]
    refine (ht rfl).mono fun v w' ⟨he, hv⟩ => ?_
    have := h v w' he (fun _ => hv); rw [QQ rfl] at this; exact this
  | false =>
    rw [if_neg (by simp [hw])]
    have := h undef w (Chg.refl _ _) (fun h => by cases h); rw [Qbm rfl] at this; exact this
theorem YJ {j : Nat} {s : Pl} {o2 : Oper} (hi : ops[i]? = some o) (hw : XL ops.toArray o n ρ = true) (hj : ops[j]? = some o2) (hw2 : XL ops.toArray o2 n ρ = true)
    (h : Eff P o n ρ w (fun v w' => Ext w w' ∧ TX P n ops K r (XA ρ o.dst v) w')) (h2 : Eff P o2 n ρ w (fun v w' => Ext w w' ∧ TX P n ops K s (XA ρ o2.dst v) w')) : TX P n ops K (.f i r j s) ρ w :=
  ⟨⟨o, hi, by unfold Stp; rw [if_pos hw]; exact h⟩, ⟨o2, hj, by unfold Stp; rw [if_pos hw2]; exact h2⟩⟩
end
end
end Go.Gw

end
section
namespace Go.Gw
open Go
section
variable {P : Program} {n : Nat} {q : Post} {ρ : Env} {w : World}
end
end Go.Gw

end
section
namespace Go.Gw
open Go
section
variable {P : Program} {n : Nat} {ρ : Env} {w w' : World}
variable {d : Option Nat} {t T U : TypeId} {p : String} {af : Array Edge} {gu : Option (Nat × Bool)} {x y z : Operand}
theorem JO {f : FuncId} {cap : Array Operand} {cs : List Value} (h : (cap.map (QE n ρ)).toList = cs) : Yl P n ρ ⟨d, .makeFunc (.func f) #[] cap, t, p, af, gu⟩ w (.func (.func f) #[] cs.toArray) := by
  have e : cap.map (QE n ρ) = cs.toArray := by rw [← h]
  simp [Yl, execOp, Instr.makeFunc, e, go_sem]
theorem YR {f : FuncId} {fn : Func} {c : Code} {xs : Array Operand} {aT : Array TypeId} {cs us args : List Value} {K Φ : Value → World → Prop} (hy : QE n ρ y = .func (.func f) #[] cs.toArray) (hf : P.funcs[f]? = some fn) (hname : (fn.name == "runtime.NumGoroutine") = false) (hb : fn.body = some c)
    (ha : (xs.map (QE n ρ)).toList = us) (hargs : us ++ cs = args) (hc : CallsTo P f args w Φ) (h : ∀ v w', Φ v w' → K v w') : Eff P ⟨d, .call ⟨.value y, xs, aT⟩, t, p, af, gu⟩ n ρ w K := by
  have e : xs.map (QE n ρ) = us.toArray := by rw [← ha]
  have : (execOp (QE n ρ) ⟨d, .call ⟨.value y, xs, aT⟩, t, p, af, gu⟩).run P w = .ok (.enter f args.toArray) w := by
    subst hargs
    simp [execOp, resolve, Deferred.ofValue, invoke, e, hy, MuLone.run_callFunc_enter hf hname hb]
  simp only [Eff, this]
  exact CallsTo.mono hc h
def QHn (H : List Value) (w : World) (b : Nat) : Prop := w.heap.size ≤ b ∨ ¬ Avoids H b
end
end Go.Gw

end
section
namespace Go.Gw
open Go
def ZW (k : IntKind) (a b : Int) : Option Int := if 0 ≤ b ∧ b ≤ k.bits then some (k.wrap (a * 2 ^ b.toNat)) else none
def Zg (k : IntKind) (a b : Int) : Option Int := if 0 ≤ b ∧ b ≤ k.bits then some (a.fdiv (2 ^ b.toNat)) else none
def Xl (k : IntKind) (a b : Int) : Int := k.wrap (BitVec.ofInt k.bits a &&& BitVec.ofInt k.bits b).toNat
def orS (k : IntKind) (a b : Int) : Int := k.wrap (BitVec.ofInt k.bits a ||| BitVec.ofInt k.bits b).toNat
def QIa (k : IntKind) (a b : Int) : Int := k.wrap (BitVec.ofInt k.bits a ^^^ BitVec.ofInt k.bits b).toNat
section
variable {P : Program} {n : Nat} {ρ : Env} {w w' : World}
variable {d : Option Nat} {t T U : TypeId} {p : String} {af : Array Edge} {gu : Option (Nat × Bool)} {x y z : Operand}
theorem J7 {k yk : IntKind} {a b c : Int} (h : ZW k a b = some c) (hx : QE n ρ x = .int k a) (hy : QE n ρ y = .int yk b) : Yl P n ρ ⟨d, .binOp .shl T x y U, t, p, af, gu⟩ w (.int k c) := by
  unfold ZW at h
  split at h
  · rename_i hb
    cases h
    have h1 : ¬ b < 0 := by omega
    have h2 : min b.toNat k.bits = b.toNat := by omega
    simp [Yl, execOp, hx, hy, eqGuard, binOp, Op.shift, h1, h2]
  · cases h
theorem Ju {k yk : IntKind} {a b c : Int} (h : Zg k a b = some c) (hx : QE n ρ x = .int k a) (hy : QE n ρ y = .int yk b) : Yl P n ρ ⟨d, .binOp .shr T x y U, t, p, af, gu⟩ w (.int k c) := by
  unfold Zg at h
  split at h
  · rename_i hb
    cases h
    have h1 : ¬ b < 0 := by omega
    have h2 : min b.toNat k.bits = b.toNat := by omega
    simp [Yl, execOp, hx, hy, eqGuard, binOp, Op.shift, h1, h2]
  · cases h
theorem Qcs {k : IntKind} {a b : Int} (hx : QE n ρ x = .int k a) (hy : QE n ρ y = .int k b) : Yl P n ρ ⟨d, .binOp .and T x y U, t, p, af, gu⟩ w (.int k (Xl k a b)) := by
  simp [Yl, execOp, hx, hy, eqGuard, binOp, Op.intBits, Xl]
def X5 (a b c : Int) : Option (Int × Int) := if 0 ≤ a ∧ 0 ≤ b ∧ 0 ≤ c ∧ c ≤ 1 then some ((a + b + c) % 18446744073709551616, (a + b + c) / 18446744073709551616) else none
theorem Qkj {f : FuncId} {fn : Func} {xs : Array Operand} {aT : Array TypeId} {a b c : Int} {r : Int × Int} {K : Value → World → Prop} (hf : P.funcs[f]? = some fn) (hname : (fn.name == "runtime.NumGoroutine") = false) (hb : fn.body.isNone = true) (hn : Extern.findNext fn = none) (he : Extern.find fn = some add64Entry)
    (ha : (xs.map (QE n ρ)).toList = [.int .u64 a, .int .u64 b, .int .u64 c]) (h : X5 a b c = some r) (hK : K (.tuple #[.int .u64 r.1, .int .u64 r.2]) w) : Eff P ⟨d, .call ⟨.value (.func f), xs, aT⟩, t, p, af, gu⟩ n ρ w K := by
  have e : xs.map (QE n ρ) = #[.int .u64 a, .int .u64 b, .int .u64 c] := by rw [← Array.toList_inj, ha]
  unfold X5 at h
  split at h
  · rename_i hc
    cases h
    have h1 := run_add64 (P := P) a b c hc.1 hc.2.1 hc.2.2.1 hc.2.2.2 w
    have h2 := run_callFunc_extern hf hname hb hn he #[.int .u64 a, .int .u64 b, .int .u64 c] w
    rw [h1] at h2
    have : (execOp (QE n ρ) ⟨d, .call ⟨.value (.func f), xs, aT⟩, t, p, af, gu⟩).run P w = .ok (.value (.tuple #[.int .u64 ((a + b + c) % 18446744073709551616), .int .u64 ((a + b + c) / 18446744073709551616)])) w := by
      simp [execOp, resolve, Deferred.ofValue, invoke, e, QE, h2, Result.andThen]
    simp only [Eff, this]
    exact hK
  · cases h
end
theorem Qfp {w : World} {a : Addr} {xs : List Int} {i el : Int} {k : IntKind} (h : At w a (xs.map (Value.int k))) (hi : idx xs i = some el) : At w (a.add (i.toNat * 1)) [.int k el] :=
  At.elem h (by rw [List.getElem?_map, (Ze hi).2.2]; rfl)
end Go.Gw

end
section
namespace Go.Gw
open Go
def isnil : Value → Bool
  | .slice none _ _ => true
  | _ => false
section
variable {P : Program} {n : Nat} {ρ : Env} {w w' : World}
variable {d : Option Nat} {t T U : TypeId} {p : String} {af : Array Edge} {gu : Option (Nat × Bool)} {x y z : Operand}
theorem QGz {α : Type} [Rep α] {e : TypeId} {L : List Value} {w2 : World} {v : Value} {xs : List α} (hu : P.underlying T = some (.slice e)) (hs : SlRd L w2 v xs) (hx : QE n ρ x = v) (hy : QE n ρ y = .slice none 0 0) :
    Yl P n ρ ⟨d, .binOp .eql T x y U, t, p, af, gu⟩ w (.bool (isnil v)) := by
  have : ∃ a m c, v = .slice a m c := by
    rcases hs with ⟨a0, h, _⟩ | ⟨b, off, cap, cur, e, fz, h1, _⟩
    · exact ⟨_, _, _, h⟩
    · exact ⟨_, _, _, h1⟩
  obtain ⟨a, m, c, rfl⟩ := this
  have h1 : (Op.equal T (.slice a m c) (.slice none 0 0)).run P w = .ok a.isNone w := by
    simp [Op.equal, Op.maxDepth, Lib.run_equalIn_slice_nil w 9999 T e a m c 0 0 hu]
  have h2 : a.isNone = isnil (.slice a m c) := by cases a <;> rfl
  rw [← h2]
  simp [Yl, execOp, hx, hy, eqGuard, binOp, h1, Result.andThen]
theorem SlRd.isnil {α : Type} [Rep α] {L : List Value} {v : Value} {xs : List α} (hs : SlRd L w v xs) (h : isnil v = true) : xs = [] := by
  rcases hs with ⟨a0, rfl, h2⟩ | ⟨b, off, cap, cur, e, fz, rfl, _⟩
  · exact h2
  · cases h
theorem QAp {α β : Type} {xs : List α} {f : List α → Option β} {e : Option β} {r : β} (h0 : xs = []) (h : f xs = some r) (he : f [] = e) : e = some r := by subst h0; rw [← he]; exact h
end
end Go.Gw

end
section
namespace Go.Gw
open Go
def fLt (a b : Nat) : Bool := FloatKind.f32.format.order a b == some .lt
def Zs (a b : Nat) : Bool := FloatKind.f32.format.order a b == some .lt || FloatKind.f32.format.order a b == some .eq
def fGt (a b : Nat) : Bool := FloatKind.f32.format.order a b == some .gt
def YS (a b : Nat) : Bool := FloatKind.f32.format.order a b == some .gt || FloatKind.f32.format.order a b == some .eq
def Ji (a b : Nat) : Bool := FloatKind.f32.format.order a b == some .eq
def fNe (a b : Nat) : Bool := FloatKind.f32.format.order a b != some .eq
def Qkn (a b : Nat) : Option Nat := FloatKind.f32.format.sub a b
def QHv (a b : Nat) : Option Nat := FloatKind.f32.format.add a b
def JX (a : Nat) : Option Int := match (FloatKind.f32.decode a).toInt .zero with
  | some n => if -9223372036854775808 ≤ n ∧ n ≤ 9223372036854775807 then some n else none
  | none => none
def Qae (n : Int) : Nat := FloatKind.f32.nearest n
section
variable {P : Program} {n : Nat} {ρ : Env} {w : World}
variable {d : Option Nat} {t T U : TypeId} {p : String} {af : Array Edge} {gu : Option (Nat × Bool)} {x y z : Operand} {a b : Nat}
theorem Qub (hx : QE n ρ x = .float .f32 a) (hy : QE n ρ y = .float .f32 b) : Yl P n ρ ⟨d, .binOp .leq T x y U, t, p, af, gu⟩ w (.bool (Zs a b)) := by simp [Yl, execOp, hx, hy, eqGuard, binOp, Op.floatCmp, Zs]
theorem Qua (hx : QE n ρ x = .float .f32 a) (hy : QE n ρ y = .float .f32 b) : Yl P n ρ ⟨d, .binOp .geq T x y U, t, p, af, gu⟩ w (.bool (YS a b)) := by simp [Yl, execOp, hx, hy, eqGuard, binOp, Op.floatCmp, YS]
theorem Qtz (hx : QE n ρ x = .float .f32 a) (hy : QE n ρ y = .float .f32 b) : Yl P n ρ ⟨d, .binOp .eql T x y U, t, p, af, gu⟩ w (.bool (Ji a b)) := by simp [Yl, execOp, hx, hy, eqGuard, binOp, Op.floatCmp, Ji]
theorem QHd {c : Nat} (h : Qkn a b = some c) (hx : QE n ρ x = .float .f32 a) (hy : QE n ρ y = .float .f32 b) : Yl P n ρ ⟨d, .binOp .sub T x y U, t, p, af, gu⟩ w (.float .f32 c) := by
  unfold Qkn at h; simp [Yl, execOp, hx, hy, eqGuard, binOp, Op.floatArith, h]
theorem Quc {c : Int} (h : JX a = some c) (hu : P.underlying T = some (.float .f32)) (hv : P.underlying U = some (.int .i64)) (hx : QE n ρ x = .float .f32 a) : Yl P n ρ ⟨d, .convert T U x, t, p, af, gu⟩ w (.int .i64 c) := by
  unfold JX at h
  split at h
  · rename_i m hm
    split at h
    · rename_i hr
      cases h
      have h1 : IntKind.i64.min ≤ c ∧ c ≤ IntKind.i64.max := hr
      have h2 : c ≤ 9223372036854775807 := hr.2
      simp [Yl, execOp, hx, convert, run_underlying hu, run_underlying hv, Conv.floatToInt, hm, h1, h2, Result.andThen]
    · cases h
  · cases h
theorem QHg {k : IntKind} {c : Int} (hu : P.underlying T = some (.int k)) (hv : P.underlying U = some (.float .f32)) (hx : QE n ρ x = .int k c) : Yl P n ρ ⟨d, .convert T U x, t, p, af, gu⟩ w (.float .f32 (Qae c)) := by
  simp [Yl, execOp, hx, convert, run_underlying hu, run_underlying hv, Conv.intToFloat, Result.andThen, Qae]
theorem QHf {m e : Nat} {k : IntKind} {i : Int} {el : Nat} {xs : List Nat} (hu : P.underlying T = some (.array m e)) (hs : Y6 P e) (hz : XK P e 1) (hl : xs.length = m) (hx : QE n ρ x = .agg (xs.map (Value.float .f32)).toArray) (hy : QE n ρ y = .int k i)
    (h : idx xs i = some el) : Yl P n ρ ⟨d, .index T x y, t, p, af, gu⟩ w (.float .f32 el) := by
  obtain ⟨h0, h1, h2⟩ := Ze h
  have hp : (part e (xs.map (Value.float .f32)).toArray (i.toNat * 1)).run P w = .ok (.float .f32 el) w := Qnp hs (by rw [Nat.mul_one, List.getElem?_map, h2]; rfl)
  have h1' : i < (m : Int) := by omega
  simp [Yl, execOp, hx, hy, Instr.index, asIntOf, run_underlying hu, h0, h1', Zv hz] at hp ⊢
  simp [hp]
end
end Go.Gw

end
