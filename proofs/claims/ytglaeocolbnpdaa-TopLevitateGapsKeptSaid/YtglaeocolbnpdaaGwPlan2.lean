/- Laws of the walk. Condition: each theorem says its own. -/
import Derived.Test.YtglaeocolbnpdaaGwPlan
import Derived.Laws.ByValue
import Derived.Laws.Externs
import Derived.WalkSpells
import Derived.Shelf.GgSortFunc.InsertionK
import Derived.Sort.Statements
import Derived.IntWalk
import Derived.Test.YtglaeocolbnpdaaGwFacts
import Derived.Shelf.SlicesE.DeleteFunc
import Derived.Shelf.SlicesE.Delete
import Derived.WalkKit
import Derived.Shelf.SortM.Plain
section
namespace Go.Gw
open Go
section
variable {P : Program} {n : Nat} {q : Post} {ρ : Env} {w : World}

def TX (P : Program) (n : Nat) (ops : List Oper) (K : Env → World → Prop) : Pl → Env → World → Prop
  | .done, ρ, w => K ρ w
  | .p i r, ρ, w => ∃ o v, ops[i]? = some o ∧ Quiet P n ops.toArray (fun _ => True) o ρ v ∧ TX P n ops K r (updo ρ o.dst v) w
  | .q i r, ρ, w => ∃ o v, ops[i]? = some o ∧ Quiet P n ops.toArray (Ext w) o ρ v ∧ TX P n ops K r (updo ρ o.dst v) w
  | .e i r, ρ, w => ∃ o, ops[i]? = some o ∧ Stp P n ops.toArray o ρ w (fun ρ' w' => Ext w w' ∧ TX P n ops K r ρ' w')
  | .b i r, ρ, w => ∃ o, ops[i]? = some o ∧ Stp P n ops.toArray o ρ w (fun ρ' w' => TX P n ops K r ρ' w')
  | .f i r j s, ρ, w => (∃ o, ops[i]? = some o ∧ Stp P n ops.toArray o ρ w (fun ρ' w' => Ext w w' ∧ TX P n ops K r ρ' w')) ∧
      (∃ o, ops[j]? = some o ∧ Stp P n ops.toArray o ρ w (fun ρ' w' => Ext w w' ∧ TX P n ops K s ρ' w'))

def anyX (P : Program) (ops : Array Oper) (Q : Exit → Act → World → Prop) (bs : List Nat) (Kt : Array Bool → Act → World → Prop) : Nat → (World → Prop) → Array Bool → Act → World → Prop
  | 0, _, listed, a, w => Kt listed a w
  | fuel + 1, S, listed, a, w => Region.ready .any ops listed ≠ [] ∧ ∀ i ∈ Region.ready .any ops listed, wpOp P ops Q i (fun a' w' => ∃ S' : World → Prop, (bs.contains i = false → S w → S' w' ∧ ∀ x, S' x → S x) ∧ anyX P ops Q bs Kt fuel S' (listed.setIfInBounds i true) a' w') a w

theorem anyX.toAny {ops : Array Oper} {Q : Exit → Act → World → Prop} {bs : List Nat} {Kt : Array Bool → Act → World → Prop} (ht : ∀ listed a w, Kt listed a w → wpAny P .any ops Q 0 listed a w) :
    ∀ (fuel : Nat) (S : World → Prop) (listed : Array Bool) (a : Act) (w : World), anyX P ops Q bs Kt fuel S listed a w → wpAny P .any ops Q fuel listed a w
  | 0, _, listed, a, w, h => ht _ _ _ h
  | fuel + 1, S, listed, a, w, h => ⟨fun h0 => absurd h0 h.1, fun i hi => wpOp_mono (fun a' w' ⟨S', _, h'⟩ => anyX.toAny ht fuel S' _ a' w' h') (h.2 i hi)⟩

theorem anyX_first {ops : Array Oper} {Q : Exit → Act → World → Prop} {bs : List Nat} {Si : World → Prop} {Kt : Array Bool → Act → World → Prop} {i : Nat} {oi : Oper} {v : Value} (hi : ops[i]? = some oi)
    (hb : (∀ b ∈ bs, must ops ops.size b i = true) ∨ ∀ w, Si w)
    (hsel : ∀ (j : Nat) (o : Oper) cs b, ops[j]? = some o → o.op ≠ .select cs b) (hQ : ∀ c a w, ¬ Q (.panic c) a w) :
    ∀ (fuel : Nat) (S : World → Prop) (listed : Array Bool) (a : Act) (w : World), listed.size = ops.size → Closed ops listed → fuel + 1 = unl listed ops.size →
      (∀ j oj, ops[j]? = some oj → j ≠ i → listed.getD j true = false → (∀ e ∈ oj.after, Region.binds .any e = true → e.on ≠ i) → oi.apart ops oj = true) →
      i ∈ Region.ready .any ops listed → YieldsIf P ops Si oi v a → Si w → ((S w ∧ ∀ x, S x → Si x) ∨ ∀ w, Si w) →
      anyX P ops Q bs Kt fuel S (listed.setIfInBounds i true) (a.put oi.dst v) w → anyX P ops Q bs Kt (fuel + 1) S listed a w := by
  have hQ' : ∀ c (a : Act) w, Q (.panic c) (a.put oi.dst v) w → Q (.panic c) a w := fun c a w h => absurd h (hQ _ _ _)
  have hlt : ∀ {j : Nat} {listed : Array Bool}, j ∈ Region.ready .any ops listed → j < ops.size := fun hj => by
    obtain ⟨_, oj, hoj, _⟩ := mem_ready.1 hj
    exact (Array.getElem?_eq_some_iff.1 hoj).1
  have him := (Array.getElem?_eq_some_iff.1 hi).1
  intro fuel
  induction fuel with
  | zero =>
    intro S listed a w hls hcl hcnt _ hr hy hSw hD H
    have hiu := (mem_ready.1 hr).1
    refine ⟨fun h => (by rw [h] at hr; cases hr), fun j hj => ?_⟩
    by_cases hji : j = i
    · subst hji; exact hy.wpOp hi hSw ⟨S, fun _ h => ⟨h, fun _ h => h⟩, H⟩
    · exfalso
      have := unl_two (listed := listed) (hlt hj) him hji (by simpa using (mem_ready.1 hj).1) (by simpa using hiu)
      omega
  | succ fuel ih =>
    intro S listed a w hls hcl hcnt hfree hr hy hSw hD H
    have hiu := (mem_ready.1 hr).1
    refine ⟨fun h => (by rw [h] at hr; cases hr), fun j hj => ?_⟩
    by_cases hji : j = i
    · subst hji; exact hy.wpOp hi hSw ⟨S, fun _ h => ⟨h, fun _ h => h⟩, H⟩
    · have h1 := H.2 j (ready_mono hj hji)
      obtain ⟨hjun, oj, hoj, hall⟩ := mem_ready.1 hj
      have hnot : ∀ e ∈ oj.after, Region.binds .any e = true → e.on ≠ i := fun e he hb heq => by
        have h1 := hall e he hb
        have h0 := (mem_ready.1 hr).1
        rw [heq] at h1
        rcases Nat.lt_or_ge i listed.size with h' | h'
        · simp [h'] at h0 h1; rw [h0] at h1; cases h1
        · simp [Array.getElem?_eq_none h'] at h1
      have h2 := wpOp_putIf hoj (hfree j oj hoj hji hjun hnot) (fun cs b => hsel i oi cs b hi) (fun cs b => hsel j oj cs b hoj) hQ' hy h1
      have hfree' : ∀ k ok, ops[k]? = some ok → k ≠ i → (listed.setIfInBounds j true).getD k true = false →
          (∀ e ∈ ok.after, Region.binds .any e = true → e.on ≠ i) → oi.apart ops ok = true := fun k ok hk hki hun hno => hfree k ok hk hki (unset hun).1 hno
      have hbj : bs.contains j = false ∨ ∀ w, Si w := by
        rcases hb with hb | hb
        · left
          cases hc : bs.contains j with
          | false => rfl
          | true =>
            exfalso
            have hm := must_spec hcl _ _ _ _ hoj hall (hb j (by simpa using hc))
            have him' : i < listed.size := by rw [hls]; exact him
            simp [Array.getD, him'] at hiu hm
            rw [hiu] at hm; cases hm
        · exact .inr hb
      refine wpOp_mono (fun a' w' h3 => ?_) h2
      obtain ⟨hy', S', hk', h4⟩ := h3
      refine ⟨S', hk', ?_⟩
      have hD' : (S' w' ∧ ∀ x, S' x → Si x) ∨ ∀ w, Si w := by
        rcases hD with hD | hD
        · rcases hbj with hbj | hbj
          · exact .inl ⟨(hk' hbj hD.1).1, fun x hx => hD.2 x ((hk' hbj hD.1).2 x hx)⟩
          · exact .inr hbj
        · exact .inr hD
      have hSw' : Si w' := by
        rcases hD' with h | h
        · exact h.2 _ h.1
        · exact h _
      refine ih S' (listed.setIfInBounds j true) a' w' (by simpa using hls) (hcl.set hj) (by have := unl_set (listed := listed) (hlt hj) (by simpa using hjun); omega) hfree' (ready_mono hr (Ne.symm hji)) hy' hSw' hD' ?_
      rw [Array.setIfInBounds_comm _ _ hji]
      exact h4

theorem TX.toX {ops : List Oper} {bs : List Nat} {K : Env → World → Prop} (hsel : Region.noSelect ops.toArray = true) (hK : ∀ ρ w, K ρ w → q.norm ρ w) :
    ∀ (p : Pl) (listed : Array Bool) (ρ : Env) (w : World), listed.size = ops.toArray.size → Closed ops.toArray listed → unl listed ops.toArray.size = p.len → planOK ops.toArray bs p listed = true →
    TX P n ops K p ρ w → anyX P ops.toArray (q.Q n) bs (fun listed a w => wpAny P .any ops.toArray (q.Q n) 0 listed a w) p.len (Ext w) listed (act n ρ) w
  | .done, listed, ρ, w, _, _, _, hok, h => ⟨by simpa [planOK] using hok, ρ, rfl, hK _ _ h⟩
  | .p i r, listed, ρ, w, hls, hcl, hc, hok, h => by
    simp only [planOK, Bool.and_eq_true] at hok
    obtain ⟨⟨hf, hr⟩, hrest⟩ := hok
    obtain ⟨o, v, hi', hq, ht⟩ := h
    have hi : ops.toArray[i]? = some o := by simpa using hi'
    have him := (Array.getElem?_eq_some_iff.1 hi).1
    have hr : i ∈ Region.ready .any ops.toArray listed := by simpa using hr
    have hc' := unl_set (listed := listed) him (by simpa using (mem_ready.1 hr).1)
    simp only [Pl.len] at hc
    refine anyX_first (Si := fun _ => True) hi (.inr fun _ => trivial) (Region.noSelect_spec hsel) (fun _ _ _ h => h) r.len (Ext w) listed _ w hls hcl hc.symm (Region.free_spec hi hf) hr hq.yields trivial (.inr fun _ => trivial) ?_
    rw [act_puto]
    exact TX.toX hsel hK r _ _ w (by simpa using hls) (hcl.set hr) (by omega) hrest ht
  | .q i r, listed, ρ, w, hls, hcl, hc, hok, h => by
    simp only [planOK, Bool.and_eq_true, List.all_eq_true] at hok
    obtain ⟨⟨⟨hm, hf⟩, hr⟩, hrest⟩ := hok
    obtain ⟨o, v, hi', hq, ht⟩ := h
    have hi : ops.toArray[i]? = some o := by simpa using hi'
    have him := (Array.getElem?_eq_some_iff.1 hi).1
    have hr : i ∈ Region.ready .any ops.toArray listed := by simpa using hr
    have hc' := unl_set (listed := listed) him (by simpa using (mem_ready.1 hr).1)
    simp only [Pl.len] at hc
    refine anyX_first (Si := Ext w) hi (.inl hm) (Region.noSelect_spec hsel) (fun _ _ _ h => h) r.len (Ext w) listed _ w hls hcl hc.symm (Region.free_spec hi hf) hr hq.yields (Chg.refl _ _) (.inl ⟨Chg.refl _ _, fun _ h => h⟩) ?_
    rw [act_puto]
    exact TX.toX hsel hK r _ _ w (by simpa using hls) (hcl.set hr) (by omega) hrest ht
  | .e i r, listed, ρ, w, hls, hcl, hc, hok, h => by
    simp only [planOK, Bool.and_eq_true, beq_iff_eq] at hok
    obtain ⟨hr, hnb, hrest⟩ := hok
    obtain ⟨o, hi', hs⟩ := h
    have hi : ops.toArray[i]? = some o := by simpa using hi'
    have hr' : i ∈ Region.ready .any ops.toArray listed := by rw [hr]; simp
    have hc' := unl_set (listed := listed) (Array.getElem?_eq_some_iff.1 hi).1 (by simpa using (mem_ready.1 hr').1)
    simp only [Pl.len] at hc
    refine ⟨by rw [hr]; simp, fun j hj => ?_⟩
    have hj : j = i := by rw [hr] at hj; simpa using hj
    subst hj
    exact hs.toWpOp hi fun ρ w' h' => ⟨Ext w', fun _ _ => ⟨Chg.refl _ _, fun _ hx => Chg.trans h'.1 hx⟩, TX.toX hsel hK r _ _ w' (by simpa using hls) (hcl.set hr') (by omega) hrest h'.2⟩
  | .b i r, listed, ρ, w, hls, hcl, hc, hok, h => by
    simp only [planOK, Bool.and_eq_true, beq_iff_eq] at hok
    obtain ⟨hr, hib, hnq, hrest⟩ := hok
    obtain ⟨o, hi', hs⟩ := h
    have hi : ops.toArray[i]? = some o := by simpa using hi'
    have hr' : i ∈ Region.ready .any ops.toArray listed := by rw [hr]; simp
    have hc' := unl_set (listed := listed) (Array.getElem?_eq_some_iff.1 hi).1 (by simpa using (mem_ready.1 hr').1)
    simp only [Pl.len] at hc
    refine ⟨by rw [hr]; simp, fun j hj => ?_⟩
    have hj : j = i := by rw [hr] at hj; simpa using hj
    subst hj
    refine hs.toWpOp hi fun ρ w' h' => ⟨Ext w', ?_, TX.toX hsel hK r _ _ w' (by simpa using hls) (hcl.set hr') (by omega) hrest h'⟩
    intro hb; rw [hib] at hb; cases hb
  | .f i r j s, listed, ρ, w, hls, hcl, hc, hok, h => by
    simp only [planOK, Bool.and_eq_true, beq_iff_eq] at hok
    obtain ⟨hr, hlen, hn1, hn2, hrest, hrest2⟩ := hok
    obtain ⟨⟨o, hi', hs⟩, o2, hj', hs2⟩ := h
    have hi : ops.toArray[i]? = some o := by simpa using hi'
    have hj2 : ops.toArray[j]? = some o2 := by simpa using hj'
    have hri : i ∈ Region.ready .any ops.toArray listed := by rw [hr]; simp
    have hrj : j ∈ Region.ready .any ops.toArray listed := by rw [hr]; simp
    have hci := unl_set (listed := listed) (Array.getElem?_eq_some_iff.1 hi).1 (by simpa using (mem_ready.1 hri).1)
    have hcj := unl_set (listed := listed) (Array.getElem?_eq_some_iff.1 hj2).1 (by simpa using (mem_ready.1 hrj).1)
    have hlen : r.len = s.len := by simpa using hlen
    simp only [Pl.len] at hc
    refine ⟨by rw [hr]; simp, fun k hk => ?_⟩
    rw [hr] at hk
    rcases List.mem_cons.1 hk with rfl | hk
    · exact hs.toWpOp hi fun ρ w' h' => ⟨Ext w', fun _ _ => ⟨Chg.refl _ _, fun _ hx => Chg.trans h'.1 hx⟩, TX.toX hsel hK r _ _ w' (by simpa using hls) (hcl.set hri) (by omega) hrest h'.2⟩
    · have hk : k = j := by simpa using hk
      subst hk
      have := fun ρ w' (h' : Ext w w' ∧ TX P n ops K s ρ w') => TX.toX hsel hK s (listed.setIfInBounds k true) ρ w' (by simpa using hls) (hcl.set hrj) (by omega) hrest2 h'.2
      refine hs2.toWpOp hj2 fun ρ w' h' => ⟨Ext w', fun _ _ => ⟨Chg.refl _ _, fun _ hx => Chg.trans h'.1 hx⟩, ?_⟩
      have h3 := this ρ w' h'
      rw [← hlen] at h3
      exact h3

theorem WC_planX {id : Nat} {ops : List Oper} (hm : P.follows .mixedOrders = true) (p : Pl) (hok : planOKs ops.toArray p = true) (h : ∀ w1, Ext w w1 → TX P n ops q.norm p ρ w1) : WC P n (.region id ops.toArray true) q ρ w := by
  simp only [planOKs, Bool.and_eq_true] at hok
  obtain ⟨hsel, hl, hp⟩ := hok
  have hl : p.len = ops.toArray.size := by simpa [Nat.beq_eq] using hl
  refine wp_region_any hm ?_
  have h1 := TX.toX (q := q) hsel (fun _ _ h => h) p (Array.replicate ops.toArray.size false) ρ { w with drawn := w.drawn + 1 } (by simp) (Closed.none _ _) (by rw [unl_none _ _ (Nat.le_refl _), hl]) hp (h _ (Ext.drew w))
  have h2 := anyX.toAny (fun _ _ _ h => h) p.len _ _ _ _ h1
  rw [hl] at h2
  exact h2

section
variable {K : Env → World → Prop} {ops : List Oper} {o : Oper} {i : Nat} {r : Pl} {v : Value}
theorem TX_done (h : K ρ w) : TX P n ops K .done ρ w := h
theorem TX_p (hi : ops[i]? = some o) (hw : Wanted ops.toArray o n ρ = true) (hy : ∀ w', Yl P n ρ o w' v) (h : TX P n ops K r (updo ρ o.dst v) w) : TX P n ops K (.p i r) ρ w :=
  ⟨o, v, hi, .inl ⟨hw, fun w' _ => hy w'⟩, h⟩
theorem TX_q (hi : ops[i]? = some o) (hw : Wanted ops.toArray o n ρ = true) (hy : ∀ w', Ext w w' → Yl P n ρ o w' v) (h : TX P n ops K r (updo ρ o.dst v) w) : TX P n ops K (.q i r) ρ w :=
  ⟨o, v, hi, .inl ⟨hw, hy⟩, h⟩
theorem TX_gp (b : Bool) (hi : ops[i]? = some o) (hw : Wanted ops.toArray o n ρ = b) (hy : ∀ w', b = true → Yl P n ρ o w' v) (h : TX P n ops K r (updo ρ o.dst (gd b v)) w) : TX P n ops K (.p i r) ρ w := by
  cases b with
  | true => rw [gd_true rfl] at h; exact TX_p hi hw (fun w' => hy w' rfl) h
  | false => rw [gd_false rfl] at h; exact ⟨o, undef, hi, .inr ⟨hw, rfl⟩, h⟩
theorem TX_gq (b : Bool) (hi : ops[i]? = some o) (hw : Wanted ops.toArray o n ρ = b) (hy : ∀ w', Ext w w' → b = true → Yl P n ρ o w' v) (h : TX P n ops K r (updo ρ o.dst (gd b v)) w) : TX P n ops K (.q i r) ρ w := by
  cases b with
  | true => rw [gd_true rfl] at h; exact TX_q hi hw (fun w' hS => hy w' hS rfl) h
  | false => rw [gd_false rfl] at h; exact ⟨o, undef, hi, .inr ⟨hw, rfl⟩, h⟩
theorem TX_e (hi : ops[i]? = some o) (hw : Wanted ops.toArray o n ρ = true) (h : Eff P o n ρ w (fun v w' => Ext w w' ∧ TX P n ops K r (updo ρ o.dst v) w')) : TX P n ops K (.e i r) ρ w :=
  ⟨o, hi, by unfold Stp; rw [if_pos hw]; exact h⟩
theorem TX_b (hi : ops[i]? = some o) (hw : Wanted ops.toArray o n ρ = true) (h : Eff P o n ρ w (fun v w' => TX P n ops K r (updo ρ o.dst v) w')) : TX P n ops K (.b i r) ρ w :=
  ⟨o, hi, by unfold Stp; rw [if_pos hw]; exact h⟩
theorem TX_ges (b : Bool) (V : Value) (hi : ops[i]? = some o) (hw : Wanted ops.toArray o n ρ = b) (ht : b = true → Eff P o n ρ w (fun v w' => v = V ∧ Ext w w'))
    (h : ∀ w', Ext w w' → Ext w w' ∧ TX P n ops K r (updo ρ o.dst (gd b V)) w') : TX P n ops K (.e i r) ρ w := by
  refine ⟨o, hi, ?_⟩
  unfold Stp
  cases b with
  | true =>
    rw [if_pos hw]
    refine (ht rfl).mono fun v w' ⟨hv, he⟩ => ?_
    have := h w' he; rw [gd_true rfl] at this; rw [hv]; exact this
  | false =>
    rw [if_neg (by simp [hw])]
    have := h w (Chg.refl _ _); rw [gd_false rfl] at this; exact this
theorem TX_f {j : Nat} {s : Pl} {o2 : Oper} (hi : ops[i]? = some o) (hw : Wanted ops.toArray o n ρ = true) (hj : ops[j]? = some o2) (hw2 : Wanted ops.toArray o2 n ρ = true)
    (h : Eff P o n ρ w (fun v w' => Ext w w' ∧ TX P n ops K r (updo ρ o.dst v) w')) (h2 : Eff P o2 n ρ w (fun v w' => Ext w w' ∧ TX P n ops K s (updo ρ o2.dst v) w')) : TX P n ops K (.f i r j s) ρ w :=
  ⟨⟨o, hi, by unfold Stp; rw [if_pos hw]; exact h⟩, ⟨o2, hj, by unfold Stp; rw [if_pos hw2]; exact h2⟩⟩
end
end
end Go.Gw

end
section
namespace Go.Gw
open Go
section
variable {P : Program} {n : Nat} {q : Post} {ρ : Env} {w : World}
end
end Go.Gw

end
section
namespace Go.Gw
open Go
section
variable {P : Program} {n : Nat} {ρ : Env} {w w' : World}
variable {d : Option Nat} {t T U : TypeId} {p : String} {af : Array Edge} {gu : Option (Nat × Bool)} {x y z : Operand}
theorem yl_makeFunc {f : FuncId} {cap : Array Operand} {cs : List Value} (h : (cap.map (evO n ρ)).toList = cs) : Yl P n ρ ⟨d, .makeFunc (.func f) #[] cap, t, p, af, gu⟩ w (.func (.func f) #[] cs.toArray) := by
  have e : cap.map (evO n ρ) = cs.toArray := by rw [← h]
  simp [Yl, execOp, Instr.makeFunc, e, go_sem]
theorem eff_callC {f : FuncId} {fn : Func} {c : Code} {xs : Array Operand} {aT : Array TypeId} {cs us args : List Value} {K Φ : Value → World → Prop} (hy : evO n ρ y = .func (.func f) #[] cs.toArray) (hf : P.funcs[f]? = some fn) (hname : (fn.name == "runtime.NumGoroutine") = false) (hb : fn.body = some c)
    (ha : (xs.map (evO n ρ)).toList = us) (hargs : us ++ cs = args) (hc : CallsTo P f args w Φ) (h : ∀ v w', Φ v w' → K v w') : Eff P ⟨d, .call ⟨.value y, xs, aT⟩, t, p, af, gu⟩ n ρ w K := by
  have e : xs.map (evO n ρ) = us.toArray := by rw [← ha]
  have : (execOp (evO n ρ) ⟨d, .call ⟨.value y, xs, aT⟩, t, p, af, gu⟩).run P w = .ok (.enter f args.toArray) w := by
    subst hargs
    simp [execOp, resolve, Deferred.ofValue, invoke, e, hy, MuLone.run_callFunc_enter hf hname hb]
  simp only [Eff, this]
  exact CallsTo.mono hc h
def NewOr (H : List Value) (w : World) (b : Nat) : Prop := w.heap.size ≤ b ∨ ¬ Avoids H b
end
end Go.Gw

end
section
namespace Go.Gw
open Go
def shlS (k : IntKind) (a b : Int) : Option Int := if 0 ≤ b ∧ b ≤ k.bits then some (k.wrap (a * 2 ^ b.toNat)) else none
def shrS (k : IntKind) (a b : Int) : Option Int := if 0 ≤ b ∧ b ≤ k.bits then some (a.fdiv (2 ^ b.toNat)) else none
def andS (k : IntKind) (a b : Int) : Int := k.wrap (BitVec.ofInt k.bits a &&& BitVec.ofInt k.bits b).toNat
def orS (k : IntKind) (a b : Int) : Int := k.wrap (BitVec.ofInt k.bits a ||| BitVec.ofInt k.bits b).toNat
def xorS (k : IntKind) (a b : Int) : Int := k.wrap (BitVec.ofInt k.bits a ^^^ BitVec.ofInt k.bits b).toNat
section
variable {P : Program} {n : Nat} {ρ : Env} {w w' : World}
variable {d : Option Nat} {t T U : TypeId} {p : String} {af : Array Edge} {gu : Option (Nat × Bool)} {x y z : Operand}
theorem yl_shl {k yk : IntKind} {a b c : Int} (h : shlS k a b = some c) (hx : evO n ρ x = .int k a) (hy : evO n ρ y = .int yk b) : Yl P n ρ ⟨d, .binOp .shl T x y U, t, p, af, gu⟩ w (.int k c) := by
  unfold shlS at h
  split at h
  · rename_i hb
    cases h
    have h1 : ¬ b < 0 := by omega
    have h2 : min b.toNat k.bits = b.toNat := by omega
    simp [Yl, execOp, hx, hy, eqGuard, binOp, Op.shift, h1, h2]
  · cases h
theorem yl_shr {k yk : IntKind} {a b c : Int} (h : shrS k a b = some c) (hx : evO n ρ x = .int k a) (hy : evO n ρ y = .int yk b) : Yl P n ρ ⟨d, .binOp .shr T x y U, t, p, af, gu⟩ w (.int k c) := by
  unfold shrS at h
  split at h
  · rename_i hb
    cases h
    have h1 : ¬ b < 0 := by omega
    have h2 : min b.toNat k.bits = b.toNat := by omega
    simp [Yl, execOp, hx, hy, eqGuard, binOp, Op.shift, h1, h2]
  · cases h
theorem yl_and' {k : IntKind} {a b : Int} (hx : evO n ρ x = .int k a) (hy : evO n ρ y = .int k b) : Yl P n ρ ⟨d, .binOp .and T x y U, t, p, af, gu⟩ w (.int k (andS k a b)) := by
  simp [Yl, execOp, hx, hy, eqGuard, binOp, Op.intBits, andS]
def addC (a b c : Int) : Option (Int × Int) := if 0 ≤ a ∧ 0 ≤ b ∧ 0 ≤ c ∧ c ≤ 1 then some ((a + b + c) % 18446744073709551616, (a + b + c) / 18446744073709551616) else none
theorem eff_add64 {f : FuncId} {fn : Func} {xs : Array Operand} {aT : Array TypeId} {a b c : Int} {r : Int × Int} {K : Value → World → Prop} (hf : P.funcs[f]? = some fn) (hname : (fn.name == "runtime.NumGoroutine") = false) (hb : fn.body.isNone = true) (hn : Extern.findNext fn = none) (he : Extern.find fn = some add64Entry)
    (ha : (xs.map (evO n ρ)).toList = [.int .u64 a, .int .u64 b, .int .u64 c]) (h : addC a b c = some r) (hK : K (.tuple #[.int .u64 r.1, .int .u64 r.2]) w) : Eff P ⟨d, .call ⟨.value (.func f), xs, aT⟩, t, p, af, gu⟩ n ρ w K := by
  have e : xs.map (evO n ρ) = #[.int .u64 a, .int .u64 b, .int .u64 c] := by rw [← Array.toList_inj, ha]
  unfold addC at h
  split at h
  · rename_i hc
    cases h
    have h1 := run_add64 (P := P) a b c hc.1 hc.2.1 hc.2.2.1 hc.2.2.2 w
    have h2 := run_callFunc_extern hf hname hb hn he #[.int .u64 a, .int .u64 b, .int .u64 c] w
    rw [h1] at h2
    have : (execOp (evO n ρ) ⟨d, .call ⟨.value (.func f), xs, aT⟩, t, p, af, gu⟩).run P w = .ok (.value (.tuple #[.int .u64 ((a + b + c) % 18446744073709551616), .int .u64 ((a + b + c) / 18446744073709551616)])) w := by
      simp [execOp, resolve, Deferred.ofValue, invoke, e, evO, h2, Result.andThen]
    simp only [Eff, this]
    exact hK
  · cases h
end
theorem glob_atk {w : World} {a : Addr} {xs : List Int} {i el : Int} {k : IntKind} (h : At w a (xs.map (Value.int k))) (hi : idx xs i = some el) : At w (a.add (i.toNat * 1)) [.int k el] :=
  At.elem h (by rw [List.getElem?_map, (idx_some hi).2.2]; rfl)
end Go.Gw

end
section
namespace Go.Gw
open Go
def isnil : Value → Bool
  | .slice none _ _ => true
  | _ => false
section
variable {P : Program} {n : Nat} {ρ : Env} {w w' : World}
variable {d : Option Nat} {t T U : TypeId} {p : String} {af : Array Edge} {gu : Option (Nat × Bool)} {x y z : Operand}
theorem yl_eqlNil {α : Type} [Rep α] {e : TypeId} {L : List Value} {w2 : World} {v : Value} {xs : List α} (hu : P.underlying T = some (.slice e)) (hs : SlRd L w2 v xs) (hx : evO n ρ x = v) (hy : evO n ρ y = .slice none 0 0) :
    Yl P n ρ ⟨d, .binOp .eql T x y U, t, p, af, gu⟩ w (.bool (isnil v)) := by
  have : ∃ a m c, v = .slice a m c := by
    rcases hs with ⟨a0, h, _⟩ | ⟨b, off, cap, cur, e, fz, h1, _⟩
    · exact ⟨_, _, _, h⟩
    · exact ⟨_, _, _, h1⟩
  obtain ⟨a, m, c, rfl⟩ := this
  have h1 : (Op.equal T (.slice a m c) (.slice none 0 0)).run P w = .ok a.isNone w := by
    simp [Op.equal, Op.maxDepth, Lib.run_equalIn_slice_nil w 9999 T e a m c 0 0 hu]
  have h2 : a.isNone = isnil (.slice a m c) := by cases a <;> rfl
  rw [← h2]
  simp [Yl, execOp, hx, hy, eqGuard, binOp, h1, Result.andThen]
theorem SlRd.isnil {α : Type} [Rep α] {L : List Value} {v : Value} {xs : List α} (hs : SlRd L w v xs) (h : isnil v = true) : xs = [] := by
  rcases hs with ⟨a0, rfl, h2⟩ | ⟨b, off, cap, cur, e, fz, rfl, _⟩
  · exact h2
  · cases h
theorem nilcase {α β : Type} {xs : List α} {f : List α → Option β} {e : Option β} {r : β} (h0 : xs = []) (h : f xs = some r) (he : f [] = e) : e = some r := by subst h0; rw [← he]; exact h
end
end Go.Gw

end
section
namespace Go.Gw
open Go
def fLt (a b : Nat) : Bool := FloatKind.f32.format.order a b == some .lt
def fLe (a b : Nat) : Bool := FloatKind.f32.format.order a b == some .lt || FloatKind.f32.format.order a b == some .eq
def fGt (a b : Nat) : Bool := FloatKind.f32.format.order a b == some .gt
def fGe (a b : Nat) : Bool := FloatKind.f32.format.order a b == some .gt || FloatKind.f32.format.order a b == some .eq
def fEq (a b : Nat) : Bool := FloatKind.f32.format.order a b == some .eq
def fNe (a b : Nat) : Bool := FloatKind.f32.format.order a b != some .eq
def fSub (a b : Nat) : Option Nat := FloatKind.f32.format.sub a b
def fAdd (a b : Nat) : Option Nat := FloatKind.f32.format.add a b
def fToI (a : Nat) : Option Int := match (FloatKind.f32.decode a).toInt .zero with
  | some n => if -9223372036854775808 ≤ n ∧ n ≤ 9223372036854775807 then some n else none
  | none => none
def fOfI (n : Int) : Nat := FloatKind.f32.nearest n
section
variable {P : Program} {n : Nat} {ρ : Env} {w : World}
variable {d : Option Nat} {t T U : TypeId} {p : String} {af : Array Edge} {gu : Option (Nat × Bool)} {x y z : Operand} {a b : Nat}
end
end Go.Gw

end
section
namespace Go.Gw
open Go Go.Sort Go.Proofs
section
variable {α β : Type} [Rep β]

theorem flat_len (enc : α → List Value) (k : Nat) (hk : ∀ x, (enc x).length = k) : ∀ l : List α, (l.flatMap enc).length = l.length * k
  | [] => by simp
  | a :: l => by rw [List.flatMap_cons, List.length_append, hk, flat_len enc k hk l, List.length_cons, Nat.succ_mul, Nat.add_comm]
theorem flatK_flat [Inhabited α] (enc : α → List Value) (k : Nat) (hk : ∀ x, (enc x).length = k) (d : Array α) : (flatK enc k d).toList = d.toList.flatMap enc := by
  have hlen : (d.toList.flatMap enc).length = d.size * k := by
    rw [flat_len enc k hk]; simp
  apply List.ext_getElem
  · simp [hlen]
  · intro t h1 h2
    simp only [Array.length_toList, size_flatK] at h1
    have hk0 : 0 < k := by rcases Nat.eq_zero_or_pos k with h | h; subst h; omega; exact h
    have hq : t / k < d.size := Nat.div_lt_of_lt_mul (by rwa [Nat.mul_comm] at h1)
    have e1 : (flatK enc k d).toList[t] = (enc d[t / k]!)[t % k]! := by
      rw [← get_flatK enc k d t h1, getElem!_pos _ t (by simpa using h1)]; simp
    rw [e1]
    have key : ∀ (l : List α) (t : Nat) (ht : t < (l.flatMap enc).length), (l.flatMap enc)[t] = (enc (l[t / k]!))[t % k]! := by
      intro l
      induction l with
      | nil => intro t ht; simp at ht
      | cons a l ih =>
        intro t ht
        simp only [List.flatMap_cons] at ht ⊢
        by_cases hlt : t < k
        · rw [List.getElem_append_left (by rw [hk]; exact hlt)]
          simp [Nat.div_eq_of_lt hlt, Nat.mod_eq_of_lt hlt, hk, hlt]
        · have hge : k ≤ t := Nat.le_of_not_lt hlt
          rw [List.getElem_append_right (by rw [hk]; exact hge)]
          have ht' : t - k < (l.flatMap enc).length := by rw [List.length_append, hk] at ht; omega
          have hd : t / k = (t - k) / k + 1 := by
            rw [← Nat.sub_add_cancel hge, Nat.add_div_right _ hk0]; simp
          have hm : t % k = (t - k) % k := by
            conv => lhs; rw [← Nat.sub_add_cancel hge, Nat.add_mod_right]
          have := ih (t - k) ht'
          simp only [hk]
          rw [this, hd, hm]
          simp
    rw [key d.toList t h2]
    simp [hq]

theorem Elems.flat_inv {enc : α → List Value} {k : Nat} {to : α → β} {L : List Value} {w : World} (hn : Rep.n β = k) (hrd : ∀ cs a, Rep.rd L w cs (to a) → cs = enc a) : ∀ (l : List α) (cells : List Value), Elems L w cells (l.map to) → cells = l.flatMap enc
  | [], cells, h => by
    have := h.1; simp at this; exact this
  | a :: l, cells, h => by
    have h0 := h.2 0 (to a) (by simp)
    rw [Nat.zero_mul, List.drop_zero] at h0
    have e1 := hrd _ _ h0
    have h1 : Elems L w (cells.drop (Rep.n β)) (l.map to) := by
      refine ⟨by rw [List.length_drop, h.1, List.map_cons, List.length_cons, Nat.succ_mul]; omega, fun i x hx => ?_⟩
      have := h.2 (i + 1) x (by simpa using hx)
      rw [List.drop_drop]
      rw [show Rep.n β + i * Rep.n β = (i + 1) * Rep.n β by rw [Nat.succ_mul, Nat.add_comm]]
      exact this
    have e2 := Elems.flat_inv hn hrd l _ h1
    rw [List.flatMap_cons, ← e1, ← e2, List.take_append_drop]

theorem Own.holds [Inhabited α] {enc : α → List Value} {k : Nat} {to : α → β} {e : TypeId} {L : List Value} {w : World} {v : Value} {d : Array α} (hk : ∀ x, (enc x).length = k) (hn : Rep.n β = k) (hrd : ∀ cs a, Rep.rd L w cs (to a) → cs = enc a) (h : Own e L w v (d.toList.map to)) (h0 : d.size ≠ 0) :
    ∃ g cap cur, v = .slice (some ⟨g, 0, none⟩) d.size cap ∧ w.heap[g]? = some (.cells cur e (0, 0)) ∧ d.size ≤ cap ∧ cap ≤ maxLen ∧ cur.size = cap * k ∧ cur.toList.take (d.size * k) = (flatK enc k d).toList ∧ HoldsK enc k w g 0 d := by
  obtain ⟨cells, ⟨hl, ho⟩, hE⟩ := h
  have hf := Elems.flat_inv hn hrd _ _ hE
  have hsz : (d.toList.map to).length = d.size := by simp
  rw [hsz] at ho
  rcases ho with ⟨_, hz⟩ | ⟨g, cap, cur, hv, _, hg, h4, h5, h6, h7⟩
  · exact absurd hz h0
  · rw [hn] at h6 h7
    rw [hf, ← flatK_flat enc k hk] at h7
    refine ⟨g, cap, cur, hv, hg, h4, h5, h6, h7, fun j hj => ⟨?_, ?_⟩⟩
    · have h8 : cur[0 + j]? = some (flatK enc k d)[j]! := by
        have h9 : (cur.toList.take (d.size * k))[j]? = some (flatK enc k d)[j]! := by
          rw [h7, getElem!_pos _ j hj]; simp
        rw [size_flatK] at hj
        rw [List.getElem?_take_of_lt hj] at h9
        simpa using h9
      simp only [World.cell?, hg, h8]; rfl
    · simp [World.frozen?, hg]

end
end Go.Gw

end
section
namespace Go.Gw
open Go

theorem w64_id {x : Int} (h : -9223372036854775808 ≤ x ∧ x ≤ 9223372036854775807) : w64 x = x := Go.IntWalk.i64_in x h

def Runs {α : Type} (e : Option α) (Q : α → Prop) : Prop := ∃ a, e = some a ∧ Q a

section
variable {α β σ μ : Type} {Q : α → Prop} {e e' : Option α}
theorem Runs.some {a : α} (h : Q a) : Runs (some a) Q := ⟨a, rfl, h⟩
theorem Runs.bind {e : Option β} {f : β → Option α} (h : Runs e fun b => Runs (f b) Q) : Runs (e.bind f) Q := by
  obtain ⟨b, rfl, a, ha, hq⟩ := h; exact ⟨a, ha, hq⟩
theorem Runs.mono {Q' : α → Prop} (h : Runs e Q) (hm : ∀ a, Q a → Q' a) : Runs e Q' := by obtain ⟨a, ha, hq⟩ := h; exact ⟨a, ha, hm _ hq⟩
theorem Runs.eq {a : α} (h : Runs e (· = a)) : e = .some a := by obtain ⟨b, hb, rfl⟩ := h; exact hb
theorem Runs.call {e : Option β} {f : β → Option α} {b : β} (h : e = .some b) (hq : Runs (f b) Q) : Runs (e.bind f) Q := by subst h; exact hq
theorem Runs.callR {e : Option β} {f : β → Option α} {R : β → Prop} (h : Runs e R) (hq : ∀ b, R b → Runs (f b) Q) : Runs (e.bind f) Q := by obtain ⟨b, rfl, hb⟩ := h; exact hq b hb
theorem Runs.bif {b : Bool} (ht : b = true → Runs e Q) (hf : b = false → Runs e' Q) : Runs (bif b then e else e') Q := by
  cases b
  · exact hf rfl
  · exact ht rfl
theorem Runs.bif_t {b : Bool} (hb : b = true) (ht : Runs e Q) : Runs (bif b then e else e') Q := by subst hb; exact ht
theorem Runs.bif_f {b : Bool} (hb : b = false) (hf : Runs e' Q) : Runs (bif b then e else e') Q := by subst hb; exact hf
theorem Runs.jl {b : α} {f : μ → Option α} (h : Q b) : Runs (jn0 (.inl b) f) Q := ⟨b, rfl, h⟩
theorem Runs.jr {m : μ} {f : μ → Option α} (h : Runs (f m) Q) : Runs (jn0 (.inr m) f) Q := h
theorem Runs.j {o : α ⊕ μ} {f : μ → Option α} (hl : ∀ b, o = .inl b → Q b) (hr : ∀ m, o = .inr m → Runs (f m) Q) : Runs (jn0 o f) Q := by
  cases o with
  | inl b => exact Runs.jl (hl b rfl)
  | inr m => exact hr m rfl

def Rnd (I : σ → Prop) (m : σ → Nat) (Q : β → Prop) (s : σ) : σ ⊕ β → Prop
  | .inl s' => I s' ∧ m s' < m s
  | .inr o => Q o
theorem Runs.loop {step : σ → Option (σ ⊕ β)} {s : σ} {Q : β → Prop} (I : σ → Prop) (m : σ → Nat) (h0 : I s) (h : ∀ s, I s → Runs (step s) (Rnd I m Q s)) : Runs (Gw.loop step s) Q := by
  generalize hk : m s = k
  induction k using Nat.strongRecOn generalizing s with
  | _ k ih =>
    obtain ⟨x, hx, hq⟩ := h s h0
    cases x with
    | inl s' =>
      rw [loop_inl hx]
      exact ih (m s') (by have := hq.2; omega) hq.1 rfl
    | inr o => rw [loop_inr hx]; exact ⟨o, rfl, hq⟩
theorem Runs.idx {xs : List β} {i : Int} {f : β → Option α} (h0 : 0 ≤ i) (h1 : i < xs.length) (h : ∀ x, xs[i.toNat]? = .some x → Runs (f x) Q) : Runs ((Gw.idx xs i).bind f) Q := by
  have hl : i.toNat < xs.length := by omega
  have e : Gw.idx xs i = .some xs[i.toNat] := by unfold Gw.idx; rw [if_pos h0, List.getElem?_eq_getElem hl]
  exact Runs.call e (h _ (List.getElem?_eq_getElem hl))
theorem idx_nat {xs : List β} {k : Nat} (h : k < xs.length) : Gw.idx xs (k : Int) = .some xs[k] := by
  unfold Gw.idx; rw [if_pos (by omega), Int.toNat_natCast, List.getElem?_eq_getElem h]
theorem app_ok {xs ys : List β} (h : xs.length + ys.length ≤ 1073741824) : app xs ys = .some (xs ++ ys) := by unfold app; rw [if_pos h]
theorem quo_ok {a b : Int} (h : b ≠ 0) : quo a b = .some (w64 (a.tdiv b)) := by unfold quo; rw [if_neg h]
end
end Go.Gw

end
section
namespace Go.Gw
open Go Go.Proofs Go.Shelf Go.RowKit Go.Sort Go.Lib
set_option maxRecDepth 100000
def delFLays_ren : Go.Shelf.Ren := ⟨fun | 10 => 122 | 6 => 68 | n => n, fun | 22 => 23 | 23 => 3 | 25 => 79 | 3 => 3 | 4 => 4 | 0 => 0 | n => n, fun | n => n⟩
theorem delFLays : Go.Proofs.SlLaysH.n10 Try.prog delFLays_ren :=
  { mixed := by kernel_rfl,
    f6 := ⟨Try.f68.name, by kernel_rfl, Try.func68.trans (congrArg some (by kernel_rfl))⟩,
    f10 := ⟨Try.f122.name, by kernel_rfl, Try.func122.trans (congrArg some (by kernel_rfl))⟩,
    t0 := Try.underlying0,
    a0 := Try.isAgg0,
    z0 := Try.sizeOf0,
    v0 := Try.zeroValue0,
    t3 := Try.underlying3,
    a3 := Try.isAgg3,
    z3 := Try.sizeOf3,
    v3 := Try.zeroValue3,
    t4 := Try.underlying4,
    a4 := Try.isAgg4,
    z4 := Try.sizeOf4,
    v4 := Try.zeroValue4,
    t22 := Try.underlying23,
    a22 := Try.isAgg23,
    z22 := Try.sizeOf23,
    v22 := Try.zeroValue23,
    a23 := Try.isAgg3,
    z23 := Try.sizeOf3,
    t25 := Try.underlying79,
    a25 := Try.isAgg79,
    z25 := Try.sizeOf79,
    v25 := Try.zeroValue79 }
def delELays_ren : Go.Shelf.Ren := ⟨fun | 45 => 87 | n => n, fun | 22 => 23 | 23 => 3 | 3 => 3 | 4 => 4 | 0 => 0 | n => n, fun | n => n⟩
theorem delELays : Go.Proofs.SlLaysE.n45 Try.prog delELays_ren :=
  { mixed := by kernel_rfl,
    f45 := ⟨Try.f87.name, by kernel_rfl, Try.func87.trans (congrArg some (by kernel_rfl))⟩,
    t0 := Try.underlying0,
    a0 := Try.isAgg0,
    z0 := Try.sizeOf0,
    v0 := Try.zeroValue0,
    t3 := Try.underlying3,
    a3 := Try.isAgg3,
    z3 := Try.sizeOf3,
    v3 := Try.zeroValue3,
    t4 := Try.underlying4,
    a4 := Try.isAgg4,
    z4 := Try.sizeOf4,
    v4 := Try.zeroValue4,
    t22 := Try.underlying23,
    a22 := Try.isAgg23,
    z22 := Try.sizeOf23,
    v22 := Try.zeroValue23,
    a23 := Try.isAgg3,
    z23 := Try.sizeOf3 }

abbrev IntB := { i : Int // 0 ≤ i ∧ i ≤ 62 }
instance : Inhabited IntB := ⟨⟨0, by decide⟩⟩
def encB (x : IntB) : Value := .int .i64 x.1
def offB (set x : Int) : Bool := decide (andS .i64 (set.fdiv (2 ^ x.toNat)) 1 = 0)

theorem own_row {α : Type} [Inhabited α] {enc : α → Value} {to : α → Int} {e : TypeId} {L : List Value} {w : World} {v : Value} {d : Array α} (henc : ∀ a, enc a = .int .i64 (to a)) (h : Own e L w v (d.toList.map to)) (h0 : d.size ≠ 0) :
    ∃ g cap cur, v = .slice (some ⟨g, 0, none⟩) d.size cap ∧ w.heap[g]? = some (.cells cur e (0, 0)) ∧ d.size ≤ cap ∧ cap ≤ maxLen ∧ cur.size = cap ∧ Holds enc w g 0 d := by
  obtain ⟨g, cap, cur, hv, hg, h4, h5, h6, h7, hH⟩ := Own.holds (enc := fun a => [enc a]) (k := 1) (fun _ => rfl) rfl (fun cs a hrd => by rw [henc]; exact hrd) h h0
  refine ⟨g, cap, cur, hv, hg, h4, h5, by rw [h6, Nat.mul_one], fun j hj => ?_⟩
  have hc : cur[j]? = some (enc d[j]!) := by
    have h8 : (cur.toList.take (d.size * 1))[j]? = some (enc d[j]!) := by
      rw [h7, flatK_flat (fun a => [enc a]) 1 (fun _ => rfl)]
      rw [getElem!_pos d j hj]
      have : ∀ (l : List α) (i : Nat) (hi : i < l.length), (l.flatMap fun a => [enc a])[i]? = some (enc l[i]) := by
        intro l
        induction l with
        | nil => intro i hi; simp at hi
        | cons a l ih =>
          intro i hi
          cases i with
          | zero => simp
          | succ i => simpa using ih i (by simpa using hi)
      exact (this d.toList j (by simpa using hj)).trans (by simp)
    rw [List.getElem?_take_of_lt (by omega)] at h8
    simpa using h8
  refine ⟨?_, by simp [World.frozen?, hg]⟩
  simp only [World.cell?, hg, Nat.zero_add, hc]; rfl

theorem row_heap {α : Type} [Inhabited α] {enc : α → Value} {e : TypeId} {w : World} {g q : Nat} {d' : Array α} {cur : Array Value} (hg : w.heap[g]? = some (.cells cur e (0, 0))) :
    (putRow enc (Sort.ahead w q) g 0 d').heap[g]? = some (.cells (putCells enc 0 d' cur) e (0, 0)) := by
  have hlt : g < w.heap.size := lt_of_some hg
  have hv : w.heap[g] = .cells cur e (0, 0) := (Array.getElem?_eq_some_iff.1 hg).2
  unfold putRow mapBlock Sort.ahead
  show (w.heap.modify g (onCells (putCells enc 0 d')))[g]? = _
  rw [Array.getElem?_eq_getElem (by simpa using hlt), Array.getElem_modify]
  simp [hv, onCells]
theorem row_chg {α : Type} [Inhabited α] {enc : α → Value} {w : World} {g q m cap : Nat} {d' : Array α} : Chg [.slice (some ⟨g, 0, none⟩) m cap] w (putRow enc (Sort.ahead w q) g 0 d') := by
  refine ⟨rfl, rfl, rfl, ?_, fun b hb hA => ?_⟩
  · unfold putRow mapBlock Sort.ahead
    show w.heap.size ≤ (w.heap.modify g (onCells (putCells enc 0 d'))).size
    simp
  · have hne : g ≠ b := fun e => hA _ (List.mem_singleton.2 rfl) (by simp [blk, e])
    unfold putRow mapBlock Sort.ahead
    show (w.heap.modify g (onCells (putCells enc 0 d')))[b]? = _
    rw [Array.getElem?_modify]
    simp [hne]
theorem own_cut {e : TypeId} {L : List Value} {w : World} {g cap m : Nat} {cur : Array Value} {zs : List Int} (hg : w.heap[g]? = some (.cells cur e (0, 0))) (hm : zs.length = m) (h4 : m ≤ cap) (h5 : cap ≤ maxLen) (h6 : cur.size = cap)
    (hc : ∀ j (hj : j < zs.length), cur[j]? = some (.int .i64 zs[j])) : Own e L w (.slice (some ⟨g, 0, none⟩) m cap) zs := by
  subst hm
  have hE : ∀ l : List Int, Elems L w (l.map (Value.int .i64)) l := by
    intro l
    induction l with
    | nil => exact Elems.nil
    | cons a l ih => exact Elems.cons (cs := [.int .i64 a]) rfl ih
  refine ⟨zs.map (Value.int .i64), ⟨by simp [Rep.n], .inr ⟨g, cap, cur, rfl, Nat.zero_le _, hg, h4, h5, by simp [Rep.n, h6], ?_⟩⟩, hE zs⟩
  apply List.ext_getElem?
  intro j
  by_cases hj : j < zs.length
  · have h1 : j < zs.length * Rep.n Int := by simpa [Rep.n] using hj
    rw [List.getElem?_take_of_lt h1]
    have := hc j hj
    simp only [Array.getElem?_toList]
    rw [this]
    simp [hj]
  · rw [List.getElem?_eq_none (by simp [Rep.n]; omega), List.getElem?_eq_none (by simp; omega)]
theorem put_get {α : Type} [Inhabited α] {enc : α → Value} {d : Array α} {c : Array Value} {j : Nat} (hj : j < d.size) (hc : d.size ≤ c.size) : (putCells enc 0 d c)[j]? = some (enc d[j]!) := by
  have : j < c.size := by omega
  simp [putCells, hj, this]

def boundsB : List Int → List IntB
  | [] => []
  | e :: es => if h : 0 ≤ e ∧ e ≤ 62 then ⟨e, h⟩ :: boundsB es else []
theorem boundsB_val : ∀ (l : List Int), (∀ e ∈ l, 0 ≤ e ∧ e ≤ 62) → (boundsB l).map (·.1) = l
  | [], _ => rfl
  | e :: es, h => by
    simp only [boundsB]
    rw [dif_pos (h e (List.mem_cons_self ..)), List.map_cons, boundsB_val es fun x hx => h x (List.mem_cons_of_mem _ hx)]

noncomputable def delF (set : Int) (xs : List Int) : Option (List Int) :=
  open Classical in if (∀ e ∈ xs, 0 ≤ e ∧ e ≤ 62) ∧ 0 < xs.length ∧ xs.length ≤ 1073741824 then some (xs.filter fun x => !offB set x) else none
def delE (xs : List Int) (i j : Int) : Option (List Int) :=
  if 0 ≤ i ∧ i ≤ j ∧ j ≤ xs.length ∧ 0 < xs.length ∧ xs.length ≤ 1073741824 then some (xs.take i.toNat ++ xs.drop j.toNat) else none

theorem eiD : EInfo Try.prog 3 1 8 (.int .i64 0) := einfo_of (by kernel_rfl) rfl (by decide)
theorem delE_ok {e : TypeId} {L : List Value} {w : World} {v : Value} {xs zs : List Int} {i j : Int} (h : Own e L w v xs) (hz : delE xs i j = some zs) :
    CallsTo Try.prog 87 [v, .int .i64 i, .int .i64 j] w (fun u w' => Chg [v] w w' ∧ (∀ k, blk u = some k → blk v = some k) ∧ ∀ L', Own e L' w' u zs) := by
  unfold delE at hz
  split at hz
  · rename_i hc
    obtain ⟨h0, h1, h2, h3, h4⟩ := hc
    cases hz
    have hown : Own e L w v (xs.toArray.toList.map id) := by simpa using h
    obtain ⟨g, cap, cur, hvv, hg, h5, h6, h7, hH⟩ := own_row (enc := Value.int .i64) (to := id) (fun _ => rfl) hown (by rw [List.size_toArray]; omega)
    have hml : maxLen ≤ 9223372036854775807 := by decide
    obtain ⟨i0, hi0, hk0, _⟩ := eiD.ex
    have hcon := AnyE.slices_Delete delELays (Value.int .i64) (fun _ => rfl) 0 Try.zeroValue3 i0 hi0 hk0 g 0 cap i.toNat j.toNat xs.toArray w hH h5 (by omega) (by omega) (by simp; omega)
    subst hvv
    have ei : ((i.toNat : Nat) : Int) = i := by omega
    have ej : ((j.toNat : Nat) : Int) = j := by omega
    rw [ei, ej] at hcon
    refine Calls.mono hcon fun e' w' he => ?_
    obtain ⟨rfl, q, rfl⟩ := he
    refine ⟨row_chg, fun k hk => hk, fun L' => own_cut (row_heap hg) ?_ (by simp at h5 ⊢; omega) h6 (by simp [putCells, h7]) fun t ht => ?_⟩
    · simp; omega
    · simp only [List.length_append, List.length_take, List.length_drop] at ht
      simp only [List.toList_toArray]
      rw [put_get (by simp; omega) (by simp at h5 ⊢; omega)]
      rw [getElem!_pos _ _ (by simp; omega)]
      congr 2
      simp only [List.getElem_toArray]
      rw [List.getElem_append_left (by simp; omega)]
  · cases hz

set_option maxHeartbeats 1000000 in
theorem gives123 (set : Int) (x : IntB) (B : Nat) (W : World) (hc : W.cell? ⟨B, 0, none⟩ = some (.int .i64 set)) :
    FnGives Try.prog 123 #[.pointer (some ⟨B, 0, none⟩)] #[encB x] (.bool (offB set x.1)) W := by
  show Calls Try.prog 123 #[encB x, .pointer (some ⟨B, 0, none⟩)] W _
  obtain ⟨x, h0, h1⟩ := x
  have hm : min x.toNat 64 = x.toNat := by omega
  have hn : ¬ x < 0 := by omega
  unfold encB
  go_enter Try.func123, Try.ntmps123
  go_wp2
  all_goals (go_ret; refine ⟨?_, 0, rfl⟩)
  all_goals simp_all
  all_goals (unfold offB andS Go.bits; rw [Int.fdiv_eq_ediv_of_nonneg _ (Int.le_of_lt (Int.pow_pos (by decide)))]; first | rfl | simp [int_beq])

theorem delF_ok123 {e : TypeId} {L : List Value} {w : World} {v : Value} {xs zs : List Int} {set : Int} {b T : Nat} (h : Own e L w v xs) (hB : Box w b [.int .i64 set] T) (hne : blk v ≠ some b) (hz : delF set xs = some zs) :
    CallsTo Try.prog 122 [v, .func (.func 123) #[] #[.pointer (some ⟨b, 0, none⟩)]] w (fun u w' => Chg [v] w w' ∧ (∀ k, blk u = some k → blk v = some k) ∧ ∀ L', Own e L' w' u zs) := by
  unfold delF at hz
  split at hz
  · rename_i hc
    obtain ⟨hb, h0, hn⟩ := hc
    cases hz
    have hv := boundsB_val xs hb
    have hcell : w.cell? ⟨b, 0, none⟩ = some (.int .i64 set) := by
      have : w.heap[b]? = some (.cells [Value.int .i64 set].toArray T (0, 0)) := hB
      simp [World.cell?, this]
    generalize boundsB xs = ys at hv
    subst hv
    have hlen : ys.length ≤ 1073741824 := by simpa using hn
    have hzs : (ys.map (·.1)).filter (fun x => !offB set x) = (ys.filter fun x => !offB set x.1).map (·.1) := by rw [List.filter_map]; rfl
    rw [hzs]
    have hown : Own e L w v (ys.toArray.toList.map (·.1)) := by simpa using h
    obtain ⟨g, cap, cur, hvv, hg, h5, h6, h7, hH⟩ := own_row (enc := encB) (to := (·.1)) (fun _ => rfl) hown (by rw [List.size_toArray]; simp only [List.length_map] at h0; omega)
    subst hvv
    have hbg : b ≠ g := fun e => hne (by simp [blk, e])
    have eg : ∀ args w, (callFunc 123 args).run Try.prog w = .ok (.enter 123 args) w := enters_of Try.func123 (by kernel_rfl) rfl
    have hp : PredAt Try.prog 123 #[.pointer (some ⟨b, 0, none⟩)] encB (fun x => offB set x.1) w := fun W x hbl => gives123 set x b W ((hbl.cell (p := ⟨b, 0, none⟩) hB.lt).trans hcell)
    have hpo : PredOver Try.prog 123 #[.pointer (some ⟨b, 0, none⟩)] encB (fun x => offB set x.1) g 0 ys.toArray.size w := fun n os dk x _ => gives123 set x b _ (by
      unfold sortWorld
      rw [cell?_grow _ _ _ (by show b < (putRow _ _ _ _ _).heap.size; rw [size_putRow]; exact hB.lt), cell?_putRow_other _ _ g 0 _ _ (Or.inl hbg)]
      exact hcell)
    have hcon := AnyE.slices_DeleteFunc delFLays encB (fun _ => rfl) (fun x => offB set x.1) 123 #[.pointer (some ⟨b, 0, none⟩)] eg ⟨0, by decide⟩ Try.zeroValue3 g 0 cap ys.toArray w hp hpo hH (by simp; omega) h5
    have hfl : (ys.filter fun x => !offB set x.1).length ≤ ys.length := List.length_filter_le _ _
    refine Calls.mono hcon fun e' w' he => ?_
    obtain ⟨rfl, q, rfl⟩ := he
    refine ⟨row_chg, fun k hk => hk, fun L' => own_cut (row_heap hg) (by rw [List.length_map]) (by simp at h5 ⊢; omega) h6 (by simp [putCells, h7]) fun t ht => ?_⟩
    rw [List.length_map] at ht
    rw [put_get (by simp; omega) (by simp at h5 ⊢; omega), getElem!_pos _ _ (by simp; omega)]
    simp only [List.getElem_toArray, encB]
    rw [List.getElem_append_left ht]
    simp
  · cases hz

end Go.Gw

end
section
namespace Go.Gw
open Go Go.Proofs Go.Shelf Go.RowKit Go.Sort Go.Lib
set_option maxRecDepth 100000
def srtLays_ren : Go.Shelf.Ren := ⟨fun | 5 => 44 | 8 => 73 | 7 => 72 | 19 => 100 | 20 => 101 | 10 => 91 | 11 => 92 | 12 => 93 | 13 => 94 | 14 => 95 | 15 => 96 | 16 => 97 | 17 => 98 | 18 => 99 | 30 => 114 | 31 => 115 | 32 => 116 | 33 => 117 | 34 => 118 | 35 => 119 | 40 => 125 | n => n, fun | 23 => 23 | 25 => 3 | 3 => 3 | 32 => 112 | 22 => 23 | 0 => 0 | 44 => 139 | 46 => 118 | 4 => 4 | 36 => 133 | 35 => 132 | 41 => 103 | 5 => 5 | 9 => 9 | 53 => 151 | 57 => 155 | 63 => 159 | 64 => 44 | n => n, fun n => n⟩
noncomputable def srtI (xs : List Int) : Option (List Int) :=
  if 0 < xs.length ∧ xs.length ≤ 1073741824 then some (xs.mergeSort fun x y => decide (x ≤ y)) else none
end Go.Gw

end
