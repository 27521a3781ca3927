/- A region that draws its order, by a plan: quiet operations first, effects where they are forced, two that may come in either order. No condition. -/
import Derived.Test.YtglaeocolbnpdaaGwLib7
namespace Go.Gw
open Go
section
variable {P : Program} {n : Nat} {q : Post} {ρ : Env} {w : World}

inductive Pl where
  | done
  | p (i : Nat) (r : Pl)
  | q (i : Nat) (r : Pl)
  | e (i : Nat) (r : Pl)
  | b (i : Nat) (r : Pl)
  | f (i : Nat) (r : Pl) (j : Nat) (s : Pl)
def Pl.hasQ : Pl → Bool
  | .done => false
  | .p _ r => r.hasQ
  | .q _ _ => true
  | .e _ r => r.hasQ
  | .b _ _ => false
  | .f _ r _ s => r.hasQ || s.hasQ
def Pl.len : Pl → Nat
  | .done => 0
  | .p _ r => r.len + 1
  | .q _ r => r.len + 1
  | .e _ r => r.len + 1
  | .b _ r => r.len + 1
  | .f _ r _ _ => r.len + 1
def Pl.brk : Pl → List Nat
  | .done => []
  | .p _ r => r.brk
  | .q _ r => r.brk
  | .e _ r => r.brk
  | .b i r => i :: r.brk
  | .f _ r _ s => r.brk ++ s.brk

/-- The walk: pure operations, ones that read under S, effects that keep S, effects that break it, two effects in either order. -/
def TP (P : Program) (n : Nat) (ops : List Oper) (S : World → Prop) (K : Env → World → Prop) : Pl → Env → World → Prop
  | .done, ρ, w => K ρ w
  | .p i r, ρ, w => ∃ o v, ops[i]? = some o ∧ Quiet P n ops.toArray (fun _ => True) o ρ v ∧ TP P n ops S K r (updo ρ o.dst v) w
  | .q i r, ρ, w => ∃ o v, ops[i]? = some o ∧ Quiet P n ops.toArray S o ρ v ∧ TP P n ops S K r (updo ρ o.dst v) w
  | .e i r, ρ, w => ∃ o, ops[i]? = some o ∧ Stp P n ops.toArray o ρ w (fun ρ' w' => S w' ∧ TP P n ops S K r ρ' w')
  | .b i r, ρ, w => ∃ o, ops[i]? = some o ∧ Stp P n ops.toArray o ρ w (fun ρ' w' => TP P n ops S K r ρ' w')
  | .f i r j s, ρ, w => (∃ o, ops[i]? = some o ∧ Stp P n ops.toArray o ρ w (fun ρ' w' => S w' ∧ TP P n ops S K r ρ' w')) ∧
      (∃ o, ops[j]? = some o ∧ Stp P n ops.toArray o ρ w (fun ρ' w' => S w' ∧ TP P n ops S K s ρ' w'))

def planOK (ops : Array Oper) (bs : List Nat) : Pl → Array Bool → Bool
  | .done, listed => (Region.ready .any ops listed).isEmpty
  | .p i r, listed => Region.free .any ops listed i && (Region.ready .any ops listed).contains i && planOK ops bs r (listed.setIfInBounds i true)
  | .q i r, listed => (bs.all fun b => must ops ops.size b i) && Region.free .any ops listed i && (Region.ready .any ops listed).contains i && planOK ops bs r (listed.setIfInBounds i true)
  | .e i r, listed => Region.ready .any ops listed == [i] && (!bs.contains i && planOK ops bs r (listed.setIfInBounds i true))
  | .b i r, listed => Region.ready .any ops listed == [i] && (bs.contains i && (!r.hasQ && planOK ops bs r (listed.setIfInBounds i true)))
  | .f i r j s, listed => Region.ready .any ops listed == [i, j] && (Nat.beq r.len s.len && (!bs.contains i && (!bs.contains j && (planOK ops bs r (listed.setIfInBounds i true) && planOK ops bs s (listed.setIfInBounds j true)))))

def planOKs (ops : Array Oper) (p : Pl) : Bool := Region.noSelect ops && (Nat.beq p.len ops.size && planOK ops p.brk p (Array.replicate ops.size false))

/-- Whatever order is picked; an operation that is no breaker keeps S. -/
def anyQ (P : Program) (ops : Array Oper) (Q : Exit → Act → World → Prop) (bs : List Nat) (S : World → Prop) (Kt : Array Bool → Act → World → Prop) : Nat → Array Bool → Act → World → Prop
  | 0, listed, a, w => Kt listed a w
  | fuel + 1, listed, a, w => Region.ready .any ops listed ≠ [] ∧ ∀ i ∈ Region.ready .any ops listed, wpOp P ops Q i (fun a' w' => (bs.contains i = false → S w → S w') ∧ anyQ P ops Q bs S Kt fuel (listed.setIfInBounds i true) a' w') a w

theorem anyQ.toAny {ops : Array Oper} {Q : Exit → Act → World → Prop} {bs : List Nat} {S : World → Prop} {Kt : Array Bool → Act → World → Prop} (ht : ∀ listed a w, Kt listed a w → wpAny P .any ops Q 0 listed a w) :
    ∀ (fuel : Nat) (listed : Array Bool) (a : Act) (w : World), anyQ P ops Q bs S Kt fuel listed a w → wpAny P .any ops Q fuel listed a w
  | 0, listed, a, w, h => ht _ _ _ h
  | fuel + 1, listed, a, w, h => ⟨fun h0 => absurd h0 h.1, fun i hi => wpOp_mono (fun a' w' h' => anyQ.toAny ht fuel _ a' w' h'.2) (h.2 i hi)⟩

theorem unset {listed : Array Bool} {i x : Nat} (h : (listed.setIfInBounds i true).getD x true = false) : listed.getD x true = false ∧ x ≠ i := by
  by_cases hx : i = x
  · subst hx
    exfalso
    by_cases hl : i < listed.size <;> simp [Array.getD, hl] at h
  · rw [getD_set_ne true hx] at h; exact ⟨h, fun e => hx e.symm⟩

theorem anyQ_first {ops : Array Oper} {Q : Exit → Act → World → Prop} {bs : List Nat} {S Si : World → Prop} {Kt : Array Bool → Act → World → Prop} {i : Nat} {oi : Oper} {v : Value} (hi : ops[i]? = some oi)
    (hSi : ∀ w, S w → Si w) (hb : (∀ b ∈ bs, must ops ops.size b i = true) ∨ ∀ w, Si w)
    (hsel : ∀ (j : Nat) (o : Oper) cs b, ops[j]? = some o → o.op ≠ .select cs b) (hQ : ∀ c a w, ¬ Q (.panic c) a w) :
    ∀ (fuel : Nat) (listed : Array Bool) (a : Act) (w : World), listed.size = ops.size → Closed ops listed → fuel + 1 = unl listed ops.size →
      (∀ j oj, ops[j]? = some oj → j ≠ i → listed.getD j true = false → (∀ e ∈ oj.after, Region.binds .any e = true → e.on ≠ i) → oi.apart ops oj = true) →
      i ∈ Region.ready .any ops listed → YieldsIf P ops Si oi v a → Si w → (S w ∨ ∀ w, Si w) →
      anyQ P ops Q bs S Kt fuel (listed.setIfInBounds i true) (a.put oi.dst v) w → anyQ P ops Q bs S Kt (fuel + 1) listed a w := by
  have hQ' : ∀ c (a : Act) w, Q (.panic c) (a.put oi.dst v) w → Q (.panic c) a w := fun c a w h => absurd h (hQ _ _ _)
  have hlt : ∀ {j : Nat} {listed : Array Bool}, j ∈ Region.ready .any ops listed → j < ops.size := fun hj => by
    obtain ⟨_, oj, hoj, _⟩ := mem_ready.1 hj
    exact (Array.getElem?_eq_some_iff.1 hoj).1
  have him := (Array.getElem?_eq_some_iff.1 hi).1
  intro fuel
  induction fuel with
  | zero =>
    intro listed a w hls hcl hcnt _ hr hy hSw hD H
    have hiu := (mem_ready.1 hr).1
    refine ⟨fun h => (by rw [h] at hr; cases hr), fun j hj => ?_⟩
    by_cases hji : j = i
    · subst hji; exact hy.wpOp hi hSw ⟨fun _ h => h, H⟩
    · exfalso
      have := unl_two (listed := listed) (hlt hj) him hji (by simpa using (mem_ready.1 hj).1) (by simpa using hiu)
      omega
  | succ fuel ih =>
    intro listed a w hls hcl hcnt hfree hr hy hSw hD H
    have hiu := (mem_ready.1 hr).1
    refine ⟨fun h => (by rw [h] at hr; cases hr), fun j hj => ?_⟩
    by_cases hji : j = i
    · subst hji; exact hy.wpOp hi hSw ⟨fun _ h => h, H⟩
    · have h1 := H.2 j (ready_mono hj hji)
      obtain ⟨hjun, oj, hoj, hall⟩ := mem_ready.1 hj
      have hnot : ∀ e ∈ oj.after, Region.binds .any e = true → e.on ≠ i := fun e he hb heq => by
        have h1 := hall e he hb
        have h0 := (mem_ready.1 hr).1
        rw [heq] at h1
        rcases Nat.lt_or_ge i listed.size with h' | h'
        · simp [h'] at h0 h1; rw [h0] at h1; cases h1
        · simp [Array.getElem?_eq_none h'] at h1
      have h2 := wpOp_putIf hoj (hfree j oj hoj hji hjun hnot) (fun cs b => hsel i oi cs b hi) (fun cs b => hsel j oj cs b hoj) hQ' hy h1
      have hfree' : ∀ k ok, ops[k]? = some ok → k ≠ i → (listed.setIfInBounds j true).getD k true = false →
          (∀ e ∈ ok.after, Region.binds .any e = true → e.on ≠ i) → oi.apart ops ok = true := fun k ok hk hki hun hno => hfree k ok hk hki (unset hun).1 hno
      have hbj : bs.contains j = false ∨ ∀ w, Si w := by
        rcases hb with hb | hb
        · left
          cases hc : bs.contains j with
          | false => rfl
          | true =>
            exfalso
            have hm := must_spec hcl _ _ _ _ hoj hall (hb j (by simpa using hc))
            have him' : i < listed.size := by rw [hls]; exact him
            simp [Array.getD, him'] at hiu hm
            rw [hiu] at hm; cases hm
        · exact .inr hb
      refine wpOp_mono (fun a' w' h3 => ⟨h3.2.1, ?_⟩) h2
      have hD' : S w' ∨ ∀ w, Si w := by
        rcases hD with hD | hD
        · rcases hbj with hbj | hbj
          · exact .inl (h3.2.1 hbj hD)
          · exact .inr hbj
        · exact .inr hD
      have hSw' : Si w' := by
        rcases hD' with h | h
        · exact hSi _ h
        · exact h _
      refine ih (listed.setIfInBounds j true) a' w' (by simpa using hls) (hcl.set hj) (by have := unl_set (listed := listed) (hlt hj) (by simpa using hjun); omega) hfree' (ready_mono hr (Ne.symm hji)) h3.1 hSw' hD' ?_
      rw [Array.setIfInBounds_comm _ _ hji]
      exact h3.2.2

theorem TP.toQ {ops : List Oper} {S : World → Prop} {bs : List Nat} {K : Env → World → Prop} (hsel : Region.noSelect ops.toArray = true) (hK : ∀ ρ w, K ρ w → q.norm ρ w) :
    ∀ (p : Pl) (listed : Array Bool) (ρ : Env) (w : World), listed.size = ops.toArray.size → Closed ops.toArray listed → unl listed ops.toArray.size = p.len → planOK ops.toArray bs p listed = true → (p.hasQ = true → S w) →
    TP P n ops S K p ρ w → anyQ P ops.toArray (q.Q n) bs S (fun listed a w => wpAny P .any ops.toArray (q.Q n) 0 listed a w) p.len listed (act n ρ) w
  | .done, listed, ρ, w, _, _, _, hok, _, h => ⟨by simpa [planOK] using hok, ρ, rfl, hK _ _ h⟩
  | .p i r, listed, ρ, w, hls, hcl, hc, hok, hS, h => by
    simp only [planOK, Bool.and_eq_true] at hok
    obtain ⟨⟨hf, hr⟩, hrest⟩ := hok
    obtain ⟨o, v, hi', hq, ht⟩ := h
    have hi : ops.toArray[i]? = some o := by simpa using hi'
    have him := (Array.getElem?_eq_some_iff.1 hi).1
    have hr : i ∈ Region.ready .any ops.toArray listed := by simpa using hr
    have hc' := unl_set (listed := listed) him (by simpa using (mem_ready.1 hr).1)
    simp only [Pl.len] at hc
    refine anyQ_first (Si := fun _ => True) hi (fun _ _ => trivial) (.inr fun _ => trivial) (Region.noSelect_spec hsel) (fun _ _ _ h => h) r.len listed _ w hls hcl hc.symm (Region.free_spec hi hf) hr hq.yields trivial (.inr fun _ => trivial) ?_
    rw [act_puto]
    exact TP.toQ hsel hK r _ _ w (by simpa using hls) (hcl.set hr) (by omega) hrest hS ht
  | .q i r, listed, ρ, w, hls, hcl, hc, hok, hS, h => by
    simp only [planOK, Bool.and_eq_true, List.all_eq_true] at hok
    obtain ⟨⟨⟨hm, hf⟩, hr⟩, hrest⟩ := hok
    obtain ⟨o, v, hi', hq, ht⟩ := h
    have hi : ops.toArray[i]? = some o := by simpa using hi'
    have him := (Array.getElem?_eq_some_iff.1 hi).1
    have hr : i ∈ Region.ready .any ops.toArray listed := by simpa using hr
    have hc' := unl_set (listed := listed) him (by simpa using (mem_ready.1 hr).1)
    simp only [Pl.len] at hc
    have hSw := hS rfl
    refine anyQ_first (Si := S) hi (fun _ h => h) (.inl hm) (Region.noSelect_spec hsel) (fun _ _ _ h => h) r.len listed _ w hls hcl hc.symm (Region.free_spec hi hf) hr hq.yields hSw (.inl hSw) ?_
    rw [act_puto]
    exact TP.toQ hsel hK r _ _ w (by simpa using hls) (hcl.set hr) (by omega) hrest (fun _ => hSw) ht
  | .e i r, listed, ρ, w, hls, hcl, hc, hok, hS, h => by
    simp only [planOK, Bool.and_eq_true, beq_iff_eq] at hok
    obtain ⟨hr, hnb, hrest⟩ := hok
    obtain ⟨o, hi', hs⟩ := h
    have hi : ops.toArray[i]? = some o := by simpa using hi'
    have hr' : i ∈ Region.ready .any ops.toArray listed := by rw [hr]; simp
    have hc' := unl_set (listed := listed) (Array.getElem?_eq_some_iff.1 hi).1 (by simpa using (mem_ready.1 hr').1)
    simp only [Pl.len] at hc
    refine ⟨by rw [hr]; simp, fun j hj => ?_⟩
    have hj : j = i := by rw [hr] at hj; simpa using hj
    subst hj
    exact hs.toWpOp hi fun ρ w h' => ⟨fun _ _ => h'.1, TP.toQ hsel hK r _ _ w (by simpa using hls) (hcl.set hr') (by omega) hrest (fun _ => h'.1) h'.2⟩
  | .b i r, listed, ρ, w, hls, hcl, hc, hok, hS, h => by
    simp only [planOK, Bool.and_eq_true, beq_iff_eq] at hok
    obtain ⟨hr, hib, hnq, hrest⟩ := hok
    obtain ⟨o, hi', hs⟩ := h
    have hi : ops.toArray[i]? = some o := by simpa using hi'
    have hr' : i ∈ Region.ready .any ops.toArray listed := by rw [hr]; simp
    have hc' := unl_set (listed := listed) (Array.getElem?_eq_some_iff.1 hi).1 (by simpa using (mem_ready.1 hr').1)
    simp only [Pl.len] at hc
    refine ⟨by rw [hr]; simp, fun j hj => ?_⟩
    have hj : j = i := by rw [hr] at hj; simpa using hj
    subst hj
    refine hs.toWpOp hi fun ρ w h' => ⟨?_, TP.toQ hsel hK r _ _ w (by simpa using hls) (hcl.set hr') (by omega) hrest (fun hq => by simp [hq] at hnq) h'⟩
    intro hb; rw [hib] at hb; cases hb
  | .f i r j s, listed, ρ, w, hls, hcl, hc, hok, hS, h => by
    simp only [planOK, Bool.and_eq_true, beq_iff_eq] at hok
    obtain ⟨hr, hlen, hn1, hn2, hrest, hrest2⟩ := hok
    obtain ⟨⟨o, hi', hs⟩, o2, hj', hs2⟩ := h
    have hi : ops.toArray[i]? = some o := by simpa using hi'
    have hj2 : ops.toArray[j]? = some o2 := by simpa using hj'
    have hri : i ∈ Region.ready .any ops.toArray listed := by rw [hr]; simp
    have hrj : j ∈ Region.ready .any ops.toArray listed := by rw [hr]; simp
    have hci := unl_set (listed := listed) (Array.getElem?_eq_some_iff.1 hi).1 (by simpa using (mem_ready.1 hri).1)
    have hcj := unl_set (listed := listed) (Array.getElem?_eq_some_iff.1 hj2).1 (by simpa using (mem_ready.1 hrj).1)
    have hlen : r.len = s.len := by simpa using hlen
    simp only [Pl.len] at hc
    refine ⟨by rw [hr]; simp, fun k hk => ?_⟩
    rw [hr] at hk
    rcases List.mem_cons.1 hk with rfl | hk
    · exact hs.toWpOp hi fun ρ w h' => ⟨fun _ _ => h'.1, TP.toQ hsel hK r _ _ w (by simpa using hls) (hcl.set hri) (by omega) hrest (fun _ => h'.1) h'.2⟩
    · have hk : k = j := by simpa using hk
      subst hk
      have := fun ρ w (h' : S w ∧ TP P n ops S K s ρ w) => TP.toQ hsel hK s (listed.setIfInBounds k true) ρ w (by simpa using hls) (hcl.set hrj) (by omega) hrest2 (fun _ => h'.1) h'.2
      refine hs2.toWpOp hj2 fun ρ w h' => ⟨fun _ _ => h'.1, ?_⟩
      have h3 := this ρ w h'
      rw [← hlen] at h3
      exact h3

/-- A REGION THAT DRAWS ITS ORDER, by a plan. -/
theorem WC_plan {id : Nat} {ops : List Oper} (hm : P.follows .mixedOrders = true) (p : Pl) (hok : planOKs ops.toArray p = true) (h : ∀ w1, Ext w w1 → TP P n ops (Ext w1) q.norm p ρ w1) : WC P n (.region id ops.toArray true) q ρ w := by
  simp only [planOKs, Bool.and_eq_true] at hok
  obtain ⟨hsel, hl, hp⟩ := hok
  have hl : p.len = ops.toArray.size := by simpa [Nat.beq_eq] using hl
  refine wp_region_any hm ?_
  have h1 := TP.toQ (q := q) hsel (fun _ _ h => h) p (Array.replicate ops.toArray.size false) ρ { w with drawn := w.drawn + 1 } (by simp) (Closed.none _ _) (by rw [unl_none _ _ (Nat.le_refl _), hl]) hp (fun _ => Chg.refl _ _) (h _ (Ext.drew w))
  have h2 := anyQ.toAny (fun _ _ _ h => h) p.len _ _ _ h1
  rw [hl] at h2
  exact h2

section
variable {S : World → Prop} {K : Env → World → Prop} {ops : List Oper} {o : Oper} {i : Nat} {r : Pl} {v : Value}
theorem TP_done (h : K ρ w) : TP P n ops S K .done ρ w := h
/-- Yields whatever the world is. -/
theorem TP_p (hi : ops[i]? = some o) (hw : Wanted ops.toArray o n ρ = true) (hy : ∀ w', Yl P n ρ o w' v) (h : TP P n ops S K r (updo ρ o.dst v) w) : TP P n ops S K (.p i r) ρ w :=
  ⟨o, v, hi, .inl ⟨hw, fun w' _ => hy w'⟩, h⟩
theorem TP_q (hi : ops[i]? = some o) (hw : Wanted ops.toArray o n ρ = true) (hy : ∀ w', S w' → Yl P n ρ o w' v) (h : TP P n ops S K r (updo ρ o.dst v) w) : TP P n ops S K (.q i r) ρ w :=
  ⟨o, v, hi, .inl ⟨hw, hy⟩, h⟩
theorem TP_gp (b : Bool) (hi : ops[i]? = some o) (hw : Wanted ops.toArray o n ρ = b) (hy : ∀ w', b = true → Yl P n ρ o w' v) (h : TP P n ops S K r (updo ρ o.dst (gd b v)) w) : TP P n ops S K (.p i r) ρ w := by
  cases b with
  | true => rw [gd_true rfl] at h; exact TP_p hi hw (fun w' => hy w' rfl) h
  | false => rw [gd_false rfl] at h; exact ⟨o, undef, hi, .inr ⟨hw, rfl⟩, h⟩
theorem TP_gq (b : Bool) (hi : ops[i]? = some o) (hw : Wanted ops.toArray o n ρ = b) (hy : ∀ w', S w' → b = true → Yl P n ρ o w' v) (h : TP P n ops S K r (updo ρ o.dst (gd b v)) w) : TP P n ops S K (.q i r) ρ w := by
  cases b with
  | true => rw [gd_true rfl] at h; exact TP_q hi hw (fun w' hS => hy w' hS rfl) h
  | false => rw [gd_false rfl] at h; exact ⟨o, undef, hi, .inr ⟨hw, rfl⟩, h⟩
theorem TP_e (hi : ops[i]? = some o) (hw : Wanted ops.toArray o n ρ = true) (h : Eff P o n ρ w (fun v w' => S w' ∧ TP P n ops S K r (updo ρ o.dst v) w')) : TP P n ops S K (.e i r) ρ w :=
  ⟨o, hi, by unfold Stp; rw [if_pos hw]; exact h⟩
theorem TP_b (hi : ops[i]? = some o) (hw : Wanted ops.toArray o n ρ = true) (h : Eff P o n ρ w (fun v w' => TP P n ops S K r (updo ρ o.dst v) w')) : TP P n ops S K (.b i r) ρ w :=
  ⟨o, hi, by unfold Stp; rw [if_pos hw]; exact h⟩
theorem TP_ges (b : Bool) (V : Value) (hi : ops[i]? = some o) (hw : Wanted ops.toArray o n ρ = b) (ht : b = true → Eff P o n ρ w (fun v w' => v = V ∧ Ext w w'))
    (h : ∀ w', Ext w w' → S w' ∧ TP P n ops S K r (updo ρ o.dst (gd b V)) w') : TP P n ops S K (.e i r) ρ w := by
  refine ⟨o, hi, ?_⟩
  unfold Stp
  cases b with
  | true =>
    rw [if_pos hw]
    refine (ht rfl).mono fun v w' ⟨hv, he⟩ => ?_
    have := h w' he; rw [gd_true rfl] at this; rw [hv]; exact this
  | false =>
    rw [if_neg (by simp [hw])]
    have := h w (Chg.refl _ _); rw [gd_false rfl] at this; exact this
theorem TP_ye (hi : ops[i]? = some o) (hw : Wanted ops.toArray o n ρ = true) (hy : Yl P n ρ o w v) (hS : S w) (h : TP P n ops S K r (updo ρ o.dst v) w) : TP P n ops S K (.e i r) ρ w :=
  TP_e hi hw (by unfold Eff; unfold Yl at hy; rw [hy]; exact ⟨hS, h⟩)
theorem TP_yb (hi : ops[i]? = some o) (hw : Wanted ops.toArray o n ρ = true) (hy : Yl P n ρ o w v) (h : TP P n ops S K r (updo ρ o.dst v) w) : TP P n ops S K (.b i r) ρ w :=
  TP_b hi hw (by unfold Eff; unfold Yl at hy; rw [hy]; exact h)
theorem TP_f {j : Nat} {s : Pl} {o2 : Oper} (hi : ops[i]? = some o) (hw : Wanted ops.toArray o n ρ = true) (hj : ops[j]? = some o2) (hw2 : Wanted ops.toArray o2 n ρ = true)
    (h : Eff P o n ρ w (fun v w' => S w' ∧ TP P n ops S K r (updo ρ o.dst v) w')) (h2 : Eff P o2 n ρ w (fun v w' => S w' ∧ TP P n ops S K s (updo ρ o2.dst v) w')) : TP P n ops S K (.f i r j s) ρ w :=
  ⟨⟨o, hi, by unfold Stp; rw [if_pos hw]; exact h⟩, ⟨o2, hj, by unfold Stp; rw [if_pos hw2]; exact h2⟩⟩
end
end
end Go.Gw
