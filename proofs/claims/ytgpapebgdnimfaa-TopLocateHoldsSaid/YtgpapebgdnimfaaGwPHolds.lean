/- TopLocateHolds answers true. Condition: none. -/
import Derived.Test.YtgpapebgdnimfaaGwLoc16
import Derived.Test.YtgpapebgdnimfaaGwLawTopLocateHolds
set_option maxRecDepth 8192
namespace Go.Gw
open Go
theorem tawake_ok : guidewaytop_locateAwake_spec = some true := by
  unfold guidewaytop_locateAwake_spec law04_Round_spec
  simp only [Option.bind_some]
  have e2 : locate_PlaceOf_spec (LocateTrack.mk ([0, 0, 1, 1, 1, 0, 1] : List Int) 3 100 2 1000 5 0 0 true) (LocateReading.mk ([0, 2, 1] : List Int) 1) = some (⟨1100, 1199⟩, 0) := by
    rw [PlaceOf_ok _ _ (by simp) (by simp)]; decide +kernel
  have e3 : locate_Joined_spec ([(LocateRest.mk 4 2), (LocateRest.mk 6 4)] : List LocateRest) = some (⟨12, 10⟩, 0) := by
    rw [Joined_ok _ (by simp)]; decide +kernel
  rw [e2, e3]
  rfl
/-- The tooth that has a place; below 0: none has. -/
def tooA (t : LocateTrack) (p : Int) : Int := if t.First ≤ p ∧ p ≤ t.First + nT t * t.Tooth - 1 then (p - t.First) / t.Tooth else -1
theorem nTT {t : LocateTrack} (h : Rt t) : 0 ≤ (nT t : Int) * t.Tooth ∧ (nT t : Int) * t.Tooth ≤ 480000 := by
  have := nT_le h; have := h.t1; have := h.t2
  refine ⟨Int.mul_nonneg (by omega) (by omega), ?_⟩
  have : (nT t : Int) * t.Tooth ≤ 480 * 1000 := Int.mul_le_mul (by omega) h.t2 (by omega) (by omega)
  omega
theorem ToothAt_ok (t : LocateTrack) (p : Int) (ht : t.Vanes.length < 1073741824) : locate_ToothAt_spec t p = some (if (chk t).2 = 0 then (if 0 ≤ tooA t p then (tooA t p, 0) else (0, 6)) else (0, (chk t).2)) := by
  unfold locate_ToothAt_spec
  rw [open_ok t ht]
  simp only [Option.bind_some, eta_track]
  by_cases h : (chk t).2 = 0
  · have hR := chk_rt h
    have hn := nTT hR
    have hf := hR.f1; have hf2 := hR.f2; have ht1 := hR.t1
    simp only [h, decide_true, Bool.not_true, cond_false, if_true]
    rw [teeth_ok hR]
    simp only [Option.bind_some, within_ok]
    rw [w64_id (x := (nT t : Int) * t.Tooth) (by omega), w64_id (x := t.First + (nT t : Int) * t.Tooth) (by omega), w64_id (x := t.First + (nT t : Int) * t.Tooth - 1) (by omega)]
    by_cases hc : t.First ≤ p ∧ p ≤ t.First + nT t * t.Tooth - 1
    · have hq : 0 ≤ (p - t.First) / t.Tooth := Int.ediv_nonneg (by omega) (by omega)
      have hq2 : (p - t.First) / t.Tooth ≤ p - t.First := Int.ediv_le_self _ (by omega)
      have e : tooA t p = (p - t.First) / t.Tooth := by unfold tooA; rw [if_pos hc]
      simp only [hc.1, hc.2, decide_true, Bool.and_self, Bool.not_true, cond_false]
      rw [e, if_pos hq, w64_id (x := p - t.First) (by omega), quo_ok (by omega), tdiv_pos (by omega), w64_id (by omega)]; rfl
    · have e : tooA t p = -1 := by unfold tooA; rw [if_neg hc]
      have hc' : (decide (t.First ≤ p) && decide (p ≤ t.First + (nT t : Int) * t.Tooth - 1)) = false := by rw [Bool.eq_false_iff]; simp only [ne_eq, Bool.and_eq_true, decide_eq_true_eq]; exact hc
      simp [hc', e]
  · simp [h]
def lost (l : List Range) (p : Int) : Int := (l.length : Int) - cov l p
theorem holds1_ok (l : List Range) (p : Int) (hl : l.length ≤ 12) : loop (guidewaytop_TopLocateHolds_s1 l p) (0, 0) = some (lost l p) := by
  have h := loop_fld (step := guidewaytop_TopLocateHolds_s1 l p) l (fun _ (a : Int) r => if r.Lo ≤ p ∧ p ≤ r.Hi then a else a + 1) (fun a k => (a, (k : Int))) (fun a => a) (fun a k => 0 ≤ a ∧ a ≤ k) 0 (by simp) (fun k hk a hI => ?_) (fun a _ => ?_)
  · have e : ∀ (l : List Range) (k : Nat) (a : Int), fld (fun _ (a : Int) r => if r.Lo ≤ p ∧ p ≤ r.Hi then a else a + 1) k a l = a + lost l p := by
      intro l
      unfold lost
      induction l with
      | nil => intro k a; simp [fld, cov]
      | cons r l ih =>
        intro k a
        simp only [fld]
        rw [ih]
        simp only [cov, List.length_cons]
        split <;> omega
    have := h.1
    rw [e] at this
    simpa using this
  · unfold guidewaytop_TopLocateHolds_s1
    simp only
    rw [lt_nat hk, cond_true, idx_nat hk]
    simp only [bwithin_ok, Option.bind_some]
    rw [w64n k (by omega)]
    by_cases hc : l[k].Lo ≤ p ∧ p ≤ l[k].Hi
    · simp [hc]; omega
    · have hc' : (decide (l[k].Lo ≤ p) && decide (p ≤ l[k].Hi)) = false := by rw [Bool.eq_false_iff]; simp only [ne_eq, Bool.and_eq_true, decide_eq_true_eq]; exact hc
      rw [hc', if_neg hc, w64_id (by omega)]
      exact ⟨rfl, by omega⟩
  · unfold guidewaytop_TopLocateHolds_s1
    simp only
    rw [lt_nat_no]; rfl
theorem holds2_ok (p : Int) (r : List Range × Int) (hl : r.1.length ≤ 1000000001) : loop (guidewaytop_TopLocateHolds_s2 r p) (false, 0) = some (r.1.any fun x => decide (x.Lo ≤ p) && decide (p ≤ x.Hi)) := by
  have h := loop_fld (step := guidewaytop_TopLocateHolds_s2 r p) r.1 (fun _ (a : Bool) x => a || (decide (x.Lo ≤ p) && decide (p ≤ x.Hi))) (fun a k => (a, (k : Int))) (fun a => a) (fun _ _ => True) false trivial (fun k hk a _ => ⟨?_, trivial⟩) (fun a _ => ?_)
  · have e : ∀ (l : List Range) (k : Nat) (a : Bool), fld (fun _ (a : Bool) x => a || (decide (x.Lo ≤ p) && decide (p ≤ x.Hi))) k a l = (a || l.any fun x => decide (x.Lo ≤ p) && decide (p ≤ x.Hi)) := by
      intro l
      induction l with
      | nil => intro k a; simp [fld]
      | cons x l ih => intro k a; simp only [fld]; rw [ih]; simp [List.any_cons, Bool.or_assoc]
    have := h.1
    rw [e] at this
    simpa using this
  · unfold guidewaytop_TopLocateHolds_s2
    simp only
    rw [lt_nat hk, cond_true, idx_nat hk]
    cases a
    · simp only [Bool.not_false, cond_true, Option.bind_some, bwithin_ok, Bool.false_or]
      rw [w64n k (by omega)]
    · simp only [Bool.not_true, cond_false, Option.bind_some, Bool.true_or]
      rw [w64n k (by omega)]
  · unfold guidewaytop_TopLocateHolds_s2
    simp only
    rw [lt_nat_no]; rfl
theorem read0_eq (t : LocateTrack) (p : guidewaylaw04_Spoilt) : guidewaytop_locateRead_s0 p t = flipS t p := rfl
theorem read1_eq (t : LocateTrack) (p : guidewaylaw04_Spoilt) : guidewaytop_locateRead_s1 p t = hideS t p := rfl
/-- What is read at a step. -/
theorem read_ok {t : LocateTrack} (h : Rt t) (hc : (chk t).2 = 0) (x : guidewaytop_LocateRun) {i : Nat} (hi : i < x.Teeth.length) (hsp : x.Spoilt.length ≤ 8) {k w : Nat} (hk : x.Teeth[i] = (k : Int)) (hkT : k < nT t) (hw : w < nW t) (hq : quo (k : Int) t.PerVane = some (w : Int)) (hwk : w = k / t.PerVane.toNat) :
    (∃ r, guidewaytop_locateRead_spec t x (i : Int) = some (r, false)) ∨ ∃ l C, guidewaytop_locateRead_spec t x (i : Int) = some (⟨l, C⟩, true) ∧ rdE t ⟨l, C⟩ = 0 ∧ isP t ⟨l, C⟩ k = true ∧ l.length < 1073741824 := by
  have hn := nW_le h
  have hnT := nT_le h
  have hm1 := h.m1; have hm2 := h.m2; have hs1 := h.s1; have hs2 := h.s2; have hw1 := h.w1; have hw2 := h.w2; have he1 := h.e1; have he2 := h.e2
  unfold guidewaytop_locateRead_spec
  rw [idx_nat hi, Option.bind_some, hk, hq, Option.bind_some, WindowAt_ok h w (by omega), Option.bind_some]
  have fin : ∀ (l : List Int) (off : Int), Sp t w t.Errors 100000 l → -t.Slack ≤ off → off ≤ t.Slack →
      (∃ l' C, ((Option.bind (base_Mod_spec (w64 ((k : Int) + off)) t.Modulus) fun r1581 => some ((LocateReading.mk l r1581), true)) : Option (LocateReading × Bool)) = some (⟨l', C⟩, true) ∧ rdE t ⟨l', C⟩ = 0 ∧ isP t ⟨l', C⟩ k = true ∧ l'.length < 1073741824) := by
    intro l off hS h1 h2
    rw [w64_id (x := (k : Int) + off) (by omega), Mod_ok hm1 (by omega)]
    have c0 := Int.emod_nonneg ((k : Int) + off) (show t.Modulus ≠ 0 by omega)
    have c1 := Int.emod_lt_of_pos ((k : Int) + off) (show 0 < t.Modulus by omega)
    have hfit := fit_off h (too := (k : Int)) (off := off) h1 h2
    have hop := hS.err hc
    refine ⟨l, ((k : Int) + off) % t.Modulus, rfl, ?_, ?_, by have := hS.len; omega⟩
    · unfold rdE
      rw [if_neg (by simpa using hop), if_pos ⟨c0, c1⟩]
    · unfold isP
      rw [← hwk, hfit, decide_eq_true (show dW t w l ≤ t.Errors from hS.near)]; rfl
  by_cases hsi : (i : Int) < (x.Spoilt.length : Int)
  · have hsi' : i < x.Spoilt.length := by omega
    rw [decide_eq_true hsi, cond_true, idx_nat hsi', Option.bind_some]
    generalize x.Spoilt[i] = p
    by_cases hwr : (p.Wrong.length : Int) ≤ t.Errors
    · by_cases hun : (p.Unread.length : Int) ≤ 14
      · rw [decide_eq_false (show ¬ t.Errors < (p.Wrong.length : Int) by omega), decide_eq_false (show ¬ 14 < (p.Unread.length : Int) by omega), w64_id (x := 0 - t.Slack) (by omega)]
        simp only [Bool.or_self, Bool.not_false, cond_true, bwithin_ok, Option.bind_some, Bool.false_or]
        by_cases hoff : 0 - t.Slack ≤ p.Off ∧ p.Off ≤ t.Slack
        · simp only [hoff.1, hoff.2, decide_true, Bool.and_self, Bool.not_true, cond_false]
          rw [read0_eq, read1_eq]
          obtain ⟨l, hl, hS⟩ := flip_ok h p w (by omega)
          rw [hl, Option.bind_some]
          obtain ⟨l2, hl2, hS2⟩ := hide_ok h p w (by omega) hS
          rw [hl2]
          simp only [Option.bind_some, jn0]
          right
          exact fin l2 p.Off ⟨hS2.len, hS2.val, by have := hS2.near; omega, fun j => by have := hS2.far j; omega⟩ (by omega) hoff.2
        · have : (decide (0 - t.Slack ≤ p.Off) && decide (p.Off ≤ t.Slack)) = false := by rw [Bool.eq_false_iff]; simp only [ne_eq, Bool.and_eq_true, decide_eq_true_eq]; exact hoff
          rw [this]
          exact .inl ⟨_, rfl⟩
      · rw [decide_eq_true (show 14 < (p.Unread.length : Int) by omega)]
        simp only [Bool.or_true, Bool.true_or, Bool.not_true, cond_false, cond_true, Option.bind_some, jn0]
        exact .inl ⟨_, rfl⟩
    · rw [decide_eq_true (show t.Errors < (p.Wrong.length : Int) by omega)]
      simp only [Bool.true_or, Bool.not_true, cond_false, cond_true, Option.bind_some, jn0]
      exact .inl ⟨_, rfl⟩
  · rw [decide_eq_false hsi, cond_false]
    simp only [Option.bind_some, jn0]
    right
    have hS := win_sp h w
    exact fin (winL t w) 0 ⟨hS.len, hS.val, by have := hS.near; omega, fun j => by have := hS.far j; omega⟩ (by omega) (by omega)
theorem TrkG.snoc {s : Range} {l : List LocateFix} {P : Nat → Int} {n : Nat} {a p a' p' lo hi : Int} (h : TrkG s l P) (hn : l.length = n + 1) (ha : (l.getD n default).At = a) (hp : P n = p)
    (h1 : 0 ≤ a' ∧ a' ≤ 10000000) (h2 : 0 ≤ lo ∧ lo ≤ p' ∧ p' ≤ hi ∧ hi ≤ 1000000000) (e0 : a ≤ a') (e1 : s.Lo * (a' - a) ≤ 1000 * (p' - p)) (e2 : 1000 * (p' - p) ≤ s.Hi * (a' - a)) :
    TrkG s (l ++ [⟨a', ⟨lo, hi⟩⟩]) (fun i => if i = n + 1 then p' else P i) where
  fix k hk := by
    rcases Nat.lt_or_ge k (n + 1) with hk2 | hk2
    · rw [List.getElem_append_left (by omega), if_neg (by omega)]
      exact h.fix k (by omega)
    · obtain rfl : k = n + 1 := by simp at hk; omega
      rw [List.getElem_append_right (by omega)]
      simp [hn, Okg]; omega
  stp k hk := by
    rcases Nat.lt_or_ge (k + 1) (n + 1) with hk2 | hk2
    · rw [List.getElem_append_left (by omega), List.getElem_append_left (by omega), if_neg (by omega), if_neg (by omega)]
      exact h.stp k (by omega)
    · obtain rfl : k = n := by simp at hk; omega
      have g1 : (l ++ [(⟨a', ⟨lo, hi⟩⟩ : LocateFix)])[k + 1]'hk = ⟨a', ⟨lo, hi⟩⟩ := by
        rw [List.getElem_append_right (by omega)]; simp [hn]
      have g2 : (l ++ [(⟨a', ⟨lo, hi⟩⟩ : LocateFix)])[k]'(by omega) = l[k] := List.getElem_append_left (by omega)
      rw [g1, g2, if_pos rfl, if_neg (by omega)]
      have hg : l.getD k default = l[k] := by simp [List.getD, hn]
      rw [hg] at ha
      rw [ha, hp]
      exact ⟨e0, e1, e2⟩
theorem TrkG.one {s : Range} {a p lo hi : Int} (h1 : 0 ≤ a ∧ a ≤ 10000000) (h2 : 0 ≤ lo ∧ lo ≤ p ∧ p ≤ hi ∧ hi ≤ 1000000000) : TrkG s [⟨a, ⟨lo, hi⟩⟩] (fun _ => p) where
  fix k hk := by
    obtain rfl : k = 0 := by simpa using hk
    simp [Okg]; omega
  stp k hk := by simp at hk
theorem cov_has {l : List Range} {p : Int} {r : Range} (hr : r ∈ l) (h : r.Lo ≤ p ∧ p ≤ r.Hi) : 1 ≤ cov l p := by
  induction l with
  | nil => cases hr
  | cons x l ih =>
    have := cov_bound l p
    simp only [cov]
    rcases List.mem_cons.1 hr with rfl | hr
    · rw [if_pos h]; omega
    · have := ih hr
      split <;> omega
/-- What a run comes to. -/
def HQ (o : Bool ⊕ (List LocateFix × List Range × Int × Int × Int)) : Prop := o = .inl true ∨ ∃ fx al last lo hi P, o = .inr (fx, al, last, lo, hi) ∧ al = fx.map (·.Place) ∧ fx.length ≤ 8 ∧ TrkG ⟨lo, hi⟩ fx P ∧ (fx ≠ [] → P (fx.length - 1) = last)
/-- What stands between two steps of a run. -/
structure HI (x : guidewaytop_LocateRun) (k : Nat) (fx : List LocateFix) (al : List Range) (last before lo hi : Int) : Prop where
  al : al = fx.map (·.Place)
  n : fx.length ≤ k
  sp : -2000000000000 ≤ lo ∧ lo ≤ 0 ∧ 0 ≤ hi ∧ hi ≤ 2000000000000
  la : 0 ≤ last ∧ last ≤ 1000000000
  trk : ∃ P, TrkG ⟨lo, hi⟩ fx P ∧ (fx ≠ [] → P (fx.length - 1) = last ∧ (fx.getD (fx.length - 1) default).At = before * x.Time ∧ 0 ≤ before ∧ before < k)
theorem speed_lo {D T lo : Int} (hT : 1 ≤ T) (h : lo ≤ D / T) : lo * T ≤ D := by
  have h1 := Int.mul_le_mul_of_nonneg_right h (show 0 ≤ T by omega)
  have h2 := Int.ediv_mul_le D (show T ≠ 0 by omega)
  omega
theorem speed_hi {D T hi : Int} (hT : 1 ≤ T) (h : -((-D) / T) ≤ hi) : D ≤ hi * T := by
  have h1 := Int.mul_le_mul_of_nonneg_right h (show 0 ≤ T by omega)
  have h2 := Int.ediv_mul_le (-D) (show T ≠ 0 by omega)
  rw [Int.neg_mul] at h1
  omega
theorem HI.snoc {x : guidewaytop_LocateRun} {k : Nat} {fx : List LocateFix} {al : List Range} {last before lo hi lo' hi' pl : Int} {r : Range} (h : HI x k fx al last before lo hi) (hk : k < 8) (hT : 1 ≤ x.Time ∧ x.Time ≤ 100000)
    (hpl : r.Lo ≤ pl ∧ pl ≤ r.Hi) (hr : Okg r) (hlo : lo' ≤ lo) (hhi : hi ≤ hi') (hb : -2000000000000 ≤ lo' ∧ hi' ≤ 2000000000000)
    (hstep : fx ≠ [] → lo' * (((k : Int) - before) * x.Time) ≤ 1000 * (pl - last) ∧ 1000 * (pl - last) ≤ hi' * (((k : Int) - before) * x.Time)) :
    HI x (k + 1) (fx ++ [⟨(k : Int) * x.Time, r⟩]) (al ++ [r]) pl k lo' hi' := by
  obtain ⟨h1, h2, h3, h4, P, h5, h6⟩ := h
  obtain ⟨r1, r2, r3⟩ := hr
  have hkT0 : 0 ≤ (k : Int) * x.Time := Int.mul_nonneg (by omega) (by omega)
  have hkT1 : (k : Int) * x.Time ≤ 8 * 100000 := Int.mul_le_mul (by omega) hT.2 (by omega) (by omega)
  refine ⟨by rw [h1]; simp, by simp; omega, by omega, by omega, ?_⟩
  have hlast : ((fx ++ [(⟨(k : Int) * x.Time, r⟩ : LocateFix)]).getD ((fx ++ [(⟨(k : Int) * x.Time, r⟩ : LocateFix)]).length - 1) default).At = (k : Int) * x.Time := by
    simp [List.getD]
  by_cases he : fx = []
  · subst he
    exact ⟨fun _ => pl, TrkG.one (by omega) (by omega), fun _ => ⟨rfl, hlast, by omega, by omega⟩⟩
  · obtain ⟨q1, q2, q3, q4⟩ := h6 he
    have hlen : fx.length = (fx.length - 1) + 1 := by have := List.length_pos_iff.2 he; omega
    obtain ⟨s1, s2⟩ := hstep he
    have hw := h5.wide (s' := ⟨lo', hi'⟩) hlo hhi
    have emul : (k : Int) * x.Time - before * x.Time = ((k : Int) - before) * x.Time := by rw [Int.sub_mul]
    have hmono : before * x.Time ≤ (k : Int) * x.Time := Int.mul_le_mul_of_nonneg_right (by omega) (by omega)
    refine ⟨_, hw.snoc (a := before * x.Time) (p := last) (a' := (k : Int) * x.Time) (p' := pl) (lo := r.Lo) (hi := r.Hi) hlen q2 q1 (by omega) (by omega) hmono (by rw [emul]; exact s1) (by rw [emul]; exact s2), fun _ => ⟨?_, hlast, by omega, by omega⟩⟩
    simp only [List.length_append, List.length_singleton, Nat.add_sub_cancel]
    rw [if_pos (by omega)]
theorem holds0_ok {t : LocateTrack} (hc : (chk t).2 = 0) (x : guidewaytop_LocateRun) (hl : x.Teeth.length ≤ 8) (hsp : x.Spoilt.length ≤ 8) (hT : 1 ≤ x.Time ∧ x.Time ≤ 100000) (ht : t.Vanes.length < 1073741824) :
    Runs (loop (guidewaytop_TopLocateHolds_s0 t x) (([] : List LocateFix), ([] : List Range), 0, 0, 0, 0, 0)) HQ := by
  have hR := chk_rt hc
  have hn := nW_le hR
  have hnT := nT_le hR
  have htt := nTT hR
  have hf1 := hR.f1; have hf2 := hR.f2; have ht1 := hR.t1; have ht2 := hR.t2
  refine Runs.loop (fun s => ∃ k : Nat, s.2.2.2.2.1 = k ∧ k ≤ x.Teeth.length ∧ HI x k s.1 s.2.1 s.2.2.1 s.2.2.2.1 s.2.2.2.2.2.1 s.2.2.2.2.2.2) (fun s => x.Teeth.length - s.2.2.2.2.1.toNat)
    ⟨0, rfl, by omega, ⟨rfl, by simp, by simp only; omega, by simp only; omega, fun _ => 0, ⟨fun k hk => by simp at hk, fun k hk => by simp at hk⟩, fun h => absurd rfl h⟩⟩ ?_
  rintro ⟨fx, al, last, before, i, lo, hi⟩ ⟨k, hi', hk, hI⟩
  simp only at hi' hI
  subst hi'
  unfold guidewaytop_TopLocateHolds_s0
  simp only
  by_cases hkl : k < x.Teeth.length
  · rw [lt_nat hkl, cond_true, idx_nat hkl, Option.bind_some, ToothErr_ok hR, Option.bind_some]
    by_cases hto : tooE t x.Teeth[k] = 0
    · obtain ⟨w, too, htoo, htoo2, hwk, hw, hq⟩ := only_window hR hto
      rw [hto, Copy_ok t ht]
      simp only [decide_true, Bool.not_true, cond_false, Option.bind_some]
      rw [PlacesOf_ok t _ ht, if_pos hc, if_pos hto]
      simp only [Option.bind_some, decide_true, Bool.not_true, Bool.not_false, cond_true, Bool.false_or]
      have hplc := plc_ok hR htoo2
      rw [htoo] at hq ⊢
      rw [RangeErr_ok]
      have hrg : rgE (Range.mk (plc t (too : Int)).Lo (plc t (too : Int)).Hi) = 0 := rgE_0.2 hplc
      simp only [Option.bind_some, hrg, decide_true, Bool.not_true, cond_false]
      have htA : tooA t (plc t (too : Int)).Lo = too := by
        unfold tooA plc
        simp only
        have hm : 0 ≤ (too : Int) * t.Tooth := Int.mul_nonneg (by omega) (by omega)
        have hm2 : ((too : Int) + 1) * t.Tooth ≤ (nT t : Int) * t.Tooth := Int.mul_le_mul_of_nonneg_right (by omega) (by omega)
        rw [Int.add_mul] at hm2
        rw [if_pos (by omega), show t.First + (too : Int) * t.Tooth - t.First = (too : Int) * t.Tooth by omega, Int.mul_ediv_cancel _ (by omega)]
      rw [ToothAt_ok t _ ht, if_pos hc, htA, if_pos (by omega)]
      simp only [Option.bind_some, decide_true, Bool.not_true, Bool.not_false, cond_true, cond_false, Bool.or_self]
      obtain ⟨p1, p2, p3⟩ := hplc
      rcases read_ok hR hc x hkl hsp htoo htoo2 hw hq hwk with ⟨r, hrd⟩ | ⟨l, C, hrd, hre, hip, hll⟩
      · rw [hrd]
        exact ⟨.inr (.inl true), rfl, .inl rfl⟩
      · rw [hrd]
        simp only [Option.bind_some, Bool.not_true, cond_false]
        rw [PlaceOf_ok t ⟨l, C⟩ ht hll, if_pos hre]
        simp only [Option.bind_some]
        obtain ⟨r0, hr0, hr1, hr2⟩ := poss_cover hR ⟨l, C⟩ htoo2 hip
        rw [w64n k (by omega)]
        have hnext : HI x (k + 1) fx al last before lo hi := ⟨hI.al, by have := hI.n; omega, hI.sp, hI.la, by
          obtain ⟨P, a, b⟩ := hI.trk
          exact ⟨P, a, fun h => by obtain ⟨c1, c2, c3, c4⟩ := b h; exact ⟨c1, c2, c3, by omega⟩⟩⟩
        unfold onlyR
        match hpp : possL t ⟨l, C⟩ with
        | [] => rw [hpp] at hr0; cases hr0
        | y :: z :: rest =>
          refine ⟨.inl (fx, al, last, before, ((k + 1 : Nat) : Int), lo, hi), rfl, ⟨k + 1, rfl, by omega, hnext⟩, ?_⟩
          simp only; omega
        | [y] =>
          rw [hpp] at hr0
          obtain rfl : r0 = y := by simpa using hr0
          have hok := poss_ok hR ⟨l, C⟩ r0 (by rw [hpp]; simp)
          simp only [ne_eq, not_true_eq_false, if_false, decide_true, Bool.not_true, Bool.false_and, cond_false, cond_true, bwithin_ok, Option.bind_some]
          generalize hpl : (plc t (too : Int)).Lo = pl at *
          have hin : (decide (r0.Lo ≤ pl) && decide (pl ≤ r0.Hi)) = true := by
            simp only [Bool.and_eq_true, decide_eq_true_eq]; omega
          rw [hin]
          simp only [Bool.not_true, cond_false]
          have hkT0 : 0 ≤ (k : Int) * x.Time := Int.mul_nonneg (by omega) (by omega)
          have hkT1 : (k : Int) * x.Time ≤ 8 * 100000 := Int.mul_le_mul (by omega) hT.2 (by omega) (by omega)
          have hfl := hI.n
          have hal : al.length = fx.length := by rw [hI.al]; simp
          have step : ∃ lo' hi', ((bif (decide (0 < (fx.length : Int))) then (
                      (Option.bind (base_Floor_spec (w64 (1000 * (w64 (pl - last)))) (w64 ((w64 ((k : Int) - before)) * x.Time))) fun r5697 =>
                      (Option.bind (base_Ceil_spec (w64 (1000 * (w64 (pl - last)))) (w64 ((w64 ((k : Int) - before)) * x.Time))) fun r5703 =>
                      some ((if r5697 < lo then r5697 else lo), (if hi < r5703 then r5703 else hi))))) else (some (lo, hi))) : Option (Int × Int)) = some (lo', hi') ∧ lo' ≤ lo ∧ hi ≤ hi' ∧ -2000000000000 ≤ lo' ∧ hi' ≤ 2000000000000 ∧
                (fx ≠ [] → lo' * (((k : Int) - before) * x.Time) ≤ 1000 * (pl - last) ∧ 1000 * (pl - last) ≤ hi' * (((k : Int) - before) * x.Time)) := by
            obtain ⟨s1, s2, s3, s4⟩ := hI.sp
            by_cases he : fx = []
            · subst he
              exact ⟨lo, hi, rfl, Int.le_refl _, Int.le_refl _, s1, s4, fun h => absurd rfl h⟩
            · have hpos := List.length_pos_iff.2 he
              obtain ⟨P, _, b⟩ := hI.trk
              obtain ⟨_, _, b3, b4⟩ := b he
              obtain ⟨l1, l2⟩ := hI.la
              have hD0 : 1 ≤ ((k : Int) - before) * x.Time := by
                have := Int.mul_le_mul (a := 1) (b := 1) (c := (k : Int) - before) (d := x.Time) (by omega) hT.1 (by omega) (by omega)
                omega
              have hD1 : ((k : Int) - before) * x.Time ≤ 8 * 100000 := Int.mul_le_mul (by omega) hT.2 (by omega) (by omega)
              rw [decide_eq_true (show (0 : Int) < fx.length by omega), cond_true, w64_id (x := pl - last) (by omega), w64_id (x := 1000 * (pl - last)) (by omega), w64_id (x := (k : Int) - before) (by omega), w64_id (x := ((k : Int) - before) * x.Time) (by omega)]
              obtain ⟨f1, f2, f3⟩ := gFloor_ok (n := 1000 * (pl - last)) hD0 (by omega)
              obtain ⟨g1, g2, g3⟩ := gCeil_ok (n := 1000 * (pl - last)) hD0 (by omega)
              rw [f1, Option.bind_some, g1, Option.bind_some]
              refine ⟨_, _, rfl, by split <;> omega, by split <;> omega, by split <;> omega, by split <;> omega, fun _ => ⟨speed_lo hD0 ?_, speed_hi hD0 ?_⟩⟩
              · split <;> omega
              · split <;> omega
          obtain ⟨lo', hi2, e1, e2, e3, e4, e5, e6⟩ := step
          rw [e1]
          simp only [Option.bind_some]
          rw [app_ok (by simp; omega), app_ok (by simp; omega), w64_id (x := (k : Int) * x.Time) (by omega)]
          simp only [Option.bind_some]
          have hN := hI.snoc (r := r0) (pl := pl) (by omega) hT ⟨by omega, by omega⟩ hok e2 e3 ⟨e4, e5⟩ e6
          exact ⟨_, rfl, ⟨k + 1, rfl, by omega, hN⟩, by simp only; omega⟩
    · refine ⟨.inr (.inl true), by rw [decide_eq_false hto]; rfl, .inl rfl⟩
  · obtain rfl : k = x.Teeth.length := by omega
    rw [lt_nat_no]
    obtain ⟨P, a, b⟩ := hI.trk
    exact ⟨_, rfl, .inr ⟨fx, al, last, lo, hi, P, rfl, hI.al, by have := hI.n; omega, a, fun h => (b h).1⟩⟩
theorem TopLocateHolds_true (t : LocateTrack) (x : guidewaytop_LocateRun) : guidewaytop_TopLocateHolds_spec t x = some true := by
  unfold guidewaytop_TopLocateHolds_spec law04_Short_spec
  rw [tawake_ok]
  simp only [Option.bind_some, Bool.not_true, cond_false]
  by_cases hs : (decide ((t.Vanes.length : Int) ≤ 16) || (decide (40 < (t.Vanes.length : Int)) && decide ((t.Vanes.length : Int) ≤ 42))) = true
  · have ht : t.Vanes.length < 1073741824 := by
      simp only [Bool.or_eq_true, Bool.and_eq_true, decide_eq_true_eq] at hs; omega
    rw [hs]
    simp only [Bool.not_true, Bool.not_false, cond_true, Bool.false_or]
    rw [TrackErr_ok t ht, Option.bind_some]
    by_cases h : (chk t).2 = 0
    · rw [h]
      simp only [decide_true, Bool.not_true, Bool.false_or]
      by_cases h8 : (x.Teeth.length : Int) ≤ 8
      · by_cases h8' : (x.Spoilt.length : Int) ≤ 8
        · rw [decide_eq_false (show ¬ 8 < (x.Teeth.length : Int) by omega), decide_eq_false (show ¬ 8 < (x.Spoilt.length : Int) by omega)]
          simp only [Bool.or_self, Bool.not_false, cond_true, bwithin_ok, Option.bind_some, Bool.false_or]
          by_cases hT : 1 ≤ x.Time ∧ x.Time ≤ 100000
          · simp only [hT.1, hT.2, decide_true, Bool.and_self, Bool.not_true, cond_false]
            obtain ⟨o, ho, hq⟩ := holds0_ok h x (by omega) (by omega) hT ht
            rw [ho, Option.bind_some]
            rcases hq with rfl | ⟨fx, al, last, lo, hi, P, rfl, hal, hfl, htr, hlast⟩
            · rfl
            · simp only [jn0]
              by_cases he : fx = []
              · subst he; rfl
              · have hpos := List.length_pos_iff.2 he
                rw [decide_eq_false (show ¬ (fx.length : Int) = 0 by omega)]
                simp only [Bool.not_false, cond_true, Bool.false_or]
                rw [SpeedErr_ok, Option.bind_some]
                by_cases hsp : spE ⟨lo, hi⟩ = 0
                · rw [hsp]
                  simp only [decide_true, Bool.not_true, cond_false]
                  rw [CopyFixes_ok fx (by omega)]
                  simp only [Option.bind_some]
                  obtain ⟨r, hr, r1, r2⟩ := Follow_trkG (by omega) hpos hsp htr
                  rw [hlast he] at r1 r2
                  rw [hr]
                  simp only [Option.bind_some, decide_true, Bool.not_true, Bool.or_self, Bool.not_false, cond_true, bwithin_ok, r1, r2, Bool.and_self, Bool.false_or, cond_false]
                  have hall : al.length = fx.length := by rw [hal]; simp
                  rw [holds1_ok al last (by omega), Option.bind_some, CopyRanges_ok al (by omega), Option.bind_some]
                  have hok : ∀ r ∈ al, Okg r := by
                    intro r hr
                    rw [hal] at hr
                    obtain ⟨f, hf, rfl⟩ := List.mem_map.1 hr
                    obtain ⟨j, hj, rfl⟩ := List.getElem_of_mem hf
                    exact (htr.fix j hj).2.2.1
                  have hcov : 1 ≤ cov al last := by
                    obtain ⟨_, _, _, a1, a2⟩ := htr.fix (fx.length - 1) (by omega)
                    rw [hlast he] at a1 a2
                    have hm : (fx[fx.length - 1]'(by omega)).Place ∈ fx.map (·.Place) := List.mem_map.2 ⟨_, List.getElem_mem _, rfl⟩
                    have hsub : ∀ y, y ∈ fx.map (·.Place) → y ∈ al := fun y hy => by rw [hal]; exact hy
                    exact cov_has (hsub _ hm) ⟨a1, a2⟩
                  have hb := cov_bound al last
                  have hfu : fuE al (lost al last) = 0 := fuE_0.2 ⟨by omega, by omega, hok, by unfold lost; omega, by unfold lost; omega⟩
                  obtain ⟨out, hf, hruns, _⟩ := Fused_ok al (lost al last) (by omega)
                  have hruns := hruns hfu
                  rw [hf, Option.bind_some, hfu, holds2_ok _ _ (fu_len hok (by unfold lost; omega) hruns), Option.bind_some]
                  obtain ⟨y, hy, y1, y2⟩ := (hruns.all last).1 (by unfold Fu lost; omega)
                  have : (out.any fun x => decide (x.Lo ≤ last) && decide (last ≤ x.Hi)) = true := List.any_eq_true.2 ⟨y, hy, by simp [y1, y2]⟩
                  simp only [this, decide_true, Bool.and_self]
                · rw [decide_eq_false hsp]; rfl
          · have : (decide (1 ≤ x.Time) && decide (x.Time ≤ 100000)) = false := by rw [Bool.eq_false_iff]; simp only [ne_eq, Bool.and_eq_true, decide_eq_true_eq]; exact hT
            rw [this]; rfl
        · rw [decide_eq_true (show 8 < (x.Spoilt.length : Int) by omega)]
          simp only [Bool.or_true, Bool.true_or, Bool.not_true, cond_false, cond_true, Option.bind_some]
      · rw [decide_eq_true (show 8 < (x.Teeth.length : Int) by omega)]
        simp only [Bool.true_or, Bool.not_true, cond_false, cond_true, Option.bind_some]
    · simp [h]
  · have : (decide ((t.Vanes.length : Int) ≤ 16) || (decide (40 < (t.Vanes.length : Int)) && decide ((t.Vanes.length : Int) ≤ 42))) = false := by
      cases h : (decide ((t.Vanes.length : Int) ≤ 16) || (decide (40 < (t.Vanes.length : Int)) && decide ((t.Vanes.length : Int) ≤ 42)))
      · rfl
      · exact absurd h hs
    rw [this]; rfl
end Go.Gw
