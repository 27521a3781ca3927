/- Ranges fused: both texts come to the longest runs. Condition: none but that lists are short. -/
import Derived.Test.YtgpapebgdnimfaaGwLoc8
set_option maxRecDepth 4096
namespace Go.Gw
open Go

/-- What is fused. -/
def Fu (l : List Range) (wrong p : Int) : Prop := (l.length : Int) - wrong ≤ cov l p
theorem cov_far {l : List Range} (h : ∀ r ∈ l, Okg r) {p : Int} (hp : p < 0 ∨ 1000000000 < p) : cov l p = 0 := by
  induction l with
  | nil => rfl
  | cons r l ih =>
    obtain ⟨h1, h2, h3⟩ := h r (List.mem_cons_self ..)
    simp only [cov]
    rw [ih fun x hx => h x (List.mem_cons_of_mem _ hx), if_neg (by omega)]
    rfl
theorem F0_ok (l : List Range) (hl : l.length ≤ 12) : loop (locate_Fused_s0 l) (([] : List locate_edge), 0) = some (if rgsE l ≠ 0 then .inl (([] : List Range), rgsE l) else .inr (edgs l)) := by
  have h := loop_fldx (step := locate_Fused_s0 l) l (fun _ (a : List locate_edge) r => if rgE r ≠ 0 then .inl (([] : List Range), rgE r) else .inr (a ++ [⟨r.Lo, 1⟩, ⟨r.Hi + 1, -1⟩])) (fun a k => (a, (k : Int))) (fun a => a) (fun a k => a.length = 2 * k) [] rfl ?_ ?_
  · have key : ∀ (l : List Range) (k : Nat) (a : List locate_edge), mapR (fun a => a) (fldx (fun _ (a : List locate_edge) (r : Range) => if rgE r ≠ 0 then (.inl (([] : List Range), rgE r) : (List Range × Int) ⊕ List locate_edge) else .inr (a ++ [⟨r.Lo, 1⟩, ⟨r.Hi + 1, -1⟩])) k a l) = if rgsE l ≠ 0 then .inl (([] : List Range), rgsE l) else .inr (a ++ edgs l) := by
      intro l
      induction l with
      | nil => intro k a; simp [fldx, rgsE, edgs, mapR]
      | cons r l ih =>
        intro k a
        by_cases hr : rgE r = 0
        · simp only [fldx, hr, ne_eq, not_true_eq_false, if_false, rgsE]
          have := ih (k + 1) (a ++ [⟨r.Lo, 1⟩, ⟨r.Hi + 1, -1⟩])
          simp only [ne_eq] at this
          rw [this, edgs]
          simp
        · simp [fldx, hr, rgsE, mapR]
    rw [show (([] : List locate_edge), (0 : Int)) = (([] : List locate_edge), ((0 : Nat) : Int)) from rfl, h.1, key, List.nil_append]
  · intro k hk a ha
    have e : locate_Fused_s0 l (a, (k : Int)) = (bif !decide (rgE l[k] = 0) then some (.inr (.inl (([] : List Range), rgE l[k]))) else some (.inl (a ++ [⟨l[k].Lo, 1⟩, ⟨w64 (l[k].Hi + 1), -1⟩], ((k + 1 : Nat) : Int)))) := by
      unfold locate_Fused_s0
      simp only
      rw [lt_nat hk, idx_nat hk, w64n k (by omega)]
      simp only [Option.bind_some, cond_true, placesErr_ok]
      rw [app_ok (by rw [ha]; simp; omega)]
      rfl
    show (∃ r, _ ∧ locate_Fused_s0 l (a, (k : Int)) = _) ∨ (∃ a', _ ∧ locate_Fused_s0 l (a, (k : Int)) = _ ∧ _)
    rw [e]
    by_cases hr : rgE l[k] = 0
    · have hg := rgE_0.1 hr
      obtain ⟨h1, h2, h3⟩ := hg
      rw [w64_id (by omega)]
      right; exact ⟨a ++ [⟨l[k].Lo, 1⟩, ⟨l[k].Hi + 1, -1⟩], by simp [hr], by simp [hr], by simp; omega⟩
    · left; exact ⟨_, by rw [if_pos hr], by simp [hr]⟩
  · intro a _
    show locate_Fused_s0 l (a, (l.length : Int)) = _
    unfold locate_Fused_s0
    simp only
    rw [lt_nat_no]; rfl
theorem F1_ok {l : List Range} {wrong : Int} {zs : List locate_edge} (hl : l.length ≤ 12) (hw : 0 ≤ wrong ∧ wrong ≤ (l.length : Int) - 1) (hg : ∀ r ∈ l, Okg r) (hz : zs.Perm (edgs l)) (hs : zs.Pairwise fun a b => a.at_ ≤ b.at_) :
    ∃ out, loop (locate_Fused_s1 l wrong zs) (([] : List Range), 0, false, 0) = some out ∧ IsRuns (Fu l wrong) out := by
  have hb : ∀ e ∈ zs, 0 ≤ e.at_ ∧ e.at_ ≤ 1000000001 ∧ -1 ≤ e.by_ ∧ e.by_ ≤ 1 := fun e he => edgs_mem hg (hz.mem_iff.1 he)
  have hcov : ∀ p, esum zs p = cov l p := fun p => by rw [esum_perm hz, edgs_cov hg]
  have hzl : zs.length ≤ 24 := by rw [hz.length_eq, edgs_len]; omega
  have h := loop_fld (step := locate_Fused_s1 l wrong zs) zs (swpF zs ((l.length : Int) - wrong)) (fun a k => (a.1, a.2.1, a.2.2, (k : Int))) (fun a => a.1) (fun a k => Swp (fun p => (l.length : Int) - wrong ≤ esum zs p) zs k a.1 a.2.1 a.2.2) ([], 0, false) ?_ ?_ ?_
  · refine ⟨_, h.1, ?_⟩
    have hS := h.2
    generalize fld (swpF zs ((l.length : Int) - wrong)) 0 ([], 0, false) zs = a at hS ⊢
    have hn : nxt zs zs.length = 3000000000 := by unfold nxt; rw [dif_neg (by omega)]
    have hfar : ¬ (l.length : Int) - wrong ≤ esum zs (2999999999) := by rw [hcov, cov_far hg (by omega)]; omega
    cases hin : a.2.2 with
    | true =>
      exfalso
      obtain ⟨out0, s, _, _, _, h3, h4⟩ := hS.on hin
      rw [hn] at h3 h4
      exact hfar (h4 2999999999 (by omega) (by omega))
    | false =>
      obtain ⟨h1, _⟩ := hS.off hin
      rw [hn] at h1
      refine h1.congr fun p => ?_
      unfold Fu
      rw [hcov]
      refine ⟨fun h => h.1, fun h => ⟨h, ?_⟩⟩
      rcases Int.lt_or_le p 3000000000 with hp | hp
      · exact hp
      · rw [cov_far hg (by omega)] at h; omega
  · refine ⟨by simp [bsum], by simp, fun _ => ⟨⟨List.Pairwise.nil, (fun r hr => by cases hr), fun p => ⟨fun ⟨h1, h2⟩ => ?_, fun ⟨r, hr, _⟩ => by cases hr⟩⟩, fun h1 => ?_⟩, fun hc => by cases hc⟩
    · rw [esum_between hs (k := 0) (by omega) (fun i hi hik => by omega) h2] at h1
      simp [bsum] at h1; omega
    · rw [esum_between hs (k := 0) (by omega) (fun i hi hik => by omega) (by omega)] at h1
      simp [bsum] at h1; omega
  · intro k hk a ha
    refine ⟨?_, swp_step hs hb hk ha⟩
    show locate_Fused_s1 l wrong zs (a.1, a.2.1, a.2.2, (k : Int)) = _
    obtain ⟨out, count, inside⟩ := a
    have hcb : -(k : Int) ≤ count ∧ count ≤ k := by
      have h1 : count = bsum (zs.take k) := ha.count
      have h2 := bsum_bound (l := zs.take k) fun e he => (hb e (List.mem_of_mem_take he)).2.2
      have h3 : (zs.take k).length = k := by rw [List.length_take]; omega
      rw [h3] at h2; omega
    have hbk := hb _ (List.getElem_mem hk)
    have hol : out.length ≤ k := ha.len
    unfold locate_Fused_s1 swpF
    simp only
    rw [lt_nat hk, idx_nat hk, w64n k (by omega), w64_id (x := (l.length : Int) - wrong) (by omega)]
    simp only [Option.bind_some, cond_true]
    rw [w64_id (x := count + zs[k].by_) (by omega), w64_id (x := zs[k].at_ - 1) (by omega)]
    have hcond : ∀ (G : Option ((List Range × Int × Bool × Int) ⊕ List Range)) (H : Option ((List Range × Int × Bool × Int) ⊕ List Range)),
        ((bif decide (((k + 1 : Nat) : Int) < (zs.length : Int)) then idx zs ((k + 1 : Nat) : Int) else some default).bind fun el => bif decide (((k + 1 : Nat) : Int) < (zs.length : Int)) && decide (el.at_ = zs[k].at_) then G else H) = if nxt zs (k + 1) = zs[k].at_ then G else H := by
      intro G H
      by_cases hk1 : k + 1 < zs.length
      · rw [lt_nat hk1, idx_nat hk1]
        unfold nxt
        rw [dif_pos hk1]
        simp only [cond_true, Option.bind_some, Bool.true_and]
        by_cases hq : zs[k + 1].at_ = zs[k].at_
        · simp [hq]
        · simp [hq]
      · have hf : decide (((k + 1 : Nat) : Int) < (zs.length : Int)) = false := by rw [decide_eq_false_iff_not]; omega
        rw [hf]
        unfold nxt
        rw [dif_neg hk1, if_neg (by omega)]
        rfl
    rw [hcond]
    by_cases hq : nxt zs (k + 1) = zs[k].at_
    · rw [if_pos hq, if_pos hq]
    · rw [if_neg hq, if_neg hq]
      by_cases hneed : (l.length : Int) - wrong ≤ count + zs[k].by_
      · simp only [hneed, decide_true, Bool.true_and, Bool.not_true, Bool.false_and, cond_false, not_true_eq_false, false_and, if_false, true_and]
        cases inside with
        | true => simp
        | false => simp only [Bool.not_false, cond_true, if_true]; rw [app_ok (by simp; omega)]; rfl
      · simp only [hneed, decide_false, Bool.false_and, cond_false, Bool.not_false, Bool.true_and, false_and, if_false, not_false_eq_true, true_and]
        cases inside with
        | false => simp
        | true =>
          obtain ⟨out0, s, ho, _⟩ := ha.on rfl
          simp only at ho
          have h0 : 0 < out.length := by rw [ho]; simp
          simp only [cond_true, if_true]
          have hix : idx out (w64 ((out.length : Int) - 1)) = some (out.getD (out.length - 1) rg0) := by
            rw [w64_id (by omega), show (out.length : Int) - 1 = ((out.length - 1 : Nat) : Int) by omega, idx_nat (by omega)]
            simp [List.getD, show out.length - 1 < out.length by omega]
          rw [hix, w64_id (x := (out.length : Int) - 1) (by omega), show ((out.length : Int) - 1).toNat = out.length - 1 by omega]
          rfl
  · intro a _
    show locate_Fused_s1 l wrong zs (a.1, a.2.1, a.2.2, (zs.length : Int)) = _
    unfold locate_Fused_s1
    simp only
    rw [lt_nat_no]; rfl
theorem fuE_0 {l : List Range} {wrong : Int} : fuE l wrong = 0 ↔ (0 < l.length ∧ l.length ≤ 12 ∧ (∀ r ∈ l, Okg r) ∧ 0 ≤ wrong ∧ wrong ≤ (l.length : Int) - 1) := by
  unfold fuE
  by_cases h1 : l.length = 0
  · rw [if_pos h1]; exact ⟨fun h => (by cases h), fun h => by omega⟩
  · rw [if_neg h1]
    by_cases h2 : 12 < (l.length : Int)
    · rw [if_pos h2]; exact ⟨fun h => (by cases h), fun h => by omega⟩
    · rw [if_neg h2]
      by_cases h3 : rgsE l = 0
      · rw [if_neg (by simpa using h3)]
        have hg := rgsE_0.1 h3
        by_cases h4 : 0 ≤ wrong ∧ wrong ≤ (l.length : Int) - 1
        · rw [if_neg (by simpa using h4)]; exact ⟨fun _ => ⟨by omega, by omega, hg, h4⟩, fun _ => rfl⟩
        · rw [if_pos h4]; exact ⟨fun h => (by cases h), fun h => absurd h.2.2.2 h4⟩
      · rw [if_pos h3]; exact ⟨fun h => absurd h h3, fun h => absurd (rgsE_0.2 h.2.2.1) h3⟩
theorem Fused_ok (l : List Range) (wrong : Int) (hl : l.length < 1073741824) :
    ∃ out, locate_Fused_spec l wrong = some (out, fuE l wrong) ∧ (fuE l wrong = 0 → IsRuns (Fu l wrong) out) ∧ (fuE l wrong ≠ 0 → out = []) := by
  unfold locate_Fused_spec
  simp only [unless_ok, Option.bind_some]
  rw [first_ok _ (by simp)]
  simp only [Option.bind_some, frst]
  by_cases h1 : l.length = 0
  · refine ⟨[], ?_, fun h => absurd (fuE_0.1 h).1 (by omega), fun _ => rfl⟩
    unfold fuE
    simp [h1]
  · have h1' : decide (0 < (l.length : Int)) = true := by rw [decide_eq_true_eq]; omega
    simp only [h1', cond_true, if_true]
    by_cases h2 : 12 < (l.length : Int)
    · have h2' : decide ((l.length : Int) ≤ 12) = false := by rw [decide_eq_false_iff_not]; omega
      refine ⟨[], ?_, fun h => absurd (fuE_0.1 h).2.1 (by omega), fun _ => rfl⟩
      unfold fuE
      simp [h1, h2, h2']
    · have h2' : decide ((l.length : Int) ≤ 12) = true := by rw [decide_eq_true_eq]; omega
      simp only [h2', cond_true, if_true, decide_true, Bool.not_true, cond_false]
      rw [F0_ok l (by omega)]
      simp only [Option.bind_some]
      by_cases h3 : rgsE l = 0
      · have hg := rgsE_0.1 h3
        simp only [h3, ne_eq, not_true_eq_false, if_false, jn0, within_ok, Option.bind_some]
        rw [w64_id (by omega)]
        by_cases h4 : 0 ≤ wrong ∧ wrong ≤ (l.length : Int) - 1
        · obtain ⟨zs, hz1, hz2, hz3⟩ := sortE_some (xs := edgs l) (fun e he => by have := edgs_mem hg he; omega) (by rw [edgs_len]; omega) (by rw [edgs_len]; omega)
          obtain ⟨out, ho1, ho2⟩ := F1_ok (l := l) (wrong := wrong) (by omega) h4 hg hz2 hz3
          have h0 : fuE l wrong = 0 := fuE_0.2 ⟨by omega, by omega, hg, h4⟩
          refine ⟨out, ?_, fun _ => ho2, fun h => absurd h0 h⟩
          simp only [h4.1, h4.2, decide_true, Bool.and_self, Bool.not_true, cond_false]
          rw [hz1, Option.bind_some, ho1, h0]; rfl
        · have h4' : (decide (0 ≤ wrong) && decide (wrong ≤ (l.length : Int) - 1)) = false := by rw [Bool.eq_false_iff]; simp only [ne_eq, Bool.and_eq_true, decide_eq_true_eq]; exact h4
          refine ⟨[], ?_, fun h => absurd (fuE_0.1 h).2.2.2 h4, fun _ => rfl⟩
          unfold fuE
          rw [if_neg h1, if_neg h2, if_neg (by simpa using h3), if_pos h4]
          simp [h4']
      · refine ⟨[], ?_, fun h => absurd (rgsE_0.2 (fuE_0.1 h).2.2.1) h3, fun _ => rfl⟩
        unfold fuE
        rw [if_neg h1, if_neg h2, if_pos h3]
        simp [h3, jn0]
end Go.Gw
