/- TopLevitateGapsKept answers true. Condition: none. -/
import Derived.Test.YtglaeocolbnpdaaGwLev7
import Derived.Test.YtglaeocolbnpdaaGwLawTopLevitateGapsKept
set_option maxRecDepth 8192
set_option linter.unusedSimpArgs false
set_option linter.unusedVariables false
namespace Go.Gw
open Go

def lsP (p : LevitatePlant) : LevitatePlant := ⟨p.Den, p.Maps.take 1, p.Noise.map fun n => n / 2⟩
theorem lsP_n (p : LevitatePlant) : (lsP p).Noise.length = p.Noise.length := by simp [lsP]
theorem lsP_noise {p : LevitatePlant} {k : Nat} (h : k < p.Noise.length) : gi (lsP p).Noise k = gi p.Noise k / 2 := by
  rw [← gi_eq (by rw [lsP_n]; exact h), ← gi_eq h]; simp [lsP]
theorem lsP_m {p : LevitatePlant} (h : Rp p) : (lsP p).Maps.length = 1 := by have := h.m1; simp [lsP]; omega
theorem lsP_gm {p : LevitatePlant} (h : Rp p) {m : Nat} (hm : m < (lsP p).Maps.length) : gm (lsP p) m = gm p m ∧ m < p.Maps.length := by
  rw [lsP_m h] at hm
  have h1 := h.m1
  refine ⟨?_, by omega⟩
  obtain rfl : m = 0 := by omega
  rw [← gm_eq (by rw [lsP_m h]; omega), ← gm_eq (by omega)]; simp [lsP]
theorem lsP_right {p : LevitatePlant} (h : Rp p) : Rp (lsP p) where
  den := h.den
  n1 := by rw [lsP_n]; exact h.n1
  n3 := by rw [lsP_n]; exact h.n3
  noise := fun x hx => by
    obtain ⟨y, hy, rfl⟩ := List.mem_map.1 hx
    have := h.noise y hy
    omega
  m1 := by rw [lsP_m h]; omega
  m4 := by rw [lsP_m h]; omega
  sq := fun m hm => by rw [lsP_n]; exact h.sq m (List.mem_of_mem_take hm)
  row := fun m hm => by rw [lsP_n]; exact h.row m (List.mem_of_mem_take hm)
  ent := fun m hm => h.ent m (List.mem_of_mem_take hm)
theorem lsP_need {p : LevitatePlant} (h : Rp p) {m i : Nat} (hm : m < (lsP p).Maps.length) (hi : i < p.Noise.length) (box : List Int) : needI (lsP p) m i box ≤ needI p m i box := by
  have hg := (lsP_gm h hm).1
  have hn := h.noise_b hi
  have e : reach (lsP p) m i box = reach p m i box := by
    unfold reach ge
    rw [lsP_n, hg]
  unfold needI
  rw [e, lsP_noise hi]
  show (reach p m i box + p.Den - 1) / p.Den + gi p.Noise i / 2 ≤ _
  omega
theorem lsP_prf {p : LevitatePlant} {f : List (List Int)} {r : Arr2_Int} {L : Int} (h : Prf p f r L) : Prf (lsP p) f r L where
  rp := lsP_right h.rp
  rf := h.rf
  len := by rw [lsP_n]; exact h.len
  rr := h.rr
  pos := h.pos
  les := fun m hm => by
    obtain ⟨hg, hm'⟩ := lsP_gm h.rp hm
    have e : dM (lsP p) m f r = dM p m f r := by
      unfold dM dI imI ge
      rw [lsP_n, hg]; rfl
    rw [e, lsP_n]; exact h.les m hm'
  lev := h.lev
  kpt := by
    have hk := h.kpt
    have hw : worstI (lsP p) f ≤ worstI p f := by
      obtain ⟨⟨s, _, he⟩, _⟩ := wst_max (fun s => valI (lsP p).Noise.length f (xv (lsP p) s)) (2 ^ (lsP p).Noise.length) (Nat.pow_pos (by decide))
      unfold worstI at *
      rw [he, lsP_n]
      have := val_worst h.n1 h.rp.n3 h.sym h.psd (D := 1) (e := gi (xv (lsP p) s)) fun k hk => by
        have hn := h.rp.noise_b hk
        unfold xv
        rw [gi_tab (by rw [lsP_n]; exact hk), lsP_noise hk]
        have hd : 0 ≤ gi p.Noise k / 2 ∧ gi p.Noise k / 2 ≤ gi p.Noise k := by omega
        generalize gi p.Noise k / 2 = y at hd ⊢
        rcases sgn_pm s k with e | e <;> rw [e] <;> omega
      unfold worstI at this
      have h2 : valI p.Noise.length f (xv (lsP p) s) = valF p.Noise.length f (gi (xv (lsP p) s)) := rfl
      rw [h2]; omega
    have hw0 : 0 ≤ worstI (lsP p) f := by
      obtain ⟨⟨s, _, he⟩, _⟩ := wst_max (fun s => valI (lsP p).Noise.length f (xv (lsP p) s)) (2 ^ (lsP p).Noise.length) (Nat.pow_pos (by decide))
      unfold worstI; rw [he, lsP_n]; exact h.psd _
    have hr := h.rr
    have hr0 := hr.e0
    have hr1 := hr.e1
    have hl := h.lev
    unfold kptB at hk ⊢
    simp only [Bool.and_eq_true, decide_eq_true_eq] at hk ⊢
    have h1 : r.e1 * worstI (lsP p) f ≤ r.e1 * worstI p f := Int.mul_le_mul_of_nonneg_left hw (by omega)
    have h2 : 4 * r.e0 * r.e1 * L * worstI (lsP p) f ≤ 4 * r.e0 * r.e1 * L * worstI p f := Int.mul_le_mul_of_nonneg_left hw (Int.mul_nonneg (Int.mul_nonneg (by omega) (by omega)) hl.1)
    refine ⟨by omega, Int.le_trans h2 (Int.le_trans hk.2 ?_)⟩
    have h3 : (r.e1 - r.e0) * L - r.e1 * worstI p f ≤ (r.e1 - r.e0) * L - r.e1 * worstI (lsP p) f := by omega
    exact Int.mul_le_mul h3 h3 hk.1 (by omega)
theorem Prf.run {p : LevitatePlant} {f : List (List Int)} {r : Arr2_Int} {L : Int} (h : Prf p f r L) : ∀ {l : List LevitateSample} {x : List Int} {ys : List (List Int)}, (∀ s ∈ l, Sm p s) → valI p.Noise.length f x ≤ L → rnV p x l = some ys → ∀ y ∈ ys, valI p.Noise.length f y ≤ L
  | [], _, _, _, _, he => by cases he; exact fun _ h => nomatch h
  | s :: l, x, ys, hs, hv, he => by
    rw [rnV] at he
    have h1 := h.step (hs s (by simp)) hv
    split at he
    · cases h2 : rnV p (stepI p x s) l with
      | none => rw [h2] at he; cases he
      | some zs =>
        rw [h2] at he
        cases he
        intro y hy
        rcases List.mem_cons.1 hy with rfl | hy
        · exact h1
        · exact h.run (l := l) (fun s' hs' => hs s' (by simp [hs'])) h1 h2 y hy
    · cases he
theorem half_ok (l : List Int) (hl : l.length < 1000000) (hb : ∀ x ∈ l, 0 ≤ x ∧ x ≤ 10000) : loop guidewaytop_TopLevitateGapsKept_s0 (0, l) = some (l.map fun n => n / 2) := by
  have key : ∀ j k (b : List Int), j + k = l.length → b.length = l.length → (∀ i, i < l.length → gi b i = if i < k then gi l i / 2 else gi l i) → loop guidewaytop_TopLevitateGapsKept_s0 ((k : Int), b) = some (l.map fun n => n / 2) := by
    intro j
    induction j with
    | zero =>
      intro k b hk hb' hg
      have e : b = l.map fun n => n / 2 := list_ext_gi (by simp [hb']) fun i hi => by
        rw [hg i (by omega), if_pos (show i < k by omega), ← gi_eq (show i < (l.map fun n => n / 2).length by simp; omega), ← gi_eq (show i < l.length by omega)]; simp
      refine loop_inr ?_
      unfold guidewaytop_TopLevitateGapsKept_s0
      dsimp only
      have : k = b.length := by omega
      rw [this, lt_nat_no, ← e]; rfl
    | succ j ih =>
      intro k b hk hb' hg
      have hlt : k < l.length := by omega
      have hx := hb _ (gi_mem hlt)
      have st : guidewaytop_TopLevitateGapsKept_s0 ((k : Int), b) = some (.inl (((k + 1 : Nat) : Int), b.set k (gi l k / 2))) := by
        unfold guidewaytop_TopLevitateGapsKept_s0
        dsimp only
        rw [lt_nat (by omega), cond_true, idx_gi (by omega), Option.bind_some, Option.bind_some, w64n k (by omega), hg k hlt, if_neg (Nat.lt_irrefl k), Int.toNat_natCast, Int.tdiv_eq_ediv_of_nonneg hx.1, w64_id (by omega)]
      rw [loop_inl st]
      refine ih (k + 1) _ (by omega) (by simp [hb']) fun i hi => ?_
      rw [gi_set (by omega)]
      by_cases hik : k = i
      · subst hik; rw [if_pos rfl, if_pos (Nat.lt_succ_self k)]
      · rw [if_neg hik, hg i hi]
        by_cases hi2 : i < k
        · rw [if_pos hi2, if_pos (show i < k + 1 by omega)]
        · rw [if_neg hi2, if_neg (show ¬ i < k + 1 by omega)]
  exact key l.length 0 l (by omega) rfl fun i hi => by rw [if_neg (Nat.not_lt_zero i)]
theorem cut1_ok {α : Type} (l : List α) (h : 1 ≤ l.length) : cut l 0 1 = some (l.take 1) := by
  unfold cut
  rw [if_pos (by omega)]; rfl
theorem TopLevitateGapsKept_true (p : LevitatePlant) (pr : LevitateProof) (l : List LevitateSample) : guidewaytop_TopLevitateGapsKept_spec p pr l = some true := by
  refine Runs.eq ?_
  unfold guidewaytop_TopLevitateGapsKept_spec
  refine Runs.call levitated_ok ?_
  refine Runs.bif_f rfl ?_
  refine Runs.callR (Few_run p) fun b1 hb1 => ?_
  cases b1 with
  | false => simp only [Bool.not_false, Bool.true_or, Bool.or_true, Bool.not_true, cond_false, cond_true, Option.bind_some]; exact Runs.some rfl
  | true =>
  have hsh := sh_few (hb1 rfl)
  simp only [Bool.not_true, Bool.not_false, cond_true, Bool.false_or]
  refine Runs.call (rPlantErr_ok p hsh) ?_
  by_cases h0 : (ckP p).2 = 0
  case neg => rw [decide_eq_false h0]; simp only [Bool.not_false, Bool.true_or, Bool.or_true, Bool.not_true, cond_false, cond_true, Option.bind_some]; exact Runs.some rfl
  rw [decide_eq_true h0]
  have hp := ckP_right.1 h0
  have hn1 := hp.n1
  have hn3 := hp.n3
  rw [len_dec]
  by_cases hfn : pr.Form.length = p.Noise.length
  case neg => rw [decide_eq_false hfn]; simp only [Bool.not_false, Bool.true_or, Bool.or_true, Bool.not_true, cond_false, cond_true, Option.bind_some]; exact Runs.some rfl
  rw [decide_eq_true hfn]
  simp only [Bool.not_true, Bool.not_false, cond_true, Bool.false_or, Bool.or_self]
  refine Runs.call (rFormErr_ok pr.Form (by omega)) ?_
  by_cases h1 : frmE pr.Form = 0
  case neg => rw [decide_eq_false h1]; simp only [Bool.not_false, Bool.true_or, Bool.or_true, Bool.not_true, cond_false, cond_true, Option.bind_some]; exact Runs.some rfl
  rw [decide_eq_true h1]
  have hrf := frmE_right.1 h1
  simp only [Bool.not_true, Bool.not_false, cond_true, Bool.false_or]
  by_cases hl20 : 20 < (l.length : Int)
  · rw [decide_eq_true hl20]; simp only [Bool.not_false, Bool.true_or, Bool.or_true, Bool.not_true, cond_false, cond_true, Option.bind_some]; exact Runs.some rfl
  rw [decide_eq_false hl20]
  simp only [Bool.not_true, Bool.not_false, cond_true, Bool.false_or]
  refine Runs.call (rSamplesErr_any hp (by omega)) ?_
  by_cases h3 : smsE p l = 0
  case neg => rw [decide_eq_false h3]; exact Runs.some rfl
  rw [decide_eq_true h3]
  have hsm := smsE_right.1 h3
  have hrl : ∀ r ∈ pr.Form, r.length ≤ 1073741824 := fun r hr => by
    obtain ⟨i, hi, rfl⟩ := List.mem_iff_getElem.1 hr
    rw [gr_eq hi, hrf.sq.row i hi]; omega
  refine Runs.bif_f rfl ?_
  refine Runs.call (CopyPlant_ok p hsh) ?_
  refine Runs.call (CopyLists_ok pr.Form (by omega) hrl) ?_
  refine Runs.call (CheckProof_ok (x := ⟨pr.Form, pr.Rate, pr.Level⟩) hp hrf hfn) ?_
  change Runs (bif (!decide ((cpV p pr).2 = 0)) then _ else _) _
  by_cases h4 : (cpV p pr).2 = 0
  case neg =>
    rw [decide_eq_false h4]
    refine Runs.bif_t rfl (Runs.some ?_)
    have : (cpV p pr).1 = [] := by
      revert h4
      unfold cpV
      split
      · split
        · split
          · intro h; exact absurd rfl h
          · intro _; rfl
        · intro _; rfl
      · intro _; rfl
    change decide (((cpV p pr).1.length : Int) = 0) = true
    rw [this]; rfl
  have hprf := cpV_prf hp hrf hfn h4
  have hcp : cpV p ⟨pr.Form, pr.Rate, pr.Level⟩ = (bndL pr.Form pr.Level, 0) := hprf.cp
  have hbl := bndL_len pr.Form pr.Level
  rw [hcp]
  refine Runs.bif_f rfl ?_
  refine Runs.bif_f (by simp; omega) ?_
  refine Runs.call (CopyPlant_ok p hsh) ?_
  refine Runs.call (cut1_ok p.Maps hp.m1) ?_
  refine Runs.call (half_ok p.Noise (by omega) hp.noise) ?_
  have hls := lsP_right hp
  have hlsh : Sh (lsP p) := hls.sh
  have hlp := lsP_prf hprf
  refine Runs.call (CopyPlant_ok (lsP p) hlsh) ?_
  refine Runs.call (CopyLists_ok pr.Form (by omega) hrl) ?_
  refine Runs.call (CheckProof_ok (x := ⟨pr.Form, pr.Rate, pr.Level⟩) hls hrf (by rw [lsP_n]; exact hfn)) ?_
  have hcq : cpV (lsP p) ⟨pr.Form, pr.Rate, pr.Level⟩ = (bndL pr.Form pr.Level, 0) := hlp.cp
  rw [hcq]
  simp only [decide_true, Bool.not_true, Bool.not_false, cond_true, Bool.false_or]
  refine Runs.call (Ints_ok _ _ (by omega)) ?_
  rw [decide_eq_true rfl]
  refine Runs.bif_f rfl ?_
  refine Runs.call (mk_ok (by omega)) ?_
  have hz : Bx p (List.replicate p.Noise.length 0) := ⟨by simp, fun k hk => by rw [gi_rep]; omega, fun k hk => by rw [gi_rep]; omega⟩
  refine Runs.call (CopyPlant_ok p hsh) ?_
  refine Runs.call (CopyInts_ok _ (by simp; omega)) ?_
  refine Runs.callR (lLeastBox_ok hp hz) fun b hb => ?_
  -- the run
  have hzs : Stt p (List.replicate p.Noise.length 0) := ⟨by simp, fun k hk => by rw [gi_rep]; omega⟩
  have hzv : valI p.Noise.length pr.Form (List.replicate p.Noise.length 0) ≤ pr.Level := by
    have e : valI p.Noise.length pr.Form (List.replicate p.Noise.length 0) = 0 := by
      unfold valI
      have : sumN (fun i => gi (List.replicate p.Noise.length 0) i * sumN (fun k => g2 pr.Form i k * gi (List.replicate p.Noise.length 0) k) p.Noise.length) p.Noise.length = sumN (fun _ => 0) p.Noise.length := sumN_congr fun i _ => by rw [gi_rep, Int.zero_mul]
      rw [this]
      have gen : ∀ n, sumN (fun _ => 0) n = 0 := by
        intro n; induction n with
        | zero => rfl
        | succ n ih => simp only [sumN, ih]; rfl
      exact gen _
    rw [e]; exact hprf.lev.1
  have hop : opR p (List.replicate p.Noise.length 0) l = 0 := by
    unfold opR
    rw [if_neg (by simpa using h0), if_neg (by simpa using stE_right.2 hzs), if_neg (by omega), h3]
  have tail : b.2 ≠ 0 ∧ b = ([], 24) ∧ LbNo p (List.replicate p.Noise.length 0) ∨ b.2 = 0 ∧ LbOk p (List.replicate p.Noise.length 0) b.1 := by
    rcases hb with hb | ⟨hb, hb2⟩
    · exact .inr hb
    · exact .inl ⟨by rw [hb]; decide, hb, hb2⟩
  have fin : Runs (Option.bind (ref02_CopyPlant_spec p) fun r886 => (Option.bind (base_CopyInts_spec (List.replicate p.Noise.length 0)) fun r899 => (Option.bind (ref02_CopySamples_spec l) fun r908 => (Option.bind (levitate_Excursion_spec r886 r899 r908) fun r918 => (bif (!decide (r918.2 = 0)) then ( some ((decide (r918.2 = 24)) && (decide (b.2 = 24))) ) else ( (bif (!decide ((r918.1.length : Int) = ((bndL pr.Form pr.Level).length : Int))) then ( some false ) else ( (Option.bind (loop (guidewaytop_TopLevitateGapsKept_s1 (bndL pr.Form pr.Level, 0) b r918) 0) fun o1080 => jn0 o1080 fun (_ : Unit) => some true ) )) ))))) ) (· = true) := by
    refine Runs.call (CopyPlant_ok p hsh) ?_
    refine Runs.call (CopyInts_ok _ (by simp; omega)) ?_
    refine Runs.call (CopySamples_ok l (by omega) (fun s hs => by have := (hsm s hs).len; omega)) ?_
    refine Runs.call (lExc_ok hsh (by simp; omega) (by omega) (fun s hs => by have := (hsm s hs).len; omega)) ?_
    cases hr : rnV p (List.replicate p.Noise.length 0) l with
    | none =>
      have he : (excR p (List.replicate p.Noise.length 0) l).2 = 24 := by
        unfold excR runR
        rw [if_pos hop, hr]
        rfl
      rw [he]
      refine Runs.bif_t rfl (Runs.some ?_)
      rcases tail with ⟨_, hb2, _⟩ | ⟨h2, hok⟩
      · rw [hb2]; rfl
      · exfalso
        have hbx : Bx p b.1 := ⟨hok.len, fun k hk => by have := hok.from_ k (by rw [← hok.len]; exact hk); rw [gi_rep] at this; exact this, fun k hk => hok.le k (by rw [← hok.len]; exact hk)⟩
        obtain ⟨ys, hy, _⟩ := run_in hp hbx hok.kept (l := l) (x := List.replicate p.Noise.length 0) hsm fun k hk => by
          have := hok.from_ k hk; rw [gi_rep] at this ⊢; omega
        rw [hr] at hy; cases hy
    | some ys =>
      have hrr : runR p (List.replicate p.Noise.length 0) l = (ys, 0) := by unfold runR; rw [if_pos hop, hr]; rfl
      have he : excR p (List.replicate p.Noise.length 0) l = (tab p.Noise.length fun i => mxS 0 (ys ++ [List.replicate p.Noise.length 0]) i, 0) := by
        unfold excR; rw [hrr]; simp
      have hyl := rnV_len hr
      have hyv := hprf.run hsm hzv hr
      rw [he]
      refine Runs.bif_f rfl ?_
      refine Runs.bif_f (by simp [tab_len, hbl, hfn]) ?_
      refine Runs.callR (R := fun o => o = .inr ()) ?_ (fun o ho => by subst ho; exact Runs.jr (Runs.some rfl))
      refine Runs.loop (fun s => ∃ k : Nat, s = (k : Int) ∧ k ≤ p.Noise.length) (fun s => p.Noise.length - s.toNat) ⟨0, rfl, Nat.zero_le _⟩ ?_
      rintro _ ⟨k, rfl, hk⟩
      unfold guidewaytop_TopLevitateGapsKept_s1
      dsimp only
      rw [tab_len]
      by_cases hlt : k < p.Noise.length
      · have hbnd := hprf.bnd hlt
        have hm1 : mxS 0 (ys ++ [List.replicate p.Noise.length 0]) k ≤ bndV (pr.Level * detL pr.Form (butL pr.Form.length k)) (detL pr.Form (List.range pr.Form.length)) := by
          rcases (mxS_char (ys ++ [List.replicate p.Noise.length 0]) 0 k).2.2 with h | ⟨y, hy, h⟩
          · rw [h]; exact hbnd.1
          · rw [h]
            rcases List.mem_append.1 hy with hy | hy
            · have hs := hyl.2 y hy
              have h5 := hs.bd k hlt
              have := hbnd.2.2 (gi y) (hyv y hy) (by omega)
              omega
            · rcases List.mem_singleton.1 hy with rfl
              rw [gi_rep]; exact hbnd.1
        rw [lt_nat hlt, cond_true, idx_gi (by rw [tab_len]; exact hlt), Option.bind_some, idx_gi (by omega), Option.bind_some, gi_tab hlt, gi_bndL (by omega), decide_eq_false (by omega)]
        simp only [Bool.not_false, Bool.true_and, Bool.false_or]
        rcases tail with ⟨h2, _⟩ | ⟨h2, hok⟩
        · rw [decide_eq_false h2]
          simp only [cond_false, Option.bind_some, Bool.false_and, w64n k (show k < 4611686018427387904 by omega)]
          exact Runs.some ⟨⟨k + 1, rfl, by omega⟩, by dsimp only; omega⟩
        · have hbx : Bx p b.1 := ⟨hok.len, fun k hk => by have := hok.from_ k (by rw [← hok.len]; exact hk); rw [gi_rep] at this; exact this, fun k hk => hok.le k (by rw [← hok.len]; exact hk)⟩
          obtain ⟨zs, hy, hin⟩ := run_in hp hbx hok.kept (l := l) (x := List.replicate p.Noise.length 0) hsm fun k hk => by
            have := hok.from_ k hk; rw [gi_rep] at this ⊢; omega
          rw [hr] at hy; cases hy
          have hb0 : 0 ≤ gi b.1 k := by have := hok.from_ k hlt; rw [gi_rep] at this; exact this
          have hm2 : mxS 0 (ys ++ [List.replicate p.Noise.length 0]) k ≤ gi b.1 k := by
            rcases (mxS_char (ys ++ [List.replicate p.Noise.length 0]) 0 k).2.2 with h | ⟨y, hy, h⟩
            · rw [h]; exact hb0
            · rw [h]
              rcases List.mem_append.1 hy with hy | hy
              · have := (hin y hy).2 k hlt
                omega
              · rcases List.mem_singleton.1 hy with rfl
                rw [gi_rep]; exact hb0
          rw [decide_eq_true h2]
          simp only [cond_true, Option.bind_some]
          rw [idx_gi (by rw [hok.len]; exact hlt), Option.bind_some, decide_eq_false (by omega), w64n k (by omega)]
          exact Runs.some ⟨⟨k + 1, rfl, by omega⟩, by dsimp only; omega⟩
      · obtain rfl : k = p.Noise.length := by omega
        rw [lt_nat_no]; exact Runs.some rfl
  rcases tail with ⟨h2, _⟩ | ⟨h2, hok⟩
  · rw [decide_eq_false h2]
    exact Runs.call rfl (Runs.jr fin)
  · have hbx : Bx p b.1 := ⟨hok.len, fun k hk => by have := hok.from_ k (by rw [← hok.len]; exact hk); rw [gi_rep] at this; exact this, fun k hk => hok.le k (by rw [← hok.len]; exact hk)⟩
    rw [decide_eq_true h2]
    refine Runs.call (b := .inr ()) ?_ (Runs.jr fin)
    have hbl2 := hok.len
    have hbq : Bx (lsP p) b.1 := ⟨by rw [lsP_n]; exact hok.len, hbx.ge, hbx.le⟩
    have hbk : brk (lsP p) b.1 = none := by
      cases hbr : brk (lsP p) b.1 with
      | none => rfl
      | some mi =>
        obtain ⟨m, i⟩ := mi
        obtain ⟨hm, hi, hlt⟩ := brk_some hbr
        have h5 := lsP_need hp hm (i := i) (by omega) b.1
        have h6 := hok.kept m (lsP_gm hp hm).2 i (by omega)
        omega
    rw [cond_true, rBoxErr_ok p b.1 (by omega), Option.bind_some, bxE_right.2 hbx]
    simp only [decide_true, Bool.not_true, cond_false]
    change Option.bind (ref02_CopyPlant_spec (lsP p)) _ = _
    rw [CopyPlant_ok (lsP p) hlsh, Option.bind_some, CopyInts_ok _ (by omega), Option.bind_some, CheckBox_ok hlsh (by omega), Option.bind_some]
    unfold cbV
    rw [if_pos (opB_zero hls hbq), hbk]
    rfl
end Go.Gw
