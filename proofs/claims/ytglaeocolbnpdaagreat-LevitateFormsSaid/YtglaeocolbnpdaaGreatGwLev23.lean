/- Laws of the walk. Condition: each theorem says its own. -/
import Derived.Test.YtglaeocolbnpdaaGreatGwLev7
section
set_option maxRecDepth 8192
set_option linter.unusedSimpArgs false
set_option linter.unusedVariables false
namespace Go.Gw
open Go

theorem Qip {l : List Int} {j : Nat} {v : Int} (hj : j < l.length) : ∀ n, Q2 (l.set j v) n = if j < n then Q2 l n + (v - gi l j) * bw j else Q2 l n
  | 0 => by simp [Q2, QY]
  | n + 1 => by
    have ih := Qip (v := v) hj n
    unfold Q2 at ih ⊢
    simp only [QY]
    rw [ih, J8 hj]
    by_cases h1 : j < n
    · rw [if_pos h1, if_pos (show j < n + 1 by omega), if_neg (show ¬ j = n by omega)]; omega
    · rw [if_neg h1]
      by_cases h2 : j = n
      · subst h2; rw [if_pos rfl, if_pos (show j < j + 1 by omega), Int.sub_mul]; omega
      · rw [if_neg h2, if_neg (show ¬ j < n + 1 by omega)]
theorem Qnj {l : List Int} {j : Nat} {v : Int} (h : Dg l) (hj : j < l.length) (hv : 0 ≤ v ∧ v ≤ 999999999) : Dg (l.set j v) := fun k => by
  rw [J8 hj]
  split
  · exact hv
  · exact h k
theorem Qyk {a b : guidewaybase_Wide} (ha : Dg a.Digits) (hb : Dg b.Digits) {i n : Nat} {O : List Int} (hi : i < a.Digits.length) (hn : n = a.Digits.length + b.Digits.length + 1) (hN : n < 100000) (hO : O.length = n) (hd : Dg O) (hz : ∀ t, i + b.Digits.length ≤ t → gi O t = 0) :
    Runs (loop (Qih a b (i : Int)) (O, 0, 0)) fun r => r.1.length = n ∧ Dg r.1 ∧ (0 ≤ r.2 ∧ r.2 ≤ 999999999) ∧ (∀ t, i + b.Digits.length ≤ t → gi r.1 t = 0) ∧ Q2 r.1 n + r.2 * bw (i + b.Digits.length) = Q2 O n + gi a.Digits i * bw i * dv b.Digits := by
  refine Runs.loop (fun s => ∃ k : Nat, s.2.2 = (k : Int) ∧ k ≤ b.Digits.length ∧ s.1.length = n ∧ Dg s.1 ∧ (0 ≤ s.2.1 ∧ s.2.1 ≤ 999999999) ∧ (∀ t, i + b.Digits.length ≤ t → gi s.1 t = 0) ∧ Q2 s.1 n + s.2.1 * bw (i + k) = Q2 O n + gi a.Digits i * bw i * Q2 b.Digits k) (fun s => b.Digits.length - s.2.2.toNat)
    ⟨0, rfl, Nat.zero_le _, hO, hd, by show (0 : Int) ≤ 0 ∧ (0 : Int) ≤ 999999999; decide, hz, by simp [Q2, QY]⟩ ?_
  rintro ⟨o, cr, _⟩ ⟨k, rfl, hk, ho, hod, hcr, hoz, hv⟩
  dsimp only at ho hod hcr hoz hv
  unfold Qih
  dsimp only
  by_cases hlt : k < b.Digits.length
  · have hda := ha i
    have hdb := hb k
    have hdo := hod (i + k)
    have e0 : w64 ((i : Int) + (k : Int)) = ((i + k : Nat) : Int) := by rw [Xd (by omega)]; omega
    have hab : 0 ≤ gi a.Digits i * gi b.Digits k ∧ gi a.Digits i * gi b.Digits k ≤ 999999998000000001 := by
      refine ⟨Int.mul_nonneg hda.1 hdb.1, ?_⟩
      exact Int.mul_le_mul (c := (999999999 : Int)) (d := 999999999) hda.2 hdb.2 hdb.1 (by decide)
    rw [Xj hlt, cond_true, e0, XJ (by omega), Option.bind_some, XJ hi, Option.bind_some, XJ hlt, Option.bind_some, Option.bind_some, Xd (x := gi a.Digits i * gi b.Digits k) (by omega), Xd (x := gi o (i + k) + gi a.Digits i * gi b.Digits k) (by omega), Xd (x := gi o (i + k) + gi a.Digits i * gi b.Digits k + cr) (by omega), Int.toNat_natCast]
    generalize hs : gi o (i + k) + gi a.Digits i * gi b.Digits k + cr = s
    have e1 : Int.tmod s 1000000000 = s % 1000000000 := Int.tmod_eq_emod_of_nonneg (by omega)
    have e2 : Int.tdiv s 1000000000 = s / 1000000000 := Int.tdiv_eq_ediv_of_nonneg (by omega)
    have h4 := Int.mul_ediv_add_emod s 1000000000
    rw [e1, e2, Xd (by omega), Xe k (by omega)]
    refine Runs.some ⟨⟨k + 1, rfl, by omega, by simp [ho], Qnj hod (by omega) (by omega), by dsimp only; omega, fun t ht => ?_, ?_⟩, by dsimp only; omega⟩
    · dsimp only
      rw [J8 (by omega), if_neg (by omega)]; exact hoz t ht
    · dsimp only
      rw [Qip (by omega), if_pos (by omega)]
      have u1 : Q2 b.Digits (k + 1) = Q2 b.Digits k + gi b.Digits k * bw k := rfl
      have u2 : bw (i + (k + 1)) = bw (i + k) * 1000000000 := rfl
      have u3 : bw (i + k) = bw i * bw k := Qik i k
      rw [u1, u2]
      have e5 : s * bw (i + k) = 1000000000 * (s / 1000000000) * bw (i + k) + s % 1000000000 * bw (i + k) := by rw [← Int.add_mul, h4]
      have e6 : s * bw (i + k) = gi o (i + k) * bw (i + k) + gi a.Digits i * gi b.Digits k * bw (i + k) + cr * bw (i + k) := by rw [← hs, Int.add_mul, Int.add_mul]
      have e7 : gi a.Digits i * bw i * (Q2 b.Digits k + gi b.Digits k * bw k) = gi a.Digits i * bw i * Q2 b.Digits k + gi a.Digits i * gi b.Digits k * bw (i + k) := by rw [u3]; grind
      have e8 : s / 1000000000 * (bw (i + k) * 1000000000) = 1000000000 * (s / 1000000000) * bw (i + k) := by grind
      have e9 : (s % 1000000000 - gi o (i + k)) * bw (i + k) = s % 1000000000 * bw (i + k) - gi o (i + k) * bw (i + k) := Int.sub_mul ..
      rw [e7, e8, e9]; omega
  · obtain rfl : k = b.Digits.length := by omega
    rw [Xl]
    exact Runs.some ⟨ho, hod, hcr, hoz, hv⟩
theorem Qtf {N M : Nat} {a b : guidewaybase_Wide} {x y : Int} (ha : WV N a x) (hb : WV M b y) (hN : N < 10000) (hM : M < 10000) : Runs (Qdv a b) fun c => WV (N + M + 1) c (x * y) := by
  have la := ha.ln
  have lb := hb.ln
  obtain ⟨n, hn⟩ : ∃ n, n = a.Digits.length + b.Digits.length + 1 := ⟨_, rfl⟩
  unfold Qdv
  have e0 : w64 (w64 ((a.Digits.length : Int) + (b.Digits.length : Int)) + 1) = (n : Int) := by rw [Xd (x := (a.Digits.length : Int) + (b.Digits.length : Int)) (by omega), Xd (by omega)]; omega
  rw [e0]
  refine Runs.call (Qyh (by omega)) ?_
  refine Runs.callR (R := fun o => o.length = n ∧ Dg o ∧ Q2 o n = dv a.Digits * dv b.Digits) ?_ fun o ho => ?_
  · refine Runs.loop (fun s => ∃ i : Nat, s.2 = (i : Int) ∧ i ≤ a.Digits.length ∧ s.1.length = n ∧ Dg s.1 ∧ (∀ t, i + b.Digits.length ≤ t → gi s.1 t = 0) ∧ Q2 s.1 n = Q2 a.Digits i * dv b.Digits) (fun s => a.Digits.length - s.2.toNat)
      ⟨0, rfl, Nat.zero_le _, by simp, fun k => by rw [Qiz]; omega, fun t _ => Qiz, by
        have : Q2 (List.replicate n 0) n = Q2 (List.replicate n 0) (0 + n) := by rw [Nat.zero_add]
        show Q2 (List.replicate n 0) n = _
        rw [this, Qek n fun k _ _ => Qiz]
        show (0 : Int) = 0 * _
        rw [Int.zero_mul]⟩ ?_
    rintro ⟨o, _⟩ ⟨i, rfl, hi, ho, hod, hoz, hv⟩
    dsimp only at ho hod hoz hv
    unfold Qmu
    dsimp only
    by_cases hlt : i < a.Digits.length
    · rw [Xj hlt, cond_true]
      refine Runs.callR (Qyk ha.dg hb.dg hlt hn (by omega) ho hod hoz) fun r hr => ?_
      obtain ⟨r1, r2, r3, r4, r5⟩ := hr
      have e1 : w64 ((i : Int) + (b.Digits.length : Int)) = ((i + b.Digits.length : Nat) : Int) := by rw [Xd (by omega)]; omega
      have hz := r4 (i + b.Digits.length) (Nat.le_refl _)
      rw [e1, XJ (by omega), Option.bind_some, Option.bind_some, hz, Int.zero_add, Xd (by omega), Int.toNat_natCast, Xe i (by omega)]
      refine Runs.some ⟨⟨i + 1, rfl, by omega, by simp [r1], Qnj r2 (by omega) r3, fun t ht => ?_, ?_⟩, by dsimp only; omega⟩
      · dsimp only
        rw [J8 (by omega), if_neg (by omega)]; exact r4 t (by omega)
      · dsimp only
        rw [Qip (by omega), if_pos (by omega), hz, Int.sub_zero]
        have u1 : Q2 a.Digits (i + 1) = Q2 a.Digits i + gi a.Digits i * bw i := rfl
        rw [u1, Int.add_mul]; omega
    · obtain rfl : i = a.Digits.length := by omega
      rw [Xl]
      exact Runs.some ⟨ho, hod, hv⟩
  · obtain ⟨o1, o2, o3⟩ := ho
    have sa := ha.sg
    have sb := hb.sg
    have hs : w64 (a.Sign * b.Sign) = Int.sign (x * y) := by
      rw [sa, sb, Int.sign_mul, Xd]
      rcases Yi x with h | h | h <;> rcases Yi y with h' | h' | h' <;> rw [h.2, h'.2] <;> decide
    refine Runs.bind (Runs.mono (Qdk (N := N + M + 1) (x := x * y) o2 (by omega) (by omega) ?_ fun _ => hs) fun c hc => Runs.some hc)
    unfold dv
    rw [o1, o3, ha.vl, hb.vl, Int.natAbs_mul]; simp

/-! ### Determinants by the specification -/
def Zl (t : Nat → Int) : Nat → Int
  | 0 => 0
  | k + 1 => Zl t k + (if k % 2 = 1 then -t k else t k)
def Y2 (f : List (List Int)) : List Nat → List Nat → Int
  | [], _ => 1
  | r :: rs, cs => Zl (fun k => g2 f r (cs.getD k 0) * Y2 f rs (cs.eraseIdx k)) cs.length
theorem QAo (cs : List Nat) {k : Nat} (hk : k < cs.length) : (QV cs).take k ++ (QV cs).drop (k + 1) = QV (cs.eraseIdx k) := by
  unfold QV
  rw [List.eraseIdx_eq_take_drop_succ, List.map_append, List.map_take, List.map_drop]
theorem Qni {n : Nat} {f : List (List Int)} (hf : Sq n f) (hb : Bd n f 200000000000000) : ∀ (rs : List Nat) (cs : List Nat) (fl : Nat), rs.length < fl → rs.length ≤ 5 → cs.length ≤ 5 → rs.length = cs.length → (∀ x ∈ rs, x < n) → (∀ x ∈ cs, x < n) → Runs (Z0 fl f (QV rs) (QV cs)) fun w => WV (3 + 20 * rs.length) w (Y2 f rs cs)
  | [], cs, fl + 1, _, _, _, _, _, _ => by
    show Runs (Qaz (Z0 fl) f (QV []) (QV cs)) _
    unfold Qaz
    refine Runs.bif_t rfl ?_
    exact Runs.bind (Runs.mono (Qhx (by decide)) fun c hc => Runs.some hc)
  | r :: rs, cs, fl + 1, hfl, hr5, hc5, hlen, hrs, hcs => by
    simp only [List.length_cons] at hfl hr5 hlen
    show Runs (Qaz (Z0 fl) f (QV (r :: rs)) (QV cs)) _
    unfold Qaz
    refine Runs.bif_f (by rw [ZY]; simp; omega) ?_
    refine Runs.callR (Qhx (by decide)) fun z hz => ?_
    refine Runs.bind ?_
    have hr := hrs r (by simp)
    have inv : Runs (loop (Qle (QV cs) f (QV (r :: rs)) (Z0 fl)) (0, z.Sign, z.Digits)) fun o => WV (3 + 20 * (rs.length + 1)) ⟨o.1, o.2⟩ (Y2 f (r :: rs) cs) := by
      refine Runs.loop (fun s => ∃ k : Nat, s.1 = (k : Int) ∧ k ≤ cs.length ∧ WV (7 + 20 * rs.length + k + 3) ⟨s.2.1, s.2.2⟩ (Zl (fun k => g2 f r (cs.getD k 0) * Y2 f rs (cs.eraseIdx k)) k)) (fun s => cs.length - s.1.toNat)
        ⟨0, rfl, Nat.zero_le _, hz.mono (by omega)⟩ ?_
      rintro ⟨_, sg, ds⟩ ⟨k, rfl, hk, hw⟩
      dsimp only at hw
      unfold Qle
      dsimp only
      rw [ZY]
      by_cases hlt : k < cs.length
      · have hck := hcs (cs.getD k 0) (by rw [List.getD_eq_getElem?_getD, List.getElem?_eq_getElem hlt]; exact List.getElem_mem hlt)
        have e1 : cut (QV cs) 0 (k : Int) = some ((QV cs).take k) := by
          unfold cut; rw [if_pos (by rw [ZY]; omega)]; simp
        have e2 : cut (QV cs) ((k + 1 : Nat) : Int) (cs.length : Int) = some ((QV cs).drop (k + 1)) := by
          unfold cut; rw [if_pos (by rw [ZY]; omega)]
          simp only [Int.toNat_natCast]
          rw [List.take_of_length_le (by simp [ZY])]
        have e3 : cut (QV (r :: rs)) 1 ((QV (r :: rs)).length : Int) = some (QV rs) := by
          unfold cut; rw [if_pos (by rw [ZY]; simp; omega)]
          congr 1
          rw [Int.toNat_natCast, List.take_length]; rfl
        have e4 : idx (QV (r :: rs)) 0 = some ((r : Nat) : Int) := Qeo (l := r :: rs) (k := 0) (by simp)
        have e5 : idx (QV cs) (k : Int) = some (((cs.getD k 0 : Nat)) : Int) := by rw [Qeo hlt]; simp [hlt]
        have hent := hb r (cs.getD k 0) hr hck
        rw [Xj hlt, cond_true, e1, Option.bind_some, Xe k (by omega), e2, Option.bind_some, Qdo _ (by simp [ZY]; omega), Option.bind_some, Ym (by simp [ZY]; omega), Option.bind_some, QAo cs hlt, e4, Option.bind_some, e5, Option.bind_some, e3, Option.bind_some,
          ZT (by rw [hf.len]; exact hr), Option.bind_some, XJ (by rw [hf.row r hr]; exact hck), Option.bind_some]
        refine Runs.callR (Qhx (n := gi (gr f r) (cs.getD k 0)) (by have : gi (gr f r) (cs.getD k 0) = g2 f r (cs.getD k 0) := rfl; omega)) fun u hu => ?_
        refine Runs.callR (Qni hf hb rs (cs.eraseIdx k) fl (by omega) (by omega) (by rw [List.length_eraseIdx_of_lt hlt]; omega) (by rw [List.length_eraseIdx_of_lt hlt]; omega) (fun x hx => hrs x (by simp [hx])) (fun x hx => hcs x (List.mem_of_mem_eraseIdx hx))) fun v hv => ?_
        refine Runs.callR (Qtf hu hv (by omega) (by omega)) fun t ht => ?_
        have hpar : decide ((Int.tmod (k : Int) 2) = 1) = decide (k % 2 = 1) := by
          rw [Int.tmod_eq_emod_of_nonneg (by omega), Bool.eq_iff_iff, decide_eq_true_eq, decide_eq_true_eq]; omega
        rw [hpar]
        have hg : gi (gr f r) (cs.getD k 0) = g2 f r (cs.getD k 0) := rfl
        rw [hg] at ht
        by_cases hp : k % 2 = 1
        · rw [decide_eq_true hp, cond_true]
          refine Runs.callR (Qtg ht) fun t2 ht2 => ?_
          refine Runs.callR (Qmo (N := 7 + 20 * rs.length + k + 3) hw (ht2.mono (by omega)) (by omega)) fun q hq => ?_
          refine Runs.some ⟨⟨k + 1, rfl, by omega, ?_⟩, by dsimp only; omega⟩
          have : Zl (fun k => g2 f r (cs.getD k 0) * Y2 f rs (cs.eraseIdx k)) (k + 1) = Zl (fun k => g2 f r (cs.getD k 0) * Y2 f rs (cs.eraseIdx k)) k + -(g2 f r (cs.getD k 0) * Y2 f rs (cs.eraseIdx k)) := by simp only [Zl]; rw [if_pos hp]
          dsimp only
          rw [this]; exact hq
        · rw [decide_eq_false hp, cond_false]
          refine Runs.callR (Qmo (N := 7 + 20 * rs.length + k + 3) hw (ht.mono (by omega)) (by omega)) fun q hq => ?_
          refine Runs.some ⟨⟨k + 1, rfl, by omega, ?_⟩, by dsimp only; omega⟩
          have : Zl (fun k => g2 f r (cs.getD k 0) * Y2 f rs (cs.eraseIdx k)) (k + 1) = Zl (fun k => g2 f r (cs.getD k 0) * Y2 f rs (cs.eraseIdx k)) k + g2 f r (cs.getD k 0) * Y2 f rs (cs.eraseIdx k) := by simp only [Zl]; rw [if_neg hp]
          dsimp only
          rw [this]; exact hq
      · obtain rfl : k = cs.length := by omega
        rw [Xl]
        exact Runs.some (hw.mono (by omega))
    exact Runs.mono inv fun o ho => Runs.some ho
theorem Qun (f : List (List Int)) {l : List Nat} (h3 : l.length ≤ 3) : Y2 f l l = XB f l := by
  match l, h3 with
  | [], _ => rfl
  | [a], _ => simp [Y2, XB, Zl]
  | [a, b], _ => simp [Y2, XB, Zl]; omega
  | [a, b, c], _ => simp [Y2, XB, Zl]; grind
  | _ :: _ :: _ :: _ :: _, h => simp at h
end Go.Gw

end
section
set_option maxRecDepth 8192
set_option linter.unusedSimpArgs false
set_option linter.unusedVariables false
namespace Go.Gw
open Go

def ZQ (n q : Nat) : List Nat := (List.range n).filter fun i => q / 2 ^ i % 2 == 1
theorem Qna {n q x : Nat} (h : x ∈ ZQ n q) : x < n := List.mem_range.1 (List.mem_filter.1 h).1
theorem Qtx (n q : Nat) : (ZQ n q).length ≤ n := by have := List.length_filter_le (fun i => q / 2 ^ i % 2 == 1) (List.range n); rw [List.length_range] at this; exact this
theorem Qyg {n : Nat} {f : List (List Int)} (hf : Sq n f) (hb : Bd n f 200000000000000) (hn : n ≤ 3) {q : Nat} (hq : q < 8) : Runs (Qhd f (q : Int)) fun w => WV 100 w (XB f (ZQ n q)) := by
  unfold Qhd
  have h : loop (Qba f (q : Int)) (([] : List Int), 0) = some (QV (ZQ n q)) := by
    have key := Qxy (step := Qba f (q : Int)) n (fun k (a : List Int) => if q / 2 ^ k % 2 = 1 then a ++ [(k : Int)] else a) (fun a k => (a, (k : Int))) (fun a => a) (fun a k => a.length ≤ k) [] (Nat.le_refl _) (fun k hk a ha => by
      have e : (q : Int) / 2 ^ k = ((q / 2 ^ k : Nat) : Int) := by rw [Int.natCast_ediv, Int.natCast_pow]; rfl
      have hle : q / 2 ^ k ≤ q := Nat.div_le_self _ _
      have st : Qba f (q : Int) (a, (k : Int)) = some (.inl ((if q / 2 ^ k % 2 = 1 then a ++ [(k : Int)] else a), ((k + 1 : Nat) : Int))) := by
        unfold Qba
        dsimp only
        rw [hf.len, Xj hk, cond_true, Qhg _ k (by omega), Option.bind_some, e]
        generalize q / 2 ^ k = Q at hle ⊢
        rw [Qib (by omega)]
        have e2 : decide ((Q : Int) % 2 = 1) = decide (Q % 2 = 1) := by
          rw [Bool.eq_iff_iff, decide_eq_true_eq, decide_eq_true_eq]; omega
        rw [e2]
        by_cases h1 : Q % 2 = 1
        · rw [decide_eq_true h1, cond_true, Ym (by simp; omega), Option.bind_some, Xe k (by omega), if_pos h1]
        · rw [decide_eq_false h1, cond_false, Xe k (by omega), if_neg h1]
      refine ⟨st, ?_⟩
      split
      · simp; omega
      · omega) (fun a ha => by
      unfold Qba
      dsimp only
      rw [hf.len, Xl]; rfl)
    have h1 := key.1
    have gen : ∀ m, rng (fun k (a : List Int) => if q / 2 ^ k % 2 = 1 then a ++ [(k : Int)] else a) [] m = QV (ZQ m q) := by
      intro m
      induction m with
      | zero => rfl
      | succ m ih =>
        simp only [rng]
        rw [ih]
        unfold ZQ QV
        rw [List.range_succ, List.filter_append]
        by_cases h1 : q / 2 ^ m % 2 = 1
        · simp [h1]
        · simp [h1]
    rw [gen] at h1
    exact h1
  rw [h, Option.bind_some]
  have hl := Qtx n q
  refine Runs.bind (Runs.mono (Qni hf hb (ZQ n q) (ZQ n q) 6 (by omega) (by omega) (by omega) rfl (fun x hx => Qna hx) (fun x hx => Qna hx)) fun w hw => Runs.some ?_)
  rw [← Qun f (by omega)]
  exact hw.mono (by omega)
theorem Qty {n k : Nat} (hn : n ≤ 3) (hk : k ≤ n) : ZQ n (2 ^ k - 1) = List.range k := by
  have : ∀ n, n < 4 → ∀ k, k < n + 1 → ZQ n (2 ^ k - 1) = List.range k := by decide
  exact this n (by omega) k (by omega)
theorem Qli {n : Nat} (h : n ≤ 3) : Jv .i64 1 (n : Int) = some ((2 ^ n : Nat) : Int) := Qhf h
theorem QAz {f : List (List Int)} (hf : Sq f.length f) (hn : f.length ≤ 3) (hb : Bd f.length f 200000000000000) : Qgx f = some (YK f) := by
  refine Runs.eq ?_
  unfold Qgx
  refine Runs.callR (R := fun o => match o with | .inl b => b = YK f | .inr _ => YK f = true) ?_ fun o ho => ?_
  · refine Runs.loop (fun s => ∃ k : Nat, s = (k : Int) ∧ 1 ≤ k ∧ k ≤ f.length + 1 ∧ ∀ j, j + 1 < k → 0 < XB f (List.range (j + 1))) (fun s => f.length + 1 - s.toNat) ⟨1, rfl, Nat.le_refl _, by omega, fun j hj => by omega⟩ ?_
    rintro _ ⟨k, rfl, hk1, hk, hp⟩
    unfold Qqo
    by_cases hle : k ≤ f.length
    · have h8 := Qgn (n := k) (by omega)
      have hpos : 0 < 2 ^ k := Nat.pow_pos (by decide)
      rw [decide_eq_true (by omega), cond_true, Qli (by omega), Option.bind_some]
      have e1 : w64 (((2 ^ k : Nat) : Int) - 1) = ((2 ^ k - 1 : Nat) : Int) := by rw [Xd (by omega)]; omega
      rw [e1]
      refine Runs.callR (Qyg hf hb hn (q := 2 ^ k - 1) (by omega)) fun w hw => ?_
      rw [Qty hn hle] at hw
      rw [Qth hw, Option.bind_some]
      rcases Yi (XB f (List.range k)) with h | h | h
      · rw [h.2]
        refine Runs.some ?_
        show false = YK f
        symm
        unfold YK
        rw [List.all_eq_false]
        exact ⟨k - 1, by simp; omega, by rw [Nat.sub_add_cancel hk1]; simp; omega⟩
      · rw [h.2]
        refine Runs.some ?_
        show false = YK f
        symm
        unfold YK
        rw [List.all_eq_false]
        exact ⟨k - 1, by simp; omega, by rw [Nat.sub_add_cancel hk1]; simp; omega⟩
      · rw [h.2, Xe k (by omega)]
        refine Runs.some ⟨⟨k + 1, rfl, by omega, by omega, fun j hj => ?_⟩, by dsimp only; omega⟩
        by_cases hjk : j + 1 = k
        · rw [hjk]; exact h.1
        · exact hp j (by omega)
    · rw [decide_eq_false (by omega)]
      refine Runs.some ?_
      show YK f = true
      unfold YK
      rw [List.all_eq_true]
      intro j hj
      rw [List.mem_range] at hj
      exact decide_eq_true (hp j (by omega))
  · cases o with
    | inl b => exact Runs.jl ho
    | inr _ => exact Runs.jr (Runs.some ho.symm)
theorem QBc {p : LevitatePlant} (h : Rp p) {f : List (List Int)} (hf : Sq p.Noise.length f) (hb : Bd p.Noise.length f 10000) : Qhc p f = some (Zg p f) := by
  unfold Qhc
  have h3 := h.n3
  have h8 := Qgn h3
  have vb : ∀ s, -(3 * (10001 * (3 * (10000 * 10001)))) ≤ XV p.Noise.length f (xv p s) ∧ XV p.Noise.length f (xv p s) ≤ 3 * (10001 * (3 * (10000 * 10001))) := fun s => Qho h3 hb (by decide) (fun k hk => Qry h s hk)
  have hx : ∀ s : Nat, s < 8 → loop (Qhb f p (s : Int)) ([], 0) = some (xv p s) := by
    intro s hs
    refine Qas p.Noise.length _ (fun k hk acc hacc => ?_) (fun acc => ?_)
    · unfold Qhb
      dsimp only
      have hb := h.noise_b hk
      rw [hf.len, Xj hk, cond_true, XJ hk, Option.bind_some, Qhg _ k (by omega), Option.bind_some]
      have e : (s : Int) / 2 ^ k = ((s / 2 ^ k : Nat) : Int) := by rw [Int.natCast_ediv, Int.natCast_pow]; rfl
      have hle : s / 2 ^ k ≤ s := Nat.div_le_self _ _
      have e3 : ZF s k = 1 - 2 * ((s / 2 ^ k % 2 : Nat) : Int) := rfl
      rw [e, e3]
      generalize s / 2 ^ k = Q at *
      rw [Qib (by omega), Xd (x := gi p.Noise k + 1) (by omega), Xd (x := 0 - (gi p.Noise k + 1)) (by omega), Xe k (by omega), Ym (by simp [hacc]; omega), Ym (by simp [hacc]; omega)]
      have e2 : decide ((Q : Int) % 2 = 1) = decide (Q % 2 = 1) := by rw [Bool.eq_iff_iff, decide_eq_true_eq, decide_eq_true_eq]; omega
      rw [e2]
      by_cases h1 : Q % 2 = 1
      · rw [decide_eq_true h1, cond_true, Option.bind_some, h1]
        have : 0 - (gi p.Noise k + 1) = (gi p.Noise k + 1) * (1 - 2 * ((1 : Nat) : Int)) := by omega
        rw [this]
      · rw [decide_eq_false h1, cond_false, Option.bind_some]
        have h0 : Q % 2 = 0 := by omega
        rw [h0]
        have : gi p.Noise k + 1 = (gi p.Noise k + 1) * (1 - 2 * ((0 : Nat) : Int)) := by omega
        rw [← this]
    · unfold Qhb
      dsimp only
      rw [hf.len, Xl]; rfl
  have key : ∀ s, s ≤ 2 ^ p.Noise.length → loop (Qay f p) (0, 0) = loop (Qay f p) (wst (fun s => XV p.Noise.length f (xv p s)) s, (s : Int)) := by
    intro s
    induction s with
    | zero => intro _; rfl
    | succ s ih =>
      intro hs
      rw [ih (by omega)]
      refine Yg ?_
      unfold Qay
      dsimp only
      rw [hf.len, Qli h3, Option.bind_some, Xj (by omega), cond_true, hx s (by omega), Option.bind_some, Qql hf (by unfold xv; rw [JT]) (by omega), Option.bind_some, Xe s (by omega)]
      have := vb s
      rw [Xd (by omega)]
      have e0 : decide ((s : Int) = 0) = decide (s = 0) := YD _ 0
      rw [e0]
      simp only [wst]
      by_cases h1 : s = 0
      · simp [h1]
      · by_cases h2 : wst (fun s => XV p.Noise.length f (xv p s)) s < XV p.Noise.length f (xv p s)
        · simp [h1, h2]
        · simp [h1, h2]
  rw [key _ (Nat.le_refl _)]
  have : Qay f p (wst (fun s => XV p.Noise.length f (xv p s)) (2 ^ p.Noise.length), ((2 ^ p.Noise.length : Nat) : Int)) = some (.inr (wst (fun s => XV p.Noise.length f (xv p s)) (2 ^ p.Noise.length))) := by
    unfold Qay
    dsimp only
    rw [hf.len, Qli h3, Option.bind_some, Xl]; rfl
  rw [XO this]; rfl
theorem Qod {L L' W : Int} {r : Arr2_Int} (hr : Rr r) (hW : 0 ≤ W) (hL : 0 ≤ L) (hle : L ≤ L') (h : YZ L W r = true) : YZ L' W r = true := by
  have h0 := hr.e0
  have h1 := hr.e1
  unfold YZ at h ⊢
  simp only [Bool.and_eq_true, decide_eq_true_eq] at h ⊢
  obtain ⟨ha, hb⟩ := h
  generalize hd : r.e1 - r.e0 = d at ha hb ⊢
  have hd0 : 0 ≤ d := by omega
  have hrw : 0 ≤ r.e1 * W := Int.mul_nonneg (by omega) hW
  have hdl : d * L ≤ d * L' := Int.mul_le_mul_of_nonneg_left hle hd0
  refine ⟨by omega, ?_⟩
  -- a, the step, and what they come to
  generalize hA : d * L - r.e1 * W = A at ha hb
  obtain ⟨δ, hδ⟩ : ∃ δ, L' = L + δ := ⟨L' - L, by omega⟩
  have hδ0 : 0 ≤ δ := by omega
  have eA : d * L' - r.e1 * W = A + d * δ := by rw [hδ, Int.mul_add]; omega
  rw [eA]
  have key : 4 * r.e0 * r.e1 * W ≤ 2 * (A * d) ∨ L = 0 := by
    rcases Int.lt_or_le 0 L with hp | hp
    · left
      have q1 : A * A ≤ A * (d * L) := Int.mul_le_mul_of_nonneg_left (by omega) ha
      have q2 : 4 * r.e0 * r.e1 * W * L ≤ A * d * L := by
        have e1 : 4 * r.e0 * r.e1 * L * W = 4 * r.e0 * r.e1 * W * L := by grind
        have e2 : A * (d * L) = A * d * L := by grind
        omega
      have q3 := Int.le_of_mul_le_mul_right q2 hp
      have q4 : 0 ≤ A * d := Int.mul_nonneg ha hd0
      omega
    · right; omega
  have hq : 0 ≤ d * δ * (d * δ) := Ze _
  have hW' : 4 * r.e0 * r.e1 * W ≤ 2 * (A * d) := by
    rcases key with h | h
    · exact h
    · subst h
      have : r.e1 * W = 0 := by rw [Int.mul_zero] at hA; omega
      have hw0 : W = 0 := by
        rcases Int.lt_or_le 0 W with hp | hp
        · have := Int.mul_pos (show 0 < r.e1 by omega) hp; omega
        · omega
      subst hw0
      rw [Int.mul_zero]
      have : 0 ≤ A * d := Int.mul_nonneg ha hd0
      omega
  have q5 : 4 * r.e0 * r.e1 * W * δ ≤ 2 * (A * d) * δ := Int.mul_le_mul_of_nonneg_right hW' hδ0
  have e1 : 4 * r.e0 * r.e1 * L' * W = 4 * r.e0 * r.e1 * L * W + 4 * r.e0 * r.e1 * W * δ := by rw [hδ]; grind
  have e2 : (A + d * δ) * (A + d * δ) = A * A + 2 * (A * d) * δ + d * δ * (d * δ) := by grind
  rw [e1, e2]
  omega
def LvR (W : Int) (r : Arr2_Int) (n : Int) : Prop := 0 ≤ n ∧ n ≤ 100000000000000 ∧ YZ n W r = true ∧ (0 < n → YZ (n - 1) W r = false)
theorem LvR.one {W : Int} {r : Arr2_Int} (hr : Rr r) (hW : 0 ≤ W) {a b : Int} (ha : LvR W r a) (hb : LvR W r b) : a = b := by
  obtain ⟨a0, a1, a2, a3⟩ := ha
  obtain ⟨b0, b1, b2, b3⟩ := hb
  rcases Int.lt_trichotomy a b with h | h | h
  · have := b3 (by omega); rw [Qod hr hW a0 (by omega) a2] at this; cases this
  · exact h
  · have := a3 (by omega); rw [Qod hr hW b0 (by omega) b2] at this; cases this
end Go.Gw

end
section
set_option maxRecDepth 8192
set_option linter.unusedSimpArgs false
set_option linter.unusedVariables false
namespace Go.Gw
open Go

def RtR (A D n : Int) : Prop := 0 ≤ n ∧ n * n * D ≤ A ∧ A < (n + 1) * (n + 1) * D
theorem RtR.one {A D : Int} (hD : 0 < D) {a b : Int} (ha : RtR A D a) (hb : RtR A D b) : a = b := by
  obtain ⟨a0, a1, a2⟩ := ha
  obtain ⟨b0, b1, b2⟩ := hb
  have key : ∀ {a b : Int}, 0 ≤ a → 0 ≤ b → a * a * D ≤ A → A < (b + 1) * (b + 1) * D → a ≤ b := by
    intro a b h0 h1 h2 h3
    rcases Int.lt_or_le b a with h | h
    · exfalso
      have q1 : (b + 1) * (b + 1) ≤ a * a := Int.mul_le_mul (by omega) (by omega) (by omega) (by omega)
      have q2 := Int.mul_le_mul_of_nonneg_right q1 (Int.le_of_lt hD)
      omega
    · exact h
  have h1 := key a0 b0 a1 b2
  have h2 := key b0 a0 b1 a2
  omega
end Go.Gw

end
section
set_option maxRecDepth 8192
set_option linter.unusedSimpArgs false
set_option linter.unusedVariables false
namespace Go.Gw
open Go

def ZZ (p : LevitatePlant) (f : List (List Int)) : Int := if (X3 p).2 ≠ 0 then (X3 p).2 else pfE p f
theorem QAp {p : LevitatePlant} (h : Sh p) {f : List (List Int)} (hl : f.length < 1073741824) : Qaj p f = some (⟨p⟩, ZZ p f) := by
  rw [Qqe p f h hl]
  unfold ZZ pfE
  by_cases h1 : (X3 p).2 = 0 <;> by_cases h2 : Yf f = 0 <;> simp [h1, h2]
theorem Qqd {p : LevitatePlant} {f : List (List Int)} (h : ZZ p f = 0) : Rp p ∧ Rf f ∧ f.length = p.Noise.length := by
  unfold ZZ at h
  by_cases h1 : (X3 p).2 = 0
  · rw [if_neg (by simpa using h1)] at h
    exact ⟨ckP_right.1 h1, pfE_zero.1 h⟩
  · rw [if_pos h1] at h; exact absurd h h1
theorem Qvu {f : List (List Int)} (hl : f.length < 1073741824) : Qfb f = some (if Yf f = 0 then (YK f, 0) else (false, Yf f)) := by
  unfold Qfb
  rw [Qkj f hl, Option.bind_some]
  by_cases h0 : Yf f = 0
  · have hf := frmE_right.1 h0
    rw [decide_eq_true h0, if_pos h0]
    simp only [Bool.not_true, cond_false]
    rw [Qqi hf.sq hf.n3 (hf.bd.mono (by decide))]; rfl
  · rw [decide_eq_false h0, if_neg h0]; rfl
theorem Qvx {p : LevitatePlant} (h : Sh p) {f : List (List Int)} (hl : f.length < 1073741824) : Qfg p f = some (if ZZ p f = 0 then (Zg p f, 0) else (0, ZZ p f)) := by
  unfold Qfg
  rw [QAp h hl, Option.bind_some]
  by_cases h0 : ZZ p f = 0
  · obtain ⟨hp, hf, hn⟩ := Qqd h0
    rw [decide_eq_true h0, if_pos h0]
    simp only [Bool.not_true, cond_false]
    change Option.bind (JM ⟨p⟩ f) _ = _
    rw [Qrx hp (by rw [← hn]; exact hf.sq) (by rw [← hn]; exact hf.bd)]; rfl
  · rw [decide_eq_false h0, if_neg h0]; rfl
end Go.Gw

end
