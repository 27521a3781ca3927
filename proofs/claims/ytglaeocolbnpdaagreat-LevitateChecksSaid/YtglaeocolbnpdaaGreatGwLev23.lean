/- Laws of the walk. Condition: each theorem says its own. -/
import Derived.Test.YtglaeocolbnpdaaGreatGwLev7
section
set_option maxRecDepth 8192
set_option linter.unusedSimpArgs false
set_option linter.unusedVariables false
namespace Go.Gw
open Go

theorem Qji {l : List Int} {j : Nat} {v : Int} (hj : j < l.length) : ∀ n, Xa (l.set j v) n = if j < n then Xa l n + (v - gi l j) * bw j else Xa l n
  | 0 => by simp [Xa, QV]
  | n + 1 => by
    have ih := Qji (v := v) hj n
    unfold Xa at ih ⊢
    simp only [QV]
    rw [ih, Qas hj]
    by_cases h1 : j < n
    · rw [if_pos h1, if_pos (show j < n + 1 by omega), if_neg (show ¬ j = n by omega)]; omega
    · rw [if_neg h1]
      by_cases h2 : j = n
      · subst h2; rw [if_pos rfl, if_pos (show j < j + 1 by omega), Int.sub_mul]; omega
      · rw [if_neg h2, if_neg (show ¬ j < n + 1 by omega)]
theorem Qog {l : List Int} {j : Nat} {v : Int} (h : Dg l) (hj : j < l.length) (hv : 0 ≤ v ∧ v ≤ 999999999) : Dg (l.set j v) := fun k => by
  rw [Qas hj]
  split
  · exact hv
  · exact h k
theorem Qzm {a b : guidewaybase_Wide} (ha : Dg a.Digits) (hb : Dg b.Digits) {i n : Nat} {O : List Int} (hi : i < a.Digits.length) (hn : n = a.Digits.length + b.Digits.length + 1) (hN : n < 100000) (hO : O.length = n) (hd : Dg O) (hz : ∀ t, i + b.Digits.length ≤ t → gi O t = 0) :
    Runs (loop (Qja a b (i : Int)) (O, 0, 0)) fun r => r.1.length = n ∧ Dg r.1 ∧ (0 ≤ r.2 ∧ r.2 ≤ 999999999) ∧ (∀ t, i + b.Digits.length ≤ t → gi r.1 t = 0) ∧ Xa r.1 n + r.2 * bw (i + b.Digits.length) = Xa O n + gi a.Digits i * bw i * dv b.Digits := by
  refine Runs.loop (fun s => ∃ k : Nat, s.2.2 = (k : Int) ∧ k ≤ b.Digits.length ∧ s.1.length = n ∧ Dg s.1 ∧ (0 ≤ s.2.1 ∧ s.2.1 ≤ 999999999) ∧ (∀ t, i + b.Digits.length ≤ t → gi s.1 t = 0) ∧ Xa s.1 n + s.2.1 * bw (i + k) = Xa O n + gi a.Digits i * bw i * Xa b.Digits k) (fun s => b.Digits.length - s.2.2.toNat)
    ⟨0, rfl, Nat.zero_le _, hO, hd, by show (0 : Int) ≤ 0 ∧ (0 : Int) ≤ 999999999; decide, hz, by simp [Xa, QV]⟩ ?_
  rintro ⟨o, cr, _⟩ ⟨k, rfl, hk, ho, hod, hcr, hoz, hv⟩
  dsimp only at ho hod hcr hoz hv
  unfold Qja
  dsimp only
  by_cases hlt : k < b.Digits.length
  · have hda := ha i
    have hdb := hb k
    have hdo := hod (i + k)
    have e0 : w64 ((i : Int) + (k : Int)) = ((i + k : Nat) : Int) := by rw [Q7 (by omega)]; omega
    have hab : 0 ≤ gi a.Digits i * gi b.Digits k ∧ gi a.Digits i * gi b.Digits k ≤ 999999998000000001 := by
      refine ⟨Int.mul_nonneg hda.1 hdb.1, ?_⟩
      exact Int.mul_le_mul (c := (999999999 : Int)) (d := 999999999) hda.2 hdb.2 hdb.1 (by decide)
    rw [Xi hlt, cond_true, e0, XG (by omega), Option.bind_some, XG hi, Option.bind_some, XG hlt, Option.bind_some, Option.bind_some, Q7 (x := gi a.Digits i * gi b.Digits k) (by omega), Q7 (x := gi o (i + k) + gi a.Digits i * gi b.Digits k) (by omega), Q7 (x := gi o (i + k) + gi a.Digits i * gi b.Digits k + cr) (by omega), Int.toNat_natCast]
    generalize hs : gi o (i + k) + gi a.Digits i * gi b.Digits k + cr = s
    have e1 : Int.tmod s 1000000000 = s % 1000000000 := Int.tmod_eq_emod_of_nonneg (by omega)
    have e2 : Int.tdiv s 1000000000 = s / 1000000000 := Int.tdiv_eq_ediv_of_nonneg (by omega)
    have h4 := Int.mul_ediv_add_emod s 1000000000
    rw [e1, e2, Q7 (by omega), Xg k (by omega)]
    refine Runs.some ⟨⟨k + 1, rfl, by omega, by simp [ho], Qog hod (by omega) (by omega), by dsimp only; omega, fun t ht => ?_, ?_⟩, by dsimp only; omega⟩
    · dsimp only
      rw [Qas (by omega), if_neg (by omega)]; exact hoz t ht
    · dsimp only
      rw [Qji (by omega), if_pos (by omega)]
      have u1 : Xa b.Digits (k + 1) = Xa b.Digits k + gi b.Digits k * bw k := rfl
      have u2 : bw (i + (k + 1)) = bw (i + k) * 1000000000 := rfl
      have u3 : bw (i + k) = bw i * bw k := Qje i k
      rw [u1, u2]
      have e5 : s * bw (i + k) = 1000000000 * (s / 1000000000) * bw (i + k) + s % 1000000000 * bw (i + k) := by rw [← Int.add_mul, h4]
      have e6 : s * bw (i + k) = gi o (i + k) * bw (i + k) + gi a.Digits i * gi b.Digits k * bw (i + k) + cr * bw (i + k) := by rw [← hs, Int.add_mul, Int.add_mul]
      have e7 : gi a.Digits i * bw i * (Xa b.Digits k + gi b.Digits k * bw k) = gi a.Digits i * bw i * Xa b.Digits k + gi a.Digits i * gi b.Digits k * bw (i + k) := by rw [u3]; grind
      have e8 : s / 1000000000 * (bw (i + k) * 1000000000) = 1000000000 * (s / 1000000000) * bw (i + k) := by grind
      have e9 : (s % 1000000000 - gi o (i + k)) * bw (i + k) = s % 1000000000 * bw (i + k) - gi o (i + k) * bw (i + k) := Int.sub_mul ..
      rw [e7, e8, e9]; omega
  · obtain rfl : k = b.Digits.length := by omega
    rw [Xj]
    exact Runs.some ⟨ho, hod, hcr, hoz, hv⟩
theorem Qaf {N M : Nat} {a b : guidewaybase_Wide} {x y : Int} (ha : WV N a x) (hb : WV M b y) (hN : N < 10000) (hM : M < 10000) : Runs (Jn a b) fun c => WV (N + M + 1) c (x * y) := by
  have la := ha.ln
  have lb := hb.ln
  obtain ⟨n, hn⟩ : ∃ n, n = a.Digits.length + b.Digits.length + 1 := ⟨_, rfl⟩
  unfold Jn
  have e0 : w64 (w64 ((a.Digits.length : Int) + (b.Digits.length : Int)) + 1) = (n : Int) := by rw [Q7 (x := (a.Digits.length : Int) + (b.Digits.length : Int)) (by omega), Q7 (by omega)]; omega
  rw [e0]
  refine Runs.call (Qzj (by omega)) ?_
  refine Runs.callR (R := fun o => o.length = n ∧ Dg o ∧ Xa o n = dv a.Digits * dv b.Digits) ?_ fun o ho => ?_
  · refine Runs.loop (fun s => ∃ i : Nat, s.2 = (i : Int) ∧ i ≤ a.Digits.length ∧ s.1.length = n ∧ Dg s.1 ∧ (∀ t, i + b.Digits.length ≤ t → gi s.1 t = 0) ∧ Xa s.1 n = Xa a.Digits i * dv b.Digits) (fun s => a.Digits.length - s.2.toNat)
      ⟨0, rfl, Nat.zero_le _, by simp, fun k => by rw [Qjs]; omega, fun t _ => Qjs, by
        have : Xa (List.replicate n 0) n = Xa (List.replicate n 0) (0 + n) := by rw [Nat.zero_add]
        show Xa (List.replicate n 0) n = _
        rw [this, Qew n fun k _ _ => Qjs]
        show (0 : Int) = 0 * _
        rw [Int.zero_mul]⟩ ?_
    rintro ⟨o, _⟩ ⟨i, rfl, hi, ho, hod, hoz, hv⟩
    dsimp only at ho hod hoz hv
    unfold Qns
    dsimp only
    by_cases hlt : i < a.Digits.length
    · rw [Xi hlt, cond_true]
      refine Runs.callR (Qzm ha.dg hb.dg hlt hn (by omega) ho hod hoz) fun r hr => ?_
      obtain ⟨r1, r2, r3, r4, r5⟩ := hr
      have e1 : w64 ((i : Int) + (b.Digits.length : Int)) = ((i + b.Digits.length : Nat) : Int) := by rw [Q7 (by omega)]; omega
      have hz := r4 (i + b.Digits.length) (Nat.le_refl _)
      rw [e1, XG (by omega), Option.bind_some, Option.bind_some, hz, Int.zero_add, Q7 (by omega), Int.toNat_natCast, Xg i (by omega)]
      refine Runs.some ⟨⟨i + 1, rfl, by omega, by simp [r1], Qog r2 (by omega) r3, fun t ht => ?_, ?_⟩, by dsimp only; omega⟩
      · dsimp only
        rw [Qas (by omega), if_neg (by omega)]; exact r4 t (by omega)
      · dsimp only
        rw [Qji (by omega), if_pos (by omega), hz, Int.sub_zero]
        have u1 : Xa a.Digits (i + 1) = Xa a.Digits i + gi a.Digits i * bw i := rfl
        rw [u1, Int.add_mul]; omega
    · obtain rfl : i = a.Digits.length := by omega
      rw [Xj]
      exact Runs.some ⟨ho, hod, hv⟩
  · obtain ⟨o1, o2, o3⟩ := ho
    have sa := ha.sg
    have sb := hb.sg
    have hs : w64 (a.Sign * b.Sign) = Int.sign (x * y) := by
      rw [sa, sb, Int.sign_mul, Q7]
      rcases X2 x with h | h | h <;> rcases X2 y with h' | h' | h' <;> rw [h.2, h'.2] <;> decide
    refine Runs.bind (Runs.mono (Qdz (N := N + M + 1) (x := x * y) o2 (by omega) (by omega) ?_ fun _ => hs) fun c hc => Runs.some hc)
    unfold dv
    rw [o1, o3, ha.vl, hb.vl, Int.natAbs_mul]; simp

/-! ### Determinants by the specification -/
def Zz (t : Nat → Int) : Nat → Int
  | 0 => 0
  | k + 1 => Zz t k + (if k % 2 = 1 then -t k else t k)
def Zh (f : List (List Int)) : List Nat → List Nat → Int
  | [], _ => 1
  | r :: rs, cs => Zz (fun k => g2 f r (cs.getD k 0) * Zh f rs (cs.eraseIdx k)) cs.length
theorem QBv (cs : List Nat) {k : Nat} (hk : k < cs.length) : (QW cs).take k ++ (QW cs).drop (k + 1) = QW (cs.eraseIdx k) := by
  unfold QW
  rw [List.eraseIdx_eq_take_drop_succ, List.map_append, List.map_take, List.map_drop]
theorem Qof {n : Nat} {f : List (List Int)} (hf : Sq n f) (hb : Bd n f 200000000000000) : ∀ (rs : List Nat) (cs : List Nat) (fl : Nat), rs.length < fl → rs.length ≤ 5 → cs.length ≤ 5 → rs.length = cs.length → (∀ x ∈ rs, x < n) → (∀ x ∈ cs, x < n) → Runs (Jc fl f (QW rs) (QW cs)) fun w => WV (3 + 20 * rs.length) w (Zh f rs cs)
  | [], cs, fl + 1, _, _, _, _, _, _ => by
    show Runs (Qbo (Jc fl) f (QW []) (QW cs)) _
    unfold Qbo
    refine Runs.bif_t rfl ?_
    exact Runs.bind (Runs.mono (Z2 (by decide)) fun c hc => Runs.some hc)
  | r :: rs, cs, fl + 1, hfl, hr5, hc5, hlen, hrs, hcs => by
    simp only [List.length_cons] at hfl hr5 hlen
    show Runs (Qbo (Jc fl) f (QW (r :: rs)) (QW cs)) _
    unfold Qbo
    refine Runs.bif_f (by rw [Jb]; simp; omega) ?_
    refine Runs.callR (Z2 (by decide)) fun z hz => ?_
    refine Runs.bind ?_
    have hr := hrs r (by simp)
    have inv : Runs (loop (Qlx (QW cs) f (QW (r :: rs)) (Jc fl)) (0, z.Sign, z.Digits)) fun o => WV (3 + 20 * (rs.length + 1)) ⟨o.1, o.2⟩ (Zh f (r :: rs) cs) := by
      refine Runs.loop (fun s => ∃ k : Nat, s.1 = (k : Int) ∧ k ≤ cs.length ∧ WV (7 + 20 * rs.length + k + 3) ⟨s.2.1, s.2.2⟩ (Zz (fun k => g2 f r (cs.getD k 0) * Zh f rs (cs.eraseIdx k)) k)) (fun s => cs.length - s.1.toNat)
        ⟨0, rfl, Nat.zero_le _, hz.mono (by omega)⟩ ?_
      rintro ⟨_, sg, ds⟩ ⟨k, rfl, hk, hw⟩
      dsimp only at hw
      unfold Qlx
      dsimp only
      rw [Jb]
      by_cases hlt : k < cs.length
      · have hck := hcs (cs.getD k 0) (by rw [List.getD_eq_getElem?_getD, List.getElem?_eq_getElem hlt]; exact List.getElem_mem hlt)
        have e1 : cut (QW cs) 0 (k : Int) = some ((QW cs).take k) := by
          unfold cut; rw [if_pos (by rw [Jb]; omega)]; simp
        have e2 : cut (QW cs) ((k + 1 : Nat) : Int) (cs.length : Int) = some ((QW cs).drop (k + 1)) := by
          unfold cut; rw [if_pos (by rw [Jb]; omega)]
          simp only [Int.toNat_natCast]
          rw [List.take_of_length_le (by simp [Jb])]
        have e3 : cut (QW (r :: rs)) 1 ((QW (r :: rs)).length : Int) = some (QW rs) := by
          unfold cut; rw [if_pos (by rw [Jb]; simp; omega)]
          congr 1
          rw [Int.toNat_natCast, List.take_length]; rfl
        have e4 : idx (QW (r :: rs)) 0 = some ((r : Nat) : Int) := Qfa (l := r :: rs) (k := 0) (by simp)
        have e5 : idx (QW cs) (k : Int) = some (((cs.getD k 0 : Nat)) : Int) := by rw [Qfa hlt]; simp [hlt]
        have hent := hb r (cs.getD k 0) hr hck
        rw [Xi hlt, cond_true, e1, Option.bind_some, Xg k (by omega), e2, Option.bind_some, Qip _ (by simp [Jb]; omega), Option.bind_some, Ye (by simp [Jb]; omega), Option.bind_some, QBv cs hlt, e4, Option.bind_some, e5, Option.bind_some, e3, Option.bind_some,
          Zl (by rw [hf.len]; exact hr), Option.bind_some, XG (by rw [hf.row r hr]; exact hck), Option.bind_some]
        refine Runs.callR (Z2 (n := gi (gr f r) (cs.getD k 0)) (by have : gi (gr f r) (cs.getD k 0) = g2 f r (cs.getD k 0) := rfl; omega)) fun u hu => ?_
        refine Runs.callR (Qof hf hb rs (cs.eraseIdx k) fl (by omega) (by omega) (by rw [List.length_eraseIdx_of_lt hlt]; omega) (by rw [List.length_eraseIdx_of_lt hlt]; omega) (fun x hx => hrs x (by simp [hx])) (fun x hx => hcs x (List.mem_of_mem_eraseIdx hx))) fun v hv => ?_
        refine Runs.callR (Qaf hu hv (by omega) (by omega)) fun t ht => ?_
        have hpar : decide ((Int.tmod (k : Int) 2) = 1) = decide (k % 2 = 1) := by
          rw [Int.tmod_eq_emod_of_nonneg (by omega), Bool.eq_iff_iff, decide_eq_true_eq, decide_eq_true_eq]; omega
        rw [hpar]
        have hg : gi (gr f r) (cs.getD k 0) = g2 f r (cs.getD k 0) := rfl
        rw [hg] at ht
        by_cases hp : k % 2 = 1
        · rw [decide_eq_true hp, cond_true]
          refine Runs.callR (Qnm ht) fun t2 ht2 => ?_
          refine Runs.callR (Qir (N := 7 + 20 * rs.length + k + 3) hw (ht2.mono (by omega)) (by omega)) fun q hq => ?_
          refine Runs.some ⟨⟨k + 1, rfl, by omega, ?_⟩, by dsimp only; omega⟩
          have : Zz (fun k => g2 f r (cs.getD k 0) * Zh f rs (cs.eraseIdx k)) (k + 1) = Zz (fun k => g2 f r (cs.getD k 0) * Zh f rs (cs.eraseIdx k)) k + -(g2 f r (cs.getD k 0) * Zh f rs (cs.eraseIdx k)) := by simp only [Zz]; rw [if_pos hp]
          dsimp only
          rw [this]; exact hq
        · rw [decide_eq_false hp, cond_false]
          refine Runs.callR (Qir (N := 7 + 20 * rs.length + k + 3) hw (ht.mono (by omega)) (by omega)) fun q hq => ?_
          refine Runs.some ⟨⟨k + 1, rfl, by omega, ?_⟩, by dsimp only; omega⟩
          have : Zz (fun k => g2 f r (cs.getD k 0) * Zh f rs (cs.eraseIdx k)) (k + 1) = Zz (fun k => g2 f r (cs.getD k 0) * Zh f rs (cs.eraseIdx k)) k + g2 f r (cs.getD k 0) * Zh f rs (cs.eraseIdx k) := by simp only [Zz]; rw [if_neg hp]
          dsimp only
          rw [this]; exact hq
      · obtain rfl : k = cs.length := by omega
        rw [Xj]
        exact Runs.some (hw.mono (by omega))
    exact Runs.mono inv fun o ho => Runs.some ho
theorem Qvm (f : List (List Int)) {l : List Nat} (h3 : l.length ≤ 3) : Zh f l l = Xy f l := by
  match l, h3 with
  | [], _ => rfl
  | [a], _ => simp [Zh, Xy, Zz]
  | [a, b], _ => simp [Zh, Xy, Zz]; omega
  | [a, b, c], _ => simp [Zh, Xy, Zz]; grind
  | _ :: _ :: _ :: _ :: _, h => simp at h
end Go.Gw

end
section
set_option maxRecDepth 8192
set_option linter.unusedSimpArgs false
set_option linter.unusedVariables false
namespace Go.Gw
open Go

def YI (n q : Nat) : List Nat := (List.range n).filter fun i => q / 2 ^ i % 2 == 1
theorem Qny {n q x : Nat} (h : x ∈ YI n q) : x < n := List.mem_range.1 (List.mem_filter.1 h).1
theorem Qux (n q : Nat) : (YI n q).length ≤ n := by have := List.length_filter_le (fun i => q / 2 ^ i % 2 == 1) (List.range n); rw [List.length_range] at this; exact this
theorem Qpy {n : Nat} {f : List (List Int)} (hf : Sq n f) (hb : Bd n f 200000000000000) (hn : n ≤ 3) {q : Nat} (hq : q < 8) : Runs (Qds f (q : Int)) fun w => WV 100 w (Xy f (YI n q)) := by
  unfold Qds
  have h : loop (Qbq f (q : Int)) (([] : List Int), 0) = some (QW (YI n q)) := by
    have key := Qzb (step := Qbq f (q : Int)) n (fun k (a : List Int) => if q / 2 ^ k % 2 = 1 then a ++ [(k : Int)] else a) (fun a k => (a, (k : Int))) (fun a => a) (fun a k => a.length ≤ k) [] (Nat.le_refl _) (fun k hk a ha => by
      have e : (q : Int) / 2 ^ k = ((q / 2 ^ k : Nat) : Int) := by rw [Int.natCast_ediv, Int.natCast_pow]; rfl
      have hle : q / 2 ^ k ≤ q := Nat.div_le_self _ _
      have st : Qbq f (q : Int) (a, (k : Int)) = some (.inl ((if q / 2 ^ k % 2 = 1 then a ++ [(k : Int)] else a), ((k + 1 : Nat) : Int))) := by
        unfold Qbq
        dsimp only
        rw [hf.len, Xi hk, cond_true, Qic _ k (by omega), Option.bind_some, e]
        generalize q / 2 ^ k = Q at hle ⊢
        rw [Qiv (by omega)]
        have e2 : decide ((Q : Int) % 2 = 1) = decide (Q % 2 = 1) := by
          rw [Bool.eq_iff_iff, decide_eq_true_eq, decide_eq_true_eq]; omega
        rw [e2]
        by_cases h1 : Q % 2 = 1
        · rw [decide_eq_true h1, cond_true, Ye (by simp; omega), Option.bind_some, Xg k (by omega), if_pos h1]
        · rw [decide_eq_false h1, cond_false, Xg k (by omega), if_neg h1]
      refine ⟨st, ?_⟩
      split
      · simp; omega
      · omega) (fun a ha => by
      unfold Qbq
      dsimp only
      rw [hf.len, Xj]; rfl)
    have h1 := key.1
    have gen : ∀ m, rng (fun k (a : List Int) => if q / 2 ^ k % 2 = 1 then a ++ [(k : Int)] else a) [] m = QW (YI m q) := by
      intro m
      induction m with
      | zero => rfl
      | succ m ih =>
        simp only [rng]
        rw [ih]
        unfold YI QW
        rw [List.range_succ, List.filter_append]
        by_cases h1 : q / 2 ^ m % 2 = 1
        · simp [h1]
        · simp [h1]
    rw [gen] at h1
    exact h1
  rw [h, Option.bind_some]
  have hl := Qux n q
  refine Runs.bind (Runs.mono (Qof hf hb (YI n q) (YI n q) 6 (by omega) (by omega) (by omega) rfl (fun x hx => Qny hx) (fun x hx => Qny hx)) fun w hw => Runs.some ?_)
  rw [← Qvm f (by omega)]
  exact hw.mono (by omega)
theorem Quy {n k : Nat} (hn : n ≤ 3) (hk : k ≤ n) : YI n (2 ^ k - 1) = List.range k := by
  have : ∀ n, n < 4 → ∀ k, k < n + 1 → YI n (2 ^ k - 1) = List.range k := by decide
  exact this n (by omega) k (by omega)
theorem Qrw {n : Nat} (h1 : 1 ≤ n) (hn : n ≤ 3) : ZH n = (List.range (2 ^ n - 1)).map fun k => YI n (k + 1) := by
  have : ∀ n, n < 4 → 1 ≤ n → ZH n = (List.range (2 ^ n - 1)).map fun k => YI n (k + 1) := by decide
  exact this n (by omega) h1
theorem Qib {n : Nat} (h : n ≤ 3) : Jx .i64 1 (n : Int) = some ((2 ^ n : Nat) : Int) := Qia h
theorem QCi {f : List (List Int)} (hf : Sq f.length f) (hn : f.length ≤ 3) (hb : Bd f.length f 200000000000000) : Qhm f = some (Ys f) := by
  refine Runs.eq ?_
  unfold Qhm
  refine Runs.callR (R := fun o => match o with | .inl b => b = Ys f | .inr _ => Ys f = true) ?_ fun o ho => ?_
  · refine Runs.loop (fun s => ∃ k : Nat, s = (k : Int) ∧ 1 ≤ k ∧ k ≤ f.length + 1 ∧ ∀ j, j + 1 < k → 0 < Xy f (List.range (j + 1))) (fun s => f.length + 1 - s.toNat) ⟨1, rfl, Nat.le_refl _, by omega, fun j hj => by omega⟩ ?_
    rintro _ ⟨k, rfl, hk1, hk, hp⟩
    unfold Qrl
    by_cases hle : k ≤ f.length
    · have h8 := Qdm (n := k) (by omega)
      have hpos : 0 < 2 ^ k := Nat.pow_pos (by decide)
      rw [decide_eq_true (by omega), cond_true, Qib (by omega), Option.bind_some]
      have e1 : w64 (((2 ^ k : Nat) : Int) - 1) = ((2 ^ k - 1 : Nat) : Int) := by rw [Q7 (by omega)]; omega
      rw [e1]
      refine Runs.callR (Qpy hf hb hn (q := 2 ^ k - 1) (by omega)) fun w hw => ?_
      rw [Quy hn hle] at hw
      rw [Qis hw, Option.bind_some]
      rcases X2 (Xy f (List.range k)) with h | h | h
      · rw [h.2]
        refine Runs.some ?_
        show false = Ys f
        symm
        unfold Ys
        rw [List.all_eq_false]
        exact ⟨k - 1, by simp; omega, by rw [Nat.sub_add_cancel hk1]; simp; omega⟩
      · rw [h.2]
        refine Runs.some ?_
        show false = Ys f
        symm
        unfold Ys
        rw [List.all_eq_false]
        exact ⟨k - 1, by simp; omega, by rw [Nat.sub_add_cancel hk1]; simp; omega⟩
      · rw [h.2, Xg k (by omega)]
        refine Runs.some ⟨⟨k + 1, rfl, by omega, by omega, fun j hj => ?_⟩, by dsimp only; omega⟩
        by_cases hjk : j + 1 = k
        · rw [hjk]; exact h.1
        · exact hp j (by omega)
    · rw [decide_eq_false (by omega)]
      refine Runs.some ?_
      show Ys f = true
      unfold Ys
      rw [List.all_eq_true]
      intro j hj
      rw [List.mem_range] at hj
      exact decide_eq_true (hp j (by omega))
  · cases o with
    | inl b => exact Runs.jl ho
    | inr _ => exact Runs.jr (Runs.some ho.symm)
theorem QDf {p : LevitatePlant} (h : Rp p) {m : Nat} (hm : m < p.Maps.length) {f : List (List Int)} (hf : Sq p.Noise.length f) (hb : Bd p.Noise.length f 10000) {r : Arr2_Int} (hr : Rr r) :
    Qhy p (gm p m) f r = some (Yw p.Noise.length (dM p m f r)) := by
  refine Runs.eq ?_
  unfold Qhy
  have h3 := h.n3
  have h1 := h.n1
  have hx := rdd h hr
  have hml := h.sq _ (JI hm)
  have him : ∀ i k, i < p.Noise.length → k < p.Noise.length → loop (Qbp (gm p m) f (i : Int) (k : Int)) (0, 0) = some (YM p m f i k) := by
    intro i k hi hk
    have key : ∀ a, a ≤ p.Noise.length → loop (Qbp (gm p m) f (i : Int) (k : Int)) (0, 0) = loop (Qbp (gm p m) f (i : Int) (k : Int)) (w64 (QV (fun a => ge p m a i * QV (fun b => g2 f a b * ge p m b k) p.Noise.length) a), (a : Int)) := by
      intro a
      induction a with
      | zero => intro _; rfl
      | succ a ih =>
        intro ha
        rw [ih (by omega)]
        have inner : loop (Qhv (gm p m) f (i : Int) (k : Int) (a : Int)) (w64 (QV (fun a => ge p m a i * QV (fun b => g2 f a b * ge p m b k) p.Noise.length) a), 0) = some (w64 (QV (fun a => ge p m a i * QV (fun b => g2 f a b * ge p m b k) p.Noise.length) (a + 1))) := by
          rw [Qps p.Noise.length (fun b => ge p m a i * (g2 f a b * ge p m b k))]
          · rw [Qmp, Qdx]; rfl
          · intro b hb' acc
            unfold Qhv
            dsimp only
            rw [hf.len, Xi hb', cond_true, Zl (by omega), Option.bind_some, Zl (by rw [hf.len]; omega), Option.bind_some, Zl (by omega), Option.bind_some, XG (by rw [h.row_len hm (by omega)]; exact hi), Option.bind_some, XG (by rw [hf.row a (by omega)]; exact hb'), Option.bind_some, XG (by rw [h.row_len hm hb']; exact hk), Option.bind_some, Xg b (by omega), Qmv, Jf]
            congr 4
            show acc + gi (gr (gm p m) a) i * gi (gr f a) b * gi (gr (gm p m) b) k = acc + ge p m a i * (g2 f a b * ge p m b k)
            unfold ge g2; grind
          · intro acc
            unfold Qhv
            dsimp only
            rw [hf.len, Xj]; rfl
          · exact Qsr _
        rw [Yi (s' := (w64 (QV (fun a => ge p m a i * QV (fun b => g2 f a b * ge p m b k) p.Noise.length) (a + 1)), ((a + 1 : Nat) : Int)))]
        unfold Qbp
        dsimp only
        rw [hf.len, Xi (by omega), cond_true, inner, Option.bind_some, Xg a (by omega)]
    have hib := Qjw h hm hb hi hk
    rw [key _ (Nat.le_refl _), XR (o := YM p m f i k)]
    unfold Qbp
    dsimp only
    rw [hf.len, Xj]
    show (some (.inr (w64 (YM p m f i k))) : Option ((Int × Int) ⊕ Int)) = _
    rw [Q7 (by omega)]
  have hd : loop (Qhx p (gm p m) r f) ([], 0) = some (dM p m f r) := by
    refine JM p.Noise.length (fun i => Zp p.Noise.length (dI p m f r i)) (fun i hi acc hacc => ?_) (fun acc => ?_)
    · unfold Qhx
      dsimp only
      rw [hf.len, Xi hi, cond_true]
      have hrow : loop (Qhw p (gm p m) r f (i : Int)) ([], 0) = some (Zp p.Noise.length (dI p m f r i)) := by
        refine JM p.Noise.length (dI p m f r i) (fun k hk acc2 hacc2 => ?_) (fun acc2 => ?_)
        · unfold Qhw
          dsimp only
          have hb2 := Qeq h hm hb hr hi hk
          rw [hf.len, Xi hk, cond_true, him i k hi hk, Option.bind_some, Zl (by rw [hf.len]; exact hi), Option.bind_some, XG (by rw [hf.row i hi]; exact hk), Option.bind_some]
          rw [Q7 (x := r.e0 * p.Den) (by omega), Q7 (x := r.e0 * p.Den * p.Den) (by omega)]
          change Option.bind (XM acc2 [w64 (w64 (r.e0 * p.Den * p.Den * g2 f i k) - w64 (r.e1 * YM p m f i k))]) _ = _
          rw [Q7 (x := r.e0 * p.Den * p.Den * g2 f i k) (by omega), Q7 (x := r.e1 * YM p m f i k) (by omega), Q7 (by omega), Ye (by simp [hacc2]; omega), Option.bind_some, Xg k (by omega)]; rfl
        · unfold Qhw
          dsimp only
          rw [hf.len, Xj]; rfl
      rw [hrow, Option.bind_some, Ye (by simp [hacc]; omega), Option.bind_some, Xg i (by omega)]
    · unfold Qhx
      dsimp only
      rw [hf.len, Xj]; rfl
  rw [hd, Option.bind_some]
  have hsq : Sq p.Noise.length (dM p m f r) := Qry _ _
  have hbd : Bd p.Noise.length (dM p m f r) 200000000000000 := fun i k hi hk => by
    unfold dM; rw [Qcs hi hk]
    have := Qeq h hm hb hr hi hk
    unfold dI; omega
  have h8 := Qdm h3
  have hp0 : 0 < 2 ^ p.Noise.length := Nat.pow_pos (by decide)
  refine Runs.callR (R := fun o => match o with | .inl b => b = Yw p.Noise.length (dM p m f r) | .inr _ => Yw p.Noise.length (dM p m f r) = true) ?_ fun o ho => ?_
  · refine Runs.loop (fun s => ∃ k : Nat, s = (k : Int) ∧ 1 ≤ k ∧ k ≤ 2 ^ p.Noise.length ∧ ∀ j, j + 1 < k → 0 ≤ Xy (dM p m f r) (YI p.Noise.length (j + 1))) (fun s => 2 ^ p.Noise.length - s.toNat) ⟨1, rfl, Nat.le_refl _, by omega, fun j hj => by omega⟩ ?_
    rintro _ ⟨k, rfl, hk1, hk, hp⟩
    unfold Qro
    rw [hf.len, Qib h3, Option.bind_some]
    by_cases hlt : k < 2 ^ p.Noise.length
    · rw [Xi hlt, cond_true]
      refine Runs.callR (Qpy hsq hbd h3 (q := k) (by omega)) fun w hw => ?_
      rw [Qis hw, Option.bind_some]
      have hcase : (0 ≤ Xy (dM p m f r) (YI p.Noise.length k) ∧ decide (Int.sign (Xy (dM p m f r) (YI p.Noise.length k)) < 0) = false) ∨ (Xy (dM p m f r) (YI p.Noise.length k) < 0 ∧ decide (Int.sign (Xy (dM p m f r) (YI p.Noise.length k)) < 0) = true) := by
        rcases X2 (Xy (dM p m f r) (YI p.Noise.length k)) with h | h | h
        · right; exact ⟨h.1, by rw [h.2]; rfl⟩
        · left; exact ⟨by omega, by rw [h.2]; rfl⟩
        · left; exact ⟨by omega, by rw [h.2]; rfl⟩
      rcases hcase with h | h
      · rw [h.2, Xg k (by omega)]
        refine Runs.some ⟨⟨k + 1, rfl, by omega, by omega, fun j hj => ?_⟩, by dsimp only; omega⟩
        by_cases hjk : j + 1 = k
        · rw [hjk]; exact h.1
        · exact hp j (by omega)
      · rw [h.2]
        refine Runs.some ?_
        show false = Yw _ _
        symm
        unfold Yw
        rw [Qrw h1 h3, List.all_eq_false]
        exact ⟨YI p.Noise.length k, List.mem_map.2 ⟨k - 1, by simp; omega, by rw [Nat.sub_add_cancel hk1]⟩, by simp; omega⟩
    · obtain rfl : k = 2 ^ p.Noise.length := by omega
      rw [Xj]
      refine Runs.some ?_
      show Yw _ _ = true
      unfold Yw
      rw [Qrw h1 h3, List.all_eq_true]
      intro l hl
      obtain ⟨j, hj, rfl⟩ := List.mem_map.1 hl
      rw [List.mem_range] at hj
      exact decide_eq_true (hp j (by omega))
  · cases o with
    | inl b => exact Runs.jl ho
    | inr _ => exact Runs.jr (Runs.some ho.symm)
def cfV (p : LevitatePlant) (f : List (List Int)) (r : Arr2_Int) : Int × Int := if Ys f then (match ZP p f r with | some m => ((m : Int), 24) | none => (0, 0)) else (0, 20)
theorem Qrg {p : LevitatePlant} (h : Rp p) {f : List (List Int)} (hf : Rf f) (hn : f.length = p.Noise.length) {r : Arr2_Int} (hr : Rr r) : Qdo p f r = some (cfV p f r) := by
  have hsq : Sq p.Noise.length f := by rw [← hn]; exact hf.sq
  have hbd : Bd p.Noise.length f 10000 := by rw [← hn]; exact hf.bd
  unfold Qdo cfV
  rw [QCi hf.sq hf.n3 (hf.bd.mono (by decide)), Option.bind_some]
  cases Ys f with
  | false => rfl
  | true =>
    simp only [Bool.not_true, cond_false, if_true]
    rw [X0 p.Maps (fun m _ => (if Yw p.Noise.length (dM p m f r) then none else some m).map fun m : Nat => ((m : Int), (24 : Int)))]
    · rw [Option.bind_some, JN (fun m : Nat => ((m : Int), (24 : Int))) (fun m _ => if Yw p.Noise.length (dM p m f r) then none else some m)]
      change (Xl (oi ((ZP p f r).map _)) _) = _
      cases ZP p f r <;> rfl
    · intro m hm
      unfold Qlv
      rw [Xi hm, cond_true, Qez hm, Option.bind_some, QDf h hm hsq hbd hr, Option.bind_some, Xg m (by have := h.m4; omega)]
      cases Yw p.Noise.length (dM p m f r) <;> rfl
    · unfold Qlv
      rw [Xj]; rfl
theorem QCm (r : Arr2_Int) : Qhq r = some (if Za r then 0 else 2) := by
  unfold Qhq Za
  simp only [Qco, Option.bind_some]
  cases (decide (1 ≤ r.e1) && decide (r.e1 ≤ 1000)) <;> cases (decide (0 ≤ r.e0) && decide (r.e0 ≤ r.e1)) <;> rfl
def Qah (p : LevitatePlant) (f : List (List Int)) (r : Arr2_Int) : Int :=
  if (XQ p).2 ≠ 0 then (XQ p).2 else if ZT p f ≠ 0 then ZT p f else if Za r then (cfV p f r).2 else 2
theorem Qrf {p : LevitatePlant} (h : Sh p) {f : List (List Int)} (hl : f.length < 1073741824) (r : Arr2_Int) : Qhc p f r = some (Qah p f r) := by
  unfold Qhc Qah
  rw [QCk p h, Option.bind_some]
  by_cases h0 : (XQ p).2 = 0
  · have hp := ckP_right.1 h0
    rw [decide_eq_true h0, if_neg (by simpa using h0)]
    simp only [Bool.not_true, cond_false]
    rw [QCl p f hl, Option.bind_some]
    by_cases h1 : ZT p f = 0
    · obtain ⟨hf, hn⟩ := pfE_zero.1 h1
      rw [decide_eq_true h1, if_neg (by simpa using h1)]
      simp only [Bool.not_true, cond_false]
      rw [QCm, Option.bind_some]
      cases hr : Za r with
      | false => rfl
      | true =>
        simp only [if_true, decide_true, Bool.not_true, cond_false]
        rw [Qrg hp hf hn (rateB_iff.1 hr)]; rfl
    · rw [decide_eq_false h1, if_pos h1]; rfl
  · rw [decide_eq_false h0, if_pos h0]; rfl
theorem QCo {p : LevitatePlant} (h : Rp p) {f : List (List Int)} (hf : Sq p.Noise.length f) (hb : Bd p.Noise.length f 10000) : Qhu p f = some (YW p f) := by
  unfold Qhu
  have h3 := h.n3
  have h8 := Qdm h3
  have vb : ∀ s, -(3 * (10001 * (3 * (10000 * 10001)))) ≤ X4 p.Noise.length f (xv p s) ∧ X4 p.Noise.length f (xv p s) ≤ 3 * (10001 * (3 * (10000 * 10001))) := fun s => Qmu h3 hb (by decide) (fun k hk => Qmx h s hk)
  have hx : ∀ s : Nat, s < 8 → loop (Qht f p (s : Int)) ([], 0) = some (xv p s) := by
    intro s hs
    refine JM p.Noise.length _ (fun k hk acc hacc => ?_) (fun acc => ?_)
    · unfold Qht
      dsimp only
      have hb := h.noise_b hk
      rw [hf.len, Xi hk, cond_true, XG hk, Option.bind_some, Qic _ k (by omega), Option.bind_some]
      have e : (s : Int) / 2 ^ k = ((s / 2 ^ k : Nat) : Int) := by rw [Int.natCast_ediv, Int.natCast_pow]; rfl
      have hle : s / 2 ^ k ≤ s := Nat.div_le_self _ _
      have e3 : ZV s k = 1 - 2 * ((s / 2 ^ k % 2 : Nat) : Int) := rfl
      rw [e, e3]
      generalize s / 2 ^ k = Q at *
      rw [Qiv (by omega), Q7 (x := gi p.Noise k + 1) (by omega), Q7 (x := 0 - (gi p.Noise k + 1)) (by omega), Xg k (by omega), Ye (by simp [hacc]; omega), Ye (by simp [hacc]; omega)]
      have e2 : decide ((Q : Int) % 2 = 1) = decide (Q % 2 = 1) := by rw [Bool.eq_iff_iff, decide_eq_true_eq, decide_eq_true_eq]; omega
      rw [e2]
      by_cases h1 : Q % 2 = 1
      · rw [decide_eq_true h1, cond_true, Option.bind_some, h1]
        have : 0 - (gi p.Noise k + 1) = (gi p.Noise k + 1) * (1 - 2 * ((1 : Nat) : Int)) := by omega
        rw [this]
      · rw [decide_eq_false h1, cond_false, Option.bind_some]
        have h0 : Q % 2 = 0 := by omega
        rw [h0]
        have : gi p.Noise k + 1 = (gi p.Noise k + 1) * (1 - 2 * ((0 : Nat) : Int)) := by omega
        rw [← this]
    · unfold Qht
      dsimp only
      rw [hf.len, Xj]; rfl
  have key : ∀ s, s ≤ 2 ^ p.Noise.length → loop (Qbn f p) (0, 0) = loop (Qbn f p) (wst (fun s => X4 p.Noise.length f (xv p s)) s, (s : Int)) := by
    intro s
    induction s with
    | zero => intro _; rfl
    | succ s ih =>
      intro hs
      rw [ih (by omega)]
      refine Yi ?_
      unfold Qbn
      dsimp only
      rw [hf.len, Qib h3, Option.bind_some, Xi (by omega), cond_true, hx s (by omega), Option.bind_some, QCn hf (by unfold xv; rw [Qaa]) (by omega), Option.bind_some, Xg s (by omega)]
      have := vb s
      rw [Q7 (by omega)]
      have e0 : decide ((s : Int) = 0) = decide (s = 0) := YZ _ 0
      rw [e0]
      simp only [wst]
      by_cases h1 : s = 0
      · simp [h1]
      · by_cases h2 : wst (fun s => X4 p.Noise.length f (xv p s)) s < X4 p.Noise.length f (xv p s)
        · simp [h1, h2]
        · simp [h1, h2]
  rw [key _ (Nat.le_refl _)]
  have : Qbn f p (wst (fun s => X4 p.Noise.length f (xv p s)) (2 ^ p.Noise.length), ((2 ^ p.Noise.length : Nat) : Int)) = some (.inr (wst (fun s => X4 p.Noise.length f (xv p s)) (2 ^ p.Noise.length))) := by
    unfold Qbn
    dsimp only
    rw [hf.len, Qib h3, Option.bind_some, Xj]; rfl
  rw [XR this]; rfl
theorem Qrh {level worst : Int} {r : Arr2_Int} (hr : Rr r) (hl : 0 ≤ level ∧ level ≤ 100000000000000) (hw : -9002000000000000 ≤ worst ∧ worst ≤ 9002000000000000) : Qdq r worst level = some (Yn level worst r) := by
  refine Runs.eq ?_
  unfold Qdq
  have h0 := hr.e0; have h1 := hr.e1
  have a3 := XU (a := 4 * r.e0) (b := r.e1) (A := 4000) (B := 1000) (by omega) (by omega)
  rw [Q7 (x := r.e1 - r.e0) (by omega), Q7 (x := 4 * r.e0) (by omega), Q7 (x := 4 * r.e0 * r.e1) (by omega)]
  refine Runs.callR (R := fun o : Int × List Int => WV 20 ⟨o.1, o.2⟩ ((r.e1 - r.e0) * level - r.e1 * worst)) ?_ ?_
  · refine Runs.callR (Z2 (n := r.e1 - r.e0) (by omega)) fun w1 h1' => ?_
    refine Runs.callR (Z2 (n := level) (by omega)) fun w2 h2' => ?_
    refine Runs.callR (Qaf h1' h2' (by decide) (by decide)) fun w3 h3' => ?_
    refine Runs.callR (Z2 (n := r.e1) (by omega)) fun w4 h4' => ?_
    refine Runs.callR (Z2 (n := worst) (by omega)) fun w5 h5' => ?_
    refine Runs.callR (Qaf h4' h5' (by decide) (by decide)) fun w6 h6' => ?_
    exact Runs.callR (Qnn h3' h6' (by decide)) fun A hA => Runs.some (hA.mono (by decide))
  rintro ⟨A1, A2⟩ hA
  dsimp only at hA
  dsimp only
  refine Runs.callR (Z2 (n := 4 * r.e0 * r.e1) (by omega)) fun w7 h7' => ?_
  refine Runs.callR (Z2 (n := level) (by omega)) fun w8 h8' => ?_
  refine Runs.callR (Z2 (n := worst) (by omega)) fun w9 h9' => ?_
  refine Runs.callR (Qaf h8' h9' (by decide) (by decide)) fun w10 h10' => ?_
  refine Runs.callR (Qaf h7' h10' (by decide) (by decide)) fun B hB => ?_
  rw [Qis hA, Option.bind_some]
  have e4 : 4 * r.e0 * r.e1 * (level * worst) = 4 * r.e0 * r.e1 * level * worst := by rw [Int.mul_assoc (4 * r.e0 * r.e1)]
  rw [e4] at hB
  have hz : decide (0 ≤ Int.sign ((r.e1 - r.e0) * level - r.e1 * worst)) = decide (0 ≤ (r.e1 - r.e0) * level - r.e1 * worst) := by
    rcases X2 ((r.e1 - r.e0) * level - r.e1 * worst) with h | h | h <;> rw [h.2, Bool.eq_iff_iff, decide_eq_true_eq, decide_eq_true_eq] <;> omega
  rw [hz]
  unfold Yn
  by_cases hc : 0 ≤ (r.e1 - r.e0) * level - r.e1 * worst
  · rw [decide_eq_true hc]
    simp only [cond_true]
    refine Runs.callR (Qaf hA hA (by decide) (by decide)) fun C hC => ?_
    rw [Quf (hC.mono (M := 100) (by decide)) (hB.mono (M := 100) (by decide)) (by decide), Option.bind_some]
    refine Runs.some ?_
    simp only [Bool.true_and]
    generalize 4 * r.e0 * r.e1 * level * worst = b
    generalize ((r.e1 - r.e0) * level - r.e1 * worst) * ((r.e1 - r.e0) * level - r.e1 * worst) = a
    rcases X2 (a - b) with h | h | h <;> rw [h.2, Bool.eq_iff_iff, decide_eq_true_eq, decide_eq_true_eq] <;> omega
  · rw [decide_eq_false hc]
    simp only [cond_false, Option.bind_some, Bool.false_and]
    exact Runs.some rfl
theorem Qfe {L L' W : Int} {r : Arr2_Int} (hr : Rr r) (hW : 0 ≤ W) (hL : 0 ≤ L) (hle : L ≤ L') (h : Yn L W r = true) : Yn L' W r = true := by
  have h0 := hr.e0
  have h1 := hr.e1
  unfold Yn at h ⊢
  simp only [Bool.and_eq_true, decide_eq_true_eq] at h ⊢
  obtain ⟨ha, hb⟩ := h
  generalize hd : r.e1 - r.e0 = d at ha hb ⊢
  have hd0 : 0 ≤ d := by omega
  have hrw : 0 ≤ r.e1 * W := Int.mul_nonneg (by omega) hW
  have hdl : d * L ≤ d * L' := Int.mul_le_mul_of_nonneg_left hle hd0
  refine ⟨by omega, ?_⟩
  -- a, the step, and what they come to
  generalize hA : d * L - r.e1 * W = A at ha hb
  obtain ⟨δ, hδ⟩ : ∃ δ, L' = L + δ := ⟨L' - L, by omega⟩
  have hδ0 : 0 ≤ δ := by omega
  have eA : d * L' - r.e1 * W = A + d * δ := by rw [hδ, Int.mul_add]; omega
  rw [eA]
  have key : 4 * r.e0 * r.e1 * W ≤ 2 * (A * d) ∨ L = 0 := by
    rcases Int.lt_or_le 0 L with hp | hp
    · left
      have q1 : A * A ≤ A * (d * L) := Int.mul_le_mul_of_nonneg_left (by omega) ha
      have q2 : 4 * r.e0 * r.e1 * W * L ≤ A * d * L := by
        have e1 : 4 * r.e0 * r.e1 * L * W = 4 * r.e0 * r.e1 * W * L := by grind
        have e2 : A * (d * L) = A * d * L := by grind
        omega
      have q3 := Int.le_of_mul_le_mul_right q2 hp
      have q4 : 0 ≤ A * d := Int.mul_nonneg ha hd0
      omega
    · right; omega
  have hq : 0 ≤ d * δ * (d * δ) := Zs _
  have hW' : 4 * r.e0 * r.e1 * W ≤ 2 * (A * d) := by
    rcases key with h | h
    · exact h
    · subst h
      have : r.e1 * W = 0 := by rw [Int.mul_zero] at hA; omega
      have hw0 : W = 0 := by
        rcases Int.lt_or_le 0 W with hp | hp
        · have := Int.mul_pos (show 0 < r.e1 by omega) hp; omega
        · omega
      subst hw0
      rw [Int.mul_zero]
      have : 0 ≤ A * d := Int.mul_nonneg ha hd0
      omega
  have q5 : 4 * r.e0 * r.e1 * W * δ ≤ 2 * (A * d) * δ := Int.mul_le_mul_of_nonneg_right hW' hδ0
  have e1 : 4 * r.e0 * r.e1 * L' * W = 4 * r.e0 * r.e1 * L * W + 4 * r.e0 * r.e1 * W * δ := by rw [hδ]; grind
  have e2 : (A + d * δ) * (A + d * δ) = A * A + 2 * (A * d) * δ + d * δ * (d * δ) := by grind
  rw [e1, e2]
  omega
def LvR (W : Int) (r : Arr2_Int) (n : Int) : Prop := 0 ≤ n ∧ n ≤ 100000000000000 ∧ Yn n W r = true ∧ (0 < n → Yn (n - 1) W r = false)
theorem LvR.one {W : Int} {r : Arr2_Int} (hr : Rr r) (hW : 0 ≤ W) {a b : Int} (ha : LvR W r a) (hb : LvR W r b) : a = b := by
  obtain ⟨a0, a1, a2, a3⟩ := ha
  obtain ⟨b0, b1, b2, b3⟩ := hb
  rcases Int.lt_trichotomy a b with h | h | h
  · have := b3 (by omega); rw [Qfe hr hW a0 (by omega) a2] at this; cases this
  · exact h
  · have := a3 (by omega); rw [Qfe hr hW b0 (by omega) b2] at this; cases this
theorem QCj {W : Int} {r : Arr2_Int} (hr : Rr r) (hw : -9002000000000000 ≤ W ∧ W ≤ 9002000000000000) : Runs (Qhn r W) fun q => (q.2 = true ∧ LvR W r q.1) ∨ (q = (0, false) ∧ Yn 100000000000000 W r = false) := by
  unfold Qhn
  rw [Qrh hr (by decide) hw, Option.bind_some]
  cases hk : Yn 100000000000000 W r with
  | false => exact Runs.bif_t rfl (Runs.some (.inr ⟨rfl, rfl⟩))
  | true =>
    refine Runs.bif_f rfl ?_
    refine Runs.callR (R := fun n => LvR W r n) ?_ fun n hn => Runs.some (.inl ⟨rfl, hn⟩)
    refine Runs.loop (fun s => -1 ≤ s.1 ∧ s.1 < s.2 ∧ s.2 ≤ 100000000000000 ∧ Yn s.2 W r = true ∧ (0 ≤ s.1 → Yn s.1 W r = false)) (fun s => (s.2 - s.1).toNat) ⟨by decide, by decide, by decide, hk, fun h => by exfalso; change (0 : Int) ≤ -1 at h; omega⟩ ?_
    rintro ⟨lo, hi⟩ ⟨h1, h2, h3, h4, h5⟩
    dsimp only at h1 h2 h3 h4 h5
    unfold Qrn
    dsimp only
    rw [Q7 (x := lo + 1) (by omega)]
    by_cases hd : lo + 1 < hi
    · have e2 : Int.tdiv (lo + hi) 2 = (lo + hi) / 2 := Int.tdiv_eq_ediv_of_nonneg (by omega)
      rw [decide_eq_true hd, cond_true, Q7 (x := lo + hi) (by omega), e2, Q7 (x := (lo + hi) / 2) (by omega), Qrh hr (by omega) hw, Option.bind_some]
      cases hm : Yn ((lo + hi) / 2) W r with
      | true => exact Runs.some ⟨⟨h1, by dsimp only; omega, by dsimp only; omega, hm, h5⟩, by dsimp only; omega⟩
      | false => exact Runs.some ⟨⟨by dsimp only; omega, by dsimp only; omega, h3, h4, fun _ => hm⟩, by dsimp only; omega⟩
    · rw [decide_eq_false hd]
      refine Runs.some ⟨by omega, h3, h4, fun hp => ?_⟩
      have : hi - 1 = lo := by omega
      rw [this]; exact h5 (by omega)
end Go.Gw

end
section
set_option maxRecDepth 8192
set_option linter.unusedSimpArgs false
set_option linter.unusedVariables false
namespace Go.Gw
open Go

def RtR (A D n : Int) : Prop := 0 ≤ n ∧ n * n * D ≤ A ∧ A < (n + 1) * (n + 1) * D
theorem RtR.one {A D : Int} (hD : 0 < D) {a b : Int} (ha : RtR A D a) (hb : RtR A D b) : a = b := by
  obtain ⟨a0, a1, a2⟩ := ha
  obtain ⟨b0, b1, b2⟩ := hb
  have key : ∀ {a b : Int}, 0 ≤ a → 0 ≤ b → a * a * D ≤ A → A < (b + 1) * (b + 1) * D → a ≤ b := by
    intro a b h0 h1 h2 h3
    rcases Int.lt_or_le b a with h | h
    · exfalso
      have q1 : (b + 1) * (b + 1) ≤ a * a := Int.mul_le_mul (by omega) (by omega) (by omega) (by omega)
      have q2 := Int.mul_le_mul_of_nonneg_right q1 (Int.le_of_lt hD)
      omega
    · exact h
  have h1 := key a0 b0 a1 b2
  have h2 := key b0 a0 b1 a2
  omega
end Go.Gw

end
section
set_option maxRecDepth 8192
set_option linter.unusedSimpArgs false
set_option linter.unusedVariables false
namespace Go.Gw
open Go

def Y8 (p : LevitatePlant) (f : List (List Int)) : Int := if (XQ p).2 ≠ 0 then (XQ p).2 else ZT p f
theorem QBx {p : LevitatePlant} (h : Sh p) {f : List (List Int)} (hl : f.length < 1073741824) : Qcy p f = some (⟨p⟩, Y8 p f) := by
  rw [Qqy p f h hl]
  unfold Y8 ZT
  by_cases h1 : (XQ p).2 = 0 <;> by_cases h2 : YY f = 0 <;> simp [h1, h2]
theorem Qgz {p : LevitatePlant} {f : List (List Int)} (h : Y8 p f = 0) : Rp p ∧ Rf f ∧ f.length = p.Noise.length := by
  unfold Y8 at h
  by_cases h1 : (XQ p).2 = 0
  · rw [if_neg (by simpa using h1)] at h
    exact ⟨ckP_right.1 h1, pfE_zero.1 h⟩
  · rw [if_pos h1] at h; exact absurd h h1
theorem QDg {n m i : Nat} {row : List Int} {r : LevitateMark × Int} (h : Yy n m i row = some r) : r.2 ≠ 24 := by
  unfold Yy at h
  split at h
  · cases h; show (10 : Int) ≠ 24; decide
  · split at h
    · cases h
    · cases h; show (2 : Int) ≠ 24; decide
theorem Qzh {n m : Nat} {rows : List (List Int)} {r : LevitateMark × Int} (h : Y1 n m rows = some r) : r.2 ≠ 24 := by
  unfold Y1 at h
  split at h
  · cases h; show (10 : Int) ≠ 24; decide
  · obtain ⟨i, hi, h2⟩ := Y5 h
    exact QDg h2
theorem Qvf (p : LevitatePlant) : (XQ p).2 ≠ 24 := by
  unfold XQ
  split
  · decide
  split
  · decide
  split
  · decide
  split
  · decide
  split
  · decide
  split
  · decide
  split
  · rename_i r h
    obtain ⟨i, hi, h2⟩ := Y5 h
    exact Qzh h2
  · decide
theorem Qwm (f : List (List Int)) : YY f ≠ 24 := by
  unfold YY
  split
  · decide
  split
  · decide
  split
  · decide
  split
  · rename_i e h
    obtain ⟨i, hi, h2⟩ := Y5 h
    unfold Zk at h2
    obtain ⟨k, hk, h3⟩ := Y5 h2
    split at h3
    · split at h3
      · cases h3
      · cases h3; decide
    · cases h3; decide
  · decide
theorem QBw {p : LevitatePlant} {f : List (List Int)} : Y8 p f ≠ 24 := by
  unfold Y8
  split
  · exact Qvf p
  · unfold ZT
    split
    · exact Qwm f
    · split <;> decide
def YH (p : LevitatePlant) (f : List (List Int)) (r : Arr2_Int) : Int × Int := if Y8 p f = 0 then Y9 p f r else (0, Y8 p f)
theorem Qlt {p : LevitatePlant} (h : Sh p) {f : List (List Int)} (hl : f.length < 1073741824) (r : Arr2_Int) : J3 p f r = some (⟨p⟩, YH p f r) := by
  by_cases h0 : Y8 p f = 0
  · obtain ⟨hp, hf, hn⟩ := Qgz h0
    rw [Qrd hp hf hn]
    unfold YH; rw [if_pos h0]
  · unfold J3 YH
    rw [QBx h hl, if_neg h0]
    have e : ∀ b c : Bool, (bif b then some c else some default) = some (b && c) := by intro b c; cases b <;> rfl
    simp only [Option.bind_some, J5, e, Zf, ZN]
    simp [h0]
theorem Jw {p : LevitatePlant} {f : List (List Int)} {r : Arr2_Int} : (YH p f r).2 = Qah p f r := by
  unfold YH Qah Y8 Y9 cfV
  by_cases h1 : (XQ p).2 = 0
  · by_cases h2 : ZT p f = 0
    · simp only [h1, h2, ne_eq, not_true_eq_false, if_false, if_true]
      cases Za r <;> cases Ys f <;> cases ZP p f r <;> rfl
    · simp [h1, h2]
  · simp [h1]
theorem Qwv {p : LevitatePlant} (h : Sh p) {f : List (List Int)} (hl : f.length < 1073741824) (r : Arr2_Int) : Qfk p f r = some (YH p f r) := by
  unfold Qfk
  rw [Qlt h hl]; rfl
theorem Qwy {p : LevitatePlant} (h : Sh p) {f : List (List Int)} (hl : f.length < 1073741824) {r : Arr2_Int} (h0 : (YH p f r).2 ≠ 0) : Z6 p f r = some (0, (YH p f r).2) := by
  unfold Z6
  rw [Qlt h hl, Option.bind_some, decide_eq_false h0]; rfl
theorem Qwz {p : LevitatePlant} (h : Sh p) {f : List (List Int)} (hl : f.length < 1073741824) {r : Arr2_Int} (h0 : (YH p f r).2 = 0) : Runs (Z6 p f r) fun q => (q.2 = 0 ∧ LvR (YW p f) r q.1) ∨ (q = (0, 12) ∧ Yn 100000000000000 (YW p f) r = false) := by
  unfold Z6
  rw [Qlt h hl, Option.bind_some]
  have h1 : Y8 p f = 0 := by
    rcases Classical.em (Y8 p f = 0) with h | h
    · exact h
    · unfold YH at h0; rw [if_neg h] at h0; exact h0
  obtain ⟨hp, hf, hn⟩ := Qgz h1
  have hr : Rr r := QCe (p := p) (f := f) (by unfold YH at h0; rw [if_pos h1] at h0; exact h0)
  have hbd : Bd p.Noise.length f 10000 := by rw [← hn]; exact hf.bd
  have hw := Qsw hp hbd
  rw [decide_eq_true h0]
  refine Runs.bif_f rfl ?_
  change Runs (Option.bind (Qbf ⟨p⟩ f) _) _
  rw [Qsy hp (by rw [← hn]; exact hf.sq) hbd, Option.bind_some]
  refine Runs.callR (Qoy hr hw) fun q hq => ?_
  obtain ⟨q0, q1, q2, q3, q4⟩ := hq
  rw [q4]
  by_cases hle : q.1 ≤ 100000000000000
  · rw [decide_eq_true hle]
    exact Runs.bif_f rfl (Runs.some (.inl ⟨rfl, q0, hle, q2 hle, q3⟩))
  · rw [decide_eq_false hle]
    refine Runs.bif_t rfl (Runs.some (.inr ⟨rfl, ?_⟩))
    have := q3 (by omega)
    have e : q.1 - 1 = 100000000000000 := by omega
    rw [e] at this; exact this
end Go.Gw

end
