/- The law FeedSums in plain words. No condition. -/
import Derived.Test.YtbplgfhjpeeieaaGwAwake
import Derived.Test.YtbplgfhjpeeieaaGwLawFeedSums
set_option linter.unusedVariables false
set_option linter.unusedSimpArgs false
set_option linter.unusedSectionVars false
set_option maxRecDepth 4096
namespace Go.Gw
open Go
def Zx (g : Nat → Int) : Nat → Int
  | 0 => 0
  | k + 1 => Zx g k + g k
theorem Qar (g : Nat → Int) (k : Nat) : Zx g (k + 1) = Zx g k + g k := rfl
theorem Qwv (g : Nat → Int) : ∀ m, ((List.range m).map g).sum = Zx g m
  | 0 => rfl
  | m + 1 => by rw [List.range_succ, List.map_append, List.sum_append, Qwv g m, Qar]; simp
theorem Qnd (f g : Nat → Int) : ∀ m, Zx (fun k => f k + g k) m = Zx f m + Zx g m
  | 0 => rfl
  | m + 1 => by rw [Qar, Qar, Qar, Qnd f g m]; omega
theorem Qhx (c : Int) (g : Nat → Int) : ∀ m, Zx (fun k => c * g k) m = c * Zx g m
  | 0 => by simp [Zx]
  | m + 1 => by rw [Qar, Qar, Qhx c g m, Int.mul_add]
theorem Qne (a c : Int) : ∀ m : Nat, Zx (fun k => if a = (k : Int) then c else 0) m = if 0 ≤ a ∧ a < m then c else 0
  | 0 => by simp only [Zx]; rw [if_neg (by omega)]
  | m + 1 => by
    rw [Qar, Qne a c m]
    by_cases h : a = (m : Int)
    · rw [if_neg (by omega), if_pos h, if_pos (by omega)]; omega
    · rw [if_neg h]
      by_cases h2 : 0 ≤ a ∧ a < (m : Int)
      · rw [if_pos h2, if_pos (by omega)]; omega
      · rw [if_neg h2, if_neg (by omega)]; omega
theorem QKq {s : FeedSection} {n : Nat} (h : YI s n = 0) : (s.Left = -1 ∨ 0 ≤ s.Left ∧ s.Left ≤ (n : Int) - 1) ∧ (s.Right = -1 ∨ 0 ≤ s.Right ∧ s.Right ≤ (n : Int) - 1) ∧ ¬ (s.Left = -1 ∧ s.Right = -1) ∧ s.Left ≠ s.Right ∧ (s.Left = -1 → s.Share = 0) ∧ (s.Right = -1 → s.Share = 1000) := by
  unfold YI at h
  have key : ∀ l r il ir eq sh lo s0 s1 : Bool, (!(decide (Qdx l r il ir eq sh lo s0 s1 = 0)) || ((l || il) && ((r || ir) && (!(l && r) && (!eq && ((!l || s0) && (!r || s1))))))) = true := by decide +kernel
  have k3 := key (decide (s.Left = -1)) (decide (s.Right = -1)) (decide (0 ≤ s.Left) && decide (s.Left ≤ (n : Int) - 1)) (decide (0 ≤ s.Right) && decide (s.Right ≤ (n : Int) - 1)) (decide (s.Left = s.Right)) (decide (0 ≤ s.Share) && decide (s.Share ≤ 1000)) (decide (0 ≤ s.Loss) && decide (s.Loss ≤ 500)) (decide (s.Share = 0)) (decide (s.Share = 1000))
  rw [decide_eq_true h] at k3
  simp only [Bool.not_true, Bool.false_or, Bool.and_eq_true, Bool.or_eq_true, decide_eq_true_eq, Bool.not_eq_true', Bool.and_eq_false_iff, decide_eq_false_iff_not] at k3
  omega
theorem QKy {s : FeedSection} {n : Nat} (h : YI s n = 0) : Zx (fun k => X6 s (k : Int)) n = 1000 := by
  obtain ⟨h1, h2, h3, h4, h5, h6⟩ := QKq h
  have e : (fun k : Nat => X6 s (k : Int)) = fun (k : Nat) => (if s.Left = (k : Int) then s.Share else 0) + (if s.Right = (k : Int) then 1000 - s.Share else 0) := by
    funext k
    unfold X6
    by_cases a : s.Left = (k : Int)
    · rw [if_pos a, if_pos a, if_neg (by omega)]; omega
    · rw [if_neg a, if_neg a]
      by_cases b : s.Right = (k : Int)
      · rw [if_pos b]; omega
      · rw [if_neg b]; omega
  rw [e, Qnd, Qne, Qne]
  by_cases a : s.Left = -1
  · rw [if_neg (by omega), if_pos (by omega), h5 a]; omega
  · by_cases b : s.Right = -1
    · rw [if_pos (by omega), if_neg (by omega), h6 b]; omega
    · rw [if_pos (by omega), if_pos (by omega)]; omega
def Zi (secs : List FeedSection) (f : Nat → Int) : Nat → Int
  | 0 => 0
  | j + 1 => Zi secs f j + (secs[j]?.map fun s => XQ s (f j)).getD 0
theorem Qjp (secs : List FeedSection) (f : Nat → Int) (j : Nat) : Zi secs f (j + 1) = Zi secs f j + (secs[j]?.map fun s => XQ s (f j)).getD 0 := rfl
theorem Qgh (secs : List FeedSection) (f : Nat → Int) (k j : Nat) : X2 secs f k (j + 1) = X2 secs f k j + (secs[j]?.map fun s => XQ s (f j) * X6 s (k : Int)).getD 0 := rfl
theorem Qte {secs : List FeedSection} {n : Nat} (hs : ∀ s ∈ secs, YI s n = 0) (f : Nat → Int) : ∀ j, Zx (fun k => X2 secs f k j) n = 1000 * Zi secs f j
  | 0 => by
    have : (fun k => X2 secs f k 0) = fun _ => 0 * (0 : Int) := rfl
    rw [this, Qhx 0 (fun _ => 0)]; simp [Zi]
  | j + 1 => by
    have e : (fun k => X2 secs f k (j + 1)) = fun k => X2 secs f k j + (secs[j]?.map fun s => XQ s (f j) * X6 s (k : Int)).getD 0 := rfl
    rw [e, Qnd, Qte hs f j, Qjp]
    cases hj : secs[j]? with
    | none =>
      have : (fun k : Nat => ((none : Option FeedSection).map fun s => XQ s (f j) * X6 s (k : Int)).getD 0) = fun _ => 0 * (0 : Int) := rfl
      rw [this, Qhx 0 (fun _ => 0)]; simp
    | some s =>
      have : (fun k : Nat => ((some s).map fun s => XQ s (f j) * X6 s (k : Int)).getD 0) = fun (k : Nat) => XQ s (f j) * X6 s (k : Int) := rfl
      rw [this, Qhx, QKy (hs s (List.mem_of_getElem? hj))]
      simp only [Option.map_some, Option.getD_some]
      omega
theorem QAa {s : FeedSection} {p : Int} (hp : -160000 ≤ p ∧ p ≤ 160000) : Qci p = some (if p < 0 then -p else p) ∧ XQ s p = p * 1000 + (if p < 0 then -p else p) * s.Loss := by
  constructor
  · unfold Qci
    rw [Yr (by omega)]
    congr 1
    split <;> split <;> omega
  · unfold XQ
    split
    · rw [Int.mul_sub, Int.neg_mul]; omega
    · rw [Int.mul_add]
def Yk (s : FeedSection) : FeedSection := FeedSection.mk s.Left s.Right s.Share 0
def Xv (n : FeedNet) : FeedNet := FeedNet.mk n.Stations (n.Sections.map Yk) n.Trains
theorem QGj {s : FeedSection} {n : Nat} (h : YI s n = 0) : YI (Yk s) n = 0 := by
  unfold YI at h ⊢
  have key : ∀ l r il ir eq sh lo s0 s1 : Bool, Qdx l r il ir eq sh lo s0 s1 = 0 → Qdx l r il ir eq sh true s0 s1 = 0 := by decide +kernel
  exact key _ _ _ _ _ _ _ _ _ h
theorem Qfx {f g : Nat → Int} {m : Nat} (h : ∀ k, k < m → f k = 0) : XH f m = none := by
  rcases Jb f m with ⟨h1, _⟩ | ⟨i, _, hi, hne, _⟩
  · exact h1
  · exact absurd (h i hi) hne
theorem Qtg {n : FeedNet} (h : (YW n).2 = 0) : (YW (Xv n)).2 = 0 := by
  have hn := Qlx h
  have hst : ∀ k, k < n.Stations.length → Y0 n k = 0 := by
    intro k hk
    unfold YW at h
    split at h
    · cases h
    · split at h
      · cases h
      · rcases Jb (Y0 n) n.Stations.length with ⟨a1, a2⟩ | ⟨i, a1, a2, a3, _⟩
        · exact a2 k hk
        · rw [a1] at h; exact absurd h a3
  have htr : ∀ k, k < n.Trains.length → Y2 n k = 0 := by
    intro k hk
    unfold YW at h
    split at h
    · cases h
    · split at h
      · cases h
      · rcases Jb (Y0 n) n.Stations.length with ⟨a1, a2⟩ | ⟨i, a1, a2, a3, _⟩
        · rw [a1] at h
          rcases Jb (Y5 n) n.Sections.length with ⟨b1, b2⟩ | ⟨i, b1, b2, b3, _⟩
          · rw [b1] at h
            rcases Jb (Y2 n) n.Trains.length with ⟨c1, c2⟩ | ⟨i, c1, c2, c3, _⟩
            · exact c2 k hk
            · rw [c1] at h; exact absurd h c3
          · rw [b1] at h; exact absurd h b3
        · rw [a1] at h; exact absurd h a3
  have l1 : (Xv n).Sections.length = n.Sections.length := by simp [Xv]
  have e1 : XH (Y0 (Xv n)) (Xv n).Stations.length = none := Qfx (g := Y0 n) fun k hk => hst k hk
  have e2 : XH (Y5 (Xv n)) (Xv n).Sections.length = none := Qfx (g := Y5 n) fun k hk => by
    rw [l1] at hk
    have h2 := hn.sec _ (List.getElem_mem hk)
    rw [show Y5 (Xv n) k = YI (Xv n).Sections[k] (Xv n).Stations.length from Zu _ _ _ (by rw [l1]; exact hk)]
    simp only [Xv, List.getElem_map]
    exact QGj h2
  have e3 : XH (Y2 (Xv n)) (Xv n).Trains.length = none := Qfx (g := Y2 n) fun k hk => by
    have := htr k hk
    unfold Y2 at this ⊢
    rw [l1]
    exact this
  have g1 := hn.st0
  have g2 := hn.st6
  have g3 := hn.se0
  have g4 := hn.se10
  have g5 := hn.tr6
  unfold YW
  rw [if_neg (by rw [l1]; show ¬ (n.Stations.length = 0 ∨ _); omega), if_neg (by rw [l1]; show ¬ (6 < n.Stations.length ∨ _ ∨ 6 < n.Trains.length); omega), e1, e2, e3]
theorem QGk {n : FeedNet} (h : NetS n) : NetS (Xv n) := ⟨h.st, by simp only [Xv, List.length_map]; exact h.se, h.tr, h.sn, h.tn⟩
theorem Qth {secs : List FeedSection} (f g : Nat → Int) (k : Nat) : ∀ j, X2 (secs.map Yk) (fun i => f i + g i) k j = X2 (secs.map Yk) f k j + X2 (secs.map Yk) g k j
  | 0 => rfl
  | j + 1 => by
    rw [Qgh, Qgh, Qgh, Qth f g k j]
    rw [List.getElem?_map]
    cases secs[j]? with
    | none => simp
    | some s =>
      have e : ∀ p, XQ (Yk s) p = p * 1000 := fun p => by unfold XQ Yk; split <;> simp
      simp only [Option.map_some, Option.getD_some, e, Int.add_mul]
      omega
theorem Qls {n : FeedNet} (hn : NetOk n) {rs : List feed_run} (hl : rs.length ≤ 8) (h : ∀ r ∈ rs, Zq n.Sections.length r) (t : Int) (k : Nat) : -2400000000000 ≤ X2 n.Sections (Q3 rs t) k n.Sections.length ∧ X2 n.Sections (Q3 rs t) k n.Sections.length ≤ 2400000000000 := by
  have h2 := hn.se10
  have := Qlr (fun s hx => Qhk (hn.sec s hx)) (fun j => by have := Qgr h t j; omega) k n.Sections.length (secs := n.Sections) (f := Q3 rs t)
  omega
theorem QKx {α : Type} (f : α → α) (l : List α) (i : Nat) (h : i < l.length) : ((l.take i).map f ++ l.drop i).set i (f l[i]) = (l.take (i + 1)).map f ++ l.drop (i + 1) := by
  have hlen : ((l.take i).map f).length = i := by simp; omega
  rw [List.drop_eq_getElem_cons h, List.set_append_right _ _ (by omega), hlen, Nat.sub_self, List.set_cons_zero, List.take_add_one, List.getElem?_eq_getElem h, List.map_append]
  simp
theorem QGf (l : List FeedSection) (hl : l.length < 1000000) : loop Qdk (0, l) = some (l.map Yk) := by
  have key := Je (step := Qdk) (o := l.map Yk) (fun i => ((i : Int), (l.take i).map Yk ++ l.drop i)) l.length (fun i hi => by
    have hlen : ((l.take i).map Yk ++ l.drop i).length = l.length := by simp; omega
    have hidx : idx ((l.take i).map Yk ++ l.drop i) (i : Int) = some l[i] := by
      rw [XI?, List.getElem?_append_right (by rw [List.length_map, List.length_take]; omega), List.getElem?_drop]
      simp [Nat.min_eq_left (Nat.le_of_lt hi)]
    unfold Qdk
    simp only [hlen, XW hi, cond_true, hidx, QE, Int.toNat_natCast]
    rw [X0 i (by omega)]
    have := QKx Yk l i hi
    unfold Yk at this ⊢
    rw [this]) (by
    have hlen : ((l.take l.length).map Yk ++ l.drop l.length).length = l.length := by simp
    unfold Qdk
    simp only [hlen, XX, cond_false]
    simp)
  simpa using key
theorem Qyl {m : Nat} (hm : m < 1000) {f g : Nat → Int} (hb : ∀ k, -1000000000000000 ≤ f k + g k ∧ f k + g k ≤ 1000000000000000) : loop (Qdl ((List.range m).map g)) ((List.range m).map f, 0) = some ((List.range m).map fun k => f k + g k) := by
  have e0 : ((List.range m).map fun i => if i < 0 then f i + g i else f i) = (List.range m).map f := by
    apply List.map_congr_left; intro i _; simp
  have eN : ((List.range m).map fun i => if i < m then f i + g i else f i) = (List.range m).map fun i => f i + g i := by
    apply List.map_congr_left; intro i hi; rw [if_pos (List.mem_range.1 hi)]
  have key := Je (step := Qdl ((List.range m).map g)) (o := (List.range m).map fun i => f i + g i) (fun j => ((List.range m).map fun i => if i < j then f i + g i else f i, (j : Int))) m (fun j hj => by
    have hlen : (((List.range m).map fun i => if i < j then f i + g i else f i).length : Int) = (m : Int) := by simp
    have hg : idx ((List.range m).map g) (j : Int) = some (g j) := by rw [XI?]; simp [hj]
    unfold Qdl
    simp only [hlen, XW hj, cond_true, Qst m j hj f (fun i => f i + g i), hg, QE, Int.toNat_natCast]
    rw [Yr (x := f j + g j) (by have := hb j; omega), X0 j (by omega), Qur m j hj f (fun i => f i + g i)]) (by
    unfold Qdl
    simp only [eN, List.length_map, List.length_range, XX, cond_false])
  simp only [e0] at key
  exact key
theorem QJg (rs : List feed_run) (r : feed_run) (t : Int) : Q3 (rs ++ [r]) t = fun i => Q3 rs t i + Q3 [r] t i := by
  funext i; unfold Q3; rw [List.map_append, List.sum_append]
theorem QGh (n : FeedNet) (rs : List feed_run) (r : feed_run) (t : Int) : X3 (Xv n) (Q3 (rs ++ [r]) t) = (List.range n.Stations.length).map fun k => X2 (n.Sections.map Yk) (Q3 rs t) k (Xv n).Sections.length + X2 (n.Sections.map Yk) (Q3 [r] t) k (Xv n).Sections.length := by
  unfold X3
  apply List.map_congr_left
  intro k _
  show X2 (n.Sections.map Yk) (Q3 (rs ++ [r]) t) k _ = _
  rw [QJg, Qth]
theorem Qzy {n : FeedNet} {l : List FeedDeparture} {i : Nat} (hi : i < l.length) (h : ZY n l = 0) : ZY n [l[i]] = 0 := by
  unfold ZY at h
  by_cases h6 : 6 < l.length
  · rw [if_pos h6] at h; omega
  · rw [if_neg h6] at h
    have hz := Qlf h i hi
    rw [show Yv n l i = ZG n l[i] (l.take i) from Zu _ _ _ hi] at hz
    have h0 : ZG n l[i] [] = 0 := by
      unfold ZG at hz ⊢
      split at hz
      · cases hz
      · rename_i h1
        split at hz
        · cases hz
        · rw [if_neg h1, if_neg (by simp)]; exact hz
    have e : XH (Yv n [l[i]]) [l[i]].length = none := Qfx (g := Yv n [l[i]]) fun k hk => by
      have hk0 : k = 0 := by simpa using hk
      subst hk0
      exact h0
    unfold ZY
    rw [if_neg (by simp), e]
theorem Qzi {n : FeedNet} {l : List FeedDeparture} (h : Zb n l = 0) : (YW n).2 = 0 ∧ ZY n l = 0 := by
  unfold Zb at h
  by_cases h0 : (YW n).2 = 0
  · exact ⟨h0, by rw [if_neg (by simp [h0])] at h; exact h⟩
  · rw [if_pos h0] at h; exact absurd h h0
theorem Qzx (n : FeedNet) (l : List FeedDeparture) : ZY (Xv n) l = ZY n l := rfl
theorem Qoo {n : FeedNet} {l : List FeedDeparture} (h : (YW n).2 = 0) (hd : ZY n l = 0) : Zb (Xv n) l = 0 := by
  unfold Zb; rw [if_neg (by simp [Qtg h]), Qzx, hd]
theorem Qio {n : FeedNet} (h : NetS n) {l : List FeedDeparture} {t : Int} (hb : Zb n l = 0) (ht : JR t = 0) : J0 n l t = some (X3 n (Q3 (l.map (Q7 n)) t), 0) := by
  unfold J0
  rw [Qug h, QE]
  rw [show feed_net.mk (FeedNet.mk n.Stations n.Sections n.Trains) = feed_net.mk n from rfl, Qpj, QE, Jo _ (by simp), QE, QFm]
  obtain ⟨hn, hl, hd⟩ := Qbb hb
  have ht2 : 0 ≤ t ∧ t ≤ 1012 := by unfold JR at ht; split at ht; assumption; cases ht
  simp only [hb, ht, ne_eq, not_true_eq_false, if_false, if_true, decide_true, Bool.not_true, cond_false]
  rw [QAw hn (by rw [List.length_map]; omega) (fun r hr => by obtain ⟨d, hd2, rfl⟩ := List.mem_map.1 hr; exact (hd d hd2).1) ht2.1 (by omega), QE]
theorem Qye {n : FeedNet} (h : NetS n) {l : List FeedDeparture} {t : Int} (hb : Zb n l = 0) (ht : JR t = 0) {k : Nat} (hk : k < n.Sections.length) : Qfl n l (k : Int) t = some (Q3 (l.map (Q7 n)) t k, 0) := by
  have hs : Qhj n (k : Int) = 0 := by unfold Qhj; rw [if_pos (by omega)]
  unfold Qfl
  rw [Qug h, QE]
  rw [show feed_net.mk (FeedNet.mk n.Stations n.Sections n.Trains) = feed_net.mk n from rfl, QAy h.se, QE, Qpj, QE, Jo _ (by simp), QE, QFn]
  obtain ⟨hn, hl, hd⟩ := Qbb hb
  have ht2 : 0 ≤ t ∧ t ≤ 1012 := by unfold JR at ht; split at ht; assumption; cases ht
  simp only [hb, hs, ht, ne_eq, not_true_eq_false, if_false, if_true, decide_true, Bool.not_true, cond_false]
  rw [Quo h.se (by rw [List.length_map]; omega) (fun r hr => by obtain ⟨d, hd2, rfl⟩ := List.mem_map.1 hr; exact (hd d hd2).1) ht2.1 (by omega), QE]
  have hi : idx ((List.range n.Sections.length).map (Q3 (l.map (Q7 n)) t)) (k : Int) = some (Q3 (l.map (Q7 n)) t k) := by
    rw [XI?, List.getElem?_map, List.getElem?_range hk]; rfl
  rw [hi]; rfl
theorem Qpd {n : FeedNet} (hn : NetOk n) {f : Nat → Int} (hf : ∀ j, -160000 ≤ f j ∧ f j ≤ 160000) : ∀ j : Nat, -(240000000 * (j : Int)) ≤ Zi n.Sections f j ∧ Zi n.Sections f j ≤ 240000000 * (j : Int)
  | 0 => by simp [Zi]
  | j + 1 => by
    have h1 := Qpd hn hf j
    have h2 : -240000000 ≤ (n.Sections[j]?.map fun s => XQ s (f j)).getD 0 ∧ (n.Sections[j]?.map fun s => XQ s (f j)).getD 0 ≤ 240000000 := by
      cases hj : n.Sections[j]? with
      | none => simp
      | some s => simpa using Qcn (Qhk (hn.sec s (List.mem_of_getElem? hj))) (hf j)
    rw [Qjp]
    omega
theorem Qyd (n : FeedNet) (l : List FeedDeparture) (t : Int) : Qlm n l t = some true := by
  unfold Qlm
  rw [Qyu, QE]
  simp only [Bool.not_true, cond_false]
  rw [QFi, QE]
  cases hf : Qdh n with
  | false => rfl
  | true =>
    simp only [Bool.not_true, Bool.not_false, cond_true]
    rw [QLa, QE]
    cases hs : Qdz l with
    | false => rfl
    | true =>
      have h := QFh hf
      have hl := QKz hs
      simp only [Bool.not_true, Bool.or_false, Bool.not_false, cond_true]
      rw [QJj h, QE]
      by_cases hb : Zb n l = 0
      · simp only [hb, decide_true, Bool.not_true, Bool.or_false, Bool.not_false, cond_true]
        rw [QJq, QE]
        by_cases ht : JR t = 0
        · simp only [ht, decide_true, Bool.not_true, Bool.or_self, cond_false]
          obtain ⟨h0, hd⟩ := Qzi hb
          obtain ⟨hn, hl6, hru⟩ := Qbb hb
          have hR := QKh h hb
          have hrs := QKi hR
          have hst := hn.st6
          have hse := hn.se10
          rw [Qfe h]
          simp only [QE]
          rw [Qoz l (by omega)]
          simp only [QE]
          rw [Qio h hb ht]
          have hlen : (X3 n (Q3 (l.map (Q7 n)) t)).length = n.Stations.length := by unfold X3; simp
          simp only [QE, decide_true, Bool.not_true, Bool.false_or]
          rw [decide_eq_true (show ((X3 n (Q3 (l.map (Q7 n)) t)).length : Int) = (n.Stations.length : Int) by omega)]
          simp only [Bool.not_true, cond_false]
          have hpb : ∀ j, -120000 ≤ Q3 (l.map (Q7 n)) t j ∧ Q3 (l.map (Q7 n)) t j ≤ 120000 := fun j => by
            have := Qgr hrs t j
            rw [List.length_map] at this; omega
          have hdb := fun j => Qpd hn (f := Q3 (l.map (Q7 n)) t) (fun j => by have := hpb j; omega) j
          have l0 : loop (Qdj (X3 n (Q3 (l.map (Q7 n)) t), 0)) (0, 0) = some (1000 * Zi n.Sections (Q3 (l.map (Q7 n)) t) n.Sections.length) := by
            have hb2 : ∀ x ∈ X3 n (Q3 (l.map (Q7 n)) t), -2400000000000 ≤ x ∧ x ≤ 2400000000000 := fun x hx => by
              unfold X3 at hx
              obtain ⟨k, _, rfl⟩ := List.mem_map.1 hx
              exact Qls hn (by rw [List.length_map]; omega) hrs t k
            have key : loop (Qdj (X3 n (Q3 (l.map (Q7 n)) t), 0)) (0, 0) = some (X3 n (Q3 (l.map (Q7 n)) t)).sum :=
              Je (fun k => (((X3 n (Q3 (l.map (Q7 n)) t)).take k).sum, (k : Int))) (X3 n (Q3 (l.map (Q7 n)) t)).length (fun k hk => by
                have hb3 := Qnf (c := 2400000000000) (by omega) (l := (X3 n (Q3 (l.map (Q7 n)) t)).take (k + 1)) fun x hx => hb2 x (List.mem_of_mem_take hx)
                have hlen2 : ((X3 n (Q3 (l.map (Q7 n)) t)).take (k + 1)).length = k + 1 := by rw [List.length_take]; omega
                rw [hlen2, Qww hk] at hb3
                unfold Qdj
                simp only [XW hk, cond_true, XI hk, QE]
                rw [Yr (by omega), X0 k (by omega), Qww hk]) (by
                unfold Qdj
                simp only [XX, cond_false, List.take_length])
            rw [key]
            unfold X3
            rw [Qwv, Qte hn.sec]
          rw [l0]
          simp only [QE]
          have l1 : loop (Qgb n t l) (0, 0) = some (.inr (Zi n.Sections (Q3 (l.map (Q7 n)) t) n.Sections.length)) :=
            Je (fun k => (Zi n.Sections (Q3 (l.map (Q7 n)) t) k, (k : Int))) n.Sections.length (fun k hk => by
              have hS := Qhk (hn.sec _ (List.getElem_mem hk))
              have hp := hpb k
              obtain ⟨z1, z2⟩ := QAa (s := n.Sections[k]) (p := Q3 (l.map (Q7 n)) t k) (by omega)
              have hk1 := hdb k
              have hdw := Qcn hS (p := Q3 (l.map (Q7 n)) t k) (by omega)
              have hL : 0 ≤ n.Sections[k].Loss ∧ n.Sections[k].Loss ≤ 500 := hS.2
              have hm := Qdo (a := if Q3 (l.map (Q7 n)) t k < 0 then -Q3 (l.map (Q7 n)) t k else Q3 (l.map (Q7 n)) t k) (b := n.Sections[k].Loss) (m := 160000) (n := 500) (by split <;> omega) (by omega)
              unfold Qgb
              simp only [XW hk, cond_true]
              rw [Qfe h]
              simp only [QE]
              rw [Qoz l (by omega)]
              simp only [QE]
              rw [Qye h hb ht hk]
              simp only [QE, decide_true, Bool.not_true, Bool.not_false, cond_true]
              rw [Qai, QE, decide_eq_true (show -120000 ≤ Q3 (l.map (Q7 n)) t k by omega), decide_eq_true (show Q3 (l.map (Q7 n)) t k ≤ 120000 by omega)]
              simp only [Bool.and_self, Bool.not_true, Bool.or_self, cond_false, XI hk, QE]
              rw [z1, QE, Yr (x := Q3 (l.map (Q7 n)) t k * 1000) (by omega), Yr (x := Zi n.Sections (Q3 (l.map (Q7 n)) t) k + Q3 (l.map (Q7 n)) t k * 1000) (by omega), Yr (x := (if Q3 (l.map (Q7 n)) t k < 0 then -Q3 (l.map (Q7 n)) t k else Q3 (l.map (Q7 n)) t k) * n.Sections[k].Loss) (by omega), Yr (by omega), X0 k (by omega), Qjp, List.getElem?_eq_getElem hk]
              simp only [Option.map_some, Option.getD_some]
              rw [z2, Int.add_assoc]) (by
              unfold Qgb
              simp only [XX, cond_false])
          rw [l1]
          simp only [QE, jn0]
          rw [Yr (x := Zi n.Sections (Q3 (l.map (Q7 n)) t) n.Sections.length * 1000) (by have := hdb n.Sections.length; omega), decide_eq_true (show 1000 * Zi n.Sections (Q3 (l.map (Q7 n)) t) n.Sections.length = Zi n.Sections (Q3 (l.map (Q7 n)) t) n.Sections.length * 1000 by omega)]
          simp only [Bool.not_true, cond_false]
          rw [QGf n.Sections (by omega), QE, Qlv _ (by omega), QE]
          have hLS := QGk h
          have hLn := Qlx (Qtg h0)
          have hlvl : FeedNet.mk n.Stations (n.Sections.map Yk) n.Trains = Xv n := rfl
          rw [hlvl]
          have hlsec : (Xv n).Sections.length = n.Sections.length := by simp [Xv]
          have l4 : loop (Qdm t l n (n.Sections.map Yk)) ((List.range n.Stations.length).map (fun _ => (0 : Int)), 0) = some (.inr (X3 (Xv n) (Q3 (l.map (Q7 n)) t))) := by
            have key := Je (step := Qdm t l n (n.Sections.map Yk)) (o := .inr (X3 (Xv n) (Q3 (l.map (Q7 n)) t))) (fun i => (X3 (Xv n) (Q3 ((l.take i).map (Q7 n)) t), (i : Int))) l.length (fun i hi => by
              have hb1 : Zb (Xv n) [l[i]] = 0 := Qoo h0 (Qzy hi hd)
              have hlen1 : ∀ rs, (X3 (Xv n) (Q3 rs t)).length = n.Stations.length := fun rs => by unfold X3; simp [Xv]
              have hr1 : ∀ r ∈ [Q7 n l[i]], Zq (Xv n).Sections.length r := fun r hr => by
                rw [List.mem_singleton.1 hr, hlsec]; exact (hru _ (List.getElem_mem hi)).1
              have hr2 : ∀ r ∈ (l.take i).map (Q7 n), Zq (Xv n).Sections.length r := fun r hr => by
                obtain ⟨d, hd2, rfl⟩ := List.mem_map.1 hr
                rw [hlsec]; exact (hru d (List.mem_of_mem_take hd2)).1
              unfold Qdm
              simp only [XW hi, cond_true, XI hi, QE]
              rw [hlvl, Qfe hLS, QE, Qio hLS hb1 ht]
              simp only [QE, decide_true, Bool.not_true, Bool.false_or, hlen1, cond_false]
              have ha := Qyl (m := n.Stations.length) (by omega) (f := fun k => X2 (n.Sections.map Yk) (Q3 ((l.take i).map (Q7 n)) t) k (Xv n).Sections.length) (g := fun k => X2 (n.Sections.map Yk) (Q3 [Q7 n l[i]] t) k (Xv n).Sections.length) (fun k => by
                have a1 := Qls hLn (by simp) hr1 t k
                have a2 := Qls hLn (rs := (l.take i).map (Q7 n)) (by simp; omega) hr2 t k
                have b1 : (Xv n).Sections = n.Sections.map Yk := rfl
                rw [b1] at a1 a2
                rw [b1]
                omega)
              have e1 : X3 (Xv n) (Q3 ((l.take i).map (Q7 n)) t) = (List.range n.Stations.length).map fun k => X2 (n.Sections.map Yk) (Q3 ((l.take i).map (Q7 n)) t) k (Xv n).Sections.length := rfl
              have e2 : X3 (Xv n) (Q3 ([l[i]].map (Q7 (Xv n))) t) = (List.range n.Stations.length).map fun k => X2 (n.Sections.map Yk) (Q3 [Q7 n l[i]] t) k (Xv n).Sections.length := rfl
              rw [e1, e2, ha, QE, X0 i (by omega), ← QGh n, show (l.take i).map (Q7 n) ++ [Q7 n l[i]] = (l.take (i + 1)).map (Q7 n) from Qhy l (Q7 n) i hi]) (by
              unfold Qdm
              simp only [XX, cond_false, List.take_length])
            have e0 : X3 (Xv n) (Q3 ((l.take 0).map (Q7 n)) t) = (List.range n.Stations.length).map (fun _ => (0 : Int)) := by
              unfold X3
              apply List.map_congr_left
              intro k _
              have hz : ∀ secs : List FeedSection, ∀ j, X2 secs (Q3 ((l.take 0).map (Q7 n)) t) k j = 0 := by
                intro secs j
                induction j with
                | zero => rfl
                | succ j ih =>
                  rw [Qgh, ih]
                  have : Q3 ((l.take 0).map (Q7 n)) t j = 0 := by simp [Q3]
                  rw [this]
                  cases secs[j]? with
                  | none => rfl
                  | some s => simp [XQ]
              exact hz _ _
            simp only [e0] at key
            exact key
          rw [l4]
          simp only [QE, jn0]
          rw [Qfe hLS, QE, Qio hLS (Qoo h0 hd) ht]
          simp only [QE, decide_true, cond_true, Bool.true_and]
          rw [QFu _ _ (by unfold X3; simp [Xv]; omega), QE]
          have e : X3 (Xv n) (Q3 (l.map (Q7 (Xv n))) t) = X3 (Xv n) (Q3 (l.map (Q7 n)) t) := rfl
          rw [e]; simp
        · simp [ht]
      · simp [hb]
end Go.Gw
