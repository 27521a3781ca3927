/- Laws of the walk. Condition: each theorem says its own. -/
import Derived.Test.YtbplgfhjpeeieaaGwAwake
set_option linter.unusedVariables false
set_option linter.unusedSimpArgs false
set_option linter.unusedSectionVars false
section
set_option maxRecDepth 4096
namespace Go.Gw
open Go
/-! ### Names are apart -/
theorem Qyn {α : Type} {p : α → Bool} : ∀ (l : List α) (k m : Nat) (hk : k < l.length), p l[k] = true → (l.take k).any p = false → XH p (fun k _ => (k : Int)) m l = .inl ((m + k : Nat) : Int)
  | x :: xs, 0, m, _, hp, _ => by simp at hp; simp [XH, hp]
  | x :: xs, k + 1, m, hk, hp, ha => by
    simp only [List.take_succ_cons, List.any_cons, Bool.or_eq_false_iff] at ha
    simp only [XH, ha.1]
    have := Qyn xs k (m + 1) (by simpa using hk) (by simpa using hp) ha.2
    rw [← show m + 1 + k = m + (k + 1) by omega]
    simpa using this
theorem Qvx {n : FeedNet} (h : (YB n).2 = 0) {k : Nat} (hk : k < n.Trains.length) : Y3 n n.Trains[k].Name = (k : Int) := by
  have h0 : Zb n k = 0 := by
    unfold YB at h
    split at h
    · cases h
    · split at h
      · cases h
      · rcases Qac (Zv n) n.Stations.length with ⟨a1, a2⟩ | ⟨i, a1, a2, a3, _⟩
        · rw [a1] at h
          rcases Qac (Zu n) n.Sections.length with ⟨b1, b2⟩ | ⟨i, b1, b2, b3, _⟩
          · rw [b1] at h
            rcases Qac (Zb n) n.Trains.length with ⟨c1, c2⟩ | ⟨i, c1, c2, c3, _⟩
            · exact c2 k hk
            · rw [c1] at h; exact absurd h c3
          · rw [b1] at h; exact absurd h b3
        · rw [a1] at h; exact absurd h a3
  rw [show Zb n k = J2 n.Trains[k] ((n.Trains.take k).map (·.Name)) n.Sections.length from JG _ _ _ hk] at h0
  unfold J2 at h0
  split at h0
  · rename_i hc; exact absurd h0 hc
  · rename_i hc
    have hc : ZV n.Trains[k].Name ((n.Trains.take k).map (·.Name)) = 0 := by
      rcases Decidable.em (ZV n.Trains[k].Name ((n.Trains.take k).map (·.Name)) = 0) with h | h
      · exact h
      · exact absurd h hc
    unfold ZV at hc
    split at hc
    · cases hc
    · split at hc
      · cases hc
      · rename_i ha
        rw [Qjy, Bool.not_eq_true] at ha
        unfold Y3
        rw [Qyn n.Trains k 0 hk (by simp) ha]
        simp
def XW (t : FeedTrain) (k : Nat) : FeedDeparture := FeedDeparture.mk t.Name (t.Earliest + k)
def Yc (t : FeedTrain) : Nat := (t.Latest - t.Earliest + 1).toNat
def X7 : List FeedTrain → List FeedDeparture → List (List FeedDeparture)
  | [], p => [p]
  | t :: ts, p => (List.range (Yc t)).flatMap fun k => X7 ts (p ++ [XW t k])
def dlF (n : FeedNet) (a : Int) (d : FeedDeparture) : Int := a + d.At - (Q4 n d).FeedTrain.Earliest
def dl (n : FeedNet) (p : List FeedDeparture) : Int := p.foldl (dlF n) 0
def X1 (n : FeedNet) (p : List FeedDeparture) : feed_plan := ⟨p.map (·.At), dl n p, (Zj n (p.map (Q4 n))).isNone⟩
theorem Qkn (n : FeedNet) (p : List FeedDeparture) (d : FeedDeparture) : dl n (p ++ [d]) = dl n p + d.At - (Q4 n d).FeedTrain.Earliest := by
  unfold dl; rw [List.foldl_append]; rfl
theorem Qwe (o : Option FeedPeak) : (!(pkB o).2) = o.isNone := by cases o <;> rfl
structure Trs (n : FeedNet) (ts : List FeedTrain) : Prop where
  ne : NetOk n
  ru : ∀ t ∈ ts, ∀ a : Int, Q4 n (FeedDeparture.mk t.Name a) = feed_run.mk t a
  ok : ∀ t ∈ ts, JA t n.Sections.length = 0
theorem Qou {n : FeedNet} (h : (YB n).2 = 0) : Trs n n.Trains := by
  refine ⟨Qmz h, fun t ht a => ?_, (Qmz h).tr⟩
  obtain ⟨k, hk, rfl⟩ := List.mem_iff_getElem.1 ht
  unfold Q4
  simp only [Qvx h hk, Int.toNat_natCast, List.getElem?_eq_getElem hk, Option.getD_some]
theorem Trs.tail {n : FeedNet} {t : FeedTrain} {ts : List FeedTrain} (h : Trs n (t :: ts)) : Trs n ts := ⟨h.ne, fun x hx => h.ru x (List.mem_cons_of_mem _ hx), fun x hx => h.ok x (List.mem_cons_of_mem _ hx)⟩
theorem Qbi {n : FeedNet} {t : FeedTrain} {ts : List FeedTrain} (h : Trs n (t :: ts)) {k : Nat} (hk : k < Yc t) : Q4 n (XW t k) = feed_run.mk t (t.Earliest + k) ∧ Z3 n.Sections.length (Q4 n (XW t k)) := by
  have h1 := h.ru t (List.mem_cons_self ..) (t.Earliest + k)
  have h2 := Qbm (h.ok t (List.mem_cons_self ..))
  unfold Yc at hk
  refine ⟨h1, ?_⟩
  unfold XW
  rw [h1]
  exact ⟨h2.2.2.2.2.2, h2.2.2.2.2.1, by show 0 ≤ t.Earliest + (k : Int); omega, by show t.Earliest + (k : Int) ≤ 1000; omega⟩
theorem QHs {n : FeedNet} (p : List FeedDeparture) (hp : p.length ≤ 8) : loop (Qdw (p.map (Q4 n))) (0, ([] : List Int)) = some (p.map (·.At)) :=
  YU (fun k => ((k : Int), (p.take k).map (·.At))) p.length (fun k hk => by
    unfold Qdw
    simp only [List.length_map, XL hk, cond_true]
    rw [Xs (show k < (p.map (Q4 n)).length by simpa using hk), Qw, ZP (by simp; omega), Qw, XP k (by omega)]
    simp only [List.getElem_map]
    rw [show ([(Q4 n p[k]).at_] : List Int) = [p[k].At] from rfl, Qiy p (·.At) k hk]) (by
    unfold Qdw
    simp only [List.length_map, XM, cond_false, List.take_length])
theorem QBq {α : Type} (l : List α) : cut l 0 (l.length : Int) = some l := by
  unfold cut; simp
def Qba (p : feed_plan) : List Int × Int × Bool := (p.at_, p.delay, p.found)
theorem Qnz {n : FeedNet} : ∀ (ts : List FeedTrain) (p : List FeedDeparture) (fuel : Nat), Trs n ts → n.Trains.length = p.length + ts.length → (∀ j, (hj : j < ts.length) → n.Trains[p.length + j]? = some ts[j]) → ts.length < fuel → p.length + ts.length ≤ 6 → (∀ r ∈ p.map (Q4 n), Z3 n.Sections.length r) → (0 ≤ dl n p ∧ dl n p ≤ 1000 * p.length) →
    ∃ B, YJ fuel ⟨n⟩ (p.map (Q4 n)) (dl n p) = some B ∧ Bst ((X7 ts p).map (X1 n)) B ∧ B.at_.length ≤ 6
  | [], p, fuel, hT, hlen, hget, hf, h6, hr, hd => by
    obtain ⟨fl, rfl⟩ : ∃ fl, fuel = fl + 1 := ⟨fuel - 1, by simp at hf; omega⟩
    refine ⟨X1 n p, ?_, ?_, by simp [X1]; simpa using h6⟩
    · show Qax (YJ fl) ⟨n⟩ (p.map (Q4 n)) (dl n p) = _
      unfold Qax
      rw [decide_eq_true (by simp only [List.length_map]; simp at hlen; omega), cond_true, QCr hT.ne (by simp at h6 ⊢; omega) hr, Qw, QHs p (by simp at h6; omega), Qw, Qwe]
      rfl
    · simp only [X7, List.map_cons, List.map_nil]
      cases hb : (X1 n p).found with
      | false => exact .inl ⟨fun q hq => by rw [List.mem_singleton.1 hq]; exact hb, hb⟩
      | true => exact .inr ⟨List.mem_singleton.2 rfl, hb, fun q hq _ => by rw [List.mem_singleton.1 hq, Qnj]; exact Int.le_refl _⟩
  | t :: ts, p, fuel, hT, hlen, hget, hf, h6, hr, hd => by
    obtain ⟨fl, rfl⟩ : ∃ fl, fuel = fl + 1 := ⟨fuel - 1, by simp at hf; omega⟩
    have htr := Qbm (hT.ok t (List.mem_cons_self ..))
    simp only [List.length_cons] at hlen hf h6
    have hw : (Yc t : Int) = t.Latest - t.Earliest + 1 := by unfold Yc; omega
    have hdl : ∀ k, k < Yc t → dl n (p ++ [XW t k]) = dl n p + k := fun k hk => by
      rw [Qkn, (Qbi hT hk).1]; show dl n p + (t.Earliest + (k : Int)) - t.Earliest = _; omega
    have hres : ∀ k, k < Yc t → ∃ B, YJ fl ⟨n⟩ ((p ++ [XW t k]).map (Q4 n)) (dl n (p ++ [XW t k])) = some B ∧ Bst ((X7 ts (p ++ [XW t k])).map (X1 n)) B ∧ B.at_.length ≤ 6 := fun k hk =>
      Qnz ts (p ++ [XW t k]) fl hT.tail (by simp; omega) (fun j hj => by
        have := hget (j + 1) (by simpa using hj)
        rw [List.length_append]
        simpa [Nat.add_assoc, Nat.add_comm 1 j] using this) (by omega) (by simp; omega) (fun r hr2 => by
        rw [List.map_append, List.mem_append] at hr2
        rcases hr2 with hr2 | hr2
        · exact hr r hr2
        · rw [List.map_singleton, List.mem_singleton] at hr2
          subst hr2
          exact (Qbi hT hk).2) (by rw [hdl k hk, List.length_append]; simp; omega)
    let res : Nat → feed_plan := fun k => (YJ fl ⟨n⟩ ((p ++ [XW t k]).map (Q4 n)) (dl n (p ++ [XW t k]))).getD default
    have hres2 : ∀ k, k < Yc t → YJ fl ⟨n⟩ ((p ++ [XW t k]).map (Q4 n)) (dl n (p ++ [XW t k])) = some (res k) ∧ Bst ((X7 ts (p ++ [XW t k])).map (X1 n)) (res k) ∧ (res k).at_.length ≤ 6 := fun k hk => by
      obtain ⟨B, h1, h2, h3⟩ := hres k hk
      have e : res k = B := by show (YJ fl ⟨n⟩ ((p ++ [XW t k]).map (Q4 n)) (dl n (p ++ [XW t k]))).getD default = B; rw [h1]; rfl
      rw [e]; exact ⟨h1, h2, h3⟩
    have hlk : ∀ m, m ≤ Yc t → (((List.range m).map res).foldl XR YF).at_.length ≤ 6 := by
      intro m
      induction m with
      | zero => intro _; simp [YF]
      | succ m ih =>
        intro hm
        rw [List.range_succ, List.map_append, List.foldl_append]
        have ih2 := ih (by omega)
        have hm2 := (hres2 m (by omega)).2.2
        show (XR (((List.range m).map res).foldl XR YF) (res m)).at_.length ≤ 6
        generalize ((List.range m).map res).foldl XR YF = a at ih2
        unfold XR
        cases Zy (res m) a with
        | true => exact hm2
        | false => exact ih2
    refine ⟨((List.range (Yc t)).map res).foldl XR YF, ?_, ?_, hlk _ (Nat.le_refl _)⟩
    · have ht0 : n.Trains[p.length]? = some t := by have := hget 0 (by simp); simpa using this
      have hp6 : p.length < n.Trains.length := (List.getElem?_eq_some_iff.1 ht0).1
      have key := YU (step := Qdx t ⟨n⟩ (p.map (Q4 n)) (dl n p) (YJ fl)) (o := Qba (((List.range (Yc t)).map res).foldl XR YF)) (fun k => (t.Earliest + (k : Int), Qba (((List.range k).map res).foldl XR YF))) (Yc t) (fun k hk => by
        have hrun := (Qbi hT hk).1
        have hd2 := hdl k hk
        unfold Qdx Qba
        simp only []
        rw [decide_eq_true (by omega), cond_true, QBq, Qw, ZP (by simp; omega), Qw, ← hrun, XX (x := dl n p + (t.Earliest + (k : Int))) (by omega), XX (x := dl n p + (t.Earliest + (k : Int)) - t.Earliest) (by omega),
          show dl n p + (t.Earliest + (k : Int)) - t.Earliest = dl n (p ++ [XW t k]) by omega, show p.map (Q4 n) ++ [Q4 n (XW t k)] = (p ++ [XW t k]).map (Q4 n) by simp, (hres2 k hk).1, Qw, Qpn _ _ (by have := (hres2 k hk).2.2; omega), Qw, XX (x := t.Earliest + (k : Int) + 1) (by omega),
          List.range_succ, List.map_append, List.foldl_append, show t.Earliest + (k : Int) + 1 = t.Earliest + ((k + 1 : Nat) : Int) by omega]
        generalize ((List.range k).map res).foldl XR YF = a
        show (bif Zy (res k) a then some (Sum.inl (_, (res k).at_, (res k).delay, (res k).found)) else some (Sum.inl (_, a.at_, a.delay, a.found))) = some (Sum.inl (_, (XR a (res k)).at_, (XR a (res k)).delay, (XR a (res k)).found))
        unfold XR
        cases Zy (res k) a <;> rfl) (by
        unfold Qdx Qba
        simp only []
        rw [decide_eq_false (by omega)]; rfl)
      show Qax (YJ fl) ⟨n⟩ (p.map (Q4 n)) (dl n p) = _
      unfold Qax
      rw [decide_eq_false (by simp only [List.length_map]; omega), cond_false]
      simp only [List.length_map, Xs?, ht0, Qw]
      have e0 : (t.Earliest, ([] : List Int), (0 : Int), false) = (t.Earliest + ((0 : Nat) : Int), Qba (((List.range 0).map res).foldl XR YF)) := by simp [Qba, YF]
      rw [e0, key]
      rfl
    · rw [X7, List.map_flatMap]
      exact Bst.flat (fun k hk => (hres2 k (List.mem_range.1 hk)).2.1) (Qeh _).1
end Go.Gw

end
section
set_option maxRecDepth 4096
namespace Go.Gw
open Go
def Qcv (t : FeedTrain) : Bool := decide (8 ≤ w64 (t.Latest - t.Earliest))
def Jb (n : FeedNet) : Int := if 4 < n.Trains.length ∨ n.Trains.any Qcv = true then 8 else 0
theorem Qqm {n : FeedNet} (hn : n.Trains.length < 1000) : Qaw ⟨n⟩ = some (Jb n) := by
  have key : Qfd n.Trains = some (n.Trains.any Qcv) := by
    unfold Qfd Qit
    rw [ZT n.Trains Qcv (fun k _ => (k : Int)), Qw, Qol, Qw, Qok]
    · intro k hk
      unfold Qis Qgu
      rw [XL hk, cond_true, Xs hk, Qw, XP k (by omega)]; rfl
    · unfold Qis
      rw [XM]; rfl
  unfold Qaw
  simp only []
  rw [key, Qw, J3, Qw]
  unfold Jb
  by_cases h1 : 4 < n.Trains.length
  · rw [decide_eq_false (by omega)]; simp [h1]
  · rw [decide_eq_true (by omega)]
    cases n.Trains.any Qcv <;> simp [h1]
theorem Qwh {n : FeedNet} (hn : n.Trains.length < 1000) : Qer n = some (Jb n) := by
  unfold Qer Jb
  by_cases h1 : 4 < n.Trains.length
  · rw [decide_eq_true (by omega)]; simp [h1]
  · rw [decide_eq_false (by omega), cond_false, ZT n.Trains Qcv (fun _ _ => (8 : Int)), Qw]
    · rcases Qai (p := Qcv) (res := fun _ _ => (8 : Int)) n.Trains 0 with ⟨e1, e2⟩ | ⟨j, x, e1, _, e2⟩
      · rw [e1, e2]; simp [h1, jn0]
      · rw [e1, e2]; simp [jn0]
    · intro k hk
      unfold Qno
      rw [XL hk, cond_true, Xs hk, Qw, Qw, XP k (by omega)]; rfl
    · unfold Qno
      rw [XM]; rfl
theorem Qwi {n : FeedNet} (h : NetS n) : Qex n = some (YB n).2 := by
  unfold Qex; rw [QLf h, Qw]
def Qeq (n : FeedNet) : Bool := (!decide ((YB n).2 = 0)) || (!decide (Jb n = 0)) || (decide (n.Trains.length ≤ 3) && !(n.Trains.any fun t => decide (3 < w64 (t.Latest - t.Earliest))))
theorem QLb {n : FeedNet} (h : NetS n) : Qhf n = some (Qeq n) := by
  unfold Qhf Qeq
  rw [Qwi h, Qw, Qwh h.tr]
  by_cases h1 : (YB n).2 = 0
  · by_cases h2 : Jb n = 0
    · simp only [h1, h2, decide_true, Bool.not_true, Bool.not_false, cond_true, Qw, Bool.or_self, cond_false, Bool.false_or]
      by_cases h3 : n.Trains.length ≤ 3
      · rw [decide_eq_false (by omega), decide_eq_true h3, cond_false, ZT n.Trains (fun t => decide (3 < w64 (t.Latest - t.Earliest))) (fun _ _ => false), Qw]
        · rcases Qai (p := fun t : FeedTrain => decide (3 < w64 (t.Latest - t.Earliest))) (res := fun _ _ => false) n.Trains 0 with ⟨e1, e2⟩ | ⟨j, x, e1, _, e2⟩
          · rw [e1, e2]; rfl
          · rw [e1, e2]; rfl
        · intro k hk
          unfold Qms
          rw [XL hk, cond_true, Xs hk, Qw, Qw, XP k (by omega)]
        · unfold Qms
          rw [XM]; rfl
      · rw [decide_eq_true (by omega), decide_eq_false h3]; rfl
    · simp [h1, h2]
  · simp [h1]
theorem QLa {n : FeedNet} (h : Qeq n = true) (h1 : (YB n).2 = 0) (h2 : Jb n = 0) : n.Trains.length ≤ 3 ∧ ∀ t ∈ n.Trains, Yc t ≤ 4 := by
  unfold Qeq at h
  simp only [h1, h2, decide_true, Bool.not_true, Bool.or_self, Bool.false_or, Bool.and_eq_true, decide_eq_true_eq, Bool.not_eq_true', List.any_eq_false] at h
  refine ⟨h.1, fun t ht => ?_⟩
  have ht2 := Qbm ((Qmz h1).tr t ht)
  have := h.2 t ht
  rw [XX (by omega)] at this
  unfold Yc; omega
/-! ### Departures that fit -/
def Fits : List FeedTrain → List FeedDeparture → Prop
  | [], [] => True
  | t :: ts, d :: ds => (d.Train = t.Name ∧ t.Earliest ≤ d.At ∧ d.At ≤ t.Latest) ∧ Fits ts ds
  | _, _ => False
theorem Fits.len : ∀ {ts : List FeedTrain} {r : List FeedDeparture}, Fits ts r → r.length = ts.length
  | [], [], _ => rfl
  | _ :: _, _ :: _, h => by simp [Fits.len h.2]
theorem Fits.get : ∀ {ts : List FeedTrain} {r : List FeedDeparture}, Fits ts r → ∀ k (hk : k < r.length) (hk2 : k < ts.length), r[k].Train = ts[k].Name ∧ ts[k].Earliest ≤ r[k].At ∧ r[k].At ≤ ts[k].Latest
  | [], [], _, k, hk, _ => by simp at hk
  | _ :: _, _ :: _, h, 0, _, _ => h.1
  | _ :: _, _ :: _, h, k + 1, hk, hk2 => Fits.get h.2 k (by simpa using hk) (by simpa using hk2)
theorem Fits.eq : ∀ {ts : List FeedTrain} {r s : List FeedDeparture}, Fits ts r → Fits ts s → r.map (·.At) = s.map (·.At) → r = s
  | [], [], [], _, _, _ => rfl
  | _ :: _, ⟨a, b⟩ :: r, ⟨c, d⟩ :: s, h1, h2, h => by
    simp only [List.map_cons, List.cons.injEq] at h
    have e1 := h1.1.1
    have e2 := h2.1.1
    simp only at e1 e2
    rw [Fits.eq h1.2 h2.2 h.2, e1, e2, h.1]
theorem depsOf_mem : ∀ {ts : List FeedTrain} {q p : List FeedDeparture}, p ∈ X7 ts q ↔ ∃ r, p = q ++ r ∧ Fits ts r
  | [], q, p => by
    constructor
    · intro h
      rw [X7, List.mem_singleton] at h
      exact ⟨[], by simp [h], trivial⟩
    · rintro ⟨r, rfl, h⟩
      cases r with
      | nil => simp [X7]
      | cons _ _ => exact h.elim
  | t :: ts, q, p => by
    rw [X7, List.mem_flatMap]
    constructor
    · rintro ⟨k, hk, hp⟩
      obtain ⟨r, rfl, hr⟩ := depsOf_mem.1 hp
      have hk := List.mem_range.1 hk
      unfold Yc at hk
      refine ⟨XW t k :: r, by simp, ⟨rfl, ?_, ?_⟩, hr⟩
      · show t.Earliest ≤ t.Earliest + (k : Int); omega
      · show t.Earliest + (k : Int) ≤ t.Latest; omega
    · rintro ⟨r, rfl, h⟩
      cases r with
      | nil => exact h.elim
      | cons d r =>
        obtain ⟨⟨h1, h2, h3⟩, h4⟩ := h
        refine ⟨(d.At - t.Earliest).toNat, List.mem_range.2 (by unfold Yc; omega), depsOf_mem.2 ⟨r, ?_, h4⟩⟩
        have e : XW t (d.At - t.Earliest).toNat = d := by
          unfold XW
          rw [← h1, show t.Earliest + (((d.At - t.Earliest).toNat : Nat) : Int) = d.At by omega]
        rw [e]; simp
theorem deps_mem {ts : List FeedTrain} {p : List FeedDeparture} : p ∈ X7 ts [] ↔ Fits ts p := by
  rw [depsOf_mem]; simp
theorem Fits.rt {n : FeedNet} (h : (YB n).2 = 0) (hs : n.Trains.length < 1000) {p : List FeedDeparture} (hp : Fits n.Trains p) : Rt n p := by
  have hT := Qou h
  refine ⟨hT.ne, hs, by rw [hp.len]; exact hT.ne.tr6, fun d hd => ?_⟩
  obtain ⟨k, hk, rfl⟩ := List.mem_iff_getElem.1 hd
  have hk2 : k < n.Trains.length := by rw [← hp.len]; exact hk
  have hg := hp.get k hk hk2
  have ht := Qbm (hT.ok _ (List.getElem_mem hk2))
  have e : Q4 n p[k] = feed_run.mk n.Trains[k] p[k].At := by
    rw [← hT.ru _ (List.getElem_mem hk2), ← hg.1]
  refine ⟨?_, by rw [hg.1, Qvx h hk2]; omega⟩
  rw [e]
  exact ⟨ht.2.2.2.2.2, ht.2.2.2.2.1, by show 0 ≤ p[k].At; omega, by show p[k].At ≤ 1000; omega⟩
theorem QAu {n : FeedNet} (hS : NetS n) (h0 : (YB n).2 = 0) (hc : Jb n = 0) (h3 : n.Trains.length ≤ 3) :
    (∃ p, Fits n.Trains p ∧ (X1 n p).found = true ∧ Bst ((X7 n.Trains []).map (X1 n)) (X1 n p) ∧ ZQ n = some (p, dl n p, 0)) ∨ ((∀ q, Fits n.Trains q → (X1 n q).found = false) ∧ ZQ n = some ([], 0, 12)) := by
  have hT := Qou h0
  have hmid : ∃ B, ((bif decide ((n.Trains.length : Int) = 0) then Option.bind (YJ 4 ⟨n⟩ [] 0) fun r => some (r.at_, r.delay, r.found) else Option.bind (idx n.Trains 0) fun t => Option.bind (JU ⟨n⟩ t) fun r => some (r.at_, r.delay, r.found)) : Option (List Int × Int × Bool)) = some (Qba B) ∧ Bst ((X7 n.Trains []).map (X1 n)) B := by
    cases hts : n.Trains with
    | nil =>
      obtain ⟨B, h1, h2, _⟩ := Qnz (n := n) n.Trains [] 4 hT (by simp) (fun j hj => by simp [List.getElem?_eq_getElem hj]) (by omega) (by simp; omega) (fun r hr => by cases hr) (by simp [dl])
      refine ⟨B, ?_, by rw [← hts]; exact h2⟩
      have h1' : YJ 4 ⟨n⟩ [] 0 = some B := h1
      simp only [List.length_nil, Int.natCast_zero, decide_true, cond_true]
      rw [h1', Qw]; rfl
    | cons t ts =>
      rw [hts] at hT h3
      have ht := Qbm (hT.ok t (List.mem_cons_self ..))
      have hres : ∀ k, k < Yc t → ∃ B, YJ 4 ⟨n⟩ ([XW t k].map (Q4 n)) (dl n [XW t k]) = some B ∧ Bst ((X7 ts [XW t k]).map (X1 n)) B ∧ B.at_.length ≤ 6 := fun k hk =>
        Qnz ts [XW t k] 4 hT.tail (by rw [hts]; simp; omega) (fun j hj => by rw [hts]; simp [Nat.add_comm 1 j, List.getElem?_eq_getElem hj]) (by simp at h3; omega) (by simp at h3 ⊢; omega) (fun r hr => by
          rw [List.map_singleton, List.mem_singleton] at hr; subst hr; exact (Qbi hT hk).2) (by
          have := Qkn n [] (XW t k)
          rw [List.nil_append, (Qbi hT hk).1] at this
          rw [this]
          unfold Yc at hk
          show 0 ≤ dl n [] + (t.Earliest + (k : Int)) - t.Earliest ∧ dl n [] + (t.Earliest + (k : Int)) - t.Earliest ≤ 1000 * ((1 : Nat) : Int)
          have e : dl n [] = 0 := rfl
          omega)
      let res : Nat → feed_plan := fun k => (YJ 4 ⟨n⟩ ([XW t k].map (Q4 n)) (dl n [XW t k])).getD default
      have hres2 : ∀ k, k < Yc t → Qeo ⟨n⟩ t k = some (res k) ∧ Bst ((X7 ts [XW t k]).map (X1 n)) (res k) ∧ (res k).at_.length ≤ 6 := fun k hk => by
        obtain ⟨B, h1, h2, h4⟩ := hres k hk
        have e : res k = B := by show (YJ 4 ⟨n⟩ ([XW t k].map (Q4 n)) (dl n [XW t k])).getD default = B; rw [h1]; rfl
        have hd := Qkn n [] (XW t k)
        rw [List.nil_append, (Qbi hT hk).1] at hd
        have hd2 : dl n [XW t k] = (k : Int) := by rw [hd]; show 0 + (t.Earliest + (k : Int)) - t.Earliest = (k : Int); omega
        rw [e]
        refine ⟨?_, h2, h4⟩
        rw [List.map_singleton, (Qbi hT hk).1, hd2] at h1
        exact h1
      refine ⟨((List.range (Yc t)).map res).foldl XR YF, ?_, ?_⟩
      · rw [decide_eq_false (by simp; omega), cond_false, show idx (t :: ts) 0 = some t from rfl, Qw, QKp (by omega) (fun k hk => ⟨(hres2 k hk).1, by have := (hres2 k hk).2.2; omega⟩), Qw]
        rfl
      · rw [X7, List.map_flatMap]
        exact Bst.flat (fun k hk => (hres2 k (List.mem_range.1 hk)).2.1) (Qeh _).1
  obtain ⟨B, hB, hb⟩ := hmid
  have hopen : Qab n = some (⟨n⟩, 0) := by unfold Qab; rw [Qkz hS, Qw, h0]
  have hspec : ZQ n = (bif !B.found then some ([], 0, 12) else Option.bind (loop (Qau (⟨n⟩, 0) B.at_) (([] : List FeedDeparture), 0)) fun x => some (x, B.delay, 0)) := by
    unfold ZQ
    rw [hopen, Qw]
    simp only [decide_true, Bool.not_true, cond_false]
    have hpl : Qaw (feed_net.mk (FeedNet.mk n.Stations n.Sections n.Trains)) = some (Jb n) := Qqm hS.tr
    rw [hpl, Qw, hc]
    simp only [decide_true, Bool.not_true, cond_false]
    exact congrArg (fun e => Option.bind e fun (x : List Int × Int × Bool) => (bif !x.2.2 then some (([] : List FeedDeparture), (0 : Int), (12 : Int)) else Option.bind (loop (Qau (⟨n⟩, 0) x.1) (([] : List FeedDeparture), 0)) fun y => some (y, x.2.1, 0))) hB
  cases hf : B.found with
  | false =>
    right
    rw [hspec, hf]
    refine ⟨fun q hq => ?_, rfl⟩
    rcases hb with ⟨h1, _⟩ | ⟨_, h1, _⟩
    · exact h1 _ (List.mem_map.2 ⟨q, deps_mem.2 hq, rfl⟩)
    · rw [hf] at h1; cases h1
  | true =>
    left
    rcases hb with ⟨_, h1⟩ | ⟨h1, h2, hmin⟩
    · rw [hf] at h1; cases h1
    · obtain ⟨p, hp, rfl⟩ := List.mem_map.1 h1
      have hF := deps_mem.1 hp
      refine ⟨p, hF, hf, .inr ⟨h1, h2, hmin⟩, ?_⟩
      have hlen := hF.len
      have key : loop (Qau (⟨n⟩, 0) (X1 n p).at_) (([] : List FeedDeparture), 0) = some p :=
        YU (fun k => (p.take k, (k : Int))) p.length (fun k hk => by
          have hk2 : k < n.Trains.length := by omega
          have hg := hF.get k hk hk2
          have hk3 : k < (p.map (·.At)).length := by simpa using hk
          unfold Qau X1
          simp only [List.length_map, XL hk, cond_true]
          rw [Xs hk3, Qw, Xs hk2, Qw, ZP (by simp; omega), Qw, XP k (by omega)]
          simp only [List.getElem_map, ← hg.1]
          rw [List.take_add_one, List.getElem?_eq_getElem hk]; rfl) (by
          unfold Qau X1
          simp only [List.length_map, XM, cond_false, List.take_length])
      rw [hspec, hf, key]
      rfl
end Go.Gw

end
section
set_option maxRecDepth 4096
namespace Go.Gw
open Go
def ZB (t : FeedTrain) (p : List FeedDeparture) : List (List FeedDeparture) := (List.range (Yc t)).map fun k => p ++ [XW t k]
def Z9 (ts : List FeedTrain) (all : List (List FeedDeparture)) : List (List FeedDeparture) := ts.foldl (fun all t => all.flatMap (ZB t)) all
theorem Qfz : ∀ (ts : List FeedTrain) (all : List (List FeedDeparture)), Z9 ts all = all.flatMap (X7 ts)
  | [], all => by
    unfold Z9
    simp only [List.foldl_nil]
    induction all with
    | nil => rfl
    | cons a all ih => rw [List.flatMap_cons, ← ih]; rfl
  | t :: ts, all => by
    have := Qfz ts (all.flatMap (ZB t))
    unfold Z9 at this ⊢
    rw [List.foldl_cons, this, List.flatMap_assoc]
    congr 1
    funext p
    rw [X7, ZB, List.flatMap_map]
theorem Qky (t : FeedTrain) : ∀ (all : List (List FeedDeparture)), (all.flatMap (ZB t)).length = all.length * Yc t
  | [] => by simp
  | p :: all => by rw [List.flatMap_cons, List.length_append, Qky t all]; simp [ZB, Nat.add_mul, Nat.add_comm]
theorem Qkg : ∀ (ts : List FeedTrain) (all : List (List FeedDeparture)), (∀ t ∈ ts, Yc t ≤ 4) → (Z9 ts all).length ≤ all.length * 4 ^ ts.length
  | [], all, _ => by simp [Z9]
  | t :: ts, all, h => by
    have h1 := Qkg ts (all.flatMap (ZB t)) fun x hx => h x (List.mem_cons_of_mem _ hx)
    have h2 := h t (List.mem_cons_self ..)
    rw [Qky] at h1
    refine Nat.le_trans h1 ?_
    rw [List.length_cons, Nat.pow_succ, Nat.mul_assoc, Nat.mul_comm (4 ^ ts.length) 4]
    exact Nat.mul_le_mul_left _ (Nat.mul_le_mul_right _ h2)
theorem Qzy {n : FeedNet} (h0 : (YB n).2 = 0) (h3 : n.Trains.length ≤ 3) (h4 : ∀ t ∈ n.Trains, Yc t ≤ 4) : Qid n = some (X7 n.Trains []) := by
  have hT := Qou h0
  have main : loop (Qic n) ([[]], 0) = some (Z9 n.Trains [[]]) :=
    YU (fun i => (Z9 (n.Trains.take i) [[]], (i : Int))) n.Trains.length (fun i hi => by
      have ht := Qbm (hT.ok _ (List.getElem_mem hi))
      have hw : (Yc n.Trains[i] : Int) = n.Trains[i].Latest - n.Trains[i].Earliest + 1 := by unfold Yc; omega
      have hw4 := h4 _ (List.getElem_mem hi)
      have hlen := Qkg (n.Trains.take i) [[]] fun t ht => h4 t (List.mem_of_mem_take ht)
      have hi3 : (n.Trains.take i).length ≤ 3 := by rw [List.length_take]; omega
      have hpow : 4 ^ (n.Trains.take i).length ≤ 4 ^ 3 := Nat.pow_le_pow_right (by omega) hi3
      simp only [List.length_cons, List.length_nil, Nat.zero_add, Nat.one_mul] at hlen
      have hmem : ∀ p ∈ Z9 (n.Trains.take i) [[]], p.length ≤ 3 := fun p hp => by
        rw [Qfz, List.flatMap_cons, List.flatMap_nil, List.append_nil] at hp
        rw [(deps_mem.1 hp).len]; exact hi3
      have hnext : Z9 (n.Trains.take (i + 1)) [[]] = (Z9 (n.Trains.take i) [[]]).flatMap (ZB n.Trains[i]) := by
        unfold Z9; exact Qbb _ _ _ _ hi
      generalize Z9 (n.Trains.take i) [[]] = all at hlen hmem hnext
      have mid : loop (Qib n.Trains[i] all) ([], 0) = some (all.flatMap (ZB n.Trains[i])) :=
        YU (fun k => ((all.take k).flatMap (ZB n.Trains[i]), (k : Int))) all.length (fun k hk => by
          have hl2 := Qky n.Trains[i] (all.take k)
          have hl3 : (all.take k).length * Yc n.Trains[i] ≤ 64 * 4 := Nat.mul_le_mul (by rw [List.length_take]; omega) hw4
          have hp := hmem _ (List.getElem_mem hk)
          have inn : loop (Qey n.Trains[i] all (k : Int)) ((all.take k).flatMap (ZB n.Trains[i]), n.Trains[i].Earliest) = some ((all.take (k + 1)).flatMap (ZB n.Trains[i])) := by
            have key := YU (step := Qey n.Trains[i] all (k : Int)) (o := (all.take (k + 1)).flatMap (ZB n.Trains[i])) (fun j => ((all.take k).flatMap (ZB n.Trains[i]) ++ (List.range j).map (fun j => all[k] ++ [XW n.Trains[i] j]), n.Trains[i].Earliest + (j : Int))) (Yc n.Trains[i]) (fun j hj => by
              unfold Qey
              simp only []
              rw [decide_eq_true (by omega), cond_true, Xs hk, Qw, QBn _ (by omega), Qw, ZP (by simp; omega), Qw, ZP (by simp only [List.length_append, List.length_map, List.length_range, List.length_cons, List.length_nil]; omega), Qw, XX (x := n.Trains[i].Earliest + (j : Int) + 1) (by omega), List.range_succ, List.map_append, List.append_assoc,
                show n.Trains[i].Earliest + (j : Int) + 1 = n.Trains[i].Earliest + ((j + 1 : Nat) : Int) by omega]
              rfl) (by
              unfold Qey
              simp only []
              rw [decide_eq_false (by omega), cond_false, List.take_add_one, List.getElem?_eq_getElem hk, List.flatMap_append]
              simp [ZB])
            simpa using key
          unfold Qib
          simp only [XL hk, cond_true]
          rw [inn, Qw, XP k (by omega)]) (by
          unfold Qib
          simp only [XM, cond_false, List.take_length])
      unfold Qic
      simp only [XL hi, cond_true, Xs hi, Qw]
      rw [mid, Qw, XP i (by omega), hnext]) (by
      unfold Qic
      simp only [XM, cond_false, List.take_length])
  unfold Qid
  rw [main, Qw, Qfz]
  simp
theorem Qzw {n : FeedNet} (hn : NetOk n) (hs : n.Trains.length < 1000) {p : List FeedDeparture} (hp : p.length ≤ 8) (h : ∀ d ∈ p, 0 ≤ Y3 n d.Train ∧ 0 ≤ d.At ∧ d.At ≤ 1000) : Qbf n p = some (dl n p) := by
  have hE : ∀ d ∈ p, ∃ t, idx n.Trains (Y3 n d.Train) = some t ∧ (Q4 n d).FeedTrain = t ∧ 0 ≤ t.Earliest ∧ t.Earliest ≤ 1000 := fun d hd => by
    obtain ⟨t, h1, h2, h3⟩ := Qzg (h d hd).1
    have := Qbm (hn.tr t (List.mem_of_getElem? h1))
    refine ⟨t, by unfold idx; rw [if_pos (h d hd).1]; exact h1, by unfold Q4; rw [h1]; rfl, this.1.1, this.1.2⟩
  have hb : ∀ k, k ≤ p.length → -(1000 * (k : Int)) ≤ dl n (p.take k) ∧ dl n (p.take k) ≤ 1000 * (k : Int) := by
    intro k
    induction k with
    | zero => intro _; simp [dl]
    | succ k ih =>
      intro hk
      obtain ⟨t, h1, h2, h3, h4⟩ := hE _ (List.getElem_mem (show k < p.length by omega))
      have h5 := h _ (List.getElem_mem (show k < p.length by omega))
      have := ih (by omega)
      unfold dl at this ⊢
      rw [Qbb _ _ _ _ (by omega)]
      unfold dlF
      rw [h2]
      unfold dlF at this
      omega
  have key : loop (Qhy p n) (0, 0) = some (dl n p) :=
    YU (fun k => (dl n (p.take k), (k : Int))) p.length (fun k hk => by
      obtain ⟨t, h1, h2, h3, h4⟩ := hE _ (List.getElem_mem hk)
      have h5 := h _ (List.getElem_mem hk)
      have hk1 := hb k (by omega)
      unfold Qhy
      simp only [XL hk, cond_true, Xs hk, Qw]
      rw [Qnm n _ (by omega), Qw, h1, Qw, XX (x := dl n (p.take k) + p[k].At) (by omega), XX (x := dl n (p.take k) + p[k].At - t.Earliest) (by omega), XP k (by omega)]
      have e : dl n (p.take (k + 1)) = dl n (p.take k) + p[k].At - t.Earliest := by
        unfold dl; rw [Qbb _ _ _ _ hk]; unfold dlF; rw [h2]
      rw [e]) (by
      unfold Qhy
      simp only [XM, cond_false, List.take_length])
  unfold Qbf
  rw [key]; rfl
theorem Fits.delay {n : FeedNet} (h0 : (YB n).2 = 0) (hs : n.Trains.length < 1000) {p : List FeedDeparture} (hp : Fits n.Trains p) : Qbf n p = some (dl n p) :=
  have hR := hp.rt h0 hs
  Qzw hR.ne hs (by have := hR.l6; omega) fun d hd => ⟨(hR.ru d hd).2, (hR.ru d hd).1.2.2⟩
/-! ### The reference's choice -/
def rb (n : FeedNet) (a : List FeedDeparture × Bool) (p : List FeedDeparture) : List FeedDeparture × Bool := if a.2 = true ∧ dl n a.1 ≤ dl n p then a else if (Zj n (p.map (Q4 n))).isNone = true then (p, true) else a
theorem Qtt {α γ : Type} (f : γ → α → γ) : ∀ (l : List α) (k : Nat) (a : γ), fld (fun _ => f) k a l = l.foldl f a
  | [], _, _ => rfl
  | x :: l, k, a => Qtt f l (k + 1) (f a x)
theorem QLe {n : FeedNet} (h0 : (YB n).2 = 0) (h3 : n.Trains.length ≤ 3) (h4 : ∀ t ∈ n.Trains, Yc t ≤ 4) : Qco n = some ((X7 n.Trains []).foldl (rb n) ([], false)) := by
  have hs : n.Trains.length < 1000 := by omega
  have hlen : (X7 n.Trains []).length ≤ 64 := by
    have := Qkg n.Trains [[]] h4
    rw [Qfz] at this
    simp only [List.flatMap_cons, List.flatMap_nil, List.append_nil, List.length_cons, List.length_nil, Nat.zero_add, Nat.one_mul] at this
    have h5 : 4 ^ n.Trains.length ≤ 4 ^ 3 := Nat.pow_le_pow_right (by omega) h3
    omega
  have hF : ∀ p ∈ X7 n.Trains [], Fits n.Trains p := fun p hp => deps_mem.1 hp
  unfold Qco
  rw [Qzy h0 h3 h4, Qw]
  generalize X7 n.Trains [] = P at hlen hF
  have key := (QHu (step := Qhp n P) P (fun _ => rb n) (fun a k => (a.1, a.2, (k : Int))) (fun a => (a.1, a.2)) (fun a _ => a.2 = true → Fits n.Trains a.1) ([], false) (fun h => by cases h) (fun k hk a ha => by
    have hp := hF _ (List.getElem_mem hk)
    have hnew : Fits n.Trains P[k] := hp
    have hgo : (Option.bind (α := Bool) (Option.bind (idx P (k : Int)) fun el => Option.bind (Qeu n el) fun r => some r.2) fun x => (bif !x then Option.bind (idx P (k : Int)) fun el => some (.inl (el, true, ((k + 1 : Nat) : Int))) else some (.inl (a.1, a.2, ((k + 1 : Nat) : Int))) : Option ((List FeedDeparture × Bool × Int) ⊕ (List FeedDeparture × Bool)))) = some (.inl ((if (Zj n (P[k].map (Q4 n))).isNone = true then (P[k], true) else a).1, (if (Zj n (P[k].map (Q4 n))).isNone = true then (P[k], true) else a).2, ((k + 1 : Nat) : Int))) := by
      rw [Xs hk, Qw, QLl (hp.rt h0 hs), Qw, Qw, Qwe, Qw]
      cases (Zj n (P[k].map (Q4 n))).isNone <;> rfl
    unfold Qhp rb
    simp only [XL hk, cond_true]
    rw [XP k (by omega)]
    cases hf : a.2 with
    | false =>
      simp only [cond_false, Qw, Bool.false_and, Bool.false_eq_true, false_and, if_false]
      rw [hf] at hgo
      refine ⟨hgo, ?_⟩
      split
      · intro _; exact hnew
      · intro h; exact ha h
    | true =>
      have hd := (ha hf).delay h0 hs
      simp only [cond_true, Xs hk, Qw, hp.delay h0 hs, hd, Bool.true_and, true_and]
      rw [hf] at hgo
      simp only [Xs hk, Qw] at hgo
      by_cases hc : dl n a.1 ≤ dl n P[k]
      · rw [decide_eq_true hc, if_pos hc]
        simp only [cond_true]
        exact ⟨by rw [hf], ha⟩
      · rw [decide_eq_false hc, if_neg hc, cond_false]
        refine ⟨hgo, ?_⟩
        split
        · intro _; exact hnew
        · intro h; exact ha h) (fun a _ => by
    unfold Qhp
    simp only [XM, cond_false])).1
  rw [Qtt] at key
  have e : ((([] : List FeedDeparture), false, (0 : Int))) = ((([] : List FeedDeparture), false).1, (([] : List FeedDeparture), false).2, ((0 : Nat) : Int)) := rfl
  rw [e, key, Qw]
/-! ### Both are the same -/
theorem Qqe : ∀ (ts : List FeedTrain) (q : List FeedDeparture), (X7 ts q).Pairwise fun a b => Yb (a.map (·.At)) (b.map (·.At)) < 0
  | [], q => by rw [X7]; exact List.pairwise_singleton _ _
  | t :: ts, q => by
    rw [X7, List.pairwise_flatMap]
    refine ⟨fun k _ => Qqe ts _, ?_⟩
    refine List.Pairwise.imp ?_ (List.pairwise_lt_range (n := Yc t))
    intro a b hab x hx y hy
    obtain ⟨r, rfl, _⟩ := depsOf_mem.1 hx
    obtain ⟨s, rfl, _⟩ := depsOf_mem.1 hy
    simp only [List.map_append, List.map_cons, List.append_assoc, List.cons_append, List.nil_append]
    exact Quj _ _ (by show t.Earliest + (a : Int) < t.Earliest + (b : Int); omega) _ _ _
theorem Qnn (n : FeedNet) : ∀ (l : List (List FeedDeparture)) (a : List FeedDeparture × Bool) (B : feed_plan), l.Pairwise (fun a b => Yb (a.map (·.At)) (b.map (·.At)) < 0) → a.2 = B.found → (a.2 = true → B = X1 n a.1 ∧ ∀ q ∈ l, Yb (a.1.map (·.At)) (q.map (·.At)) < 0) →
    (l.foldl (rb n) a).2 = ((l.map (X1 n)).foldl XR B).found ∧ ((l.foldl (rb n) a).2 = true → (l.map (X1 n)).foldl XR B = X1 n (l.foldl (rb n) a).1)
  | [], a, B, _, h1, h2 => ⟨h1, fun h => (h2 h).1⟩
  | q :: l, a, B, hs, h1, h2 => by
    rw [List.map_cons, List.foldl_cons, List.foldl_cons]
    rw [List.pairwise_cons] at hs
    have keep : ∀ (c : feed_plan), c = B → (l.foldl (rb n) a).2 = ((l.map (X1 n)).foldl XR c).found ∧ ((l.foldl (rb n) a).2 = true → (l.map (X1 n)).foldl XR c = X1 n (l.foldl (rb n) a).1) := fun c hc => by
      subst hc
      exact Qnn n l a c hs.2 h1 fun h => ⟨(h2 h).1, fun x hx => (h2 h).2 x (List.mem_cons_of_mem _ hx)⟩
    have new : (Zj n (q.map (Q4 n))).isNone = true → ∀ (c : feed_plan), c = X1 n q → (l.foldl (rb n) (q, true)).2 = ((l.map (X1 n)).foldl XR c).found ∧ ((l.foldl (rb n) (q, true)).2 = true → (l.map (X1 n)).foldl XR c = X1 n (l.foldl (rb n) (q, true)).1) := fun hq c hc => by
      subst hc
      exact Qnn n l (q, true) _ hs.2 hq.symm fun _ => ⟨rfl, fun x hx => hs.1 x hx⟩
    have hbf : (X1 n q).found = (Zj n (q.map (Q4 n))).isNone := rfl
    unfold rb
    cases ha : a.2 with
    | false =>
      rw [if_neg (by simp)]
      have hB : B.found = false := by rw [← h1, ha]
      by_cases hq : (Zj n (q.map (Q4 n))).isNone = true
      · rw [if_pos hq]
        refine new hq _ ?_
        unfold XR Zy; rw [hB, hbf, hq]; rfl
      · rw [if_neg hq]
        refine keep _ ?_
        unfold XR Zy; rw [hbf, show (Zj n (q.map (Q4 n))).isNone = false from Bool.eq_false_iff.2 hq]; rfl
    | true =>
      obtain ⟨hB, hlt⟩ := h2 ha
      have hl := hlt q (List.mem_cons_self ..)
      have hf : B.found = true := by rw [← h1, ha]
      have hpc : (pc (X1 n q) B < 0) ↔ ¬ dl n a.1 ≤ dl n q := by
        rw [hB]
        unfold pc
        show ((if dl n q < dl n a.1 then (-1 : Int) else if dl n a.1 < dl n q then 1 else Yb (q.map (·.At)) (a.1.map (·.At))) < 0) ↔ _
        rw [Qmv] 
        by_cases c1 : dl n q < dl n a.1
        · rw [if_pos c1]; omega
        · rw [if_neg c1]
          by_cases c2 : dl n a.1 < dl n q
          · rw [if_pos c2]; omega
          · rw [if_neg c2]; omega
      by_cases hc : dl n a.1 ≤ dl n q
      · rw [if_pos ⟨rfl, hc⟩]
        refine keep _ ?_
        unfold XR Zy; rw [hf, decide_eq_false (fun h => hpc.1 h hc)]; simp
      · rw [if_neg (fun h => hc h.2)]
        by_cases hq : (Zj n (q.map (Q4 n))).isNone = true
        · rw [if_pos hq]
          refine new hq _ ?_
          unfold XR Zy; rw [hf, hbf, hq, decide_eq_true (hpc.2 hc)]; rfl
        · rw [if_neg hq]
          refine keep _ ?_
          unfold XR Zy; rw [hbf, show (Zj n (q.map (Q4 n))).isNone = false from Bool.eq_false_iff.2 hq]; rfl
end Go.Gw

end
