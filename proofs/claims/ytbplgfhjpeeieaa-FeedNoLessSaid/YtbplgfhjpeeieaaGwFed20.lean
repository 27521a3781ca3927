/- Laws of the walk. Condition: each theorem says its own. -/
import Derived.Test.YtbplgfhjpeeieaaGwAwake
set_option linter.unusedVariables false
set_option linter.unusedSimpArgs false
set_option linter.unusedSectionVars false
section
set_option maxRecDepth 4096
namespace Go.Gw
open Go
/-! ### Names are apart -/
theorem Qzr {α : Type} {p : α → Bool} : ∀ (l : List α) (k m : Nat) (hk : k < l.length), p l[k] = true → (l.take k).any p = false → XR p (fun k _ => (k : Int)) m l = .inl ((m + k : Nat) : Int)
  | x :: xs, 0, m, _, hp, _ => by simp at hp; simp [XR, hp]
  | x :: xs, k + 1, m, hk, hp, ha => by
    simp only [List.take_succ_cons, List.any_cons, Bool.or_eq_false_iff] at ha
    simp only [XR, ha.1]
    have := Qzr xs k (m + 1) (by simpa using hk) (by simpa using hp) ha.2
    rw [← show m + 1 + k = m + (k + 1) by omega]
    simpa using this
theorem Qio {n : FeedNet} (h : (X6 n).2 = 0) {k : Nat} (hk : k < n.Trains.length) : Yd n n.Trains[k].Name = (k : Int) := by
  have h0 : Ze n k = 0 := by
    unfold X6 at h
    split at h
    · cases h
    · split at h
      · cases h
      · rcases JY (ZC n) n.Stations.length with ⟨a1, a2⟩ | ⟨i, a1, a2, a3, _⟩
        · rw [a1] at h
          rcases JY (ZB n) n.Sections.length with ⟨b1, b2⟩ | ⟨i, b1, b2, b3, _⟩
          · rw [b1] at h
            rcases JY (Ze n) n.Trains.length with ⟨c1, c2⟩ | ⟨i, c1, c2, c3, _⟩
            · exact c2 k hk
            · rw [c1] at h; exact absurd h c3
          · rw [b1] at h; exact absurd h b3
        · rw [a1] at h; exact absurd h a3
  rw [show Ze n k = trE n.Trains[k] ((n.Trains.take k).map (·.Name)) n.Sections.length from ZN _ _ _ hk] at h0
  unfold trE at h0
  split at h0
  · rename_i hc; exact absurd h0 hc
  · rename_i hc
    have hc : Z8 n.Trains[k].Name ((n.Trains.take k).map (·.Name)) = 0 := by
      rcases Decidable.em (Z8 n.Trains[k].Name ((n.Trains.take k).map (·.Name)) = 0) with h | h
      · exact h
      · exact absurd h hc
    unfold Z8 at hc
    split at hc
    · cases hc
    · split at hc
      · cases hc
      · rename_i ha
        rw [Qlc, Bool.not_eq_true] at ha
        unfold Yd
        rw [Qzr n.Trains k 0 hk (by simp) ha]
        simp
def XV (t : FeedTrain) (k : Nat) : FeedDeparture := FeedDeparture.mk t.Name (t.Earliest + k)
def Yg (t : FeedTrain) : Nat := (t.Latest - t.Earliest + 1).toNat
def Zi : List FeedTrain → List FeedDeparture → List (List FeedDeparture)
  | [], p => [p]
  | t :: ts, p => (List.range (Yg t)).flatMap fun k => Zi ts (p ++ [XV t k])
def dlF (n : FeedNet) (a : Int) (d : FeedDeparture) : Int := a + d.At - (Xc n d).FeedTrain.Earliest
def dl (n : FeedNet) (p : List FeedDeparture) : Int := p.foldl (dlF n) 0
def YJ (n : FeedNet) (p : List FeedDeparture) : feed_plan := ⟨p.map (·.At), dl n p, (Zc n (p.map (Xc n))).isNone⟩
theorem Qlt (n : FeedNet) (p : List FeedDeparture) (d : FeedDeparture) : dl n (p ++ [d]) = dl n p + d.At - (Xc n d).FeedTrain.Earliest := by
  unfold dl; rw [List.foldl_append]; rfl
theorem QMv (o : Option FeedPeak) : (!(pkB o).2) = o.isNone := by cases o <;> rfl
structure Trs (n : FeedNet) (ts : List FeedTrain) : Prop where
  ne : NetOk n
  ru : ∀ t ∈ ts, ∀ a : Int, Xc n (FeedDeparture.mk t.Name a) = feed_run.mk t a
  ok : ∀ t ∈ ts, Zp t n.Sections.length = 0
theorem Qpt {n : FeedNet} (h : (X6 n).2 = 0) : Trs n n.Trains := by
  refine ⟨Qbf h, fun t ht a => ?_, (Qbf h).tr⟩
  obtain ⟨k, hk, rfl⟩ := List.mem_iff_getElem.1 ht
  unfold Xc
  simp only [Qio h hk, Int.toNat_natCast, List.getElem?_eq_getElem hk, Option.getD_some]
theorem Trs.tail {n : FeedNet} {t : FeedTrain} {ts : List FeedTrain} (h : Trs n (t :: ts)) : Trs n ts := ⟨h.ne, fun x hx => h.ru x (List.mem_cons_of_mem _ hx), fun x hx => h.ok x (List.mem_cons_of_mem _ hx)⟩
theorem Qcd {n : FeedNet} {t : FeedTrain} {ts : List FeedTrain} (h : Trs n (t :: ts)) {k : Nat} (hk : k < Yg t) : Xc n (XV t k) = feed_run.mk t (t.Earliest + k) ∧ ZH n.Sections.length (Xc n (XV t k)) := by
  have h1 := h.ru t (List.mem_cons_self ..) (t.Earliest + k)
  have h2 := ZS (h.ok t (List.mem_cons_self ..))
  unfold Yg at hk
  refine ⟨h1, ?_⟩
  unfold XV
  rw [h1]
  exact ⟨h2.2.2.2.2.2, h2.2.2.2.2.1, by show 0 ≤ t.Earliest + (k : Int); omega, by show t.Earliest + (k : Int) ≤ 1000; omega⟩
theorem QJq {n : FeedNet} (p : List FeedDeparture) (hp : p.length ≤ 8) : loop (Qev (p.map (Xc n))) (0, ([] : List Int)) = some (p.map (·.At)) :=
  Zm (fun k => ((k : Int), (p.take k).map (·.At))) p.length (fun k hk => by
    unfold Qev
    simp only [List.length_map, XN hk, cond_true]
    rw [Xs (show k < (p.map (Xc n)).length by simpa using hk), Qw, Jl (by simp; omega), Qw, XP k (by omega)]
    simp only [List.getElem_map]
    rw [show ([(Xc n p[k]).at_] : List Int) = [p[k].At] from rfl, Qjy p (·.At) k hk]) (by
    unfold Qev
    simp only [List.length_map, XO, cond_false, List.take_length])
theorem QDb {α : Type} (l : List α) : cut l 0 (l.length : Int) = some l := by
  unfold cut; simp
def Qbw (p : feed_plan) : List Int × Int × Bool := (p.at_, p.delay, p.found)
theorem Qpd {n : FeedNet} : ∀ (ts : List FeedTrain) (p : List FeedDeparture) (fuel : Nat), Trs n ts → n.Trains.length = p.length + ts.length → (∀ j, (hj : j < ts.length) → n.Trains[p.length + j]? = some ts[j]) → ts.length < fuel → p.length + ts.length ≤ 6 → (∀ r ∈ p.map (Xc n), ZH n.Sections.length r) → (0 ≤ dl n p ∧ dl n p ≤ 1000 * p.length) →
    ∃ B, YI fuel ⟨n⟩ (p.map (Xc n)) (dl n p) = some B ∧ Bst ((Zi ts p).map (YJ n)) B ∧ B.at_.length ≤ 6
  | [], p, fuel, hT, hlen, hget, hf, h6, hr, hd => by
    obtain ⟨fl, rfl⟩ : ∃ fl, fuel = fl + 1 := ⟨fuel - 1, by simp at hf; omega⟩
    refine ⟨YJ n p, ?_, ?_, by simp [YJ]; simpa using h6⟩
    · show Qbu (YI fl) ⟨n⟩ (p.map (Xc n)) (dl n p) = _
      unfold Qbu
      rw [decide_eq_true (by simp only [List.length_map]; simp at hlen; omega), cond_true, Qro hT.ne (by simp at h6 ⊢; omega) hr, Qw, QJq p (by simp at h6; omega), Qw, QMv]
      rfl
    · simp only [Zi, List.map_cons, List.map_nil]
      cases hb : (YJ n p).found with
      | false => exact .inl ⟨fun q hq => by rw [List.mem_singleton.1 hq]; exact hb, hb⟩
      | true => exact .inr ⟨List.mem_singleton.2 rfl, hb, fun q hq _ => by rw [List.mem_singleton.1 hq, Qor]; exact Int.le_refl _⟩
  | t :: ts, p, fuel, hT, hlen, hget, hf, h6, hr, hd => by
    obtain ⟨fl, rfl⟩ : ∃ fl, fuel = fl + 1 := ⟨fuel - 1, by simp at hf; omega⟩
    have htr := ZS (hT.ok t (List.mem_cons_self ..))
    simp only [List.length_cons] at hlen hf h6
    have hw : (Yg t : Int) = t.Latest - t.Earliest + 1 := by unfold Yg; omega
    have hdl : ∀ k, k < Yg t → dl n (p ++ [XV t k]) = dl n p + k := fun k hk => by
      rw [Qlt, (Qcd hT hk).1]; show dl n p + (t.Earliest + (k : Int)) - t.Earliest = _; omega
    have hres : ∀ k, k < Yg t → ∃ B, YI fl ⟨n⟩ ((p ++ [XV t k]).map (Xc n)) (dl n (p ++ [XV t k])) = some B ∧ Bst ((Zi ts (p ++ [XV t k])).map (YJ n)) B ∧ B.at_.length ≤ 6 := fun k hk =>
      Qpd ts (p ++ [XV t k]) fl hT.tail (by simp; omega) (fun j hj => by
        have := hget (j + 1) (by simpa using hj)
        rw [List.length_append]
        simpa [Nat.add_assoc, Nat.add_comm 1 j] using this) (by omega) (by simp; omega) (fun r hr2 => by
        rw [List.map_append, List.mem_append] at hr2
        rcases hr2 with hr2 | hr2
        · exact hr r hr2
        · rw [List.map_singleton, List.mem_singleton] at hr2
          subst hr2
          exact (Qcd hT hk).2) (by rw [hdl k hk, List.length_append]; simp; omega)
    let res : Nat → feed_plan := fun k => (YI fl ⟨n⟩ ((p ++ [XV t k]).map (Xc n)) (dl n (p ++ [XV t k]))).getD default
    have hres2 : ∀ k, k < Yg t → YI fl ⟨n⟩ ((p ++ [XV t k]).map (Xc n)) (dl n (p ++ [XV t k])) = some (res k) ∧ Bst ((Zi ts (p ++ [XV t k])).map (YJ n)) (res k) ∧ (res k).at_.length ≤ 6 := fun k hk => by
      obtain ⟨B, h1, h2, h3⟩ := hres k hk
      have e : res k = B := by show (YI fl ⟨n⟩ ((p ++ [XV t k]).map (Xc n)) (dl n (p ++ [XV t k]))).getD default = B; rw [h1]; rfl
      rw [e]; exact ⟨h1, h2, h3⟩
    have hlk : ∀ m, m ≤ Yg t → (((List.range m).map res).foldl Yo YM).at_.length ≤ 6 := by
      intro m
      induction m with
      | zero => intro _; simp [YM]
      | succ m ih =>
        intro hm
        rw [List.range_succ, List.map_append, List.foldl_append]
        have ih2 := ih (by omega)
        have hm2 := (hres2 m (by omega)).2.2
        show (Yo (((List.range m).map res).foldl Yo YM) (res m)).at_.length ≤ 6
        generalize ((List.range m).map res).foldl Yo YM = a at ih2
        unfold Yo
        cases bet (res m) a with
        | true => exact hm2
        | false => exact ih2
    refine ⟨((List.range (Yg t)).map res).foldl Yo YM, ?_, ?_, hlk _ (Nat.le_refl _)⟩
    · have ht0 : n.Trains[p.length]? = some t := by have := hget 0 (by simp); simpa using this
      have hp6 : p.length < n.Trains.length := (List.getElem?_eq_some_iff.1 ht0).1
      have key := Zm (step := Qew t ⟨n⟩ (p.map (Xc n)) (dl n p) (YI fl)) (o := Qbw (((List.range (Yg t)).map res).foldl Yo YM)) (fun k => (t.Earliest + (k : Int), Qbw (((List.range k).map res).foldl Yo YM))) (Yg t) (fun k hk => by
        have hrun := (Qcd hT hk).1
        have hd2 := hdl k hk
        unfold Qew Qbw
        simp only []
        rw [decide_eq_true (by omega), cond_true, QDb, Qw, Jl (by simp; omega), Qw, ← hrun, XK (x := dl n p + (t.Earliest + (k : Int))) (by omega), XK (x := dl n p + (t.Earliest + (k : Int)) - t.Earliest) (by omega),
          show dl n p + (t.Earliest + (k : Int)) - t.Earliest = dl n (p ++ [XV t k]) by omega, show p.map (Xc n) ++ [Xc n (XV t k)] = (p ++ [XV t k]).map (Xc n) by simp, (hres2 k hk).1, Qw, Qqp _ _ (by have := (hres2 k hk).2.2; omega), Qw, XK (x := t.Earliest + (k : Int) + 1) (by omega),
          List.range_succ, List.map_append, List.foldl_append, show t.Earliest + (k : Int) + 1 = t.Earliest + ((k + 1 : Nat) : Int) by omega]
        generalize ((List.range k).map res).foldl Yo YM = a
        show (bif bet (res k) a then some (Sum.inl (_, (res k).at_, (res k).delay, (res k).found)) else some (Sum.inl (_, a.at_, a.delay, a.found))) = some (Sum.inl (_, (Yo a (res k)).at_, (Yo a (res k)).delay, (Yo a (res k)).found))
        unfold Yo
        cases bet (res k) a <;> rfl) (by
        unfold Qew Qbw
        simp only []
        rw [decide_eq_false (by omega)]; rfl)
      show Qbu (YI fl) ⟨n⟩ (p.map (Xc n)) (dl n p) = _
      unfold Qbu
      rw [decide_eq_false (by simp only [List.length_map]; omega), cond_false]
      simp only [List.length_map, Xs?, ht0, Qw]
      have e0 : (t.Earliest, ([] : List Int), (0 : Int), false) = (t.Earliest + ((0 : Nat) : Int), Qbw (((List.range 0).map res).foldl Yo YM)) := by simp [Qbw, YM]
      rw [e0, key]
      rfl
    · rw [Zi, List.map_flatMap]
      exact Bst.flat (fun k hk => (hres2 k (List.mem_range.1 hk)).2.1) (Qhx _).1
end Go.Gw

end
section
set_option maxRecDepth 4096
namespace Go.Gw
open Go
def Qds (t : FeedTrain) : Bool := decide (8 ≤ w64 (t.Latest - t.Earliest))
def Jo (n : FeedNet) : Int := if 4 < n.Trains.length ∨ n.Trains.any Qds = true then 8 else 0
theorem QEd {n : FeedNet} (hn : n.Trains.length < 1000) : Qct ⟨n⟩ = some (Jo n) := by
  have key : Qft n.Trains = some (n.Trains.any Qds) := by
    unfold Qft Qjp
    rw [Zv n.Trains Qds (fun k _ => (k : Int)), Qw, Qga, Qw, Qjw]
    · intro k hk
      unfold Qjo Qhs
      rw [XN hk, cond_true, Xs hk, Qw, XP k (by omega)]; rfl
    · unfold Qjo
      rw [XO]; rfl
  unfold Qct
  simp only []
  rw [key, Qw, ZU, Qw]
  unfold Jo
  by_cases h1 : 4 < n.Trains.length
  · rw [decide_eq_false (by omega)]; simp [h1]
  · rw [decide_eq_true (by omega)]
    cases n.Trains.any Qds <;> simp [h1]
theorem Qxp {n : FeedNet} (hn : n.Trains.length < 1000) : Qfo n = some (Jo n) := by
  unfold Qfo Jo
  by_cases h1 : 4 < n.Trains.length
  · rw [decide_eq_true (by omega)]; simp [h1]
  · rw [decide_eq_false (by omega), cond_false, Zv n.Trains Qds (fun _ _ => (8 : Int)), Qw]
    · rcases Qaq (p := Qds) (res := fun _ _ => (8 : Int)) n.Trains 0 with ⟨e1, e2⟩ | ⟨j, x, e1, _, e2⟩
      · rw [e1, e2]; simp [h1, jn0]
      · rw [e1, e2]; simp [jn0]
    · intro k hk
      unfold Qou
      rw [XN hk, cond_true, Xs hk, Qw, Qw, XP k (by omega)]; rfl
    · unfold Qou
      rw [XO]; rfl
theorem Qxq {n : FeedNet} (h : NetS n) : Qfq n = some (X6 n).2 := by
  unfold Qfq; rw [QNf h, Qw]
def Qfn (n : FeedNet) : Bool := (!decide ((X6 n).2 = 0)) || (!decide (Jo n = 0)) || (decide (n.Trains.length ≤ 3) && !(n.Trains.any fun t => decide (3 < w64 (t.Latest - t.Earliest))))
theorem QNb {n : FeedNet} (h : NetS n) : Qih n = some (Qfn n) := by
  unfold Qih Qfn
  rw [Qxq h, Qw, Qxp h.tr]
  by_cases h1 : (X6 n).2 = 0
  · by_cases h2 : Jo n = 0
    · simp only [h1, h2, decide_true, Bool.not_true, Bool.not_false, cond_true, Qw, Bool.or_self, cond_false, Bool.false_or]
      by_cases h3 : n.Trains.length ≤ 3
      · rw [decide_eq_false (by omega), decide_eq_true h3, cond_false, Zv n.Trains (fun t => decide (3 < w64 (t.Latest - t.Earliest))) (fun _ _ => false), Qw]
        · rcases Qaq (p := fun t : FeedTrain => decide (3 < w64 (t.Latest - t.Earliest))) (res := fun _ _ => false) n.Trains 0 with ⟨e1, e2⟩ | ⟨j, x, e1, _, e2⟩
          · rw [e1, e2]; rfl
          · rw [e1, e2]; rfl
        · intro k hk
          unfold Qnv
          rw [XN hk, cond_true, Xs hk, Qw, Qw, XP k (by omega)]
        · unfold Qnv
          rw [XO]; rfl
      · rw [decide_eq_true (by omega), decide_eq_false h3]; rfl
    · simp [h1, h2]
  · simp [h1]
theorem QNa {n : FeedNet} (h : Qfn n = true) (h1 : (X6 n).2 = 0) (h2 : Jo n = 0) : n.Trains.length ≤ 3 ∧ ∀ t ∈ n.Trains, Yg t ≤ 4 := by
  unfold Qfn at h
  simp only [h1, h2, decide_true, Bool.not_true, Bool.or_self, Bool.false_or, Bool.and_eq_true, decide_eq_true_eq, Bool.not_eq_true', List.any_eq_false] at h
  refine ⟨h.1, fun t ht => ?_⟩
  have ht2 := ZS ((Qbf h1).tr t ht)
  have := h.2 t ht
  rw [XK (by omega)] at this
  unfold Yg; omega
/-! ### Departures that fit -/
def Fits : List FeedTrain → List FeedDeparture → Prop
  | [], [] => True
  | t :: ts, d :: ds => (d.Train = t.Name ∧ t.Earliest ≤ d.At ∧ d.At ≤ t.Latest) ∧ Fits ts ds
  | _, _ => False
theorem Fits.len : ∀ {ts : List FeedTrain} {r : List FeedDeparture}, Fits ts r → r.length = ts.length
  | [], [], _ => rfl
  | _ :: _, _ :: _, h => by simp [Fits.len h.2]
theorem Fits.get : ∀ {ts : List FeedTrain} {r : List FeedDeparture}, Fits ts r → ∀ k (hk : k < r.length) (hk2 : k < ts.length), r[k].Train = ts[k].Name ∧ ts[k].Earliest ≤ r[k].At ∧ r[k].At ≤ ts[k].Latest
  | [], [], _, k, hk, _ => by simp at hk
  | _ :: _, _ :: _, h, 0, _, _ => h.1
  | _ :: _, _ :: _, h, k + 1, hk, hk2 => Fits.get h.2 k (by simpa using hk) (by simpa using hk2)
theorem Fits.eq : ∀ {ts : List FeedTrain} {r s : List FeedDeparture}, Fits ts r → Fits ts s → r.map (·.At) = s.map (·.At) → r = s
  | [], [], [], _, _, _ => rfl
  | _ :: _, ⟨a, b⟩ :: r, ⟨c, d⟩ :: s, h1, h2, h => by
    simp only [List.map_cons, List.cons.injEq] at h
    have e1 := h1.1.1
    have e2 := h2.1.1
    simp only at e1 e2
    rw [Fits.eq h1.2 h2.2 h.2, e1, e2, h.1]
theorem depsOf_mem : ∀ {ts : List FeedTrain} {q p : List FeedDeparture}, p ∈ Zi ts q ↔ ∃ r, p = q ++ r ∧ Fits ts r
  | [], q, p => by
    constructor
    · intro h
      rw [Zi, List.mem_singleton] at h
      exact ⟨[], by simp [h], trivial⟩
    · rintro ⟨r, rfl, h⟩
      cases r with
      | nil => simp [Zi]
      | cons _ _ => exact h.elim
  | t :: ts, q, p => by
    rw [Zi, List.mem_flatMap]
    constructor
    · rintro ⟨k, hk, hp⟩
      obtain ⟨r, rfl, hr⟩ := depsOf_mem.1 hp
      have hk := List.mem_range.1 hk
      unfold Yg at hk
      refine ⟨XV t k :: r, by simp, ⟨rfl, ?_, ?_⟩, hr⟩
      · show t.Earliest ≤ t.Earliest + (k : Int); omega
      · show t.Earliest + (k : Int) ≤ t.Latest; omega
    · rintro ⟨r, rfl, h⟩
      cases r with
      | nil => exact h.elim
      | cons d r =>
        obtain ⟨⟨h1, h2, h3⟩, h4⟩ := h
        refine ⟨(d.At - t.Earliest).toNat, List.mem_range.2 (by unfold Yg; omega), depsOf_mem.2 ⟨r, ?_, h4⟩⟩
        have e : XV t (d.At - t.Earliest).toNat = d := by
          unfold XV
          rw [← h1, show t.Earliest + (((d.At - t.Earliest).toNat : Nat) : Int) = d.At by omega]
        rw [e]; simp
theorem deps_mem {ts : List FeedTrain} {p : List FeedDeparture} : p ∈ Zi ts [] ↔ Fits ts p := by
  rw [depsOf_mem]; simp
theorem Fits.rt {n : FeedNet} (h : (X6 n).2 = 0) (hs : n.Trains.length < 1000) {p : List FeedDeparture} (hp : Fits n.Trains p) : Rt n p := by
  have hT := Qpt h
  refine ⟨hT.ne, hs, by rw [hp.len]; exact hT.ne.tr6, fun d hd => ?_⟩
  obtain ⟨k, hk, rfl⟩ := List.mem_iff_getElem.1 hd
  have hk2 : k < n.Trains.length := by rw [← hp.len]; exact hk
  have hg := hp.get k hk hk2
  have ht := ZS (hT.ok _ (List.getElem_mem hk2))
  have e : Xc n p[k] = feed_run.mk n.Trains[k] p[k].At := by
    rw [← hT.ru _ (List.getElem_mem hk2), ← hg.1]
  refine ⟨?_, by rw [hg.1, Qio h hk2]; omega⟩
  rw [e]
  exact ⟨ht.2.2.2.2.2, ht.2.2.2.2.1, by show 0 ≤ p[k].At; omega, by show p[k].At ≤ 1000; omega⟩
theorem QCe {n : FeedNet} (hS : NetS n) (h0 : (X6 n).2 = 0) (hc : Jo n = 0) (h3 : n.Trains.length ≤ 3) :
    (∃ p, Fits n.Trains p ∧ (YJ n p).found = true ∧ Bst ((Zi n.Trains []).map (YJ n)) (YJ n p) ∧ Qai n = some (p, dl n p, 0)) ∨ ((∀ q, Fits n.Trains q → (YJ n q).found = false) ∧ Qai n = some ([], 0, 12)) := by
  have hT := Qpt h0
  have hmid : ∃ B, ((bif decide ((n.Trains.length : Int) = 0) then Option.bind (YI 4 ⟨n⟩ [] 0) fun r => some (r.at_, r.delay, r.found) else Option.bind (idx n.Trains 0) fun t => Option.bind (Qak ⟨n⟩ t) fun r => some (r.at_, r.delay, r.found)) : Option (List Int × Int × Bool)) = some (Qbw B) ∧ Bst ((Zi n.Trains []).map (YJ n)) B := by
    cases hts : n.Trains with
    | nil =>
      obtain ⟨B, h1, h2, _⟩ := Qpd (n := n) n.Trains [] 4 hT (by simp) (fun j hj => by simp [List.getElem?_eq_getElem hj]) (by omega) (by simp; omega) (fun r hr => by cases hr) (by simp [dl])
      refine ⟨B, ?_, by rw [← hts]; exact h2⟩
      have h1' : YI 4 ⟨n⟩ [] 0 = some B := h1
      simp only [List.length_nil, Int.natCast_zero, decide_true, cond_true]
      rw [h1', Qw]; rfl
    | cons t ts =>
      rw [hts] at hT h3
      have ht := ZS (hT.ok t (List.mem_cons_self ..))
      have hres : ∀ k, k < Yg t → ∃ B, YI 4 ⟨n⟩ ([XV t k].map (Xc n)) (dl n [XV t k]) = some B ∧ Bst ((Zi ts [XV t k]).map (YJ n)) B ∧ B.at_.length ≤ 6 := fun k hk =>
        Qpd ts [XV t k] 4 hT.tail (by rw [hts]; simp; omega) (fun j hj => by rw [hts]; simp [Nat.add_comm 1 j, List.getElem?_eq_getElem hj]) (by simp at h3; omega) (by simp at h3 ⊢; omega) (fun r hr => by
          rw [List.map_singleton, List.mem_singleton] at hr; subst hr; exact (Qcd hT hk).2) (by
          have := Qlt n [] (XV t k)
          rw [List.nil_append, (Qcd hT hk).1] at this
          rw [this]
          unfold Yg at hk
          show 0 ≤ dl n [] + (t.Earliest + (k : Int)) - t.Earliest ∧ dl n [] + (t.Earliest + (k : Int)) - t.Earliest ≤ 1000 * ((1 : Nat) : Int)
          have e : dl n [] = 0 := rfl
          omega)
      let res : Nat → feed_plan := fun k => (YI 4 ⟨n⟩ ([XV t k].map (Xc n)) (dl n [XV t k])).getD default
      have hres2 : ∀ k, k < Yg t → Qfl ⟨n⟩ t k = some (res k) ∧ Bst ((Zi ts [XV t k]).map (YJ n)) (res k) ∧ (res k).at_.length ≤ 6 := fun k hk => by
        obtain ⟨B, h1, h2, h4⟩ := hres k hk
        have e : res k = B := by show (YI 4 ⟨n⟩ ([XV t k].map (Xc n)) (dl n [XV t k])).getD default = B; rw [h1]; rfl
        have hd := Qlt n [] (XV t k)
        rw [List.nil_append, (Qcd hT hk).1] at hd
        have hd2 : dl n [XV t k] = (k : Int) := by rw [hd]; show 0 + (t.Earliest + (k : Int)) - t.Earliest = (k : Int); omega
        rw [e]
        refine ⟨?_, h2, h4⟩
        rw [List.map_singleton, (Qcd hT hk).1, hd2] at h1
        exact h1
      refine ⟨((List.range (Yg t)).map res).foldl Yo YM, ?_, ?_⟩
      · rw [decide_eq_false (by simp; omega), cond_false, show idx (t :: ts) 0 = some t from rfl, Qw, QMp (by omega) (fun k hk => ⟨(hres2 k hk).1, by have := (hres2 k hk).2.2; omega⟩), Qw]
        rfl
      · rw [Zi, List.map_flatMap]
        exact Bst.flat (fun k hk => (hres2 k (List.mem_range.1 hk)).2.1) (Qhx _).1
  obtain ⟨B, hB, hb⟩ := hmid
  have hopen : Qaj n = some (⟨n⟩, 0) := by unfold Qaj; rw [Qmc hS, Qw, h0]
  have hspec : Qai n = (bif !B.found then some ([], 0, 12) else Option.bind (loop (Qbr (⟨n⟩, 0) B.at_) (([] : List FeedDeparture), 0)) fun x => some (x, B.delay, 0)) := by
    unfold Qai
    rw [hopen, Qw]
    simp only [decide_true, Bool.not_true, cond_false]
    have hpl : Qct (feed_net.mk (FeedNet.mk n.Stations n.Sections n.Trains)) = some (Jo n) := QEd hS.tr
    rw [hpl, Qw, hc]
    simp only [decide_true, Bool.not_true, cond_false]
    exact congrArg (fun e => Option.bind e fun (x : List Int × Int × Bool) => (bif !x.2.2 then some (([] : List FeedDeparture), (0 : Int), (12 : Int)) else Option.bind (loop (Qbr (⟨n⟩, 0) x.1) (([] : List FeedDeparture), 0)) fun y => some (y, x.2.1, 0))) hB
  cases hf : B.found with
  | false =>
    right
    rw [hspec, hf]
    refine ⟨fun q hq => ?_, rfl⟩
    rcases hb with ⟨h1, _⟩ | ⟨_, h1, _⟩
    · exact h1 _ (List.mem_map.2 ⟨q, deps_mem.2 hq, rfl⟩)
    · rw [hf] at h1; cases h1
  | true =>
    left
    rcases hb with ⟨_, h1⟩ | ⟨h1, h2, hmin⟩
    · rw [hf] at h1; cases h1
    · obtain ⟨p, hp, rfl⟩ := List.mem_map.1 h1
      have hF := deps_mem.1 hp
      refine ⟨p, hF, hf, .inr ⟨h1, h2, hmin⟩, ?_⟩
      have hlen := hF.len
      have key : loop (Qbr (⟨n⟩, 0) (YJ n p).at_) (([] : List FeedDeparture), 0) = some p :=
        Zm (fun k => (p.take k, (k : Int))) p.length (fun k hk => by
          have hk2 : k < n.Trains.length := by omega
          have hg := hF.get k hk hk2
          have hk3 : k < (p.map (·.At)).length := by simpa using hk
          unfold Qbr YJ
          simp only [List.length_map, XN hk, cond_true]
          rw [Xs hk3, Qw, Xs hk2, Qw, Jl (by simp; omega), Qw, XP k (by omega)]
          simp only [List.getElem_map, ← hg.1]
          rw [List.take_add_one, List.getElem?_eq_getElem hk]; rfl) (by
          unfold Qbr YJ
          simp only [List.length_map, XO, cond_false, List.take_length])
      rw [hspec, hf, key]
      rfl
end Go.Gw

end
section
set_option maxRecDepth 4096
namespace Go.Gw
open Go
def Jg (n : FeedNet) (w : FeedWindow) (s : FeedStep) : Int := (n.Sections[s.Section.toNat]?.map fun c => s.Power * (1000 + c.Loss) * X7 c w.Station).getD 0
def inW (w : FeedWindow) (t : Int) : Prop := w.Ticks.Lo ≤ t ∧ t ≤ w.Ticks.Hi
instance (w : FeedWindow) (t : Int) : Decidable (inW w t) := inferInstanceAs (Decidable (_ ∧ _))
def Qao (n : FeedNet) (w : FeedWindow) (t : FeedTrain) (at_ : Int) : Nat → Int
  | 0 => 0
  | k + 1 => Qao n w t at_ k + if inW w (at_ + k) then (t.Steps[k]?.map (Jg n w)).getD 0 else 0
def Zx (n : FeedNet) (w : FeedWindow) (t : FeedTrain) (at_ : Int) : Int := Qao n w t at_ t.Steps.length
def Z6 (n : FeedNet) (w : FeedWindow) (t : FeedTrain) : Nat → Int
  | 0 => Zx n w t t.Earliest
  | k + 1 => if Zx n w t (t.Earliest + ((k + 1 : Nat) : Int)) < Z6 n w t k then Zx n w t (t.Earliest + ((k + 1 : Nat) : Int)) else Z6 n w t k
theorem Qop (n : FeedNet) (w : FeedWindow) (t : FeedTrain) (a : Int) (k : Nat) : Qao n w t a (k + 1) = Qao n w t a k + if inW w (a + k) then (t.Steps[k]?.map (Jg n w)).getD 0 else 0 := rfl
theorem Qii (n : FeedNet) (w : FeedWindow) (t : FeedTrain) (k : Nat) : Z6 n w t (k + 1) = if Zx n w t (t.Earliest + ((k + 1 : Nat) : Int)) < Z6 n w t k then Zx n w t (t.Earliest + ((k + 1 : Nat) : Int)) else Z6 n w t k := rfl
def JM (n : FeedNet) (w : FeedWindow) (t : FeedTrain) : Int := Z6 n w t (Yg t - 1)
def JN (n : FeedNet) (w : FeedWindow) : Nat → Int
  | 0 => 0
  | i + 1 => JN n w i + (n.Trains[i]?.map (JM n w)).getD 0
theorem Qoc (n : FeedNet) (w : FeedWindow) (i : Nat) : JN n w (i + 1) = JN n w i + (n.Trains[i]?.map (JM n w)).getD 0 := rfl
def J3 (n : FeedNet) (w : FeedWindow) : Int := JN n w n.Trains.length
theorem QRj (w : FeedWindow) {c : FeedSection} (hS : ZJ c) {p : Int} (hp : -20000 ≤ p ∧ p ≤ 20000) {o : Int} (ho : -360000000000 ≤ o ∧ o ≤ 360000000000) : w64 (o + (w64 ((w64 (p * (w64 (1000 + c.Loss)))) * X7 c w.Station))) = o + p * (1000 + c.Loss) * X7 c w.Station := by
  have hl : 0 ≤ c.Loss ∧ c.Loss ≤ 500 := hS.2
  have h1 := Qan (a := p) (b := 1000 + c.Loss) (m := 20000) (n := 1500) hp (by omega)
  have h2 := Qan (a := p * (1000 + c.Loss)) (b := X7 c w.Station) (m := 30000000) (n := 1000) (by omega) (Qjk hS _)
  rw [XK (x := 1000 + c.Loss) (by omega), XK (x := p * (1000 + c.Loss)) (by omega), XK (x := p * (1000 + c.Loss) * X7 c w.Station) (by omega), XK (by omega)]
section
variable {n : FeedNet} (hn : NetOk n) (w : FeedWindow)
include hn
theorem QQa (s : FeedStep) (hs : -20000 ≤ s.Power ∧ s.Power ≤ 20000) : -30000000000 ≤ Jg n w s ∧ Jg n w s ≤ 30000000000 := by
  unfold Jg
  cases hc : n.Sections[s.Section.toNat]? with
  | none => simp
  | some c =>
    have hS := Qjj (hn.sec c (List.mem_of_getElem? hc))
    have h1 := Qan (a := s.Power) (b := 1000 + c.Loss) (m := 20000) (n := 1500) hs (by obtain ⟨_, h⟩ := hS; omega)
    have h2 := Qan (a := s.Power * (1000 + c.Loss)) (b := X7 c w.Station) (m := 30000000) (n := 1000) (by omega) (Qjk hS _)
    simp only [Option.map_some, Option.getD_some]
    omega
theorem Qoo {t : FeedTrain} (ht : ∀ x ∈ t.Steps, -20000 ≤ x.Power ∧ x.Power ≤ 20000) (a : Int) : ∀ k : Nat, -(30000000000 * (k : Int)) ≤ Qao n w t a k ∧ Qao n w t a k ≤ 30000000000 * (k : Int)
  | 0 => by simp [Qao]
  | k + 1 => by
    have h1 := Qoo ht a k
    have h2 : -30000000000 ≤ (if inW w (a + k) then (t.Steps[k]?.map (Jg n w)).getD 0 else 0) ∧ (if inW w (a + k) then (t.Steps[k]?.map (Jg n w)).getD 0 else 0) ≤ 30000000000 := by
      split
      · cases hx : t.Steps[k]? with
        | none => simp
        | some x => simpa using QQa hn w x (ht x (List.mem_of_getElem? hx))
      · omega
    rw [Qop]
    omega
theorem Qxf {t : FeedTrain} (ht : Zp t n.Sections.length = 0) (a : Int) : -360000000000 ≤ Zx n w t a ∧ Zx n w t a ≤ 360000000000 := by
  have h := ZS ht
  have := Qoo hn w (fun x hx => ⟨(h.2.2.2.2.2 x hx).2.2.1, (h.2.2.2.2.2 x hx).2.2.2⟩) a t.Steps.length
  unfold Zx; omega
theorem Qoa {t : FeedTrain} (ht : Zp t n.Sections.length = 0) : ∀ k, -360000000000 ≤ Z6 n w t k ∧ Z6 n w t k ≤ 360000000000
  | 0 => Qxf hn w ht _
  | k + 1 => by
    have h1 := Qoa ht k
    have h2 := Qxf hn w ht (t.Earliest + ((k + 1 : Nat) : Int))
    rw [Qii]
    split <;> assumption
theorem Qvx : ∀ k : Nat, -(360000000000 * (k : Int)) ≤ JN n w k ∧ JN n w k ≤ 360000000000 * (k : Int)
  | 0 => by simp [JN]
  | k + 1 => by
    have h1 := Qvx k
    have h2 : -360000000000 ≤ (n.Trains[k]?.map (JM n w)).getD 0 ∧ (n.Trains[k]?.map (JM n w)).getD 0 ≤ 360000000000 := by
      cases hx : n.Trains[k]? with
      | none => simp
      | some x => simpa [JM] using Qoa hn w (hn.tr x (List.mem_of_getElem? hx)) _
    rw [Qoc]
    omega
theorem QQb {t : FeedTrain} (ht : Zp t n.Sections.length = 0) {k : Nat} (hk : k < t.Steps.length) : ∃ c, idx n.Sections t.Steps[k].Section = some c ∧ ZJ c ∧ Jg n w t.Steps[k] = t.Steps[k].Power * (1000 + c.Loss) * X7 c w.Station ∧ -20000 ≤ t.Steps[k].Power ∧ t.Steps[k].Power ≤ 20000 := by
  have h := (ZS ht).2.2.2.2.2 _ (List.getElem_mem hk)
  have hj : t.Steps[k].Section.toNat < n.Sections.length := by omega
  refine ⟨n.Sections[t.Steps[k].Section.toNat], by unfold idx; rw [if_pos h.1, List.getElem?_eq_getElem hj], Qjj (hn.sec _ (List.getElem_mem hj)), ?_, h.2.2.1, h.2.2.2⟩
  unfold Jg; rw [List.getElem?_eq_getElem hj]; rfl
theorem QEc {t : FeedTrain} (ht : Zp t n.Sections.length = 0) {a : Int} (ha : 0 ≤ a ∧ a ≤ 1000) : loop (Qhp t ⟨n⟩ w a) (0, 0) = some (Zx n w t a) :=
  Zm (fun k => (Qao n w t a k, (k : Int))) t.Steps.length (fun k hk => by
    obtain ⟨c, h1, h2, h3, h4⟩ := QQb hn w ht hk
    have h12 := (ZS ht).2.2.2.2.1
    have hb := Qoo hn w (fun x hx => ⟨((ZS ht).2.2.2.2.2 x hx).2.2.1, ((ZS ht).2.2.2.2.2 x hx).2.2.2⟩) a k
    unfold Qhp
    simp only [XN hk, cond_true, Xs hk, Qw, h1]
    rw [XK (x := a + (k : Int)) (by omega), Qac, Qw, Qrn h2, Qw, QRj w h2 h4 (by omega), XP k (by omega), Qdp]
    rw [Qop, List.getElem?_eq_getElem hk]
    simp only [Option.map_some, Option.getD_some, h3]
    by_cases hw : inW w (a + k)
    · rw [decide_eq_true (show w.Ticks.Lo ≤ a + (k : Int) ∧ a + (k : Int) ≤ w.Ticks.Hi from hw), if_pos hw]; rfl
    · rw [decide_eq_false (show ¬ (w.Ticks.Lo ≤ a + (k : Int) ∧ a + (k : Int) ≤ w.Ticks.Hi) from hw), if_neg hw, Int.add_zero]; rfl) (by
    unfold Qhp Zx
    simp only [XO, cond_false])
def Qdf (n : FeedNet) (w : FeedWindow) (t : FeedTrain) : Nat → Int × Bool
  | 0 => (0, false)
  | k + 1 => (Z6 n w t k, true)
theorem QDz {t : FeedTrain} (ht : Zp t n.Sections.length = 0) : loop (Qeq t ⟨n⟩ w) (0, false, t.Earliest) = some (JM n w t) := by
  have h := ZS ht
  have hw : (Yg t : Int) = t.Latest - t.Earliest + 1 := by unfold Yg; omega
  have key := Zm (step := Qeq t ⟨n⟩ w) (o := JM n w t) (fun k => ((Qdf n w t k).1, (Qdf n w t k).2, t.Earliest + (k : Int))) (Yg t) (fun k hk => by
    unfold Qeq
    simp only []
    rw [decide_eq_true (by omega), cond_true, QEc hn w ht (by omega), Qw, XK (x := t.Earliest + (k : Int) + 1) (by omega), show t.Earliest + (k : Int) + 1 = t.Earliest + ((k + 1 : Nat) : Int) by omega]
    cases k with
    | zero => simp [Qdf, Z6]
    | succ k =>
      by_cases hc : Zx n w t (t.Earliest + ((k + 1 : Nat) : Int)) < Z6 n w t k
      · simp only [Qdf, Qii, hc, if_true, decide_true, Bool.or_true, cond_true]
      · simp only [Qdf, Qii, hc, if_false, decide_false, Bool.not_true, Bool.or_self, cond_false]) (by
    unfold Qeq
    simp only []
    rw [decide_eq_false (by omega), cond_false]
    obtain ⟨m, hm⟩ : ∃ m, Yg t = m + 1 := ⟨Yg t - 1, by omega⟩
    unfold JM
    rw [hm]; rfl)
  simpa [Qdf] using key
theorem QEa : Qhr ⟨n⟩ w = some (J3 n w) := by
  have h6 := hn.tr6
  have key : loop (Qhq ⟨n⟩ w) (0, 0) = some (J3 n w) :=
    Zm (fun k => (JN n w k, (k : Int))) n.Trains.length (fun k hk => by
      have ht := hn.tr _ (List.getElem_mem hk)
      have hb := Qvx hn w k
      have hl := Qoa hn w ht (Yg n.Trains[k] - 1)
      unfold Qhq
      simp only [XN hk, cond_true, Xs hk, Qw]
      rw [QDz hn w ht, Qw, XK (x := JN n w k + JM n w n.Trains[k]) (by unfold JM; omega), XP k (by omega)]
      rw [Qoc, List.getElem?_eq_getElem hk]; rfl) (by
      unfold Qhq J3
      simp only [XO, cond_false])
  unfold Qhr
  rw [key]; rfl
def JQ (n : FeedNet) (w : FeedWindow) : Bool := decide (1000000 * JK n w.Station.toNat * (w.Ticks.Hi - w.Ticks.Lo + 1) < J3 n w)
variable (hs : 0 ≤ w.Station ∧ w.Station ≤ (n.Stations.length : Int) - 1) (ht : 0 ≤ w.Ticks.Lo ∧ w.Ticks.Lo ≤ w.Ticks.Hi ∧ w.Ticks.Hi ≤ 100000)
include hs ht
theorem QMy : ∃ s, idx n.Stations w.Station = some s ∧ w64 ((w64 (1000000 * s.Limit)) * (w64 ((w64 (w.Ticks.Hi - w.Ticks.Lo)) + 1))) = 1000000 * JK n w.Station.toNat * (w.Ticks.Hi - w.Ticks.Lo + 1) := by
  have hk : w.Station.toNat < n.Stations.length := by omega
  have hl := hn.lim _ (List.getElem_mem hk)
  refine ⟨n.Stations[w.Station.toNat], by unfold idx; rw [if_pos hs.1, List.getElem?_eq_getElem hk], ?_⟩
  have hb := Qan (a := 1000000 * n.Stations[w.Station.toNat].Limit) (b := w.Ticks.Hi - w.Ticks.Lo + 1) (m := 100000000000) (n := 1000000) (by omega) (by omega)
  have e : JK n w.Station.toNat = n.Stations[w.Station.toNat].Limit := by unfold JK; rw [List.getElem?_eq_getElem hk]; rfl
  rw [e, XK (x := 1000000 * n.Stations[w.Station.toNat].Limit) (by omega), XK (x := w.Ticks.Hi - w.Ticks.Lo) (by omega), XK (x := w.Ticks.Hi - w.Ticks.Lo + 1) (by omega), XK (by omega)]
theorem QEe : Qes ⟨n⟩ w = some (J3 n w, JQ n w) := by
  obtain ⟨s, h1, h2⟩ := QMy hn w hs ht
  unfold Qes
  rw [QEa hn, Qw]
  simp only []
  rw [h1, Qw, h2]; rfl
end
end Go.Gw

end
section
set_option maxRecDepth 4096
namespace Go.Gw
open Go
def laF (a : Int) (t : FeedTrain) : Int := if a < t.Latest then t.Latest else a
def la (n : FeedNet) : Int := n.Trains.foldl laF 0
def QSv (n : FeedNet) : Int := if Jo n ≠ 0 then Jo n else if 48 < la n then 8 else 0
def wn3 (n : FeedNet) (s lo : Nat) (j : Nat) : Option FeedWindow := if JQ n (FeedWindow.mk s (Range.mk lo ((lo : Int) + (j : Int)))) = true then some (FeedWindow.mk s (Range.mk lo ((lo : Int) + (j : Int)))) else none
def wn2 (n : FeedNet) (s : Nat) (lo : Nat) : Option FeedWindow := (List.range ((la n).toNat + 13 - lo)).findSome? (wn3 n s lo)
def wn1 (n : FeedNet) (s : Nat) : Option FeedWindow := (List.range ((la n).toNat + 13)).findSome? (wn2 n s)
def wnF (n : FeedNet) : Option FeedWindow := (List.range n.Stations.length).findSome? (wn1 n)
section
variable {n : FeedNet} (hn : NetOk n)
include hn
end
def Zo (r : Range) : Int := if JU r.Lo ≠ 0 then 2 else if JU r.Hi ≠ 0 then 2 else if r.Lo ≤ r.Hi then 0 else 9
theorem Qkh (t : Int) : JU t = 0 ∨ JU t = 2 := by unfold JU; split <;> simp
theorem QEk (r : Range) : Qcx r = some (Zo r) := by
  unfold Qcx Zo
  rw [Qrp, Qw, Qrp, Qw, ZU, Qw, JZ _ (by simp), Qw, Quy]
  rcases Qkh r.Lo with h1 | h1 <;> rcases Qkh r.Hi with h2 | h2 <;> by_cases h3 : r.Lo ≤ r.Hi <;> simp [h1, h2, h3]
theorem QAq {t : Int} (h : JU t = 0) : 0 ≤ t ∧ t ≤ 1012 := by
  unfold JU at h; split at h; assumption; cases h
theorem QAr {r : Range} (h : Zo r = 0) : 0 ≤ r.Lo ∧ r.Lo ≤ r.Hi ∧ r.Hi ≤ 1012 := by
  have a : JU r.Lo = 0 := by
    rcases Qkh r.Lo with h1 | h1
    · exact h1
    · simp [Zo, h1] at h
  have b : JU r.Hi = 0 := by
    rcases Qkh r.Hi with h1 | h1
    · exact h1
    · simp [Zo, a, h1] at h
  have c : r.Lo ≤ r.Hi := by
    rcases Decidable.em (r.Lo ≤ r.Hi) with h1 | h1
    · exact h1
    · simp [Zo, a, b, h1] at h
  have a1 := QAq a
  have b1 := QAq b
  omega
theorem QDu {n : FeedNet} (h : NetS n) (w : FeedWindow) : Qhl n w = some (if (X6 n).2 ≠ 0 then (0, (X6 n).2) else if ZD n w.Station ≠ 0 then (0, ZD n w.Station) else if Zo w.Ticks ≠ 0 then (0, Zo w.Ticks) else if JQ n w = true then (J3 n w, 0) else (0, 20)) := by
  have hst : Qex (feed_net.mk (FeedNet.mk n.Stations n.Sections n.Trains)) w.Station = some (ZD n w.Station) := QEj h.st _
  unfold Qhl Qaj
  rw [Qmc h, Qw, Qw]
  simp only []
  rw [hst, Qw, QEk, Qw, JZ _ (by simp), Qw, Quy]
  by_cases h0 : (X6 n).2 = 0
  · by_cases h1 : ZD n w.Station = 0
    · by_cases h2 : Zo w.Ticks = 0
      · have hn := Qbf h0
        have ht := QAr h2
        have hp : Qes (feed_net.mk (FeedNet.mk n.Stations n.Sections n.Trains)) w = some (J3 n w, JQ n w) := QEe hn w (Qzu h1) (by omega)
        rw [hp]
        cases JQ n w <;> simp [h0, h1, h2]
      · simp [h0, h1, h2]
    · simp [h0, h1]
  · simp [h0]
end Go.Gw

end
section
set_option maxRecDepth 4096
namespace Go.Gw
open Go
def Zw (secs : List FeedSection) (f : Nat → Int) (s : Int) : Nat → Int
  | 0 => 0
  | j + 1 => Zw secs f s j + (secs[j]?.map fun c => f j * (1000 + c.Loss) * X7 c s).getD 0
theorem Qde (secs : List FeedSection) (f : Nat → Int) (s : Int) (j : Nat) : Zw secs f s (j + 1) = Zw secs f s j + (secs[j]?.map fun c => f j * (1000 + c.Loss) * X7 c s).getD 0 := rfl
theorem Qvi (secs : List FeedSection) (f : Nat → Int) (k j : Nat) : Zl secs f k (j + 1) = Zl secs f k j + (secs[j]?.map fun s => Yz s (f j) * X7 s (k : Int)).getD 0 := rfl
theorem QOm {c : FeedSection} (h : ZJ c) (s : Int) : 0 ≤ X7 c s := by
  obtain ⟨h0, _⟩ := h
  unfold X7
  split
  · omega
  · split <;> omega
theorem Qvs {secs : List FeedSection} (hs : ∀ c ∈ secs, ZJ c) (f : Nat → Int) (k : Nat) : ∀ j, Zw secs f (k : Int) j ≤ Zl secs f k j
  | 0 => Int.le_refl _
  | j + 1 => by
    have h1 := Qvs hs f k j
    rw [Qde, Qvi]
    cases hc : secs[j]? with
    | none => simpa using h1
    | some c =>
      have hS := hs c (List.mem_of_getElem? hc)
      have h2 : f j * (1000 + c.Loss) ≤ Yz c (f j) := by
        have hL : 0 ≤ c.Loss ∧ c.Loss ≤ 500 := hS.2
        unfold Yz
        split
        · rename_i hn
          exact Int.mul_le_mul_of_nonpos_left (by omega) (by omega)
        · exact Int.le_refl _
      have h3 := Int.mul_le_mul_of_nonneg_right h2 (QOm hS (k : Int))
      simp only [Option.map_some, Option.getD_some]
      omega
theorem Qvr (secs : List FeedSection) (f g : Nat → Int) (s : Int) : ∀ j, Zw secs (fun i => f i + g i) s j = Zw secs f s j + Zw secs g s j
  | 0 => rfl
  | j + 1 => by
    rw [Qde, Qde, Qde, Qvr secs f g s j]
    cases secs[j]? with
    | none => simp
    | some c => simp only [Option.map_some, Option.getD_some, Int.add_mul]; omega
theorem Qnz (secs : List FeedSection) (s : Int) : ∀ j, Zw secs (fun _ => 0) s j = 0
  | 0 => rfl
  | j + 1 => by
    rw [Qde, Qnz secs s j]
    cases secs[j]? <;> simp
def Jx (n : FeedNet) (w : FeedWindow) (st : List FeedStep) (N : Nat) (k : Int) : Int := if 0 ≤ k ∧ k ≤ (N : Int) - 1 then (st[k.toNat]?.map (Jg n w)).getD 0 else 0
theorem QJv {n : FeedNet} (w : FeedWindow) {st : List FeedStep} (hst : ∀ x ∈ st, 0 ≤ x.Section ∧ x.Section ≤ (n.Sections.length : Int) - 1) (k : Int) : Zw n.Sections (Y7 st k) w.Station n.Sections.length = Jx n w st st.length k := by
  by_cases hin : 0 ≤ k ∧ k ≤ (st.length : Int) - 1
  · have hk : k.toNat < st.length := by omega
    have hx := hst _ (List.getElem_mem hk)
    have hd : ∀ j, Y7 st k j = if st[k.toNat].Section = (j : Int) then st[k.toNat].Power else 0 := fun j => by
      unfold Y7; rw [if_pos hin, List.getElem?_eq_getElem hk]
    have key : ∀ j, j ≤ n.Sections.length → Zw n.Sections (Y7 st k) w.Station j = if st[k.toNat].Section.toNat < j then Jg n w st[k.toNat] else 0 := by
      intro j
      induction j with
      | zero => intro _; simp [Zw]
      | succ j ih =>
        intro hj
        rw [Qde, ih (by omega), hd, List.getElem?_eq_getElem (show j < n.Sections.length by omega)]
        simp only [Option.map_some, Option.getD_some]
        by_cases h1 : st[k.toNat].Section.toNat < j
        · rw [if_pos h1, if_neg (by omega), if_pos (by omega)]; simp
        · by_cases h2 : st[k.toNat].Section = (j : Int)
          · rw [if_neg h1, if_pos h2, if_pos (by omega)]
            unfold Jg
            rw [show st[k.toNat].Section.toNat = j by omega, List.getElem?_eq_getElem (show j < n.Sections.length by omega)]
            simp
          · rw [if_neg h1, if_neg h2, if_neg (by omega)]; simp
    rw [key _ (Nat.le_refl _), if_pos (by omega)]
    unfold Jx
    rw [if_pos hin, List.getElem?_eq_getElem hk]; rfl
  · have : Y7 st k = fun _ => 0 := by funext j; unfold Y7; rw [if_neg hin]
    rw [this, Qnz]
    unfold Jx; rw [if_neg hin]
theorem Qvt {n : FeedNet} (w : FeedWindow) (t : Int) : ∀ (rs : List feed_run), (∀ r ∈ rs, ∀ x ∈ r.FeedTrain.Steps, 0 ≤ x.Section ∧ x.Section ≤ (n.Sections.length : Int) - 1) → Zw n.Sections (XH rs t) w.Station n.Sections.length = (rs.map fun r => Jx n w r.FeedTrain.Steps r.FeedTrain.Steps.length (t - r.at_)).sum
  | [], _ => Qnz _ _ _
  | r :: rs, h => by
    have e : XH (r :: rs) t = fun j => Y7 r.FeedTrain.Steps (t - r.at_) j + XH rs t j := by funext j; unfold XH; rw [List.map_cons, List.sum_cons]
    rw [e, Qvr, QJv w (h r (List.mem_cons_self ..)), Qvt w t rs fun x hx => h x (List.mem_cons_of_mem _ hx), List.map_cons, List.sum_cons]
/-! ### Sums over ticks -/
def Y4 (F : Int → Int) (lo : Int) : Nat → Int
  | 0 => 0
  | j + 1 => Y4 F lo j + F (lo + j)
theorem Qbg (F : Int → Int) (lo : Int) (j : Nat) : Y4 F lo (j + 1) = Y4 F lo j + F (lo + j) := rfl
theorem Qzw {F G : Int → Int} {lo : Int} (h : ∀ t, lo ≤ t → F t ≤ G t) : ∀ m, Y4 F lo m ≤ Y4 G lo m
  | 0 => Int.le_refl _
  | m + 1 => by rw [Qbg, Qbg]; have := Qzw h m; have := h (lo + m) (by omega); omega
theorem Qpk (F G : Int → Int) (lo : Int) : ∀ m, Y4 (fun t => F t + G t) lo m = Y4 F lo m + Y4 G lo m
  | 0 => rfl
  | m + 1 => by rw [Qbg, Qbg, Qbg, Qpk F G lo m]; omega
theorem Qpl (lo : Int) : ∀ m, Y4 (fun _ => 0) lo m = 0
  | 0 => rfl
  | m + 1 => by rw [Qbg, Qpl lo m]; rfl
theorem Qzv (c lo : Int) : ∀ m : Nat, Y4 (fun _ => c) lo m = c * m
  | 0 => by simp [Y4]
  | m + 1 => by rw [Qbg, Qzv c lo m, Int.natCast_succ, Int.mul_add, Int.mul_one]
theorem Qzx (a c lo : Int) : ∀ m : Nat, Y4 (fun t => if t = a then c else 0) lo m = if lo ≤ a ∧ a < lo + m then c else 0
  | 0 => by simp only [Y4]; rw [if_neg (by omega)]
  | m + 1 => by
    rw [Qbg, Qzx a c lo m]
    by_cases h : lo + (m : Int) = a
    · rw [if_neg (by omega), if_pos h, if_pos (by omega)]; omega
    · rw [if_neg h]
      by_cases h2 : lo ≤ a ∧ a < lo + (m : Int)
      · rw [if_pos h2, if_pos (by omega)]; omega
      · rw [if_neg h2, if_neg (by omega)]; omega
theorem Qzz (n : FeedNet) (w : FeedWindow) (t : FeedTrain) (a : Int) {m : Nat} (hm : (m : Int) = w.Ticks.Hi - w.Ticks.Lo + 1) : ∀ N, Y4 (fun x => Jx n w t.Steps N (x - a)) w.Ticks.Lo m = Qao n w t a N
  | 0 => by
    have : (fun x => Jx n w t.Steps 0 (x - a)) = fun _ => 0 := by funext x; unfold Jx; rw [if_neg (by omega)]
    rw [this, Qpl]; rfl
  | N + 1 => by
    have : (fun x => Jx n w t.Steps (N + 1) (x - a)) = fun x => Jx n w t.Steps N (x - a) + if x = a + N then (t.Steps[N]?.map (Jg n w)).getD 0 else 0 := by
      funext x
      unfold Jx
      by_cases h : x = a + (N : Int)
      · rw [if_pos (by omega), if_neg (by omega), if_pos h, show (x - a).toNat = N by omega]; omega
      · rw [if_neg h]
        by_cases h2 : 0 ≤ x - a ∧ x - a ≤ (N : Int) - 1
        · rw [if_pos h2, if_pos (by omega)]; omega
        · rw [if_neg h2, if_neg (by omega)]; omega
    rw [this, Qpk, Qzz n w t a hm N, Qzx, Qop]
    congr 1
    by_cases h : inW w (a + (N : Int))
    · rw [if_pos h, if_pos]
      unfold inW at h
      omega
    · rw [if_neg h, if_neg]
      unfold inW at h
      omega
theorem QAa (w : FeedWindow) (g : feed_run → Int → Int) (m : Nat) : ∀ rs : List feed_run, Y4 (fun t => (rs.map fun r => g r t).sum) w.Ticks.Lo m = (rs.map fun r => Y4 (g r) w.Ticks.Lo m).sum
  | [] => Qpl _ _
  | r :: rs => by
    have : (fun t => ((r :: rs).map fun r => g r t).sum) = fun t => g r t + (rs.map fun r => g r t).sum := by funext t; rw [List.map_cons, List.sum_cons]
    rw [this, Qpk, QAa w g m rs, List.map_cons, List.sum_cons]
theorem Qvu (n : FeedNet) (w : FeedWindow) (t : FeedTrain) : ∀ (k j : Nat), j ≤ k → Z6 n w t k ≤ Zx n w t (t.Earliest + (j : Int))
  | 0, j, h => by obtain rfl : j = 0 := by omega
                  simp [Z6]
  | k + 1, j, h => by
    rw [Qii]
    by_cases hj : j = k + 1
    · subst hj
      split
      · exact Int.le_refl _
      · omega
    · have := Qvu n w t k j (by omega)
      split <;> omega
theorem Qvy {n : FeedNet} (w : FeedWindow) {p : List FeedDeparture} (hF : Fits n.Trains p) (hr : ∀ t ∈ n.Trains, ∀ a : Int, Xc n (FeedDeparture.mk t.Name a) = feed_run.mk t a) : ∀ k, k ≤ n.Trains.length → JN n w k ≤ (((p.map (Xc n)).take k).map fun r => Zx n w r.FeedTrain r.at_).sum
  | 0, _ => by simp [JN]
  | k + 1, hk => by
    have h1 := Qvy w hF hr k (by omega)
    have hlen := hF.len
    have hkp : k < p.length := by omega
    have hkr : k < (p.map (Xc n)).length := by simpa using hkp
    have hg := hF.get k hkp (by omega)
    have e : Xc n p[k] = feed_run.mk n.Trains[k] p[k].At := by
      rw [← hr _ (List.getElem_mem (show k < n.Trains.length by omega)), ← hg.1]
    rw [Qoc, List.getElem?_eq_getElem (show k < n.Trains.length by omega), List.take_add_one, List.getElem?_eq_getElem hkr, List.map_append, List.sum_append]
    simp only [Option.map_some, Option.getD_some, Option.toList_some, List.map_cons, List.map_nil, List.sum_cons, List.sum_nil, List.getElem_map, e]
    have h2 := Qvu n w n.Trains[k] (Yg n.Trains[k] - 1) (p[k].At - n.Trains[k].Earliest).toNat (by unfold Yg; omega)
    rw [show n.Trains[k].Earliest + (((p[k].At - n.Trains[k].Earliest).toNat : Nat) : Int) = p[k].At by omega] at h2
    unfold JM
    omega
theorem QJt : ∀ {rs : List feed_run} {r : feed_run}, r ∈ rs → Y0 rs ≤ r.at_ ∨ r.at_ > 1000 := by
  intro rs r hr
  have mono : ∀ (l : List feed_run) (a : Int), l.foldl JL a ≤ a := by
    intro l
    induction l with
    | nil => intro a; exact Int.le_refl _
    | cons x l ih => intro a; rw [List.foldl_cons]; refine Int.le_trans (ih _) ?_; unfold JL; split <;> omega
  have key : ∀ (l : List feed_run) (a : Int), r ∈ l → l.foldl JL a ≤ r.at_ := by
    intro l
    induction l with
    | nil => intro a h; cases h
    | cons x l ih =>
      intro a h
      rw [List.foldl_cons]
      rcases List.mem_cons.1 h with h | h
      · subst h
        refine Int.le_trans (mono l _) ?_
        unfold JL; split <;> omega
      · exact ih _ h
  exact .inl (key rs 1012 hr)
theorem QJc {rs : List feed_run} {r : feed_run} (hr : r ∈ rs) : r.at_ + 12 ≤ JJ rs := by
  have mono : ∀ (l : List feed_run) (a : Int), a ≤ l.foldl JI a := by
    intro l
    induction l with
    | nil => intro a; exact Int.le_refl _
    | cons x l ih => intro a; rw [List.foldl_cons]; refine Int.le_trans ?_ (ih _); unfold JI; split <;> omega
  have key : ∀ (l : List feed_run) (a : Int), r ∈ l → r.at_ + 12 ≤ l.foldl JI a := by
    intro l
    induction l with
    | nil => intro a h; cases h
    | cons x l ih =>
      intro a h
      rw [List.foldl_cons]
      rcases List.mem_cons.1 h with h | h
      · subst h
        refine Int.le_trans ?_ (mono l _)
        unfold JI; split <;> omega
      · exact ih _ h
  exact key rs 0 hr
theorem Qvj (secs : List FeedSection) (k : Nat) : ∀ j, Zl secs (fun _ => 0) k j = 0
  | 0 => rfl
  | j + 1 => by
    rw [Qvi, Qvj secs k j]
    cases secs[j]? with
    | none => rfl
    | some c => simp [Yz]
theorem QMa {n : FeedNet} (hn : NetOk n) {rs : List feed_run} (hr : ∀ r ∈ rs, ZH n.Sections.length r) (h : Zc n rs = none) (t : Int) {k : Nat} (hk : k < n.Stations.length) : ldR n rs t k ≤ 1000000 * JK n k := by
  by_cases hin : Y0 rs ≤ t ∧ t ≤ JJ rs
  · unfold Zc at h
    rw [List.findSome?_eq_none_iff] at h
    have h1 := h (t - Y0 rs).toNat (List.mem_range.2 (by omega))
    rw [show Y0 rs + (((t - Y0 rs).toNat : Nat) : Int) = t by omega] at h1
    unfold ovS at h1
    rw [List.findSome?_eq_none_iff] at h1
    have h2 := h1 k (List.mem_range.2 hk)
    unfold ov1 at h2
    split at h2
    · cases h2
    · omega
  · have hidle : rs.any (fun r => onI r t) = false := by
      rw [List.any_eq_false]
      intro r hm
      have h1 := hr r hm
      have h2 := QJc hm
      have h3 := QJt hm
      obtain ⟨_, g1, g2, g3⟩ := h1
      unfold onI
      rw [Qdp, decide_eq_true_eq]
      omega
    have hl := hn.lim _ (List.getElem_mem hk)
    unfold ldR JK
    rw [QJd hidle, Qvj, List.getElem?_eq_getElem hk]
    simp only [Option.map_some, Option.getD_some]
    omega
theorem QMx {n : FeedNet} (h0 : (X6 n).2 = 0) (hs : n.Trains.length < 1000) {w : FeedWindow} (hst : ZD n w.Station = 0) (ht : Zo w.Ticks = 0) (hp : JQ n w = true) {p : List FeedDeparture} (hF : Fits n.Trains p) : (YJ n p).found = false := by
  have hT := Qpt h0
  have hn := hT.ne
  have hR := hF.rt h0 hs
  have hrs := Qyc hR
  have hw := QAr ht
  have hk := Qzu hst
  cases ho : Zc n (p.map (Xc n)) with
  | some x => show (Zc n (p.map (Xc n))).isNone = false; rw [ho]; rfl
  | none =>
    exfalso
    have hsec : ∀ c ∈ n.Sections, ZJ c := fun c hc => Qjj (hn.sec c hc)
    obtain ⟨m, hm⟩ : ∃ m : Nat, (m : Int) = w.Ticks.Hi - w.Ticks.Lo + 1 := ⟨(w.Ticks.Hi - w.Ticks.Lo + 1).toNat, by omega⟩
    have hks : ((w.Station.toNat : Nat) : Int) = w.Station := by omega
    have h1 : J3 n w ≤ ((p.map (Xc n)).map fun r => Zx n w r.FeedTrain r.at_).sum := by
      have := Qvy w hF hT.ru n.Trains.length (Nat.le_refl _)
      rw [List.take_of_length_le (by rw [List.length_map, hF.len]; exact Nat.le_refl _)] at this
      exact this
    have h2 : ((p.map (Xc n)).map fun r => Zx n w r.FeedTrain r.at_).sum = Y4 (fun t => Zw n.Sections (XH (p.map (Xc n)) t) w.Station n.Sections.length) w.Ticks.Lo m := by
      have e : (fun t => Zw n.Sections (XH (p.map (Xc n)) t) w.Station n.Sections.length) = fun t => ((p.map (Xc n)).map fun r => Jx n w r.FeedTrain.Steps r.FeedTrain.Steps.length (t - r.at_)).sum := by
        funext t
        exact Qvt w t _ fun r hr x hx => by have := (hrs r hr).1 x hx; omega
      rw [e, QAa w (fun r t => Jx n w r.FeedTrain.Steps r.FeedTrain.Steps.length (t - r.at_)) m]
      congr 1
      apply List.map_congr_left
      intro r _
      exact (Qzz n w r.FeedTrain r.at_ hm _).symm
    have h3 : Y4 (fun t => Zw n.Sections (XH (p.map (Xc n)) t) w.Station n.Sections.length) w.Ticks.Lo m ≤ Y4 (fun _ => 1000000 * JK n w.Station.toNat) w.Ticks.Lo m :=
      Qzw (fun t _ => by
        have a := Qvs hsec (XH (p.map (Xc n)) t) w.Station.toNat n.Sections.length
        rw [hks] at a
        have b := QMa hn hrs ho t (k := w.Station.toNat) (by omega)
        unfold ldR at b
        omega) m
    rw [Qzv, hm] at h3
    unfold JQ at hp
    rw [decide_eq_true_eq] at hp
    omega
end Go.Gw

end
section
set_option maxRecDepth 4096
namespace Go.Gw
open Go
def QDs (t : FeedTrain) (p : List FeedDeparture) : List (List FeedDeparture) := (List.range (Yg t)).map fun k => p ++ [XV t k]
def bfs (ts : List FeedTrain) (all : List (List FeedDeparture)) : List (List FeedDeparture) := ts.foldl (fun all t => all.flatMap (QDs t)) all
theorem QBh {n : FeedNet} (hn : NetOk n) (hs : n.Trains.length < 1000) {p : List FeedDeparture} (hp : p.length ≤ 8) (h : ∀ d ∈ p, 0 ≤ Yd n d.Train ∧ 0 ≤ d.At ∧ d.At ≤ 1000) : Qdk n p = some (dl n p) := by
  have hE : ∀ d ∈ p, ∃ t, idx n.Trains (Yd n d.Train) = some t ∧ (Xc n d).FeedTrain = t ∧ 0 ≤ t.Earliest ∧ t.Earliest ≤ 1000 := fun d hd => by
    obtain ⟨t, h1, h2, h3⟩ := Qki (h d hd).1
    have := ZS (hn.tr t (List.mem_of_getElem? h1))
    refine ⟨t, by unfold idx; rw [if_pos (h d hd).1]; exact h1, by unfold Xc; rw [h1]; rfl, this.1.1, this.1.2⟩
  have hb : ∀ k, k ≤ p.length → -(1000 * (k : Int)) ≤ dl n (p.take k) ∧ dl n (p.take k) ≤ 1000 * (k : Int) := by
    intro k
    induction k with
    | zero => intro _; simp [dl]
    | succ k ih =>
      intro hk
      obtain ⟨t, h1, h2, h3, h4⟩ := hE _ (List.getElem_mem (show k < p.length by omega))
      have h5 := h _ (List.getElem_mem (show k < p.length by omega))
      have := ih (by omega)
      unfold dl at this ⊢
      rw [Qhy _ _ _ _ (by omega)]
      unfold dlF
      rw [h2]
      unfold dlF at this
      omega
  have key : loop (Qjc p n) (0, 0) = some (dl n p) :=
    Zm (fun k => (dl n (p.take k), (k : Int))) p.length (fun k hk => by
      obtain ⟨t, h1, h2, h3, h4⟩ := hE _ (List.getElem_mem hk)
      have h5 := h _ (List.getElem_mem hk)
      have hk1 := hb k (by omega)
      unfold Qjc
      simp only [XN hk, cond_true, Xs hk, Qw]
      rw [Qot n _ (by omega), Qw, h1, Qw, XK (x := dl n (p.take k) + p[k].At) (by omega), XK (x := dl n (p.take k) + p[k].At - t.Earliest) (by omega), XP k (by omega)]
      have e : dl n (p.take (k + 1)) = dl n (p.take k) + p[k].At - t.Earliest := by
        unfold dl; rw [Qhy _ _ _ _ hk]; unfold dlF; rw [h2]
      rw [e]) (by
      unfold Qjc
      simp only [XO, cond_false, List.take_length])
  unfold Qdk
  rw [key]; rfl
theorem Fits.delay {n : FeedNet} (h0 : (X6 n).2 = 0) (hs : n.Trains.length < 1000) {p : List FeedDeparture} (hp : Fits n.Trains p) : Qdk n p = some (dl n p) :=
  have hR := hp.rt h0 hs
  QBh hR.ne hs (by have := hR.l6; omega) fun d hd => ⟨(hR.ru d hd).2, (hR.ru d hd).1.2.2⟩
/-! ### The reference's choice -/
def rb (n : FeedNet) (a : List FeedDeparture × Bool) (p : List FeedDeparture) : List FeedDeparture × Bool := if a.2 = true ∧ dl n a.1 ≤ dl n p then a else if (Zc n (p.map (Xc n))).isNone = true then (p, true) else a
/-! ### Both are the same -/
end Go.Gw

end
