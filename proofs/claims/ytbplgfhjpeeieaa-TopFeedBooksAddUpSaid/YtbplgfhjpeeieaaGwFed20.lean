/- Laws of the walk. Condition: each theorem says its own. -/
import Derived.Test.YtbplgfhjpeeieaaGwAwake
import Derived.Test.YtbplgfhjpeeieaaGwTwin
set_option linter.unusedVariables false
set_option linter.unusedSimpArgs false
set_option linter.unusedSectionVars false
section
set_option maxRecDepth 4096
namespace Go.Gw
open Go
/-! ### Names are apart -/
theorem Qxr {α : Type} {p : α → Bool} : ∀ (l : List α) (k m : Nat) (hk : k < l.length), p l[k] = true → (l.take k).any p = false → XG p (fun k _ => (k : Int)) m l = .inl ((m + k : Nat) : Int)
  | x :: xs, 0, m, _, hp, _ => by simp at hp; simp [XG, hp]
  | x :: xs, k + 1, m, hk, hp, ha => by
    simp only [List.take_succ_cons, List.any_cons, Bool.or_eq_false_iff] at ha
    simp only [XG, ha.1]
    have := Qxr xs k (m + 1) (by simpa using hk) (by simpa using hp) ha.2
    rw [← show m + 1 + k = m + (k + 1) by omega]
    simpa using this
theorem Qjm {n : FeedNet} (h : (Zp n).2 = 0) {k : Nat} (hk : k < n.Trains.length) : Ye n n.Trains[k].Name = (k : Int) := by
  have h0 : Zz n k = 0 := by
    unfold Zp at h
    split at h
    · cases h
    · split at h
      · cases h
      · rcases J7 (ZS n) n.Stations.length with ⟨a1, a2⟩ | ⟨i, a1, a2, a3, _⟩
        · rw [a1] at h
          rcases J7 (ZR n) n.Sections.length with ⟨b1, b2⟩ | ⟨i, b1, b2, b3, _⟩
          · rw [b1] at h
            rcases J7 (Zz n) n.Trains.length with ⟨c1, c2⟩ | ⟨i, c1, c2, c3, _⟩
            · exact c2 k hk
            · rw [c1] at h; exact absurd h c3
          · rw [b1] at h; exact absurd h b3
        · rw [a1] at h; exact absurd h a3
  rw [show Zz n k = trE n.Trains[k] ((n.Trains.take k).map (·.Name)) n.Sections.length from ZN _ _ _ hk] at h0
  unfold trE at h0
  split at h0
  · rename_i hc; exact absurd h0 hc
  · rename_i hc
    have hc : Jk n.Trains[k].Name ((n.Trains.take k).map (·.Name)) = 0 := by
      rcases Decidable.em (Jk n.Trains[k].Name ((n.Trains.take k).map (·.Name)) = 0) with h | h
      · exact h
      · exact absurd h hc
    unfold Jk at hc
    split at hc
    · cases hc
    · split at hc
      · cases hc
      · rename_i ha
        rw [Qlx, Bool.not_eq_true] at ha
        unfold Ye
        rw [Qxr n.Trains k 0 hk (by simp) ha]
        simp
def XP (t : FeedTrain) (k : Nat) : FeedDeparture := FeedDeparture.mk t.Name (t.Earliest + k)
def Zt (t : FeedTrain) : Nat := (t.Latest - t.Earliest + 1).toNat
def ZD : List FeedTrain → List FeedDeparture → List (List FeedDeparture)
  | [], p => [p]
  | t :: ts, p => (List.range (Zt t)).flatMap fun k => ZD ts (p ++ [XP t k])
def dlF (n : FeedNet) (a : Int) (d : FeedDeparture) : Int := a + d.At - (Xg n d).FeedTrain.Earliest
def dl (n : FeedNet) (p : List FeedDeparture) : Int := p.foldl (dlF n) 0
def Zx (n : FeedNet) (p : List FeedDeparture) : feed_plan := ⟨p.map (·.At), dl n p, (JA n (p.map (Xg n))).isNone⟩
theorem Qmj (n : FeedNet) (p : List FeedDeparture) (d : FeedDeparture) : dl n (p ++ [d]) = dl n p + d.At - (Xg n d).FeedTrain.Earliest := by
  unfold dl; rw [List.foldl_append]; rfl
theorem QKn (o : Option FeedPeak) : (!(pkB o).2) = o.isNone := by cases o <;> rfl
structure Trs (n : FeedNet) (ts : List FeedTrain) : Prop where
  ne : NetOk n
  ru : ∀ t ∈ ts, ∀ a : Int, Xg n (FeedDeparture.mk t.Name a) = feed_run.mk t a
  ok : ∀ t ∈ ts, JX t n.Sections.length = 0
theorem Qyw {n : FeedNet} (h : (Zp n).2 = 0) : Trs n n.Trains := by
  refine ⟨Qjh h, fun t ht a => ?_, (Qjh h).tr⟩
  obtain ⟨k, hk, rfl⟩ := List.mem_iff_getElem.1 ht
  unfold Xg
  simp only [Qjm h hk, Int.toNat_natCast, List.getElem?_eq_getElem hk, Option.getD_some]
theorem Trs.tail {n : FeedNet} {t : FeedTrain} {ts : List FeedTrain} (h : Trs n (t :: ts)) : Trs n ts := ⟨h.ne, fun x hx => h.ru x (List.mem_cons_of_mem _ hx), fun x hx => h.ok x (List.mem_cons_of_mem _ hx)⟩
theorem Qct {n : FeedNet} {t : FeedTrain} {ts : List FeedTrain} (h : Trs n (t :: ts)) {k : Nat} (hk : k < Zt t) : Xg n (XP t k) = feed_run.mk t (t.Earliest + k) ∧ YA n.Sections.length (Xg n (XP t k)) := by
  have h1 := h.ru t (List.mem_cons_self ..) (t.Earliest + k)
  have h2 := Qhg (h.ok t (List.mem_cons_self ..))
  unfold Zt at hk
  refine ⟨h1, ?_⟩
  unfold XP
  rw [h1]
  exact ⟨h2.2.2.2.2.2, h2.2.2.2.2.1, by show 0 ≤ t.Earliest + (k : Int); omega, by show t.Earliest + (k : Int) ≤ 1000; omega⟩
theorem QHq {n : FeedNet} (p : List FeedDeparture) (hp : p.length ≤ 8) : loop (Qfr (p.map (Xg n))) (0, ([] : List Int)) = some (p.map (·.At)) :=
  Zo (fun k => ((k : Int), (p.take k).map (·.At))) p.length (fun k hk => by
    unfold Qfr
    simp only [List.length_map, XE hk, cond_true]
    rw [Xq (show k < (p.map (Xg n)).length by simpa using hk), Qs, Jx (by simp; omega), Qs, XC k (by omega)]
    simp only [List.getElem_map]
    rw [show ([(Xg n p[k]).at_] : List Int) = [p[k].At] from rfl, Qkw p (·.At) k hk]) (by
    unfold Qfr
    simp only [List.length_map, XF, cond_false, List.take_length])
theorem QBi {α : Type} (l : List α) : cut l 0 (l.length : Int) = some l := by
  unfold cut; simp
def Qcm (p : feed_plan) : List Int × Int × Bool := (p.at_, p.delay, p.found)
theorem Qor {n : FeedNet} : ∀ (ts : List FeedTrain) (p : List FeedDeparture) (fuel : Nat), Trs n ts → n.Trains.length = p.length + ts.length → (∀ j, (hj : j < ts.length) → n.Trains[p.length + j]? = some ts[j]) → ts.length < fuel → p.length + ts.length ≤ 6 → (∀ r ∈ p.map (Xg n), YA n.Sections.length r) → (0 ≤ dl n p ∧ dl n p ≤ 1000 * p.length) →
    ∃ B, YQ fuel ⟨n⟩ (p.map (Xg n)) (dl n p) = some B ∧ Bst ((ZD ts p).map (Zx n)) B ∧ B.at_.length ≤ 6
  | [], p, fuel, hT, hlen, hget, hf, h6, hr, hd => by
    obtain ⟨fl, rfl⟩ : ∃ fl, fuel = fl + 1 := ⟨fuel - 1, by simp at hf; omega⟩
    refine ⟨Zx n p, ?_, ?_, by simp [Zx]; simpa using h6⟩
    · show Qci (YQ fl) ⟨n⟩ (p.map (Xg n)) (dl n p) = _
      unfold Qci
      rw [decide_eq_true (by simp only [List.length_map]; simp at hlen; omega), cond_true, Qqx hT.ne (by simp at h6 ⊢; omega) hr, Qs, QHq p (by simp at h6; omega), Qs, QKn]
      rfl
    · simp only [ZD, List.map_cons, List.map_nil]
      cases hb : (Zx n p).found with
      | false => exact .inl ⟨fun q hq => by rw [List.mem_singleton.1 hq]; exact hb, hb⟩
      | true => exact .inr ⟨List.mem_singleton.2 rfl, hb, fun q hq _ => by rw [List.mem_singleton.1 hq, Qof]; exact Int.le_refl _⟩
  | t :: ts, p, fuel, hT, hlen, hget, hf, h6, hr, hd => by
    obtain ⟨fl, rfl⟩ : ∃ fl, fuel = fl + 1 := ⟨fuel - 1, by simp at hf; omega⟩
    have htr := Qhg (hT.ok t (List.mem_cons_self ..))
    simp only [List.length_cons] at hlen hf h6
    have hw : (Zt t : Int) = t.Latest - t.Earliest + 1 := by unfold Zt; omega
    have hdl : ∀ k, k < Zt t → dl n (p ++ [XP t k]) = dl n p + k := fun k hk => by
      rw [Qmj, (Qct hT hk).1]; show dl n p + (t.Earliest + (k : Int)) - t.Earliest = _; omega
    have hres : ∀ k, k < Zt t → ∃ B, YQ fl ⟨n⟩ ((p ++ [XP t k]).map (Xg n)) (dl n (p ++ [XP t k])) = some B ∧ Bst ((ZD ts (p ++ [XP t k])).map (Zx n)) B ∧ B.at_.length ≤ 6 := fun k hk =>
      Qor ts (p ++ [XP t k]) fl hT.tail (by simp; omega) (fun j hj => by
        have := hget (j + 1) (by simpa using hj)
        rw [List.length_append]
        simpa [Nat.add_assoc, Nat.add_comm 1 j] using this) (by omega) (by simp; omega) (fun r hr2 => by
        rw [List.map_append, List.mem_append] at hr2
        rcases hr2 with hr2 | hr2
        · exact hr r hr2
        · rw [List.map_singleton, List.mem_singleton] at hr2
          subst hr2
          exact (Qct hT hk).2) (by rw [hdl k hk, List.length_append]; simp; omega)
    let res : Nat → feed_plan := fun k => (YQ fl ⟨n⟩ ((p ++ [XP t k]).map (Xg n)) (dl n (p ++ [XP t k]))).getD default
    have hres2 : ∀ k, k < Zt t → YQ fl ⟨n⟩ ((p ++ [XP t k]).map (Xg n)) (dl n (p ++ [XP t k])) = some (res k) ∧ Bst ((ZD ts (p ++ [XP t k])).map (Zx n)) (res k) ∧ (res k).at_.length ≤ 6 := fun k hk => by
      obtain ⟨B, h1, h2, h3⟩ := hres k hk
      have e : res k = B := by show (YQ fl ⟨n⟩ ((p ++ [XP t k]).map (Xg n)) (dl n (p ++ [XP t k]))).getD default = B; rw [h1]; rfl
      rw [e]; exact ⟨h1, h2, h3⟩
    have hlk : ∀ m, m ≤ Zt t → (((List.range m).map res).foldl Yo YV).at_.length ≤ 6 := by
      intro m
      induction m with
      | zero => intro _; simp [YV]
      | succ m ih =>
        intro hm
        rw [List.range_succ, List.map_append, List.foldl_append]
        have ih2 := ih (by omega)
        have hm2 := (hres2 m (by omega)).2.2
        show (Yo (((List.range m).map res).foldl Yo YV) (res m)).at_.length ≤ 6
        generalize ((List.range m).map res).foldl Yo YV = a at ih2
        unfold Yo
        cases bet (res m) a with
        | true => exact hm2
        | false => exact ih2
    refine ⟨((List.range (Zt t)).map res).foldl Yo YV, ?_, ?_, hlk _ (Nat.le_refl _)⟩
    · have ht0 : n.Trains[p.length]? = some t := by have := hget 0 (by simp); simpa using this
      have hp6 : p.length < n.Trains.length := (List.getElem?_eq_some_iff.1 ht0).1
      have key := Zo (step := Qfs t ⟨n⟩ (p.map (Xg n)) (dl n p) (YQ fl)) (o := Qcm (((List.range (Zt t)).map res).foldl Yo YV)) (fun k => (t.Earliest + (k : Int), Qcm (((List.range k).map res).foldl Yo YV))) (Zt t) (fun k hk => by
        have hrun := (Qct hT hk).1
        have hd2 := hdl k hk
        unfold Qfs Qcm
        simp only []
        rw [decide_eq_true (by omega), cond_true, QBi, Qs, Jx (by simp; omega), Qs, ← hrun, Xl (x := dl n p + (t.Earliest + (k : Int))) (by omega), Xl (x := dl n p + (t.Earliest + (k : Int)) - t.Earliest) (by omega),
          show dl n p + (t.Earliest + (k : Int)) - t.Earliest = dl n (p ++ [XP t k]) by omega, show p.map (Xg n) ++ [Xg n (XP t k)] = (p ++ [XP t k]).map (Xg n) by simp, (hres2 k hk).1, Qs, Qpu _ _ (by have := (hres2 k hk).2.2; omega), Qs, Xl (x := t.Earliest + (k : Int) + 1) (by omega),
          List.range_succ, List.map_append, List.foldl_append, show t.Earliest + (k : Int) + 1 = t.Earliest + ((k + 1 : Nat) : Int) by omega]
        generalize ((List.range k).map res).foldl Yo YV = a
        show (bif bet (res k) a then some (Sum.inl (_, (res k).at_, (res k).delay, (res k).found)) else some (Sum.inl (_, a.at_, a.delay, a.found))) = some (Sum.inl (_, (Yo a (res k)).at_, (Yo a (res k)).delay, (Yo a (res k)).found))
        unfold Yo
        cases bet (res k) a <;> rfl) (by
        unfold Qfs Qcm
        simp only []
        rw [decide_eq_false (by omega)]; rfl)
      show Qci (YQ fl) ⟨n⟩ (p.map (Xg n)) (dl n p) = _
      unfold Qci
      rw [decide_eq_false (by simp only [List.length_map]; omega), cond_false]
      simp only [List.length_map, Xq?, ht0, Qs]
      have e0 : (t.Earliest, ([] : List Int), (0 : Int), false) = (t.Earliest + ((0 : Nat) : Int), Qcm (((List.range 0).map res).foldl Yo YV)) := by simp [Qcm, YV]
      rw [e0, key]
      rfl
    · rw [ZD, List.map_flatMap]
      exact Bst.flat (fun k hk => (hres2 k (List.mem_range.1 hk)).2.1) (Qiy _).1
end Go.Gw

end
section
set_option maxRecDepth 4096
namespace Go.Gw
open Go
def Qhh (t : FeedTrain) : Bool := decide (8 ≤ w64 (t.Latest - t.Earliest))
def chE (n : FeedNet) : Int := if 4 < n.Trains.length ∨ n.Trains.any Qhh = true then 8 else 0
theorem QCd {n : FeedNet} (hn : n.Trains.length < 1000) : Qdx ⟨n⟩ = some (chE n) := by
  have key : Qgu n.Trains = some (n.Trains.any Qhh) := by
    unfold Qgu Qkk
    rw [ZZ n.Trains Qhh (fun k _ => (k : Int)), Qs, Qhb, Qs, Qkr]
    · intro k hk
      unfold Qkj Qit
      rw [XE hk, cond_true, Xq hk, Qs, XC k (by omega)]; rfl
    · unfold Qkj
      rw [XF]; rfl
  unfold Qdx
  simp only []
  rw [key, Qs, Jr, Qs]
  unfold chE
  by_cases h1 : 4 < n.Trains.length
  · rw [decide_eq_false (by omega)]; simp [h1]
  · rw [decide_eq_true (by omega)]
    cases n.Trains.any Qhh <;> simp [h1]
theorem QKt {n : FeedNet} (h : NetS n) : Qjy n = some (Zp n).2 := by
  unfold Qjy; rw [QKr h, Qs]
/-! ### Departures that fit -/
def Fits : List FeedTrain → List FeedDeparture → Prop
  | [], [] => True
  | t :: ts, d :: ds => (d.Train = t.Name ∧ t.Earliest ≤ d.At ∧ d.At ≤ t.Latest) ∧ Fits ts ds
  | _, _ => False
theorem Fits.len : ∀ {ts : List FeedTrain} {r : List FeedDeparture}, Fits ts r → r.length = ts.length
  | [], [], _ => rfl
  | _ :: _, _ :: _, h => by simp [Fits.len h.2]
theorem Fits.get : ∀ {ts : List FeedTrain} {r : List FeedDeparture}, Fits ts r → ∀ k (hk : k < r.length) (hk2 : k < ts.length), r[k].Train = ts[k].Name ∧ ts[k].Earliest ≤ r[k].At ∧ r[k].At ≤ ts[k].Latest
  | [], [], _, k, hk, _ => by simp at hk
  | _ :: _, _ :: _, h, 0, _, _ => h.1
  | _ :: _, _ :: _, h, k + 1, hk, hk2 => Fits.get h.2 k (by simpa using hk) (by simpa using hk2)
theorem Fits.eq : ∀ {ts : List FeedTrain} {r s : List FeedDeparture}, Fits ts r → Fits ts s → r.map (·.At) = s.map (·.At) → r = s
  | [], [], [], _, _, _ => rfl
  | _ :: _, ⟨a, b⟩ :: r, ⟨c, d⟩ :: s, h1, h2, h => by
    simp only [List.map_cons, List.cons.injEq] at h
    have e1 := h1.1.1
    have e2 := h2.1.1
    simp only at e1 e2
    rw [Fits.eq h1.2 h2.2 h.2, e1, e2, h.1]
theorem depsOf_mem : ∀ {ts : List FeedTrain} {q p : List FeedDeparture}, p ∈ ZD ts q ↔ ∃ r, p = q ++ r ∧ Fits ts r
  | [], q, p => by
    constructor
    · intro h
      rw [ZD, List.mem_singleton] at h
      exact ⟨[], by simp [h], trivial⟩
    · rintro ⟨r, rfl, h⟩
      cases r with
      | nil => simp [ZD]
      | cons _ _ => exact h.elim
  | t :: ts, q, p => by
    rw [ZD, List.mem_flatMap]
    constructor
    · rintro ⟨k, hk, hp⟩
      obtain ⟨r, rfl, hr⟩ := depsOf_mem.1 hp
      have hk := List.mem_range.1 hk
      unfold Zt at hk
      refine ⟨XP t k :: r, by simp, ⟨rfl, ?_, ?_⟩, hr⟩
      · show t.Earliest ≤ t.Earliest + (k : Int); omega
      · show t.Earliest + (k : Int) ≤ t.Latest; omega
    · rintro ⟨r, rfl, h⟩
      cases r with
      | nil => exact h.elim
      | cons d r =>
        obtain ⟨⟨h1, h2, h3⟩, h4⟩ := h
        refine ⟨(d.At - t.Earliest).toNat, List.mem_range.2 (by unfold Zt; omega), depsOf_mem.2 ⟨r, ?_, h4⟩⟩
        have e : XP t (d.At - t.Earliest).toNat = d := by
          unfold XP
          rw [← h1, show t.Earliest + (((d.At - t.Earliest).toNat : Nat) : Int) = d.At by omega]
        rw [e]; simp
theorem deps_mem {ts : List FeedTrain} {p : List FeedDeparture} : p ∈ ZD ts [] ↔ Fits ts p := by
  rw [depsOf_mem]; simp
theorem Fits.rt {n : FeedNet} (h : (Zp n).2 = 0) (hs : n.Trains.length < 1000) {p : List FeedDeparture} (hp : Fits n.Trains p) : Rt n p := by
  have hT := Qyw h
  refine ⟨hT.ne, hs, by rw [hp.len]; exact hT.ne.tr6, fun d hd => ?_⟩
  obtain ⟨k, hk, rfl⟩ := List.mem_iff_getElem.1 hd
  have hk2 : k < n.Trains.length := by rw [← hp.len]; exact hk
  have hg := hp.get k hk hk2
  have ht := Qhg (hT.ok _ (List.getElem_mem hk2))
  have e : Xg n p[k] = feed_run.mk n.Trains[k] p[k].At := by
    rw [← hT.ru _ (List.getElem_mem hk2), ← hg.1]
  refine ⟨?_, by rw [hg.1, Qjm h hk2]; omega⟩
  rw [e]
  exact ⟨ht.2.2.2.2.2, ht.2.2.2.2.1, by show 0 ≤ p[k].At; omega, by show p[k].At ≤ 1000; omega⟩
theorem QAf {n : FeedNet} (hS : NetS n) (h0 : (Zp n).2 = 0) (hc : chE n = 0) (h3 : n.Trains.length ≤ 3) :
    (∃ p, Fits n.Trains p ∧ (Zx n p).found = true ∧ Bst ((ZD n.Trains []).map (Zx n)) (Zx n p) ∧ Qaw n = some (p, dl n p, 0)) ∨ ((∀ q, Fits n.Trains q → (Zx n q).found = false) ∧ Qaw n = some ([], 0, 12)) := by
  have hT := Qyw h0
  have hmid : ∃ B, ((bif decide ((n.Trains.length : Int) = 0) then Option.bind (YQ 4 ⟨n⟩ [] 0) fun r => some (r.at_, r.delay, r.found) else Option.bind (idx n.Trains 0) fun t => Option.bind (Qax ⟨n⟩ t) fun r => some (r.at_, r.delay, r.found)) : Option (List Int × Int × Bool)) = some (Qcm B) ∧ Bst ((ZD n.Trains []).map (Zx n)) B := by
    cases hts : n.Trains with
    | nil =>
      obtain ⟨B, h1, h2, _⟩ := Qor (n := n) n.Trains [] 4 hT (by simp) (fun j hj => by simp [List.getElem?_eq_getElem hj]) (by omega) (by simp; omega) (fun r hr => by cases hr) (by simp [dl])
      refine ⟨B, ?_, by rw [← hts]; exact h2⟩
      have h1' : YQ 4 ⟨n⟩ [] 0 = some B := h1
      simp only [List.length_nil, Int.natCast_zero, decide_true, cond_true]
      rw [h1', Qs]; rfl
    | cons t ts =>
      rw [hts] at hT h3
      have ht := Qhg (hT.ok t (List.mem_cons_self ..))
      have hres : ∀ k, k < Zt t → ∃ B, YQ 4 ⟨n⟩ ([XP t k].map (Xg n)) (dl n [XP t k]) = some B ∧ Bst ((ZD ts [XP t k]).map (Zx n)) B ∧ B.at_.length ≤ 6 := fun k hk =>
        Qor ts [XP t k] 4 hT.tail (by rw [hts]; simp; omega) (fun j hj => by rw [hts]; simp [Nat.add_comm 1 j, List.getElem?_eq_getElem hj]) (by simp at h3; omega) (by simp at h3 ⊢; omega) (fun r hr => by
          rw [List.map_singleton, List.mem_singleton] at hr; subst hr; exact (Qct hT hk).2) (by
          have := Qmj n [] (XP t k)
          rw [List.nil_append, (Qct hT hk).1] at this
          rw [this]
          unfold Zt at hk
          show 0 ≤ dl n [] + (t.Earliest + (k : Int)) - t.Earliest ∧ dl n [] + (t.Earliest + (k : Int)) - t.Earliest ≤ 1000 * ((1 : Nat) : Int)
          have e : dl n [] = 0 := rfl
          omega)
      let res : Nat → feed_plan := fun k => (YQ 4 ⟨n⟩ ([XP t k].map (Xg n)) (dl n [XP t k])).getD default
      have hres2 : ∀ k, k < Zt t → Qgl ⟨n⟩ t k = some (res k) ∧ Bst ((ZD ts [XP t k]).map (Zx n)) (res k) ∧ (res k).at_.length ≤ 6 := fun k hk => by
        obtain ⟨B, h1, h2, h4⟩ := hres k hk
        have e : res k = B := by show (YQ 4 ⟨n⟩ ([XP t k].map (Xg n)) (dl n [XP t k])).getD default = B; rw [h1]; rfl
        have hd := Qmj n [] (XP t k)
        rw [List.nil_append, (Qct hT hk).1] at hd
        have hd2 : dl n [XP t k] = (k : Int) := by rw [hd]; show 0 + (t.Earliest + (k : Int)) - t.Earliest = (k : Int); omega
        rw [e]
        refine ⟨?_, h2, h4⟩
        rw [List.map_singleton, (Qct hT hk).1, hd2] at h1
        exact h1
      refine ⟨((List.range (Zt t)).map res).foldl Yo YV, ?_, ?_⟩
      · rw [decide_eq_false (by simp; omega), cond_false, show idx (t :: ts) 0 = some t from rfl, Qs, QKg (by omega) (fun k hk => ⟨(hres2 k hk).1, by have := (hres2 k hk).2.2; omega⟩), Qs]
        rfl
      · rw [ZD, List.map_flatMap]
        exact Bst.flat (fun k hk => (hres2 k (List.mem_range.1 hk)).2.1) (Qiy _).1
  obtain ⟨B, hB, hb⟩ := hmid
  have hopen : Qcj n = some (⟨n⟩, 0) := by unfold Qcj; rw [Qqu hS, Qs, h0]
  have hspec : Qaw n = (bif !B.found then some ([], 0, 12) else Option.bind (loop (Qcg (⟨n⟩, 0) B.at_) (([] : List FeedDeparture), 0)) fun x => some (x, B.delay, 0)) := by
    unfold Qaw
    rw [hopen, Qs]
    simp only [decide_true, Bool.not_true, cond_false]
    have hpl : Qdx (feed_net.mk (FeedNet.mk n.Stations n.Sections n.Trains)) = some (chE n) := QCd hS.tr
    rw [hpl, Qs, hc]
    simp only [decide_true, Bool.not_true, cond_false]
    exact congrArg (fun e => Option.bind e fun (x : List Int × Int × Bool) => (bif !x.2.2 then some (([] : List FeedDeparture), (0 : Int), (12 : Int)) else Option.bind (loop (Qcg (⟨n⟩, 0) x.1) (([] : List FeedDeparture), 0)) fun y => some (y, x.2.1, 0))) hB
  cases hf : B.found with
  | false =>
    right
    rw [hspec, hf]
    refine ⟨fun q hq => ?_, rfl⟩
    rcases hb with ⟨h1, _⟩ | ⟨_, h1, _⟩
    · exact h1 _ (List.mem_map.2 ⟨q, deps_mem.2 hq, rfl⟩)
    · rw [hf] at h1; cases h1
  | true =>
    left
    rcases hb with ⟨_, h1⟩ | ⟨h1, h2, hmin⟩
    · rw [hf] at h1; cases h1
    · obtain ⟨p, hp, rfl⟩ := List.mem_map.1 h1
      have hF := deps_mem.1 hp
      refine ⟨p, hF, hf, .inr ⟨h1, h2, hmin⟩, ?_⟩
      have hlen := hF.len
      have key : loop (Qcg (⟨n⟩, 0) (Zx n p).at_) (([] : List FeedDeparture), 0) = some p :=
        Zo (fun k => (p.take k, (k : Int))) p.length (fun k hk => by
          have hk2 : k < n.Trains.length := by omega
          have hg := hF.get k hk hk2
          have hk3 : k < (p.map (·.At)).length := by simpa using hk
          unfold Qcg Zx
          simp only [List.length_map, XE hk, cond_true]
          rw [Xq hk3, Qs, Xq hk2, Qs, Jx (by simp; omega), Qs, XC k (by omega)]
          simp only [List.getElem_map, ← hg.1]
          rw [List.take_add_one, List.getElem?_eq_getElem hk]; rfl) (by
          unfold Qcg Zx
          simp only [List.length_map, XF, cond_false, List.take_length])
      rw [hspec, hf, key]
      rfl
end Go.Gw

end
section
set_option maxRecDepth 4096
namespace Go.Gw
open Go
def inW (w : FeedWindow) (t : Int) : Prop := w.Ticks.Lo ≤ t ∧ t ≤ w.Ticks.Hi
instance (w : FeedWindow) (t : Int) : Decidable (inW w t) := inferInstanceAs (Decidable (_ ∧ _))
section
variable {n : FeedNet} (hn : NetOk n) (w : FeedWindow)
include hn
variable (hs : 0 ≤ w.Station ∧ w.Station ≤ (n.Stations.length : Int) - 1) (ht : 0 ≤ w.Ticks.Lo ∧ w.Ticks.Lo ≤ w.Ticks.Hi ∧ w.Ticks.Hi ≤ 100000)
include hs ht
end
end Go.Gw

end
section
set_option maxRecDepth 4096
namespace Go.Gw
open Go
def laF (a : Int) (t : FeedTrain) : Int := if a < t.Latest then t.Latest else a
def la (n : FeedNet) : Int := n.Trains.foldl laF 0
section
variable {n : FeedNet} (hn : NetOk n)
include hn
end
def JW (r : Range) : Int := if JG r.Lo ≠ 0 then 2 else if JG r.Hi ≠ 0 then 2 else if r.Lo ≤ r.Hi then 0 else 9
theorem Qlf (t : Int) : JG t = 0 ∨ JG t = 2 := by unfold JG; split <;> simp
theorem QCj (r : Range) : Qfx r = some (JW r) := by
  unfold Qfx JW
  rw [Qra, Qs, Qra, Qs, Jr, Qs, J8 _ (by simp), Qs, QGt]
  rcases Qlf r.Lo with h1 | h1 <;> rcases Qlf r.Hi with h2 | h2 <;> by_cases h3 : r.Lo ≤ r.Hi <;> simp [h1, h2, h3]
theorem Qyr {t : Int} (h : JG t = 0) : 0 ≤ t ∧ t ≤ 1012 := by
  unfold JG at h; split at h; assumption; cases h
theorem QOp {r : Range} (h : JW r = 0) : 0 ≤ r.Lo ∧ r.Lo ≤ r.Hi ∧ r.Hi ≤ 1012 := by
  have a : JG r.Lo = 0 := by
    rcases Qlf r.Lo with h1 | h1
    · exact h1
    · simp [JW, h1] at h
  have b : JG r.Hi = 0 := by
    rcases Qlf r.Hi with h1 | h1
    · exact h1
    · simp [JW, a, h1] at h
  have c : r.Lo ≤ r.Hi := by
    rcases Decidable.em (r.Lo ≤ r.Hi) with h1 | h1
    · exact h1
    · simp [JW, a, b, h1] at h
  have a1 := Qyr a
  have b1 := Qyr b
  omega
end Go.Gw

end
section
set_option maxRecDepth 4096
namespace Go.Gw
open Go
def gF (n : FeedNet) (P : Nat → Int) (j : Nat) : Int := (n.Sections[j]?.map fun s => 1000 * Xn (Xv s (P j))).getD 0
def gL (n : FeedNet) (P : Nat → Int) (j : Nat) : Int := (n.Sections[j]?.map fun s => 1000 * s.Loss * YE (P j)).getD 0
def gW (n : FeedNet) (w : Bool) (P : Nat → Int) (j : Nat) : Int := (n.Sections[j]?.map fun s => QF (gK n s (Xv s (P j)) w) n.Stations.length).getD 0
section
variable {n : FeedNet} (hn : NetOk n) {P : Nat → Int} (hP : ∀ j, -160000 ≤ P j ∧ P j ≤ 160000)
include hn hP
theorem Qgs {j : Nat} (hj : j < n.Sections.length) : Js n.Sections[j] := Qkg (hn.sec _ (List.getElem_mem hj))
theorem Qnm (j : Nat) : -240000000000 ≤ gF n P j ∧ gF n P j ≤ 240000000000 := by
  unfold gF
  by_cases hj : j < n.Sections.length
  · rw [List.getElem?_eq_getElem hj]
    have h1 := Qdk (Qgs hn hP hj) (hP j)
    have := Qgg (x := Xv n.Sections[j] (P j)) (c := 240000000) (by omega) h1.2
    simp only [Option.map_some, Option.getD_some]; omega
  · rw [List.getElem?_eq_none (Nat.le_of_not_lt hj)]; simp
theorem Qui {j : Nat} (hj : j < n.Sections.length) : 0 ≤ 1000 * n.Sections[j].Loss ∧ 1000 * n.Sections[j].Loss ≤ 500000 ∧ -80000000000 ≤ 1000 * n.Sections[j].Loss * YE (P j) ∧ 1000 * n.Sections[j].Loss * YE (P j) ≤ 80000000000 := by
  obtain ⟨_, h1, h2⟩ := Qgs hn hP hj
  have h3 := Qup (hP j)
  have := Qbr (a := 1000 * n.Sections[j].Loss) (b := YE (P j)) (m := 500000) (n := 160000) (by omega) (by omega)
  omega
theorem Qtn (j : Nat) : -80000000000 ≤ gL n P j ∧ gL n P j ≤ 80000000000 := by
  unfold gL
  by_cases hj : j < n.Sections.length
  · rw [List.getElem?_eq_getElem hj]
    exact (Qui hn hP hj).2.2
  · rw [List.getElem?_eq_none (Nat.le_of_not_lt hj)]; simp
theorem Qja (w : Bool) (j : Nat) : -1440000000000 ≤ gW n w P j ∧ gW n w P j ≤ 1440000000000 := by
  unfold gW
  by_cases hj : j < n.Sections.length
  · rw [List.getElem?_eq_getElem hj]
    have := Jo (fun k => Qnn n (Qgs hn hP hj) (Qdk (Qgs hn hP hj) (hP j)) w k) n.Stations.length
    have := hn.st6
    simp only [Option.map_some, Option.getD_some]; omega
  · rw [List.getElem?_eq_none (Nat.le_of_not_lt hj)]; simp
theorem QAk {f l u b : Int} (hf : -100000000000000000 ≤ f ∧ f ≤ 100000000000000000) (hl : -100000000000000000 ≤ l ∧ l ≤ 100000000000000000) (hu : -100000000000000000 ≤ u ∧ u ≤ 100000000000000000) (hb : -100000000000000000 ≤ b ∧ b ≤ 100000000000000000) :
    loop (Qdn n ((List.range n.Sections.length).map P)) (0, f, l, u, b) = some (f + QF (gF n P) n.Sections.length, l + QF (gL n P) n.Sections.length, u + QF (gW n true P) n.Sections.length, b + QF (gW n false P) n.Sections.length) := by
  have hlen : (((List.range n.Sections.length).map P).length : Int) = (n.Sections.length : Int) := by simp
  have h10 := hn.se10
  have key := Zo (step := Qdn n ((List.range n.Sections.length).map P)) (o := (f + QF (gF n P) n.Sections.length, l + QF (gL n P) n.Sections.length, u + QF (gW n true P) n.Sections.length, b + QF (gW n false P) n.Sections.length))
    (fun k => ((k : Int), f + QF (gF n P) k, l + QF (gL n P) k, u + QF (gW n true P) k, b + QF (gW n false P) k)) n.Sections.length (fun k hk => by
    have b1 := Jo (fun j => Qnm hn hP j) k
    have b2 := Jo (fun j => Qtn hn hP j) k
    have b3 := Jo (fun j => Qja hn hP true j) k
    have b4 := Jo (fun j => Qja hn hP false j) k
    have c1 := Qnm hn hP k
    have c2 := Qui hn hP hk
    have hs := Qgs hn hP hk
    have hd := Qdk hs (hP k)
    have hPk := hP k
    have hidx : idx ((List.range n.Sections.length).map P) (k : Int) = some (P k) := by rw [Xq?]; simp [hk]
    have eF : gF n P k = 1000 * Xn (Xv n.Sections[k] (P k)) := by unfold gF; rw [List.getElem?_eq_getElem hk]; rfl
    have eL : gL n P k = 1000 * n.Sections[k].Loss * YE (P k) := by unfold gL; rw [List.getElem?_eq_getElem hk]; rfl
    have eW : ∀ w, gW n w P k = QF (gK n n.Sections[k] (Xv n.Sections[k] (P k)) w) n.Stations.length := by intro w; unfold gW; rw [List.getElem?_eq_getElem hk]; rfl
    unfold Qdn
    simp only [hlen, XE hk, cond_true, Xq hk, hidx, Qs]
    rw [Qqv hs (hP k), Qs, QAj hn.st6 hs hd (by omega) (by omega), Qs, Xl (x := 0 - P k) (by omega), show (0 : Int) - P k = -P k by omega]
    have e1 : (1000 * if Xv n.Sections[k] (P k) < 0 then 0 else Xv n.Sections[k] (P k)) = gF n P k := eF.symm
    have e2 : (if P k < -P k then -P k else P k) = YE (P k) := rfl
    rw [e1, e2, Xl (x := 1000 * n.Sections[k].Loss) (by omega), ← eL]
    rw [← eL] at c2
    rw [Xl (x := gF n P k) (by omega), Xl (x := gL n P k) (by omega), Xl (x := f + QF (gF n P) k + gF n P k) (by omega), Xl (x := l + QF (gL n P) k + gL n P k) (by omega), XC k (by omega), ← eW, ← eW]
    simp only [QF, Int.add_assoc]) (by
    unfold Qdn
    simp only [hlen, XF, cond_false])
  simpa [QF] using key
end
def tk (n : FeedNet) (R : List feed_run) (lo : Int) : Nat → Nat → Int
  | 0, i => QF (gF n (QY R (lo + (i : Int)))) n.Sections.length
  | 1, i => fR fU R (lo + (i : Int))
  | 2, i => fR fB R (lo + (i : Int))
  | 3, i => QF (gL n (QY R (lo + (i : Int)))) n.Sections.length
  | 4, i => QF (gW n true (QY R (lo + (i : Int)))) n.Sections.length
  | _, i => QF (gW n false (QY R (lo + (i : Int)))) n.Sections.length
def Yn (n : FeedNet) (R : List feed_run) (lo : Int) (k : Nat) : FeedBook := FeedBook.mk (QF (tk n R lo 0) k) (QF (tk n R lo 1) k) (QF (tk n R lo 2) k) (QF (tk n R lo 3) k) (QF (tk n R lo 4) k) (QF (tk n R lo 5) k)
section
variable {n : FeedNet} (hn : NetOk n) {R : List feed_run} (hR : ∀ r ∈ R, YA n.Sections.length r) (hl : R.length ≤ 8)
include hn hR hl
theorem Qog (t : Int) (j : Nat) : -160000 ≤ QY R t j ∧ QY R t j ≤ 160000 := by have := Qoh hR t j; omega
theorem QOq (lo : Int) (q i : Nat) : -14400000000000 ≤ tk n R lo q i ∧ tk n R lo q i ≤ 14400000000000 := by
  have h10 := hn.se10
  have hP := Qog hn hR hl (lo + (i : Int))
  unfold tk
  split
  · have := Jo (fun j => Qnm hn hP j) n.Sections.length; omega
  · have := Qcf (f := fU) (fun x h => Qim h) (lo + (i : Int)) hR; omega
  · have := Qcf (f := fB) (fun x h => Qil h) (lo + (i : Int)) hR; omega
  · have := Jo (fun j => Qtn hn hP j) n.Sections.length; omega
  · have := Jo (fun j => Qja hn hP true j) n.Sections.length; omega
  · have := Jo (fun j => Qja hn hP false j) n.Sections.length; omega
theorem QAl (e : Int) {x : Range} (h0 : 0 ≤ x.Lo) (h1 : x.Lo ≤ x.Hi) (h2 : x.Hi ≤ 1012) :
    loop (Qdo n x (⟨n⟩, R, e)) (x.Lo, 0, 0, 0, 0, 0, 0) = some ((fun b : FeedBook => (b.Fed, b.Used, b.Braked, b.Lost, b.Back, b.Burned)) (Yn n R x.Lo (x.Hi - x.Lo + 1).toNat)) := by
  have key := Zo (step := Qdo n x (⟨n⟩, R, e)) (o := (fun b : FeedBook => (b.Fed, b.Used, b.Braked, b.Lost, b.Back, b.Burned)) (Yn n R x.Lo (x.Hi - x.Lo + 1).toNat))
    (fun k => (x.Lo + (k : Int), QF (tk n R x.Lo 0) k, QF (tk n R x.Lo 1) k, QF (tk n R x.Lo 2) k, QF (tk n R x.Lo 3) k, QF (tk n R x.Lo 4) k, QF (tk n R x.Lo 5) k)) (x.Hi - x.Lo + 1).toNat (fun k hk => by
    have hb := fun q => Jo (fun j => QOq hn hR hl x.Lo q j) k
    have b0 := hb 0
    have b1 := hb 1
    have b2 := hb 2
    have b3 := hb 3
    have b4 := hb 4
    have b5 := hb 5
    have hk2 : k ≤ 1012 := by omega
    unfold Qdo
    simp only []
    rw [decide_eq_true (show x.Lo + (k : Int) ≤ x.Hi by omega), cond_true, QAi _ e hR hl (by omega) (by omega) (by omega) (by omega), Qs,
      show feed_net.mk (FeedNet.mk n.Stations n.Sections n.Trains) = feed_net.mk n from rfl, Qvw (by have := hn.se10; omega) hl hR (by omega) (by omega), Qs,
      QAk hn (Qog hn hR hl _) (by omega) (by omega) (by omega) (by omega), Qs, Xl (x := x.Lo + (k : Int) + 1) (by omega), show x.Lo + (k : Int) + 1 = x.Lo + ((k + 1 : Nat) : Int) by omega]
    rfl) (by
    unfold Qdo
    simp only []
    rw [decide_eq_false (by omega), cond_false]
    rfl)
  simpa [QF] using key
end
theorem Qzk {n : FeedNet} (h : NetS n) (l : List FeedDeparture) (x : Range) : J2 n l x = some (if Zm n l ≠ 0 then (FeedBook.mk 0 0 0 0 0 0, Zm n l) else if JW x ≠ 0 then (FeedBook.mk 0 0 0 0 0 0, JW x) else (Yn n (l.map (Xg n)) x.Lo (x.Hi - x.Lo + 1).toNat, 0)) := by
  unfold J2
  rw [Qvm h, Qs, QCj, Qs, J8 _ (by simp), Qs, QGs]
  by_cases hb : Zm n l = 0
  · by_cases ht : JW x = 0
    · obtain ⟨hn, hl, hd⟩ := Qhz hb
      obtain ⟨h0, h1, h2⟩ := QOp ht
      simp only [hb, ht, ne_eq, not_true_eq_false, if_false, if_true, decide_true, Bool.not_true, cond_false]
      rw [QAl hn (fun r hr => by obtain ⟨d, hd2, rfl⟩ := List.mem_map.1 hr; exact (hd d hd2).1) (by rw [List.length_map]; omega) 0 h0 h1 h2]
      rfl
    · simp [hb, ht]
  · simp [hb]
end Go.Gw

end
section
set_option maxRecDepth 4096
namespace Go.Gw
open Go
/-! ### What is drawn, section by section or train by train -/
theorem Qxu (a v : Int) (ha : 0 ≤ a) : ∀ k : Nat, QF (fun j => if a = (j : Int) then v else 0) k = if a < (k : Int) then v else 0
  | 0 => by simp only [QF]; rw [if_neg (by omega)]
  | k + 1 => by
    simp only [QF]; rw [Qxu a v ha k]
    by_cases h1 : a < (k : Int)
    · rw [if_pos h1, if_neg (by omega), if_pos (by omega)]; omega
    · rw [if_neg h1]
      by_cases h2 : a = (k : Int)
      · rw [if_pos h2, if_pos (by omega)]; omega
      · rw [if_neg h2, if_neg (by omega)]; rfl
theorem QNt {f : Int → Int} (f0 : f 0 = 0) {m : Nat} {r : feed_run} (h : YA m r) (t : Int) : QF (fun j => ((pd t j r).map f).sum) m = f (Yq t r) := by
  by_cases hin : 0 ≤ t - r.at_ ∧ t - r.at_ ≤ (r.FeedTrain.Steps.length : Int) - 1
  · have hk : (t - r.at_).toNat < r.FeedTrain.Steps.length := by omega
    have hb := h.1 _ (List.getElem_mem hk)
    have e : (fun j : Nat => ((pd t j r).map f).sum) = fun j : Nat => if r.FeedTrain.Steps[(t - r.at_).toNat].Section = (j : Int) then f r.FeedTrain.Steps[(t - r.at_).toNat].Power else 0 := by
      funext j
      unfold pd
      rw [if_pos hin, List.getElem?_eq_getElem hk]
      simp only []
      by_cases hj : r.FeedTrain.Steps[(t - r.at_).toNat].Section = (j : Int)
      · rw [if_pos hj, if_pos hj]; simp
      · rw [if_neg hj, if_neg hj]; rfl
    rw [e, Qxu _ _ hb.1, if_pos (by omega)]
    unfold Yq
    rw [if_pos hin, List.getElem?_eq_getElem hk]
  · rw [Qou (fun j => by unfold pd; rw [if_neg hin]; rfl)]
    unfold Yq
    rw [if_neg hin, f0]
theorem Qkv {f : Int → Int} (f0 : f 0 = 0) {m : Nat} (t : Int) : ∀ {R : List feed_run}, (∀ r ∈ R, YA m r) → QF (fun j => ((R.flatMap (pd t j)).map f).sum) m = fR f R t
  | [], _ => Qou (g := fun j => ((([] : List feed_run).flatMap (pd t j)).map f).sum) (fun _ => rfl) m
  | r :: R, h => by
    have e : (fun j : Nat => (((r :: R).flatMap (pd t j)).map f).sum) = fun j : Nat => ((pd t j r).map f).sum + ((R.flatMap (pd t j)).map f).sum := by
      funext j; rw [List.flatMap_cons, List.map_append, List.sum_append]
    rw [e, Qku, QNt f0 (h r List.mem_cons_self), Qkv f0 t fun r hr => h r (List.mem_cons_of_mem _ hr)]
    unfold fR
    rw [List.map_cons, List.sum_cons]
section
variable {n : FeedNet} {l : List FeedDeparture} (h : Rt n l)
include h
end
end Go.Gw

end
section
set_option maxRecDepth 4096
namespace Go.Gw
open Go
def XT (x : Int) : Prop := 0 ≤ x ∧ x ≤ 1000000000000000
instance (x : Int) : Decidable (XT x) := inferInstanceAs (Decidable (_ ∧ _))
theorem QAp (x : Int) : YW x = some (decide (XT x)) := by
  unfold YW
  rw [Qam, Qs, Qdd]; rfl
def Qba (a : FeedBook) : Prop := XT a.Fed ∧ XT a.Used ∧ XT a.Braked ∧ XT a.Lost ∧ XT a.Back ∧ XT a.Burned
instance (a : FeedBook) : Decidable (Qba a) := inferInstanceAs (Decidable (_ ∧ _))
def Qcr (a b : FeedBook) : FeedBook := FeedBook.mk (a.Fed + b.Fed) (a.Used + b.Used) (a.Braked + b.Braked) (a.Lost + b.Lost) (a.Back + b.Back) (a.Burned + b.Burned)
def YZ : FeedBook := FeedBook.mk 0 0 0 0 0 0
def Qhp (a b : FeedBook) : FeedBook × Int := if Qba a ∧ Qba b then (if Qba (Qcr a b) then (Qcr a b, 0) else (YZ, 8)) else (YZ, 2)
theorem QBf {α : Type} {x : Int} {a b : α} : (bif !decide (XT x) then a else b) = if XT x then b else a := by by_cases h : XT x <;> simp [h]
theorem QPe {x y : Int} (hx : XT x) (hy : XT y) : w64 (x + y) = x + y := Xl (by unfold XT at *; omega)
theorem QBy (a b : FeedBook) : Qin a b = some (Qhp a b) := by
  unfold Qin Qdz Qhp
  simp only [Qs, QAp, QBf]
  by_cases h : Qba a ∧ Qba b
  · rw [if_pos h]
    obtain ⟨⟨a1, a2, a3, a4, a5, a6⟩, b1, b2, b3, b4, b5, b6⟩ := h
    simp only [a1, a2, a3, a4, a5, a6, b1, b2, b3, b4, b5, b6, if_true, QPe]
    by_cases hs : Qba (Qcr a b)
    · rw [if_pos hs]
      obtain ⟨c1, c2, c3, c4, c5, c6⟩ := hs
      simp only [Qcr] at c1 c2 c3 c4 c5 c6
      simp only [c1, c2, c3, c4, c5, c6, if_true, Qcr]
    · rw [if_neg hs]
      by_cases c1 : XT (a.Fed + b.Fed)
      · by_cases c2 : XT (a.Used + b.Used)
        · by_cases c3 : XT (a.Braked + b.Braked)
          · by_cases c4 : XT (a.Lost + b.Lost)
            · by_cases c5 : XT (a.Back + b.Back)
              · by_cases c6 : XT (a.Burned + b.Burned)
                · exact absurd ⟨c1, c2, c3, c4, c5, c6⟩ hs
                · simp only [c1, c2, c3, c4, c5, c6, if_true, if_false, YZ]
              · simp only [c1, c2, c3, c4, c5, if_true, if_false, YZ]
            · simp only [c1, c2, c3, c4, if_true, if_false, YZ]
          · simp only [c1, c2, c3, if_true, if_false, YZ]
        · simp only [c1, c2, if_true, if_false, YZ]
      · simp only [c1, if_false, YZ]
  · rw [if_neg h]
    by_cases a1 : XT a.Fed
    · by_cases a2 : XT a.Used
      · by_cases a3 : XT a.Braked
        · by_cases a4 : XT a.Lost
          · by_cases a5 : XT a.Back
            · by_cases a6 : XT a.Burned
              · simp only [a1, a2, a3, a4, a5, a6, if_true]
                by_cases b1 : XT b.Fed
                · by_cases b2 : XT b.Used
                  · by_cases b3 : XT b.Braked
                    · by_cases b4 : XT b.Lost
                      · by_cases b5 : XT b.Back
                        · by_cases b6 : XT b.Burned
                          · exact absurd ⟨⟨a1, a2, a3, a4, a5, a6⟩, b1, b2, b3, b4, b5, b6⟩ h
                          · simp only [b1, b2, b3, b4, b5, b6, if_true, if_false, YZ]
                        · simp only [b1, b2, b3, b4, b5, if_true, if_false, YZ]
                      · simp only [b1, b2, b3, b4, if_true, if_false, YZ]
                    · simp only [b1, b2, b3, if_true, if_false, YZ]
                  · simp only [b1, b2, if_true, if_false, YZ]
                · simp only [b1, if_false, YZ]
              · simp only [a1, a2, a3, a4, a5, a6, if_true, if_false, YZ]
            · simp only [a1, a2, a3, a4, a5, if_true, if_false, YZ]
          · simp only [a1, a2, a3, a4, if_true, if_false, YZ]
        · simp only [a1, a2, a3, if_true, if_false, YZ]
      · simp only [a1, a2, if_true, if_false, YZ]
    · simp only [a1, if_false, YZ]
end Go.Gw

end
section
set_option maxRecDepth 4096
namespace Go.Gw
open Go
theorem Qoy (g : Nat → Int) (k : Nat) : QF g (k + 1) = QF g k + g k := rfl
theorem Qxv (c : Int) (g : Nat → Int) : ∀ m, QF (fun k => c * g k) m = c * QF g m
  | 0 => by simp [QF]
  | m + 1 => by rw [Qoy, Qoy, Qxv c g m, Int.mul_add]
theorem Qox (a c : Int) : ∀ m : Nat, QF (fun k => if a = (k : Int) then c else 0) m = if 0 ≤ a ∧ a < m then c else 0
  | 0 => by simp only [QF]; rw [if_neg (by omega)]
  | m + 1 => by
    rw [Qoy, Qox a c m]
    by_cases h : a = (m : Int)
    · rw [if_neg (by omega), if_pos h, if_pos (by omega)]; omega
    · rw [if_neg h]
      by_cases h2 : 0 ≤ a ∧ a < (m : Int)
      · rw [if_pos h2, if_pos (by omega)]; omega
      · rw [if_neg h2, if_neg (by omega)]; omega
theorem QLu {s : FeedSection} {n : Nat} (h : Zy s n = 0) : (s.Left = -1 ∨ 0 ≤ s.Left ∧ s.Left ≤ (n : Int) - 1) ∧ (s.Right = -1 ∨ 0 ≤ s.Right ∧ s.Right ≤ (n : Int) - 1) ∧ ¬ (s.Left = -1 ∧ s.Right = -1) ∧ s.Left ≠ s.Right ∧ (s.Left = -1 → s.Share = 0) ∧ (s.Right = -1 → s.Share = 1000) := by
  unfold Zy at h
  have key : ∀ l r il ir eq sh lo s0 s1 : Bool, (!(decide (Qos l r il ir eq sh lo s0 s1 = 0)) || ((l || il) && ((r || ir) && (!(l && r) && (!eq && ((!l || s0) && (!r || s1))))))) = true := by decide +kernel
  have k3 := key (decide (s.Left = -1)) (decide (s.Right = -1)) (decide (0 ≤ s.Left) && decide (s.Left ≤ (n : Int) - 1)) (decide (0 ≤ s.Right) && decide (s.Right ≤ (n : Int) - 1)) (decide (s.Left = s.Right)) (decide (0 ≤ s.Share) && decide (s.Share ≤ 1000)) (decide (0 ≤ s.Loss) && decide (s.Loss ≤ 500)) (decide (s.Share = 0)) (decide (s.Share = 1000))
  rw [decide_eq_true h] at k3
  simp only [Bool.not_true, Bool.false_or, Bool.and_eq_true, Bool.or_eq_true, decide_eq_true_eq, Bool.not_eq_true', Bool.and_eq_false_iff, decide_eq_false_iff_not] at k3
  omega
theorem QMb {s : FeedSection} {n : Nat} (h : Zy s n = 0) : QF (fun k => XW s (k : Int)) n = 1000 := by
  obtain ⟨h1, h2, h3, h4, h5, h6⟩ := QLu h
  have e : (fun k : Nat => XW s (k : Int)) = fun (k : Nat) => (if s.Left = (k : Int) then s.Share else 0) + (if s.Right = (k : Int) then 1000 - s.Share else 0) := by
    funext k
    unfold XW
    by_cases a : s.Left = (k : Int)
    · rw [if_pos a, if_pos a, if_neg (by omega)]; omega
    · rw [if_neg a, if_neg a]
      by_cases b : s.Right = (k : Int)
      · rw [if_pos b]; omega
      · rw [if_neg b]; omega
  rw [e, Qku, Qox, Qox]
  by_cases a : s.Left = -1
  · rw [if_neg (by omega), if_pos (by omega), h5 a]; omega
  · by_cases b : s.Right = -1
    · rw [if_pos (by omega), if_neg (by omega), h6 b]; omega
    · rw [if_pos (by omega), if_pos (by omega)]; omega
theorem QBl (s : FeedSection) (p : Int) : Xv s p = p * 1000 + YE p * s.Loss := by
  unfold Xv YE
  by_cases h : p < 0
  · rw [if_pos h, if_pos (by omega), Int.mul_sub, Int.neg_mul]; omega
  · rw [if_neg h, if_neg (by omega), Int.mul_add]
theorem Qun (x : Int) : Xn x - Xn (-x) = x := by unfold Xn; split <;> split <;> omega
theorem Quo (x : Int) : 0 ≤ Xn x ∧ x ≤ Xn x := by unfold Xn; split <;> omega
theorem Qum (x y : Int) : Xn (x + y) ≤ Xn x + Xn y := by unfold Xn; split <;> split <;> split <;> omega
section
variable {n : FeedNet} (hn : NetOk n) {s : FeedSection} (hsE : Zy s n.Stations.length = 0)
include hsE
theorem Qtm (d : Int) (w : Bool) (k : Nat) : 0 ≤ gK n s d w k := by
  unfold gK
  cases n.Stations[k]? with
  | none => simp
  | some st =>
    have h1 : 0 ≤ XW s (k : Int) := by
      obtain ⟨h0, _⟩ := Qkg hsE
      unfold XW; split
      · omega
      · split <;> omega
    have h2 := Int.mul_nonneg h1 (Quo (-d)).1
    simp only [Option.map_some, Option.getD_some]
    split <;> omega
theorem Qow {g : Nat → Int} (h : ∀ j, 0 ≤ g j) : ∀ k, 0 ≤ QF g k
  | 0 => by simp [QF]
  | k + 1 => by have := Qow h k; have := h k; simp only [QF]; omega
theorem QAq (d : Int) : QF (gK n s d true) n.Stations.length + QF (gK n s d false) n.Stations.length = 1000 * Xn (-d) := by
  rw [← Qku, Qhd (g' := fun k => Xn (-d) * XW s (k : Int)) _ (fun k hk => ?_), Qxv, QMb hsE, Int.mul_comm]
  rw [Qno n s d _ hk, Qno n s d _ hk]
  cases n.Stations[k].Takes with
  | true => rw [if_pos rfl, if_neg (by decide), Int.mul_comm]; omega
  | false => rw [if_pos rfl, if_neg (by decide), Int.mul_comm]; omega
theorem QJv (p : Int) (hp : -160000 ≤ p ∧ p ≤ 160000) : 1000 * Xn (Xv s p) = 1000000 * p + 1000 * s.Loss * YE p + QF (gK n s (Xv s p) true) n.Stations.length + QF (gK n s (Xv s p) false) n.Stations.length ∧
    0 ≤ 1000 * s.Loss * YE p ∧ 1000 * s.Loss * YE p ≤ 80000000000 ∧ 1000 * Xn (Xv s p) ≤ 1000000 * Xn p + 1000 * s.Loss * YE p ∧
    QF (gK n s (Xv s p) true) n.Stations.length + QF (gK n s (Xv s p) false) n.Stations.length ≤ 1000000 * Xn (-p) := by
  obtain ⟨_, h1, h2⟩ := Qkg hsE
  have hm := Qup hp
  have hd := QBl s p
  have hw := QAq hsE (Xv s p) (n := n)
  have e : 1000 * s.Loss * YE p = 1000 * (YE p * s.Loss) := by rw [Int.mul_assoc, Int.mul_comm s.Loss]
  have hz := Qbr (a := YE p) (b := s.Loss) (m := 160000) (n := 500) (by omega) (by omega)
  have hz0 := Int.mul_nonneg hm.1 h1
  have hz1 : YE p * s.Loss ≤ YE p * 500 := Int.mul_le_mul_of_nonneg_left h2 hm.1
  rw [e, hw]
  generalize YE p * s.Loss = z at *
  have hd2 := Qun (Xv s p)
  refine ⟨by omega, by omega, by omega, ?_, ?_⟩
  · unfold Xn YE at *
    split <;> split <;> (repeat' split at hz1) <;> omega
  · unfold Xn YE at *
    split <;> split <;> (repeat' split at hz1) <;> omega
end
theorem Qxz (xs : List Int) : Xn xs.sum ≤ (xs.map Xn).sum ∧ Xn (-xs.sum) ≤ (xs.map fun x => Xn (-x)).sum := by
  induction xs with
  | nil => simp [Xn]
  | cons x xs ih =>
    rw [List.map_cons, List.map_cons, List.sum_cons, List.sum_cons, List.sum_cons]
    have h1 := Qum x xs.sum
    have h2 := Qum (-x) (-xs.sum)
    rw [show -(x + xs.sum) = -x + -xs.sum by omega]
    omega
theorem Qov {g g' : Nat → Int} (h : ∀ j, g j ≤ g' j) : ∀ k, QF g k ≤ QF g' k
  | 0 => by simp [QF]
  | k + 1 => by have := Qov h k; have := h k; simp only [QF]; omega
theorem Qmr {f g : Int → Int} (c : Int) (h : ∀ x, f x = c * g x) (R : List feed_run) (t : Int) : fR f R t = c * fR g R t := by
  unfold fR
  induction R with
  | nil => simp
  | cons r R ih => rw [List.map_cons, List.map_cons, List.sum_cons, List.sum_cons, ih, h, Int.mul_add]
theorem QCe {f g h : Int → Int} (e : ∀ x, f x - g x = h x) (R : List feed_run) (t : Int) : fR f R t - fR g R t = fR h R t := by
  unfold fR
  induction R with
  | nil => rfl
  | cons r R ih => rw [List.map_cons, List.map_cons, List.map_cons, List.sum_cons, List.sum_cons, List.sum_cons, ← e, ← ih]; omega
section
variable {n : FeedNet} (hn : NetOk n) {R : List feed_run} (hR : ∀ r ∈ R, YA n.Sections.length r) (hl : R.length ≤ 6)
include hn hR hl
theorem Qyt (t : Int) : ∀ k, k ≤ n.Sections.length → QF (gF n (QY R t)) k = 1000000 * QF (QY R t) k + QF (gL n (QY R t)) k + QF (gW n true (QY R t)) k + QF (gW n false (QY R t)) k ∧
    0 ≤ QF (gF n (QY R t)) k ∧ 0 ≤ QF (gL n (QY R t)) k ∧ QF (gL n (QY R t)) k ≤ 80000000000 * (k : Int) ∧ 0 ≤ QF (gW n true (QY R t)) k ∧ 0 ≤ QF (gW n false (QY R t)) k ∧
    QF (gF n (QY R t)) k ≤ 1000000 * QF (fun j => Xn (QY R t j)) k + QF (gL n (QY R t)) k ∧ QF (gW n true (QY R t)) k + QF (gW n false (QY R t)) k ≤ 1000000 * QF (fun j => Xn (-(QY R t j))) k
  | 0, _ => by simp [QF]
  | k + 1, hk => by
    have ih := Qyt t k (by omega)
    have hP := Qog hn hR (by omega) t k
    have hE := hn.sec _ (List.getElem_mem (show k < n.Sections.length by omega))
    have h1 := QJv hE (QY R t k) hP
    have eF : gF n (QY R t) k = 1000 * Xn (Xv n.Sections[k] (QY R t k)) := by unfold gF; rw [List.getElem?_eq_getElem (by omega)]; rfl
    have eL : gL n (QY R t) k = 1000 * n.Sections[k].Loss * YE (QY R t k) := by unfold gL; rw [List.getElem?_eq_getElem (by omega)]; rfl
    have eW : ∀ w, gW n w (QY R t) k = QF (gK n n.Sections[k] (Xv n.Sections[k] (QY R t k)) w) n.Stations.length := by intro w; unfold gW; rw [List.getElem?_eq_getElem (by omega)]; rfl
    have n1 := Qow hE (n := n) (fun j => Qtm hE (n := n) (Xv n.Sections[k] (QY R t k)) true j) n.Stations.length
    have n2 := Qow hE (n := n) (fun j => Qtm hE (n := n) (Xv n.Sections[k] (QY R t k)) false j) n.Stations.length
    have n3 := (Quo (Xv n.Sections[k] (QY R t k))).1
    rw [← eF, ← eL, ← eW, ← eW] at h1
    rw [← eW] at n1 n2
    have n4 : 0 ≤ gF n (QY R t) k := by rw [eF]; omega
    simp only [QF]
    omega
theorem QOo (t : Int) : QF (QY R t) n.Sections.length = fR (fun x => x) R t := by
  rw [← Qkv (f := fun x => x) rfl t hR]
  exact Qhd _ fun j _ => by rw [List.map_id', Qix]
theorem Qys (lo : Int) (i : Nat) : tk n R lo 0 i + tk n R lo 2 i = tk n R lo 1 i + tk n R lo 3 i + tk n R lo 4 i + tk n R lo 5 i ∧ ∀ q, q < 6 → 0 ≤ tk n R lo q i ∧ tk n R lo q i ≤ 920000000000 := by
  have hs := Qyt hn hR hl (lo + (i : Int)) n.Sections.length (Nat.le_refl _)
  have h10 := hn.se10
  have hp := QOo hn hR hl (lo + (i : Int))
  have hU := Qcf (f := fU) (fun x h => Qim h) (lo + (i : Int)) hR
  have hB := Qcf (f := fB) (fun x h => Qil h) (lo + (i : Int)) hR
  have hd : fR fU R (lo + (i : Int)) - fR fB R (lo + (i : Int)) = 1000000 * fR (fun x => x) R (lo + (i : Int)) := by
    rw [← Qmr (f := fun x => 1000000 * x) (g := fun x => x) 1000000 (fun _ => rfl)]
    refine QCe (fun x => ?_) R _
    have := Qun x; unfold fU fB; omega
  have m1 : 1000000 * QF (fun j => Xn (QY R (lo + (i : Int)) j)) n.Sections.length ≤ fR fU R (lo + (i : Int)) := by
    rw [Qmr (f := fU) (g := Xn) 1000000 (fun x => rfl), ← Qkv (f := Xn) rfl (lo + (i : Int)) hR]
    have := Qov (g := fun j => Xn (QY R (lo + (i : Int)) j)) (g' := fun j => ((R.flatMap (pd (lo + (i : Int)) j)).map Xn).sum) (fun j => by rw [← Qix]; exact (Qxz _).1) n.Sections.length
    omega
  have m2 : 1000000 * QF (fun j => Xn (-(QY R (lo + (i : Int)) j))) n.Sections.length ≤ fR fB R (lo + (i : Int)) := by
    rw [Qmr (f := fB) (g := fun x => Xn (-x)) 1000000 (fun x => rfl), ← Qkv (f := fun x => Xn (-x)) rfl (lo + (i : Int)) hR]
    have := Qov (g := fun j => Xn (-(QY R (lo + (i : Int)) j))) (g' := fun j => ((R.flatMap (pd (lo + (i : Int)) j)).map fun x => Xn (-x)).sum) (fun j => by rw [← Qix]; exact (Qxz _).2) n.Sections.length
    omega
  constructor
  · show QF _ _ + fR fB R _ = fR fU R _ + QF _ _ + QF _ _ + QF _ _
    omega
  · intro q hq
    match q, hq with
    | 0, _ => show 0 ≤ QF _ _ ∧ QF _ _ ≤ _; omega
    | 1, _ => show 0 ≤ fR fU R _ ∧ fR fU R _ ≤ _; omega
    | 2, _ => show 0 ≤ fR fB R _ ∧ fR fB R _ ≤ _; omega
    | 3, _ => show 0 ≤ QF _ _ ∧ QF _ _ ≤ _; omega
    | 4, _ => show 0 ≤ QF _ _ ∧ QF _ _ ≤ _; omega
    | 5, _ => show 0 ≤ QF _ _ ∧ QF _ _ ≤ _; omega
end
end Go.Gw

end
section
set_option maxRecDepth 4096
namespace Go.Gw
open Go
theorem Qxw {g : Nat → Int} {c : Int} (h : ∀ j, 0 ≤ g j ∧ g j ≤ c) : ∀ k : Nat, 0 ≤ QF g k ∧ QF g k ≤ c * (k : Int)
  | 0 => by simp [QF]
  | k + 1 => by
    have h1 := Qxw h k
    have h2 := h k
    simp only [QF]
    rw [show c * ((k + 1 : Nat) : Int) = c * (k : Int) + c by rw [Int.natCast_add, Int.mul_add]; simp]
    omega
theorem Qxx (g : Nat → Int) (a : Nat) : ∀ b, QF g (a + b) = QF g a + QF (fun i => g (a + i)) b
  | 0 => by simp [QF]
  | b + 1 => by
    show QF g (a + b) + g (a + b) = QF g a + (QF (fun i => g (a + i)) b + g (a + b))
    rw [Qxx g a b]; omega
theorem QOr (n : FeedNet) (R : List feed_run) (lo : Int) (a i : Nat) : ∀ q, tk n R lo q (a + i) = tk n R (lo + (a : Int)) q i := by
  have e : lo + ((a + i : Nat) : Int) = lo + (a : Int) + (i : Int) := by omega
  intro q
  match q with
  | 0 => show QF (gF n (QY R (lo + ((a + i : Nat) : Int)))) _ = QF (gF n (QY R (lo + (a : Int) + (i : Int)))) _; rw [e]
  | 1 => show fR fU R (lo + ((a + i : Nat) : Int)) = fR fU R (lo + (a : Int) + (i : Int)); rw [e]
  | 2 => show fR fB R (lo + ((a + i : Nat) : Int)) = fR fB R (lo + (a : Int) + (i : Int)); rw [e]
  | 3 => show QF (gL n (QY R (lo + ((a + i : Nat) : Int)))) _ = QF (gL n (QY R (lo + (a : Int) + (i : Int)))) _; rw [e]
  | 4 => show QF (gW n true (QY R (lo + ((a + i : Nat) : Int)))) _ = QF (gW n true (QY R (lo + (a : Int) + (i : Int)))) _; rw [e]
  | _ + 5 => show QF (gW n false (QY R (lo + ((a + i : Nat) : Int)))) _ = QF (gW n false (QY R (lo + (a : Int) + (i : Int)))) _; rw [e]
theorem QAo (n : FeedNet) (R : List feed_run) (lo : Int) (a b : Nat) : Yn n R lo (a + b) = Qcr (Yn n R lo a) (Yn n R (lo + (a : Int)) b) := by
  have e : ∀ q, QF (tk n R lo q) (a + b) = QF (tk n R lo q) a + QF (tk n R (lo + (a : Int)) q) b := fun q => by
    rw [Qxx, Qhd (g := fun i => tk n R lo q (a + i)) (g' := tk n R (lo + (a : Int)) q) b (fun j _ => QOr n R lo a j q)]
  unfold Yn Qcr
  simp only [e]
section
variable {n : FeedNet} (hn : NetOk n) {R : List feed_run} (hR : ∀ r ∈ R, YA n.Sections.length r) (hl : R.length ≤ 6)
include hn hR hl
theorem Qhy (lo : Int) {k : Nat} (hk : k ≤ 1013) : Qba (Yn n R lo k) := by
  have h := fun q hq => Qxw (fun j => (Qys hn hR hl lo j).2 q hq) k
  have h0 := h 0 (by omega)
  have h1 := h 1 (by omega)
  have h2 := h 2 (by omega)
  have h3 := h 3 (by omega)
  have h4 := h 4 (by omega)
  have h5 := h 5 (by omega)
  simp only [Qba, Yn, XT]
  omega
theorem Qpy (lo : Int) : ∀ k : Nat, (Yn n R lo k).Fed + (Yn n R lo k).Braked = (Yn n R lo k).Used + (Yn n R lo k).Lost + (Yn n R lo k).Back + (Yn n R lo k).Burned
  | 0 => rfl
  | k + 1 => by
    have h1 := Qpy lo k
    have h2 := (Qys hn hR hl lo k).1
    simp only [Yn, QF] at h1 ⊢
    omega
end
end Go.Gw

end
section
set_option maxRecDepth 4096
namespace Go.Gw
open Go
theorem QHp (secs : List FeedSection) (f : Nat → Int) (k j : Nat) : ZY secs f k (j + 1) = ZY secs f k j + (secs[j]?.map fun s => Xv s (f j) * XW s (k : Int)).getD 0 := rfl
/-! ### Sums over ticks -/
theorem QHu : ∀ {rs : List feed_run} {r : feed_run}, r ∈ rs → Y1 rs ≤ r.at_ ∨ r.at_ > 1000 := by
  intro rs r hr
  have mono : ∀ (l : List feed_run) (a : Int), l.foldl JP a ≤ a := by
    intro l
    induction l with
    | nil => intro a; exact Int.le_refl _
    | cons x l ih => intro a; rw [List.foldl_cons]; refine Int.le_trans (ih _) ?_; unfold JP; split <;> omega
  have key : ∀ (l : List feed_run) (a : Int), r ∈ l → l.foldl JP a ≤ r.at_ := by
    intro l
    induction l with
    | nil => intro a h; cases h
    | cons x l ih =>
      intro a h
      rw [List.foldl_cons]
      rcases List.mem_cons.1 h with h | h
      · subst h
        refine Int.le_trans (mono l _) ?_
        unfold JP; split <;> omega
      · exact ih _ h
  exact .inl (key rs 1012 hr)
theorem QHe {rs : List feed_run} {r : feed_run} (hr : r ∈ rs) : r.at_ + 12 ≤ JO rs := by
  have mono : ∀ (l : List feed_run) (a : Int), a ≤ l.foldl JN a := by
    intro l
    induction l with
    | nil => intro a; exact Int.le_refl _
    | cons x l ih => intro a; rw [List.foldl_cons]; refine Int.le_trans ?_ (ih _); unfold JN; split <;> omega
  have key : ∀ (l : List feed_run) (a : Int), r ∈ l → r.at_ + 12 ≤ l.foldl JN a := by
    intro l
    induction l with
    | nil => intro a h; cases h
    | cons x l ih =>
      intro a h
      rw [List.foldl_cons]
      rcases List.mem_cons.1 h with h | h
      · subst h
        refine Int.le_trans ?_ (mono l _)
        unfold JN; split <;> omega
      · exact ih _ h
  exact key rs 0 hr
theorem Qtz (secs : List FeedSection) (k : Nat) : ∀ j, ZY secs (fun _ => 0) k j = 0
  | 0 => rfl
  | j + 1 => by
    rw [QHp, Qtz secs k j]
    cases secs[j]? with
    | none => rfl
    | some c => simp [Xv]
theorem QJs {n : FeedNet} (hn : NetOk n) {rs : List feed_run} (hr : ∀ r ∈ rs, YA n.Sections.length r) (h : JA n rs = none) (t : Int) {k : Nat} (hk : k < n.Stations.length) : ldR n rs t k ≤ 1000000 * Qco n k := by
  by_cases hin : Y1 rs ≤ t ∧ t ≤ JO rs
  · unfold JA at h
    rw [List.findSome?_eq_none_iff] at h
    have h1 := h (t - Y1 rs).toNat (List.mem_range.2 (by omega))
    rw [show Y1 rs + (((t - Y1 rs).toNat : Nat) : Int) = t by omega] at h1
    unfold ovS at h1
    rw [List.findSome?_eq_none_iff] at h1
    have h2 := h1 k (List.mem_range.2 hk)
    unfold ov1 at h2
    split at h2
    · cases h2
    · omega
  · have hidle : rs.any (fun r => onI r t) = false := by
      rw [List.any_eq_false]
      intro r hm
      have h1 := hr r hm
      have h2 := QHe hm
      have h3 := QHu hm
      obtain ⟨_, g1, g2, g3⟩ := h1
      unfold onI
      rw [Qdd, decide_eq_true_eq]
      omega
    have hl := hn.lim _ (List.getElem_mem hk)
    unfold ldR Qco
    rw [QHf hidle, Qtz, List.getElem?_eq_getElem hk]
    simp only [Option.map_some, Option.getD_some]
    omega
end Go.Gw

end
section
set_option maxRecDepth 4096
namespace Go.Gw
open Go
theorem QGl {f : Nat → Int} {m : Nat} (h : ∀ k, k < m → f k = 0) : XS f m = none := by
  rcases J7 f m with ⟨h1, _⟩ | ⟨i, _, hi, hne, _⟩
  · exact h1
  · exact absurd (h i hi) hne
theorem QBj (n : FeedNet) (l : List FeedDeparture) : Qbk n l = 0 ↔ l.length ≤ 6 ∧ (∀ d ∈ l, 0 ≤ Ye n d.Train ∧ 0 ≤ d.At ∧ d.At ≤ 1000) ∧ l.Pairwise fun a b => a.Train ≠ b.Train := by
  unfold Qbk
  constructor
  · intro h
    by_cases h6 : 6 < l.length
    · rw [if_pos h6] at h; omega
    · rw [if_neg h6] at h
      have hz := Qni h
      have hk : ∀ k (hk : k < l.length), ZL n l[k] (l.take k) = 0 := fun k hk => by
        have := hz k hk
        rwa [show YP n l k = ZL n l[k] (l.take k) from ZN _ _ _ hk] at this
      have hd : ∀ k (hk : k < l.length), 0 ≤ Ye n l[k].Train ∧ (l.take k).any (fun o => decide (o.Train = l[k].Train)) = false ∧ 0 ≤ l[k].At ∧ l[k].At ≤ 1000 := fun k hk2 => by
        have h1 := hk k hk2
        have h0 := Qii h1
        unfold ZL at h1
        rw [if_neg (by omega)] at h1
        split at h1
        · cases h1
        · rename_i h2
          cases b : (decide (0 ≤ l[k].At) && decide (l[k].At ≤ 1000)) with
          | false => rw [b] at h1; cases h1
          | true =>
            simp only [Bool.and_eq_true, decide_eq_true_eq] at b
            exact ⟨h0, Bool.eq_false_iff.2 h2, b.1, b.2⟩
      refine ⟨by omega, fun d hdm => ?_, ?_⟩
      · obtain ⟨k, hk2, rfl⟩ := List.mem_iff_getElem.1 hdm
        have := hd k hk2
        exact ⟨this.1, this.2.2⟩
      · rw [List.pairwise_iff_getElem]
        intro i j hi hj hij he
        have := (hd j hj).2.1
        rw [List.any_eq_false] at this
        have h2 := this l[i] (by rw [List.mem_iff_getElem]; exact ⟨i, by rw [List.length_take]; omega, by rw [List.getElem_take]⟩)
        rw [decide_eq_true_eq] at h2
        exact h2 he
  · rintro ⟨h6, hd, hp⟩
    rw [if_neg (by omega), QGl]
    intro k hk
    rw [show YP n l k = ZL n l[k] (l.take k) from ZN _ _ _ hk]
    have h1 := hd _ (List.getElem_mem hk)
    unfold ZL
    have hany : (l.take k).any (fun o => decide (o.Train = l[k].Train)) = false := by
      rw [List.any_eq_false]
      intro o ho
      obtain ⟨j, hj, rfl⟩ := List.mem_iff_getElem.1 ho
      have hjk : j < k := by rw [List.length_take] at hj; omega
      rw [List.getElem_take, decide_eq_true_eq]
      exact (List.pairwise_iff_getElem.1 hp) j k (by omega) hk hjk
    rw [if_neg (by omega), hany, if_neg (by simp), Qdd, decide_eq_true (show 0 ≤ l[k].At ∧ l[k].At ≤ 1000 from h1.2)]
    rfl
theorem QKe {n : FeedNet} {rs : List feed_run} (h : ∀ t k, k < n.Stations.length → ldR n rs t k ≤ 1000000 * Qco n k) : JA n rs = none := by
  unfold JA
  rw [List.findSome?_eq_none_iff]
  intro j _
  unfold ovS
  rw [List.findSome?_eq_none_iff]
  intro k hk
  unfold ov1
  have := h (Y1 rs + (j : Int)) k (List.mem_range.1 hk)
  rw [if_neg (by omega)]
end Go.Gw

end
section
set_option maxRecDepth 1000000
namespace Go.Gw
open Go
theorem QNs : Qto 60 = some true := by decide +kernel
theorem QNr : Qjc = some true := QHa _ QNs
end Go.Gw

end
