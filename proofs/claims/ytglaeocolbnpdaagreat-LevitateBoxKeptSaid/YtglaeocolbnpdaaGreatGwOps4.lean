/- More: an own slice's elements, cuts, arrays, structs built, made slices. No condition. -/
import Derived.Test.YtglaeocolbnpdaaGreatGwOps3
namespace Go.Gw
open Go

section
variable {P : Program} {n : Nat} {ρ : Env} {w : World}
variable {d : Option Nat} {t T U : TypeId} {p : String} {af : Array Edge} {gu : Option (Nat × Bool)} {x y z : Operand}

theorem SlRd.ext {α : Type} [Rep α] {L : List Value} {w w' : World} {v : Value} {xs : List α} (h : SlRd L w v xs) (e : Ext w w') : SlRd L w' v xs := h.step (Stepp.ext e)
theorem At.ext' {w w' : World} {a : Addr} {cs : List Value} (h : At w a cs) (e : Ext w w') : At w' a cs := At.ext e h
theorem Own.ext {α : Type} [Rep α] {e : TypeId} {L : List Value} {w w' : World} {v : Value} {xs : List α} (h : Own e L w v xs) (c : Ext w w') : Own e L w' v xs := h.step (Stepp.ext c) c (fun _ _ => Avoids.nil _)
theorem Rep.ext {α : Type} [Rep α] {L : List Value} {w w' : World} {cs : List Value} {a : α} (h : Rep.rd L w cs a) (c : Ext w w') : Rep.rd L w' cs a := Rep.step (Stepp.ext c) h

theorem yl_indexAddrO {α : Type} [Rep α] {e : TypeId} {L : List Value} {w2 : World} {v : Value} {xs : List α} {k : IntKind} {i : Int} {el : α} (hu : P.underlying T = some (.slice e)) (hs : Size P e (Rep.n α)) (hown : Own e L w2 v xs)
    (hel : idx xs i = some el) (hx : evO n ρ x = v) (hy : evO n ρ y = .int k i) : Yl P n ρ ⟨d, .indexAddr T x y, t, p, af, gu⟩ w (.pointer (some (elemAddr v i.toNat (Rep.n α)))) := by
  obtain ⟨h0, h1, _⟩ := idx_some hel
  obtain ⟨cells, ho, _⟩ := hown
  rcases ho.2 with ⟨_, h⟩ | ⟨g, cap, cur, rfl, _⟩
  · omega
  · have h2 : i < (xs.length : Int) := by omega
    simp [Yl, execOp, hx, hy, Instr.indexAt, asIntOf, run_underlying hu, h0, h2, run_sizeOf hs, elemAddr]

theorem Own.at {α : Type} [Rep α] {e : TypeId} {L : List Value} {v : Value} {xs : List α} {i : Int} {el : α} (hown : Own e L w v xs) (hel : idx xs i = some el) : ∃ cs, At w (elemAddr v i.toNat (Rep.n α)) cs ∧ Rep.rd L w cs el := by
  obtain ⟨h0, h1, h2⟩ := idx_some hel
  obtain ⟨cells, ho, hE⟩ := hown
  rcases ho.2 with ⟨_, h⟩ | ⟨g, cap, cur, rfl, _, hg, h4, h5, hcs, htake⟩
  · omega
  · refine ⟨_, ?_, hE.2 _ el h2⟩
    simp only [elemAddr, addr_add, Nat.zero_add]
    refine At.of_block hg fun j u hu => ?_
    have hj : j < Rep.n α := by
      rcases Nat.lt_or_ge j (Rep.n α) with h | h
      · exact h
      · rw [List.getElem?_eq_none (by simp; omega)] at hu; cases hu
    rw [List.getElem?_take_of_lt hj, List.getElem?_drop, ← htake] at hu
    have hlt : i.toNat * Rep.n α + j < xs.length * Rep.n α := by
      have : (i.toNat + 1) * Rep.n α ≤ xs.length * Rep.n α := Nat.mul_le_mul_right _ h1
      rw [Nat.succ_mul] at this; omega
    rw [List.getElem?_take_of_lt hlt] at hu
    rw [← Array.getElem?_toList, ← hu]

theorem run_storeCells_own {e : TypeId} {size g m cap : Nat} : ∀ (vs : List Value) (off i : Nat) (cells : List Value) (w : World), w.ownsRow 0 e size (.slice (some ⟨g, 0, none⟩) m cap) m cells → off + i + vs.length ≤ cells.length → (∀ v ∈ vs, v.oneCell' = true) →
    ∃ w', (storeCells ⟨g, off, none⟩ vs i).run P w = .ok () w' ∧ w'.ownsRow 0 e size (.slice (some ⟨g, 0, none⟩) m cap) m (setAt cells (off + i) vs) ∧ w.grownBy w' (some g)
  | [], off, i, cells, w, ho, _, _ => ⟨w, rfl, ho, ⟨rfl, rfl, rfl, Nat.le_refl _, fun _ _ _ => rfl⟩⟩
  | v :: vs, off, i, cells, w, ho, hl, h1 => by
    have hlt : off + i < cells.length := by simp at hl; omega
    have hc : w.cell? ⟨g, off + i, none⟩ = some cells[off + i] := by
      have := World.ownsRow.cells ho (g := g) rfl (off + i) _ (List.getElem?_eq_getElem hlt)
      rwa [addr_add, Nat.zero_add] at this
    have hfz : w.frozen? ⟨g, off + i, none⟩ = false := by
      rcases ho.2 with ⟨h, _⟩ | ⟨g', cap', cur, h, _, hg, _⟩
      · cases h
      · cases h; simp [World.frozen?, hg]
    obtain ⟨ho1, hg1⟩ := World.ownsRow.stored (w := w) (e := e) (size := size) (base := 0) ho (off + i) v
    obtain ⟨w', hr, ho2, hg2⟩ := run_storeCells_own vs off (i + 1) (cells.set (off + i) v) (w.setCell ⟨g, off + i, none⟩ v) ho1 (by simp at hl ⊢; omega) (fun u hu => h1 u (List.mem_cons_of_mem _ hu))
    refine ⟨w', ?_, ho2, ⟨hg2.os.trans hg1.os, hg2.tape.trans hg1.tape, hg2.output.trans hg1.output, Nat.le_trans hg1.size hg2.size, fun k hk hne => (hg2.block k (Nat.lt_of_lt_of_le hk hg1.size) hne).trans (hg1.block k hk hne)⟩⟩
    have hst : (store ((⟨g, off, none⟩ : Addr).add i) v).run P w = .ok () (w.setCell ⟨g, off + i, none⟩ v) := by
      have := h1 v (List.mem_cons_self ..)
      rw [addr_add]
      cases v <;> simp [Value.oneCell'] at this <;> simp [store, Sem.run, hc, hfz]
    simp only [storeCells, Sem.run_bind, hst, Result.andThen]
    exact hr

theorem setAt_length (vs : List Value) : ∀ (cs : List Value) (k : Nat), (setAt cs k vs).length = cs.length := by
  induction vs with
  | nil => intro cs k; rfl
  | cons v vs ih => intro cs k; simp [setAt, ih]

theorem setAt_take_drop (vs : List Value) : ∀ (cells : List Value) (a b k : Nat), k + vs.length ≤ b → ((setAt cells (a + k) vs).drop a).take b = setAt ((cells.drop a).take b) k vs := by
  induction vs with
  | nil => intro cells a b k _; rfl
  | cons v vs ih =>
    intro cells a b k hk
    simp only [setAt]
    have h1 : k + 1 + vs.length ≤ b := by simp at hk; omega
    rw [Nat.add_assoc, ih (cells.set (a + k) v) a b (k + 1) h1]
    congr 1
    rw [List.drop_set, if_neg (by omega), List.take_set, Nat.add_sub_cancel_left]

theorem setAt_other (vs : List Value) : ∀ (cells : List Value) (a b k : Nat), (a + b ≤ k ∨ k + vs.length ≤ a) → ((setAt cells k vs).drop a).take b = (cells.drop a).take b := by
  induction vs with
  | nil => intro cells a b k _; rfl
  | cons v vs ih =>
    intro cells a b k hk
    simp only [setAt]
    rw [ih _ a b (k + 1) (by simp at hk; omega)]
    rw [List.drop_set]
    split
    · rfl
    · rw [List.take_set, List.set_eq_of_length_le]
      simp; simp at hk; omega

theorem eff_storeO {α : Type} [Rep α] {e : TypeId} {L : List Value} {v : Value} {xs : List α} {i : Int} {el y' : α} {off : Nat} {u : Value} {K : Value → World → Prop} (hs : Size P T u.cells.size) (hown : Own e L w v xs) (hv : v ∈ L) (hel : idx xs i = some el)
    (hx : evO n ρ x = .pointer (some ((elemAddr v i.toNat (Rep.n α)).add off))) (hy : evO n ρ y = u) (hl : off + u.cells.size ≤ Rep.n α) (h1 : ∀ c ∈ u.cells.toList, c.oneCell' = true)
    (hset : ∀ w' cs, Rep.rd L w' cs el → Rep.rd L w' (setAt cs off u.cells.toList) y')
    (h : ∀ w', Chg [v] w w' → Own e L w' v (xs.set i.toNat y') → K undef w') : Eff P ⟨d, .store T x y, t, p, af, gu⟩ n ρ w K := by
  obtain ⟨h0, hi, h2⟩ := idx_some hel
  obtain ⟨cells, ho, hE⟩ := hown
  rcases ho.2 with ⟨_, hh⟩ | ⟨g, cap, cur, rfl, _, hg, h4, h5, hcs, htake⟩
  · omega
  · have hlen : i.toNat * Rep.n α + off + 0 + u.cells.toList.length ≤ cells.length := by
      have : (i.toNat + 1) * Rep.n α ≤ xs.length * Rep.n α := Nat.mul_le_mul_right _ hi
      rw [Nat.succ_mul] at this
      rw [hE.1]; simp; omega
    obtain ⟨w', hr, ho2, hg2⟩ := run_storeCells_own (P := P) u.cells.toList (i.toNat * Rep.n α + off) 0 cells w ho hlen h1
    have hx' : evO n ρ x = .pointer (some ⟨g, i.toNat * Rep.n α + off, none⟩) := by rw [hx]; simp [elemAddr, addr_add]
    have hst : (Instr.storeAt T (.pointer (some ⟨g, i.toNat * Rep.n α + off, none⟩)) u).run P w = .ok () w' := by
      simp [Instr.storeAt, Instr.sureAddr, storeVar, run_sizeOf hs, hr]
    simp only [Eff, execOp, hx', hy, Sem.run_bind, hst, Result.andThen, Sem.run_pure]
    have hc : Chg [Value.slice (some ⟨g, 0, none⟩) xs.length cap] w w' := ⟨hg2.os, hg2.tape, hg2.output, hg2.size, fun b hb hA => hg2.block b hb (fun e => hA _ (List.mem_singleton.2 rfl) (by cases e; rfl))⟩
    refine h w' hc ⟨_, by rw [List.length_set]; exact ho2, ?_⟩
    have hE' := hE.step (Stepp.chg_mem hc hv)
    refine ⟨by rw [setAt_length, List.length_set]; exact hE.1, fun j b hb => ?_⟩
    by_cases hj : j = i.toNat
    · subst hj
      rw [List.getElem?_set_self hi] at hb
      cases hb
      rw [Nat.add_zero, setAt_take_drop _ _ _ _ _ (by simpa using hl)]
      exact hset _ _ (hE'.2 _ _ h2)
    · rw [List.getElem?_set_ne (Ne.symm hj)] at hb
      rw [Nat.add_zero, setAt_other]
      · exact hE'.2 _ _ hb
      · rcases Nat.lt_or_ge j i.toNat with hlt | hge
        · left
          have : (j + 1) * Rep.n α ≤ i.toNat * Rep.n α := Nat.mul_le_mul_right _ hlt
          rw [Nat.succ_mul] at this; omega
        · right
          have : (i.toNat + 1) * Rep.n α ≤ j * Rep.n α := Nat.mul_le_mul_right _ (by omega)
          rw [Nat.succ_mul] at this; simp; omega

/-! ### Cuts -/
def cut {α : Type} (xs : List α) (lo hi : Int) : Option (List α) := if 0 ≤ lo ∧ lo ≤ hi ∧ hi ≤ xs.length then some ((xs.take hi.toNat).drop lo.toNat) else none

theorem cut_some {α : Type} {xs ys : List α} {lo hi : Int} (h : cut xs lo hi = some ys) : 0 ≤ lo ∧ lo ≤ hi ∧ hi ≤ xs.length ∧ ys = (xs.take hi.toNat).drop lo.toNat := by
  unfold cut at h
  split at h
  · rename_i hc; exact ⟨hc.1, hc.2.1, hc.2.2, by cases h; rfl⟩
  · cases h

def cutv (v : Value) (lo hi k : Nat) : Value := match v with
  | .slice a _ c => .slice (if c = lo then a else a.map (·.add (lo * k))) (hi - lo) (c - lo)
  | v => v

theorem SlRd.cut {α : Type} [Rep α] {L : List Value} {w : World} {v : Value} {xs ys : List α} {lo hi : Int} (hs : SlRd L w v xs) (hc : cut xs lo hi = some ys) : SlRd L w (cutv v lo.toNat hi.toNat (Rep.n α)) ys := by
  obtain ⟨h0, h1, h2, rfl⟩ := cut_some hc
  rcases hs with ⟨a0, rfl, rfl⟩ | ⟨b, off, cap, cur, e, fz, rfl, hb, hA, h4, h5, h6, h7⟩
  · have : hi = 0 := by simp at h2; omega
    subst this
    have : lo = 0 := by omega
    subst this
    exact .inl ⟨a0, by simp [cutv], by simp⟩
  · have hlen : ((xs.take hi.toNat).drop lo.toNat).length = hi.toNat - lo.toNat := by simp; omega
    have elem : ∀ off', off' = off + lo.toNat * Rep.n α → Elems L w ((cur.toList.drop off').take (((xs.take hi.toNat).drop lo.toNat).length * Rep.n α)) ((xs.take hi.toNat).drop lo.toNat) := by
      rintro off' rfl
      have hmul : (lo.toNat + (hi.toNat - lo.toNat)) * Rep.n α ≤ xs.length * Rep.n α := Nat.mul_le_mul_right _ (by omega)
      have hmul2 : xs.length * Rep.n α ≤ cap * Rep.n α := Nat.mul_le_mul_right _ h4
      rw [Nat.add_mul] at hmul
      refine ⟨by rw [hlen]; simp; omega, fun j b hb => ?_⟩
      have hj : j < hi.toNat - lo.toNat := by
        rcases Nat.lt_or_ge j (hi.toNat - lo.toNat) with h | h
        · exact h
        · rw [List.getElem?_eq_none (by rw [hlen]; exact h)] at hb; cases hb
      have hb' : xs[lo.toNat + j]? = some b := by
        rw [List.getElem?_drop, List.getElem?_take_of_lt (by omega)] at hb; exact hb
      have := h7.2 _ b hb'
      have hj2 : (j + 1) * Rep.n α ≤ (hi.toNat - lo.toNat) * Rep.n α := Nat.mul_le_mul_right _ hj
      rw [Nat.succ_mul] at hj2
      have hj3 : (lo.toNat + j) * Rep.n α = lo.toNat * Rep.n α + j * Rep.n α := Nat.add_mul ..
      rw [List.drop_take, List.take_take, List.drop_drop] at this ⊢
      rw [hlen]
      rw [Nat.min_eq_left (by omega)] at this ⊢
      rw [hj3, ← Nat.add_assoc] at this
      exact this
    by_cases hcl : cap = lo.toNat
    · refine .inr ⟨b, off, cap - lo.toNat, cur, e, fz, by simp [cutv, hcl, hlen], hb, hA, by rw [hlen]; omega, by omega, ?_, ?_⟩
      · have : (cap - lo.toNat) * Rep.n α ≤ cap * Rep.n α := Nat.mul_le_mul_right _ (by omega)
        omega
      · have hz : ((xs.take hi.toNat).drop lo.toNat) = [] := List.eq_nil_of_length_eq_zero (by rw [hlen]; omega)
        rw [hz]; simp [Elems]
    · refine .inr ⟨b, off + lo.toNat * Rep.n α, cap - lo.toNat, cur, e, fz, by simp [cutv, hcl, hlen, addr_add], hb, hA, by rw [hlen]; omega, by omega, ?_, elem _ rfl⟩
      have : (lo.toNat + (cap - lo.toNat)) * Rep.n α ≤ cap * Rep.n α := Nat.mul_le_mul_right _ (by omega)
      rw [Nat.add_mul] at this
      omega

/-! ### Structs and arrays built; made slices -/
structure BI (P : Program) (T : TypeId) (places : List (Nat × Nat)) (zero : List Value) : Prop where
  ex : ∃ it fs z, P.info? T = some it ∧ P.underlying T = some (.struct fs) ∧ it.zero = some z ∧ z.cells = zero.toArray ∧ fs.toList.mapM (fun f => (P.info? f.type).map fun i => (f.offset, i.size)) = some places

theorem yl_build {cells zero : List Value} {places : List (Nat × Nat)} {parts : Array (Nat × Operand)} (hB : BI P T places zero) (h : fillL (places[·]?) zero (parts.toList.map fun q => (q.1, evO n ρ q.2)) = some cells) :
    Yl P n ρ ⟨d, .build T parts, t, p, af, gu⟩ w (.agg cells.toArray) := by
  obtain ⟨it, fs, z, h1, h2, h3, h4, h5⟩ := hB.ex
  have h' : P.built T (parts.map fun (i, x) => (i, evO n ρ x)).toList = some cells.toArray := by
    simp only [Program.built, h1, h2, h3, h5, h4]
    have := fill_of_fillL _ _ _ h
    rw [Array.toList_map]
    simpa using this
  simp only [Yl, execOp, Sem.run_bind, run_build w T _ _ h', Result.andThen, Sem.run_pure]

theorem yl_indexAddrA {e m sz : Nat} {k : IntKind} {i : Int} {a : Addr} (hu : P.underlying T = some (.array m e)) (hs : Size P e sz) (h0 : 0 ≤ i) (h1 : i < m) (hx : evO n ρ x = .pointer (some a)) (hy : evO n ρ y = .int k i) :
    Yl P n ρ ⟨d, .indexAddr T x y, t, p, af, gu⟩ w (.pointer (some (a.add (i.toNat * sz)))) := by
  simp [Yl, execOp, hx, hy, Instr.indexAt, asIntOf, run_underlying hu, Instr.sureAddr, h0, h1, run_sizeOf hs]

end
end Go.Gw
