/- Slices of the call's own: made, appended to, stored into, cut. No condition. -/
import Derived.Test.YtglaeocolbnpdaaGreatGwOps2
import Derived.Laws.MakeOwn
namespace Go.Gw
open Go

section
variable {P : Program} {n : Nat} {ρ : Env} {w : World}
variable {d : Option Nat} {t T U : TypeId} {p : String} {af : Array Edge} {gu : Option (Nat × Bool)} {x y z : Operand}

structure EInfo (P : Program) (e : TypeId) (k bytes : Nat) (z : Value) : Prop where
  ex : ∃ i, P.info? e = some i ∧ i.size = k ∧ i.bytes = bytes ∧ i.zero = some z ∧ z.cells.size = k ∧ 0 < k

theorem EInfo.size {e : TypeId} {k bytes : Nat} {z : Value} (h : EInfo P e k bytes z) : Size P e k := by
  obtain ⟨i, hi, hk, _⟩ := h.ex; exact ⟨i, hi, hk⟩

theorem Own.made {α : Type} [Rep α] {e : TypeId} {L L' : List Value} {xs : List α} {cells : List Value} (h : Elems L w cells xs) (hcap : xs.length ≤ maxLen) (st : Stepp L w L' { w with heap := w.heap.push (.cells cells.toArray e (0, 0)) }) :
    Own e L' { w with heap := w.heap.push (.cells cells.toArray e (0, 0)) } (.slice (some ⟨w.heap.size, 0, none⟩) xs.length xs.length) xs := by
  refine ⟨cells, ⟨h.1, .inr ⟨w.heap.size, xs.length, cells.toArray, rfl, Nat.zero_le _, by simp, Nat.le_refl _, hcap, by simpa using h.1, ?_⟩⟩, h.step st⟩
  rw [← h.1]; simp


/-! ### Filling, over lists -/
def fillL (place : Nat → Option (Nat × Nat)) (cells : List Value) : List (Nat × Value) → Option (List Value)
  | [] => some cells
  | (i, v) :: rest =>
    match place i with
    | none => none
    | some (off, size) => bif Nat.beq v.cells.toList.length size && Nat.ble (off + v.cells.toList.length) cells.length then fillL place (setAt cells off v.cells.toList) rest else none

theorem foldl_setAt (vs : List Value) : ∀ (cs : Array Value) (off j : Nat), ((vs.zipIdx j).foldl (fun (cs : Array Value) (q : Value × Nat) => cs.setIfInBounds (off + q.2) q.1) cs) = (setAt cs.toList (off + j) vs).toArray := by
  induction vs with
  | nil => intro cs off j; simp [setAt]
  | cons v vs ih =>
    intro cs off j
    simp only [List.zipIdx_cons, List.foldl_cons, setAt]
    rw [ih]
    simp [Nat.add_assoc]

theorem fill_of_fillL {place : Nat → Option (Nat × Nat)} : ∀ (parts : List (Nat × Value)) (cells out : List Value), fillL place cells parts = some out → Instr.fill place cells.toArray parts = some out.toArray
  | [], cells, out, h => by simp [fillL] at h; simp [Instr.fill, h]
  | (i, v) :: rest, cells, out, h => by
    simp only [fillL] at h
    simp only [Instr.fill]
    cases hp : place i with
    | none => simp [hp] at h
    | some q =>
      obtain ⟨off, size⟩ := q
      simp only [hp] at h
      cases hb : (Nat.beq v.cells.toList.length size && Nat.ble (off + v.cells.toList.length) cells.length) with
      | false => simp only [hb, cond_false] at h; cases h
      | true =>
        simp only [hb, cond_true] at h
        simp only [Bool.and_eq_true, Nat.beq_eq, Nat.ble_eq, Array.length_toList] at hb
        have h1 : ¬ (v.cells.size ≠ size || decide (off + v.cells.size > cells.toArray.size)) = true := by simp; omega
        have h2 := foldl_setAt v.cells.toList cells.toArray off 0
        have h3 : v.cells.zipIdx.foldl (fun cs (c, j) => cs.setIfInBounds (off + j) c) cells.toArray = (setAt cells off v.cells.toList).toArray := by
          rw [← Array.foldl_toList]
          simpa using h2
        simp only [h3]
        rw [if_neg h1]
        exact fill_of_fillL rest _ _ h

def zerosL (z : List Value) (k : Nat) : List Value := (List.range k).map fun i => z.getD (i % z.length) undef

theorem zeros_eq (z : Array Value) (k : Nat) (h : 0 < z.size ∨ k = 0) : (Array.range k).map (z[· % z.size]!) = (zerosL z.toList k).toArray := by
  apply Array.ext'
  simp only [Array.toList_map, Array.toList_range, zerosL]
  apply List.map_congr_left
  intro i hi
  rcases h with h | h
  · have := Nat.mod_lt i h
    simp [List.getD, this]
  · subst h; simp at hi

theorem eff_buildSlice {α : Type} [Rep α] {e : TypeId} {bytes : Nat} {z : Value} {L : List Value} {len : Nat} {xs : List α} {cells : List Value} {parts : Array (Nat × Operand)} {K : Value → World → Prop}
    (hu : P.underlying T = some (.slice e)) (hi : EInfo P e (Rep.n α) bytes z) (hsmall : Nat.ble (len * Rep.n α) 16777216 = true)
    (hf' : fillL (fun i => some (i * Rep.n α, Rep.n α)) (zerosL z.cells.toList (len * Rep.n α)) (parts.toList.map fun q => (q.1, evO n ρ q.2)) = some cells)
    (hel : Elems L w cells xs) (hl : xs.length = len)
    (h : ∀ b w', b = w.heap.size → Ext w w' → w'.heap.size = w.heap.size + 1 → Own e L w' (.slice (some ⟨b, 0, none⟩) len len) xs → Own e (.slice (some ⟨b, 0, none⟩) len len :: L) w' (.slice (some ⟨b, 0, none⟩) len len) xs → K (.slice (some ⟨b, 0, none⟩) len len) w') : Eff P ⟨d, .buildSlice T len parts, t, p, af, gu⟩ n ρ w K := by
  obtain ⟨i, h1, h2, h3, h4, h5, h6⟩ := hi.ex
  have hsm : ¬ len * Rep.n α > 2 ^ 24 := by
    have : len * Rep.n α ≤ 16777216 := by simpa using hsmall
    omega
  have hcap : xs.length ≤ maxLen := by
    have h7 : len * 1 ≤ len * Rep.n α := Nat.mul_le_mul_left _ h6
    have : len * Rep.n α ≤ 16777216 := by simpa using hsmall
    unfold maxLen; omega
  have hf : Instr.fill (fun i => some (i * Rep.n α, Rep.n α)) ((Array.range (len * Rep.n α)).map (z.cells[· % z.cells.size]!)) (parts.map fun q => (q.1, evO n ρ q.2)).toList = some cells.toArray := by
    rw [zeros_eq z.cells _ (.inl (by omega)), Array.toList_map]
    exact fill_of_fillL _ _ _ hf'
  have hz : (Array.map (fun q : Nat × Operand => (q.1, evO n ρ q.2)) parts) = Array.map (fun (i, x) => (i, evO n ρ x)) parts := rfl
  have hr : (Instr.buildSlice T len (parts.map fun (i, x) => (i, evO n ρ x))).run P w = .ok (.slice (some ⟨w.heap.size, 0, none⟩) len len) { w with heap := w.heap.push (.cells cells.toArray e (0, 0)) } := by
    rw [hz] at hf
    have hzv : (zeroValue e).run P w = .ok z w := by simp [zeroValue, typeInfo, h1, h4]
    by_cases h0 : len * Rep.n α = 0
    · have hl0 : len = 0 := by rcases Nat.mul_eq_zero.1 h0 with h | h; exact h; omega
      subst hl0
      have hf' : Instr.fill (fun i => some (i * Rep.n α, Rep.n α)) #[] (parts.map fun (i, x) => (i, evO n ρ x)).toList = some cells.toArray := by rw [← hf]; congr 1; simp
      have e0 : (Array.map (fun x => (#[] : Array Value)[x % (#[] : Array Value).size]!) (Array.range 0)) = #[] := by simp
      simp only [Instr.buildSlice, Sem.run_bind, run_underlying hu, Result.andThen, run_sizeOf hi.size, Nat.zero_mul]
      rw [if_neg (by decide), if_pos trivial, Sem.run_bind, Sem.run_pure]
      simp only [Result.andThen, e0, hf']
      rfl
    · simp only [Instr.buildSlice, Sem.run_bind, run_underlying hu, Result.andThen, run_sizeOf hi.size, if_neg hsm, if_neg h0, hzv, Sem.run_pure]
      rw [hf]
      rfl
  simp only [Eff, execOp, Sem.run_bind, hr, Result.andThen, Sem.run_pure]
  have o1 := Own.made (e := e) hel hcap (Stepp.ext (Ext.alloc ..))
  have o2 := Own.made (e := e) hel hcap (Stepp.add (.slice (some ⟨w.heap.size, 0, none⟩) len len) (Ext.alloc ..) (fun b hb => by simp [blk] at hb; omega))
  rw [hl] at o1 o2
  exact h _ _ rfl (Ext.alloc ..) (by simp) o1 o2

theorem eff_append {α : Type} [Rep α] {e : TypeId} {bytes : Nat} {zz : Value} {L : List Value} {v vx : Value} {xs ys : List α} {K : Value → World → Prop} {aT : Array TypeId}
    (hu : P.underlying T = some (.slice e)) (hi : EInfo P e (Rep.n α) bytes zz) (hT : aT = #[T, T]) (hx : evO n ρ x = v) (hy : evO n ρ y = vx) (hown : Own e (v :: L) w v xs) (hs : SlRd (v :: L) w vx ys)
    (hb : (xs.length + ys.length) * bytes ≤ 140737488355328) (hm : xs.length + ys.length ≤ maxLen)
    (h : ∀ v' w', Chg [v] w w' → (∀ b, blk v' = some b → blk v = some b ∨ w.heap.size ≤ b) → Own e (v' :: L) w' v' (xs ++ ys) → K v' w') : Eff P ⟨d, .call ⟨.builtin .append, #[x, y], aT⟩, t, p, af, gu⟩ n ρ w K := by
  subst hT
  obtain ⟨i, h1, h2, h3, h4, h5, h6⟩ := hi.ex
  obtain ⟨av, capv, hv, _⟩ := hown.shape
  obtain ⟨cells, ho, hel⟩ := hown
  have key : ∀ r : Result Value, (Builtin.append_ #[T, T] t #[v, vx]).run P w = r → (match r with | .ok v' w' => K v' w' | _ => False) → Eff P ⟨d, .call ⟨.builtin .append, #[x, y], #[T, T]⟩, t, p, af, gu⟩ n ρ w K := by
    intro r hr hK
    have : (execOp (evO n ρ) ⟨d, .call ⟨.builtin .append, #[x, y], #[T, T]⟩, t, p, af, gu⟩).run P w = ((Builtin.append_ #[T, T] t #[v, vx]).run P w).andThen fun v w => .ok (.value v) w := by
      simp [execOp, resolve, invoke, builtin, hx, hy]
    simp only [Eff, this, hr]
    cases r with
    | ok v' w' => exact hK
    | halt _ _ => exact hK.elim
  rcases hs with ⟨a0, rfl, rfl⟩ | ⟨b, off, cap, cur, e', fz, rfl, hblk, hA, hcap, hcm, hsz, hely⟩
  · refine key (.ok v w) ?_ (h v w (Chg.refl _ _) (fun b hb => .inl hb) ?_)
    · subst hv
      have hle : xs.length ≤ capv := by
        rcases ho.2 with ⟨hh, h0⟩ | ⟨g, cap, cur, hh, _, _, h4, _⟩
        · omega
        · cases hh; exact h4
      have hnot : ∀ q, P.underlying T = some q → (match q with | .int _ => true | _ => false) = false := by intro q hq; rw [hu] at hq; cases hq; rfl
      simp [Builtin.append_, run_underlying hu, sizeOf, typeInfo, h1, Builtin.lenOf, Builtin.firstCells, hle]
      have hl0 : ∀ a : Addr, (loadCells a 0).run P w = .ok #[] w := fun a => run_loadCells_list (P := P) w a [] (fun j v hv => by simp at hv)
      cases av <;> cases a0 <;> simp [storeCells, hl0]
    · rw [List.append_nil]; exact ⟨cells, ho, hel⟩
  · have hnl : (((cur.toList.drop off).take (ys.length * Rep.n α))).length = ys.length * Rep.n α := hely.1
    have hbase : (0 : Nat) ≤ w.heap.size := Nat.zero_le _
    obtain ⟨v', w', hr, ho', hg, _⟩ := run_append_own (P := P) w 0 T t e i zz (Rep.n α) bytes hu h1 h4 h2 h3 h5 h6 v xs.length cells ho ⟨b, off, none⟩ ys.length cap ((cur.toList.drop off).take (ys.length * Rep.n α)) hnl
      (fun j u hu => by
        rw [addr_add]
        have hj : j < ys.length * Rep.n α := by
          rcases Nat.lt_or_ge j (ys.length * Rep.n α) with h | h
          · exact h
          · rw [List.getElem?_eq_none (by rw [hnl]; exact h)] at hu; cases hu
        rw [List.getElem?_take_of_lt hj, List.getElem?_drop] at hu
        simp [World.cell?, hblk, ← hu])
      hely.cells1 hm hb hbase
    have hc : Chg [v] w w' := Chg.of_grown hg
    have hnews : ∀ j u, ((cur.toList.drop off).take (ys.length * Rep.n α))[j]? = some u → w.cell? ((⟨b, off, none⟩ : Addr).add j) = some u := fun j u hu => by
      rw [addr_add]
      have hj : j < ys.length * Rep.n α := by
        rcases Nat.lt_or_ge j (ys.length * Rep.n α) with h | h
        · exact h
        · rw [List.getElem?_eq_none (by rw [hnl]; exact h)] at hu; cases hu
      rw [List.getElem?_take_of_lt hj, List.getElem?_drop] at hu
      simp [World.cell?, hblk, ← hu]
    have hbl : ∀ b, blk v' = some b → blk v = some b ∨ w.heap.size ≤ b := by
      intro k hk
      rcases ho.2 with ⟨hh, h0⟩ | ⟨g, cap', cur', hh, _, hg', h4', _, hcs, htake⟩
      · have hown2 : w.ownsRow w.heap.size e (Rep.n α) v xs.length cells := ⟨ho.1, .inl ⟨hh, h0⟩⟩
        obtain ⟨v2, w2, hr2, ho2, _⟩ := run_append_own (P := P) w w.heap.size T t e i zz (Rep.n α) bytes hu h1 h4 h2 h3 h5 h6 v xs.length cells hown2 ⟨b, off, none⟩ ys.length cap _ hnl hnews hely.cells1 hm hb (Nat.le_refl _)
        rw [hr] at hr2
        cases hr2
        have hw : v'.ownBlock = some k := by
          rcases ho2.2 with ⟨hh, _⟩ | ⟨g2, _, _, hh, _⟩ <;> subst hh
          · cases hk
          · exact hk
        exact .inr (ho2.lt k hw).1
      · subst hh
        by_cases hroom : xs.length + ys.length ≤ cap'
        · have hr2 := run_append_room (P := P) w T t e i hu h1 g xs.length cap' cur' hg' ⟨b, off, none⟩ ys.length cap _ (by rw [h2]; exact hnl) hnews hely.cells1 hroom (by rw [h2, hnl, hcs, ← Nat.add_mul]; exact Nat.mul_le_mul_right _ hroom)
          rw [hr] at hr2
          cases hr2
          exact .inl hk
        · have holds : ∀ j u, cells[j]? = some u → w.cell? ((⟨g, 0, none⟩ : Addr).add j) = some u := World.ownsRow.cells ho (g := g) rfl
          have hr2 := run_append_grow (P := P) w T t e i zz hu h1 h4 ⟨g, 0, none⟩ xs.length cap' cells (by rw [h2]; exact ho.1) holds ⟨b, off, none⟩ ys.length cap _ (by rw [h2]; exact hnl) hnews (by omega) (by unfold maxLen at hm; omega) (growslice_fits (by omega) (by rw [h3]; exact hb))
          rw [hr] at hr2
          cases hr2
          right
          have : w.heap.size = k := by simpa [blk] using hk
          omega
    refine key _ hr (h v' w' hc hbl ?_)
    have st : Stepp (v :: L) w (v' :: L) w' := Stepp.swap hc hbl
    exact ⟨cells ++ _, by simpa using ho', (hel.step st).append (Elems.step st hely)⟩

end
end Go.Gw
