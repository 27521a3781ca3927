/- Slices of an array in a box, copying into one. No condition. -/
import Derived.Test.YtglaeocolbnpdaaGwLib8
import Derived.Laws.CopyRow
namespace Go.Gw
open Go
section
variable {P : Program} {n : Nat} {ρ : Env} {w : World}
variable {d : Option Nat} {t T U : TypeId} {p : String} {af : Array Edge} {gu : Option (Nat × Bool)} {x y z : Operand}

theorem yl_sliceA {e m sz : Nat} {a : Addr} (hu : P.underlying T = some (.array m e)) (hs : Size P e sz) (hm : 0 < m) (hx : evO n ρ x = .pointer (some a)) :
    Yl P n ρ ⟨d, .slice T x none none none, t, p, af, gu⟩ w (.slice (some (a.add (0 * sz))) m m) := by
  have h : ¬ m = 0 := by omega
  simp [Yl, execOp, hx, Instr.sliceAt, run_underlying hu, Instr.sureAddr, Instr.sliceBounds, run_sizeOf hs, h]
theorem yl_sliceAhm {e m sz : Nat} {a : Addr} {k k' : IntKind} {hi mx : Int} (hu : P.underlying T = some (.array m e)) (hs : Size P e sz) (h0 : 0 < mx) (h1 : mx ≤ m) (h2 : 0 ≤ hi) (h3 : hi ≤ mx) (hx : evO n ρ x = .pointer (some a)) (hy : evO n ρ y = .int k hi) (hz : evO n ρ z = .int k' mx) :
    Yl P n ρ ⟨d, .slice T x none (some y) (some z), t, p, af, gu⟩ w (.slice (some (a.add (0 * sz))) hi.toNat mx.toNat) := by
  have h : ¬ mx.toNat = 0 := by omega
  have h0' : 0 ≤ mx := by omega
  have hmx : (mx.toNat : Int) = mx := by omega
  simp [Yl, execOp, hx, hy, hz, Instr.sliceAt, run_underlying hu, Instr.sureAddr, Instr.sliceBounds, Instr.sliceBound, asIntOf, run_sizeOf hs, h, h0', h1, h2, hmx, h3]

/-- A slice of a box that holds numbers: it reads, apart from nothing. -/
theorem SlRd.of_box {b off len cap : Nat} {ys : List Int} {cs : List Value} {T' : TypeId} {L : List Value} (hb : Box w b cs T') (hA : Avoids L b) (hcs : (cs.drop off).take len = ys.map (Value.int .i64)) (hl : ys.length = len) (hlc : len ≤ cap) (hc : Nat.ble (off + cap) cs.length = true) (hm : Nat.ble cap 1048576 = true) :
    SlRd L w (.slice (some ⟨b, off, none⟩) len cap) ys := by
  subst hl
  have hc : off + cap ≤ cs.length := by simpa using hc
  have hm : cap ≤ 1048576 := by simpa using hm
  refine .inr ⟨b, off, cap, cs.toArray, T', (0, 0), rfl, hb, hA, hlc, by unfold maxLen; omega, by show off + cap * 1 ≤ _; simp; omega, ?_⟩
  have : ys.length * Rep.n Int = ys.length := Nat.mul_one _
  rw [this, show cs.toArray.toList = cs from rfl, hcs]
  refine ⟨by simp [this], fun i x hx => ?_⟩
  show ((ys.map (Value.int .i64)).drop (i * 1)).take 1 = [.int .i64 x]
  obtain ⟨hi, he⟩ := List.getElem?_eq_some_iff.1 hx
  rw [Nat.mul_one, List.drop_eq_getElem_cons (by simpa using hi)]
  simp [he]

/-- What an array of numbers holds once l was copied into it. -/
def cpy (l : List Int) : List Int → List Int
  | [] => []
  | x :: xs => match l with
    | [] => x :: xs
    | y :: l => y :: cpy l xs
theorem cpy_eq : ∀ (xs l : List Int), cpy l xs = l.take (Nat.min l.length xs.length) ++ xs.drop (Nat.min l.length xs.length)
  | [], l => by simp [cpy]
  | x :: xs, [] => by simp [cpy]
  | x :: xs, y :: l => by
    simp only [cpy, List.length_cons]
    have : Nat.min (l.length + 1) (xs.length + 1) = Nat.min l.length xs.length + 1 := by simp only [Nat.min_def]; split <;> split <;> omega
    rw [this, List.take_succ_cons, List.drop_succ_cons, cpy_eq xs l]; rfl

theorem chg_setRow {b : Nat} {old cs : Array Value} {T' : TypeId} {fr : Nat × Nat} (_hb : w.heap[b]? = some (.cells old T' fr)) : Chg [.pointer (some ⟨b, 0, none⟩)] w (w.setRow b cs) :=
  ⟨rfl, rfl, rfl, by simp, fun k _ hA => setRow_other w b k cs (fun e => hA _ (List.mem_singleton.2 rfl) (by simp [blk, e]))⟩

theorem run_copy_e (w : World) (dT sT ty elem : TypeId) (a : Addr) (dLen dCap : Nat) (a0 : Option Addr) (hu : P.underlying dT = some (.slice elem)) (hs : ((P.info? elem).map (·.size)).isSome = true) :
    (Builtin.copy_ #[dT, sT] ty #[.slice (some a) dLen dCap, .slice a0 0 0]).run P w = .ok (goInt 0) w := by
  cases hq : P.info? elem with
  | none => simp [hq] at hs
  | some i =>
    have hl0 : ∀ a : Addr, (loadCells a 0).run P w = .ok #[] w := fun a => run_loadCells_list (P := P) w a [] (fun j v hv => by simp at hv)
    cases a0 <;> simp [Builtin.copy_, run_underlying hu, Builtin.lenOf, Builtin.firstCells, sizeOf, typeInfo, hq, storeCells, hl0]
theorem eff_copyA {e : Nat} {b m : Nat} {xs ys zs : List Int} {L : List Value} {vx : Value} {cs : List Value} {T' : TypeId} {K : Value → World → Prop} {aT : Array TypeId} (hu : P.underlying T = some (.slice e)) (hs : Size P e 1) (hT : aT = #[T, U]) (hx : evO n ρ x = .slice (some ⟨b, 0, none⟩) m m) (hy : evO n ρ y = vx)
    (hb : Box w b cs T') (hcs : cs = xs.map (Value.int .i64)) (hm : xs.length = m) (hr : SlRd L w vx ys) (hz : cpy ys xs = zs)
    (h : ∀ w', Chg [.pointer (some ⟨b, 0, none⟩)] w w' → Box w' b (zs.map (Value.int .i64)) T' → K (.int .i64 (Nat.min ys.length m : Nat)) w') : Eff P ⟨d, .call ⟨.builtin .copy, #[x, y], aT⟩, t, p, af, gu⟩ n ρ w K := by
  subst hT; subst hm; subst hcs; subst hz
  have hsz : (P.info? e).map (·.size) = some 1 := by obtain ⟨i, hi, hk⟩ := hs; simp [hi, hk]
  rcases hr with ⟨a0, rfl, rfl⟩ | ⟨bs, off, cap, cur, e', fz, rfl, hbs, _, h4, h5, h6, h7⟩
  · have hrun := run_copy_e (P := P) w T U t e ⟨b, 0, none⟩ xs.length xs.length a0 hu (by rw [hsz]; rfl)
    simp [Eff, execOp, resolve, invoke, builtin, hx, hy, hrun, goInt]
    have := h w (Chg.refl _ _) (by have : cpy [] xs = xs := by cases xs <;> rfl
                                   rw [this]; exact hb)
    simpa using this
  · obtain ⟨k, hk⟩ : ∃ k, k = Nat.min ys.length xs.length := ⟨_, rfl⟩
    have hlen : ((ys.take k).map (Value.int .i64)).length = Nat.min ys.length xs.length := by
      have : k ≤ ys.length := by rw [hk]; exact Nat.min_le_left ..
      simp [← hk]; omega
    have hsrc : ∀ j v, ((ys.take k).map (Value.int .i64))[j]? = some v → w.cell? (Addr.add ⟨bs, off, none⟩ j) = some v := fun j v hv => by
      rw [List.getElem?_map] at hv
      cases hj : (ys.take k)[j]? with
      | none => simp [hj] at hv
      | some u =>
        simp [hj] at hv
        have hj' : ys[j]? = some u := by
          have hlt : j < k := by
            rcases Nat.lt_or_ge j k with h | h
            · exact h
            · rw [List.getElem?_eq_none (by simp; omega)] at hj; cases hj
          rwa [List.getElem?_take_of_lt hlt] at hj
        have h8 : ((((cur.toList.drop off).take (ys.length * 1)).drop (j * 1)).take 1) = [.int .i64 u] := h7.2 j u hj'
        rw [addr_add]
        have h9 : cur[off + j]? = some (.int .i64 u) := by
          have : ((((cur.toList.drop off).take (ys.length * 1)).drop (j * 1)).take 1)[0]? = some (.int .i64 u) := by rw [h8]; rfl
          rw [List.getElem?_take_of_lt (by omega), List.getElem?_drop, List.getElem?_take_of_lt (by have := (List.getElem?_eq_some_iff.1 hj').1; omega), List.getElem?_drop] at this
          simpa using this
        rw [← hv]
        simp [World.cell?, hbs, h9]
    have hrun := run_copy_row (P := P) w T U t e b 0 xs.length xs.length ⟨bs, off, none⟩ ys.length cap _ T' ((ys.take k).map (Value.int .i64)) hu hsz hb hlen hsrc (by rw [hlen]; simp; exact Nat.min_le_right ..) (fun v hv => by obtain ⟨u, _, rfl⟩ := List.mem_map.1 hv; rfl)
    simp only [Nat.zero_add] at hrun
    simp [Eff, execOp, resolve, invoke, builtin, hx, hy, hrun, goInt]
    have hkl : k ≤ ys.length := by rw [hk]; exact Nat.min_le_left ..
    have e1 : min k ys.length = k := Nat.min_eq_left hkl
    have e2 : (List.take k (List.map (Value.int .i64) ys) ++ List.drop (min k ys.length) (List.map (Value.int .i64) xs)) = (cpy ys xs).map (Value.int .i64) := by
      rw [e1, cpy_eq, ← hk, List.map_append, List.map_take, List.map_drop]
    rw [e2, e1]
    have h2 := h (w.setRow b ((cpy ys xs).map (Value.int .i64)).toArray) (chg_setRow hb) (setRow_heap w b _ _ T' (0, 0) hb)
    rw [← hk] at h2
    exact h2

theorem yl_sliceAv {e m sz : Nat} {a : Addr} {v : Value} (hu : P.underlying T = some (.array m e)) (hs : Size P e sz) (hm : Nat.blt 0 m = true) (hx : evO n ρ x = .pointer (some a)) (hv : v = .slice (some (a.add (0 * sz))) m m) :
    Yl P n ρ ⟨d, .slice T x none none none, t, p, af, gu⟩ w v := by subst hv; exact yl_sliceA hu hs (by simpa [Nat.blt_eq] using hm) hx
/-- Cutting an array from its beginning, with a bound of the capacity. -/
def cutA (xs : List Int) (hi mx : Int) : Option (List Int) := if 0 < mx ∧ mx ≤ xs.length ∧ 0 ≤ hi ∧ hi ≤ mx then some (xs.take hi.toNat) else none
theorem cutA_some {xs ys : List Int} {hi mx : Int} (h : cutA xs hi mx = some ys) : 0 < mx ∧ mx ≤ xs.length ∧ 0 ≤ hi ∧ hi ≤ mx ∧ ys = xs.take hi.toNat := by
  unfold cutA at h
  split at h
  · rename_i hc; exact ⟨hc.1, hc.2.1, hc.2.2.1, hc.2.2.2, by cases h; rfl⟩
  · cases h
theorem yl_sliceAc {e m : Nat} {a : Addr} {xs ys : List Int} {v : Value} {k k' : IntKind} {hi mx : Int} (hu : P.underlying T = some (.array m e)) (hs : Size P e 1) (hl : xs.length = m) (hc : cutA xs hi mx = some ys) (hx : evO n ρ x = .pointer (some a)) (hy : evO n ρ y = .int k hi) (hz : evO n ρ z = .int k' mx)
    (hv : v = .slice (some (a.add (0 * 1))) hi.toNat mx.toNat) : Yl P n ρ ⟨d, .slice T x none (some y) (some z), t, p, af, gu⟩ w v := by
  obtain ⟨h0, h1, h2, h3, _⟩ := cutA_some hc
  subst hv
  exact yl_sliceAhm hu hs h0 (by omega) h2 h3 hx hy hz
theorem SlRd.of_boxC {b : Nat} {xs ys : List Int} {cs : List Value} {T' : TypeId} {L : List Value} {hi mx : Int} (hb : Box w b cs T') (hA : Avoids L b) (hcs : cs = xs.map (Value.int .i64)) (hc : cutA xs hi mx = some ys) (hm : Nat.ble xs.length 1048576 = true) :
    SlRd L w (.slice (some ⟨b, 0, none⟩) hi.toNat mx.toNat) ys := by
  obtain ⟨h0, h1, h2, h3, rfl⟩ := cutA_some hc
  subst hcs
  have hm : xs.length ≤ 1048576 := by simpa using hm
  exact SlRd.of_box hb hA (by rw [List.drop_zero, List.map_take]) (by simp; omega) (by omega) (by simp [Nat.ble_eq]; omega) (by simp [Nat.ble_eq]; omega)
theorem avoid_new {L : List Value} {b : Nat} (hL : LtL L w) (hb : w.heap.size ≤ b) : Avoids L b := fun x hx e => by have := hL x hx b e; omega
end
end Go.Gw
namespace Go.Gw
theorem cpy_getD12 (ys : List Int) (a0 a1 a2 a3 a4 a5 a6 a7 a8 a9 a10 a11 : Int) : cpy ys [a0, a1, a2, a3, a4, a5, a6, a7, a8, a9, a10, a11] =
    [ys.getD 0 a0, ys.getD 1 a1, ys.getD 2 a2, ys.getD 3 a3, ys.getD 4 a4, ys.getD 5 a5, ys.getD 6 a6, ys.getD 7 a7, ys.getD 8 a8, ys.getD 9 a9, ys.getD 10 a10, ys.getD 11 a11] := by
  rcases ys with _ | ⟨y0, _ | ⟨y1, _ | ⟨y2, _ | ⟨y3, _ | ⟨y4, _ | ⟨y5, _ | ⟨y6, _ | ⟨y7, _ | ⟨y8, _ | ⟨y9, _ | ⟨y10, _ | ⟨y11, ys⟩⟩⟩⟩⟩⟩⟩⟩⟩⟩⟩⟩ <;> simp [cpy]
end Go.Gw
