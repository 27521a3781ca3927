/- Closures; calls that change what lies behind a pointer. No condition. -/
import Derived.Test.YtglaeocolbnpdaaGwLib11
import Derived.Laws.ByValue
namespace Go.Gw
open Go
section
variable {P : Program} {n : Nat} {ρ : Env} {w w' : World}
variable {d : Option Nat} {t T U : TypeId} {p : String} {af : Array Edge} {gu : Option (Nat × Bool)} {x y z : Operand}
theorem yl_makeFunc {f : FuncId} {cap : Array Operand} {cs : List Value} (h : (cap.map (evO n ρ)).toList = cs) : Yl P n ρ ⟨d, .makeFunc (.func f) #[] cap, t, p, af, gu⟩ w (.func (.func f) #[] cs.toArray) := by
  have e : cap.map (evO n ρ) = cs.toArray := by rw [← h]
  simp [Yl, execOp, Instr.makeFunc, e, go_sem]
theorem eff_callC {f : FuncId} {fn : Func} {c : Code} {xs : Array Operand} {aT : Array TypeId} {cs as args : List Value} {K Φ : Value → World → Prop} (hy : evO n ρ y = .func (.func f) #[] cs.toArray) (hf : P.funcs[f]? = some fn) (hname : (fn.name == "runtime.NumGoroutine") = false) (hb : fn.body = some c)
    (ha : (xs.map (evO n ρ)).toList = as) (hargs : as ++ cs = args) (hc : CallsTo P f args w Φ) (h : ∀ v w', Φ v w' → K v w') : Eff P ⟨d, .call ⟨.value y, xs, aT⟩, t, p, af, gu⟩ n ρ w K := by
  have e : xs.map (evO n ρ) = as.toArray := by rw [← ha]
  have : (execOp (evO n ρ) ⟨d, .call ⟨.value y, xs, aT⟩, t, p, af, gu⟩).run P w = .ok (.enter f args.toArray) w := by
    subst hargs
    simp [execOp, resolve, Deferred.ofValue, invoke, e, hy, MuLone.run_callFunc_enter hf hname hb]
  simp only [Eff, this]
  exact CallsTo.mono hc h
/-- A block that has come since, or one that may change. -/
def NewOr (H : List Value) (w : World) (b : Nat) : Prop := w.heap.size ≤ b ∨ ¬ Avoids H b
theorem Chg.freshH {H0 H : List Value} {a b c : World} (h : Chg H0 a b) (k : Chg H b c) (hf : ∀ x ∈ H, ∀ n, blk x = some n → NewOr H0 a n) : Chg H0 a c :=
  ⟨k.os.trans h.os, k.tape.trans h.tape, k.output.trans h.output, Nat.le_trans h.size k.size, fun i hi hA => (k.block i (Nat.lt_of_lt_of_le hi h.size) (fun x hx e => by
    rcases hf x hx i e with h1 | h1
    · omega
    · exact h1 hA)).trans (h.block i hi hA)⟩
theorem Chg.thenE {H : List Value} {a b c : World} (h : Chg H a b) (e : Ext b c) : Chg H a c := h.trans (e.mono (fun _ h => by cases h))
theorem chgH_own {H : List Value} {v : Value} {w0 : World} (h : Chg H w0 w) (c : Chg [v] w w') (hf : ∀ b, blk v = some b → NewOr H w0 b) : Chg H w0 w' := Chg.freshH h c (fun x hx n e => by rcases List.mem_singleton.1 hx with rfl; exact hf n e)
theorem chgH_box {H : List Value} {b : Nat} {w0 : World} (h : Chg H w0 w) (c : Chg [.pointer (some ⟨b, 0, none⟩)] w w') (hf : NewOr H w0 b) : Chg H w0 w' := Chg.freshH h c (fun x hx n e => by
  rcases List.mem_singleton.1 hx with rfl
  simp [blk] at e
  subst e; exact hf)
theorem bfreshH {H : List Value} {w0 : World} {b : Nat} (h : Chg H w0 w) (hb : b = w.heap.size) : NewOr H w0 b := .inl (by rw [hb]; exact h.size)
theorem freshH_swap {H : List Value} {v v' : Value} {w0 : World} (hbl : ∀ b, blk v' = some b → blk v = some b ∨ w.heap.size ≤ b) (h : ∀ b, blk v = some b → NewOr H w0 b) (hs : w0.heap.size ≤ w.heap.size) : ∀ b, blk v' = some b → NewOr H w0 b := fun b hb => by
  rcases hbl b hb with h1 | h1
  · exact h b h1
  · exact .inl (by omega)
theorem freshH_new {H : List Value} {v : Value} {w0 : World} (h : Chg H w0 w) (hf : ∀ b, blk v = some b → w.heap.size ≤ b) : ∀ b, blk v = some b → NewOr H w0 b := fun b hb => .inl (Nat.le_trans h.size (hf b hb))
theorem newOr_v {v u : Value} {w : World} : ∀ b, blk v = some b → NewOr [v, u] w b := fun _ hb => .inr (not_avoids (List.mem_cons_self ..) hb)
theorem newOr_p {v : Value} {b : Nat} {w : World} : NewOr [v, .pointer (some ⟨b, 0, none⟩)] w b := .inr (not_avoids (x := .pointer (some ⟨b, 0, none⟩)) (by simp) rfl)
theorem hbl_of {v v' : Value} {b : Nat} {w : World} (hf : ∀ k, blk v' = some k → NewOr [v, .pointer (some ⟨b, 0, none⟩)] w k) (hne : blk v' ≠ some b) : ∀ k, blk v' = some k → blk v = some k ∨ w.heap.size ≤ k := fun k hk => by
  rcases hf k hk with h | h
  · exact .inr h
  · left
    apply Classical.byContradiction
    intro hv
    refine h (fun x hx e => ?_)
    rcases List.mem_cons.1 hx with rfl | hx
    · exact hv e
    · rcases List.mem_singleton.1 hx with rfl
      simp [blk] at e
      subst e
      exact hne hk
/-- Two handles changed, one of them renamed. -/
theorem Stepp.swap2 {L : List Value} {v v' : Value} {b : Nat} (h : Chg [v, .pointer (some ⟨b, 0, none⟩)] w w') (hv : ∀ k, blk v' = some k → blk v = some k ∨ w.heap.size ≤ k) : Stepp (v :: .pointer (some ⟨b, 0, none⟩) :: L) w (v' :: .pointer (some ⟨b, 0, none⟩) :: L) w' :=
  ⟨h.mono (fun y hy => by
    rcases List.mem_cons.1 hy with rfl | hy
    · simp
    · rcases List.mem_singleton.1 hy with rfl; simp), fun y hy k e => by
    rcases List.mem_cons.1 hy with rfl | hy
    · rcases hv k e with h | h
      · exact .inl (not_avoids (List.mem_cons_self ..) h)
      · exact .inr h
    · exact .inl (not_avoids (List.mem_cons_of_mem _ hy) e)⟩
theorem avoid2 {v : Value} {b b' : Nat} (h : blk v ≠ some b) (h2 : b' ≠ b) : Avoids [v, .pointer (some ⟨b', 0, none⟩)] b := fun x hx e => by
  rcases List.mem_cons.1 hx with rfl | hx
  · exact h e
  · rcases List.mem_singleton.1 hx with rfl
    simp [blk] at e; exact h2 e
theorem av2 {u v : Value} {b' : Nat} (h : ∀ b, blk u = some b → blk v ≠ some b) (h2 : blk u ≠ some b') : ∀ k, blk u = some k → Avoids [v, .pointer (some ⟨b', 0, none⟩)] k := fun k hk => avoid2 (h k hk) (fun e => h2 (by rw [e]; exact hk))
theorem chg_two {v : Value} {b : Nat} {w0 : World} (h : Ext w0 w) (c : Chg [v, .pointer (some ⟨b, 0, none⟩)] w w') (hf : ∀ k, blk v = some k → w0.heap.size ≤ k) (hb : w0.heap.size ≤ b) : Ext w0 w' := Chg.fresh h c (fun x hx n e => by
  rcases List.mem_cons.1 hx with rfl | hx
  · exact hf n e
  · rcases List.mem_singleton.1 hx with rfl
    simp [blk] at e; omega)
theorem chgH_two {H : List Value} {v : Value} {b : Nat} {w0 : World} (h : Chg H w0 w) (c : Chg [v, .pointer (some ⟨b, 0, none⟩)] w w') (hf : ∀ k, blk v = some k → NewOr H w0 k) (hb : NewOr H w0 b) : Chg H w0 w' := Chg.freshH h c (fun x hx n e => by
  rcases List.mem_cons.1 hx with rfl | hx
  · exact hf n e
  · rcases List.mem_singleton.1 hx with rfl
    simp [blk] at e
    subst e; exact hb)
theorem blk_cutv {v : Value} {hi k : Nat} : blk (cutv v 0 hi k) = blk v := by
  cases v <;> try rfl
  rename_i a len cap
  cases a with
  | none => simp [cutv, blk]
  | some a =>
    simp only [cutv, Nat.zero_mul]
    split
    · rfl
    · simp only [Option.map_some, blk]
      unfold Addr.add
      split <;> rfl
/-- The head of an own slice. -/
theorem Own.cutf {α : Type} [Rep α] {e : TypeId} {L : List Value} {v : Value} {xs ys : List α} {hi : Int} (h : Own e L w v xs) (hc : cut xs 0 hi = some ys) : Own e L w (cutv v 0 hi.toNat (Rep.n α)) ys := by
  obtain ⟨h0, h1, h2, rfl⟩ := cut_some hc
  obtain ⟨cells, ⟨hl, ho⟩, hel⟩ := h
  have hk : hi.toNat ≤ xs.length := by omega
  have hlen : ((xs.take hi.toNat).drop (0 : Int).toNat).length = hi.toNat := by simp; omega
  have ht : (xs.take hi.toNat).drop (0 : Int).toNat = xs.take hi.toNat := by simp
  have hle : hi.toNat * Rep.n α ≤ cells.length := by rw [hl]; exact Nat.mul_le_mul_right _ hk
  refine ⟨cells.take (hi.toNat * Rep.n α), ⟨by rw [hlen, List.length_take]; omega, ?_⟩, ?_⟩
  · rcases ho with ⟨rfl, hz⟩ | ⟨g, cap, cur, rfl, hb, hh, h4, h5, h6, h7⟩
    · left
      rw [hlen]
      have : hi.toNat = 0 := by omega
      simp [cutv, this]
    · right
      refine ⟨g, cap, cur, ?_, hb, hh, by rw [hlen]; omega, h5, h6, ?_⟩
      · rw [hlen]
        simp only [cutv, Nat.zero_mul, Nat.sub_zero]
        congr 1
        split
        · rfl
        · simp only [Option.map_some]; rw [addr_add]
      · rw [hlen, ← h7, List.take_take]
        congr 1
        have := Nat.mul_le_mul_right (Rep.n α) hk
        omega
  · rw [ht]
    refine ⟨by rw [List.length_take, List.length_take, hl]; have := Nat.mul_le_mul_right (Rep.n α) hk; rw [Nat.min_eq_left this, Nat.min_eq_left hk], fun i x hx => ?_⟩
    have hi2 : i < hi.toNat := by
      rcases Nat.lt_or_ge i hi.toNat with h | h
      · exact h
      · rw [List.getElem?_eq_none (by rw [List.length_take]; omega)] at hx; cases hx
    rw [List.getElem?_take_of_lt hi2] at hx
    have := hel.2 i x hx
    have hlt : i * Rep.n α + Rep.n α ≤ hi.toNat * Rep.n α := by rw [← Nat.succ_mul]; exact Nat.mul_le_mul_right _ hi2
    rw [List.drop_take, List.take_take]
    rw [Nat.min_eq_left (by omega)]
    exact this
theorem yl_cut_hO {α : Type} [Rep α] {e e2 : TypeId} {L : List Value} {w2 : World} {v : Value} {xs ys : List α} {k' : IntKind} {hi : Int} (hu : P.underlying T = some (.slice e)) (hz : Size P e (Rep.n α)) (hs : Own e2 L w2 v xs) (hc : cut xs 0 hi = some ys)
    (hx : evO n ρ x = v) (hh : evO n ρ z = .int k' hi) : Yl P n ρ ⟨d, .slice T x none (some z) none, t, p, af, gu⟩ w (cutv v 0 hi.toNat (Rep.n α)) :=
  yl_cut_h hu hz ((hs.sub (L' := []) (fun _ h => by cases h)).rd (fun b _ => Avoids.nil b)) hc hx hh
theorem Stepp.ren {L : List Value} {v v' : Value} (h : blk v' = blk v) : Stepp (v :: L) w (v' :: L) w := Stepp.swap (Chg.refl _ _) (fun b hb => .inl (by rw [← h]; exact hb))
theorem T0_gm {ops : Array Oper} {K : Env → World → Prop} {o : Oper} {os : List Oper} (Φ : Value → World → Prop) (V : Value) (b : Bool) (hw : Wanted ops o n ρ = b) (ht : b = true → Eff P o n ρ w (fun u w' => u = V ∧ ∃ v', Φ v' w')) (hf : b = false → ∃ v', Φ v' w)
    (h : ∀ v' w', Φ v' w' → T0 P n ops K os (updo ρ o.dst (gd b V)) w') : T0 P n ops K (o :: os) ρ w :=
  T0_ge b hw (fun hb => (ht hb).mono fun u w' ⟨hu, v', hv⟩ => by have := h v' w' hv; rw [gd_true hb] at this; rw [hu]; exact this)
    (fun hb => by obtain ⟨v', hv⟩ := hf hb; have := h v' w hv; rw [gd_false hb] at this; exact this)
end
end Go.Gw
