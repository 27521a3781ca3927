/- What the printed walks use besides: eliminations, calls' operands, loops without a bound, drawing regions, results. No condition. -/
import Derived.Test.YtglaeocolbnpdaaGreatGwOps4
import Derived.KernelRfl
namespace Go.Gw
open Go

abbrev w64 (x : Int) : Int := IntKind.wrap .i64 x

theorem cond_t {α : Type} {b : Bool} {x y z : α} (hb : b = true) (h : cond b x y = z) : x = z := by subst hb; exact h
theorem cond_f {α : Type} {b : Bool} {x y z : α} (hb : b = false) (h : cond b x y = z) : y = z := by subst hb; exact h
theorem bind_elim {α β : Type} {e : Option α} {f : α → Option β} {r : β} (h : e.bind f = some r) : ∃ x, e = some x ∧ f x = some r := by
  cases e with
  | none => cases h
  | some x => exact ⟨x, rfl, h⟩

noncomputable def loop {σ β : Type} (step : σ → Option (σ ⊕ β)) (s : σ) : Option β :=
  open Classical in if h : ∃ o, ∃ k, iter step k s = some o then some (Classical.choose h) else none

theorem iter_det {σ β : Type} {step : σ → Option (σ ⊕ β)} : ∀ {k k' : Nat} {s : σ} {o o' : β}, iter step k s = some o → iter step k' s = some o' → o = o'
  | 0, _, _, _, _, h, _ => by cases h
  | _ + 1, 0, _, _, _, _, h => by cases h
  | k + 1, k' + 1, s, o, o', h, h' => by
    simp only [iter] at h h'
    cases hs : step s with
    | none => simp [hs] at h
    | some x =>
      cases x with
      | inl s' => simp only [hs] at h h'; exact iter_det h h'
      | inr b => simp only [hs] at h h'; cases h; cases h'; rfl

theorem loop_iff {σ β : Type} {step : σ → Option (σ ⊕ β)} {s : σ} {o : β} : loop step s = some o ↔ ∃ k, iter step k s = some o := by
  classical
  unfold loop
  constructor
  · intro h
    split at h
    · rename_i hh
      obtain ⟨k, hk⟩ := Classical.choose_spec hh
      cases h
      exact ⟨k, hk⟩
    · cases h
  · rintro ⟨k, hk⟩
    have hh : ∃ o, ∃ k, iter step k s = some o := ⟨o, k, hk⟩
    rw [dif_pos hh]
    obtain ⟨k', hk'⟩ := Classical.choose_spec hh
    rw [iter_det hk' hk]

theorem loop_inl {σ β : Type} {step : σ → Option (σ ⊕ β)} {s s' : σ} (h : step s = some (.inl s')) : loop step s = loop step s' := by
  apply Option.ext
  intro o
  rw [loop_iff, loop_iff]
  constructor
  · rintro ⟨k, hk⟩
    cases k with
    | zero => cases hk
    | succ k => simp only [iter, h] at hk; exact ⟨k, hk⟩
  · rintro ⟨k, hk⟩
    exact ⟨k + 1, by simp only [iter, h]; exact hk⟩
theorem loop_inr {σ β : Type} {step : σ → Option (σ ⊕ β)} {s : σ} {o : β} (h : step s = some (.inr o)) : loop step s = some o := by
  rw [loop_iff]; exact ⟨1, by simp only [iter, h]⟩

section
variable {P : Program} {n : Nat} {q : Post} {ρ : Env} {w : World}

theorem WC_loopw {c : Code} {σ β : Type} {step : σ → Option (σ ⊕ β)} {s : σ} {o : β} (I : σ → Env → World → Prop) (h : loop step s = some o) (h0 : I s ρ w)
    (round : ∀ s ρ w, I s ρ w → ∀ x, step s = some x → (∀ y, x = .inr y → y = o) → WC P n c ⟨fun ρ w => ∃ s', x = .inl s' ∧ I s' ρ w, q.ex, q.ret⟩ ρ w) : WC P n (.loop c) q ρ w := by
  obtain ⟨k, hk⟩ := loop_iff.1 h
  refine WC_loop (step := step) (k := k) (s := s) (o := o) I hk h0 fun s ρ w hI => ⟨fun s' hs => ?_, fun hs => ?_⟩
  · exact (round s ρ w hI _ hs (fun y hy => by cases hy)).mono (fun ρ w ⟨s'', he, hI'⟩ => by cases he; exact hI') (fun _ _ _ h => h) (fun _ _ h => h)
  · exact (round s ρ w hI _ hs (fun y hy => by cases hy; rfl)).mono (fun ρ w ⟨s'', he, _⟩ => by cases he) (fun _ _ _ h => h) (fun _ _ h => h)

theorem T0_ges {ops : Array Oper} {K : Env → World → Prop} {o : Oper} {os : List Oper} (b : Bool) (V : Value) (hw : Wanted ops o n ρ = b) (ht : b = true → Eff P o n ρ w (fun v w' => v = V ∧ Ext w w'))
    (h : ∀ w', Ext w w' → T0 P n ops K os (updo ρ o.dst (gd b V)) w') : T0 P n ops K (o :: os) ρ w :=
  T0_ge b hw (fun hb => (ht hb).mono fun v w' ⟨hv, he⟩ => by have := h w' he; rw [gd_true hb] at this; rw [hv]; exact this)
    (fun hb => by have := h w (Chg.refl _ _); rw [gd_false hb] at this; exact this)
section ev
variable {x1 x2 x3 x4 x5 x6 x7 x8 : Operand} {v1 v2 v3 v4 v5 v6 v7 v8 : Value}
theorem ev0 : ((#[] : Array Operand).map (evO n ρ)).toList = [] := by simp
theorem ev1 (h1 : evO n ρ x1 = v1) : (#[x1].map (evO n ρ)).toList = [v1] := by subst h1; simp
theorem ev2 (h1 : evO n ρ x1 = v1) (h2 : evO n ρ x2 = v2) : (#[x1, x2].map (evO n ρ)).toList = [v1, v2] := by subst h1 h2; simp
theorem ev3 (h1 : evO n ρ x1 = v1) (h2 : evO n ρ x2 = v2) (h3 : evO n ρ x3 = v3) : (#[x1, x2, x3].map (evO n ρ)).toList = [v1, v2, v3] := by subst h1 h2 h3; simp
theorem ev4 (h1 : evO n ρ x1 = v1) (h2 : evO n ρ x2 = v2) (h3 : evO n ρ x3 = v3) (h4 : evO n ρ x4 = v4) : (#[x1, x2, x3, x4].map (evO n ρ)).toList = [v1, v2, v3, v4] := by subst h1 h2 h3 h4; simp
end ev

variable {d : Option Nat} {t T U : TypeId} {p : String} {af : Array Edge} {gu : Option (Nat × Bool)} {x y z : Operand}
theorem yl_fa {fs : Array Field} {i : Nat} {f : Field} {a : Addr} {v : Value} (off : Nat) (hu : P.underlying T = some (.struct fs)) (hf : fs[i]? = some f) (ho : f.offset = off) (hs : ∃ k, Size P f.type (k + 1)) (hx : evO n ρ x = .pointer (some a))
    (hv : v = .pointer (some (a.add off))) : Yl P n ρ ⟨d, .fieldAddr T x i, t, p, af, gu⟩ w v := by
  subst hv; subst ho
  obtain ⟨k, hs⟩ := hs
  exact yl_fieldAddr hu hf hs hx

theorem run_loadVarA {a : Addr} {cs : List Value} (hT : Aggr P T cs.length) (hat : At w a cs) : (loadVar T a).run P w = .ok (.agg cs.toArray) w := by
  simp [loadVar, run_isAgg_yes hT, run_sizeOf hT.size, run_loadCells_list w a cs hat.2]
theorem run_loadVarS {a : Addr} {v : Value} {cs : List Value} (hT : Scalar P T) (hat : At w a (v :: cs)) : (loadVar T a).run P w = .ok v w := by
  have h0 := hat.2 0 v rfl
  have e : a.add 0 = a := by simp [Addr.add]
  rw [e] at h0
  simp [loadVar, run_isAgg_no hT, h0]

def LtL (L : List Value) (w : World) : Prop := ∀ h ∈ L, ∀ b, blk h = some b → b < w.heap.size
theorem LtL.chg {L H : List Value} {w w' : World} (h : LtL L w) (c : Chg H w w') : LtL L w' := fun x hx b hb => Nat.lt_of_lt_of_le (h x hx b hb) c.size
theorem LtL.nil (w : World) : LtL [] w := fun _ h => by cases h
theorem LtL.cons {L : List Value} {w : World} {v : Value} (h : LtL L w) (hv : ∀ b, blk v = some b → b < w.heap.size) : LtL (v :: L) w := fun x hx b hb => by
  rcases List.mem_cons.1 hx with rfl | hx
  · exact hv b hb
  · exact h x hx b hb

theorem Own.sub {α : Type} [Rep α] {e : TypeId} {L L' : List Value} {v : Value} {xs : List α} (h : Own e L w v xs) (hs : ∀ x ∈ L', x ∈ L) : Own e L' w v xs := h.step (Stepp.sub w hs) (Chg.refl [] w) (fun _ _ => Avoids.nil _)
theorem SlRd.sub {α : Type} [Rep α] {L L' : List Value} {v : Value} {xs : List α} (h : SlRd L w v xs) (hs : ∀ x ∈ L', x ∈ L) : SlRd L' w v xs := h.step (Stepp.sub w hs)
theorem Own.rdL {α : Type} [Rep α] {e : TypeId} {L L0 : List Value} {w0 : World} {v : Value} {xs : List α} (h : Own e L w v xs) (hs : ∀ x ∈ L0, x ∈ L) (hL : LtL L0 w0) (hf : ∀ b, blk v = some b → w0.heap.size ≤ b) : SlRd L0 w v xs :=
  (h.sub hs).rd (fun b hb x hx e => by have := hL x hx b e; have := hf b hb; omega)
theorem avoid1 {v : Value} {b : Nat} (h : blk v ≠ some b) : Avoids [v] b := fun x hx e => by rcases List.mem_singleton.1 hx with rfl; exact h e
theorem avoidb {b b' : Nat} (h : b' ≠ b) : Avoids [.pointer (some ⟨b', 0, none⟩)] b := fun x hx e => by rcases List.mem_singleton.1 hx with rfl; simp [blk] at e; exact h e
end
end Go.Gw
namespace Go.Gw
section
variable {P : Program} {n : Nat} {q : Post} {ρ : Env} {w : World}
theorem WC_loopk {c : Code} {σ β : Type} {step : σ → Option (σ ⊕ β)} {s : σ} {o : β} (I : σ → Env → World → Prop) (h : loop step s = some o) (h0 : I s ρ w)
    (round : ∀ s ρ w, I s ρ w → ∀ x, step s = some x → (∀ y, x = .inr y → y = o) → ∀ K : Env → World → Prop, (∀ s' ρ w, x = .inl s' → I s' ρ w → K ρ w) → WC P n c ⟨K, q.ex, q.ret⟩ ρ w) : WC P n (.loop c) q ρ w :=
  WC_loopw I h h0 fun s ρ w hI x hx ho => round s ρ w hI x hx ho _ fun s' _ _ he hI' => ⟨s', he, hI'⟩
theorem sub_cons {α : Type} {a : α} {L L' : List α} (h : a ∈ L') (hs : ∀ x ∈ L, x ∈ L') : ∀ x ∈ a :: L, x ∈ L' := fun x hx => by
  rcases List.mem_cons.1 hx with rfl | hx
  · exact h
  · exact hs x hx
theorem sub_refl {α : Type} (L : List α) : ∀ x ∈ L, x ∈ L := fun _ h => h
theorem sub_skip {α : Type} {a : α} {L L' : List α} (hs : ∀ x ∈ L, x ∈ L') : ∀ x ∈ L, x ∈ a :: L' := fun x hx => List.mem_cons_of_mem _ (hs x hx)
theorem mem0 {α : Type} {a : α} {L : List α} : a ∈ a :: L := List.mem_cons_self ..
theorem memS {α : Type} {a b : α} {L : List α} (h : a ∈ L) : a ∈ b :: L := List.mem_cons_of_mem _ h
end
end Go.Gw
namespace Go.Gw
def jn0 {β μ : Type} (o : β ⊕ μ) (f : μ → Option β) : Option β := match o with | .inl b => some b | .inr m => f m
def jn1 {σ β μ μ' : Type} (o : β ⊕ μ) (f : μ → Option (σ ⊕ (β ⊕ μ'))) : Option (σ ⊕ (β ⊕ μ')) := match o with | .inl b => some (.inr (.inl b)) | .inr m => f m
def jn2 {β μ μ' : Type} (o : β ⊕ μ) (f : μ → Option (β ⊕ μ')) : Option (β ⊕ μ') := match o with | .inl b => some (.inl b) | .inr m => f m
theorem jn0_inl {β μ : Type} {a : β} {f : μ → Option β} {x : β} (h : jn0 (.inl a) f = some x) : some a = some x := h
theorem jn0_inr {β μ : Type} {a : μ} {f : μ → Option β} {x : β} (h : jn0 (.inr a) f = some x) : f a = some x := h
section
variable {α : Type} [Rep α] {w w' : World}
theorem ne_new_box {e : TypeId} {L : List Value} {v : Value} {xs : List α} {b : Nat} (h : Own e L w v xs) (hb : b = w.heap.size) : blk v ≠ some b := fun e => by have := h.blk_lt e; omega
theorem ne_swap {v v' : Value} {b : Nat} {cs : List Value} {T : TypeId} (hbl : ∀ b, blk v' = some b → blk v = some b ∨ w.heap.size ≤ b) (h : blk v ≠ some b) (hB : Box w b cs T) : blk v' ≠ some b := fun e => by
  rcases hbl b e with h1 | h1
  · exact h h1
  · have := hB.lt; omega
theorem dj_swap {e : TypeId} {L : List Value} {u v v' : Value} {xs : List α} (hbl : ∀ b, blk v' = some b → blk v = some b ∨ w.heap.size ≤ b) (h : ∀ b, blk u = some b → blk v ≠ some b) (hu : Own e L w u xs) : ∀ b, blk u = some b → blk v' ≠ some b := fun b hb e => by
  rcases hbl b e with h1 | h1
  · exact h b hb h1
  · have := hu.blk_lt hb; omega
theorem fresh_swap {v v' : Value} {w0 : World} (hbl : ∀ b, blk v' = some b → blk v = some b ∨ w.heap.size ≤ b) (h : ∀ b, blk v = some b → w0.heap.size ≤ b) (hs : w0.heap.size ≤ w.heap.size) : ∀ b, blk v' = some b → w0.heap.size ≤ b := fun b hb => by
  rcases hbl b hb with h1 | h1
  · exact h b h1
  · omega
theorem dj_symm {u v : Value} (h : ∀ b, blk u = some b → blk v ≠ some b) : ∀ b, blk v = some b → blk u ≠ some b := fun b hb e => h b e hb
theorem blk_nil (b : Nat) {p : Prop} (h : blk (.slice none 0 0) = some b) : p := by cases h
theorem av_own {v : Value} {u : Value} (h : ∀ b, blk u = some b → blk v ≠ some b) : ∀ b, blk u = some b → Avoids [v] b := fun b hb => avoid1 (h b hb)
theorem av_box {v : Value} {b : Nat} (h : blk v ≠ some b) : ∀ k, blk v = some k → Avoids [.pointer (some ⟨b, 0, none⟩)] k := fun k hk => avoidb (fun e => h (by rw [e]; exact hk))
theorem chg_own {v : Value} {w0 : World} (h : Ext w0 w) (c : Chg [v] w w') (hf : ∀ b, blk v = some b → w0.heap.size ≤ b) : Ext w0 w' := Chg.fresh h c (fun x hx n e => by rcases List.mem_singleton.1 hx with rfl; exact hf n e)
theorem chg_box {b : Nat} {w0 : World} (h : Ext w0 w) (c : Chg [.pointer (some ⟨b, 0, none⟩)] w w') (hf : w0.heap.size ≤ b) : Ext w0 w' := Chg.fresh h c (fun x hx n e => by rcases List.mem_singleton.1 hx with rfl; simp [blk] at e; omega)
end
end Go.Gw
namespace Go.Gw
def app {α : Type} (xs ys : List α) : Option (List α) := if xs.length + ys.length ≤ 1073741824 then some (xs ++ ys) else none
theorem app_some {α : Type} {xs ys zs : List α} (h : app xs ys = some zs) : xs.length + ys.length ≤ 1073741824 ∧ zs = xs ++ ys := by
  unfold app at h
  split at h
  · rename_i hc; exact ⟨hc, by cases h; rfl⟩
  · cases h
def quo (a b : Int) : Option Int := if b = 0 then none else some (w64 (a.tdiv b))
def rem (a b : Int) : Option Int := if b = 0 then none else some (a.tmod b)
theorem quo_some {a b c : Int} (h : quo a b = some c) : b ≠ 0 ∧ c = w64 (a.tdiv b) := by
  unfold quo at h; split at h
  · cases h
  · rename_i hb; exact ⟨hb, by cases h; rfl⟩
theorem rem_some {a b c : Int} (h : rem a b = some c) : b ≠ 0 ∧ c = a.tmod b := by
  unfold rem at h; split at h
  · cases h
  · rename_i hb; exact ⟨hb, by cases h; rfl⟩

section
variable {P : Program} {n : Nat} {ρ : Env} {w : World}
variable {d : Option Nat} {t T U : TypeId} {p : String} {af : Array Edge} {gu : Option (Nat × Bool)} {x y z : Operand}
theorem yl_quo' {a b c : Int} (h : quo a b = some c) (hx : evO n ρ x = .int .i64 a) (hy : evO n ρ y = .int .i64 b) : Yl P n ρ ⟨d, .binOp .quo T x y U, t, p, af, gu⟩ w (.int .i64 c) := by
  obtain ⟨hb, rfl⟩ := quo_some h; exact yl_quo hb hx hy
theorem yl_rem' {a b c : Int} (h : rem a b = some c) (hx : evO n ρ x = .int .i64 a) (hy : evO n ρ y = .int .i64 b) : Yl P n ρ ⟨d, .binOp .rem T x y U, t, p, af, gu⟩ w (.int .i64 c) := by
  obtain ⟨hb, rfl⟩ := rem_some h; exact yl_rem hb hx hy

theorem eff_buildT {α : Type} [Rep α] {e : TypeId} {bytes : Nat} {z : Value} {L : List Value} {len : Nat} {xs : List α} {cells : List Value} {parts : Array (Nat × Operand)} {K : Value → World → Prop}
    (hu : P.underlying T = some (.slice e)) (hi : EInfo P e (Rep.n α) bytes z) (hsmall : Nat.ble (len * Rep.n α) 16777216 = true)
    (hf : fillL (fun i => some (i * Rep.n α, Rep.n α)) (zerosL z.cells.toList (len * Rep.n α)) (parts.toList.map fun q => (q.1, evO n ρ q.2)) = some cells)
    (hel : Elems L w cells xs) (hl : xs.length = len) (hlt : LtL L w)
    (h : ∀ b w', Ext w w' → SlRd L w' (.slice (some ⟨b, 0, none⟩) len len) xs → K (.slice (some ⟨b, 0, none⟩) len len) w') : Eff P ⟨d, .buildSlice T len parts, t, p, af, gu⟩ n ρ w K :=
  eff_buildSlice hu hi hsmall hf hel hl fun b w' hb he _ ho _ => h b w' he (ho.rd fun k hk x hx e => by
    have := hlt x hx k e
    simp [blk] at hk; omega)

theorem eff_buildO {α : Type} [Rep α] {e : TypeId} {bytes : Nat} {z : Value} {L : List Value} {len : Nat} {xs : List α} {cells : List Value} {parts : Array (Nat × Operand)} {K : Value → World → Prop}
    (hu : P.underlying T = some (.slice e)) (hi : EInfo P e (Rep.n α) bytes z) (hsmall : Nat.ble (len * Rep.n α) 16777216 = true)
    (hf : fillL (fun i => some (i * Rep.n α, Rep.n α)) (zerosL z.cells.toList (len * Rep.n α)) (parts.toList.map fun q => (q.1, evO n ρ q.2)) = some cells)
    (hel : Elems L w cells xs) (hl : xs.length = len)
    (h : ∀ v w', Ext w w' → (∀ b, blk v = some b → w.heap.size ≤ b) → Own e (v :: L) w' v xs → K v w') : Eff P ⟨d, .buildSlice T len parts, t, p, af, gu⟩ n ρ w K :=
  eff_buildSlice hu hi hsmall hf hel hl fun _ w' hb he _ _ ho => h _ w' he (fun k hk => by simp [blk] at hk; omega) ho

theorem eff_app {α : Type} [Rep α] {e : TypeId} {bytes : Nat} {zz : Value} {L : List Value} {v vx : Value} {xs ys zs : List α} {K : Value → World → Prop} {aT : Array TypeId}
    (hu : P.underlying T = some (.slice e)) (hi : EInfo P e (Rep.n α) bytes zz) (hbm : Nat.ble bytes 65536 = true) (hT : aT = #[T, T]) (hx : evO n ρ x = v) (hy : evO n ρ y = vx) (hown : Own e (v :: L) w v xs) (hs : SlRd (v :: L) w vx ys)
    (hz : app xs ys = some zs)
    (h : ∀ v' w', Chg [v] w w' → (∀ b, blk v' = some b → blk v = some b ∨ w.heap.size ≤ b) → Own e (v' :: L) w' v' zs → K v' w') : Eff P ⟨d, .call ⟨.builtin .append, #[x, y], aT⟩, t, p, af, gu⟩ n ρ w K := by
  obtain ⟨hb, rfl⟩ := app_some hz
  have hbm : bytes ≤ 65536 := by simpa using hbm
  have : (xs.length + ys.length) * bytes ≤ 1073741824 * 65536 := Nat.mul_le_mul hb hbm
  exact eff_append hu hi hT hx hy hown hs (by omega) (by unfold maxLen; omega) h
end
end Go.Gw
namespace Go.Gw
section
variable {P : Program} {n : Nat} {ρ : Env} {w : World}
variable {d : Option Nat} {t T U : TypeId} {p : String} {af : Array Edge} {gu : Option (Nat × Bool)} {x y z : Operand}
theorem not_t {b : Bool} (h : b = false) : (!b) = true := by subst h; rfl
theorem yl_lenR {α : Type} [Rep α] {e : TypeId} {L : List Value} {w2 : World} {v : Value} {xs : List α} {aT : Array TypeId} (hT : aT[0]? = some T) (hu : P.underlying T = some (.slice e)) (hs : SlRd L w2 v xs) (hx : evO n ρ x = v) :
    Yl P n ρ ⟨d, .call ⟨.builtin .len, #[x], aT⟩, t, p, af, gu⟩ w (.int .i64 xs.length) := by
  obtain ⟨a, c, rfl, _⟩ := hs.shape; exact yl_lenS hT hu hx
structure ZI (P : Program) (T : TypeId) (cs : List Value) : Prop where
  ex : ∃ i z, P.info? T = some i ∧ i.zero = some z ∧ z.cells.toList = cs
theorem eff_allocZ {cs : List Value} {K : Value → World → Prop} (hZ : ZI P T cs)
    (h : ∀ b w', b = w.heap.size → Ext w w' → Box w' b cs T → K (.pointer (some ⟨b, 0, none⟩)) w') : Eff P ⟨d, .alloc T, t, p, af, gu⟩ n ρ w K := by
  obtain ⟨i, z, hi, hz, hc⟩ := hZ.ex
  exact eff_alloc hi hz fun b w' hb he _ hB => h b w' hb he (hc ▸ hB)
theorem eff_boxC {v : Value} {cs : List Value} {K : Value → World → Prop} (hx : evO n ρ x = v) (hc : v.cells.toList = cs)
    (h : ∀ b w', b = w.heap.size → Ext w w' → Box w' b cs T → K (.pointer (some ⟨b, 0, none⟩)) w') : Eff P ⟨d, .box T x, t, p, af, gu⟩ n ρ w K :=
  eff_box hx fun b w' hb he _ hB => h b w' hb he (hc ▸ hB)
theorem eff_storeC {v : Value} {b off : Nat} {cs cs' vs : List Value} {T' : TypeId} {K : Value → World → Prop} {k : Nat} (hs : Size P T k) (hv : v.cells.toList = vs) (hk : vs.length = k) (hx : evO n ρ x = .pointer (some ⟨b, off, none⟩)) (hy : evO n ρ y = v)
    (hb : Box w b cs T') (hl : Nat.ble (off + k) cs.length = true) (h1 : ∀ u ∈ vs, u.oneCell' = true) (hcs : setAt cs off vs = cs')
    (h : ∀ w', Chg [.pointer (some ⟨b, 0, none⟩)] w w' → Box w' b cs' T' → K undef w') : Eff P ⟨d, .store T x y, t, p, af, gu⟩ n ρ w K := by
  subst hv; subst hk; subst hcs
  have e : v.cells.toList.length = v.cells.size := by simp
  exact eff_store (by rw [← e]; exact hs) hx hy hb (by rw [← e]; simpa using hl) h1 h
theorem oc_nil : ∀ u ∈ ([] : List Value), u.oneCell' = true := fun _ h => by cases h
theorem oc_cons {v : Value} {vs : List Value} (h : v.oneCell' = true) (hs : ∀ u ∈ vs, u.oneCell' = true) : ∀ u ∈ v :: vs, u.oneCell' = true := fun u hu => by
  rcases List.mem_cons.1 hu with rfl | hu
  · exact h
  · exact hs u hu
theorem SlRd.one1 {α : Type} [Rep α] {L : List Value} {v : Value} {xs : List α} (h : SlRd L w v xs) : v.oneCell' = true := by obtain ⟨a, c, rfl, _⟩ := h.shape; rfl
theorem Own.one1 {α : Type} [Rep α] {e : TypeId} {L : List Value} {v : Value} {xs : List α} (h : Own e L w v xs) : v.oneCell' = true := by obtain ⟨a, c, rfl, _⟩ := h.shape; rfl
theorem add_box {L : List Value} {w' : World} {b : Nat} (he : Ext w w') (hb : b = w.heap.size) : Stepp L w (.pointer (some ⟨b, 0, none⟩) :: L) w' := Stepp.add _ he (fun k hk => by simp [blk] at hk; omega)
theorem add_nil {L : List Value} (w : World) : Stepp L w (.slice none 0 0 :: L) w := Stepp.add _ (Chg.refl [] _) (fun _ h => by cases h)
theorem box_ne {b b' : Nat} {cs : List Value} {T : TypeId} (h : Box w b' cs T) (hb : b = w.heap.size) : b ≠ b' := fun e => by have := h.lt; omega
theorem bfresh {w0 : World} {b : Nat} (h : Ext w0 w) (hb : b = w.heap.size) : w0.heap.size ≤ b := by rw [hb]; exact h.size

section
variable {i1 i2 i3 i4 i5 i6 i7 i8 i9 : Nat} {x1 x2 x3 x4 x5 x6 x7 x8 x9 : Operand} {v1 v2 v3 v4 v5 v6 v7 v8 v9 : Value}
end
end
end Go.Gw
