/- Laws of the walk. Condition: each theorem says its own. -/
import Derived.Test.YtbplgfhjpeeieaaGwAwake
set_option linter.unusedVariables false
set_option linter.unusedSimpArgs false
set_option linter.unusedSectionVars false
section
set_option maxRecDepth 4096
namespace Go.Gw
open Go
theorem Qkm {xs : List Int} {f : Int → Int} (hf : ∀ x, -20000 ≤ x ∧ x ≤ 20000 → 0 ≤ f x ∧ f x ≤ 20000000000) (hx : ∀ x ∈ xs, -20000 ≤ x ∧ x ≤ 20000) : 0 ≤ (xs.map f).sum ∧ (xs.map f).sum ≤ 20000000000 * (xs.length : Int) := by
  induction xs with
  | nil => simp
  | cons x xs ih =>
    have h1 := ih fun y hy => hx y (List.mem_cons_of_mem _ hy)
    have h2 := hf x (hx x List.mem_cons_self)
    rw [List.map_cons, List.sum_cons, List.length_cons]; omega
theorem QAd {xs : List Int} {f : Int → Int} {k : Nat} (hk : k < xs.length) : ((xs.take (k + 1)).map f).sum = ((xs.take k).map f).sum + f xs[k] := by
  rw [List.take_add_one, List.getElem?_eq_getElem hk, List.map_append, List.sum_append]; simp
theorem QNn {xs : List Int} (hx : ∀ x ∈ xs, -20000 ≤ x ∧ x ≤ 20000) (hl : xs.length ≤ 8) {u b : Int} (hu : -1000000000000000000 ≤ u ∧ u ≤ 1000000000000000000) (hb : -1000000000000000000 ≤ b ∧ b ≤ 1000000000000000000) :
    loop (Qfw xs) (0, u, b) = some (u + (xs.map fU).sum, b + (xs.map fB).sum) := by
  have key := Z8 (step := Qfw xs) (o := (u + (xs.map fU).sum, b + (xs.map fB).sum)) (fun k => ((k : Int), u + ((xs.take k).map fU).sum, b + ((xs.take k).map fB).sum)) xs.length (fun k hk => by
    have hT : ∀ x ∈ xs.take k, -20000 ≤ x ∧ x ≤ 20000 := fun x h => hx x (List.mem_of_mem_take h)
    have b1 := Qkm (f := fU) (fun x h => Qes h) hT
    have b2 := Qkm (f := fB) (fun x h => Qeq h) hT
    have bx := hx _ (List.getElem_mem hk)
    have hlk : (xs.take k).length ≤ 8 := by rw [List.length_take]; omega
    rw [QAd hk, QAd hk]
    unfold Qfw
    simp only [X7 hk, cond_true, X0 hk, QF]
    rw [Xy (x := xs[k] * 1000000) (by omega), X6 k (by omega), Xy (x := u + ((xs.take k).map fU).sum + xs[k] * 1000000) (by omega), Xy (x := b + ((xs.take k).map fB).sum - xs[k] * 1000000) (by omega)]
    by_cases hp : 0 < xs[k]
    · have e1 : fU xs[k] = xs[k] * 1000000 := by unfold fU YG; rw [if_neg (by omega)]; omega
      have e2 : fB xs[k] = 0 := by unfold fB YG; rw [if_pos (by omega)]; rfl
      rw [decide_eq_true hp, cond_true, e1, e2, Int.add_zero, Int.add_assoc]
    · have e1 : fU xs[k] = 0 := by
        unfold fU YG; split
        · rfl
        · omega
      have e2 : fB xs[k] = -(xs[k] * 1000000) := by unfold fB YG; rw [if_neg (by omega)]; omega
      rw [decide_eq_false hp, cond_false, e1, e2, Int.add_zero, Int.sub_eq_add_neg, Int.add_assoc]) (by
    unfold Qfw
    simp only [X8, cond_false, List.take_length])
  simpa using key
theorem QNo {n : FeedNet} (hn : n.Stations.length ≤ 6) {s : FeedSection} (hs : JH s) {d : Int} (hd : -240000000 ≤ d ∧ d ≤ 240000000) (hneg : d < 0) {u b : Int} (hu : -1000000000000000000 ≤ u ∧ u ≤ 1000000000000000000) (hb : -1000000000000000000 ≤ b ∧ b ≤ 1000000000000000000) :
    loop (Qfx s n d) (0, u, b) = some (u + Q0 (gK n s d true) n.Stations.length, b + Q0 (gK n s d false) n.Stations.length) := by
  have key := Z8 (step := Qfx s n d) (o := (u + Q0 (gK n s d true) n.Stations.length, b + Q0 (gK n s d false) n.Stations.length)) (fun k => ((k : Int), u + Q0 (gK n s d true) k, b + Q0 (gK n s d false) k)) n.Stations.length (fun k hk => by
    have b1 := Y2 (fun j => Qfn n hs hd true j) k
    have b2 := Y2 (fun j => Qfn n hs hd false j) k
    have hm := Qdl (a := d) (b := ZX s (k : Int)) (m := 240000000) (n := 1000) hd (Qpl hs k)
    have e0 : ZX s (k : Int) * YG (-d) = -(d * ZX s (k : Int)) := by unfold YG; rw [if_neg (by omega), Int.mul_neg, Int.mul_comm]
    unfold Qfx
    simp only [X7 hk, cond_true, X0 hk, QF]
    rw [Qxr hs, QF, QF, Xy (x := d * ZX s (k : Int)) (by omega), X6 k (by omega)]
    simp only [Q0, Qvn n s d _ hk, e0]
    cases n.Stations[k].Takes with
    | true =>
      rw [cond_true, Xy (by omega), if_pos rfl, if_neg (by decide), Int.sub_eq_add_neg, Int.add_assoc, Int.add_zero]
    | false =>
      rw [cond_false, Xy (by omega), if_pos rfl, if_neg (by decide), Int.sub_eq_add_neg, Int.add_assoc, Int.add_zero]) (by
    unfold Qfx
    simp only [X8, cond_false])
  simpa [Q0] using key
/-! ### What is drawn, section by section or train by train -/
theorem QAc (a v : Int) (ha : 0 ≤ a) : ∀ k : Nat, Q0 (fun j => if a = (j : Int) then v else 0) k = if a < (k : Int) then v else 0
  | 0 => by simp only [Q0]; rw [if_neg (by omega)]
  | k + 1 => by
    simp only [Q0]; rw [QAc a v ha k]
    by_cases h1 : a < (k : Int)
    · rw [if_pos h1, if_neg (by omega), if_pos (by omega)]; omega
    · rw [if_neg h1]
      by_cases h2 : a = (k : Int)
      · rw [if_pos h2, if_pos (by omega)]; omega
      · rw [if_neg h2, if_neg (by omega)]; rfl
theorem QQs {f : Int → Int} (f0 : f 0 = 0) {m : Nat} {r : feed_run} (h : Zb m r) (t : Int) : Q0 (fun j => ((pd t j r).map f).sum) m = f (YH t r) := by
  by_cases hin : 0 ≤ t - r.at_ ∧ t - r.at_ ≤ (r.FeedTrain.Steps.length : Int) - 1
  · have hk : (t - r.at_).toNat < r.FeedTrain.Steps.length := by omega
    have hb := h.1 _ (List.getElem_mem hk)
    have e : (fun j : Nat => ((pd t j r).map f).sum) = fun j : Nat => if r.FeedTrain.Steps[(t - r.at_).toNat].Section = (j : Int) then f r.FeedTrain.Steps[(t - r.at_).toNat].Power else 0 := by
      funext j
      unfold pd
      rw [if_pos hin, List.getElem?_eq_getElem hk]
      simp only []
      by_cases hj : r.FeedTrain.Steps[(t - r.at_).toNat].Section = (j : Int)
      · rw [if_pos hj, if_pos hj]; simp
      · rw [if_neg hj, if_neg hj]; rfl
    rw [e, QAc _ _ hb.1, if_pos (by omega)]
    unfold YH
    rw [if_pos hin, List.getElem?_eq_getElem hk]
  · rw [Qck (fun j => by unfold pd; rw [if_neg hin]; rfl)]
    unfold YH
    rw [if_neg hin, f0]
theorem Qpy {f : Int → Int} (f0 : f 0 = 0) {m : Nat} (t : Int) : ∀ {R : List feed_run}, (∀ r ∈ R, Zb m r) → Q0 (fun j => ((R.flatMap (pd t j)).map f).sum) m = fR f R t
  | [], _ => Qck (g := fun j => ((([] : List feed_run).flatMap (pd t j)).map f).sum) (fun _ => rfl) m
  | r :: R, h => by
    have e : (fun j : Nat => (((r :: R).flatMap (pd t j)).map f).sum) = fun j : Nat => ((pd t j r).map f).sum + ((R.flatMap (pd t j)).map f).sum := by
      funext j; rw [List.flatMap_cons, List.map_append, List.sum_append]
    rw [e, QAb, QQs f0 (h r List.mem_cons_self), Qpy f0 t fun r hr => h r (List.mem_cons_of_mem _ hr)]
    unfold fR
    rw [List.map_cons, List.sum_cons]
theorem fU0 : fU 0 = 0 := rfl
theorem fB0 : fB 0 = 0 := rfl
theorem Qvo {n : FeedNet} {w : Bool} {s : FeedSection} {d : Int} (hd : 0 ≤ d) : Q0 (gK n s d w) n.Stations.length = 0 := by
  refine Qck (fun k => ?_) _
  unfold gK
  have e : YG (-d) = 0 := by
    unfold YG; split
    · rfl
    · omega
  cases n.Stations[k]? with
  | none => rfl
  | some st => simp [e]
section
variable {n : FeedNet} {l : List FeedDeparture} (h : Rt n l)
include h
theorem QNp {t : Int} (ht : 0 ≤ t) (ht2 : t ≤ 100000) {f u b lo bk bu : Int} (hf : -100000000000000000 ≤ f ∧ f ≤ 100000000000000000) (hu : -100000000000000000 ≤ u ∧ u ≤ 100000000000000000) (hb : -100000000000000000 ≤ b ∧ b ≤ 100000000000000000)
    (hlo : -100000000000000000 ≤ lo ∧ lo ≤ 100000000000000000) (hbk : -100000000000000000 ≤ bk ∧ bk ≤ 100000000000000000) (hbu : -100000000000000000 ≤ bu ∧ bu ≤ 100000000000000000) :
    loop (Qfy n l t) (0, f, u, b, lo, bk, bu) = some (f + Q0 (gF n (X9 (l.map (Xc n)) t)) n.Sections.length, u + fR fU (l.map (Xc n)) t, b + fR fB (l.map (Xc n)) t, lo + Q0 (gL n (X9 (l.map (Xc n)) t)) n.Sections.length,
      bk + Q0 (gW n true (X9 (l.map (Xc n)) t)) n.Sections.length, bu + Q0 (gW n false (X9 (l.map (Xc n)) t)) n.Sections.length) := by
  have hn := h.ne
  have h10 := hn.se10
  have hl8 : (l.map (Xc n)).length ≤ 8 := by rw [List.length_map]; have := h.l6; omega
  have hR := Qyd h
  have hP := Qox hn hR hl8 t
  rw [← Qpy fU0 t hR, ← Qpy fB0 t hR]
  have hxs : ∀ j : Nat, ∀ x ∈ (l.map (Xc n)).flatMap (pd t j), -20000 ≤ x ∧ x ≤ 20000 := fun j x hx => by
    obtain ⟨r, hr, hx⟩ := List.mem_flatMap.1 hx
    exact QMu (hR r hr) t j x hx
  have hxl : ∀ j : Nat, ((l.map (Xc n)).flatMap (pd t j)).length ≤ 8 := fun j => Nat.le_trans (Qnw t j _) hl8
  have bU : ∀ j : Nat, -160000000000 ≤ (((l.map (Xc n)).flatMap (pd t j)).map fU).sum ∧ (((l.map (Xc n)).flatMap (pd t j)).map fU).sum ≤ 160000000000 := fun j => by
    have := Qkm (f := fU) (fun x h => Qes h) (hxs j); have := hxl j; omega
  have bB : ∀ j : Nat, -160000000000 ≤ (((l.map (Xc n)).flatMap (pd t j)).map fB).sum ∧ (((l.map (Xc n)).flatMap (pd t j)).map fB).sum ≤ 160000000000 := fun j => by
    have := Qkm (f := fB) (fun x h => Qeq h) (hxs j); have := hxl j; omega
  generalize hPe : X9 (l.map (Xc n)) t = P at *
  have key := Z8 (step := Qfy n l t) (o := (f + Q0 (gF n P) n.Sections.length, u + Q0 (fun j => (((l.map (Xc n)).flatMap (pd t j)).map fU).sum) n.Sections.length, b + Q0 (fun j => (((l.map (Xc n)).flatMap (pd t j)).map fB).sum) n.Sections.length, lo + Q0 (gL n P) n.Sections.length, bk + Q0 (gW n true P) n.Sections.length, bu + Q0 (gW n false P) n.Sections.length))
    (fun k => ((k : Int), f + Q0 (gF n P) k, u + Q0 (fun j => (((l.map (Xc n)).flatMap (pd t j)).map fU).sum) k, b + Q0 (fun j => (((l.map (Xc n)).flatMap (pd t j)).map fB).sum) k, lo + Q0 (gL n P) k, bk + Q0 (gW n true P) k, bu + Q0 (gW n false P) k)) n.Sections.length (fun k hk => by
    have b1 := Y2 (fun j => Qfm hn hP j) k
    have b2 := Y2 (fun j => Qnz hn hP j) k
    have b3 := Y2 (fun j => Qdg hn hP true j) k
    have b4 := Y2 (fun j => Qdg hn hP false j) k
    have b5 := Y2 (fun j => bU j) k
    have b6 := Y2 (fun j => bB j) k
    have c2 := Qoj hn hP hk
    have hs := Qdr hn hP hk
    have hd := Qen hs (hP k)
    have hPk := hP k
    have cF := Qfm hn hP k
    have eF : gF n P k = 1000 * YG (Ze n.Sections[k] (P k)) := by unfold gF; rw [List.getElem?_eq_getElem hk]; rfl
    have eL : gL n P k = 1000 * n.Sections[k].Loss * ZL (P k) := by unfold gL; rw [List.getElem?_eq_getElem hk]; rfl
    have eW : ∀ w, gW n w P k = Q0 (gK n n.Sections[k] (Ze n.Sections[k] (P k)) w) n.Stations.length := by intro w; unfold gW; rw [List.getElem?_eq_getElem hk]; rfl
    have eL2 : ZL (P k) * n.Sections[k].Loss * 1000 = gL n P k := by rw [eL, Int.mul_comm (ZL (P k)), Int.mul_right_comm, Int.mul_comm _ (1000 : Int)]
    have eL3 : gL n P k = 1000 * (ZL (P k) * n.Sections[k].Loss) := by rw [← eL2, Int.mul_comm]
    rw [← eL] at c2
    unfold Qfy
    simp only [X7 hk, cond_true, X0 hk, QF]
    rw [QNg h.tr (by have := h.l6; omega) (fun d hd => (h.ru d hd).2) (fun d hd => (h.ru d hd).1) ht ht2, QF, QNn (hxs k) (hxl k) (by omega) (by omega), QF,
      QQr (c := 20000) (by omega) (by omega) (hxs k) (by have := hxl k; omega), QF, Qvl, hPe, QNf hs (hP k)]
    unfold Qlu
    rw [Xy (x := 0 - P k) (by omega), show (0 : Int) - P k = -P k by omega, show (if P k < -P k then -P k else P k) = ZL (P k) from rfl, QF, QF,
      Xy (x := ZL (P k) * n.Sections[k].Loss) (by omega), eL2, Xy (x := gL n P k) (by omega), Xy (x := lo + Q0 (gL n P) k + gL n P k) (by omega), Xy (x := Ze n.Sections[k] (P k) * 1000) (by omega), X6 k (by omega)]
    by_cases hpos : 0 ≤ Ze n.Sections[k] (P k)
    · have e1 : gF n P k = Ze n.Sections[k] (P k) * 1000 := by rw [eF]; unfold YG; rw [if_neg (by omega)]; omega
      rw [decide_eq_true hpos, cond_true, ← e1, Xy (x := f + Q0 (gF n P) k + gF n P k) (by omega)]
      simp only [Q0, Int.add_assoc, eW, Qvo hpos, Int.add_zero]
    · have e1 : gF n P k = 0 := by rw [eF]; unfold YG; rw [if_pos (by omega)]; rfl
      rw [decide_eq_false hpos, cond_false, QNo hn.st6 hs hd (by omega) (by omega) (by omega), QF]
      simp only [Q0, Int.add_assoc, eW, e1, Int.add_zero]) (by
    unfold Qfy
    simp only [X8, cond_false])
  simpa [Q0] using key
theorem QNb {x : Range} (h0 : 0 ≤ x.Lo) (h1 : x.Lo ≤ x.Hi) (h2 : x.Hi ≤ 1012) : Qjc n l x = some (Qct n (l.map (Xc n)) x.Lo (x.Hi - x.Lo + 1).toNat) := by
  have hn := h.ne
  have hl8 : (l.map (Xc n)).length ≤ 8 := by rw [List.length_map]; have := h.l6; omega
  have hR := Qyd h
  have key := Z8 (step := Qfz n x l) (o := (fun b : FeedBook => (b.Fed, b.Used, b.Braked, b.Lost, b.Back, b.Burned)) (Qct n (l.map (Xc n)) x.Lo (x.Hi - x.Lo + 1).toNat))
    (fun k => (x.Lo + (k : Int), Q0 (tk n (l.map (Xc n)) x.Lo 0) k, Q0 (tk n (l.map (Xc n)) x.Lo 1) k, Q0 (tk n (l.map (Xc n)) x.Lo 2) k, Q0 (tk n (l.map (Xc n)) x.Lo 3) k, Q0 (tk n (l.map (Xc n)) x.Lo 4) k, Q0 (tk n (l.map (Xc n)) x.Lo 5) k)) (x.Hi - x.Lo + 1).toNat (fun k hk => by
    have hb := fun q => Y2 (fun j => QAy hn hR hl8 x.Lo q j) k
    have b0 := hb 0
    have b1 := hb 1
    have b2 := hb 2
    have b3 := hb 3
    have b4 := hb 4
    have b5 := hb 5
    have hk2 : k ≤ 1012 := by omega
    unfold Qfz
    simp only []
    rw [decide_eq_true (show x.Lo + (k : Int) ≤ x.Hi by omega), cond_true, QCs h (by omega) (by omega), QF, Xy (x := x.Lo + (k : Int) + 1) (by omega), show x.Lo + (k : Int) + 1 = x.Lo + ((k + 1 : Nat) : Int) by omega]
    cases hany : (l.map (Xc n)).any fun r => onI r (x.Lo + (k : Int)) with
    | true =>
      simp only [Bool.not_true, cond_false]
      rw [QNp h (by omega) (by omega) (by omega) (by omega) (by omega) (by omega) (by omega) (by omega), QF]
      rfl
    | false =>
      have e := QIy hany
      have ed : ∀ s : FeedSection, Ze s 0 = 0 := fun s => by unfold Ze; rw [if_neg (by omega), Int.zero_mul]
      have z0 : tk n (l.map (Xc n)) x.Lo 0 k = 0 := by
        show Q0 (gF n (X9 (l.map (Xc n)) (x.Lo + (k : Int)))) n.Sections.length = 0
        rw [e]
        exact Qck (fun j => by unfold gF; cases n.Sections[j]? <;> simp [ed, YG]) _
      have z3 : tk n (l.map (Xc n)) x.Lo 3 k = 0 := by
        show Q0 (gL n (X9 (l.map (Xc n)) (x.Lo + (k : Int)))) n.Sections.length = 0
        rw [e]
        exact Qck (fun j => by unfold gL; cases n.Sections[j]? <;> simp [ZL]) _
      have zw : ∀ w, Q0 (gW n w fun _ => 0) n.Sections.length = 0 := fun w => Qck (fun j => by
        unfold gW
        cases n.Sections[j]? with
        | none => rfl
        | some s => simp only [Option.map_some, Option.getD_some, ed]; exact Qvo (Int.le_refl 0)) _
      have z4 : tk n (l.map (Xc n)) x.Lo 4 k = 0 := by
        show Q0 (gW n true (X9 (l.map (Xc n)) (x.Lo + (k : Int)))) n.Sections.length = 0
        rw [e]; exact zw true
      have z5 : tk n (l.map (Xc n)) x.Lo 5 k = 0 := by
        show Q0 (gW n false (X9 (l.map (Xc n)) (x.Lo + (k : Int)))) n.Sections.length = 0
        rw [e]; exact zw false
      have zr : ∀ f : Int → Int, f 0 = 0 → fR f (l.map (Xc n)) (x.Lo + (k : Int)) = 0 := fun f f0 => by
        unfold fR
        generalize l.map (Xc n) = R at hany
        induction R with
        | nil => rfl
        | cons r R ih =>
          rw [List.any_cons, Bool.or_eq_false_iff] at hany
          have ha := hany.1
          unfold onI at ha
          rw [Qdy, decide_eq_false_iff_not] at ha
          rw [List.map_cons, List.sum_cons, ih hany.2]
          unfold YH
          rw [if_neg ha, f0]; rfl
      have z1 : tk n (l.map (Xc n)) x.Lo 1 k = 0 := zr fU fU0
      have z2 : tk n (l.map (Xc n)) x.Lo 2 k = 0 := zr fB fB0
      simp only [Bool.not_false, cond_true, Q0, z0, z1, z2, z3, z4, z5, Int.add_zero]) (by
    unfold Qfz
    simp only []
    rw [decide_eq_false (by omega), cond_false]
    rfl)
  unfold Qjc
  have key2 : loop (Qfz n x l) (x.Lo, 0, 0, 0, 0, 0, 0) = some ((fun b : FeedBook => (b.Fed, b.Used, b.Braked, b.Lost, b.Back, b.Burned)) (Qct n (l.map (Xc n)) x.Lo (x.Hi - x.Lo + 1).toNat)) := by simpa [Q0] using key
  rw [key2, QF]
end
end Go.Gw

end
section
set_option maxRecDepth 4096
namespace Go.Gw
open Go
def XW (x : Int) : Prop := 0 ≤ x ∧ x ≤ 1000000000000000
instance (x : Int) : Decidable (XW x) := inferInstanceAs (Decidable (_ ∧ _))
theorem QCr (x : Int) : Y5 x = some (decide (XW x)) := by
  unfold Y5
  rw [Qan, QF, Qdy]; rfl
def ZJ (a : FeedBook) : Prop := XW a.Fed ∧ XW a.Used ∧ XW a.Braked ∧ XW a.Lost ∧ XW a.Back ∧ XW a.Burned
instance (a : FeedBook) : Decidable (ZJ a) := inferInstanceAs (Decidable (_ ∧ _))
def Ju (a b : FeedBook) : FeedBook := FeedBook.mk (a.Fed + b.Fed) (a.Used + b.Used) (a.Braked + b.Braked) (a.Lost + b.Lost) (a.Back + b.Back) (a.Burned + b.Burned)
def Zc : FeedBook := FeedBook.mk 0 0 0 0 0 0
def Qgy (a b : FeedBook) : FeedBook × Int := if ZJ a ∧ ZJ b then (if ZJ (Ju a b) then (Ju a b, 0) else (Zc, 8)) else (Zc, 2)
theorem QDe {α : Type} {x : Int} {a b : α} : (bif !decide (XW x) then a else b) = if XW x then b else a := by by_cases h : XW x <;> simp [h]
theorem JE {x y : Int} (hx : XW x) (hy : XW y) : w64 (x + y) = x + y := Xy (by unfold XW at *; omega)
theorem QEa (a b : FeedBook) : Qhx a b = some (Qgy a b) := by
  unfold Qhx Qde Qgy
  simp only [QF, QCr, QDe]
  by_cases h : ZJ a ∧ ZJ b
  · rw [if_pos h]
    obtain ⟨⟨a1, a2, a3, a4, a5, a6⟩, b1, b2, b3, b4, b5, b6⟩ := h
    simp only [a1, a2, a3, a4, a5, a6, b1, b2, b3, b4, b5, b6, if_true, JE]
    by_cases hs : ZJ (Ju a b)
    · rw [if_pos hs]
      obtain ⟨c1, c2, c3, c4, c5, c6⟩ := hs
      simp only [Ju] at c1 c2 c3 c4 c5 c6
      simp only [c1, c2, c3, c4, c5, c6, if_true, Ju]
    · rw [if_neg hs]
      by_cases c1 : XW (a.Fed + b.Fed)
      · by_cases c2 : XW (a.Used + b.Used)
        · by_cases c3 : XW (a.Braked + b.Braked)
          · by_cases c4 : XW (a.Lost + b.Lost)
            · by_cases c5 : XW (a.Back + b.Back)
              · by_cases c6 : XW (a.Burned + b.Burned)
                · exact absurd ⟨c1, c2, c3, c4, c5, c6⟩ hs
                · simp only [c1, c2, c3, c4, c5, c6, if_true, if_false, Zc]
              · simp only [c1, c2, c3, c4, c5, if_true, if_false, Zc]
            · simp only [c1, c2, c3, c4, if_true, if_false, Zc]
          · simp only [c1, c2, c3, if_true, if_false, Zc]
        · simp only [c1, c2, if_true, if_false, Zc]
      · simp only [c1, if_false, Zc]
  · rw [if_neg h]
    by_cases a1 : XW a.Fed
    · by_cases a2 : XW a.Used
      · by_cases a3 : XW a.Braked
        · by_cases a4 : XW a.Lost
          · by_cases a5 : XW a.Back
            · by_cases a6 : XW a.Burned
              · simp only [a1, a2, a3, a4, a5, a6, if_true]
                by_cases b1 : XW b.Fed
                · by_cases b2 : XW b.Used
                  · by_cases b3 : XW b.Braked
                    · by_cases b4 : XW b.Lost
                      · by_cases b5 : XW b.Back
                        · by_cases b6 : XW b.Burned
                          · exact absurd ⟨⟨a1, a2, a3, a4, a5, a6⟩, b1, b2, b3, b4, b5, b6⟩ h
                          · simp only [b1, b2, b3, b4, b5, b6, if_true, if_false, Zc]
                        · simp only [b1, b2, b3, b4, b5, if_true, if_false, Zc]
                      · simp only [b1, b2, b3, b4, if_true, if_false, Zc]
                    · simp only [b1, b2, b3, if_true, if_false, Zc]
                  · simp only [b1, b2, if_true, if_false, Zc]
                · simp only [b1, if_false, Zc]
              · simp only [a1, a2, a3, a4, a5, a6, if_true, if_false, Zc]
            · simp only [a1, a2, a3, a4, a5, if_true, if_false, Zc]
          · simp only [a1, a2, a3, a4, if_true, if_false, Zc]
        · simp only [a1, a2, a3, if_true, if_false, Zc]
      · simp only [a1, a2, if_true, if_false, Zc]
    · simp only [a1, if_false, Zc]
def Zp (a : FeedBook) : List Int := [a.Fed, a.Used, a.Braked, a.Lost, a.Back, a.Burned]
theorem Qej (a : FeedBook) : ZJ a ↔ ∀ x ∈ Zp a, XW x := by
  unfold ZJ Zp
  simp [and_assoc]
theorem QNa (a b : FeedBook) : Qjb a b = some (Qgy a b) := by
  unfold Qjb Qgd Qgy
  rw [QF, QF, J9 (by simp), QF]
  have hz : ([a.Fed, a.Used, a.Braked, a.Lost, a.Back, a.Burned] ++ [b.Fed, b.Used, b.Braked, b.Lost, b.Back, b.Burned]) = Zp a ++ Zp b := rfl
  rw [hz]
  have hlen : (Zp a ++ Zp b).length = 12 := rfl
  rw [ZS (Zp a ++ Zp b) (fun x => !decide (XW x)) (fun _ _ => ((FeedBook.mk 0 0 0 0 0 0), (2 : Int))), QF]
  · rcases J3 (p := fun x => !decide (XW x)) (res := fun _ _ => ((FeedBook.mk 0 0 0 0 0 0), (2 : Int))) (Zp a ++ Zp b) 0 with ⟨e1, e2⟩ | ⟨j, x, e1, e3, e2⟩
    · have hall : ∀ x ∈ Zp a ++ Zp b, XW x := fun x hx => by
        have := List.any_eq_false.1 e2 x hx; simpa using this
      have ha : ZJ a := (Qej a).2 fun x hx => hall x (List.mem_append_left _ hx)
      have hb : ZJ b := (Qej b).2 fun x hx => hall x (List.mem_append_right _ hx)
      rw [e1, if_pos ⟨ha, hb⟩]
      simp only [jn0]
      have hst : ∀ k (hk : k < (Zp (Ju a b)).length), Qpa (Zp a ++ Zp b) (k : Int) = (bif decide (1000000000000000 < (Zp (Ju a b))[k]) then some (.inr (.inl ((FeedBook.mk 0 0 0 0 0 0), (8 : Int)))) else some (.inl ((k + 1 : Nat) : Int))) := fun k hk => by
        obtain ⟨a1, a2, a3, a4, a5, a6⟩ := ha
        obtain ⟨b1, b2, b3, b4, b5, b6⟩ := hb
        have hk6 : k < 6 := hk
        unfold Qpa
        rw [decide_eq_true (show (k : Int) < 6 by omega), cond_true, Xy (x := (k : Int) + 6) (by omega), X6 k (by omega)]
        have : k = 0 ∨ k = 1 ∨ k = 2 ∨ k = 3 ∨ k = 4 ∨ k = 5 := by omega
        rcases this with rfl | rfl | rfl | rfl | rfl | rfl
        · show (bif decide (_ < w64 (a.Fed + b.Fed)) then _ else _) = _; rw [JE a1 b1]; rfl
        · show (bif decide (_ < w64 (a.Used + b.Used)) then _ else _) = _; rw [JE a2 b2]; rfl
        · show (bif decide (_ < w64 (a.Braked + b.Braked)) then _ else _) = _; rw [JE a3 b3]; rfl
        · show (bif decide (_ < w64 (a.Lost + b.Lost)) then _ else _) = _; rw [JE a4 b4]; rfl
        · show (bif decide (_ < w64 (a.Back + b.Back)) then _ else _) = _; rw [JE a5 b5]; rfl
        · show (bif decide (_ < w64 (a.Burned + b.Burned)) then _ else _) = _; rw [JE a6 b6]; rfl
      rw [ZS (Zp (Ju a b)) (fun x => decide (1000000000000000 < x)) (fun _ _ => ((FeedBook.mk 0 0 0 0 0 0), (8 : Int))) hst rfl, QF]
      rcases J3 (p := fun x => decide (1000000000000000 < x)) (res := fun _ _ => ((FeedBook.mk 0 0 0 0 0 0), (8 : Int))) (Zp (Ju a b)) 0 with ⟨f1, f2⟩ | ⟨j, x, f1, f3, f2⟩
      · have hp : ZJ (Ju a b) := by
          have hall := List.any_eq_false.1 f2
          simp only [Zp, Ju, List.mem_cons, List.not_mem_nil, or_false, decide_eq_true_eq, forall_eq_or_imp, forall_eq] at hall
          obtain ⟨a1, a2, a3, a4, a5, a6⟩ := ha
          obtain ⟨b1, b2, b3, b4, b5, b6⟩ := hb
          simp only [ZJ, Ju]
          unfold XW at *
          omega
        rw [f1, if_pos hp]
        obtain ⟨a1, a2, a3, a4, a5, a6⟩ := ha
        obtain ⟨b1, b2, b3, b4, b5, b6⟩ := hb
        simp only [JE a1 b1, JE a2 b2, JE a3 b3, JE a4 b4, JE a5 b5, JE a6 b6]
        rfl
      · have hp : ¬ ZJ (Ju a b) := fun hp => by
          obtain ⟨y, hy, hpy⟩ := List.any_eq_true.1 f2
          have := (Qej _).1 hp y hy
          simp only [decide_eq_true_eq] at hpy
          unfold XW at this
          omega
        rw [f1, if_neg hp]
        rfl
    · have hp : ¬ (ZJ a ∧ ZJ b) := fun hp => by
        obtain ⟨y, hy, hpy⟩ := List.any_eq_true.1 e2
        have hin : XW y := by
          rcases List.mem_append.1 hy with h | h
          · exact (Qej _).1 hp.1 y h
          · exact (Qej _).1 hp.2 y h
        simp [hin] at hpy
      rw [e1, if_neg hp]
      rfl
  · intro k hk
    unfold Qoz
    rw [X7 hk, cond_true, X0 hk, QF, Qas, QF, Qdy, X6 k (by rw [hlen] at hk; omega)]
    rfl
  · unfold Qoz
    rw [X8]; rfl
end Go.Gw

end
