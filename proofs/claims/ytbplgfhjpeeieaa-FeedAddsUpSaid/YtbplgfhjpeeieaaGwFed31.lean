/- Laws of the walk. Condition: each theorem says its own. -/
import Derived.Test.YtbplgfhjpeeieaaGwAwake
set_option linter.unusedVariables false
set_option linter.unusedSimpArgs false
set_option linter.unusedSectionVars false
section
set_option maxRecDepth 4096
namespace Go.Gw
open Go
def XZ (x : Int) : Prop := 0 ≤ x ∧ x ≤ 1000000000000000
instance (x : Int) : Decidable (XZ x) := inferInstanceAs (Decidable (_ ∧ _))
theorem QDa (x : Int) : Y7 x = some (decide (XZ x)) := by
  unfold Y7
  rw [Qan, QJ, Qgm]; rfl
def Z5 (a : FeedBook) : Prop := XZ a.Fed ∧ XZ a.Used ∧ XZ a.Braked ∧ XZ a.Lost ∧ XZ a.Back ∧ XZ a.Burned
instance (a : FeedBook) : Decidable (Z5 a) := inferInstanceAs (Decidable (_ ∧ _))
def Qcg (a b : FeedBook) : FeedBook := FeedBook.mk (a.Fed + b.Fed) (a.Used + b.Used) (a.Braked + b.Braked) (a.Lost + b.Lost) (a.Back + b.Back) (a.Burned + b.Burned)
def Zd : FeedBook := FeedBook.mk 0 0 0 0 0 0
def Qgw (a b : FeedBook) : FeedBook × Int := if Z5 a ∧ Z5 b then (if Z5 (Qcg a b) then (Qcg a b, 0) else (Zd, 8)) else (Zd, 2)
theorem QDn {α : Type} {x : Int} {a b : α} : (bif !decide (XZ x) then a else b) = if XZ x then b else a := by by_cases h : XZ x <;> simp [h]
theorem QRf {x y : Int} (hx : XZ x) (hy : XZ y) : w64 (x + y) = x + y := XJ (by unfold XZ at *; omega)
theorem QEg (a b : FeedBook) : Qht a b = some (Qgw a b) := by
  unfold Qht Qdo Qgw
  simp only [QJ, QDa, QDn]
  by_cases h : Z5 a ∧ Z5 b
  · rw [if_pos h]
    obtain ⟨⟨a1, a2, a3, a4, a5, a6⟩, b1, b2, b3, b4, b5, b6⟩ := h
    simp only [a1, a2, a3, a4, a5, a6, b1, b2, b3, b4, b5, b6, if_true, QRf]
    by_cases hs : Z5 (Qcg a b)
    · rw [if_pos hs]
      obtain ⟨c1, c2, c3, c4, c5, c6⟩ := hs
      simp only [Qcg] at c1 c2 c3 c4 c5 c6
      simp only [c1, c2, c3, c4, c5, c6, if_true, Qcg]
    · rw [if_neg hs]
      by_cases c1 : XZ (a.Fed + b.Fed)
      · by_cases c2 : XZ (a.Used + b.Used)
        · by_cases c3 : XZ (a.Braked + b.Braked)
          · by_cases c4 : XZ (a.Lost + b.Lost)
            · by_cases c5 : XZ (a.Back + b.Back)
              · by_cases c6 : XZ (a.Burned + b.Burned)
                · exact absurd ⟨c1, c2, c3, c4, c5, c6⟩ hs
                · simp only [c1, c2, c3, c4, c5, c6, if_true, if_false, Zd]
              · simp only [c1, c2, c3, c4, c5, if_true, if_false, Zd]
            · simp only [c1, c2, c3, c4, if_true, if_false, Zd]
          · simp only [c1, c2, c3, if_true, if_false, Zd]
        · simp only [c1, c2, if_true, if_false, Zd]
      · simp only [c1, if_false, Zd]
  · rw [if_neg h]
    by_cases a1 : XZ a.Fed
    · by_cases a2 : XZ a.Used
      · by_cases a3 : XZ a.Braked
        · by_cases a4 : XZ a.Lost
          · by_cases a5 : XZ a.Back
            · by_cases a6 : XZ a.Burned
              · simp only [a1, a2, a3, a4, a5, a6, if_true]
                by_cases b1 : XZ b.Fed
                · by_cases b2 : XZ b.Used
                  · by_cases b3 : XZ b.Braked
                    · by_cases b4 : XZ b.Lost
                      · by_cases b5 : XZ b.Back
                        · by_cases b6 : XZ b.Burned
                          · exact absurd ⟨⟨a1, a2, a3, a4, a5, a6⟩, b1, b2, b3, b4, b5, b6⟩ h
                          · simp only [b1, b2, b3, b4, b5, b6, if_true, if_false, Zd]
                        · simp only [b1, b2, b3, b4, b5, if_true, if_false, Zd]
                      · simp only [b1, b2, b3, b4, if_true, if_false, Zd]
                    · simp only [b1, b2, b3, if_true, if_false, Zd]
                  · simp only [b1, b2, if_true, if_false, Zd]
                · simp only [b1, if_false, Zd]
              · simp only [a1, a2, a3, a4, a5, a6, if_true, if_false, Zd]
            · simp only [a1, a2, a3, a4, a5, if_true, if_false, Zd]
          · simp only [a1, a2, a3, a4, if_true, if_false, Zd]
        · simp only [a1, a2, a3, if_true, if_false, Zd]
      · simp only [a1, a2, if_true, if_false, Zd]
    · simp only [a1, if_false, Zd]
end Go.Gw

end
section
set_option maxRecDepth 4096
namespace Go.Gw
open Go
theorem Qpw (g : Nat → Int) (k : Nat) : QI g (k + 1) = QI g k + g k := rfl
theorem Qgh (c : Int) (g : Nat → Int) : ∀ m, QI (fun k => c * g k) m = c * QI g m
  | 0 => by simp [QI]
  | m + 1 => by rw [Qpw, Qpw, Qgh c g m, Int.mul_add]
theorem Qpv (a c : Int) : ∀ m : Nat, QI (fun k => if a = (k : Int) then c else 0) m = if 0 ≤ a ∧ a < m then c else 0
  | 0 => by simp only [QI]; rw [if_neg (by omega)]
  | m + 1 => by
    rw [Qpw, Qpv a c m]
    by_cases h : a = (m : Int)
    · rw [if_neg (by omega), if_pos h, if_pos (by omega)]; omega
    · rw [if_neg h]
      by_cases h2 : 0 ≤ a ∧ a < (m : Int)
      · rw [if_pos h2, if_pos (by omega)]; omega
      · rw [if_neg h2, if_neg (by omega)]; omega
theorem QNx {s : FeedSection} {n : Nat} (h : ZC s n = 0) : (s.Left = -1 ∨ 0 ≤ s.Left ∧ s.Left ≤ (n : Int) - 1) ∧ (s.Right = -1 ∨ 0 ≤ s.Right ∧ s.Right ≤ (n : Int) - 1) ∧ ¬ (s.Left = -1 ∧ s.Right = -1) ∧ s.Left ≠ s.Right ∧ (s.Left = -1 → s.Share = 0) ∧ (s.Right = -1 → s.Share = 1000) := by
  unfold ZC at h
  have key : ∀ l r il ir eq sh lo s0 s1 : Bool, (!(decide (Qpg l r il ir eq sh lo s0 s1 = 0)) || ((l || il) && ((r || ir) && (!(l && r) && (!eq && ((!l || s0) && (!r || s1))))))) = true := by decide +kernel
  have k3 := key (decide (s.Left = -1)) (decide (s.Right = -1)) (decide (0 ≤ s.Left) && decide (s.Left ≤ (n : Int) - 1)) (decide (0 ≤ s.Right) && decide (s.Right ≤ (n : Int) - 1)) (decide (s.Left = s.Right)) (decide (0 ≤ s.Share) && decide (s.Share ≤ 1000)) (decide (0 ≤ s.Loss) && decide (s.Loss ≤ 500)) (decide (s.Share = 0)) (decide (s.Share = 1000))
  rw [decide_eq_true h] at k3
  simp only [Bool.not_true, Bool.false_or, Bool.and_eq_true, Bool.or_eq_true, decide_eq_true_eq, Bool.not_eq_true', Bool.and_eq_false_iff, decide_eq_false_iff_not] at k3
  omega
theorem Qza {s : FeedSection} {n : Nat} (h : ZC s n = 0) : QI (fun k => XU s (k : Int)) n = 1000 := by
  obtain ⟨h1, h2, h3, h4, h5, h6⟩ := QNx h
  have e : (fun k : Nat => XU s (k : Int)) = fun (k : Nat) => (if s.Left = (k : Int) then s.Share else 0) + (if s.Right = (k : Int) then 1000 - s.Share else 0) := by
    funext k
    unfold XU
    by_cases a : s.Left = (k : Int)
    · rw [if_pos a, if_pos a, if_neg (by omega)]; omega
    · rw [if_neg a, if_neg a]
      by_cases b : s.Right = (k : Int)
      · rw [if_pos b]; omega
      · rw [if_neg b]; omega
  rw [e, Qgg, Qpv, Qpv]
  by_cases a : s.Left = -1
  · rw [if_neg (by omega), if_pos (by omega), h5 a]; omega
  · by_cases b : s.Right = -1
    · rw [if_pos (by omega), if_neg (by omega), h6 b]; omega
    · rw [if_pos (by omega), if_pos (by omega)]; omega
def drS (secs : List FeedSection) (f : Nat → Int) : Nat → Int
  | 0 => 0
  | j + 1 => drS secs f j + (secs[j]?.map fun s => Xv s (f j)).getD 0
theorem Qrx (secs : List FeedSection) (f : Nat → Int) (j : Nat) : drS secs f (j + 1) = drS secs f j + (secs[j]?.map fun s => Xv s (f j)).getD 0 := rfl
theorem QJr (secs : List FeedSection) (f : Nat → Int) (k j : Nat) : Y1 secs f k (j + 1) = Y1 secs f k j + (secs[j]?.map fun s => Xv s (f j) * XU s (k : Int)).getD 0 := rfl
theorem Qwg {secs : List FeedSection} {n : Nat} (hs : ∀ s ∈ secs, ZC s n = 0) (f : Nat → Int) : ∀ j, QI (fun k => Y1 secs f k j) n = 1000 * drS secs f j
  | 0 => by
    have : (fun k => Y1 secs f k 0) = fun _ => 0 * (0 : Int) := rfl
    rw [this, Qgh 0 (fun _ => 0)]; simp [drS]
  | j + 1 => by
    have e : (fun k => Y1 secs f k (j + 1)) = fun k => Y1 secs f k j + (secs[j]?.map fun s => Xv s (f j) * XU s (k : Int)).getD 0 := rfl
    rw [e, Qgg, Qwg hs f j, Qrx]
    cases hj : secs[j]? with
    | none =>
      have : (fun k : Nat => ((none : Option FeedSection).map fun s => Xv s (f j) * XU s (k : Int)).getD 0) = fun _ => 0 * (0 : Int) := rfl
      rw [this, Qgh 0 (fun _ => 0)]; simp
    | some s =>
      have : (fun k : Nat => ((some s).map fun s => Xv s (f j) * XU s (k : Int)).getD 0) = fun (k : Nat) => Xv s (f j) * XU s (k : Int) := rfl
      rw [this, Qgh, Qza (hs s (List.mem_of_getElem? hj))]
      simp only [Option.map_some, Option.getD_some]
      omega
theorem QDr (s : FeedSection) (p : Int) : Xv s p = p * 1000 + YP p * s.Loss := by
  unfold Xv YP
  by_cases h : p < 0
  · rw [if_pos h, if_pos (by omega), Int.mul_sub, Int.neg_mul]; omega
  · rw [if_neg h, if_neg (by omega), Int.mul_add]
theorem Qwm (x : Int) : Xz x - Xz (-x) = x := by unfold Xz; split <;> split <;> omega
theorem Qwn (x : Int) : 0 ≤ Xz x ∧ x ≤ Xz x := by unfold Xz; split <;> omega
theorem Qwl (x y : Int) : Xz (x + y) ≤ Xz x + Xz y := by unfold Xz; split <;> split <;> split <;> omega
section
variable {n : FeedNet} (hn : NetOk n) {s : FeedSection} (hsE : ZC s n.Stations.length = 0)
include hsE
theorem Qvr (d : Int) (w : Bool) (k : Nat) : 0 ≤ gK n s d w k := by
  unfold gK
  cases n.Stations[k]? with
  | none => simp
  | some st =>
    have h1 : 0 ≤ XU s (k : Int) := by
      obtain ⟨h0, _⟩ := Qck hsE
      unfold XU; split
      · omega
      · split <;> omega
    have h2 := Int.mul_nonneg h1 (Qwn (-d)).1
    simp only [Option.map_some, Option.getD_some]
    split <;> omega
theorem Qpu {g : Nat → Int} (h : ∀ j, 0 ≤ g j) : ∀ k, 0 ≤ QI g k
  | 0 => by simp [QI]
  | k + 1 => by have := Qpu h k; have := h k; simp only [QI]; omega
theorem QDb (d : Int) : QI (gK n s d true) n.Stations.length + QI (gK n s d false) n.Stations.length = 1000 * Xz (-d) := by
  rw [← Qgg, Qkc (g' := fun k => Xz (-d) * XU s (k : Int)) _ (fun k hk => ?_), Qgh, Qza hsE, Int.mul_comm]
  rw [Qnv n s d _ hk, Qnv n s d _ hk]
  cases n.Stations[k].Takes with
  | true => rw [if_pos rfl, if_neg (by decide), Int.mul_comm]; omega
  | false => rw [if_pos rfl, if_neg (by decide), Int.mul_comm]; omega
theorem QLu (p : Int) (hp : -160000 ≤ p ∧ p ≤ 160000) : 1000 * Xz (Xv s p) = 1000000 * p + 1000 * s.Loss * YP p + QI (gK n s (Xv s p) true) n.Stations.length + QI (gK n s (Xv s p) false) n.Stations.length ∧
    0 ≤ 1000 * s.Loss * YP p ∧ 1000 * s.Loss * YP p ≤ 80000000000 ∧ 1000 * Xz (Xv s p) ≤ 1000000 * Xz p + 1000 * s.Loss * YP p ∧
    QI (gK n s (Xv s p) true) n.Stations.length + QI (gK n s (Xv s p) false) n.Stations.length ≤ 1000000 * Xz (-p) := by
  obtain ⟨_, h1, h2⟩ := Qck hsE
  have hm := Qwo hp
  have hd := QDr s p
  have hw := QDb hsE (Xv s p) (n := n)
  have e : 1000 * s.Loss * YP p = 1000 * (YP p * s.Loss) := by rw [Int.mul_assoc, Int.mul_comm s.Loss]
  have hz := Qbj (a := YP p) (b := s.Loss) (m := 160000) (n := 500) (by omega) (by omega)
  have hz0 := Int.mul_nonneg hm.1 h1
  have hz1 : YP p * s.Loss ≤ YP p * 500 := Int.mul_le_mul_of_nonneg_left h2 hm.1
  rw [e, hw]
  generalize YP p * s.Loss = z at *
  have hd2 := Qwm (Xv s p)
  refine ⟨by omega, by omega, by omega, ?_, ?_⟩
  · unfold Xz YP at *
    split <;> split <;> (repeat' split at hz1) <;> omega
  · unfold Xz YP at *
    split <;> split <;> (repeat' split at hz1) <;> omega
end
theorem QAm (xs : List Int) : Xz xs.sum ≤ (xs.map Xz).sum ∧ Xz (-xs.sum) ≤ (xs.map fun x => Xz (-x)).sum := by
  induction xs with
  | nil => simp [Xz]
  | cons x xs ih =>
    rw [List.map_cons, List.map_cons, List.sum_cons, List.sum_cons, List.sum_cons]
    have h1 := Qwl x xs.sum
    have h2 := Qwl (-x) (-xs.sum)
    rw [show -(x + xs.sum) = -x + -xs.sum by omega]
    omega
theorem Qpt {g g' : Nat → Int} (h : ∀ j, g j ≤ g' j) : ∀ k, QI g k ≤ QI g' k
  | 0 => by simp [QI]
  | k + 1 => by have := Qpt h k; have := h k; simp only [QI]; omega
theorem Qmi {f g : Int → Int} (c : Int) (h : ∀ x, f x = c * g x) (R : List feed_run) (t : Int) : fR f R t = c * fR g R t := by
  unfold fR
  induction R with
  | nil => simp
  | cons r R ih => rw [List.map_cons, List.map_cons, List.sum_cons, List.sum_cons, ih, h, Int.mul_add]
theorem QEl {f g h : Int → Int} (e : ∀ x, f x - g x = h x) (R : List feed_run) (t : Int) : fR f R t - fR g R t = fR h R t := by
  unfold fR
  induction R with
  | nil => rfl
  | cons r R ih => rw [List.map_cons, List.map_cons, List.map_cons, List.sum_cons, List.sum_cons, List.sum_cons, ← e, ← ih]; omega
section
variable {n : FeedNet} (hn : NetOk n) {R : List feed_run} (hR : ∀ r ∈ R, YV n.Sections.length r) (hl : R.length ≤ 6)
include hn hR hl
theorem QBe (t : Int) : ∀ k, k ≤ n.Sections.length → QI (gF n (Q7 R t)) k = 1000000 * QI (Q7 R t) k + QI (gL n (Q7 R t)) k + QI (gW n true (Q7 R t)) k + QI (gW n false (Q7 R t)) k ∧
    0 ≤ QI (gF n (Q7 R t)) k ∧ 0 ≤ QI (gL n (Q7 R t)) k ∧ QI (gL n (Q7 R t)) k ≤ 80000000000 * (k : Int) ∧ 0 ≤ QI (gW n true (Q7 R t)) k ∧ 0 ≤ QI (gW n false (Q7 R t)) k ∧
    QI (gF n (Q7 R t)) k ≤ 1000000 * QI (fun j => Xz (Q7 R t j)) k + QI (gL n (Q7 R t)) k ∧ QI (gW n true (Q7 R t)) k + QI (gW n false (Q7 R t)) k ≤ 1000000 * QI (fun j => Xz (-(Q7 R t j))) k
  | 0, _ => by simp [QI]
  | k + 1, hk => by
    have ih := QBe t k (by omega)
    have hP := Qix hn hR (by omega) t k
    have hE := hn.sec _ (List.getElem_mem (show k < n.Sections.length by omega))
    have h1 := QLu hE (Q7 R t k) hP
    have eF : gF n (Q7 R t) k = 1000 * Xz (Xv n.Sections[k] (Q7 R t k)) := by unfold gF; rw [List.getElem?_eq_getElem (by omega)]; rfl
    have eL : gL n (Q7 R t) k = 1000 * n.Sections[k].Loss * YP (Q7 R t k) := by unfold gL; rw [List.getElem?_eq_getElem (by omega)]; rfl
    have eW : ∀ w, gW n w (Q7 R t) k = QI (gK n n.Sections[k] (Xv n.Sections[k] (Q7 R t k)) w) n.Stations.length := by intro w; unfold gW; rw [List.getElem?_eq_getElem (by omega)]; rfl
    have n1 := Qpu hE (n := n) (fun j => Qvr hE (n := n) (Xv n.Sections[k] (Q7 R t k)) true j) n.Stations.length
    have n2 := Qpu hE (n := n) (fun j => Qvr hE (n := n) (Xv n.Sections[k] (Q7 R t k)) false j) n.Stations.length
    have n3 := (Qwn (Xv n.Sections[k] (Q7 R t k))).1
    rw [← eF, ← eL, ← eW, ← eW] at h1
    rw [← eW] at n1 n2
    have n4 : 0 ≤ gF n (Q7 R t) k := by rw [eF]; omega
    simp only [QI]
    omega
theorem QQq (t : Int) : QI (Q7 R t) n.Sections.length = fR (fun x => x) R t := by
  rw [← Qkd (f := fun x => x) rfl t hR]
  exact Qkc _ fun j _ => by rw [List.map_id', Qif]
theorem Qko (lo : Int) (i : Nat) : tk n R lo 0 i + tk n R lo 2 i = tk n R lo 1 i + tk n R lo 3 i + tk n R lo 4 i + tk n R lo 5 i ∧ ∀ q, q < 6 → 0 ≤ tk n R lo q i ∧ tk n R lo q i ≤ 920000000000 := by
  have hs := QBe hn hR hl (lo + (i : Int)) n.Sections.length (Nat.le_refl _)
  have h10 := hn.se10
  have hp := QQq hn hR hl (lo + (i : Int))
  have hU := Qbf (f := fU) (fun x h => Qhs h) (lo + (i : Int)) hR
  have hB := Qbf (f := fB) (fun x h => Qdb h) (lo + (i : Int)) hR
  have hd : fR fU R (lo + (i : Int)) - fR fB R (lo + (i : Int)) = 1000000 * fR (fun x => x) R (lo + (i : Int)) := by
    rw [← Qmi (f := fun x => 1000000 * x) (g := fun x => x) 1000000 (fun _ => rfl)]
    refine QEl (fun x => ?_) R _
    have := Qwm x; unfold fU fB; omega
  have m1 : 1000000 * QI (fun j => Xz (Q7 R (lo + (i : Int)) j)) n.Sections.length ≤ fR fU R (lo + (i : Int)) := by
    rw [Qmi (f := fU) (g := Xz) 1000000 (fun x => rfl), ← Qkd (f := Xz) rfl (lo + (i : Int)) hR]
    have := Qpt (g := fun j => Xz (Q7 R (lo + (i : Int)) j)) (g' := fun j => ((R.flatMap (pd (lo + (i : Int)) j)).map Xz).sum) (fun j => by rw [← Qif]; exact (QAm _).1) n.Sections.length
    omega
  have m2 : 1000000 * QI (fun j => Xz (-(Q7 R (lo + (i : Int)) j))) n.Sections.length ≤ fR fB R (lo + (i : Int)) := by
    rw [Qmi (f := fB) (g := fun x => Xz (-x)) 1000000 (fun x => rfl), ← Qkd (f := fun x => Xz (-x)) rfl (lo + (i : Int)) hR]
    have := Qpt (g := fun j => Xz (-(Q7 R (lo + (i : Int)) j))) (g' := fun j => ((R.flatMap (pd (lo + (i : Int)) j)).map fun x => Xz (-x)).sum) (fun j => by rw [← Qif]; exact (QAm _).2) n.Sections.length
    omega
  constructor
  · show QI _ _ + fR fB R _ = fR fU R _ + QI _ _ + QI _ _ + QI _ _
    omega
  · intro q hq
    match q, hq with
    | 0, _ => show 0 ≤ QI _ _ ∧ QI _ _ ≤ _; omega
    | 1, _ => show 0 ≤ fR fU R _ ∧ fR fU R _ ≤ _; omega
    | 2, _ => show 0 ≤ fR fB R _ ∧ fR fB R _ ≤ _; omega
    | 3, _ => show 0 ≤ QI _ _ ∧ QI _ _ ≤ _; omega
    | 4, _ => show 0 ≤ QI _ _ ∧ QI _ _ ≤ _; omega
    | 5, _ => show 0 ≤ QI _ _ ∧ QI _ _ ≤ _; omega
end
end Go.Gw

end
section
set_option maxRecDepth 4096
namespace Go.Gw
open Go
theorem Qgi {g : Nat → Int} {c : Int} (h : ∀ j, 0 ≤ g j ∧ g j ≤ c) : ∀ k : Nat, 0 ≤ QI g k ∧ QI g k ≤ c * (k : Int)
  | 0 => by simp [QI]
  | k + 1 => by
    have h1 := Qgi h k
    have h2 := h k
    simp only [QI]
    rw [show c * ((k + 1 : Nat) : Int) = c * (k : Int) + c by rw [Int.natCast_add, Int.mul_add]; simp]
    omega
theorem QAk (g : Nat → Int) (a : Nat) : ∀ b, QI g (a + b) = QI g a + QI (fun i => g (a + i)) b
  | 0 => by simp [QI]
  | b + 1 => by
    show QI g (a + b) + g (a + b) = QI g a + (QI (fun i => g (a + i)) b + g (a + b))
    rw [QAk g a b]; omega
theorem QQt (n : FeedNet) (R : List feed_run) (lo : Int) (a i : Nat) : ∀ q, tk n R lo q (a + i) = tk n R (lo + (a : Int)) q i := by
  have e : lo + ((a + i : Nat) : Int) = lo + (a : Int) + (i : Int) := by omega
  intro q
  match q with
  | 0 => show QI (gF n (Q7 R (lo + ((a + i : Nat) : Int)))) _ = QI (gF n (Q7 R (lo + (a : Int) + (i : Int)))) _; rw [e]
  | 1 => show fR fU R (lo + ((a + i : Nat) : Int)) = fR fU R (lo + (a : Int) + (i : Int)); rw [e]
  | 2 => show fR fB R (lo + ((a + i : Nat) : Int)) = fR fB R (lo + (a : Int) + (i : Int)); rw [e]
  | 3 => show QI (gL n (Q7 R (lo + ((a + i : Nat) : Int)))) _ = QI (gL n (Q7 R (lo + (a : Int) + (i : Int)))) _; rw [e]
  | 4 => show QI (gW n true (Q7 R (lo + ((a + i : Nat) : Int)))) _ = QI (gW n true (Q7 R (lo + (a : Int) + (i : Int)))) _; rw [e]
  | _ + 5 => show QI (gW n false (Q7 R (lo + ((a + i : Nat) : Int)))) _ = QI (gW n false (Q7 R (lo + (a : Int) + (i : Int)))) _; rw [e]
theorem QCz (n : FeedNet) (R : List feed_run) (lo : Int) (a b : Nat) : Y0 n R lo (a + b) = Qcg (Y0 n R lo a) (Y0 n R (lo + (a : Int)) b) := by
  have e : ∀ q, QI (tk n R lo q) (a + b) = QI (tk n R lo q) a + QI (tk n R (lo + (a : Int)) q) b := fun q => by
    rw [QAk, Qkc (g := fun i => tk n R lo q (a + i)) (g' := tk n R (lo + (a : Int)) q) b (fun j _ => QQt n R lo a j q)]
  unfold Y0 Qcg
  simp only [e]
section
variable {n : FeedNet} (hn : NetOk n) {R : List feed_run} (hR : ∀ r ∈ R, YV n.Sections.length r) (hl : R.length ≤ 6)
include hn hR hl
theorem Qlt (lo : Int) {k : Nat} (hk : k ≤ 1013) : Z5 (Y0 n R lo k) := by
  have h := fun q hq => Qgi (fun j => (Qko hn hR hl lo j).2 q hq) k
  have h0 := h 0 (by omega)
  have h1 := h 1 (by omega)
  have h2 := h 2 (by omega)
  have h3 := h 3 (by omega)
  have h4 := h 4 (by omega)
  have h5 := h 5 (by omega)
  simp only [Z5, Y0, XZ]
  omega
theorem Qri (lo : Int) : ∀ k : Nat, (Y0 n R lo k).Fed + (Y0 n R lo k).Braked = (Y0 n R lo k).Used + (Y0 n R lo k).Lost + (Y0 n R lo k).Back + (Y0 n R lo k).Burned
  | 0 => rfl
  | k + 1 => by
    have h1 := Qri lo k
    have h2 := (Qko hn hR hl lo k).1
    simp only [Y0, QI] at h1 ⊢
    omega
theorem QQp (lo : Int) (i : Nat) (hz : tk n R lo 2 i = 0) : tk n R lo 0 i = QI (fun k => Y1 n.Sections (Q7 R (lo + (i : Int))) k n.Sections.length) n.Stations.length ∧
    ∀ k, 0 ≤ Y1 n.Sections (Q7 R (lo + (i : Int))) k n.Sections.length := by
  have hz2 : fR fB R (lo + (i : Int)) = 0 := hz
  have hrun : ∀ (R' : List feed_run), (∀ r ∈ R', YV n.Sections.length r) → fR fB R' (lo + (i : Int)) = 0 → ∀ j, 0 ≤ Q7 R' (lo + (i : Int)) j := by
    intro R'
    induction R' with
    | nil => intro _ _ j; simp [Q7]
    | cons r R' ih =>
      intro hR' h0 j
      have b1 := Qdb (Qou (hR' r List.mem_cons_self) (lo + (i : Int)))
      have b2 := Qbf (f := fB) (fun x h => Qdb h) (lo + (i : Int)) (R := R') fun r hr => hR' r (List.mem_cons_of_mem _ hr)
      have h1 : fB (Yu (lo + (i : Int)) r) + fR fB R' (lo + (i : Int)) = 0 := by
        unfold fR at h0 ⊢; rw [List.map_cons, List.sum_cons] at h0; exact h0
      have h2 := ih (fun r hr => hR' r (List.mem_cons_of_mem _ hr)) (by omega) j
      have h3 : 0 ≤ Yu (lo + (i : Int)) r := by
        have : fB (Yu (lo + (i : Int)) r) = 0 := by omega
        unfold fB Xz at this; split at this <;> omega
      have h4 : 0 ≤ Z1 r.FeedTrain.Steps (lo + (i : Int) - r.at_) j := by
        unfold Yu at h3; unfold Z1
        split
        · rename_i hin
          rw [if_pos hin] at h3
          split
          · rename_i x hx
            rw [hx] at h3
            split
            · exact h3
            · omega
          · omega
        · omega
      unfold Q7 at h2 ⊢
      rw [List.map_cons, List.sum_cons]; omega
  have hP := hrun R hR hz2
  have hD : ∀ j, 0 ≤ (n.Sections[j]?.map fun s => Xv s (Q7 R (lo + (i : Int)) j)).getD 0 := fun j => by
    cases hj : n.Sections[j]? with
    | none => simp
    | some s =>
      obtain ⟨_, h1, h2⟩ := Qck (hn.sec s (List.mem_of_getElem? hj))
      have hp := hP j
      simp only [Option.map_some, Option.getD_some]
      unfold Xv
      rw [if_neg (by omega)]
      exact Int.mul_nonneg hp (by omega)
  constructor
  · rw [Qwg hn.sec]
    show QI (gF n (Q7 R (lo + (i : Int)))) _ = _
    have key : ∀ k, QI (gF n (Q7 R (lo + (i : Int)))) k = 1000 * drS n.Sections (Q7 R (lo + (i : Int))) k := by
      intro k
      induction k with
      | zero => simp [QI, drS]
      | succ k ih =>
        have hd := hD k
        simp only [QI, Qrx, ih]
        have e : gF n (Q7 R (lo + (i : Int))) k = 1000 * (n.Sections[k]?.map fun s => Xv s (Q7 R (lo + (i : Int)) k)).getD 0 := by
          unfold gF
          cases hj : n.Sections[k]? with
          | none => rfl
          | some s =>
            rw [hj] at hd
            simp only [Option.map_some, Option.getD_some] at hd ⊢
            unfold Xz; rw [if_neg (by omega)]
        rw [e]; omega
    exact key _
  · intro k
    have key : ∀ j, 0 ≤ Y1 n.Sections (Q7 R (lo + (i : Int))) k j := by
      intro j
      induction j with
      | zero => simp [Y1]
      | succ j ih =>
        rw [QJr]
        have hd := hD j
        cases hj : n.Sections[j]? with
        | none => simpa using ih
        | some s =>
          obtain ⟨h0, _⟩ := Qck (hn.sec s (List.mem_of_getElem? hj))
          rw [hj] at hd
          simp only [Option.map_some, Option.getD_some] at hd ⊢
          have h1 : 0 ≤ XU s (k : Int) := by
            unfold XU; split
            · omega
            · split <;> omega
          have := Int.mul_nonneg hd h1
          omega
    exact key _
end
end Go.Gw

end
