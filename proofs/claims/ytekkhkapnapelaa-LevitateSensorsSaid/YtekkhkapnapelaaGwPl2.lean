/- Laws of the walk. Condition: each theorem says its own. -/
import Derived.Test.YtekkhkapnapelaaGwLib11
import Derived.Test.YtekkhkapnapelaaGwFnZ
set_option linter.unusedVariables false
set_option linter.unusedSimpArgs false
set_option linter.unusedSectionVars false
section
namespace Go.Gw
section
variable {α β γ σ ρ : Type}
def Qxc (p : α → Bool) (res : Nat → α → ρ) : Nat → List α → ρ ⊕ Unit
  | _,[]=>.inr ()
  | k,x :: xs=>if p x then .inl (res k x) else Qxc p res (k + 1) xs
def fld (f : Nat → γ → α → γ) : Nat → γ → List α → γ
  | _,a,[]=>a
  | k,a,x :: xs=>fld f (k + 1) (f k a x) xs
def rng (f : Nat → γ → γ) (a : γ) : Nat → γ
  | 0=>a
  | n + 1=>f n (rng f a n)
theorem Xy (k : Nat) (h : k < 4611686018427387904) : w64 ((k : Int) + 1) = ((k + 1 : Nat) : Int):=by rw [Xd (by omega)]; omega
theorem XA {k n : Nat} (h : k < n) : decide ((k : Int) < (n : Int)) = true:=by simp; omega
theorem XB (n : Nat) : decide ((n : Int) < (n : Int)) = false:=by simp
end
end Go.Gw

end
section
set_option maxRecDepth 4096
set_option linter.unusedSimpArgs false
set_option linter.unusedVariables false
namespace Go.Gw
open Go

def fs {α ρ : Type} (f : Nat → α → Option ρ) : Nat → List α → Option ρ
  | _,[]=>none
  | k,x :: xs=>match f k x with | some r=>some r | none=>fs f (k + 1) xs
def oi {ρ : Type} : Option ρ → ρ ⊕ Unit
  | some r=>.inl r
  | none=>.inr ()
def X6 {ρ : Type} (o : Option ρ) (k : Nat) : Option (Int ⊕ (ρ ⊕ Unit)):=match o with | some r=>some (.inr (.inl r)) | none=>some (.inl ((k + 1 : Nat) : Int))
theorem YG {α ρ : Type} {step : Int → Option (Int ⊕ (ρ ⊕ Unit))} (xs : List α) (f : Nat → α → Option ρ)
    (hs : ∀ k (hk : k < xs.length),step (k : Int) = X6 (f k xs[k]) k)
    (he : step (xs.length : Int) = some (.inr (.inr ()))) : loop step 0 = some (oi (fs f 0 xs)):=by
  have key : ∀ j k,j + k = xs.length → loop step (k : Int) = some (oi (fs f k (xs.drop k))):=by
    intro j
    induction j with
    | zero =>
      intro k hk
      obtain rfl : k = xs.length:=by omega
      rw [List.drop_length]
      exact X2 he
    | succ j ih =>
      intro k hk
      have hlt : k < xs.length:=by omega
      rw [List.drop_eq_getElem_cons hlt]
      have:=hs k hlt
      simp only [fs]
      cases hp : f k xs[k] with
      | some r=>rw [hp] at this; exact X2 this
      | none=>rw [hp] at this; rw [Yp this]; exact ih (k + 1) (by omega)
  have:=key xs.length 0 (by omega)
  simpa using this
theorem fs_none {α ρ : Type} {f : Nat → α → Option ρ} : ∀ {l : List α} {k : Nat},fs f k l = none ↔ ∀ i (h : i < l.length),f (k + i) l[i] = none:=by
  intro l
  induction l with
  | nil=>intro k; simp [fs]
  | cons x xs ih =>
    intro k
    cases h : f k x with
    | some r =>
      simp only [fs,h]
      constructor
      · intro h'; cases h'
      · intro h'; have:=h' 0 (by simp); simp [h] at this
    | none =>
      simp only [fs,h,ih]
      constructor
      · intro h' i hi
        cases i with
        | zero=>simpa using h
        | succ i=>have:=h' i (by simpa using hi); simpa [Nat.add_assoc,Nat.add_comm 1 i] using this
      · intro h' i hi
        have:=h' (i + 1) (by simpa using hi)
        simpa [Nat.add_assoc,Nat.add_comm 1 i] using this
theorem Qrg {α ρ : Type} {f g : Nat → α → Option ρ} : ∀ {l : List α} {k : Nat},(∀ i (h : i < l.length),f (k + i) l[i] = g (k + i) l[i]) → fs f k l = fs g k l:=by
  intro l
  induction l with
  | nil=>intro k _; rfl
  | cons x xs ih =>
    intro k h
    have h0:=h 0 (by simp)
    simp only [Nat.add_zero,List.getElem_cons_zero] at h0
    simp only [fs,h0]
    cases g k x with
    | some r=>rfl
    | none=>exact ih fun i hi=>by have:=h (i + 1) (by simpa using hi); simpa [Nat.add_assoc,Nat.add_comm 1 i] using this

/-! ### Errors -/
def Jb : List Int → Int
  | []=>0
  | x :: xs=>if x = 0 then Jb xs else x
theorem Qhn (l : List Int) (hl : l.length < 1073741824) : Yx l = some (Jb l):=by
  unfold Yx
  rw [YG l (fun _ x=>if x = 0 then none else some x)]
  · have key : ∀ (l : List Int) k, (Xx (oi (fs (fun _ x => if x = 0 then none else some x) k l)) fun (_ : Unit) => some 0) = some (Jb l) := by
      intro l
      induction l with
      | nil=>intro k; rfl
      | cons x xs ih =>
        intro k
        by_cases h : x = 0
        · simp [fs,Jb,h]; exact ih _
        · simp [fs,Jb,h,Xx,oi]
    simpa using key l 0
  · intro k hk
    unfold Qgx
    rw [XA hk,XT hk,Xy k (by omega)]
    by_cases h : l[k] = 0 <;> simp [h,X6]
  · unfold Qgx
    rw [XB]; rfl
theorem YH (b : Bool) (e : Int) : XK b e = some (bif b then 0 else e):=by cases b <;> rfl
theorem JJ (n lo hi : Int) : Za n lo hi = some (decide (lo ≤ n) && decide (n ≤ hi)):=rfl
theorem Zq (a b : Int) : Yx [a,b] = some (if a = 0 then b else a):=by
  rw [Qhn _ (by simp)]; simp only [Jb]
  by_cases ha : a = 0 <;> by_cases hb : b = 0 <;> simp [ha,hb]
theorem Qrd (a b c : Int) : Yx [a,b,c] = some (if a = 0 then (if b = 0 then c else b) else a):=by
  rw [Qhn _ (by simp)]; simp only [Jb]
  by_cases ha : a = 0 <;> by_cases hb : b = 0 <;> by_cases hc : c = 0 <;> simp [ha,hb,hc]

def Xp (m n : Int) : Bool:=decide (-m ≤ n) && decide (n ≤ m)
theorem Qhq (n m : Int) (h : 0 ≤ m ∧ m ≤ 4611686018427387904) : Qah n m = some (Xp m n):=by
  unfold Qah
  rw [JJ,Xd (by omega),show (0 : Int) - m = -m by omega]; rfl
theorem Qpb {n : Int} (h : -4611686018427387904 ≤ n ∧ n ≤ 4611686018427387904) : (if n < w64 (0 - n) then w64 (0 - n) else n) = (n.natAbs : Int):=by
  rw [Xd (by omega)]; split <;> omega
theorem Qto {n : Int} (h : -4611686018427387904 ≤ n ∧ n ≤ 4611686018427387904) : Qbu n = some (n.natAbs : Int):=by
  unfold Qbu; rw [Qpb h]
/-! ### Predicates over lists -/
def ixB {α : Type} (p : α → Bool) (l : List α) : Int:=match fs (fun k x=>if p x then some (k : Int) else none) 0 l with | some k=>k | none=>-1
theorem Qda {α : Type} (p : α → Bool) (l : List α) : decide (0 ≤ ixB p l) = l.any p:=by
  have key : ∀ (l : List α) (k : Nat),(match fs (fun k x=>if p x then some (k : Int) else none) k l with | some k=>decide (0 ≤ k) | none=>false) = l.any p:=by
    intro l
    induction l with
    | nil=>intro k; rfl
    | cons x xs ih =>
      intro k
      cases h : p x with
      | true=>simp [fs,h]
      | false=>simp only [fs,h,List.any_cons,Bool.false_or]; exact ih _
  unfold ixB
  rw [← key l 0]
  cases fs (fun k x=>if p x then some (k : Int) else none) 0 l with
  | some k=>rfl
  | none=>rfl
theorem Qdc {α : Type} (p : α → Bool) (l : List α) : (Xx (oi (fs (fun k x=>if p x then some (k : Int) else none) 0 l)) fun (_ : Unit)=>some (-1)) = some (ixB p l):=by
  unfold ixB
  cases fs (fun k x=>if p x then some (k : Int) else none) 0 l <;> rfl
theorem Qdb {b : Bool} {k : Nat} {e : Int} (he : e = ((k + 1 : Nat) : Int)) : (bif b then some (.inr (.inl (k : Int))) else some (.inl e) : Option (Int ⊕ (Int ⊕ Unit))) = X6 (if b then some (k : Int) else none) k:=by
  subst he; cases b <;> rfl

def JM (n : Int) : Bool:=!(decide (0 ≤ n) && decide (n ≤ 10000))
theorem Qom (l : List Int) (hl : l.length < 1073741824) : Qex l = some (l.any JM):=by
  unfold Qex Qiq
  rw [YG l (fun k x=>if JM x then some (k : Int) else none)]
  · simp only [Ql,Qdc,Qda]
  · intro k hk
    unfold Qip
    rw [XA hk,XT hk]
    simp only [cond_true,Ql,Qgo,JJ]
    exact Qdb (Xy k (by omega))
  · unfold Qip
    rw [XB]; rfl
def ZX (n : Int) : Bool:=decide (n < 0)
theorem Qol (l : List Int) (hl : l.length < 1073741824) : Qev l = some (l.any ZX):=by
  unfold Qev Qim
  rw [YG l (fun k x=>if ZX x then some (k : Int) else none)]
  · simp only [Qdc ZX,Ql,Qda]
  · intro k hk
    unfold Qil
    rw [XA hk,XT hk]
    simp only [cond_true,Ql,Qhe]
    exact Qdb (Xy k (by omega))
  · unfold Qil
    rw [XB]; rfl
theorem Qon (l : List Int) (m : Int) (hm : 0 ≤ m ∧ m ≤ 4611686018427387904) (hl : l.length < 1073741824) : Qew l m = some (l.any fun n=>!Xp m n):=by
  unfold Qew Qio
  rw [YG l (fun k x=>if !Xp m x then some (k : Int) else none)]
  · simp only [Ql,Qdc (fun n=>!Xp m n),Qda]
  · intro k hk
    unfold Qin
    rw [XA hk,XT hk]
    simp only [cond_true,Ql,Qgr,Qhq _ _ hm]
    exact Qdb (Xy k (by omega))
  · unfold Qin
    rw [XB]; rfl
theorem Qcp (l : List Int) (m : Int) (hm : 0 ≤ m ∧ m ≤ 4611686018427387904) (hl : l.length < 1073741824) : JF l m = some (l.all (Xp m)):=by
  unfold JF
  rw [Qon l m hm hl]
  simp only [Ql]
  congr 1
  rw [Bool.eq_iff_iff]; simp

/-! ### Plants -/
def Zg (n m i : Nat) (row : List Int) : Option (LevitateMark × Int) :=
  if row.length ≠ n then some (⟨m,i⟩,10) else if row.all (Xp 1000) then none else some (⟨m,i⟩,2)
def Zc (n m : Nat) (rows : List (List Int)) : Option (LevitateMark × Int) :=
  if rows.length ≠ n then some (⟨m,0⟩,10) else fs (Zg n m) 0 rows
def Yw (p : LevitatePlant) : LevitateMark × Int :=
  if ¬ (1 ≤ p.Den ∧ p.Den ≤ 1000) then (⟨0,0⟩,2) else if p.Noise.length = 0 then (⟨0,0⟩,10) else if 3 < p.Noise.length then (⟨0,0⟩,8) else
    if p.Noise.any JM then (⟨0,0⟩,2) else if p.Maps.length = 0 then (⟨0,0⟩,10) else if 4 < p.Maps.length then (⟨0,0⟩,8) else
    match fs (Zc p.Noise.length) 0 p.Maps with | some r=>r | none=>(⟨0,0⟩,0)

structure Sh (p : LevitatePlant) : Prop where
  noise : p.Noise.length < 1073741824
  maps : p.Maps.length < 1073741824
  rows : ∀ m ∈ p.Maps,m.length < 1073741824
  row : ∀ m ∈ p.Maps,∀ r ∈ m,r.length < 1073741824

theorem Jd (a b : Nat) : (decide ((a : Int) = (b : Int))) = decide (a = b):=by rw [Bool.eq_iff_iff]; simp; omega

theorem Qrk (p : LevitatePlant) (h : Sh p) : Qdg p = some (Yw p):=by
  unfold Qdg
  rw [Qom _ h.noise]
  simp only [Ql,JJ,YH]
  rw [Qhn _ (by simp)]
  simp only [Ql,Jb,Jf]
  have hloop : loop (Qdf p 1000) 0 = some (oi (fs (Zc p.Noise.length) 0 p.Maps)):=by
    refine YG p.Maps _ (fun k hk=>?_) ?_
    · unfold Qdf
      rw [XA hk,XT hk]
      simp only [cond_true,Ql,Jd]
      have hm:=List.getElem_mem hk
      generalize hrows : p.Maps[k] = rows at *
      unfold Zc
      by_cases hn : rows.length = p.Noise.length
      · simp only [hn,decide_true,Bool.not_true,cond_false,ne_eq,not_true_eq_false,if_false]
        have hin : loop (Qde rows p 1000 (k : Int)) 0 = some (oi ((fs (Zg p.Noise.length k) 0 rows).map fun r=>(.inr (.inl r) : Int ⊕ ((LevitateMark × Int) ⊕ Unit)))):=by
          rw [YG rows (fun i row=>(Zg p.Noise.length k i row).map fun r=>(.inr (.inl r) : Int ⊕ ((LevitateMark × Int) ⊕ Unit)))]
          · congr 2
            have : ∀ (l : List (List Int)) j,fs (fun i row=>(Zg p.Noise.length k i row).map fun r=>(.inr (.inl r) : Int ⊕ ((LevitateMark × Int) ⊕ Unit))) j l = (fs (Zg p.Noise.length k) j l).map fun r=>.inr (.inl r):=by
              intro l
              induction l with
              | nil=>intro j; rfl
              | cons x xs ih =>
                intro j
                simp only [fs]
                cases Zg p.Noise.length k j x with
                | some r=>rfl
                | none=>exact ih _
            exact this rows 0
          · intro i hi
            unfold Qde
            rw [XA hi,XT hi]
            have hr:=h.row _ hm _ (List.getElem_mem hi)
            simp only [cond_true,Ql,YH,Qcp _ 1000 (by decide) hr,Zq,Jd,Xy i (by have:=h.rows _ hm; omega)]
            unfold Zg
            by_cases h1 : rows[i].length = p.Noise.length
            · by_cases h2 : rows[i].all (Xp 1000) = true
              · simp [h1,h2,X6]
              · simp [h1,h2,X6]
            · simp [h1,X6]
          · unfold Qde
            rw [XB]; rfl
        rw [hin]
        cases fs (Zg p.Noise.length k) 0 rows with
        | some r=>rfl
        | none=>simp only [Ql,Option.map_none,oi,Xx,X6]; rw [Xy k (by have:=h.maps; omega)]
      · simp [hn,X6]
    · unfold Qdf
      rw [XB]; rfl
  rw [hloop]
  have e1 : (decide ((0 : Int) < (p.Noise.length : Int))) = !decide (p.Noise.length = 0):=by rw [Bool.eq_iff_iff,Bool.not_eq_true',decide_eq_true_iff,decide_eq_false_iff_not]; omega
  have e2 : (decide ((p.Noise.length : Int) ≤ 3)) = !decide (3 < p.Noise.length):=by rw [Bool.eq_iff_iff]; simp; omega
  have e3 : (decide ((0 : Int) < (p.Maps.length : Int))) = !decide (p.Maps.length = 0):=by rw [Bool.eq_iff_iff,Bool.not_eq_true',decide_eq_true_iff,decide_eq_false_iff_not]; omega
  have e4 : (decide ((p.Maps.length : Int) ≤ 4)) = !decide (4 < p.Maps.length):=by rw [Bool.eq_iff_iff]; simp; omega
  have e5 : (decide (1 ≤ p.Den) && decide (p.Den ≤ 1000)) = decide (1 ≤ p.Den ∧ p.Den ≤ 1000):=by rw [Bool.eq_iff_iff]; simp
  rw [e1,e2,e3,e4,e5]
  unfold Yw
  by_cases h1 : 1 ≤ p.Den ∧ p.Den ≤ 1000 <;> by_cases h2 : p.Noise.length = 0 <;> by_cases h3 : 3 < p.Noise.length <;> cases h4 : p.Noise.any JM <;> by_cases h5 : p.Maps.length = 0 <;> by_cases h6 : 4 < p.Maps.length <;>
    simp only [h1,h2,h3,h5,h6,decide_true,decide_false,cond_true,cond_false,Bool.not_true,Bool.not_false,if_true,if_false,not_true_eq_false,not_false_eq_true,Ql] <;>
    (cases fs (Zc p.Noise.length) 0 p.Maps <;> rfl)
end Go.Gw

end
