/- Laws of the walk. Condition: each theorem says its own. -/
import Derived.Test.YtbplgfhjpeeieaaGwTwin
import Derived.Test.YtbplgfhjpeeieaaGwPlan
import Derived.IntWalk
set_option linter.unusedVariables false
set_option linter.unusedSimpArgs false
set_option linter.unusedSectionVars false
section
set_option maxRecDepth 1000000
namespace Go.Gw
open Go
theorem QDd : Qxa 60 = some true:=by decide +kernel
theorem QDc : Qjn = some true:=QKr _ QDd
end Go.Gw

end
section
set_option linter.unusedSectionVars false
namespace Go.Gw
open Go

theorem Yi {x : Int} (h : -9223372036854775808 ≤ x ∧ x ≤ 9223372036854775807) : w64 x = x:=Go.IntWalk.i64_in x h

def Runs {α : Type} (e : Option α) (Q : α → Prop) : Prop:=∃ a,e = some a ∧ Q a

section
variable {α β σ μ : Type} {Q : α → Prop} {e e' : Option α}
theorem Runs.some {a : α} (h : Q a) : Runs (some a) Q:=⟨a,rfl,h⟩
theorem Runs.bind {e : Option β} {f : β → Option α} (h : Runs e fun b=>Runs (f b) Q) : Runs (e.bind f) Q:=by
  obtain ⟨b,rfl,a,ha,hq⟩:=h; exact ⟨a,ha,hq⟩
theorem Runs.mono {Q' : α → Prop} (h : Runs e Q) (hm : ∀ a,Q a → Q' a) : Runs e Q':=by obtain ⟨a,ha,hq⟩:=h; exact ⟨a,ha,hm _ hq⟩
theorem Runs.eq {a : α} (h : Runs e (· = a)) : e = .some a:=by obtain ⟨b,hb,rfl⟩:=h; exact hb
theorem Runs.call {e : Option β} {f : β → Option α} {b : β} (h : e = .some b) (hq : Runs (f b) Q) : Runs (e.bind f) Q:=by subst h; exact hq
theorem Runs.bif {b : Bool} (ht : b = true → Runs e Q) (hf : b = false → Runs e' Q) : Runs (bif b then e else e') Q:=by
  cases b
  · exact hf rfl
  · exact ht rfl
theorem Runs.jl {b : α} {f : μ → Option α} (h : Q b) : Runs (jn0 (.inl b) f) Q:=⟨b,rfl,h⟩
theorem Runs.j {o : α ⊕ μ} {f : μ → Option α} (hl : ∀ b,o = .inl b → Q b) (hr : ∀ m,o = .inr m → Runs (f m) Q) : Runs (jn0 o f) Q:=by
  cases o with
  | inl b=>exact Runs.jl (hl b rfl)
  | inr m=>exact hr m rfl

def Rnd (I : σ → Prop) (m : σ → Nat) (Q : β → Prop) (s : σ) : σ ⊕ β → Prop
  | .inl s'=>I s' ∧ m s' < m s
  | .inr o=>Q o
theorem Runs.loop {step : σ → Option (σ ⊕ β)} {s : σ} {Q : β → Prop} (I : σ → Prop) (m : σ → Nat) (h0 : I s) (h : ∀ s,I s → Runs (step s) (Rnd I m Q s)) : Runs (Gw.loop step s) Q:=by
  generalize hk : m s = k
  induction k using Nat.strongRecOn generalizing s with
  | _ k ih =>
    obtain ⟨x,hx,hq⟩:=h s h0
    cases x with
    | inl s' =>
      rw [Qjp hx]
      exact ih (m s') (by have:=hq.2; omega) hq.1 rfl
    | inr o=>rw [Qdt hx]; exact ⟨o,rfl,hq⟩
theorem Zu {step : σ → Option (σ ⊕ β)} {o : β} (S : Nat → σ) (n : Nat) (h : ∀ k,k < n → step (S k) = .some (.inl (S (k + 1)))) (he : step (S n) = .some (.inr o)) : Gw.loop step (S 0) = .some o:=by
  have key : ∀ j k,j + k = n → Gw.loop step (S k) = .some o:=by
    intro j
    induction j with
    | zero => intro k hk; obtain rfl : k = n := by omega
              exact Qdt he
    | succ j ih=>intro k hk; rw [Qjp (h k (by omega))]; exact ih (k + 1) (by omega)
  exact key n 0 (by omega)

theorem Runs.idx {xs : List β} {i : Int} {f : β → Option α} (h0 : 0 ≤ i) (h1 : i < xs.length) (h : ∀ x,xs[i.toNat]? = .some x → Runs (f x) Q) : Runs ((Gw.idx xs i).bind f) Q:=by
  have hl : i.toNat < xs.length:=by omega
  have e : Gw.idx xs i = .some xs[i.toNat]:=by unfold Gw.idx; rw [if_pos h0,List.getElem?_eq_getElem hl]
  exact Runs.call e (h _ (List.getElem?_eq_getElem hl))
theorem Xy {xs : List β} {k : Nat} (h : k < xs.length) : Gw.idx xs (k : Int) = .some xs[k]:=by
  unfold Gw.idx; rw [if_pos (by omega),Int.toNat_natCast,List.getElem?_eq_getElem h]
theorem Xy? {xs : List β} {k : Nat} : Gw.idx xs (k : Int) = xs[k]?:=by
  unfold Gw.idx; rw [if_pos (by omega),Int.toNat_natCast]
theorem JZ {xs ys : List β} (h : xs.length + ys.length ≤ 1073741824) : app xs ys = .some (xs ++ ys):=by unfold app; rw [if_pos h]
theorem QCz {xs ys : List β} (h : xs.length + ys.length ≤ 17592186044416) : Qcy xs ys = .some (xs ++ ys):=by unfold Qcy; rw [if_pos h]
end
end Go.Gw

end
section
set_option linter.unusedSectionVars false
namespace Go.Gw
section
variable {α β γ σ ρ : Type}
def X2 (p : α → Bool) (res : Nat → α → ρ) : Nat → List α → ρ ⊕ Unit
  | _,[]=>.inr ()
  | k,x :: xs=>if p x then .inl (res k x) else X2 p res (k + 1) xs
theorem Z4 {step : Int → Option (Int ⊕ (ρ ⊕ Unit))} (xs : List α) (p : α → Bool) (res : Nat → α → ρ)
    (hs : ∀ k (hk : k < xs.length),step (k : Int) = (bif p xs[k] then some (.inr (.inl (res k xs[k]))) else some (.inl ((k + 1 : Nat) : Int))))
    (he : step (xs.length : Int) = some (.inr (.inr ()))) : loop step 0 = some (X2 p res 0 xs):=by
  have key : ∀ j k,j + k = xs.length → loop step (k : Int) = some (X2 p res k (xs.drop k)):=by
    intro j
    induction j with
    | zero =>
      intro k hk
      obtain rfl : k = xs.length:=by omega
      rw [List.drop_length]
      exact Qdt he
    | succ j ih =>
      intro k hk
      have hlt : k < xs.length:=by omega
      rw [List.drop_eq_getElem_cons hlt]
      have:=hs k hlt
      cases hp : p xs[k] with
      | true=>rw [hp] at this; simp only [X2,hp,if_true]; exact Qdt this
      | false=>rw [hp] at this; simp only [X2,hp]; rw [Qjp this]; exact ih (k + 1) (by omega)
  have:=key xs.length 0 (by omega)
  simpa using this

def fld (f : Nat → γ → α → γ) : Nat → γ → List α → γ
  | _,a,[]=>a
  | k,a,x :: xs=>fld f (k + 1) (f k a x) xs
def rng (f : Nat → γ → γ) (a : γ) : Nat → γ
  | 0=>a
  | n + 1=>f n (rng f a n)
theorem XN (k : Nat) (h : k < 4611686018427387904) : w64 ((k : Int) + 1) = ((k + 1 : Nat) : Int):=by rw [Yi (by omega)]; omega
theorem XK {k n : Nat} (h : k < n) : decide ((k : Int) < (n : Int)) = true:=by simp; omega
theorem XL (n : Nat) : decide ((n : Int) < (n : Int)) = false:=by simp
end
end Go.Gw

end
section
set_option maxRecDepth 4096
namespace Go.Gw
open Go

def ZP : List Int → Int
  | []=>0
  | x :: xs=>if x = 0 then ZP xs else x
theorem Qar (l : List Int) (hl : l.length < 1073741824) : Zw l = some (ZP l):=by
  unfold Zw
  rw [Z4 l (fun x=>!decide (x = 0)) (fun _ x=>x)]
  · have key : ∀ (l : List Int) k, (jn0 (X2 (fun x => !decide (x = 0)) (fun _ x => x) k l) fun (_ : Unit) => some 0) = some (ZP l) := by
      intro l
      induction l with
      | nil=>intro k; rfl
      | cons x xs ih =>
        intro k
        by_cases h : x = 0
        · simp [X2,ZP,h]; exact ih _
        · simp [X2,ZP,h,jn0]
    simpa using key l 0
  · intro k hk
    unfold Qiy
    rw [XK hk,Xy hk,XN k (by omega)]; rfl
  · unfold Qiy
    rw [XL]; rfl
theorem JX (b : Bool) (e : Int) : Yk b e = some (bif b then 0 else e):=by cases b <;> rfl
theorem Qbo (n lo hi : Int) : Z0 n lo hi = some (decide (lo ≤ n) && decide (n ≤ hi)):=rfl
theorem Qbw (n lo hi : Int) : JA n lo hi = some (decide (lo ≤ n) && decide (n ≤ hi)):=rfl
theorem QSq (n m : Int) (h : 0 ≤ m) (h2 : m ≤ 9223372036854775807) : Qdo n m = some (decide (-m ≤ n) && decide (n ≤ m)):=by
  unfold Qdo
  rw [Yi (by omega),Qbo,Int.zero_sub]; rfl
theorem Qll {α : Type} (p : α → Bool) : ∀ (l : List α) (k : Nat),(jn0 (β:=Int) (X2 p (fun k _=>(k : Int)) k l) fun (_ : Unit)=>some (-1)) = some (match X2 p (fun k _=>(k : Int)) k l with | .inl i=>i | .inr _=>-1)
  | l,k=>by cases X2 p (fun k _=>(k : Int)) k l <;> rfl
theorem Qra {α : Type} (p : α → Bool) : ∀ (l : List α) (k : Nat),decide (0 ≤ (match X2 p (fun k _=>(k : Int)) k l with | .inl i=>i | .inr _=>(-1 : Int))) = l.any p
  | [],k=>by simp [X2]
  | x :: xs,k=>by
    by_cases h : p x = true
    · simp [X2,h]
    · simp only [X2,h,List.any_cons]
      have:=Qra p xs (k + 1)
      simpa [h] using this
theorem Qbk {α ρ : Type} {p : α → Bool} {res : Nat → α → ρ} : ∀ (l : List α) (k : Nat),(X2 p res k l = .inr () ∧ l.any p = false) ∨ ∃ j x,X2 p res k l = .inl (res j x) ∧ p x = true ∧ l.any p = true
  | [],k=>.inl ⟨rfl,rfl⟩
  | x :: xs,k=>by
    by_cases h : p x = true
    · exact .inr ⟨k,x,by simp [X2,h],h,by simp [h]⟩
    · rcases Qbk xs (k + 1) (p:=p) (res:=res) with ⟨h1,h2⟩ | ⟨j,y,h1,h2,h3⟩
      · exact .inl ⟨by simp [X2,h,h1],by simp [h,h2]⟩
      · exact .inr ⟨j,y,by simp [X2,h,h1],h2,by simp [h3]⟩
/-! ### Ladders -/
end Go.Gw

end
section
set_option maxRecDepth 4096
namespace Go.Gw
open Go
def Yc (f : Nat → Int) (n : Nat) : Option Nat:=(List.range n).find? fun i=>decide (f i ≠ 0)
theorem Qaq (f : Nat → Int) (n : Nat) : (Yc f n = none ∧ ∀ j,j < n → f j = 0) ∨ ∃ i,Yc f n = some i ∧ i < n ∧ f i ≠ 0 ∧ ∀ j,j < i → f j = 0:=by
  cases h : Yc f n with
  | none =>
    refine .inl ⟨rfl,fun j hj=>?_⟩
    have:=List.find?_eq_none.1 h j (List.mem_range.2 hj)
    simpa using this
  | some i =>
    right
    obtain ⟨h1,h2,h3⟩:=List.find?_range_eq_some.1 h
    exact ⟨i,rfl,List.mem_range.1 h2,by simpa using h1,fun j hj=>by have:=h3 j hj; simpa using this⟩
theorem J6 {σ ρ μ : Type} {step : σ → Option (σ ⊕ (ρ ⊕ μ))} (S : Nat → σ) (n : Nat) (f : Nat → Int) (res : Nat → Int → ρ) (o : μ)
    (hs : ∀ k,k < n → (∀ j,j < k → f j = 0) → step (S k) = if f k = 0 then some (.inl (S (k + 1))) else some (.inr (.inl (res k (f k))))) (he : (∀ j,j < n → f j = 0) → step (S n) = some (.inr (.inr o))) :
    loop step (S 0) = some (match Yc f n with | some i=>.inl (res i (f i)) | none=>.inr o):=by
  rcases Qaq f n with ⟨h1,h2⟩ | ⟨i,h1,h2,h3,h4⟩
  · rw [h1]
    exact Zu S n (fun k hk=>by rw [hs k hk fun j hj=>h2 j (by omega),if_pos (h2 k hk)]) (he h2)
  · rw [h1]
    exact Zu S i (fun k hk=>by rw [hs k (by omega) fun j hj=>h4 j (by omega),if_pos (h4 k hk)]) (by rw [hs i h2 h4,if_neg h3])
/-! ### Names -/
def Qeu (q : Int × Nat) : Bool:=(!(((decide (97 ≤ q.1)) && (decide (q.1 ≤ 122))) || ((decide (65 ≤ q.1)) && (decide (q.1 ≤ 90))))) && ((decide ((q.2 : Int) = 0)) || ((!decide (q.1 = 45)) && ((decide (q.1 < 48)) || (decide (57 < q.1)))))
def bi (s : ByteArray) : List Int:=bl s
theorem Qie (s : ByteArray) : (bi s).length = s.size:=Qba s
theorem Qws {s : ByteArray} {k : Nat} (h : k < (bi s).length) : idx (α:=Int) (bl s) (k : Int) = some (bi s)[k]:=Xy (xs:=bi s) h
def Qbi (s : ByteArray) : Bool:=decide (1 ≤ s.size) && (decide (s.size ≤ 12) && !((bi s).zipIdx.any Qeu))
theorem QAa (s : ByteArray) : s = ByteArray.mk #[] ↔ s.size = 0:=by
  constructor
  · intro h; subst h; rfl
  · intro h
    cases s with
    | mk d =>
      congr 1
      exact Array.eq_empty_of_size_eq_zero h
theorem Qrv (s : ByteArray) : Qew s = some (Qbi s):=by
  unfold Qew Qbi
  have hlen : (bi s).zipIdx.length = s.size:=by rw [List.length_zipIdx,Qie]
  by_cases h : 1 ≤ s.size ∧ s.size ≤ 12
  · have : (decide ((s.size : Int) < 1) || decide (12 < (s.size : Int))) = false := by
      rw [decide_eq_false (by omega),decide_eq_false (by omega)]; rfl
    rw [this,cond_false,Z4 (bi s).zipIdx Qeu (fun _ _=>false),Qv]
    · rcases Qbk (p:=Qeu) (res:=fun _ _=>false) (bi s).zipIdx 0 with ⟨k1,k2⟩ | ⟨j,x,k1,k2,k3⟩
      · rw [k1,k2]; simp [h,jn0]
      · rw [k1,k3]; simp [jn0]
    · intro k hk
      rw [hlen] at hk
      unfold Qmu
      rw [XK hk,cond_true,Qws (show k < (bi s).length by rw [Qie]; exact hk),Qv,XN k (by omega)]
      simp only [List.getElem_zipIdx,Nat.zero_add]
      rfl
    · rw [hlen]
      unfold Qmu
      rw [XL]; rfl
  · have : (decide ((s.size : Int) < 1) || decide (12 < (s.size : Int))) = true := by
      by_cases h1 : s.size < 1
      · rw [decide_eq_true (by omega)]; rfl
      · rw [decide_eq_true (p:=12 < (s.size : Int)) (by omega)]; simp
    rw [this,cond_true]
    congr 1
    by_cases h1 : 1 ≤ s.size
    · rw [decide_eq_false (p:=s.size ≤ 12) (by omega)]; simp
    · rw [decide_eq_false h1]; rfl
theorem QFg (s : ByteArray) (hs : s.size ≤ 1000) : Qfm s = some (Qbi s):=by
  unfold Qfm Qbi
  have hlen : (bi s).zipIdx.length = s.size:=by rw [List.length_zipIdx,Qie]
  have ht : tob s = some (bl s):=by unfold tob; rw [if_pos (by omega)]
  rw [ht,Qv,Z4 (bi s).zipIdx Qeu (fun _ _=>false),Qv]
  · rcases Qbk (p:=Qeu) (res:=fun _ _=>false) (bi s).zipIdx 0 with ⟨k1,k2⟩ | ⟨j,x,k1,k2,k3⟩
    · rw [k1,k2]
      simp only [jn0,Bool.not_false,Bool.and_true,Option.some.injEq]
      by_cases h0 : s.size = 0
      · rw [decide_eq_true ((QAa s).2 h0),decide_eq_false (show ¬ 1 ≤ s.size by omega)]; rfl
      · rw [decide_eq_false (fun e=>h0 ((QAa s).1 e)),decide_eq_true (show 1 ≤ s.size by omega)]
        simp only [Bool.not_false,Bool.true_and]
        by_cases h1 : s.size ≤ 12
        · rw [decide_eq_true h1,decide_eq_true (by omega)]
        · rw [decide_eq_false h1,decide_eq_false (by omega)]
    · rw [k1,k3]; simp [jn0]
  · intro k hk
    rw [hlen] at hk
    have hk2 : k < (bl s).length:=by rw [Qba]; exact hk
    unfold Qja
    rw [XK hk2,cond_true,Qws (show k < (bi s).length by rw [Qie]; exact hk),Qv,XN k (by omega)]
    simp only [List.getElem_zipIdx,Nat.zero_add]
    rfl
  · rw [hlen,show (s.size : Int) = ((bl s).length : Int) by rw [Qba]]
    unfold Qja
    rw [XL]; rfl
theorem QEa (l : List ByteArray) (v : ByteArray) (hl : l.length < 1000000) : Qhd l v = some (l.any fun x=>decide (v = x)):=by
  unfold Qhd Qlk
  rw [Z4 l (fun x=>decide (v = x)) (fun k _=>(k : Int)),Qv,Qll,Qv,Qra]
  · intro k hk
    unfold Qlj
    rw [XK hk,Xy hk,XN k (by omega)]; rfl
  · unfold Qlj
    rw [XL]; rfl
def Jj (s : ByteArray) (others : List ByteArray) : Int:=if Qbi s = false then 4 else if (others.any fun x=>decide (s = x)) = true then 5 else 0
theorem Qxl (s : ByteArray) (others : List ByteArray) (hs : s.size ≤ 1000) (hl : others.length < 1000000) : Qde s others = some (Jj s others):=by
  unfold Qde Jj
  rw [QFg s hs,Qv,JX,Qv,QEa _ _ hl,Qv,JX,Qv,Qar _ (by simp),Qv]
  cases Qbi s <;> cases (others.any fun x=>decide (s = x)) <;> simp [ZP]
end Go.Gw

end
section
set_option maxRecDepth 4096
namespace Go.Gw
open Go
theorem Qif {α : Type} {c : Bool} {a b : α} : (bif c then some a else some b) = some (bif c then a else b):=by cases c <;> rfl
def Qql (l r il ir eq sh lo s0 s1 : Bool) : Int:=bif (!(l || il)) || !(r || ir) then 6 else bif l && r then 23 else bif eq then 26 else bif !(sh && lo) then 2 else bif (l && !s0) || (r && !s1) then 3 else 0
def Zq (s : FeedSection) (n : Nat) : Int:=Qql (decide (s.Left = -1)) (decide (s.Right = -1)) (decide (0 ≤ s.Left) && decide (s.Left ≤ (n : Int) - 1)) (decide (0 ≤ s.Right) && decide (s.Right ≤ (n : Int) - 1)) (decide (s.Left = s.Right))
  (decide (0 ≤ s.Share) && decide (s.Share ≤ 1000)) (decide (0 ≤ s.Loss) && decide (s.Loss ≤ 500)) (decide (s.Share = 0)) (decide (s.Share = 1000))
theorem QFn (s : FeedSection) (n : Nat) (hn : n < 1000) : Qfw s (n : Int) = some (Zq s n):=by
  unfold Qfw Qfv Zq
  rw [Yi (by omega)]
  simp only [JX,Qbo,Qv,Qif]
  rw [Qar _ (by simp),Qv]
  congr 1
  generalize decide (s.Left = -1) = l
  generalize decide (s.Right = -1) = r
  generalize (decide (0 ≤ s.Left) && decide (s.Left ≤ (n : Int) - 1)) = il
  generalize (decide (0 ≤ s.Right) && decide (s.Right ≤ (n : Int) - 1)) = ir
  generalize decide (s.Left = s.Right) = eq
  generalize (decide (0 ≤ s.Share) && decide (s.Share ≤ 1000)) = sh
  generalize (decide (0 ≤ s.Loss) && decide (s.Loss ≤ 500)) = lo
  generalize decide (s.Share = 0) = s0
  generalize decide (s.Share = 1000) = s1
  revert l r il ir eq sh lo s0 s1
  decide +kernel
theorem QPj (m : FeedNet) (s : FeedSection) (hn : m.Stations.length < 1000) : Qks m s = some (Zq s m.Stations.length):=by
  unfold Qks Qee Zq
  rw [Yi (by omega)]
  simp only [Qbw,Qv,Qif]
  congr 1
  generalize decide (s.Left = -1) = l
  generalize decide (s.Right = -1) = r
  generalize (decide (0 ≤ s.Left) && decide (s.Left ≤ (m.Stations.length : Int) - 1)) = il
  generalize (decide (0 ≤ s.Right) && decide (s.Right ≤ (m.Stations.length : Int) - 1)) = ir
  generalize decide (s.Left = s.Right) = eq
  generalize (decide (0 ≤ s.Share) && decide (s.Share ≤ 1000)) = sh
  generalize (decide (0 ≤ s.Loss) && decide (s.Loss ≤ 500)) = lo
  generalize decide (s.Share = 0) = s0
  generalize decide (s.Share = 1000) = s1
  revert l r il ir eq sh lo s0 s1
  decide +kernel
def Jr (s : FeedStep) (n : Nat) : Int:=bif !(decide (0 ≤ s.Section) && decide (s.Section ≤ (n : Int) - 1)) then 6 else bif !(decide (-20000 ≤ s.Power) && decide (s.Power ≤ 20000)) then 2 else 0
def Qlm (l : List FeedStep) (n : Nat) : Int:=match Yc (fun i=>(l[i]?.map (Jr · n)).getD 0) l.length with | some i=>(l[i]?.map (Jr · n)).getD 0 | none=>0
def QBw (e1 e2 : Bool) (o : Bool) (z : Bool) (m : Bool) (st : Int) : Int:=bif !(e1 && e2) then 2 else bif !o then 9 else bif !z then 10 else bif !m then 8 else st
def JM (t : FeedTrain) (n : Nat) : Int:=QBw (decide (0 ≤ t.Earliest) && decide (t.Earliest ≤ 1000)) (decide (0 ≤ t.Latest) && decide (t.Latest ≤ 1000)) (decide (t.Earliest ≤ t.Latest)) (decide (0 < (t.Steps.length : Int))) (decide ((t.Steps.length : Int) ≤ 12)) (Qlm t.Steps n)
theorem Qpb (l : List FeedStep) (n k : Nat) (hk : k < l.length) : (l[k]?.map (Jr · n)).getD 0 = Jr l[k] n:=by rw [List.getElem?_eq_getElem hk]; rfl
theorem QFr (t : FeedTrain) (n : Nat) (hn : n < 1000) (ht : t.Steps.length < 1000) : Qfz t (n : Int) = some (JM t n):=by
  have key : loop (Qfy (n : Int) t) 0 = some (match Yc (fun i=>(t.Steps[i]?.map (Jr · n)).getD 0) t.Steps.length with | some i=>.inl ((t.Steps[i]?.map (Jr · n)).getD 0) | none=>.inr ()) :=
    J6 (fun k=>(k : Int)) t.Steps.length _ (fun _ e=>e) () (fun k hk _=>by
      rw [Qpb _ _ _ hk]
      unfold Qfy Jr
      rw [XK hk,cond_true,Xy hk,Qv,XN k (by omega),Yi (by omega)]
      simp only [JX,Qbo,Qv]
      rw [QSq _ _ (by omega) (by omega)]
      simp only [JX,Qv]
      rw [Qar _ (by simp),Qv]
      generalize (decide (0 ≤ t.Steps[k].Section) && decide (t.Steps[k].Section ≤ (n : Int) - 1)) = a
      generalize (decide (-20000 ≤ t.Steps[k].Power) && decide (t.Steps[k].Power ≤ 20000)) = b
      cases a <;> cases b <;> rfl) (fun _=>by
      unfold Qfy
      rw [XL]; rfl)
  unfold Qfz Qbz
  rw [key]
  unfold JM Qlm
  simp only [JX,Qbo,Qv,Qif]
  rw [Qar _ (by simp),Qv]
  generalize (decide (0 ≤ t.Earliest) && decide (t.Earliest ≤ 1000)) = e1
  generalize (decide (0 ≤ t.Latest) && decide (t.Latest ≤ 1000)) = e2
  generalize decide (t.Earliest ≤ t.Latest) = o
  generalize decide (0 < (t.Steps.length : Int)) = z
  generalize decide ((t.Steps.length : Int) ≤ 12) = m
  cases Yc (fun i=>(t.Steps[i]?.map (Jr · n)).getD 0) t.Steps.length with
  | none=>cases e1 <;> cases e2 <;> cases o <;> cases z <;> cases m <;> rfl
  | some i=>cases e1 <;> cases e2 <;> cases o <;> cases z <;> cases m <;> rfl
theorem QPm (m : FeedNet) (t : FeedTrain) (hn : m.Sections.length < 1000) (ht : t.Steps.length < 1000) : Qkw m t = some (JM t m.Sections.length):=by
  have key : loop (Qkv m t) 0 = some (match Yc (fun i=>(t.Steps[i]?.map (Jr · m.Sections.length)).getD 0) t.Steps.length with | some i=>.inl ((t.Steps[i]?.map (Jr · m.Sections.length)).getD 0) | none=>.inr ()) :=
    J6 (fun k=>(k : Int)) t.Steps.length _ (fun _ e=>e) () (fun k hk _=>by
      rw [Qpb _ _ _ hk]
      unfold Qkv Qqc Jr
      rw [XK hk,cond_true,Xy hk,Qv,XN k (by omega),Yi (by omega)]
      simp only [Qbw,Qv]
      generalize (decide (0 ≤ t.Steps[k].Section) && decide (t.Steps[k].Section ≤ (m.Sections.length : Int) - 1)) = a
      generalize (decide (-20000 ≤ t.Steps[k].Power) && decide (t.Steps[k].Power ≤ 20000)) = b
      cases a <;> cases b <;> rfl) (fun _=>by
      unfold Qkv
      rw [XL]; rfl)
  unfold Qkw
  rw [key]
  unfold JM Qlm
  simp only [Qbw,Qv,Qif]
  rw [show decide (t.Latest < t.Earliest) = !decide (t.Earliest ≤ t.Latest) by rw [← decide_not]; congr 1; exact propext (by omega),
    show decide ((t.Steps.length : Int) = 0) = !decide (0 < (t.Steps.length : Int)) by rw [← decide_not]; congr 1; exact propext (by omega),
    show decide (12 < (t.Steps.length : Int)) = !decide ((t.Steps.length : Int) ≤ 12) by rw [← decide_not]; congr 1; exact propext (by omega)]
  generalize (decide (0 ≤ t.Earliest) && decide (t.Earliest ≤ 1000)) = e1
  generalize (decide (0 ≤ t.Latest) && decide (t.Latest ≤ 1000)) = e2
  generalize decide (t.Earliest ≤ t.Latest) = o
  generalize decide (0 < (t.Steps.length : Int)) = z
  generalize decide ((t.Steps.length : Int) ≤ 12) = q
  cases Yc (fun i=>(t.Steps[i]?.map (Jr · m.Sections.length)).getD 0) t.Steps.length with
  | none=>cases e1 <;> cases e2 <;> cases o <;> cases z <;> cases q <;> rfl
  | some i=>cases e1 <;> cases e2 <;> cases o <;> cases z <;> cases q <;> rfl
end Go.Gw

end
section
set_option maxRecDepth 4096
namespace Go.Gw
open Go
def stE (s : FeedStation) (others : List ByteArray) : Int:=if Jj s.Name others ≠ 0 then Jj s.Name others else bif !(decide (0 ≤ s.Limit) && decide (s.Limit ≤ 100000)) then 2 else 0
def ZU (n : FeedNet) (i : Nat) : Int:=(n.Stations[i]?.map fun s=>stE s ((n.Stations.take i).map (·.Name))).getD 0
def ZS (n : FeedNet) (i : Nat) : Int:=(n.Sections[i]?.map fun s=>Zq s n.Stations.length).getD 0
def trE (t : FeedTrain) (others : List ByteArray) (n : Nat) : Int:=if Jj t.Name others ≠ 0 then Jj t.Name others else JM t n
def Zz (n : FeedNet) (i : Nat) : Int:=(n.Trains[i]?.map fun t=>trE t ((n.Trains.take i).map (·.Name)) n.Sections.length).getD 0
def Zg (n : FeedNet) : FeedMark × Int :=
  if n.Stations.length = 0 ∨ n.Sections.length = 0 then (FeedMark.mk 0 0,10) else if 6 < n.Stations.length ∨ 10 < n.Sections.length ∨ 6 < n.Trains.length then (FeedMark.mk 0 0,8) else
  match Yc (ZU n) n.Stations.length with
  | some i=>(FeedMark.mk 1 i,ZU n i)
  | none=>match Yc (ZS n) n.Sections.length with
    | some i=>(FeedMark.mk 2 i,ZS n i)
    | none=>match Yc (Zz n) n.Trains.length with
      | some i=>(FeedMark.mk 3 i,Zz n i)
      | none=>(FeedMark.mk 0 0,0)
structure NetS (n : FeedNet) : Prop where
  st : n.Stations.length < 1000
  se : n.Sections.length < 1000
  tr : n.Trains.length < 1000
  sn : ∀ s ∈ n.Stations,s.Name.size ≤ 1000
  tn : ∀ t ∈ n.Trains,t.Name.size ≤ 1000 ∧ t.Steps.length < 1000
theorem Jh {α : Type} (l : List α) (f : α → Int) (k : Nat) (hk : k < l.length) : (l[k]?.map f).getD 0 = f l[k]:=by rw [List.getElem?_eq_getElem hk]; rfl
theorem Qln {α β : Type} (l : List α) (f : α → β) (k : Nat) (hk : k < l.length) : (l.take k).map f ++ [f l[k]] = (l.take (k + 1)).map f:=by
  rw [List.take_add_one,List.getElem?_eq_getElem hk,List.map_append]; rfl
theorem Qoz (a b : Int) : ZP [a,b] = if a ≠ 0 then a else b:=by
  by_cases h : a = 0
  · by_cases h2 : b = 0 <;> simp [ZP,h,h2]
  · simp [ZP,h]
section
variable {n : FeedNet} (h : NetS n)
include h
theorem QFp : loop (Qfg n) (([] : List ByteArray),0) = some (match Yc (ZU n) n.Stations.length with | some i=>.inl (FeedMark.mk 1 i,ZU n i) | none=>.inr ()) :=
  J6 (fun k=>((n.Stations.take k).map (·.Name),(k : Int))) n.Stations.length (ZU n) (fun i e=>(FeedMark.mk 1 i,e)) () (fun k hk _=>by
    have hst:=h.st
    have hs : ZU n k = stE n.Stations[k] ((n.Stations.take k).map (·.Name)):=Jh _ _ _ hk
    rw [hs]
    unfold Qfg stE
    simp only [XK hk,cond_true,Xy hk,Qv]
    rw [Qxl _ _ (h.sn _ (List.getElem_mem hk)) (by simp; omega),Qv]
    simp only [Qbo,JX,Qv]
    rw [Qar _ (by simp),Qv,Qoz]
    generalize (decide (0 ≤ n.Stations[k].Limit) && decide (n.Stations[k].Limit ≤ 100000)) = b
    by_cases h1 : Jj n.Stations[k].Name ((n.Stations.take k).map (·.Name)) = 0
    · simp only [h1,ne_eq,not_true_eq_false,if_false]
      cases b
      · rfl
      · simp only [cond_true,decide_true,Bool.not_true,cond_false,if_true]
        rw [JZ (by simp; omega),Qv,Qln n.Stations (·.Name) k hk,XN k (by omega)]
    · simp only [ne_eq,h1,not_false_eq_true,if_true,decide_false,Bool.not_false,cond_true,if_false]) (fun _=>by
    unfold Qfg
    simp only [XL]; rfl)
theorem QFo : loop (Qfh n) 0 = some (match Yc (ZS n) n.Sections.length with | some i=>.inl (FeedMark.mk 2 i,ZS n i) | none=>.inr ()) :=
  J6 (fun k=>(k : Int)) n.Sections.length (ZS n) (fun i e=>(FeedMark.mk 2 i,e)) () (fun k hk _=>by
    have hse:=h.se
    have hs : ZS n k = Zq n.Sections[k] n.Stations.length:=Jh _ _ _ hk
    rw [hs]
    unfold Qfh
    rw [XK hk,cond_true,Xy hk,Qv,QFn _ _ h.st,Qv,XN k (by omega)]
    by_cases h1 : Zq n.Sections[k] n.Stations.length = 0
    · simp [h1]
    · simp [h1]) (fun _=>by
    unfold Qfh
    rw [XL]; rfl)
theorem QFt : loop (Qfi n) (([] : List ByteArray),0) = some (match Yc (Zz n) n.Trains.length with | some i=>.inl (FeedMark.mk 3 i,Zz n i) | none=>.inr ()) :=
  J6 (fun k=>((n.Trains.take k).map (·.Name),(k : Int))) n.Trains.length (Zz n) (fun i e=>(FeedMark.mk 3 i,e)) () (fun k hk _=>by
    have hst:=h.tr
    have hs : Zz n k = trE n.Trains[k] ((n.Trains.take k).map (·.Name)) n.Sections.length:=Jh _ _ _ hk
    rw [hs]
    unfold Qfi trE
    simp only [XK hk,cond_true,Xy hk,Qv]
    rw [Qxl _ _ (h.tn _ (List.getElem_mem hk)).1 (by simp; omega),Qv,QFr _ _ h.se (h.tn _ (List.getElem_mem hk)).2,Qv]
    rw [Qar _ (by simp),Qv,Qoz]
    by_cases h1 : Jj n.Trains[k].Name ((n.Trains.take k).map (·.Name)) = 0
    · simp only [h1,ne_eq,not_true_eq_false,if_false]
      by_cases h2 : JM n.Trains[k] n.Sections.length = 0
      · simp only [h2,decide_true,Bool.not_true,cond_false,if_true]
        rw [JZ (by simp; omega),Qv,Qln n.Trains (·.Name) k hk,XN k (by omega)]
      · simp [h2]
    · simp only [ne_eq,h1,not_false_eq_true,if_true,decide_false,Bool.not_false,cond_true,if_false]) (fun _=>by
    unfold Qfi
    simp only [XL]; rfl)
theorem Qtf : Qfj n = some (Zg n):=by
  unfold Qfj Zg
  rw [QFp h,QFo h,QFt h]
  simp only [JX,Qv]
  rw [Qar _ (by simp),Qv,Qoz]
  by_cases h1 : n.Stations.length = 0 ∨ n.Sections.length = 0
  · rw [if_pos h1]
    have : (decide (0 < (n.Stations.length : Int)) && decide (0 < (n.Sections.length : Int))) = false:=by
      rw [Bool.eq_false_iff]; intro e; simp at e; omega
    rw [this]; rfl
  · rw [if_neg h1]
    have : (decide (0 < (n.Stations.length : Int)) && decide (0 < (n.Sections.length : Int))) = true:=by
      simp; omega
    rw [this]
    by_cases h2 : 6 < n.Stations.length ∨ 10 < n.Sections.length ∨ 6 < n.Trains.length
    · rw [if_pos h2]
      have : ((decide ((n.Stations.length : Int) ≤ 6) && decide ((n.Sections.length : Int) ≤ 10)) && decide ((n.Trains.length : Int) ≤ 6)) = false:=by
        rw [Bool.eq_false_iff]; intro e; simp at e; omega
      rw [this]; rfl
    · rw [if_neg h2]
      have : ((decide ((n.Stations.length : Int) ≤ 6) && decide ((n.Sections.length : Int) ≤ 10)) && decide ((n.Trains.length : Int) ≤ 6)) = true:=by
        simp; omega
      rw [this]
      cases Yc (ZU n) n.Stations.length with
      | some i=>rfl
      | none =>
        cases Yc (ZS n) n.Sections.length with
        | some i=>rfl
        | none =>
          cases Yc (Zz n) n.Trains.length with
          | some i=>rfl
          | none=>rfl
end
end Go.Gw

end
section
set_option maxRecDepth 4096
namespace Go.Gw
open Go
theorem QBf {α : Type} {p : α → Bool} : ∀ (l : List α) (k m : Nat) (hk : k < l.length),p l[k] = true → ∃ j : Nat,X2 p (fun k _=>(k : Int)) m l = .inl ((m + j : Nat) : Int) ∧ (j < k ↔ (l.take k).any p = true)
  | x :: xs,0,m,_,hp=>⟨0,by simp at hp; simp [X2,hp],by simp⟩
  | x :: xs,k + 1,m,hk,hp=>by
    by_cases hx : p x = true
    · exact ⟨0,by simp [X2,hx],by simp [hx]⟩
    · obtain ⟨j,h1,h2⟩:=QBf xs k (m + 1) (by simpa using hk) (by simpa using hp)
      refine ⟨j + 1,by simp only [X2,hx]; rw [← show m + 1 + j = m + (j + 1) by omega]; simpa using h1,?_⟩
      simp only [List.take_succ_cons,List.any_cons,hx]
      rw [← (show ((l : Bool) → (false || l) = l) from fun l=>by cases l <;> rfl) ((xs.take k).any p)] at h2
      constructor
      · intro h; simpa using h2.1 (by omega)
      · intro h; have:=h2.2 (by simpa using h); omega
theorem Qmp {α : Type} (f : α → ByteArray) (l : List α) (s : ByteArray) : ((l.map f).any fun x=>decide (s = x)) = l.any fun y=>decide (f y = s):=by
  rw [List.any_map]
  congr 1
  funext y
  exact decide_eq_decide.2 eq_comm
def Yq (n : FeedNet) (s : ByteArray) : Int:=match X2 (fun t : FeedTrain=>decide (t.Name = s)) (fun k _=>(k : Int)) 0 n.Trains with | .inl i=>i | .inr _=>-1
theorem Qpz (n : FeedNet) (s : ByteArray) (h : n.Trains.length < 1000000) : Qec n s = some (Yq n s):=by
  unfold Qec Yq
  rw [Z4 n.Trains (fun t=>decide (t.Name = s)) (fun k _=>(k : Int)),Qv,Qll]
  all_goals first
    | (intro k hk; unfold Qqa; rw [XK hk,cond_true,Xy hk,Qv,XN k (by omega)])
    | (unfold Qqa; rw [XL]; rfl)
    | rfl
section
variable {n : FeedNet} (h : NetS n)
include h
theorem QPl : loop (Qkf n) 0 = some (match Yc (ZU n) n.Stations.length with | some i=>.inl (FeedMark.mk 1 i,ZU n i) | none=>.inr ()) :=
  J6 (fun k=>(k : Int)) n.Stations.length (ZU n) (fun i e=>(FeedMark.mk 1 i,e)) () (fun k hk _=>by
    have hst:=h.st
    have hs : ZU n k = stE n.Stations[k] ((n.Stations.take k).map (·.Name)):=Jh _ _ _ hk
    have hlen : (n.Stations.take k).length = k:=by simp; omega
    have inner : loop (Qke n (k : Int)) 0 = some (X2 (fun y : FeedStation=>decide (y.Name = n.Stations[k].Name)) (fun _ _=>Sum.inr (α:=Int) (Sum.inl (β:=Unit) (FeedMark.mk 1 (k : Int),(5 : Int)))) 0 (n.Stations.take k)) :=
      Z4 (n.Stations.take k) _ _ (fun j hj=>by
        rw [hlen] at hj
        unfold Qke
        rw [XK hj,cond_true,Xy (show j < n.Stations.length by omega),Qv,Xy hk,Qv,XN j (by omega)]
        simp only [List.getElem_take]) (by
        rw [hlen]
        unfold Qke
        rw [XL]; rfl)
    rw [hs]
    unfold Qkf stE Jj
    rw [XK hk,cond_true,Xy hk,Qv,Qrv,Qv,inner,Qmp]
    cases hn : Qbi n.Stations[k].Name
    · rfl
    · simp only [Bool.not_true,cond_false,Qv]
      rcases Qbk (p:=fun y : FeedStation=>decide (y.Name = n.Stations[k].Name)) (res:=fun _ _=>Sum.inr (α:=Int) (Sum.inl (β:=Unit) (FeedMark.mk 1 (k : Int),(5 : Int)))) (n.Stations.take k) 0 with ⟨k1,k2⟩ | ⟨j,x,k1,k2,k3⟩
      · rw [k1,k2]
        simp only [jn0,Qv,Qbw,XN k (show k < 4611686018427387904 by omega)]
        generalize (decide (0 ≤ n.Stations[k].Limit) && decide (n.Stations[k].Limit ≤ 100000)) = b
        cases b <;> rfl
      · rw [k1,k3]; rfl) (fun _=>by
    unfold Qkf
    rw [XL]; rfl)
theorem QPk : loop (Qkg n) 0 = some (match Yc (ZS n) n.Sections.length with | some i=>.inl (FeedMark.mk 2 i,ZS n i) | none=>.inr ()) :=
  J6 (fun k=>(k : Int)) n.Sections.length (ZS n) (fun i e=>(FeedMark.mk 2 i,e)) () (fun k hk _=>by
    have hse:=h.se
    have hs : ZS n k = Zq n.Sections[k] n.Stations.length:=Jh _ _ _ hk
    rw [hs]
    unfold Qkg
    rw [XK hk,cond_true,Xy hk,Qv,QPj _ _ h.st,Qv,XN k (by omega)]
    by_cases h1 : Zq n.Sections[k] n.Stations.length = 0
    · simp [h1]
    · simp [h1]) (fun _=>by
    unfold Qkg
    rw [XL]; rfl)
theorem QPn : loop (Qkh n) 0 = some (match Yc (Zz n) n.Trains.length with | some i=>.inl (FeedMark.mk 3 i,Zz n i) | none=>.inr ()) :=
  J6 (fun k=>(k : Int)) n.Trains.length (Zz n) (fun i e=>(FeedMark.mk 3 i,e)) () (fun k hk _=>by
    have hst:=h.tr
    have hs : Zz n k = trE n.Trains[k] ((n.Trains.take k).map (·.Name)) n.Sections.length:=Jh _ _ _ hk
    obtain ⟨j,hj1,hj2⟩:=QBf (p:=fun t : FeedTrain=>decide (t.Name = n.Trains[k].Name)) n.Trains k 0 hk (by simp)
    have ht : Yq n n.Trains[k].Name = (j : Int):=by unfold Yq; rw [hj1]; simp
    rw [hs]
    unfold Qkh trE Jj
    rw [XK hk,cond_true,Xy hk,Qv,Qrv,Qv,Qmp]
    cases hn : Qbi n.Trains[k].Name
    · rfl
    · simp only [Bool.not_true,cond_false,Qv]
      rw [Qpz _ _ (by omega),ht,Qv,QPm _ _ h.se (h.tn _ (List.getElem_mem hk)).2,Qv,XN k (by omega)]
      cases ha : (n.Trains.take k).any (fun t=>decide (t.Name = n.Trains[k].Name)) with
      | true =>
        rw [decide_eq_true (show (j : Int) < k by have:=hj2.2 ha; omega)]; rfl
      | false =>
        rw [decide_eq_false (show ¬ (j : Int) < k by intro e; have:=hj2.1 (by omega); rw [ha] at this; cases this)]
        by_cases h2 : JM n.Trains[k] n.Sections.length = 0
        · simp [h2]
        · simp [h2]) (fun _=>by
    unfold Qkh
    rw [XL]; rfl)
theorem Qyv : Qki n = some (Zg n):=by
  unfold Qki Zg
  rw [QPl h,QPk h,QPn h]
  by_cases h1 : n.Stations.length = 0 ∨ n.Sections.length = 0
  · rw [if_pos h1]
    have : (decide ((n.Stations.length : Int) = 0) || decide ((n.Sections.length : Int) = 0)) = true:=by
      simp only [Bool.or_eq_true,decide_eq_true_eq]; omega
    rw [this]; rfl
  · rw [if_neg h1]
    have : (decide ((n.Stations.length : Int) = 0) || decide ((n.Sections.length : Int) = 0)) = false:=by
      rw [decide_eq_false (by omega),decide_eq_false (by omega)]; rfl
    rw [this,cond_false]
    by_cases h2 : 6 < n.Stations.length ∨ 10 < n.Sections.length ∨ 6 < n.Trains.length
    · rw [if_pos h2]
      have : ((decide (6 < (n.Stations.length : Int)) || decide (10 < (n.Sections.length : Int))) || decide (6 < (n.Trains.length : Int))) = true:=by
        simp only [Bool.or_eq_true,decide_eq_true_eq]; omega
      rw [this]; rfl
    · rw [if_neg h2]
      have : ((decide (6 < (n.Stations.length : Int)) || decide (10 < (n.Sections.length : Int))) || decide (6 < (n.Trains.length : Int))) = false:=by
        rw [decide_eq_false (by omega),decide_eq_false (by omega),decide_eq_false (by omega)]; rfl
      rw [this,cond_false]
      cases Yc (ZU n) n.Stations.length with
      | some i=>rfl
      | none =>
        cases Yc (ZS n) n.Sections.length with
        | some i=>rfl
        | none =>
          cases Yc (Zz n) n.Trains.length with
          | some i=>rfl
          | none=>rfl
end
end Go.Gw

end
section
set_option maxRecDepth 4096
namespace Go.Gw
open Go
theorem QEc (l : List FeedDeparture) (h : l.length < 1000000) : Qkj l = some l:=by
  unfold Qkj; rw [JZ (by simp; omega)]; rfl
theorem Qsv {n : FeedNet} (h : NetS n) : Qcg n = some n:=by
  have key : loop (Qkk n) (0,([] : List FeedTrain)) = some n.Trains :=
    Zu (fun k=>((k : Int),n.Trains.take k)) n.Trains.length (fun k hk=>by
      have hst:=h.tr
      have hsteps:=(h.tn _ (List.getElem_mem hk)).2
      unfold Qkk
      simp only [XK hk,cond_true,Xy hk,Qv]
      rw [JZ (by simp; omega),Qv,JZ (by simp; omega),Qv,XN k (by omega),List.nil_append]
      congr 3
      rw [List.take_add_one,List.getElem?_eq_getElem hk]; rfl) (by
      unfold Qkk
      simp only [XL,cond_false,List.take_length])
  unfold Qcg
  have h1:=h.st
  have h2:=h.se
  rw [JZ (by simp; omega),JZ (by simp; omega),key]
  rfl
def Qga (n : FeedNet) : Bool:=!(decide (8 < n.Stations.length) || decide (12 < n.Sections.length) || decide (8 < n.Trains.length)) && !(n.Stations.any fun s=>decide (20 < (s.Name.size : Int))) && !(n.Trains.any fun t=>decide (20 < (t.Name.size : Int)) || decide (14 < (t.Steps.length : Int)))
theorem QKa (n : FeedNet) : Qjk n = some (Qga n):=by
  unfold Qjk Qga
  by_cases h : 8 < n.Stations.length ∨ 12 < n.Sections.length ∨ 8 < n.Trains.length
  · have e1 : ((decide (8 < (n.Stations.length : Int)) || decide (12 < (n.Sections.length : Int))) || decide (8 < (n.Trains.length : Int))) = true := by
      simp only [Bool.or_eq_true,decide_eq_true_eq]; omega
    have e2 : (decide (8 < n.Stations.length) || decide (12 < n.Sections.length) || decide (8 < n.Trains.length)) = true:=by
      simp only [Bool.or_eq_true,decide_eq_true_eq]; omega
    rw [e1,e2]; rfl
  · have e1 : ((decide (8 < (n.Stations.length : Int)) || decide (12 < (n.Sections.length : Int))) || decide (8 < (n.Trains.length : Int))) = false := by
      rw [decide_eq_false (by omega),decide_eq_false (by omega),decide_eq_false (by omega)]; rfl
    have e2 : (decide (8 < n.Stations.length) || decide (12 < n.Sections.length) || decide (8 < n.Trains.length)) = false:=by
      rw [decide_eq_false (by omega),decide_eq_false (by omega),decide_eq_false (by omega)]; rfl
    rw [e1,e2,cond_false,Z4 n.Stations (fun s=>decide (20 < (s.Name.size : Int))) (fun _ _=>false),Qv,Z4 n.Trains (fun t=>decide (20 < (t.Name.size : Int)) || decide (14 < (t.Steps.length : Int))) (fun _ _=>false)]
    · rcases Qbk (p:=fun s : FeedStation=>decide (20 < (s.Name.size : Int))) (res:=fun _ _=>false) n.Stations 0 with ⟨k1,k2⟩ | ⟨j,x,k1,k2,k3⟩
      · rw [k1,k2]
        rcases Qbk (p:=fun t : FeedTrain=>decide (20 < (t.Name.size : Int)) || decide (14 < (t.Steps.length : Int))) (res:=fun _ _=>false) n.Trains 0 with ⟨k3,k4⟩ | ⟨j,x,k3,k4,k5⟩
        · rw [k3,k4]; rfl
        · rw [k3,k5]; rfl
      · rw [k1,k3]; rfl
    · intro k hk
      unfold Qpf
      rw [XK hk,cond_true,Xy hk,Qv,XN k (by omega)]
      cases h1 : decide (20 < (n.Trains[k].Name.size : Int)) <;> simp
    · unfold Qpf
      rw [XL]; rfl
    · intro k hk
      unfold Qpe
      rw [XK hk,cond_true,Xy hk,Qv,XN k (by omega)]
    · unfold Qpe
      rw [XL]; rfl
theorem QJz {n : FeedNet} (h : Qga n = true) : NetS n:=by
  unfold Qga at h
  simp only [Bool.and_eq_true,Bool.not_eq_true',Bool.or_eq_false_iff,decide_eq_false_iff_not,List.any_eq_false] at h
  obtain ⟨⟨⟨⟨h1,h2⟩,h3⟩,h4⟩,h5⟩:=h
  refine ⟨by omega,by omega,by omega,fun s hs=>?_,fun t ht=>?_⟩
  · have:=h4 s hs; simp at this; omega
  · have:=h5 t ht; simp at this; omega
def Qha (l : List FeedDeparture) : Bool:=!(decide (8 < l.length)) && !(l.any fun d=>decide (20 < (d.Train.size : Int)))
theorem QQz (l : List FeedDeparture) : Qjo l = some (Qha l):=by
  unfold Qjo Qha
  by_cases h : 8 < l.length
  · rw [decide_eq_true (show 8 < (l.length : Int) by omega),decide_eq_true h]; rfl
  · rw [decide_eq_false (show ¬ 8 < (l.length : Int) by omega),decide_eq_false h,cond_false,Z4 l (fun d=>decide (20 < (d.Train.size : Int))) (fun _ _=>false)]
    · rcases Qbk (p:=fun d : FeedDeparture=>decide (20 < (d.Train.size : Int))) (res:=fun _ _=>false) l 0 with ⟨k1,k2⟩ | ⟨j,x,k1,k2,k3⟩
      · rw [k1,k2]; rfl
      · rw [k1,k3]; rfl
    · intro k hk
      unfold Qpg
      rw [XK hk,cond_true,Xy hk,Qv,XN k (by omega)]
    · unfold Qpg
      rw [XL]; rfl
theorem QQy {l : List FeedDeparture} (h : Qha l = true) : l.length ≤ 8:=by
  unfold Qha at h; simp at h; omega
end Go.Gw

end
section
set_option maxRecDepth 4096
namespace Go.Gw
open Go
def J1 (n : FeedNet) (d : FeedDeparture) (others : List FeedDeparture) : Int:=if Yq n d.Train < 0 then 6 else if (others.any fun o=>decide (o.Train = d.Train)) = true then 26 else bif !(decide (0 ≤ d.At) && decide (d.At ≤ 1000)) then 2 else 0
def Ze (n : FeedNet) (l : List FeedDeparture) (i : Nat) : Int:=(l[i]?.map fun d=>J1 n d (l.take i)).getD 0
def Xg (n : FeedNet) (d : FeedDeparture) : feed_run:=feed_run.mk (n.Trains[(Yq n d.Train).toNat]?.getD default) d.At
theorem Qlx {n : FeedNet} {s : ByteArray} (h : 0 ≤ Yq n s) : ∃ t,n.Trains[(Yq n s).toNat]? = some t ∧ t.Name = s ∧ (Yq n s).toNat < n.Trains.length:=by
  have key : ∀ (l : List FeedTrain) (m : Nat),(X2 (fun t : FeedTrain=>decide (t.Name = s)) (fun k _=>(k : Int)) m l = .inr ()) ∨ ∃ (j : Nat) (t : FeedTrain),X2 (fun t : FeedTrain=>decide (t.Name = s)) (fun k _=>(k : Int)) m l = .inl ((m + j : Nat) : Int) ∧ l[j]? = some t ∧ t.Name = s:=by
    intro l
    induction l with
    | nil=>intro m; exact .inl rfl
    | cons x xs ih =>
      intro m
      by_cases hx : x.Name = s
      · exact .inr ⟨0,x,by simp [X2,hx],rfl,hx⟩
      · rcases ih (m + 1) with h1 | ⟨j,t,h1,h2,h3⟩
        · exact .inl (by simp [X2,hx,h1])
        · exact .inr ⟨j + 1,t,by simp only [X2,hx,decide_false]; rw [← show m + 1 + j = m + (j + 1) by omega]; simpa using h1,h2,h3⟩
  rcases key n.Trains 0 with h1 | ⟨j,t,h1,h2,h3⟩
  · unfold Yq at h; rw [h1] at h; simp at h
  · have e : Yq n s = (j : Int):=by unfold Yq; rw [h1]; simp
    rw [e]
    exact ⟨t,by simpa using h2,h3,by simpa using (List.getElem?_eq_some_iff.1 h2).1⟩
theorem QFs (n : FeedNet) (s : ByteArray) (h : n.Trains.length < 1000000) : Qfr ⟨n⟩ s = some (Yq n s):=by
  unfold Qfr Qlf Yq
  rw [Z4 n.Trains (fun t=>decide (t.Name = s)) (fun k _=>(k : Int)),Qv,Qll]
  · rfl
  · intro k hk
    unfold Qle
    rw [XK hk,cond_true,Xy hk,Qv,XN k (by omega)]; rfl
  · unfold Qle
    rw [XL]; rfl
theorem QDq (l : List feed_run) (d : FeedDeparture) (hl : l.length < 1000000) : Qhb l d = some (l.any fun r=>decide (r.FeedTrain.Name = d.Train)):=by
  unfold Qhb Qlh
  rw [Z4 l (fun r=>decide (r.FeedTrain.Name = d.Train)) (fun k _=>(k : Int)),Qv,Qll,Qv,Qra]
  · intro k hk
    unfold Qlg
    rw [XK hk,cond_true,Xy hk,Qv,XN k (by omega)]; rfl
  · unfold Qlg
    rw [XL]; rfl
theorem Qne {n : FeedNet} {d : FeedDeparture} {o : List FeedDeparture} (h : J1 n d o = 0) : 0 ≤ Yq n d.Train:=by
  unfold J1 at h
  split at h
  · cases h
  · omega
theorem QQq {n : FeedNet} (s : ByteArray) (l : List FeedDeparture) (h : ∀ d ∈ l,0 ≤ Yq n d.Train) : ((l.map (Xg n)).any fun r=>decide (r.FeedTrain.Name = s)) = l.any fun d=>decide (d.Train = s):=by
  rw [List.any_map]
  induction l with
  | nil=>rfl
  | cons d l ih =>
    simp only [List.any_cons]
    rw [ih fun x hx=>h x (List.mem_cons_of_mem _ hx)]
    congr 1
    obtain ⟨t,h1,h2,_⟩:=Qlx (h d (List.mem_cons_self ..))
    simp [Xg,h1,h2]
theorem QKd (a b c : Int) : ZP [a,b,c] = if a ≠ 0 then a else if b ≠ 0 then b else c:=by
  by_cases h : a = 0 <;> by_cases h2 : b = 0 <;> by_cases h3 : c = 0 <;> simp [ZP,h,h2,h3]
theorem QFm (n : FeedNet) (l : List FeedDeparture) (hn : n.Trains.length < 1000) : Qfq ⟨n⟩ l = some (if 6 < l.length then ([],0,8) else match Yc (Ze n l) l.length with | some i=>([],(i : Int),Ze n l i) | none=>(l.map (Xg n),0,0)):=by
  unfold Qfq
  by_cases h6 : 6 < l.length
  · rw [decide_eq_true (show 6 < (l.length : Int) by omega),if_pos h6]; rfl
  · rw [decide_eq_false (show ¬ 6 < (l.length : Int) by omega),if_neg h6,cond_false]
    have key : loop (Qfp l ⟨n⟩) (([] : List feed_run),0) = some (match Yc (Ze n l) l.length with | some i=>.inl ([],(i : Int),Ze n l i) | none=>.inr (l.map (Xg n))) :=
      J6 (fun k=>((l.take k).map (Xg n),(k : Int))) l.length (Ze n l) (fun i e=>(([] : List feed_run),(i : Int),e)) (l.map (Xg n)) (fun k hk hpre=>by
        have hs : Ze n l k = J1 n l[k] (l.take k):=Jh _ _ _ hk
        have hall : ∀ d ∈ l.take k,0 ≤ Yq n d.Train:=fun d hd=>by
          obtain ⟨j,hj,rfl⟩:=List.mem_iff_getElem.1 hd
          have hjk : j < k:=by rw [List.length_take] at hj; omega
          have:=hpre j hjk
          rw [show Ze n l j = J1 n l[j] (l.take j) from Jh _ _ _ (by omega)] at this
          rw [List.getElem_take]
          exact Qne this
        rw [hs]
        unfold Qfp
        simp only [XK hk,cond_true,Xy hk,Qv]
        rw [QFs n _ (by omega),Qv,QDq _ _ (by simp; omega),Qv,QQq _ _ hall]
        unfold Qbz
        simp only [JX,Qbo,Qv]
        rw [Qar _ (by simp),Qv,QKd]
        unfold J1
        generalize (decide (0 ≤ l[k].At) && decide (l[k].At ≤ 1000)) = b
        generalize ((l.take k).any fun d=>decide (d.Train = l[k].Train)) = tw
        by_cases ht : Yq n l[k].Train < 0
        · rw [decide_eq_false (show ¬ 0 ≤ Yq n l[k].Train by omega)]
          simp [ht]
        · rw [decide_eq_true (show 0 ≤ Yq n l[k].Train by omega),if_neg ht]
          cases tw
          · cases b
            · rfl
            · simp only [cond_true,Bool.not_false,Bool.not_true,cond_false,ne_eq,not_true_eq_false,if_false,decide_true]
              obtain ⟨t,h1,h2,h3⟩:=Qlx (show 0 ≤ Yq n l[k].Train by omega)
              have hidx : idx n.Trains (Yq n l[k].Train) = some t:=by unfold idx; rw [if_pos (by omega)]; exact h1
              rw [hidx,Qv,JZ (by simp; omega),Qv,XN k (by omega)]
              have : feed_run.mk t l[k].At = Xg n l[k]:=by unfold Xg; rw [h1]; rfl
              rw [this,Qln l (Xg n) k hk]
              rfl
          · rfl) (fun _=>by
        unfold Qfp
        simp only [XL,cond_false,List.take_length])
    rw [key,Qv]
    cases Yc (Ze n l) l.length <;> rfl
theorem QOy (n : FeedNet) (l : List FeedDeparture) (hn : n.Trains.length < 1000) : Qkd n l = some (if 6 < l.length then (0,8) else match Yc (Ze n l) l.length with | some i=>((i : Int),Ze n l i) | none=>(0,0)):=by
  unfold Qkd
  by_cases h6 : 6 < l.length
  · rw [decide_eq_true (show 6 < (l.length : Int) by omega),if_pos h6]; rfl
  · rw [decide_eq_false (show ¬ 6 < (l.length : Int) by omega),if_neg h6,cond_false]
    have key : loop (Qkc l n) 0 = some (match Yc (Ze n l) l.length with | some i=>.inl ((i : Int),Ze n l i) | none=>.inr ()) :=
      J6 (fun k=>(k : Int)) l.length (Ze n l) (fun i e=>((i : Int),e)) () (fun k hk _=>by
        have hs : Ze n l k = J1 n l[k] (l.take k):=Jh _ _ _ hk
        have hlen : (l.take k).length = k:=by simp; omega
        have inner : loop (Qkb l (k : Int)) 0 = some (X2 (fun y : FeedDeparture=>decide (y.Train = l[k].Train)) (fun _ _=>Sum.inr (α:=Int) (Sum.inl (β:=Unit) ((k : Int),(26 : Int)))) 0 (l.take k)) :=
          Z4 (l.take k) _ _ (fun j hj=>by
            rw [hlen] at hj
            unfold Qkb
            rw [XK hj,cond_true,Xy (show j < l.length by omega),Qv,Xy hk,Qv,XN j (by omega)]
            simp only [List.getElem_take]) (by
            rw [hlen]
            unfold Qkb
            rw [XL]; rfl)
        rw [hs]
        unfold Qkc J1
        rw [XK hk,cond_true,Xy hk,Qv,Qpz _ _ (by omega),Qv,inner]
        by_cases ht : Yq n l[k].Train < 0
        · rw [decide_eq_true ht,if_pos ht]; rfl
        · rw [decide_eq_false ht,if_neg ht,cond_false,Qv]
          rcases Qbk (p:=fun y : FeedDeparture=>decide (y.Train = l[k].Train)) (res:=fun _ _=>Sum.inr (α:=Int) (Sum.inl (β:=Unit) ((k : Int),(26 : Int)))) (l.take k) 0 with ⟨k1,k2⟩ | ⟨j,x,k1,k2,k3⟩
          · rw [k1,k2]
            simp only [jn0,Qv,Qbw,XN k (show k < 4611686018427387904 by omega)]
            generalize (decide (0 ≤ l[k].At) && decide (l[k].At ≤ 1000)) = b
            cases b <;> rfl
          · rw [k1,k3]; rfl) (fun _=>by
        unfold Qkc
        rw [XL]; rfl)
    rw [key,Qv]
    cases Yc (Ze n l) l.length <;> rfl
end Go.Gw

end
section
set_option maxRecDepth 4096
namespace Go.Gw
open Go
/-! ### The greatest common divisor -/
/-! ### Sums -/
theorem Qrb {c : Int} (hc : 0 ≤ c) : ∀ {l : List Int},(∀ x ∈ l,-c ≤ x ∧ x ≤ c) → -(c * l.length) ≤ l.sum ∧ l.sum ≤ c * l.length
  | [],_=>by simp
  | x :: l,h=>by
    have h1:=h x (List.mem_cons_self ..)
    have h2:=Qrb hc (l:=l) fun y hy=>h y (List.mem_cons_of_mem _ hy)
    simp only [List.sum_cons,List.length_cons]
    have : c * ((l.length + 1 : Nat) : Int) = c * l.length + c:=by rw [Int.natCast_add,Int.mul_add]; simp
    rw [this]
    omega
theorem QBh {l : List Int} {k : Nat} (hk : k < l.length) : (l.take (k + 1)).sum = (l.take k).sum + l[k]:=by
  rw [List.take_add_one,List.getElem?_eq_getElem hk,List.sum_append]
  simp
theorem QSv {l : List Int} {c : Int} (hc : 0 ≤ c) (hc2 : c ≤ 1000000000) (h : ∀ x ∈ l,-c ≤ x ∧ x ≤ c) (hl : l.length ≤ 1000) : Qku l = some l.sum:=by
  have key : loop (Qkt l) (0,0) = some l.sum:=Zu (o:=l.sum) (fun k=>((l.take k).sum,(k : Int))) l.length ?_ ?_
  · unfold Qku
    rw [key]; rfl
  · intro k hk
    unfold Qkt
    have hb:=Qrb hc (l:=l.take (k + 1)) fun x hx=>h x (List.mem_of_mem_take hx)
    have hlen : (l.take (k + 1)).length = k + 1:=by simp; omega
    rw [hlen,QBh hk] at hb
    have hm : c * ((k + 1 : Nat) : Int) ≤ 1000000000 * 1000:=Int.mul_le_mul hc2 (by omega) (by omega) (by omega)
    simp only [XK hk,cond_true,Xy hk,Qv]
    rw [Yi (by omega),XN k (by omega),QBh hk]
  · unfold Qkt
    simp only [XL,cond_false,List.take_length]
end Go.Gw

end
section
set_option maxRecDepth 4096
namespace Go.Gw
open Go
def JC (st : List FeedStep) (k : Int) (s : Nat) : Int:=if 0 ≤ k ∧ k ≤ (st.length : Int) - 1 then (match st[k.toNat]? with | some x=>if x.Section = (s : Int) then x.Power else 0 | none=>0) else 0
def X1 (l : List feed_run) (t : Int) (s : Nat) : Int:=(l.map fun r=>JC r.FeedTrain.Steps (t - r.at_) s).sum
def ZH (m : Nat) (r : feed_run) : Prop:=(∀ x ∈ r.FeedTrain.Steps,0 ≤ x.Section ∧ x.Section ≤ (m : Int) - 1 ∧ -20000 ≤ x.Power ∧ x.Power ≤ 20000) ∧ r.FeedTrain.Steps.length ≤ 12 ∧ 0 ≤ r.at_ ∧ r.at_ ≤ 1000
theorem QEe {m : Nat} {r : feed_run} (h : ZH m r) (k : Int) (s : Nat) : -20000 ≤ JC r.FeedTrain.Steps k s ∧ JC r.FeedTrain.Steps k s ≤ 20000:=by
  unfold JC
  split
  · split
    · rename_i x hx
      have:=h.1 x (List.mem_of_getElem? hx)
      split <;> omega
    · omega
  · omega
theorem Qpx {m : Nat} {l : List feed_run} (h : ∀ r ∈ l,ZH m r) (t : Int) (s : Nat) : -(20000 * (l.length : Int)) ≤ X1 l t s ∧ X1 l t s ≤ 20000 * (l.length : Int):=by
  have:=Qrb (c:=20000) (by omega) (l:=l.map fun r=>JC r.FeedTrain.Steps (t - r.at_) s) fun x hx=>by
    obtain ⟨r,hr,rfl⟩:=List.mem_map.1 hx
    exact QEe (h r hr) _ _
  simpa [X1] using this
theorem Qpy {l : List feed_run} {t : Int} {s k : Nat} (hk : k < l.length) : X1 (l.take (k + 1)) t s = X1 (l.take k) t s + JC l[k].FeedTrain.Steps (t - l[k].at_) s:=by
  unfold X1
  rw [List.take_add_one,List.getElem?_eq_getElem hk,List.map_append,List.sum_append]
  simp
theorem QQw {m : Nat} {f g : Nat → Int} {s : Nat} (hs : s < m) (hv : ∀ i,i ≠ s → g i = f i) : ((List.range m).map f).set s (g s) = (List.range m).map g:=by
  apply List.ext_getElem?
  intro i
  by_cases hi : i = s
  · subst hi
    rw [List.getElem?_set_self (by simpa using hs)]
    simp [hs]
  · rw [List.getElem?_set_ne (Ne.symm hi)]
    by_cases him : i < m
    · simp [him,hv i hi]
    · simp [him]
theorem Qpj (m : Nat) (h : m < 1000) : mk (m : Int) (0 : Int) = some ((List.range m).map fun _=>(0 : Int)):=by
  unfold mk
  rw [if_pos (by omega)]
  congr 1
  apply List.ext_getElem?
  intro i
  by_cases hi : i < m <;> simp [hi]
theorem QSt {m : Nat} {r : feed_run} (h : ZH m r) {t : Int} (ht : 0 ≤ t) (ht2 : t ≤ 100000) :
    ∃ o,Qdn r t = some o ∧ ((o.2 = false ∧ ∀ s,JC r.FeedTrain.Steps (t - r.at_) s = 0) ∨ (o.2 = true ∧ 0 ≤ o.1.Section ∧ o.1.Section ≤ (m : Int) - 1 ∧ -20000 ≤ o.1.Power ∧ o.1.Power ≤ 20000 ∧ ∀ s : Nat,JC r.FeedTrain.Steps (t - r.at_) s = if o.1.Section = (s : Int) then o.1.Power else 0)):=by
  obtain ⟨h1,h2,h3,h4⟩:=h
  unfold Qdn
  rw [Yi (by omega),Yi (by omega),Qbo,Qv]
  by_cases hin : 0 ≤ t - r.at_ ∧ t - r.at_ ≤ (r.FeedTrain.Steps.length : Int) - 1
  · have e : (decide (0 ≤ t - r.at_) && decide (t - r.at_ ≤ (r.FeedTrain.Steps.length : Int) - 1)) = true := by
      rw [decide_eq_true hin.1,decide_eq_true hin.2]; rfl
    have hk : (t - r.at_).toNat < r.FeedTrain.Steps.length:=by omega
    have hidx : idx r.FeedTrain.Steps (t - r.at_) = some r.FeedTrain.Steps[(t - r.at_).toNat]:=by
      unfold idx; rw [if_pos hin.1,List.getElem?_eq_getElem hk]
    rw [e]
    simp only [Bool.not_true,cond_false]
    rw [hidx,Qv]
    have hb:=h1 _ (List.getElem_mem hk)
    refine ⟨_,rfl,.inr ⟨rfl,hb.1,hb.2.1,hb.2.2.1,hb.2.2.2,fun s=>?_⟩⟩
    unfold JC
    rw [if_pos hin,List.getElem?_eq_getElem hk]
  · have e : (decide (0 ≤ t - r.at_) && decide (t - r.at_ ≤ (r.FeedTrain.Steps.length : Int) - 1)) = false := by
      rw [Bool.eq_false_iff]; intro e; simp at e; exact hin (by omega)
    rw [e]
    exact ⟨_,rfl,.inl ⟨rfl,fun s=>by unfold JC; rw [if_neg hin]⟩⟩
theorem QOt {n : FeedNet} {l : List feed_run} (hn : n.Sections.length < 1000) (hl : l.length ≤ 8) (h : ∀ r ∈ l, ZH n.Sections.length r) {t : Int} (ht : 0 ≤ t) (ht2 : t ≤ 100000) :
    Qdk ⟨n⟩ l t = some ((List.range n.Sections.length).map (X1 l t)):=by
  have key : loop (Qfo l t) ((List.range n.Sections.length).map (fun _=>(0 : Int)),0) = some ((List.range n.Sections.length).map (X1 l t)) :=
    Zu (fun k=>((List.range n.Sections.length).map (X1 (l.take k) t),(k : Int))) l.length (fun k hk=>by
      obtain ⟨o,ho,hc⟩:=QSt (h _ (List.getElem_mem hk)) ht ht2
      unfold Qfo
      simp only [XK hk,cond_true,Xy hk,Qv,ho]
      rw [XN k (by omega)]
      rcases hc with ⟨h1,h2⟩ | ⟨h1,h2,h3,h4,h5,h6⟩
      · rw [h1,cond_false]
        congr 3
        apply List.map_congr_left
        intro s _
        rw [Qpy hk,h2 s]; simp
      · rw [h1,cond_true]
        have hs : o.1.Section.toNat < n.Sections.length:=by omega
        have hsi : ((o.1.Section.toNat : Nat) : Int) = o.1.Section:=by omega
        have hidx : idx ((List.range n.Sections.length).map (X1 (l.take k) t)) o.1.Section = some (X1 (l.take k) t o.1.Section.toNat):=by
          unfold idx; rw [if_pos h2]; simp [hs]
        have hb:=Qpx (l:=l.take k) (fun r hr=>h r (List.mem_of_mem_take hr)) t o.1.Section.toNat
        have hlen : (l.take k).length ≤ 8:=by rw [List.length_take]; omega
        have hnew : w64 (X1 (l.take k) t o.1.Section.toNat + o.1.Power) = X1 (l.take (k + 1)) t o.1.Section.toNat:=by
          rw [Qpy hk,h6,if_pos (by omega)]; exact Yi (by omega)
        rw [hidx,Qv,Qv,hnew,QQw (f:=X1 (l.take k) t) (g:=X1 (l.take (k + 1)) t) hs (fun i hi=>by rw [Qpy hk,h6,if_neg (by omega)]; simp)]) (by
      unfold Qfo
      simp only [XL,cond_false,List.take_length])
  unfold Qdk
  rw [Qpj _ hn,Qv,key]; rfl
end Go.Gw

end
section
set_option maxRecDepth 4096
namespace Go.Gw
open Go
structure NetOk (n : FeedNet) : Prop where
  st0 : 0 < n.Stations.length
  st6 : n.Stations.length ≤ 6
  se0 : 0 < n.Sections.length
  se10 : n.Sections.length ≤ 10
  tr6 : n.Trains.length ≤ 6
  lim : ∀ s ∈ n.Stations,0 ≤ s.Limit ∧ s.Limit ≤ 100000
  sec : ∀ s ∈ n.Sections,Zq s n.Stations.length = 0
  tr : ∀ t ∈ n.Trains,JM t n.Sections.length = 0
theorem Qwm {f : Nat → Int} {n : Nat} (h : (match Yc f n with | some i=>f i | none=>0) = 0) : ∀ j,j < n → f j = 0:=by
  rcases Qaq f n with ⟨h1,h2⟩ | ⟨i,h1,h2,h3,h4⟩
  · exact h2
  · rw [h1] at h; exact absurd h h3
theorem Qjr {n : FeedNet} (h : (Zg n).2 = 0) : NetOk n:=by
  unfold Zg at h
  split at h
  · cases h
  · rename_i h1
    split at h
    · cases h
    · rename_i h2
      rcases Qaq (ZU n) n.Stations.length with ⟨a1,a2⟩ | ⟨i,a1,a2,a3,_⟩
      · rw [a1] at h
        rcases Qaq (ZS n) n.Sections.length with ⟨b1,b2⟩ | ⟨i,b1,b2,b3,_⟩
        · rw [b1] at h
          rcases Qaq (Zz n) n.Trains.length with ⟨c1,c2⟩ | ⟨i,c1,c2,c3,_⟩
          · refine ⟨by omega,by omega,by omega,by omega,by omega,fun s hs=>?_,fun s hs=>?_,fun t ht=>?_⟩
            · obtain ⟨k,hk,rfl⟩:=List.mem_iff_getElem.1 hs
              have:=a2 k hk
              rw [show ZU n k = stE n.Stations[k] ((n.Stations.take k).map (·.Name)) from Jh _ _ _ hk] at this
              unfold stE at this
              split at this
              · rename_i hc; exact absurd this hc
              · cases hb : (decide (0 ≤ n.Stations[k].Limit) && decide (n.Stations[k].Limit ≤ 100000)) with
                | true=>simpa using hb
                | false=>rw [hb] at this; cases this
            · obtain ⟨k,hk,rfl⟩:=List.mem_iff_getElem.1 hs
              have:=b2 k hk
              rwa [show ZS n k = Zq n.Sections[k] n.Stations.length from Jh _ _ _ hk] at this
            · obtain ⟨k,hk,rfl⟩:=List.mem_iff_getElem.1 ht
              have:=c2 k hk
              rw [show Zz n k = trE n.Trains[k] ((n.Trains.take k).map (·.Name)) n.Sections.length from Jh _ _ _ hk] at this
              unfold trE at this
              split at this
              · rename_i hc; exact absurd this hc
              · exact this
          · rw [c1] at h; exact absurd h c3
        · rw [b1] at h; exact absurd h b3
      · rw [a1] at h; exact absurd h a3
theorem QBv {t : FeedTrain} {m : Nat} (h : JM t m = 0) : (0 ≤ t.Earliest ∧ t.Earliest ≤ 1000) ∧ (0 ≤ t.Latest ∧ t.Latest ≤ 1000) ∧ t.Earliest ≤ t.Latest ∧ 0 < t.Steps.length ∧ t.Steps.length ≤ 12 ∧ ∀ x ∈ t.Steps,0 ≤ x.Section ∧ x.Section ≤ (m : Int) - 1 ∧ -20000 ≤ x.Power ∧ x.Power ≤ 20000:=by
  unfold JM QBw at h
  cases h1 : (decide (0 ≤ t.Earliest) && decide (t.Earliest ≤ 1000)) with
  | false=>rw [h1] at h; cases h
  | true =>
    cases h2 : (decide (0 ≤ t.Latest) && decide (t.Latest ≤ 1000)) with
    | false=>rw [h1,h2] at h; cases h
    | true =>
      cases h3 : decide (t.Earliest ≤ t.Latest) with
      | false=>rw [h1,h2,h3] at h; cases h
      | true =>
        cases h4 : decide (0 < (t.Steps.length : Int)) with
        | false=>rw [h1,h2,h3,h4] at h; cases h
        | true =>
          cases h5 : decide ((t.Steps.length : Int) ≤ 12) with
          | false=>rw [h1,h2,h3,h4,h5] at h; cases h
          | true =>
            rw [h1,h2,h3,h4,h5] at h
            simp only [Bool.and_self,Bool.not_true,cond_false] at h
            unfold Qlm at h
            have hz:=Qwm h
            simp only [Bool.and_eq_true,decide_eq_true_eq] at h1 h2 h3 h4 h5
            refine ⟨h1,h2,h3,by omega,by omega,fun x hx=>?_⟩
            obtain ⟨k,hk,rfl⟩:=List.mem_iff_getElem.1 hx
            have:=hz k hk
            rw [Qpb _ _ _ hk] at this
            unfold Jr at this
            cases a : (decide (0 ≤ t.Steps[k].Section) && decide (t.Steps[k].Section ≤ (m : Int) - 1)) with
            | false=>rw [a] at this; cases this
            | true =>
              cases b : (decide (-20000 ≤ t.Steps[k].Power) && decide (t.Steps[k].Power ≤ 20000)) with
              | false=>rw [a,b] at this; cases this
              | true =>
                simp only [Bool.and_eq_true,decide_eq_true_eq] at a b
                exact ⟨a.1,a.2,b.1,b.2⟩
theorem QQn {n : FeedNet} (hn : NetOk n) {d : FeedDeparture} {o : List FeedDeparture} (h : J1 n d o = 0) : ZH n.Sections.length (Xg n d):=by
  have h0:=Qne h
  obtain ⟨t,h1,h2,h3⟩:=Qlx h0
  have ht:=QBv (hn.tr t (List.mem_of_getElem? h1))
  unfold J1 at h
  rw [if_neg (by omega)] at h
  split at h
  · cases h
  · cases b : (decide (0 ≤ d.At) && decide (d.At ≤ 1000)) with
    | false=>rw [b] at h; cases h
    | true =>
      simp only [Bool.and_eq_true,decide_eq_true_eq] at b
      unfold ZH Xg
      rw [h1]
      exact ⟨ht.2.2.2.2.2,ht.2.2.2.2.1,b.1,b.2⟩
end Go.Gw

end
section
set_option maxRecDepth 4096
namespace Go.Gw
open Go
structure LadOk (l : FeedLadder) : Prop where
  pos : 0 < l.Loads.length
  most : l.Loads.length ≤ 8
  len : l.Ohms.length = l.Loads.length + 1
  ohm : ∀ x ∈ l.Ohms,1 ≤ x ∧ x ≤ 500
  load : ∀ x ∈ l.Loads,-20000 ≤ x ∧ x ≤ 20000
theorem Qge {a b m n : Int} (ha : -m ≤ a ∧ a ≤ m) (hb : -n ≤ b ∧ b ≤ n) : -(m * n) ≤ a * b ∧ a * b ≤ m * n:=by
  have h1 : a.natAbs ≤ m.natAbs:=by omega
  have h2 : b.natAbs ≤ n.natAbs:=by omega
  have h3:=Nat.mul_le_mul h1 h2
  rw [← Int.natAbs_mul,← Int.natAbs_mul] at h3
  have h4 : 0 ≤ m * n:=Int.mul_nonneg (by omega) (by omega)
  omega
section
variable {l : FeedLadder} (h : LadOk l)
include h
end
section
variable {l : FeedLadder} (h : LadOk l)
include h
end
end Go.Gw

end
section
set_option maxRecDepth 4096
namespace Go.Gw
open Go
def X8 (s : FeedSection) (p : Int) : Int:=if p < 0 then p * (1000 - s.Loss) else p * (1000 + s.Loss)
def Yd (s : FeedSection) (k : Int) : Int:=if s.Left = k then s.Share else if s.Right = k then 1000 - s.Share else 0
def Jx (s : FeedSection) : Prop:=(0 ≤ s.Share ∧ s.Share ≤ 1000) ∧ 0 ≤ s.Loss ∧ s.Loss ≤ 500
theorem Qzu {s : FeedSection} {n : Nat} (h : Zq s n = 0) : Jx s:=by
  unfold Zq Qql at h
  have key : ((decide (0 ≤ s.Share) && decide (s.Share ≤ 1000)) && (decide (0 ≤ s.Loss) && decide (s.Loss ≤ 500))) = true:=by
    cases hb : ((decide (0 ≤ s.Share) && decide (s.Share ≤ 1000)) && (decide (0 ≤ s.Loss) && decide (s.Loss ≤ 500))) with
    | true=>rfl
    | false =>
      rw [hb] at h
      revert h
      generalize ((!(decide (s.Left = -1) || (decide (0 ≤ s.Left) && decide (s.Left ≤ (n : Int) - 1)))) || !(decide (s.Right = -1) || (decide (0 ≤ s.Right) && decide (s.Right ≤ (n : Int) - 1)))) = a
      generalize (decide (s.Left = -1) && decide (s.Right = -1)) = b
      generalize decide (s.Left = s.Right) = c
      cases a <;> cases b <;> cases c <;> intro h <;> cases h
  simp only [Bool.and_eq_true,decide_eq_true_eq] at key
  exact ⟨key.1,key.2⟩
theorem Qis {s : FeedSection} (hs : Jx s) {p : Int} (hp : -160000 ≤ p ∧ p ≤ 160000) : -240000000 ≤ X8 s p ∧ X8 s p ≤ 240000000:=by
  obtain ⟨_,h1,h2⟩:=hs
  unfold X8
  split
  · have:=Qge (a:=p) (b:=1000 - s.Loss) (m:=160000) (n:=1500) hp (by omega); omega
  · have:=Qge (a:=p) (b:=1000 + s.Loss) (m:=160000) (n:=1500) hp (by omega); omega
theorem Qqm {s : FeedSection} (hs : Jx s) (k : Int) : -1000 ≤ Yd s k ∧ Yd s k ≤ 1000:=by
  obtain ⟨h0,_⟩:=hs
  unfold Yd
  split
  · omega
  · split <;> omega
theorem Qtg {s : FeedSection} (hs : Jx s) {p : Int} (hp : -160000 ≤ p ∧ p ≤ 160000) : Qdc s p = some (X8 s p):=by
  have hb:=Qis hs hp
  obtain ⟨_,h1,h2⟩:=hs
  unfold Qdc X8 at *
  by_cases h : p < 0
  · rw [if_pos h] at hb ⊢
    rw [decide_eq_true h,cond_true,Yi (x:=1000 - s.Loss) (by omega),Yi (by omega)]
  · rw [if_neg h] at hb ⊢
    rw [decide_eq_false h,cond_false,Yi (x:=1000 + s.Loss) (by omega),Yi (by omega)]
theorem QOz {s : FeedSection} (hs : Jx s) {p : Int} (hp : -160000 ≤ p ∧ p ≤ 160000) : Qqb s p = some (X8 s p):=Qtg hs hp
theorem Qyw {s : FeedSection} (hs : Jx s) (k : Int) : Qgx s k = some (Yd s k):=by
  obtain ⟨h0,_⟩:=hs
  unfold Qgx Yd
  by_cases h1 : s.Left = k
  · rw [decide_eq_true h1,if_pos h1]; rfl
  · rw [decide_eq_false h1,if_neg h1]
    by_cases h2 : s.Right = k
    · rw [decide_eq_true h2,if_pos h2]
      simp only [cond_false,cond_true]
      rw [Yi (by omega)]
    · rw [decide_eq_false h2,if_neg h2]; rfl
theorem QFe {s : FeedSection} (hs : Jx s) (k : Int) : Qdd s k = some (Yd s k):=by
  rw [← Qyw hs k]
  unfold Qdd Qgx
  rw [show decide (k = s.Left) = decide (s.Left = k) from decide_eq_decide.2 eq_comm,show decide (k = s.Right) = decide (s.Right = k) from decide_eq_decide.2 eq_comm]
end Go.Gw

end
section
set_option maxRecDepth 4096
namespace Go.Gw
open Go
def ZQ (secs : List FeedSection) (f : Nat → Int) (k : Nat) : Nat → Int
  | 0=>0
  | j + 1=>ZQ secs f k j + (secs[j]?.map fun s=>X8 s (f j) * Yd s (k : Int)).getD 0
section
variable {secs : List FeedSection} {f : Nat → Int} (hs : ∀ s ∈ secs,Jx s) (hf : ∀ j,-160000 ≤ f j ∧ f j ≤ 160000)
include hs hf
theorem QTr (k j : Nat) : -240000000000 ≤ (secs[j]?.map fun s=>X8 s (f j) * Yd s (k : Int)).getD 0 ∧ (secs[j]?.map fun s=>X8 s (f j) * Yd s (k : Int)).getD 0 ≤ 240000000000:=by
  by_cases hj : j < secs.length
  · rw [List.getElem?_eq_getElem hj]
    have h1:=hs _ (List.getElem_mem hj)
    have:=Qge (Qis h1 (hf j)) (Qqm h1 (k : Int))
    simp only [Option.map_some,Option.getD_some]
    omega
  · rw [List.getElem?_eq_none (Nat.le_of_not_lt hj)]; simp
theorem Qph (k : Nat) : ∀ j : Nat,-(240000000000 * (j : Int)) ≤ ZQ secs f k j ∧ ZQ secs f k j ≤ 240000000000 * (j : Int)
  | 0=>by simp [ZQ]
  | j + 1=>by
    have h1:=Qph k j
    have h2:=QTr hs hf k j
    simp only [ZQ]
    omega
end
theorem Qwq {secs : List FeedSection} {f : Nat → Int} {k j : Nat} (hj : j < secs.length) : (secs[j]?.map fun s=>X8 s (f j) * Yd s (k : Int)).getD 0 = X8 secs[j] (f j) * Yd secs[j] (k : Int):=by
  rw [List.getElem?_eq_getElem hj]; rfl
theorem Qyy (m j : Nat) (hj : j < m) (f g : Nat → Int) : ((List.range m).map fun i=>if i < j then g i else f i).set j (g j) = (List.range m).map fun i=>if i < j + 1 then g i else f i:=by
  apply List.ext_getElem?
  intro i
  by_cases hi : i = j
  · subst hi
    rw [List.getElem?_set_self (by simpa using hj)]
    simp [hj]
  · rw [List.getElem?_set_ne (Ne.symm hi)]
    by_cases him : i < m
    · simp only [List.getElem?_map,List.getElem?_range him,Option.map_some,Option.some.injEq]
      by_cases h1 : i < j
      · rw [if_pos h1,if_pos (by omega)]
      · rw [if_neg h1,if_neg (by omega)]
    · simp [him]
theorem Qwt (m j : Nat) (hj : j < m) (f g : Nat → Int) : idx ((List.range m).map fun i=>if i < j then g i else f i) (j : Int) = some (f j):=by
  rw [Xy?]
  simp [hj]
theorem QFf {s : FeedSection} (hs : Jx s) {p : Int} (hp : -160000 ≤ p ∧ p ≤ 160000) {m : Nat} (hm : m < 1000) {f : Nat → Int} (hf : ∀ i, -1000000000000000 ≤ f i ∧ f i ≤ 1000000000000000) :
    loop (Qdf p s ((List.range m).map f)) ((List.range m).map f,0) = some ((List.range m).map fun i=>f i + X8 s p * Yd s (i : Int)):=by
  have e0 : ((List.range m).map fun i=>if i < 0 then f i + X8 s p * Yd s (i : Int) else f i) = (List.range m).map f:=by
    apply List.map_congr_left; intro i _; simp
  have eN : ((List.range m).map fun i=>if i < m then f i + X8 s p * Yd s (i : Int) else f i) = (List.range m).map fun i=>f i + X8 s p * Yd s (i : Int):=by
    apply List.map_congr_left; intro i hi; rw [if_pos (List.mem_range.1 hi)]
  have hlen : (((List.range m).map f).length : Int) = (m : Int):=by simp
  have key:=Zu (step:=Qdf p s ((List.range m).map f)) (o:=(List.range m).map fun i=>f i + X8 s p * Yd s (i : Int)) (fun j=>((List.range m).map fun i=>if i < j then f i + X8 s p * Yd s (i : Int) else f i,(j : Int))) m (fun j hj=>by
    have hb:=Qge (Qis hs hp) (Qqm hs (j : Int))
    have hfj:=hf j
    unfold Qdf
    simp only [hlen,XK hj,cond_true,Qwt m j hj f (fun i=>f i + X8 s p * Yd s (i : Int)),Qv]
    rw [Qtg hs hp,Qv,QFe hs,Qv,Yi (x:=X8 s p * Yd s (j : Int)) (by omega),Yi (x:=f j + X8 s p * Yd s (j : Int)) (by omega),XN j (by omega)]
    simp only [Int.toNat_natCast]
    rw [Qyy m j hj f (fun i=>f i + X8 s p * Yd s (i : Int))]) (by
    unfold Qdf
    simp only [hlen,XL,cond_false,eN])
  simp only [e0] at key
  exact key
def Zn (n : FeedNet) (f : Nat → Int) : List Int:=(List.range n.Stations.length).map fun k=>ZQ n.Sections f k n.Sections.length
theorem QFh {n : FeedNet} (hn : NetOk n) {l : List feed_run} (hl : l.length ≤ 8) (h : ∀ r ∈ l,ZH n.Sections.length r) {t : Int} (ht : 0 ≤ t) (ht2 : t ≤ 100000) : Qdg ⟨n⟩ l t = some (Zn n (X1 l t)):=by
  have h1:=hn.st6
  have h2:=hn.se10
  have hs : ∀ s ∈ n.Sections,Jx s:=fun s hx=>Qzu (hn.sec s hx)
  have hf : ∀ j,-160000 ≤ X1 l t j ∧ X1 l t j ≤ 160000:=fun j=>by have:=Qpx h t j; omega
  have hlen : (((List.range n.Sections.length).map (X1 l t)).length : Int) = (n.Sections.length : Int):=by simp
  have key : loop (Qfn ⟨n⟩ ((List.range n.Sections.length).map (X1 l t))) ((List.range n.Stations.length).map (fun _=>(0 : Int)),0) = some (Zn n (X1 l t)) :=
    Zu (fun j=>((List.range n.Stations.length).map (fun k=>ZQ n.Sections (X1 l t) k j),(j : Int))) n.Sections.length (fun j hj=>by
      have hb : ∀ k,-1000000000000000 ≤ ZQ n.Sections (X1 l t) k j ∧ ZQ n.Sections (X1 l t) k j ≤ 1000000000000000:=fun k=>by have:=Qph hs hf k j; omega
      have hidx : idx ((List.range n.Sections.length).map (X1 l t)) (j : Int) = some (X1 l t j):=by rw [Xy?]; simp [hj]
      unfold Qfn
      simp only [hlen,XK hj,cond_true,hidx,Qv,Xy hj]
      rw [QFf (hs _ (List.getElem_mem hj)) (hf j) (by omega) hb,Qv,XN j (by omega)]
      congr 3
      apply List.map_congr_left
      intro k _
      simp only [ZQ,Qwq hj]) (by
      unfold Qfn Zn
      simp only [hlen,XL,cond_false])
  unfold Qdg
  show (Option.bind (mk (n.Stations.length : Int) (0 : Int)) _) = _
  rw [Qpj _ (by omega),Qv,QOt (by omega) hl h ht ht2,Qv,key]
  rfl
theorem QPa {s : FeedSection} (hs : Jx s) {p : Int} (hp : -160000 ≤ p ∧ p ≤ 160000) {m : Nat} (hm : m < 1000) {f : Nat → Int} (hf : ∀ i, -1000000000000000 ≤ f i ∧ f i ≤ 1000000000000000) :
    loop (Qgn s (X8 s p)) ((List.range m).map f,0) = some ((List.range m).map fun i=>f i + X8 s p * Yd s (i : Int)):=by
  have e0 : ((List.range m).map fun i=>if i < 0 then f i + X8 s p * Yd s (i : Int) else f i) = (List.range m).map f:=by
    apply List.map_congr_left; intro i _; simp
  have eN : ((List.range m).map fun i=>if i < m then f i + X8 s p * Yd s (i : Int) else f i) = (List.range m).map fun i=>f i + X8 s p * Yd s (i : Int):=by
    apply List.map_congr_left; intro i hi; rw [if_pos (List.mem_range.1 hi)]
  have key:=Zu (step:=Qgn s (X8 s p)) (o:=(List.range m).map fun i=>f i + X8 s p * Yd s (i : Int)) (fun j=>((List.range m).map fun i=>if i < j then f i + X8 s p * Yd s (i : Int) else f i,(j : Int))) m (fun j hj=>by
    have hb:=Qge (Qis hs hp) (Qqm hs (j : Int))
    have hfj:=hf j
    have hlen : (((List.range m).map fun i=>if i < j then f i + X8 s p * Yd s (i : Int) else f i).length : Int) = (m : Int):=by simp
    unfold Qgn
    simp only [hlen,XK hj,cond_true,Qwt m j hj f (fun i=>f i + X8 s p * Yd s (i : Int)),Qv]
    rw [Qyw hs,Qv,Yi (x:=X8 s p * Yd s (j : Int)) (by omega),Yi (x:=f j + X8 s p * Yd s (j : Int)) (by omega),XN j (by omega)]
    simp only [Int.toNat_natCast]
    rw [Qyy m j hj f (fun i=>f i + X8 s p * Yd s (i : Int))]) (by
    have hlen : (((List.range m).map fun i=>f i + X8 s p * Yd s (i : Int)).length : Int) = (m : Int):=by simp
    unfold Qgn
    simp only [eN,hlen,XL,cond_false])
  simp only [e0] at key
  exact key
theorem QPc {n : FeedNet} (hn : NetOk n) {l : List FeedDeparture} {t : Int} {f : Nat → Int} (hf : ∀ j,-160000 ≤ f j ∧ f j ≤ 160000) (hp : ∀ j : Nat,j < n.Sections.length → Qgp n l (j : Int) t = some (f j)) : Qgo n l t = some (Zn n f):=by
  have h1:=hn.st6
  have h2:=hn.se10
  have hs : ∀ s ∈ n.Sections,Jx s:=fun s hx=>Qzu (hn.sec s hx)
  have key : loop (Qkn l n t) ((List.range n.Stations.length).map (fun _=>(0 : Int)),0) = some (Zn n f) :=
    Zu (fun j=>((List.range n.Stations.length).map (fun k=>ZQ n.Sections f k j),(j : Int))) n.Sections.length (fun j hj=>by
      have hb : ∀ k,-1000000000000000 ≤ ZQ n.Sections f k j ∧ ZQ n.Sections f k j ≤ 1000000000000000:=fun k=>by have:=Qph hs hf k j; omega
      unfold Qkn
      simp only [XK hj,cond_true,Xy hj,Qv,hp j hj]
      rw [QOz (hs _ (List.getElem_mem hj)) (hf j),Qv,QPa (hs _ (List.getElem_mem hj)) (hf j) (by omega) hb,Qv,XN j (by omega)]
      congr 3
      apply List.map_congr_left
      intro k _
      simp only [ZQ,Qwq hj]) (by
      unfold Qkn Zn
      simp only [XL,cond_false])
  unfold Qgo
  rw [Qpj _ (by omega),Qv,key]
  rfl
end Go.Gw

end
section
set_option maxRecDepth 4096
namespace Go.Gw
open Go
def pd (t : Int) (s : Nat) (r : feed_run) : List Int:=if 0 ≤ t - r.at_ ∧ t - r.at_ ≤ (r.FeedTrain.Steps.length : Int) - 1 then (match r.FeedTrain.Steps[(t - r.at_).toNat]? with | some x=>if x.Section = (s : Int) then [x.Power] else [] | none=>[]) else []
theorem QOs (t : Int) (s : Nat) (r : feed_run) : (pd t s r).sum = JC r.FeedTrain.Steps (t - r.at_) s:=by
  unfold pd JC
  by_cases h : 0 ≤ t - r.at_ ∧ t - r.at_ ≤ (r.FeedTrain.Steps.length : Int) - 1
  · rw [if_pos h,if_pos h]
    cases hx : r.FeedTrain.Steps[(t - r.at_).toNat]? with
    | none=>rfl
    | some x=>by_cases hs : x.Section = (s : Int) <;> simp [hs]
  · rw [if_neg h,if_neg h]; rfl
theorem QOq (t : Int) (s : Nat) (r : feed_run) : (pd t s r).length ≤ 1:=by
  unfold pd
  split
  · split
    · split <;> simp
    · simp
  · simp
theorem QOr {m : Nat} {r : feed_run} (h : ZH m r) (t : Int) (s : Nat) : ∀ x ∈ pd t s r,-20000 ≤ x ∧ x ≤ 20000:=by
  intro x hx
  unfold pd at hx
  split at hx
  · split at hx
    · rename_i y hy
      split at hx
      · obtain rfl:=List.mem_singleton.1 hx
        have:=h.1 y (List.mem_of_getElem? hy); omega
      · cases hx
    · cases hx
  · cases hx
theorem Qwo (t : Int) (s : Nat) : ∀ l : List feed_run,(l.flatMap (pd t s)).sum = X1 l t s
  | []=>rfl
  | r :: l=>by
    rw [List.flatMap_cons,List.sum_append,Qwo t s l,QOs]
    simp [X1]
theorem Qox (t : Int) (s : Nat) : ∀ l : List feed_run,(l.flatMap (pd t s)).length ≤ l.length
  | []=>by simp
  | r :: l=>by
    rw [List.flatMap_cons,List.length_append]
    have:=Qox t s l
    have:=QOq t s r
    rw [List.length_cons]; omega
theorem QPi {n : FeedNet} (hn : n.Trains.length < 1000) {l : List FeedDeparture} (hl : l.length ≤ 8) {m : Nat} (h0 : ∀ d ∈ l, 0 ≤ Yq n d.Train) (h : ∀ d ∈ l, ZH m (Xg n d)) {t : Int} (ht : 0 ≤ t) (ht2 : t ≤ 100000) (s : Nat) :
    Qkr n l (s : Int) t = some ((l.map (Xg n)).flatMap (pd t s)):=by
  have key : loop (Qkq l n (s : Int) t) (([] : List Int),0) = some ((l.map (Xg n)).flatMap (pd t s)) :=
    Zu (fun k=>(((l.take k).map (Xg n)).flatMap (pd t s),(k : Int))) l.length (fun k hk=>by
      have hd:=List.getElem_mem hk
      obtain ⟨T,h1,h2,h3⟩:=Qlx (h0 _ hd)
      have hr:=h _ hd
      have hrun : Xg n l[k] = feed_run.mk T l[k].At:=by unfold Xg; rw [h1]; rfl
      obtain ⟨r1,r2,r3,r4⟩:=hr
      rw [hrun] at r1 r2 r3 r4
      have hidx : idx n.Trains (Yq n l[k].Train) = some T:=by unfold idx; rw [if_pos (h0 _ hd)]; exact h1
      have hlen:=Qox t s ((l.take k).map (Xg n))
      have hnext : ((l.take k).map (Xg n)).flatMap (pd t s) ++ pd t s (Xg n l[k]) = ((l.take (k + 1)).map (Xg n)).flatMap (pd t s):=by
        rw [← Qln l (Xg n) k hk,List.flatMap_append]; simp
      have hlk : ((l.take k).map (Xg n)).length ≤ 8:=by simp; omega
      unfold Qkq
      simp only [XK hk,cond_true,Xy hk,Qv]
      rw [Qpz n _ (by omega),Qv,hidx,Qv,Qv]
      simp only []
      simp only at r2 r3 r4
      rw [Yi (x:=t - l[k].At) (by omega),Yi (x:=(T.Steps.length : Int) - 1) (by omega),Qbw,Qv,XN k (by omega),← hnext,hrun]
      unfold pd
      by_cases hin : 0 ≤ t - l[k].At ∧ t - l[k].At ≤ (T.Steps.length : Int) - 1
      · have hk2 : (t - l[k].At).toNat < T.Steps.length:=by omega
        have hi2 : idx T.Steps (t - l[k].At) = some T.Steps[(t - l[k].At).toNat]:=by unfold idx; rw [if_pos hin.1,List.getElem?_eq_getElem hk2]
        rw [decide_eq_true hin.1,decide_eq_true hin.2,if_pos hin,List.getElem?_eq_getElem hk2]
        simp only [Bool.and_self,cond_true,Bool.true_and,hi2,Qv]
        by_cases hsec : T.Steps[(t - l[k].At).toNat].Section = (s : Int)
        · rw [decide_eq_true hsec,if_pos hsec,cond_true,JZ (by show (((l.take k).map (Xg n)).flatMap (pd t s)).length + 1 ≤ 1073741824; omega),Qv]
        · rw [decide_eq_false hsec,if_neg hsec,cond_false,List.append_nil]
      · have e : (decide (0 ≤ t - l[k].At) && decide (t - l[k].At ≤ (T.Steps.length : Int) - 1)) = false := by
          rw [Bool.eq_false_iff]; intro e; simp only [Bool.and_eq_true,decide_eq_true_eq] at e; exact hin e
        rw [e,if_neg hin]
        simp only [cond_false,Qv,Bool.false_and,List.append_nil]) (by
      unfold Qkq
      simp only [XL,cond_false,List.take_length])
  unfold Qkr
  rw [key,Qv]
theorem QPh {n : FeedNet} (hn : n.Trains.length < 1000) {l : List FeedDeparture} (hl : l.length ≤ 8) {m : Nat} (h0 : ∀ d ∈ l, 0 ≤ Yq n d.Train) (h : ∀ d ∈ l, ZH m (Xg n d)) {t : Int} (ht : 0 ≤ t) (ht2 : t ≤ 100000) (s : Nat) :
    Qgp n l (s : Int) t = some (X1 (l.map (Xg n)) t s):=by
  unfold Qgp
  rw [QPi hn hl h0 h ht ht2,Qv,QSv (c:=20000) (by omega) (by omega) (fun x hx=>?_) (by have:=Qox t s (l.map (Xg n)); rw [List.length_map] at this; omega),Qv,Qwo]
  obtain ⟨r,hr,hx⟩:=List.mem_flatMap.1 hx
  obtain ⟨d,hd,rfl⟩:=List.mem_map.1 hr
  exact QOr (h d hd) t s x hx
end Go.Gw

end
section
set_option maxRecDepth 4096
namespace Go.Gw
open Go
end Go.Gw

end
section
set_option maxRecDepth 4096
namespace Go.Gw
open Go
def Qir (n : FeedNet) (l : List FeedDeparture) : Int:=if 6 < l.length then 8 else match Yc (Ze n l) l.length with | some i=>Ze n l i | none=>0
def YR (n : FeedNet) (l : List FeedDeparture) : Int:=if (Zg n).2 ≠ 0 then (Zg n).2 else Qir n l
theorem Qhn (a b : Prop) [Decidable a] [Decidable b] : (decide a && decide b) = decide (a ∧ b):=(Bool.decide_and a b).symm
theorem QNu {n : FeedNet} (h : NetS n) (l : List FeedDeparture) : Qbe n l = some (⟨n⟩,(if YR n l = 0 then l.map (Xg n) else []),YR n l):=by
  unfold Qbe Qca YR
  rw [Qtf h,Qv,Qv]
  by_cases h0 : (Zg n).2 = 0
  · simp only [h0,ne_eq,not_true_eq_false,if_false,decide_true,Bool.not_true,cond_false]
    rw [show feed_net.mk (FeedNet.mk n.Stations n.Sections n.Trains) = feed_net.mk n from rfl,QFm n l h.tr,Qv]
    unfold Qir
    by_cases h6 : 6 < l.length
    · simp [h6]
    · rw [if_neg h6,if_neg h6]
      rcases Qaq (Ze n l) l.length with ⟨e,_⟩ | ⟨i,e,_,hi,_⟩
      · rw [e]; simp
      · rw [e]; simp [hi]
  · simp [h0]
theorem QOx {n : FeedNet} (h : NetS n) (l : List FeedDeparture) : Qgi n l = some (YR n l):=by
  unfold Qgi Qeb YR Qir
  rw [Qyv h,Qv]
  by_cases h0 : (Zg n).2 = 0
  · simp only [h0,ne_eq,not_true_eq_false,if_false,decide_true,Bool.not_true,cond_false,Qv]
    rw [QOy n l h.tr,Qv]
    by_cases h6 : 6 < l.length
    · rw [if_pos h6,if_pos h6]
    · rw [if_neg h6,if_neg h6]
      cases Yc (Ze n l) l.length <;> rfl
  · simp [h0]
theorem QKe (a b : Int) : ZP [a,b] = if a ≠ 0 then a else b:=by
  unfold ZP ZP ZP; by_cases h : a = 0 <;> by_cases h2 : b = 0 <;> simp [h,h2]
theorem Qmz {n : FeedNet} {l : List FeedDeparture} (h : YR n l = 0) : NetOk n ∧ l.length ≤ 6 ∧ ∀ d ∈ l,ZH n.Sections.length (Xg n d) ∧ 0 ≤ Yq n d.Train:=by
  unfold YR at h
  by_cases h0 : (Zg n).2 = 0
  · have hn:=Qjr h0
    simp only [h0,ne_eq,not_true_eq_false,if_false] at h
    unfold Qir at h
    by_cases h6 : 6 < l.length
    · rw [if_pos h6] at h; omega
    · rw [if_neg h6] at h
      refine ⟨hn,by omega,fun d hd=>?_⟩
      obtain ⟨k,hk,rfl⟩:=List.getElem_of_mem hd
      have hz:=Qwm h k hk
      unfold Ze at hz
      rw [List.getElem?_eq_getElem hk] at hz
      exact ⟨QQn hn hz,Qne hz⟩
  · rw [if_pos h0] at h; exact absurd h h0
end Go.Gw

end
section
set_option maxRecDepth 4096
namespace Go.Gw
open Go
def Qbl (n : FeedNet) (s : Int) : Int:=if 0 ≤ s ∧ s ≤ (n.Stations.length : Int) - 1 then 0 else 6
theorem QFq {n : FeedNet} (hn : n.Stations.length < 1000) (s : Int) : Qjc ⟨n⟩ s = some (Qbl n s):=by
  unfold Qjc Qbl
  simp only []
  rw [Yi (x:=(n.Stations.length : Int) - 1) (by omega),Qbo,Qv,JX,Qv,Qhn]
  by_cases h : 0 ≤ s ∧ s ≤ (n.Stations.length : Int) - 1 <;> simp [h]
structure Rt (n : FeedNet) (l : List FeedDeparture) : Prop where
  ne : NetOk n
  tr : n.Trains.length < 1000
  l6 : l.length ≤ 6
  ru : ∀ d ∈ l,ZH n.Sections.length (Xg n d) ∧ 0 ≤ Yq n d.Train
theorem Qzj {n : FeedNet} (h : NetS n) {l : List FeedDeparture} (hb : YR n l = 0) : Rt n l:=⟨(Qmz hb).1,h.tr,(Qmz hb).2.1,(Qmz hb).2.2⟩
section
variable {n : FeedNet} {l : List FeedDeparture} (h : Rt n l)
include h
theorem Qkx : ∀ r ∈ l.map (Xg n),ZH n.Sections.length r:=fun r hr=>by obtain ⟨d,hd2,rfl⟩:=List.mem_map.1 hr; exact (h.ru d hd2).1
theorem QPb {t : Int} (ht : 0 ≤ t) (ht2 : t ≤ 100000) : Qgo n l t = some (Zn n (X1 (l.map (Xg n)) t)) :=
  QPc h.ne (fun j=>by have:=Qpx (Qkx h) t j; rw [List.length_map] at this; have:=h.l6; omega) (fun j _=>QPh h.tr (by have:=h.l6; omega) (fun d hd=>(h.ru d hd).2) (fun d hd=>(h.ru d hd).1) ht ht2 j)
end
end Go.Gw

end
section
set_option maxRecDepth 4096
namespace Go.Gw
open Go
def fsO {α ρ μ : Type} (o : Option α) (res : α → ρ) (u : μ) : ρ ⊕ μ:=match o with | some a=>.inl (res a) | none=>.inr u
theorem J7 {α σ ρ μ : Type} {step : σ → Option (σ ⊕ (ρ ⊕ μ))} (S : Nat → σ) (n : Nat) (f : Nat → Option α) (res : α → ρ) (o : μ)
    (hs : ∀ k,k < n → step (S k) = some (match f k with | some a=>.inr (.inl (res a)) | none=>.inl (S (k + 1))))
    (he : step (S n) = some (.inr (.inr o))) : loop step (S 0) = some (fsO ((List.range n).findSome? f) res o):=by
  have key : ∀ j k,k + j = n → loop step (S k) = some (fsO ((List.range' k j).findSome? f) res o):=by
    intro j
    induction j with
    | zero => intro k hk; obtain rfl : k = n := by omega
              exact Qdt he
    | succ j ih =>
      intro k hk
      have h1:=hs k (by omega)
      rw [List.range'_succ,List.findSome?_cons]
      cases hf : f k with
      | some a=>rw [hf] at h1; exact Qdt h1
      | none=>rw [hf] at h1; rw [Qjp h1]; exact ih (k + 1) (by omega)
  rw [List.range_eq_range']
  exact key n 0 (by omega)
theorem Qjg {α β : Type} (f : β → α → β) (a : β) (l : List α) (k : Nat) (hk : k < l.length) : (l.take (k + 1)).foldl f a = f ((l.take k).foldl f a) l[k]:=by
  rw [List.take_add_one,List.getElem?_eq_getElem hk,List.foldl_append]; rfl
def loF (a : Int) (r : feed_run) : Int:=if r.at_ < a then r.at_ else a
def hiF (a : Int) (r : feed_run) : Int:=if a < r.at_ + 12 then r.at_ + 12 else a
def Y3 (rs : List feed_run) : Int:=rs.foldl loF 1012
def Z3 (rs : List feed_run) : Int:=rs.foldl hiF 0
def Qgd (n : FeedNet) (k : Nat) : Int:=(n.Stations[k]?.map (·.Limit)).getD 0
def ldR (n : FeedNet) (rs : List feed_run) (t : Int) (k : Nat) : Int:=ZQ n.Sections (X1 rs t) k n.Sections.length
def ov1 (n : FeedNet) (rs : List feed_run) (t : Int) (k : Nat) : Option FeedPeak:=if 1000000 * Qgd n k < ldR n rs t k then some (FeedPeak.mk t k (ldR n rs t k)) else none
def Jn (n : FeedNet) (rs : List feed_run) (t : Int) : Option FeedPeak:=(List.range n.Stations.length).findSome? (ov1 n rs t)
def ovR (n : FeedNet) (rs : List feed_run) : Option FeedPeak:=(List.range (Z3 rs - Y3 rs + 1).toNat).findSome? fun (j : Nat)=>Jn n rs (Y3 rs + j)
def pkB (o : Option FeedPeak) : FeedPeak × Bool:=match o with | some p=>(p,true) | none=>(FeedPeak.mk 0 0 0,false)
theorem Qxi {rs : List feed_run} (h : ∀ r ∈ rs,0 ≤ r.at_ ∧ r.at_ ≤ 1000) : 0 ≤ Y3 rs ∧ Y3 rs ≤ 1012:=by
  have key : ∀ (l : List feed_run) a,(∀ r ∈ l,0 ≤ r.at_ ∧ r.at_ ≤ 1000) → 0 ≤ a ∧ a ≤ 1012 → 0 ≤ l.foldl loF a ∧ l.foldl loF a ≤ 1012:=by
    intro l
    induction l with
    | nil=>intro a _ h; exact h
    | cons r l ih =>
      intro a hr ha
      have:=hr r (List.mem_cons_self ..)
      exact ih _ (fun x hx=>hr x (List.mem_cons_of_mem _ hx)) (by unfold loF; split <;> omega)
  exact key rs 1012 h (by omega)
theorem Qwr {rs : List feed_run} (h : ∀ r ∈ rs,0 ≤ r.at_ ∧ r.at_ ≤ 1000) : 0 ≤ Z3 rs ∧ Z3 rs ≤ 1012:=by
  have key : ∀ (l : List feed_run) a,(∀ r ∈ l,0 ≤ r.at_ ∧ r.at_ ≤ 1000) → 0 ≤ a ∧ a ≤ 1012 → 0 ≤ l.foldl hiF a ∧ l.foldl hiF a ≤ 1012:=by
    intro l
    induction l with
    | nil=>intro a _ h; exact h
    | cons r l ih =>
      intro a hr ha
      have:=hr r (List.mem_cons_self ..)
      exact ih _ (fun x hx=>hr x (List.mem_cons_of_mem _ hx)) (by unfold hiF; split <;> omega)
  exact key rs 0 h (by omega)
theorem Qst (x y : Int) : Qbb x y = some (if x < y then -1 else if y < x then 1 else 0):=by
  unfold Qbb Qfc
  simp only [decide_true,Bool.not_true,Qv,cond_false]
  by_cases h1 : x < y
  · simp [h1]
  · by_cases h2 : y < x <;> simp [h1,h2]
def mnF (a r : feed_run) : feed_run:=if r.at_ < a.at_ then r else a
def JT (a r : feed_run) : feed_run:=if a.at_ < r.at_ then r else a
def J4 (r : feed_run) : ByteArray × Int × Int × List FeedStep × Int:=(r.FeedTrain.Name,r.FeedTrain.Earliest,r.FeedTrain.Latest,r.FeedTrain.Steps,r.at_)
theorem QLe (r0 : feed_run) (l : List feed_run) (hl : l.length < 1000000) : Qhh (r0 :: l) = some (l.foldl mnF r0):=by
  have key : loop (Qhg (r0 :: l)) (1,J4 r0) = some (J4 (l.foldl mnF r0)) :=
    Zu (fun k=>((k : Int) + 1,J4 ((l.take k).foldl mnF r0))) l.length (fun k hk=>by
      unfold Qhg Qdh J4
      have hi : idx (r0 :: l) ((k : Int) + 1) = some l[k]:=by
        rw [show (k : Int) + 1 = ((k + 1 : Nat) : Int) by omega,Xy (show k + 1 < (r0 :: l).length by simpa using hk)]; rfl
      simp only [hi,Qv,Qst,Qjg _ _ _ _ hk]
      rw [decide_eq_true (by simp; omega),cond_true,Yi (x:=(k : Int) + 1 + 1) (by omega)]
      generalize List.foldl mnF r0 (List.take k l) = a
      unfold mnF
      by_cases h1 : l[k].at_ < a.at_
      · simp [h1]
      · by_cases h2 : a.at_ < l[k].at_ <;> simp [h1,h2]) (by
      unfold Qhg
      rw [List.take_length]
      unfold J4
      simp)
  unfold Qhh
  rw [decide_eq_false (show ¬ (((r0 :: l).length : Nat) : Int) < 1 by simp; omega),cond_false,Qv,show idx (r0 :: l) 0 = some r0 from rfl,Qv]
  exact (congrArg (fun o=>Option.bind o _) key).trans rfl
theorem QKz (r0 : feed_run) (l : List feed_run) (hl : l.length < 1000000) : Qhf (r0 :: l) = some (l.foldl JT r0):=by
  have key : loop (Qhe (r0 :: l)) (1,J4 r0) = some (J4 (l.foldl JT r0)) :=
    Zu (fun k=>((k : Int) + 1,J4 ((l.take k).foldl JT r0))) l.length (fun k hk=>by
      unfold Qhe Qdh J4
      have hi : idx (r0 :: l) ((k : Int) + 1) = some l[k]:=by
        rw [show (k : Int) + 1 = ((k + 1 : Nat) : Int) by omega,Xy (show k + 1 < (r0 :: l).length by simpa using hk)]; rfl
      simp only [hi,Qv,Qst,Qjg _ _ _ _ hk]
      rw [decide_eq_true (by simp; omega),cond_true,Yi (x:=(k : Int) + 1 + 1) (by omega)]
      generalize List.foldl JT r0 (List.take k l) = a
      unfold JT
      by_cases h1 : l[k].at_ < a.at_
      · have h2 : ¬ a.at_ < l[k].at_:=by omega
        simp [h1,h2]
      · by_cases h2 : a.at_ < l[k].at_ <;> simp [h1,h2]) (by
      unfold Qhe
      rw [List.take_length]
      unfold J4
      simp)
  unfold Qhf
  rw [decide_eq_false (show ¬ (((r0 :: l).length : Nat) : Int) < 1 by simp; omega),cond_false,Qv,show idx (r0 :: l) 0 = some r0 from rfl,Qv]
  exact (congrArg (fun o=>Option.bind o _) key).trans rfl
theorem QLg (r0 : feed_run) (l : List feed_run) : (l.foldl mnF r0).at_ = l.foldl loF r0.at_:=by
  induction l generalizing r0 with
  | nil=>rfl
  | cons r l ih=>rw [List.foldl_cons,List.foldl_cons,ih]; congr 1; unfold mnF loF; split <;> rfl
theorem QLh (r0 : feed_run) (l : List feed_run) : (l.foldl JT r0).at_ + 12 = l.foldl hiF (r0.at_ + 12):=by
  induction l generalizing r0 with
  | nil=>rfl
  | cons r l ih=>rw [List.foldl_cons,List.foldl_cons,ih]; congr 1; unfold JT hiF; split <;> split <;> first | rfl | omega
section
variable {n : FeedNet} {rs : List feed_run} (hn : NetOk n) (hl : rs.length ≤ 8) (h : ∀ r ∈ rs,ZH n.Sections.length r)
include hn
theorem Qxh {k : Nat} (hk : k < n.Stations.length) : w64 (1000000 * n.Stations[k].Limit) = 1000000 * Qgd n k:=by
  have:=hn.lim _ (List.getElem_mem hk)
  unfold Qgd
  rw [Yi (by omega),List.getElem?_eq_getElem hk]; rfl
include hl h
theorem QFk {t : Int} (ht : 0 ≤ t) (ht2 : t ≤ 1012) {R : feed_run} (hR : t ≤ R.at_ + 12) (hR2 : R.at_ ≤ 100000) (hR3 : -100000 ≤ R.at_): Qdj rs ⟨n⟩ R t = some (match Jn n rs t with | some p=>.inr (.inl (p,true)) | none=>.inl (t + 1)):=by
  have hlen : ((Zn n (X1 rs t)).length : Int) = (n.Stations.length : Int):=by unfold Zn; simp
  have hst:=hn.st6
  have key : loop (Qdi ⟨n⟩ (Zn n (X1 rs t)) t) 0 = some (fsO (Jn n rs t) (fun p=>.inr (.inl (p,true))) ()) :=
    J7 (ρ:=Int ⊕ ((FeedPeak × Bool) ⊕ Unit)) (step:=Qdi ⟨n⟩ (Zn n (X1 rs t)) t) (fun k=>(k : Int)) n.Stations.length (ov1 n rs t) (fun p=>.inr (.inl (p,true))) () (fun k hk=>by
      have hi : idx (Zn n (X1 rs t)) (k : Int) = some (ldR n rs t k):=by
        unfold Zn; rw [Xy?,List.getElem?_map,List.getElem?_range hk]; rfl
      unfold Qdi ov1
      rw [hlen,XK hk,cond_true,hi,Qv]
      simp only [Xy hk,Qv]
      rw [Qxh hn hk,XN k (by omega)]
      by_cases hc : 1000000 * Qgd n k < ldR n rs t k
      · rw [decide_eq_true hc,if_pos hc]; rfl
      · rw [decide_eq_false hc,if_neg hc]; rfl) (by
      unfold Qdi
      rw [hlen,XL]; rfl)
  unfold Qdj
  rw [Yi (x:=R.at_ + 12) (by omega),decide_eq_true hR,cond_true,QFh hn hl h ht (by omega),Qv,key,Qv,Yi (x:=t + 1) (by omega)]
  cases Jn n rs t <;> rfl
theorem QFl : Qbd ⟨n⟩ rs = some (pkB (ovR n rs)):=by
  cases rs with
  | nil=>simp [Qbd,ovR,Z3,Y3,pkB]
  | cons r0 l =>
    have hat : ∀ r ∈ r0 :: l,0 ≤ r.at_ ∧ r.at_ ≤ 1000:=fun r hr=>⟨(h r hr).2.2.1,(h r hr).2.2.2⟩
    have h0:=hat r0 (List.mem_cons_self ..)
    have hlo : (l.foldl mnF r0).at_ = Y3 (r0 :: l):=by
      rw [QLg]; unfold Y3; rw [List.foldl_cons]; congr 1; unfold loF; split <;> omega
    have hhi : (l.foldl JT r0).at_ + 12 = Z3 (r0 :: l):=by
      rw [QLh]; unfold Z3; rw [List.foldl_cons]; congr 1; unfold hiF; split <;> omega
    have b1:=Qxi hat
    have b2:=Qwr hat
    have hlen : l.length < 1000000:=by rw [List.length_cons] at hl; omega
    have key:=J7 (step:=Qdj (r0 :: l) ⟨n⟩ (l.foldl JT r0)) (fun k=>Y3 (r0 :: l) + (k : Int)) (Z3 (r0 :: l) - Y3 (r0 :: l) + 1).toNat (fun (j : Nat)=>Jn n (r0 :: l) (Y3 (r0 :: l) + j)) (fun p=>(p,true)) () (fun k hk=>by
      have hk2 : Y3 (r0 :: l) + (k : Int) ≤ Z3 (r0 :: l):=by omega
      rw [QFk hn hl h (R:=l.foldl JT r0) (by omega) (by omega) (by omega) (by omega) (by omega)]
      cases Jn n (r0 :: l) (Y3 (r0 :: l) + (k : Int)) with
      | some p=>rfl
      | none=>simp only; congr 2; omega) (by
      unfold Qdj
      rw [Yi (x:=(l.foldl JT r0).at_ + 12) (by omega),decide_eq_false (by omega)]; rfl)
    unfold Qbd
    rw [decide_eq_false (show ¬ ((((r0 :: l).length : Nat) : Int) = 0) by simp; omega),cond_false,QLe r0 l hlen,Qv,QKz r0 l hlen,Qv,hlo]
    simp only [Int.natCast_zero,Int.add_zero] at key
    rw [key,Qv]
    unfold ovR
    cases (List.range (Z3 (r0 :: l) - Y3 (r0 :: l) + 1).toNat).findSome? (fun (j : Nat)=>Jn n (r0 :: l) (Y3 (r0 :: l) + j)) <;> rfl
end
section
variable {n : FeedNet} {l : List FeedDeparture} (h : Rt n l)
include h
theorem QPf {t hi : Int} (ht : 0 ≤ t) (ht2 : t ≤ 1012) (hh : t ≤ hi) : Qgk n l hi t = some (match Jn n (l.map (Xg n)) t with | some p=>.inr (.inl (p,true)) | none=>.inl (t + 1)):=by
  have hlen : ((Zn n (X1 (l.map (Xg n)) t)).length : Int) = (n.Stations.length : Int):=by unfold Zn; simp
  have hst:=h.ne.st6
  have key : loop (Qgj n (Zn n (X1 (l.map (Xg n)) t)) t) 0 = some (fsO (Jn n (l.map (Xg n)) t) (fun p=>.inr (.inl (p,true))) ()) :=
    J7 (ρ:=Int ⊕ ((FeedPeak × Bool) ⊕ Unit)) (step:=Qgj n (Zn n (X1 (l.map (Xg n)) t)) t) (fun k=>(k : Int)) n.Stations.length (ov1 n (l.map (Xg n)) t) (fun p=>.inr (.inl (p,true))) () (fun k hk=>by
      have hi : idx (Zn n (X1 (l.map (Xg n)) t)) (k : Int) = some (ldR n (l.map (Xg n)) t k):=by
        unfold Zn; rw [Xy?,List.getElem?_map,List.getElem?_range hk]; rfl
      unfold Qgj ov1
      rw [hlen,XK hk,cond_true,hi,Qv]
      simp only [Xy hk,Qv]
      rw [Qxh h.ne hk,XN k (by omega)]
      by_cases hc : 1000000 * Qgd n k < ldR n (l.map (Xg n)) t k
      · rw [decide_eq_true hc,if_pos hc]; rfl
      · rw [decide_eq_false hc,if_neg hc]; rfl) (by
      unfold Qgj
      rw [hlen,XL]; rfl)
  unfold Qgk
  rw [decide_eq_true hh,cond_true,QPb h ht (by omega),Qv,key,Qv,Yi (x:=t + 1) (by omega)]
  cases Jn n (l.map (Xg n)) t <;> rfl
theorem QPg : Qkm n l = some (pkB (ovR n (l.map (Xg n)))):=by
  have hat : ∀ r ∈ l.map (Xg n),0 ≤ r.at_ ∧ r.at_ ≤ 1000:=fun r hr=>⟨(Qkx h r hr).2.2.1,(Qkx h r hr).2.2.2⟩
  have hl:=h.l6
  have first : loop (Qkl l) (1012,0,0) = some (Y3 (l.map (Xg n)),Z3 (l.map (Xg n))) :=
    Zu (fun k=>(((l.map (Xg n)).take k).foldl loF 1012,((l.map (Xg n)).take k).foldl hiF 0,(k : Int))) l.length (fun k hk=>by
      have hd:=hat (Xg n l[k]) (List.mem_map.2 ⟨_,List.getElem_mem hk,rfl⟩)
      have e : (Xg n l[k]).at_ = l[k].At:=rfl
      rw [e] at hd
      unfold Qkl
      simp only [XK hk,cond_true,Xy hk,Qv]
      rw [Qjg _ _ _ _ (by simpa using hk),Qjg _ _ _ _ (by simpa using hk),Yi (x:=l[k].At + 12) (by omega),XN k (by omega)]
      simp only [List.getElem_map]
      rfl) (by
      unfold Qkl
      simp only [XL,cond_false,Y3,Z3]
      rw [List.take_of_length_le (by simp)])
  have b1:=Qxi hat
  have b2:=Qwr hat
  have key:=J7 (step:=Qgk n l (Z3 (l.map (Xg n)))) (fun k=>Y3 (l.map (Xg n)) + (k : Int)) (Z3 (l.map (Xg n)) - Y3 (l.map (Xg n)) + 1).toNat (fun (j : Nat)=>Jn n (l.map (Xg n)) (Y3 (l.map (Xg n)) + j)) (fun p=>(p,true)) () (fun k hk=>by
    rw [QPf h (by omega) (by omega) (by omega)]
    cases Jn n (l.map (Xg n)) (Y3 (l.map (Xg n)) + (k : Int)) with
    | some p=>rfl
    | none=>simp only; congr 2; omega) (by
    unfold Qgk
    rw [decide_eq_false (by omega)]; rfl)
  unfold Qkm
  rw [first,Qv]
  simp only [Int.natCast_zero,Int.add_zero] at key ⊢
  rw [key,Qv]
  unfold ovR
  cases (List.range (Z3 (l.map (Xg n)) - Y3 (l.map (Xg n)) + 1).toNat).findSome? (fun (j : Nat)=>Jn n (l.map (Xg n)) (Y3 (l.map (Xg n)) + j)) <;> rfl
end
end Go.Gw

end
section
set_option maxRecDepth 4096
namespace Go.Gw
open Go
/-! ### Lists, compared -/
def Zx : List Int → List Int → Int
  | [],[]=>0
  | [],_ :: _=>-1
  | _ :: _,[]=>1
  | x :: xs,y :: ys=>if x < y then -1 else if y < x then 1 else Zx xs ys
theorem Qxf : ∀ {a b},Zx a b = 0 → a = b
  | [],[],_=>rfl
  | [],_ :: _,h=>by simp [Zx] at h
  | _ :: _,[],h=>by simp [Zx] at h
  | x :: xs,y :: ys,h=>by
    unfold Zx at h
    by_cases h1 : x < y
    · simp [h1] at h
    · by_cases h2 : y < x
      · simp [h1,h2] at h
      · simp only [h1,h2,if_false] at h
        rw [show x = y by omega,Qxf h]
theorem Qxe : ∀ a b,Zx a b = -Zx b a
  | [],[]=>rfl
  | [],_ :: _=>rfl
  | _ :: _,[]=>rfl
  | x :: xs,y :: ys=>by
    unfold Zx
    by_cases h1 : x < y
    · have h2 : ¬ y < x:=by omega
      simp [h1,h2]
    · by_cases h2 : y < x
      · simp [h1,h2]
      · simp only [h1,h2,if_false]; exact Qxe xs ys
theorem Qxg : ∀ {a b c},Zx a b ≤ 0 → Zx b c ≤ 0 → Zx a c ≤ 0
  | [],_,[],_,_=>by simp [Zx]
  | [],_,_ :: _,_,_=>by simp [Zx]
  | _ :: _,[],_,h,_=>by simp [Zx] at h
  | _ :: _,_ :: _,[],_,h=>by simp [Zx] at h
  | x :: xs,y :: ys,z :: zs,h1,h2=>by
    unfold Zx at h1 h2 ⊢
    by_cases a1 : x < y
    · by_cases b1 : y < z
      · rw [if_pos (by omega)]; omega
      · by_cases b2 : z < y
        · simp [b1,b2] at h2
        · rw [if_pos (by omega)]; omega
    · by_cases a2 : y < x
      · simp [a1,a2] at h1
      · obtain rfl : x = y:=by omega
        simp only [a1,if_false] at h1
        by_cases b1 : x < z
        · rw [if_pos b1]; omega
        · by_cases b2 : z < x
          · simp [b1,b2] at h2
          · simp only [b1,b2,if_false] at h2 ⊢
            exact Qxg h1 h2
/-! ### Plans, compared -/
def pc (p o : feed_plan) : Int:=if p.delay < o.delay then -1 else if o.delay < p.delay then 1 else Zx p.at_ o.at_
theorem QOn (p q : feed_plan) : pc p q = -pc q p:=by
  unfold pc
  by_cases h1 : p.delay < q.delay
  · have h2 : ¬ q.delay < p.delay:=by omega
    simp [h1,h2]
  · by_cases h2 : q.delay < p.delay
    · simp [h1,h2]
    · simp only [h1,h2,if_false]; exact Qxe _ _
theorem QOp {p q r : feed_plan} (h1 : pc p q ≤ 0) (h2 : pc q r ≤ 0) : pc p r ≤ 0:=by
  unfold pc at *
  by_cases a1 : p.delay < q.delay
  · by_cases b1 : q.delay < r.delay
    · rw [if_pos (by omega)]; omega
    · by_cases b2 : r.delay < q.delay
      · simp [b1,b2] at h2
      · rw [if_pos (by omega)]; omega
  · by_cases a2 : q.delay < p.delay
    · simp [a1,a2] at h1
    · simp only [a1,a2,if_false] at h1
      by_cases b1 : q.delay < r.delay
      · rw [if_pos (by omega)]; omega
      · by_cases b2 : r.delay < q.delay
        · simp [b1,b2] at h2
        · simp only [b1,b2,if_false] at h2
          rw [if_neg (by omega),if_neg (by omega)]
          exact Qxg h1 h2
theorem QOo {p q : feed_plan} (hp : p.found = true) (hq : q.found = true) (h : pc p q = 0) : p = q:=by
  unfold pc at h
  by_cases h1 : p.delay < q.delay
  · simp [h1] at h
  · by_cases h2 : q.delay < p.delay
    · simp [h1,h2] at h
    · simp only [h1,h2,if_false] at h
      have h3:=Qxf h
      have h4 : p.delay = q.delay:=by omega
      cases p; cases q
      simp only at hp hq h3 h4
      subst hp hq h3 h4
      rfl
def Bst (l : List feed_plan) (B : feed_plan) : Prop:=((∀ p ∈ l,p.found = false) ∧ B.found = false) ∨ (B ∈ l ∧ B.found = true ∧ ∀ q ∈ l,q.found = true → pc B q ≤ 0)
theorem Bst.found_eq {l : List feed_plan} {B B' : feed_plan} (h : Bst l B) (h' : Bst l B') : B.found = B'.found:=by
  rcases h with ⟨h1,h2⟩ | ⟨h1,h2,h3⟩
  · rcases h' with ⟨k1,k2⟩ | ⟨k1,k2,k3⟩
    · rw [h2,k2]
    · have:=h1 _ k1; rw [k2] at this; cases this
  · rcases h' with ⟨k1,k2⟩ | ⟨k1,k2,k3⟩
    · have:=k1 _ h1; rw [h2] at this; cases this
    · rw [h2,k2]
theorem Bst.eq {l : List feed_plan} {B B' : feed_plan} (h : Bst l B) (h' : Bst l B') (hf : B.found = true) : B = B':=by
  have hf':=(h.found_eq h').symm.trans hf
  rcases h with ⟨h1,h2⟩ | ⟨h1,h2,h3⟩
  · rw [h2] at hf; cases hf
  · rcases h' with ⟨k1,k2⟩ | ⟨k1,k2,k3⟩
    · rw [k2] at hf'; cases hf'
    · refine QOo hf hf' ?_
      have a:=h3 _ k1 hf'
      have b:=k3 _ h1 hf
      rw [QOn] at b
      omega
theorem Bst.perm {l l' : List feed_plan} (hp : l'.Perm l) {B : feed_plan} (h : Bst l B) : Bst l' B:=by
  rcases h with ⟨h1,h2⟩ | ⟨h1,h2,h3⟩
  · exact .inl ⟨fun p hm=>h1 p (hp.subset hm),h2⟩
  · exact .inr ⟨hp.symm.subset h1,h2,fun q hq=>h3 q (hp.subset hq)⟩
theorem Bst.flat {α : Type} {ks : List α} {f : α → List feed_plan} {g : α → feed_plan} (hg : ∀ k ∈ ks,Bst (f k) (g k)) {B : feed_plan} (h : Bst (ks.map g) B) : Bst (ks.flatMap f) B:=by
  rcases h with ⟨h1,h2⟩ | ⟨h1,h2,h3⟩
  · refine .inl ⟨fun p hp=>?_,h2⟩
    obtain ⟨k,hk,hp⟩:=List.mem_flatMap.1 hp
    rcases hg k hk with ⟨a,_⟩ | ⟨_,a,_⟩
    · exact a p hp
    · rw [h1 _ (List.mem_map.2 ⟨k,hk,rfl⟩)] at a; cases a
  · obtain ⟨k,hk,rfl⟩:=List.mem_map.1 h1
    rcases hg k hk with ⟨_,a⟩ | ⟨a1,a2,a3⟩
    · rw [a] at h2; cases h2
    · refine .inr ⟨List.mem_flatMap.2 ⟨k,hk,a1⟩,h2,fun q hq hf=>?_⟩
      obtain ⟨j,hj,hq⟩:=List.mem_flatMap.1 hq
      rcases hg j hj with ⟨b,_⟩ | ⟨b1,b2,b3⟩
      · rw [b q hq] at hf; cases hf
      · exact QOp (h3 _ (List.mem_map.2 ⟨j,hj,rfl⟩) b2) (b3 q hq hf)
end Go.Gw

end
section
set_option maxRecDepth 4096
namespace Go.Gw
open Go
/-! ### Names are apart -/
theorem QBe {α : Type} {p : α → Bool} : ∀ (l : List α) (k m : Nat) (hk : k < l.length),p l[k] = true → (l.take k).any p = false → X2 p (fun k _=>(k : Int)) m l = .inl ((m + k : Nat) : Int)
  | x :: xs,0,m,_,hp,_=>by simp at hp; simp [X2,hp]
  | x :: xs,k + 1,m,hk,hp,ha=>by
    simp only [List.take_succ_cons,List.any_cons,Bool.or_eq_false_iff] at ha
    simp only [X2,ha.1]
    have:=QBe xs k (m + 1) (by simpa using hk) (by simpa using hp) ha.2
    rw [← show m + 1 + k = m + (k + 1) by omega]
    simpa using this
theorem Qyo {n : FeedNet} (h : (Zg n).2 = 0) {k : Nat} (hk : k < n.Trains.length) : Yq n n.Trains[k].Name = (k : Int):=by
  have h0 : Zz n k = 0:=by
    unfold Zg at h
    split at h
    · cases h
    · split at h
      · cases h
      · rcases Qaq (ZU n) n.Stations.length with ⟨a1,a2⟩ | ⟨i,a1,a2,a3,_⟩
        · rw [a1] at h
          rcases Qaq (ZS n) n.Sections.length with ⟨b1,b2⟩ | ⟨i,b1,b2,b3,_⟩
          · rw [b1] at h
            rcases Qaq (Zz n) n.Trains.length with ⟨c1,c2⟩ | ⟨i,c1,c2,c3,_⟩
            · exact c2 k hk
            · rw [c1] at h; exact absurd h c3
          · rw [b1] at h; exact absurd h b3
        · rw [a1] at h; exact absurd h a3
  rw [show Zz n k = trE n.Trains[k] ((n.Trains.take k).map (·.Name)) n.Sections.length from Jh _ _ _ hk] at h0
  unfold trE at h0
  split at h0
  · rename_i hc; exact absurd h0 hc
  · rename_i hc
    have hc : Jj n.Trains[k].Name ((n.Trains.take k).map (·.Name)) = 0:=by
      rcases Decidable.em (Jj n.Trains[k].Name ((n.Trains.take k).map (·.Name)) = 0) with h | h
      · exact h
      · exact absurd h hc
    unfold Jj at hc
    split at hc
    · cases hc
    · split at hc
      · cases hc
      · rename_i ha
        rw [Qmp,Bool.not_eq_true] at ha
        unfold Yq
        rw [QBe n.Trains k 0 hk (by simp) ha]
        simp
structure Trs (n : FeedNet) (ts : List FeedTrain) : Prop where
  ne : NetOk n
  ru : ∀ t ∈ ts,∀ a : Int,Xg n (FeedDeparture.mk t.Name a) = feed_run.mk t a
  ok : ∀ t ∈ ts,JM t n.Sections.length = 0
theorem QTv {n : FeedNet} (h : (Zg n).2 = 0) : Trs n n.Trains:=by
  refine ⟨Qjr h,fun t ht a=>?_,(Qjr h).tr⟩
  obtain ⟨k,hk,rfl⟩:=List.mem_iff_getElem.1 ht
  unfold Xg
  simp only [Qyo h hk,Int.toNat_natCast,List.getElem?_eq_getElem hk,Option.getD_some]
theorem Trs.tail {n : FeedNet} {t : FeedTrain} {ts : List FeedTrain} (h : Trs n (t :: ts)) : Trs n ts:=⟨h.ne,fun x hx=>h.ru x (List.mem_cons_of_mem _ hx),fun x hx=>h.ok x (List.mem_cons_of_mem _ hx)⟩
end Go.Gw

end
section
set_option maxRecDepth 4096
namespace Go.Gw
open Go
theorem QPd {n : FeedNet} (h : NetS n) : Qeb n = some (Zg n).2:=by
  unfold Qeb; rw [Qyv h,Qv]
/-! ### Departures that fit -/
def Fits : List FeedTrain → List FeedDeparture → Prop
  | [],[]=>True
  | t :: ts,d :: ds=>(d.Train = t.Name ∧ t.Earliest ≤ d.At ∧ d.At ≤ t.Latest) ∧ Fits ts ds
  | _,_=>False
theorem Fits.len : ∀ {ts : List FeedTrain} {r : List FeedDeparture},Fits ts r → r.length = ts.length
  | [],[],_=>rfl
  | _ :: _,_ :: _,h=>by simp [Fits.len h.2]
theorem Fits.get : ∀ {ts : List FeedTrain} {r : List FeedDeparture},Fits ts r → ∀ k (hk : k < r.length) (hk2 : k < ts.length),r[k].Train = ts[k].Name ∧ ts[k].Earliest ≤ r[k].At ∧ r[k].At ≤ ts[k].Latest
  | [],[],_,k,hk,_=>by simp at hk
  | _ :: _,_ :: _,h,0,_,_=>h.1
  | _ :: _,_ :: _,h,k + 1,hk,hk2=>Fits.get h.2 k (by simpa using hk) (by simpa using hk2)
theorem Fits.eq : ∀ {ts : List FeedTrain} {r s : List FeedDeparture},Fits ts r → Fits ts s → r.map (·.At) = s.map (·.At) → r = s
  | [],[],[],_,_,_=>rfl
  | _ :: _,⟨a,b⟩ :: r,⟨c,d⟩ :: s,h1,h2,h=>by
    simp only [List.map_cons,List.cons.injEq] at h
    have e1:=h1.1.1
    have e2:=h2.1.1
    simp only at e1 e2
    rw [Fits.eq h1.2 h2.2 h.2,e1,e2,h.1]
theorem Fits.rt {n : FeedNet} (h : (Zg n).2 = 0) (hs : n.Trains.length < 1000) {p : List FeedDeparture} (hp : Fits n.Trains p) : Rt n p:=by
  have hT:=QTv h
  refine ⟨hT.ne,hs,by rw [hp.len]; exact hT.ne.tr6,fun d hd=>?_⟩
  obtain ⟨k,hk,rfl⟩:=List.mem_iff_getElem.1 hd
  have hk2 : k < n.Trains.length:=by rw [← hp.len]; exact hk
  have hg:=hp.get k hk hk2
  have ht:=QBv (hT.ok _ (List.getElem_mem hk2))
  have e : Xg n p[k] = feed_run.mk n.Trains[k] p[k].At:=by
    rw [← hT.ru _ (List.getElem_mem hk2),← hg.1]
  refine ⟨?_,by rw [hg.1,Qyo h hk2]; omega⟩
  rw [e]
  exact ⟨ht.2.2.2.2.2,ht.2.2.2.2.1,by show 0 ≤ p[k].At; omega,by show p[k].At ≤ 1000; omega⟩
end Go.Gw

end
