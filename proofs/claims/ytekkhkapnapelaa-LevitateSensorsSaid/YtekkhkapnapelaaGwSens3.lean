/- Laws of the walk. Condition: each theorem says its own. -/
import Derived.Test.YtekkhkapnapelaaGwLib11
import Derived.Test.YtekkhkapnapelaaGwPl2
import Derived.Test.YtekkhkapnapelaaGwLawLevitateSensors
set_option linter.unusedVariables false
set_option linter.unusedSimpArgs false
set_option linter.unusedSectionVars false
section
set_option maxRecDepth 8192
set_option linter.unusedSimpArgs false
set_option linter.unusedVariables false
namespace Go.Gw
open Go Ieee
def Y5 (r : Nat) (e n : Int) : Prop :=
  YP r = some (decide (e ≠ 3)) ∧ (e ≠ 3 → (Xn r 0 && XG r 1161527296) = decide (e = 0)) ∧ (e = 0 → Yb r = some n ∧ 0 ≤ n ∧ n ≤ 3000 ∧ XM r (n * 2 ^ 149)) ∧
  ZZ r = some (if e = 0 then n else 0,e) ∧ (e = 0 ∨ e = 2 ∨ e = 3)
theorem Qnx {r : Nat} (h : ZK r = none) : YP r = open Classical in if ((Xn r 1266679808) || (XG r 3414163456)) = true then (if YX r r = none then some false else none) else (if Yb r = none ∧ ∀ c,Xv r (Xw c) = false then some false else none):=by
  unfold YP; rw [h]
theorem Qfd {r : Nat} {b : Bool} (h : ZK r = some b) : YP r = some b:=by
  unfold YP; rw [h]
theorem Qcc {r : Nat} {b : Int × Int} (h : Z0 r = some b) : ZZ r = some b:=by
  unfold ZZ; rw [h]
theorem Qeq {r x : Nat} {s f} (h : single.read r = .nan s f) : FloatKind.f32.format.order r x = none:=by
  show single.order r x = _
  unfold Ieee.Format.order; rw [h]
  rfl
theorem Qps {r : Nat} {s f} (h : single.read r = .nan s f) : Y5 r 3 0:=by
  have c1 : ∀ x,Xn r x = false:=fun x=>by unfold Xn; rw [Qeq h]; rfl
  have c2 : ∀ x,XG r x = false:=fun x=>by unfold XG; rw [Qeq h]; rfl
  have c3 : ∀ x,Xv r x = false:=fun x=>by unfold Xv; rw [Qeq h]; rfl
  have c4 : ∀ x,QN r x = true:=fun x=>by unfold QN; rw [Qeq h]; rfl
  have c5 : Yb r = none:=by
    unfold Yb
    have : (FloatKind.f32.decode r).toInt .zero = none:=by
      show (single.read r).toInt .zero = none
      rw [h]; rfl
    rw [this]
  refine ⟨?_,fun h=>absurd rfl h,fun h=>(by cases h),Qcc ?_,.inr (.inr rfl)⟩
  · rw [Qnx]
    · rw [c1,c2,if_neg (by decide),if_pos ⟨c5,fun c=>c3 _⟩]; rfl
    · unfold ZK
      rw [c1,c2,c5]; rfl
  · unfold Z0
    rw [c4]; rfl
theorem Qcx {r : Nat} {s} (h : single.read r = .infinity s) : YX r r = none:=by
  unfold YX
  show Ieee.Format.sub single r r = _
  unfold Ieee.Format.sub
  rw [h]
  cases s <;> rfl
theorem Qep {r x : Nat} {s V} (h : single.read r = .infinity s) (hx : XM x V) : FloatKind.f32.format.order r x = some (if s then .lt else .gt):=by
  obtain ⟨t,m,k,h',-⟩:=hx
  show single.order r x = _
  unfold Ieee.Format.order; rw [h,h']
  cases s <;> rfl
theorem Qvo {r : Nat} {s} (h : single.read r = .infinity s) : FloatKind.f32.format.order r r = some .eq:=by
  show single.order r r = _
  unfold Ieee.Format.order; rw [h]
  cases s <;> rfl
theorem Qpr {r : Nat} {s} (h : single.read r = .infinity s) : Y5 r 3 0:=by
  have d1 : ((Xn r 1266679808) || (XG r 3414163456)) = true:=by
    unfold Xn XG
    rw [Qep h Qgb,Qep h Qge]
    cases s <;> rfl
  have d2 : QN r r = false:=by unfold QN; rw [Qvo h]; rfl
  have d3 : ((XZ r 1317011456) || (YD r 3464495104)) = true:=by
    unfold XZ YD
    rw [Qep h Qgc,Qep h Qgf]
    cases s <;> rfl
  have d4 : (((QN r r) || (XZ r 1317011456)) || (YD r 3464495104)) = true:=by rw [d2,Bool.false_or]; exact d3
  refine ⟨?_,fun h=>absurd rfl h,fun h=>(by cases h),?_,.inr (.inr rfl)⟩
  · rw [Qnx]
    · rw [if_pos d1,if_pos (Qcx h)]; rfl
    · unfold ZK
      rw [d1,Qcx h]; rfl
  · have : Z0 r = none := by
      unfold Z0
      rw [d4,d2,Qcx h]; rfl
    unfold ZZ
    rw [this]
    exact if_pos ⟨d4,d2,Qcx h⟩
theorem Qrb {r : Nat} {V W : Int} (h : XM r V) (e : V = W) : XM r W:=e ▸ h
theorem Qks {r : Nat} {V q : Int} (h : XM r V) (hq : (if V < 0 then -((V.natAbs / 2 ^ 149 : Nat) : Int) else ((V.natAbs / 2 ^ 149 : Nat) : Int)) = q) (h1 : -9223372036854775808 ≤ q) (h2 : q ≤ 9223372036854775807) : Yb r = some q:=by
  unfold Yb
  rw [Qxj h,hq]
  exact if_pos ⟨h1,h2⟩
theorem Qpq {r : Nat} {V : Int} (h : XM r V) (hV : 2 ^ 173 ≤ V.natAbs) : Y5 r 2 0:=by
  have d1 : ((Xn r 1266679808) || (XG r 3414163456)) = true:=by
    rw [Qbd h Qgb,Qbe h Qge,Bool.or_eq_true,decide_eq_true_eq,decide_eq_true_eq]
    omega
  have d0 : Xv 0 0 = true:=by decide +kernel
  have d0' : QN 0 0 = false:=by decide +kernel
  have d2 : QN r r = false:=by rw [Qbf h h]; simp
  refine ⟨?_,fun _=>?_,fun h=>(by cases h),Qcc ?_,.inr (.inl rfl)⟩
  · rw [Qfd (b:=true)]; · rfl
    unfold ZK
    rw [d1,Qnk h]
    show some (Xv 0 0) = _
    rw [d0]
  · rw [Qbd h Qcw,Qbe h Qgd]
    show _ = false
    rw [Bool.and_eq_false_iff,decide_eq_false_iff_not,decide_eq_false_iff_not]
    omega
  · unfold Z0
    rw [d2,Qko h Qgc,Qkp h Qgf]
    by_cases hc : 2 ^ 179 < V.natAbs
    · have : ((false || decide ((2 : Int) ^ 179 < V)) || decide (V < -2 ^ 179)) = true := by
        rw [Bool.false_or,Bool.or_eq_true,decide_eq_true_eq,decide_eq_true_eq]; omega
      rw [this,Qnk h]
      show (bif (false || QN 0 0) then some ((0 : Int),(3 : Int)) else some (0,2)) = _
      rw [d0']; rfl
    · have : ((false || decide ((2 : Int) ^ 179 < V)) || decide (V < -2 ^ 179)) = false := by
        rw [Bool.false_or,Bool.or_eq_false_iff,decide_eq_false_iff_not,decide_eq_false_iff_not]; omega
      rw [this]
      obtain ⟨n,hn,hf⟩:=Qra h hV
      have hq : Yb r = some n:=by
        refine Qks h ?_ ?_ ?_
        · rw [hn,Int.natAbs_mul,show ((2 : Int) ^ 149).natAbs = 2 ^ 149 by decide +kernel,Nat.mul_div_cancel _ (Nat.pow_pos (by decide))]
          split <;> omega
        · omega
        · omega
      rw [hq]
      show (bif QN (Xw n) r then _ else Option.bind (Qaz n 0 3000) _) = _
      rw [Qbf hf h]
      have : Qaz n 0 3000 = some false:=by
        show some (decide (0 ≤ n) && decide (n ≤ 3000)) = _
        rw [show (decide (0 ≤ n) && decide (n ≤ 3000)) = false by rw [Bool.and_eq_false_iff,decide_eq_false_iff_not,decide_eq_false_iff_not]; omega]
      rw [this,decide_eq_true rfl]; rfl
theorem Qpt {r : Nat} {V : Int} (h : XM r V) (hV : V.natAbs < 2 ^ 173) : ∃ e n,Y5 r e n:=by
  have d1 : ((Xn r 1266679808) || (XG r 3414163456)) = false:=by
    rw [Qbd h Qgb,Qbe h Qge,Bool.or_eq_false_iff,decide_eq_false_iff_not,decide_eq_false_iff_not]
    omega
  have d2 : QN r r = false:=by rw [Qbf h h]; simp
  have d3 : (((QN r r) || (XZ r 1317011456)) || (YD r 3464495104)) = false:=by
    rw [d2,Qko h Qgc,Qkp h Qgf,Bool.false_or,Bool.or_eq_false_iff,decide_eq_false_iff_not,decide_eq_false_iff_not]; omega
  obtain ⟨q,hq⟩ : ∃ q : Int,(if V < 0 then -((V.natAbs / 2 ^ 149 : Nat) : Int) else ((V.natAbs / 2 ^ 149 : Nat) : Int)) = q:=⟨_,rfl⟩
  have hqb : q.natAbs < 16777216:=by
    have : V.natAbs / 2 ^ 149 < 16777216:=by
      rw [Nat.div_lt_iff_lt_mul (Nat.pow_pos (by decide))]; omega
    split at hq <;> omega
  have ht : Yb r = some q:=Qks h hq (by omega) (by omega)
  have hf:=Qkr hqb
  have w1 : ZK r = some (decide (V = q * 2 ^ 149)):=by
    unfold ZK
    rw [d1,ht]
    show some (Xv r (Xw q)) = _
    rw [Qfy h hf]
  have w2 : Z0 r = (bif !decide (q * 2 ^ 149 = V) then some (0,3) else bif !(decide (0 ≤ q) && decide (q ≤ 3000)) then some (0,2) else some (q,0)):=by
    unfold Z0
    rw [d3,ht]
    show (bif QN (Xw q) r then _ else _) = _
    rw [Qbf hf h]
    rfl
  by_cases hc : V = q * 2 ^ 149
  · rw [decide_eq_true hc] at w1
    rw [decide_eq_true hc.symm,Bool.not_true,cond_false] at w2
    by_cases hr : 0 ≤ q ∧ q ≤ 3000
    · refine ⟨0,q,Qfd w1,fun _=>?_,fun _=>⟨ht,hr.1,hr.2,Qrb h hc⟩,Qcc ?_,.inl rfl⟩
      · rw [Qbd h Qcw,Qbe h Qgd,decide_eq_true (by omega),decide_eq_true (by omega)]; rfl
      · rw [w2,decide_eq_true hr.1,decide_eq_true hr.2]; rfl
    · refine ⟨2,0,Qfd w1,fun _=>?_,fun h=>(by cases h),Qcc ?_,.inr (.inl rfl)⟩
      · rw [Qbd h Qcw,Qbe h Qgd]
        show _ = false
        rw [Bool.and_eq_false_iff,decide_eq_false_iff_not,decide_eq_false_iff_not]; omega
      · rw [w2,show (decide (0 ≤ q) && decide (q ≤ 3000)) = false by rw [Bool.and_eq_false_iff,decide_eq_false_iff_not,decide_eq_false_iff_not]; omega]; rfl
  · rw [decide_eq_false hc] at w1
    rw [decide_eq_false (fun h=>hc h.symm),Bool.not_false,cond_true] at w2
    exact ⟨3,0,Qfd w1,fun h=>absurd rfl h,fun h=>(by cases h),Qcc w2,.inr (.inr rfl)⟩
theorem cls (r : Nat) : ∃ e n,Y5 r e n:=by
  rcases Qrc r with ⟨V,h⟩ | ⟨s,h⟩ | ⟨s,f,h⟩
  · rcases Nat.lt_or_ge V.natAbs (2 ^ 173) with hc | hc
    · exact Qpt h hc
    · exact ⟨_,_,Qpq h hc⟩
  · exact ⟨_,_,Qpr h⟩
  · exact ⟨_,_,Qps h⟩
end Go.Gw

end
section
set_option maxRecDepth 4096
set_option linter.unusedSimpArgs false
set_option linter.unusedVariables false
namespace Go.Gw
open Go

/-! ### Places and sums -/
def gi (l : List Int) (k : Nat) : Int:=l.getD k 0
def gr (f : List (List Int)) (i : Nat) : List Int:=f.getD i []
theorem YK {l : List Int} {k : Nat} (h : k < l.length) : l[k] = gi l k:=by simp [gi,h]
theorem Zr {l : List (List Int)} {k : Nat} (h : k < l.length) : l[k] = gr l k:=by simp [gr,h]
theorem YE {l : List Int} {k : Nat} (h : k < l.length) : idx l (k : Int) = some (gi l k):=by rw [XT h,YK h]
theorem JE {l : List (List Int)} {k : Nat} (h : k < l.length) : idx l (k : Int) = some (gr l k):=by rw [XT h,Zr h]
theorem Qbi {l : List Int} {k : Nat} (h : k < l.length) : gi l k ∈ l:=by rw [← YK h]; exact List.getElem_mem h
theorem Qgh {l : List (List Int)} {k : Nat} (h : k < l.length) : gr l k ∈ l:=by rw [← Zr h]; exact List.getElem_mem h
theorem Qek {l : List Int} {x : Int} (h : x ∈ l) : ∃ k,k < l.length ∧ gi l k = x:=by
  obtain ⟨k,hk,rfl⟩:=List.getElem_of_mem h; exact ⟨k,hk,(YK hk).symm⟩
theorem Qlt {a b : List Int} (hl : a.length = b.length) (h : ∀ k,k < a.length → gi a k = gi b k) : a = b:=by
  apply List.ext_getElem hl
  intro k h1 h2
  rw [YK h1,YK h2]; exact h k h1
def Xi (t : Nat → Int) : Nat → Int
  | 0=>0
  | n + 1=>Xi t n + t n
theorem Qnn {t u : Nat → Int} : ∀ {n : Nat},(∀ k,k < n → t k = u k) → Xi t n = Xi u n
  | 0,_=>rfl
  | n + 1,h=>by simp only [Xi]; rw [Qnn (fun k hk=>h k (by omega)),h n (by omega)]
theorem Qix {t u : Nat → Int} : ∀ {n : Nat},(∀ k,k < n → t k ≤ u k) → Xi t n ≤ Xi u n
  | 0,_=>Int.le_refl _
  | n + 1,h=>by simp only [Xi]; have:=Qix (n:=n) (fun k hk=>h k (by omega)); have:=h n (by omega); omega
theorem Qiy {t : Nat → Int} : ∀ {n : Nat},(∀ k,k < n → 0 ≤ t k) → 0 ≤ Xi t n
  | 0,_=>Int.le_refl _
  | n + 1,h=>by simp only [Xi]; have:=Qiy (n:=n) (fun k hk=>h k (by omega)); have:=h n (by omega); omega
theorem Qnm {t : Nat → Int} {B : Int} : ∀ {n : Nat},(∀ k,k < n → t k ≤ B) → Xi t n ≤ n * B
  | 0,_=>by simp [Xi]
  | n + 1,h=>by
    simp only [Xi]
    have h1:=Qnm (n:=n) (fun k hk=>h k (by omega)); have h2:=h n (by omega)
    have : ((n + 1 : Nat) : Int) * B = n * B + B:=by rw [Int.natCast_add,Int.add_mul]; simp
    omega
theorem Qfc (x : Int) : w64 x = (x + 9223372036854775808) % 18446744073709551616 - 9223372036854775808:=by
  have : w64 x = if x % 18446744073709551616 ≥ 9223372036854775808 then x % 18446744073709551616 - 18446744073709551616 else x % 18446744073709551616:=by
    simp [w64,IntKind.wrap,IntKind.bits,IntKind.signed]
  rw [this]; split <;> omega
theorem Qxy (a b : Int) : w64 (w64 a + b) = w64 (a + b):=by simp only [Qfc]; omega
theorem Jn (a b : Int) : w64 (a + w64 b) = w64 (a + b):=by simp only [Qfc]; omega
theorem Qei {step : (Int × Int) → Option ((Int × Int) ⊕ Int)} (n : Nat) (t : Nat → Int) (hs : ∀ k, k < n → ∀ a, step (a, (k : Int)) = some (.inl (w64 (a + t k), ((k + 1 : Nat) : Int)))) (he : ∀ a, step (a, (n : Int)) = some (.inr a)) :
    loop step (0,0) = some (w64 (Xi t n)):=by
  have key : ∀ k,k ≤ n → loop step (0,0) = loop step (w64 (Xi t k),(k : Int)):=by
    intro k
    induction k with
    | zero=>intro _; rfl
    | succ k ih=>intro hk; rw [ih (by omega),Yp (hs k (by omega) _),Qxy]; rfl
  rw [key n (Nat.le_refl _)]
  exact X2 (he _)

/-! ### Right plants -/
structure Rp (p : LevitatePlant) : Prop where
  den : 1 ≤ p.Den ∧ p.Den ≤ 1000
  n1 : 1 ≤ p.Noise.length
  n3 : p.Noise.length ≤ 3
  noise : ∀ x ∈ p.Noise,0 ≤ x ∧ x ≤ 10000
  m1 : 1 ≤ p.Maps.length
  m4 : p.Maps.length ≤ 4
  sq : ∀ m ∈ p.Maps,m.length = p.Noise.length
  row : ∀ m ∈ p.Maps,∀ r ∈ m,r.length = p.Noise.length
  ent : ∀ m ∈ p.Maps,∀ r ∈ m,∀ x ∈ r,-1000 ≤ x ∧ x ≤ 1000
theorem ZF {α ρ : Type} {f : Nat → α → Option ρ} {r : ρ} : ∀ {l : List α} {k : Nat},fs f k l = some r → ∃ i,∃ h : i < l.length,f (k + i) l[i] = some r:=by
  intro l
  induction l with
  | nil=>intro k h; cases h
  | cons x xs ih =>
    intro k h
    cases hx : f k x with
    | some r'=>simp only [fs,hx] at h; cases h; exact ⟨0,by simp,by simpa using hx⟩
    | none =>
      simp only [fs,hx] at h
      obtain ⟨i,hi,h'⟩:=ih h
      exact ⟨i + 1,by simpa using hi,by simpa [Nat.add_assoc,Nat.add_comm 1 i] using h'⟩
theorem Qwb {n m i : Nat} {row : List Int} {r : LevitateMark × Int} (h : Zg n m i row = some r) : r.2 ≠ 0:=by
  unfold Zg at h; split at h
  · cases h; simp
  · split at h
    · cases h
    · cases h; simp
theorem Qlx {n m : Nat} {rows : List (List Int)} {r : LevitateMark × Int} (h : Zc n m rows = some r) : r.2 ≠ 0:=by
  unfold Zc at h; split at h
  · cases h; simp
  · obtain ⟨i,hi,h'⟩:=ZF h; exact Qwb h'
theorem Qic (l : List Int) : l.any JM = false ↔ ∀ x ∈ l,0 ≤ x ∧ x ≤ 10000:=by
  rw [List.any_eq_false]; simp [JM]
theorem ZP (m x : Int) : Xp m x = true ↔ -m ≤ x ∧ x ≤ m:=by simp [Xp]
theorem ckP_right {p : LevitatePlant} : (Yw p).2 = 0 ↔ Rp p:=by
  constructor
  · intro h
    unfold Yw at h
    by_cases h1 : 1 ≤ p.Den ∧ p.Den ≤ 1000
    · by_cases h2 : p.Noise.length = 0
      · simp [h1,h2] at h
      · by_cases h3 : 3 < p.Noise.length
        · simp only [h1,h2,h3,if_true,if_false,not_true_eq_false,and_self] at h; simp at h
        · cases h4 : p.Noise.any JM with
          | true=>simp only [h1,h2,h3,h4,if_true,if_false,not_true_eq_false,and_self] at h; simp at h
          | false =>
            by_cases h5 : p.Maps.length = 0
            · simp only [h1,h2,h3,h4,h5,if_true,if_false,not_true_eq_false,and_self] at h; simp at h
            · by_cases h6 : 4 < p.Maps.length
              · simp only [h1,h2,h3,h4,h5,h6,if_true,if_false,not_true_eq_false,and_self] at h; simp at h
              · simp only [h1,h2,h3,h4,h5,h6,if_true,if_false,not_true_eq_false,and_self] at h
                cases h7 : fs (Zc p.Noise.length) 0 p.Maps with
                | some r =>
                  simp only [h7] at h
                  obtain ⟨i,hi,h'⟩:=ZF h7
                  exact absurd h (Qlx h')
                | none =>
                  rw [fs_none] at h7
                  have hm : ∀ m ∈ p.Maps,∃ i,Zc p.Noise.length i m = none:=fun m hm=>by
                    obtain ⟨i,hi,rfl⟩:=List.getElem_of_mem hm
                    exact ⟨_,h7 i hi⟩
                  have hm2 : ∀ m ∈ p.Maps,m.length = p.Noise.length ∧ ∀ r ∈ m,r.length = p.Noise.length ∧ r.all (Xp 1000) = true:=fun m hm'=>by
                    obtain ⟨i,hi⟩:=hm m hm'
                    unfold Zc at hi
                    split at hi
                    · cases hi
                    · rename_i hl
                      refine ⟨by simpa using hl,fun r hr=>?_⟩
                      rw [fs_none] at hi
                      obtain ⟨j,hj,rfl⟩:=List.getElem_of_mem hr
                      have:=hi j hj
                      unfold Zg at this
                      split at this
                      · cases this
                      · rename_i hrl
                        split at this
                        · rename_i ha; exact ⟨by simpa using hrl,ha⟩
                        · cases this
                  exact ⟨h1,by omega,by omega,(Qic _).1 h4,by omega,by omega,fun m hm=>(hm2 m hm).1,fun m hm r hr=>((hm2 m hm).2 r hr).1,fun m hm r hr x hx=>(ZP 1000 x).1 (List.all_eq_true.1 ((hm2 m hm).2 r hr).2 x hx)⟩
    · rw [if_pos h1] at h; simp at h
  · intro h
    have e4 : fs (Zc p.Noise.length) 0 p.Maps = none:=by
      rw [fs_none]
      intro i hi
      have hm:=List.getElem_mem hi
      unfold Zc
      rw [if_neg (by simp [h.sq _ hm]),fs_none]
      intro j hj
      have hr:=List.getElem_mem hj
      unfold Zg
      rw [if_neg (by simp [h.row _ hm _ hr]),if_pos (List.all_eq_true.2 fun x hx=>(ZP 1000 x).2 (h.ent _ hm _ hr x hx))]
    unfold Yw
    rw [if_neg (by simp [h.den]),if_neg (by have:=h.n1; omega),if_neg (by have:=h.n3; omega),if_neg (by rw [Bool.not_eq_true]; exact (Qic _).2 h.noise),if_neg (by have:=h.m1; omega),if_neg (by have:=h.m4; omega),e4]
theorem Rp.ck {p : LevitatePlant} (h : Rp p) : Yw p = (⟨0,0⟩,0):=by
  have h0:=ckP_right.2 h
  unfold Yw at h0 ⊢
  rw [if_neg (by simp [h.den]),if_neg (by have:=h.n1; omega),if_neg (by have:=h.n3; omega),if_neg (by rw [Bool.not_eq_true]; exact (Qic _).2 h.noise),if_neg (by have:=h.m1; omega),if_neg (by have:=h.m4; omega)] at h0 ⊢
  cases h7 : fs (Zc p.Noise.length) 0 p.Maps with
  | some r=>simp only [h7] at h0; obtain ⟨i,hi,h'⟩:=ZF h7; exact absurd h0 (Qlx h')
  | none=>rfl
theorem Rp.sh {p : LevitatePlant} (h : Rp p) : Sh p :=
  ⟨by have:=h.n3; omega,by have:=h.m4; omega,fun m hm=>by have:=h.sq m hm; have:=h.n3; omega,fun m hm r hr=>by have:=h.row m hm r hr; have:=h.n3; omega⟩

theorem Qhp (p : LevitatePlant) (h : Sh p) : Qad p = some (⟨p⟩,(Yw p).2):=by
  unfold Qad; rw [Qrk p h]; rfl

/-! ### States and boxes -/
def Zy (p : LevitatePlant) (x : List Int) : Int:=if x.length ≠ p.Noise.length then 10 else if x.all (Xp 100000) then 0 else 2
def bxE (p : LevitatePlant) (x : List Int) : Int:=if Zy p x ≠ 0 then Zy p x else if x.any ZX then 2 else 0
theorem Qlv (p : LevitatePlant) (x : List Int) (hx : x.length < 1073741824) : Qaf ⟨p⟩ x = some (Zy p x):=by
  unfold Qaf
  simp only [YH,Ql,Jf,Qcp x 100000 (by decide) hx,Zq,Jd]
  unfold Zy
  by_cases h : x.length = p.Noise.length <;> cases h2 : x.all (Xp 100000) <;> simp [h]
theorem Qrr (p : LevitatePlant) (x : List Int) (hx : x.length < 1073741824) : Qdv ⟨p⟩ x = some (bxE p x):=by
  unfold Qdv
  simp only [Qol x hx,Qlv p x hx,YH,Ql,Zq]
  unfold bxE
  by_cases h : Zy p x = 0 <;> cases h2 : x.any ZX <;> simp [h]
def opB (p : LevitatePlant) (x : List Int) : Int:=if (Yw p).2 ≠ 0 then (Yw p).2 else bxE p x
theorem Qtl (p : LevitatePlant) (x : List Int) (h : Sh p) (hx : x.length < 1073741824) : Qds p x = some (⟨p⟩,opB p x):=by
  unfold Qds
  rw [Qhp p h]
  simp only [Ql,Qrr p x hx]
  unfold opB
  by_cases h1 : (Yw p).2 = 0 <;> simp [h1]
structure Bx (p : LevitatePlant) (x : List Int) : Prop where
  len : x.length = p.Noise.length
  ge : ∀ k,k < x.length → 0 ≤ gi x k
  le : ∀ k,k < x.length → gi x k ≤ 100000
theorem bxE_right {p : LevitatePlant} {x : List Int} : bxE p x = 0 ↔ Bx p x:=by
  unfold bxE Zy
  constructor
  · intro h
    by_cases h1 : x.length = p.Noise.length
    · cases h2 : x.all (Xp 100000) with
      | false=>simp [h1,h2] at h
      | true =>
        cases h3 : x.any ZX with
        | true=>simp [h1,h2,h3] at h
        | false =>
          rw [List.all_eq_true] at h2
          rw [List.any_eq_false] at h3
          exact ⟨h1,fun k hk=>by have:=h3 _ (Qbi hk); simp [ZX] at this; omega,fun k hk=>((ZP _ _).1 (h2 _ (Qbi hk))).2⟩
    · simp [h1] at h
  · intro h
    have h2 : x.all (Xp 100000) = true:=List.all_eq_true.2 fun y hy=>by
      obtain ⟨k,hk,rfl⟩:=Qek hy
      have:=h.ge k hk; have:=h.le k hk
      exact (ZP _ _).2 (by omega)
    have h3 : x.any ZX = false:=List.any_eq_false.2 fun y hy=>by
      obtain ⟨k,hk,rfl⟩:=Qek hy
      have:=h.ge k hk
      simp [ZX]; omega
    simp [h.len,h2,h3]
end Go.Gw

end
section
set_option maxRecDepth 4096
set_option linter.unusedSimpArgs false
set_option linter.unusedVariables false
namespace Go.Gw
open Go

def gm (p : LevitatePlant) (m : Nat) : List (List Int):=p.Maps.getD m []
theorem Qkz {p : LevitatePlant} {m : Nat} (h : m < p.Maps.length) : p.Maps[m] = gm p m:=by simp [gm,h]
theorem Qgi {p : LevitatePlant} {m : Nat} (h : m < p.Maps.length) : idx p.Maps (m : Int) = some (gm p m):=by rw [XT h,Qkz h]
theorem JD {p : LevitatePlant} {m : Nat} (h : m < p.Maps.length) : gm p m ∈ p.Maps:=by rw [← Qkz h]; exact List.getElem_mem h
def ge (p : LevitatePlant) (m i k : Nat) : Int:=gi (gr (gm p m) i) k
theorem Rp.row_len {p : LevitatePlant} (h : Rp p) {m i : Nat} (hm : m < p.Maps.length) (hi : i < p.Noise.length) : (gr (gm p m) i).length = p.Noise.length :=
  h.row _ (JD hm) _ (Qgh (by rw [h.sq _ (JD hm)]; exact hi))
theorem Rp.ge_b {p : LevitatePlant} (h : Rp p) {m i k : Nat} (hm : m < p.Maps.length) (hi : i < p.Noise.length) (hk : k < p.Noise.length) : -1000 ≤ ge p m i k ∧ ge p m i k ≤ 1000 :=
  h.ent _ (JD hm) _ (Qgh (by rw [h.sq _ (JD hm)]; exact hi)) _ (Qbi (by rw [h.row_len hm hi]; exact hk))
theorem Rp.noise_b {p : LevitatePlant} (h : Rp p) {i : Nat} (hi : i < p.Noise.length) : 0 ≤ gi p.Noise i ∧ gi p.Noise i ≤ 10000:=h.noise _ (Qbi hi)

def Zf (p : LevitatePlant) (m i : Nat) (box : List Int) : Int:=Xi (fun k=>((ge p m i k).natAbs : Int) * gi box k) p.Noise.length
def X3 (p : LevitatePlant) (m i : Nat) (box : List Int) : Int:=(Zf p m i box + p.Den - 1) / p.Den + gi p.Noise i
theorem Qvu {p : LevitatePlant} (h : Rp p) {m i : Nat} (hm : m < p.Maps.length) (hi : i < p.Noise.length) {box : List Int} (hb : ∀ k,k < p.Noise.length → 0 ≤ gi box k ∧ gi box k ≤ 100000) : 0 ≤ Zf p m i box ∧ Zf p m i box ≤ 300000000:=by
  constructor
  · exact Qiy fun k hk=>Int.mul_nonneg (by omega) (hb k hk).1
  · have h1 : Zf p m i box ≤ (p.Noise.length : Int) * 100000000 := Qnm fun k hk => by
      have h2:=h.ge_b hm hi hk
      have h3:=hb k hk
      have : ((ge p m i k).natAbs : Int) * gi box k ≤ 1000 * 100000:=Int.mul_le_mul (by omega) h3.2 h3.1 (by omega)
      omega
    have:=h.n3
    omega
theorem Qrs {n by_ : Int} (h0 : 0 ≤ n) (h1 : n ≤ 4000000000000000000) (h2 : 1 ≤ by_) (h3 : by_ ≤ 4000000000000000000) : JG n by_ = some ((n + by_ - 1) / by_):=by
  unfold JG
  have : decide (n < 0) = false:=by simp; omega
  rw [this,cond_false,Xd (x:=n + by_) (by omega),Xd (by omega),Qid (by omega),Int.tdiv_eq_ediv_of_nonneg (by omega)]
  have h4 : 0 ≤ (n + by_ - 1) / by_:=Int.ediv_nonneg (by omega) (by omega)
  have h5 : (n + by_ - 1) / by_ ≤ n + by_ - 1:=Int.ediv_le_self _ (by omega)
  rw [Ql,Xd (by omega)]
theorem Qmc {p : LevitatePlant} (h : Rp p) {m i : Nat} (hm : m < p.Maps.length) (hi : i < p.Noise.length) {box : List Int} (hl : box.length = p.Noise.length) (hb : ∀ k, k < p.Noise.length → 0 ≤ gi box k ∧ gi box k ≤ 100000) :
    Qbq ⟨p⟩ (m : Int) (i : Int) box = some (X3 p m i box):=by
  unfold Qbq
  have hmi : i < (gm p m).length:=by rw [h.sq _ (JD hm)]; exact hi
  rw [Qgi hm,Ql,JE hmi,Ql]
  have hr:=Qvu h hm hi hb
  rw [Qei (p.Noise.length) (fun k=>((ge p m i k).natAbs : Int) * gi box k)]
  · rw [Ql,YE hi,Ql]
    change Option.bind (JG (w64 (Zf p m i box)) p.Den) _ = _
    have hn:=h.noise_b hi
    have hd:=h.den
    rw [Xd (by omega),Qrs hr.1 (by omega) hd.1 (by omega),Ql]
    have h4 : 0 ≤ (Zf p m i box + p.Den - 1) / p.Den:=Int.ediv_nonneg (by omega) (by omega)
    have h5 : (Zf p m i box + p.Den - 1) / p.Den ≤ Zf p m i box + p.Den - 1:=Int.ediv_le_self _ (by omega)
    rw [Xd (by omega)]; rfl
  · intro k hk a
    unfold Qhg
    have hrl:=h.row_len hm hi
    simp only [hrl,XA hk,cond_true]
    rw [YE (by rw [hrl]; exact hk),Ql,YE (by omega),Ql]
    have hg:=h.ge_b hm hi hk
    change Option.bind (Qbu (ge p m i k)) _ = _
    rw [Qto (by omega),Ql,Jn,Xy k (by have:=h.n3; omega)]
  · intro a
    unfold Qhg
    simp only [h.row_len hm hi,XB]; rfl
theorem Qvv {p : LevitatePlant} {m i : Nat} {a b : List Int} (hab : ∀ k,k < p.Noise.length → gi a k ≤ gi b k) : Zf p m i a ≤ Zf p m i b :=
  Qix fun k hk=>Int.mul_le_mul_of_nonneg_left (hab k hk) (by omega)
theorem Qtw {p : LevitatePlant} (h : Rp p) {m i : Nat} {a b : List Int} (hab : ∀ k,k < p.Noise.length → gi a k ≤ gi b k) : X3 p m i a ≤ X3 p m i b:=by
  unfold X3
  have:=Qvv (m:=m) (i:=i) hab
  have : (Zf p m i a + p.Den - 1) / p.Den ≤ (Zf p m i b + p.Den - 1) / p.Den:=Int.ediv_le_ediv (by have:=h.den; omega) (by omega)
  omega

/-! ### The first row by which a box is left -/
def Jz (p : LevitatePlant) (box : List Int) (m : Nat) : Option (Nat × Nat):=fs (fun i b=>if b < X3 p m i box then some (m,i) else none) 0 box
def brk (p : LevitatePlant) (box : List Int) : Option (Nat × Nat):=fs (fun m _=>Jz p box m) 0 p.Maps
def Zn : Option (Nat × Nat) → LevitateMark × Bool
  | some (m,i)=>(⟨m,i⟩,true)
  | none=>(⟨0,0⟩,false)
theorem Qpn {p : LevitatePlant} {box : List Int} {m i : Nat} (h : brk p box = some (m,i)) : m < p.Maps.length ∧ i < box.length ∧ gi box i < X3 p m i box:=by
  obtain ⟨j,hj,h1⟩:=ZF h
  obtain ⟨k,hk,h2⟩:=ZF h1
  split at h2
  · rename_i hlt
    cases h2
    exact ⟨by omega,by omega,by rw [← YK (by omega)]; simpa using hlt⟩
  · cases h2
theorem Qpm {p : LevitatePlant} {box : List Int} (h : brk p box = none) : ∀ m,m < p.Maps.length → ∀ i,i < box.length → X3 p m i box ≤ gi box i:=by
  intro m hm i hi
  unfold brk at h
  rw [fs_none] at h
  have h1:=h m hm
  unfold Jz at h1
  rw [fs_none] at h1
  have h2:=h1 i hi
  split at h2
  · cases h2
  · rename_i hlt
    rw [YK hi] at hlt
    simpa using hlt
theorem Qak {α ρ σ : Type} (g : ρ → σ) (f : Nat → α → Option ρ) : ∀ (l : List α) (k : Nat),fs (fun i x=>(f i x).map g) k l = (fs f k l).map g
  | [],_=>rfl
  | x :: xs,k=>by
    simp only [fs]
    cases f k x with
    | some r=>rfl
    | none=>exact Qak g f xs (k + 1)
theorem Qkb {p : LevitatePlant} (h : Rp p) {box : List Int} (hl : box.length = p.Noise.length) (hb : ∀ k, k < p.Noise.length → 0 ≤ gi box k ∧ gi box k ≤ 100000) :
    Qbn ⟨p⟩ box = some (Zn (brk p box)):=by
  unfold Qbn
  have hin : ∀ m,m < p.Maps.length → loop (Qdw box ⟨p⟩ (m : Int)) 0 = some (oi ((Jz p box m).map fun r=>(.inr (.inl (Zn (some r))) : Int ⊕ ((LevitateMark × Bool) ⊕ Unit)))):=by
    intro m hm
    rw [YG box (fun i b=>(if b < X3 p m i box then some (m,i) else none).map fun r=>(.inr (.inl (Zn (some r))) : Int ⊕ ((LevitateMark × Bool) ⊕ Unit)))]
    · rw [Qak]; rfl
    · intro k hk
      unfold Qdw
      rw [XA hk,XT hk,cond_true,Ql,Qmc h hm (by omega) hl hb,Ql,Xy k (by have:=h.n3; omega)]
      by_cases hlt : box[k] < X3 p m k box <;> simp [hlt,X6,Zn]
    · unfold Qdw
      rw [XB]; rfl
  rw [YG p.Maps (fun m _=>(Jz p box m).map fun r=>Zn (some r))]
  · rw [Qak (fun r=>Zn (some r)) (fun m _=>Jz p box m)]
    unfold brk
    cases fs (fun m _=>Jz p box m) 0 p.Maps <;> rfl
  · intro m hm
    unfold Qhf
    rw [XA hm,cond_true,hin m hm,Ql,Xy m (by have:=h.m4; omega)]
    cases Jz p box m <;> rfl
  · unfold Qhf
    rw [XB]; rfl

/-! ### The least box -/
def Qau (p : LevitatePlant) (K : List Int) : Prop:=∀ m,m < p.Maps.length → ∀ i,i < p.Noise.length → X3 p m i K ≤ gi K i
structure LbOk (p : LevitatePlant) (start b : List Int) : Prop where
  len : b.length = p.Noise.length
  from_ : ∀ k,k < p.Noise.length → gi start k ≤ gi b k
  le : ∀ k,k < p.Noise.length → gi b k ≤ 100000
  kept : Qau p b
  least : ∀ K,Qau p K → (∀ k,k < p.Noise.length → gi start k ≤ gi K k) → ∀ k,k < p.Noise.length → gi b k ≤ gi K k
def Qoo (p : LevitatePlant) (start : List Int) : Prop:=∀ K,Qau p K → (∀ k,k < p.Noise.length → gi start k ≤ gi K k) → ¬ ∀ k,k < p.Noise.length → gi K k ≤ 100000
def LbR (p : LevitatePlant) (start : List Int) (r : List Int × Int) : Prop:=(r.2 = 0 ∧ LbOk p start r.1) ∨ (r = ([],24) ∧ Qoo p start)
theorem Qkx {l : List Int} {i k : Nat} {v : Int} (hi : i < l.length) : gi (l.set i v) k = if i = k then v else gi l k:=by
  unfold gi
  simp only [List.getD_eq_getElem?_getD,List.getElem?_set]
  by_cases h : i = k
  · subst h; simp [hi]
  · simp [h]
structure LbI (p : LevitatePlant) (start box : List Int) : Prop where
  len : box.length = p.Noise.length
  from_ : ∀ k,k < p.Noise.length → gi start k ≤ gi box k
  rng : ∀ k,k < p.Noise.length → 0 ≤ gi box k ∧ gi box k ≤ 100000
  least : ∀ K,Qau p K → (∀ k,k < p.Noise.length → gi start k ≤ gi K k) → ∀ k,k < p.Noise.length → gi box k ≤ gi K k
theorem Qno {t u : Nat → Int} {j : Nat} : ∀ {n : Nat},j < n → (∀ k,k < n → t k ≤ u k) → t j < u j → Xi t n < Xi u n
  | 0,h,_,_=>by omega
  | n + 1,h,hle,hlt=>by
    simp only [Xi]
    by_cases hj : j = n
    · subst hj
      have:=Qix (n:=j) (fun k hk=>hle k (by omega)); omega
    · have:=Qno (n:=n) (by omega) (fun k hk=>hle k (by omega)) hlt
      have:=hle n (by omega); omega
theorem Qrl {p : LevitatePlant} (h : Rp p) {start : List Int} (hs : Bx p start) : Runs (J8 p start) (LbR p start):=by
  unfold J8
  have hl : start.length < 1073741824:=by have:=hs.len; have:=h.n3; omega
  rw [Qtl p start h.sh hl]
  have h0 : opB p start = 0:=by unfold opB; rw [h.ck,bxE_right.2 hs]; simp
  simp only [Ql,h0,decide_true,Bool.not_true,cond_false,Qik]
  rw [Y6 (by simp; omega),List.nil_append,Ql,Ql]
  have hI0 : LbI p start start:=⟨hs.len,fun _ _=>Int.le_refl _,fun k hk=>⟨hs.ge k (by rw [hs.len]; exact hk),hs.le k (by rw [hs.len]; exact hk)⟩,fun _ _ hK=>hK⟩
  rw [Qkb h hI0.len hI0.rng,Ql]
  refine Runs.callR (R:=fun o=>match o with | .inl r=>LbR p start r | .inr b=>LbR p start (b,0)) ?_ ?_
  · refine Runs.loop (fun s=>LbI p start s.1 ∧ s.2 = ((Zn (brk p s.1)).2,(Zn (brk p s.1)).1.Map,(Zn (brk p s.1)).1.Row)) (fun s=>(Xi (fun k=>100000 - gi s.1 k) p.Noise.length).toNat) ⟨hI0,rfl⟩ ?_
    rintro ⟨box,left,m,i⟩ ⟨hI,he⟩
    replace hI : LbI p start box:=hI
    simp only [Prod.mk.injEq] at he
    obtain ⟨rfl,rfl,rfl⟩:=he
    unfold Qle
    cases hb : brk p box with
    | none =>
      simp only [Zn,cond_false]
      refine Runs.some ?_
      refine .inl ⟨rfl,hI.len,hI.from_,fun k hk=>(hI.rng k hk).2,fun m hm i hi=>Qpm hb m hm i (by rw [hI.len]; exact hi),hI.least⟩
    | some mi =>
      obtain ⟨m,i⟩:=mi
      obtain ⟨hm,hi,hlt⟩:=Qpn hb
      have hi' : i < p.Noise.length:=by rw [← hI.len]; exact hi
      simp only [Zn,cond_true]
      rw [Qmc h hm hi' hI.len hI.rng,Ql,YE hi,Ql,Int.toNat_natCast,YE (by simpa using hi),Qkx hi,if_pos rfl,Ql]
      have hleast : ∀ K,Qau p K → (∀ k,k < p.Noise.length → gi start k ≤ gi K k) → X3 p m i box ≤ gi K i:=fun K hK hsK=>Int.le_trans (Qtw h (hI.least K hK hsK)) (hK m hm i hi')
      by_cases hbig : 100000 < X3 p m i box
      · rw [show decide (100000 < X3 p m i box) = true by simpa using hbig,cond_true]
        refine Runs.some ?_
        refine .inr ⟨rfl,fun K hK hsK hle=>?_⟩
        have:=hleast K hK hsK
        have:=hle i hi'
        omega
      · rw [show decide (100000 < X3 p m i box) = false by simpa using hbig,cond_false]
        have hg : ∀ k,gi (box.set i (X3 p m i box)) k = if i = k then X3 p m i box else gi box k:=fun k=>Qkx hi
        have hI' : LbI p start (box.set i (X3 p m i box)):=by
          refine ⟨by rw [List.length_set]; exact hI.len,fun k hk=>?_,fun k hk=>?_,fun K hK hsK k hk=>?_⟩
          · rw [hg]; split
            · rename_i e; subst e; have:=hI.from_ i hi'; omega
            · exact hI.from_ k hk
          · rw [hg]; split
            · rename_i e; subst e; have:=hI.rng i hi'; omega
            · exact hI.rng k hk
          · rw [hg]; split
            · rename_i e; subst e; exact hleast K hK hsK
            · exact hI.least K hK hsK k hk
        rw [Qkb h hI'.len hI'.rng,Ql]
        refine Runs.some ⟨⟨hI',rfl⟩,?_⟩
        have h1 : Xi (fun k=>100000 - gi (box.set i (X3 p m i box)) k) p.Noise.length < Xi (fun k=>100000 - gi box k) p.Noise.length:=by
          refine Qno hi' (fun k hk=>?_) ?_
          · rw [hg]; split
            · rename_i e; subst e; omega
            · omega
          · simp only [hg,if_pos]; omega
        have h2 : 0 ≤ Xi (fun k=>100000 - gi (box.set i (X3 p m i box)) k) p.Noise.length:=Qiy fun k hk=>by have:=hI'.rng k hk; omega
        show (Xi (fun k=>100000 - gi (box.set i (X3 p m i box)) k) p.Noise.length).toNat < (Xi (fun k=>100000 - gi box k) p.Noise.length).toNat
        omega
  · intro o ho
    cases o with
    | inl r=>exact Runs.jl ho
    | inr b=>exact Runs.some ho
theorem LbR.eq {p : LevitatePlant} {start : List Int} {r s : List Int × Int} (hr : LbR p start r) (hs : LbR p start s) : r = s:=by
  rcases hr with ⟨h1,h2⟩ | ⟨h1,h2⟩ <;> rcases hs with ⟨h3,h4⟩ | ⟨h3,h4⟩
  · refine Prod.ext (Qlt (by rw [h2.len,h4.len]) fun k hk=>?_) (by rw [h1,h3])
    rw [h2.len] at hk
    exact Int.le_antisymm (h2.least _ h4.kept h4.from_ k hk) (h4.least _ h2.kept h2.from_ k hk)
  · exact absurd h2.le (h4 _ h2.kept h2.from_)
  · exact absurd h4.le (h2 _ h4.kept h4.from_)
  · rw [h1,h3]
end Go.Gw

end
section
set_option maxRecDepth 4096
set_option linter.unusedSimpArgs false
set_option linter.unusedVariables false
namespace Go.Gw
open Go

theorem Qcj (x : Int) : IntKind.wrap .u64 x = x % 18446744073709551616:=by simp [IntKind.wrap,IntKind.bits,IntKind.signed]
def QS (x : Int) : Arr3_U64:=⟨x % 18446744073709551616,x / 18446744073709551616 % 18446744073709551616,x / 340282366920938463463374607431768211456 % 18446744073709551616⟩
theorem Qja {x : Int} {a b c : Int} (h0 : x % 18446744073709551616 = a) (h1 : x / 18446744073709551616 % 18446744073709551616 = b) (h2 : x / 340282366920938463463374607431768211456 % 18446744073709551616 = c) : QS x = ⟨a,b,c⟩:=by
  subst h0 h1 h2; rfl
theorem Qyc {x y : Int} (h : x % 6277101735386680763835789423207666416102355444464034512896 = y % 6277101735386680763835789423207666416102355444464034512896) : QS x = QS y:=by
  unfold QS; congr 1
  · omega
  · omega
  · omega
theorem Qyd {x y : Int} (h : QS x = QS y) : x % 6277101735386680763835789423207666416102355444464034512896 = y % 6277101735386680763835789423207666416102355444464034512896:=by
  unfold QS at h
  simp only [Arr3_U64.mk.injEq] at h
  omega
theorem Qnh (x : Int) (k : Nat) (hk : k ≤ 64) : Yk .u64 x (k : Int) = some (x / 2 ^ k):=by
  unfold Yk
  rw [if_pos ⟨by omega,by simp [IntKind.bits]; omega⟩,Int.toNat_natCast,Int.fdiv_eq_ediv_of_nonneg _ (Int.le_of_lt (Int.pow_pos (by decide)))]
theorem Qng (x : Int) (k : Nat) (hk : k ≤ 64) : Yk .i64 x (k : Int) = some (x / 2 ^ k):=by
  unfold Yk
  rw [if_pos ⟨by omega,by simp [IntKind.bits]; omega⟩,Int.toNat_natCast,Int.fdiv_eq_ediv_of_nonneg _ (Int.le_of_lt (Int.pow_pos (by decide)))]
theorem Y3 {n : Int} (h : -9223372036854775808 ≤ n ∧ n ≤ 9223372036854775807) : YL n = some (QS n):=by
  unfold YL
  rw [show (63 : Int) = ((63 : Nat) : Int) from rfl,Qng n 63 (by omega),Ql,Qcj,Qcj]
  congr 1
  symm
  simp only [show ((2 : Int) ^ 63) = 9223372036854775808 by decide]
  have h1 : n / 340282366920938463463374607431768211456 = n / 9223372036854775808:=by omega
  have h2 : n / 18446744073709551616 = n / 9223372036854775808:=by omega
  refine Qja rfl ?_ ?_
  · rw [h2]
  · rw [h1]
theorem Qpi (x : Int) : Jh (QS x) = some (decide (3138550867693340381917894711603833208051177722232017256448 ≤ x % 6277101735386680763835789423207666416102355444464034512896)):=by
  unfold Jh
  rw [show (63 : Int) = ((63 : Nat) : Int) from rfl,Qnh _ 63 (by omega),Ql]
  congr 1
  rw [decide_eq_decide]
  simp only [QS]
  omega
theorem Qaw {a b c : Int} (h0 : 0 ≤ a) (h1 : 0 ≤ b) (h2 : 0 ≤ c ∧ c ≤ 1) : XI a b c = some ((a + b + c) % 18446744073709551616,(a + b + c) / 18446744073709551616):=by
  unfold XI; rw [if_pos ⟨h0,h1,h2⟩]
theorem Zb {σ β : Type} {step : σ → Option (σ ⊕ β)} {s s' : σ} {r : Option β} (h : step s = some (.inl s')) (h2 : loop step s' = r) : loop step s = r:=by rw [Yp h]; exact h2
theorem Qkg (x : Int) : x / 340282366920938463463374607431768211456 = x / 18446744073709551616 / 18446744073709551616:=by omega
theorem Qer (x y : Int) : Qbv (QS x) (QS y) = some (QS (x + y)):=by
  unfold Qbv
  have hl : loop (Qlq (QS x) (QS y)) (0,0,0,0,0) = some ((QS (x + y)).e0,(QS (x + y)).e1,(QS (x + y)).e2):=by
    simp only [QS]
    generalize hx0 : x % 18446744073709551616 = x0
    generalize hx1 : x / 18446744073709551616 % 18446744073709551616 = x1
    generalize hx2 : x / 340282366920938463463374607431768211456 % 18446744073709551616 = x2
    generalize hy0 : y % 18446744073709551616 = y0
    generalize hy1 : y / 18446744073709551616 % 18446744073709551616 = y1
    generalize hy2 : y / 340282366920938463463374607431768211456 % 18446744073709551616 = y2
    have a0 : XI x0 y0 0 = some ((x0 + y0 + 0) % 18446744073709551616,(x0 + y0 + 0) / 18446744073709551616):=Qaw (by omega) (by omega) (by omega)
    generalize hc0 : (x0 + y0 + 0) / 18446744073709551616 = c0 at a0
    have a1 : XI x1 y1 c0 = some ((x1 + y1 + c0) % 18446744073709551616,(x1 + y1 + c0) / 18446744073709551616):=Qaw (by omega) (by omega) (by omega)
    generalize hc1 : (x1 + y1 + c0) / 18446744073709551616 = c1 at a1
    have a2 : XI x2 y2 c1 = some ((x2 + y2 + c1) % 18446744073709551616,(x2 + y2 + c1) / 18446744073709551616):=Qaw (by omega) (by omega) (by omega)
    refine Zb (s':=(c0,1,(x0 + y0 + 0) % 18446744073709551616,0,0)) ?_ (Zb (s':=(c1,2,(x0 + y0 + 0) % 18446744073709551616,(x1 + y1 + c0) % 18446744073709551616,0)) ?_ (Zb (s':=((x2 + y2 + c1) / 18446744073709551616,3,(x0 + y0 + 0) % 18446744073709551616,(x1 + y1 + c0) % 18446744073709551616,(x2 + y2 + c1) % 18446744073709551616)) ?_ ((X2 (o:=((x0 + y0 + 0) % 18446744073709551616,(x1 + y1 + c0) % 18446744073709551616,(x2 + y2 + c1) % 18446744073709551616)) rfl).trans ?_)))
    · show (Option.bind (XI x0 y0 0) fun r=>_) = _
      rw [a0]; rfl
    · show (Option.bind (XI x1 y1 c0) fun r=>_) = _
      rw [a1]; rfl
    · show (Option.bind (XI x2 y2 c1) fun r=>_) = _
      rw [a2]; rfl
    · have k1 : (x + y) / 18446744073709551616 = x / 18446744073709551616 + y / 18446744073709551616 + c0:=by omega
      have k2 : (x + y) / 18446744073709551616 / 18446744073709551616 = x / 18446744073709551616 / 18446744073709551616 + y / 18446744073709551616 / 18446744073709551616 + c1:=by rw [k1]; omega
      rw [Qkg] at hx2 hy2
      rw [Qkg (x + y),k2,k1]
      congr 2
      · omega
      · congr 1
        · omega
        · omega
  rw [hl]; rfl

theorem Qfp (x : Int) (h : 0 ≤ x ∧ x < 18446744073709551616) : QX .u64 x 4294967295 = x % 4294967296:=by
  unfold QX
  rw [Qcj]
  have e1 : (BitVec.ofInt IntKind.u64.bits x &&& BitVec.ofInt IntKind.u64.bits 4294967295).toNat = x.toNat % 4294967296:=by
    rw [BitVec.toNat_and]
    have h1 : (BitVec.ofInt IntKind.u64.bits x).toNat = x.toNat:=by
      rw [BitVec.toNat_ofInt]
      have : ((2 ^ IntKind.u64.bits : Nat) : Int) = 18446744073709551616:=by decide
      rw [this]; omega
    have h2 : (BitVec.ofInt IntKind.u64.bits 4294967295).toNat = 2 ^ 32 - 1:=by decide
    rw [h1,h2,Nat.and_two_pow_sub_one_eq_mod]
  rw [e1]; omega
theorem Zu {a b m n : Int} (ha : 0 ≤ a ∧ a ≤ m) (hb : 0 ≤ b ∧ b ≤ n) : 0 ≤ a * b ∧ a * b ≤ m * n :=
  ⟨Int.mul_nonneg ha.1 hb.1,Int.mul_le_mul ha.2 hb.2 hb.1 (by omega)⟩
theorem Qtq {x y : Int} (hx : 0 ≤ x ∧ x < 18446744073709551616) (hy : 0 ≤ y ∧ y < 18446744073709551616) : Zt x y = some (x * y / 18446744073709551616,x * y % 18446744073709551616):=by
  unfold Zt
  simp only [show (32 : Int) = ((32 : Nat) : Int) from rfl,Qnh _ 32 (by omega),Ql,Qcj,Qfp x hx,Qfp y hy]
  simp only [show ((2 : Int) ^ 32) = 4294967296 by decide]
  generalize hx1 : x / 4294967296 = x1
  generalize hx0 : x % 4294967296 = x0
  generalize hy1 : y / 4294967296 = y1
  generalize hy0 : y % 4294967296 = y0
  have e : x * y = (x1 * y1) * 18446744073709551616 + (x1 * y0 + x0 * y1) * 4294967296 + x0 * y0:=by
    have ex : x = x1 * 4294967296 + x0:=by omega
    have ey : y = y1 * 4294967296 + y0:=by omega
    rw [ex,ey]; grind
  have b00:=Zu (a:=x0) (b:=y0) (m:=4294967295) (n:=4294967295) (by omega) (by omega)
  have b10:=Zu (a:=x1) (b:=y0) (m:=4294967295) (n:=4294967295) (by omega) (by omega)
  have b01:=Zu (a:=x0) (b:=y1) (m:=4294967295) (n:=4294967295) (by omega) (by omega)
  have b11:=Zu (a:=x1) (b:=y1) (m:=4294967295) (n:=4294967295) (by omega) (by omega)
  rw [e]
  generalize x0 * y0 = p00 at *
  generalize x1 * y0 = p10 at *
  generalize x0 * y1 = p01 at *
  generalize x1 * y1 = p11 at *
  rw [Qfp _ (by omega)]
  congr 2
  omega
theorem Qaj {o a b v : Int} (ho : 0 ≤ o ∧ o < 18446744073709551616) (ha : 0 ≤ a ∧ a < 18446744073709551616) (hb : 0 ≤ b ∧ b < 18446744073709551616) (hv : 0 ≤ v ∧ v < 18446744073709551616) {β : Type} (f : Int → Int → Option β) :
    (Option.bind (Zt a b) fun r12=>Option.bind (some o) fun el18=>Option.bind (XI el18 r12.2 0) fun r20=>Option.bind (XI r20.1 v 0) fun r23 =>
      Option.bind (some o) fun _=>f (IntKind.wrap .u64 ((IntKind.wrap .u64 (r12.1 + r20.2)) + r23.2)) r23.1) = f ((o + a * b + v) / 18446744073709551616) ((o + a * b + v) % 18446744073709551616):=by
  have hab:=Zu (a:=a) (b:=b) (m:=18446744073709551615) (n:=18446744073709551615) (by omega) (by omega)
  rw [Qtq ha hb]
  generalize a * b = ab at *
  simp only [Ql]
  rw [Qaw (by omega) (by omega) (by omega)]
  simp only [Ql]
  rw [Qaw (by omega) (by omega) (by omega)]
  simp only [Ql,Qcj]
  congr 1
  · omega
  · omega
theorem Z6 : w64 (0 + 0) = 0 ∧ w64 (0 + 1) = 1 ∧ w64 (1 + 1) = 2 ∧ w64 (2 + 1) = 3 ∧ w64 (0 + 2) = 2 ∧ w64 (0 + 3) = 3 ∧ w64 (1 + 0) = 1 ∧ w64 (1 + 2) = 3 ∧ w64 (2 + 0) = 2:=by decide
section
variable (a y0 y1 y2 v o0 o1 o2 : Int)
theorem Qxk : XW a ⟨y0, y1, y2⟩ 0 (v, 0, o0, o1, o2) = (Option.bind (Zt a y0) fun r12 => Option.bind (some o0) fun el18 => Option.bind (XI el18 r12.2 0) fun r20 => Option.bind (XI r20.1 v 0) fun r23 =>
      Option.bind (some o0) fun _=>(fun v s=>some (Sum.inl (v,1,s,o1,o2))) (IntKind.wrap .u64 ((IntKind.wrap .u64 (r12.1 + r20.2)) + r23.2)) r23.1):=by
  simp only [XW,Z6]; rfl
theorem Qxl : XW a ⟨y0, y1, y2⟩ 0 (v, 1, o0, o1, o2) = (Option.bind (Zt a y1) fun r12 => Option.bind (some o1) fun el18 => Option.bind (XI el18 r12.2 0) fun r20 => Option.bind (XI r20.1 v 0) fun r23 =>
      Option.bind (some o1) fun _=>(fun v s=>some (Sum.inl (v,2,o0,s,o2))) (IntKind.wrap .u64 ((IntKind.wrap .u64 (r12.1 + r20.2)) + r23.2)) r23.1):=by
  simp only [XW,Z6]; rfl
theorem Qxm : XW a ⟨y0, y1, y2⟩ 0 (v, 2, o0, o1, o2) = (Option.bind (Zt a y2) fun r12 => Option.bind (some o2) fun el18 => Option.bind (XI el18 r12.2 0) fun r20 => Option.bind (XI r20.1 v 0) fun r23 =>
      Option.bind (some o2) fun _=>(fun v s=>some (Sum.inl (v,3,o0,o1,s))) (IntKind.wrap .u64 ((IntKind.wrap .u64 (r12.1 + r20.2)) + r23.2)) r23.1):=by
  simp only [XW,Z6]; rfl
theorem Qxn : XW a ⟨y0,y1,y2⟩ 0 (v,3,o0,o1,o2) = some (.inr (o0,o1,o2)):=by
  simp only [XW,Z6]; rfl
theorem Qxo : XW a ⟨y0, y1, y2⟩ 1 (v, 0, o0, o1, o2) = (Option.bind (Zt a y0) fun r12 => Option.bind (some o1) fun el18 => Option.bind (XI el18 r12.2 0) fun r20 => Option.bind (XI r20.1 v 0) fun r23 =>
      Option.bind (some o1) fun _=>(fun v s=>some (Sum.inl (v,1,o0,s,o2))) (IntKind.wrap .u64 ((IntKind.wrap .u64 (r12.1 + r20.2)) + r23.2)) r23.1):=by
  simp only [XW,Z6]; rfl
theorem Qxp : XW a ⟨y0, y1, y2⟩ 1 (v, 1, o0, o1, o2) = (Option.bind (Zt a y1) fun r12 => Option.bind (some o2) fun el18 => Option.bind (XI el18 r12.2 0) fun r20 => Option.bind (XI r20.1 v 0) fun r23 =>
      Option.bind (some o2) fun _=>(fun v s=>some (Sum.inl (v,2,o0,o1,s))) (IntKind.wrap .u64 ((IntKind.wrap .u64 (r12.1 + r20.2)) + r23.2)) r23.1):=by
  simp only [XW,Z6]; rfl
theorem Qxq : XW a ⟨y0,y1,y2⟩ 1 (v,2,o0,o1,o2) = some (.inr (o0,o1,o2)):=by
  simp only [XW,Z6]; rfl
theorem Qxr : XW a ⟨y0, y1, y2⟩ 2 (v, 0, o0, o1, o2) = (Option.bind (Zt a y0) fun r12 => Option.bind (some o2) fun el18 => Option.bind (XI el18 r12.2 0) fun r20 => Option.bind (XI r20.1 v 0) fun r23 =>
      Option.bind (some o2) fun _=>(fun v s=>some (Sum.inl (v,1,o0,o1,s))) (IntKind.wrap .u64 ((IntKind.wrap .u64 (r12.1 + r20.2)) + r23.2)) r23.1):=by
  simp only [XW,Z6]; rfl
theorem Qxs : XW a ⟨y0,y1,y2⟩ 2 (v,1,o0,o1,o2) = some (.inr (o0,o1,o2)):=by
  simp only [XW,Z6]; rfl
end
abbrev TSt:=(Int × Int × Int × Int × Int) ⊕ (Int × Int × Int)
theorem Jl (x y : Int) : YQ (QS x) (QS y) = some (QS (x * y)):=by
  unfold YQ
  obtain ⟨x0,hx0⟩ : ∃ x0,x % 18446744073709551616 = x0:=⟨_,rfl⟩
  obtain ⟨x1,hx1⟩ : ∃ x1,x / 18446744073709551616 % 18446744073709551616 = x1:=⟨_,rfl⟩
  obtain ⟨x2,hx2⟩ : ∃ x2,x / 340282366920938463463374607431768211456 % 18446744073709551616 = x2:=⟨_,rfl⟩
  obtain ⟨y0,hy0⟩ : ∃ y0,y % 18446744073709551616 = y0:=⟨_,rfl⟩
  obtain ⟨y1,hy1⟩ : ∃ y1,y / 18446744073709551616 % 18446744073709551616 = y1:=⟨_,rfl⟩
  obtain ⟨y2,hy2⟩ : ∃ y2,y / 340282366920938463463374607431768211456 % 18446744073709551616 = y2:=⟨_,rfl⟩
  have ex : QS x = ⟨x0,x1,x2⟩:=Qja hx0 hx1 hx2
  have ey : QS y = ⟨y0,y1,y2⟩:=Qja hy0 hy1 hy2
  have bx0 : 0 ≤ x0 ∧ x0 < 18446744073709551616:=by omega
  have bx1 : 0 ≤ x1 ∧ x1 < 18446744073709551616:=by omega
  have bx2 : 0 ≤ x2 ∧ x2 < 18446744073709551616:=by omega
  have by0 : 0 ≤ y0 ∧ y0 < 18446744073709551616:=by omega
  have by1 : 0 ≤ y1 ∧ y1 < 18446744073709551616:=by omega
  have by2 : 0 ≤ y2 ∧ y2 < 18446744073709551616:=by omega
  have Ex : x % 6277101735386680763835789423207666416102355444464034512896 = x0 + x1 * 18446744073709551616 + x2 * 340282366920938463463374607431768211456:=by omega
  have Ey : y % 6277101735386680763835789423207666416102355444464034512896 = y0 + y1 * 18446744073709551616 + y2 * 340282366920938463463374607431768211456:=by omega
  have z0 : (0 : Int) ≤ 0 ∧ (0 : Int) < 18446744073709551616:=by omega
  -- a row of the product
  have h00:=Zu (a:=x0) (b:=y0) (m:=18446744073709551615) (n:=18446744073709551615) (by omega) (by omega)
  have h01:=Zu (a:=x0) (b:=y1) (m:=18446744073709551615) (n:=18446744073709551615) (by omega) (by omega)
  have h02:=Zu (a:=x0) (b:=y2) (m:=18446744073709551615) (n:=18446744073709551615) (by omega) (by omega)
  have h10:=Zu (a:=x1) (b:=y0) (m:=18446744073709551615) (n:=18446744073709551615) (by omega) (by omega)
  have h11:=Zu (a:=x1) (b:=y1) (m:=18446744073709551615) (n:=18446744073709551615) (by omega) (by omega)
  have h20:=Zu (a:=x2) (b:=y0) (m:=18446744073709551615) (n:=18446744073709551615) (by omega) (by omega)
  have r0 : ∀ o0 o1 o2, 0 ≤ o0 ∧ o0 < 18446744073709551616 → 0 ≤ o1 ∧ o1 < 18446744073709551616 → 0 ≤ o2 ∧ o2 < 18446744073709551616 → loop (XW x0 ⟨y0, y1, y2⟩ 0) (0, 0, o0, o1, o2) =
      some ((o0 + x0 * y0 + 0) % 18446744073709551616,(o1 + x0 * y1 + (o0 + x0 * y0 + 0) / 18446744073709551616) % 18446744073709551616,(o2 + x0 * y2 + (o1 + x0 * y1 + (o0 + x0 * y0 + 0) / 18446744073709551616) / 18446744073709551616) % 18446744073709551616):=by
    intro o0 o1 o2 b0 b1 b2
    refine Zb ((Qxk ..).trans (Qaj b0 bx0 by0 (v:=0) z0 (fun v s=>(some (Sum.inl (v,1,s,o1,o2)) : Option TSt)))) ?_
    refine Zb ((Qxl ..).trans (Qaj b1 bx0 by1 (by omega) (fun v s=>(some (Sum.inl (v,2,_,s,o2)) : Option TSt)))) ?_
    refine Zb ((Qxm ..).trans (Qaj b2 bx0 by2 (by omega) (fun v s=>(some (Sum.inl (v,3,_,_,s)) : Option TSt)))) ?_
    exact X2 (Qxn ..)
  have r1 : ∀ o0 o1 o2, 0 ≤ o0 ∧ o0 < 18446744073709551616 → 0 ≤ o1 ∧ o1 < 18446744073709551616 → 0 ≤ o2 ∧ o2 < 18446744073709551616 → loop (XW x1 ⟨y0, y1, y2⟩ 1) (0, 0, o0, o1, o2) =
      some (o0,(o1 + x1 * y0 + 0) % 18446744073709551616,(o2 + x1 * y1 + (o1 + x1 * y0 + 0) / 18446744073709551616) % 18446744073709551616):=by
    intro o0 o1 o2 b0 b1 b2
    refine Zb ((Qxo ..).trans (Qaj b1 bx1 by0 (v:=0) z0 (fun v s=>(some (Sum.inl (v,1,o0,s,o2)) : Option TSt)))) ?_
    refine Zb ((Qxp ..).trans (Qaj b2 bx1 by1 (by omega) (fun v s=>(some (Sum.inl (v,2,o0,_,s)) : Option TSt)))) ?_
    exact X2 (Qxq ..)
  have r2 : ∀ o0 o1 o2, 0 ≤ o0 ∧ o0 < 18446744073709551616 → 0 ≤ o1 ∧ o1 < 18446744073709551616 → 0 ≤ o2 ∧ o2 < 18446744073709551616 → loop (XW x2 ⟨y0, y1, y2⟩ 2) (0, 0, o0, o1, o2) =
      some (o0,o1,(o2 + x2 * y0 + 0) % 18446744073709551616):=by
    intro o0 o1 o2 b0 b1 b2
    refine Zb ((Qxr ..).trans (Qaj b2 bx2 by0 (v:=0) z0 (fun v s=>(some (Sum.inl (v,1,o0,o1,s)) : Option TSt)))) ?_
    exact X2 (Qxs ..)
  rw [ex,ey]
  have hT : QS (x * y) = QS (x0 * y0 + (x0 * y1 + x1 * y0) * 18446744073709551616 + (x0 * y2 + x1 * y1 + x2 * y0) * 340282366920938463463374607431768211456):=by
    apply Qyc
    rw [Int.mul_emod,Ex,Ey]
    rw [show (x0 + x1 * 18446744073709551616 + x2 * 340282366920938463463374607431768211456) * (y0 + y1 * 18446744073709551616 + y2 * 340282366920938463463374607431768211456) =
      (x0 * y0 + (x0 * y1 + x1 * y0) * 18446744073709551616 + (x0 * y2 + x1 * y1 + x2 * y0) * 340282366920938463463374607431768211456) + 6277101735386680763835789423207666416102355444464034512896 * (x1 * y2 + x2 * y1 + x2 * y2 * 18446744073709551616) by grind]
    rw [Int.add_mul_emod_self_left]
  rw [hT]
  have hl : loop (Qlr ⟨x0,x1,x2⟩ ⟨y0,y1,y2⟩) (0,0,0,0) = some ((QS (x0 * y0 + (x0 * y1 + x1 * y0) * 18446744073709551616 + (x0 * y2 + x1 * y1 + x2 * y0) * 340282366920938463463374607431768211456)).e0,(QS (x0 * y0 + (x0 * y1 + x1 * y0) * 18446744073709551616 + (x0 * y2 + x1 * y1 + x2 * y0) * 340282366920938463463374607431768211456)).e1,(QS (x0 * y0 + (x0 * y1 + x1 * y0) * 18446744073709551616 + (x0 * y2 + x1 * y1 + x2 * y0) * 340282366920938463463374607431768211456)).e2):=by
    have z : (0 : Int) ≤ 0 ∧ (0 : Int) < 18446744073709551616:=by omega
    have q0:=r0 0 0 0 z z z
    generalize x0 * y0 = p00 at *
    generalize x0 * y1 = p01 at *
    generalize x0 * y2 = p02 at *
    generalize hc0 : (0 + p00 + 0) % 18446744073709551616 = c0 at q0
    generalize hv0 : (0 + p00 + 0) / 18446744073709551616 = v0 at q0
    generalize hc1 : (0 + p01 + v0) % 18446744073709551616 = c1 at q0
    generalize hv1 : (0 + p01 + v0) / 18446744073709551616 = v1 at q0
    generalize hc2 : (0 + p02 + v1) % 18446744073709551616 = c2 at q0
    have q1:=r1 c0 c1 c2 (by omega) (by omega) (by omega)
    generalize x1 * y0 = p10 at *
    generalize x1 * y1 = p11 at *
    generalize hd1 : (c1 + p10 + 0) % 18446744073709551616 = d1 at q1
    generalize hw1 : (c1 + p10 + 0) / 18446744073709551616 = w1 at q1
    generalize hd2 : (c2 + p11 + w1) % 18446744073709551616 = d2 at q1
    have q2:=r2 c0 d1 d2 (by omega) (by omega) (by omega)
    generalize x2 * y0 = p20 at *
    generalize he2 : (d2 + p20 + 0) % 18446744073709551616 = e2 at q2
    refine Zb (s':=(1,c0,c1,c2)) ?_ (Zb (s':=(2,c0,d1,d2)) ?_ (Zb (s':=(3,c0,d1,e2)) ?_ ((X2 (o:=(c0,d1,e2)) rfl).trans ?_)))
    · show (Option.bind (loop (XW x0 ⟨y0,y1,y2⟩ 0) (0,0,0,0,0)) fun _=>_) = _
      rw [q0]; rfl
    · show (Option.bind (loop (XW x1 ⟨y0,y1,y2⟩ 1) (0,0,c0,c1,c2)) fun _=>_) = _
      rw [q1]; rfl
    · show (Option.bind (loop (XW x2 ⟨y0,y1,y2⟩ 2) (0,0,c0,d1,d2)) fun _=>_) = _
      rw [q2]; rfl
    · simp only [QS]
      congr 2
      · omega
      · congr 1
        · omega
        · omega
  rw [hl]; rfl
theorem J7 (x y : Int) : JI (QS x) (QS y) = some (QS (x - y)):=by
  unfold JI
  rw [Y3 (by decide),Ql,Jl,Ql,Qer,Ql]
  congr 2; omega
end Go.Gw

end
section
set_option maxRecDepth 4096
set_option linter.unusedSimpArgs false
set_option linter.unusedVariables false
namespace Go.Gw
open Go

def Q0 (l : List Nat) : List Int:=l.map fun k : Nat=>(k : Int)
theorem Qms (l : List Nat) : (Q0 l).length = l.length:=by simp [Q0]
theorem Qlb {l : List Nat} {k : Nat} (h : k < l.length) : idx (Q0 l) (k : Int) = some ((l[k] : Nat) : Int):=by
  rw [XT (by rw [Qms]; exact h)]; simp [Q0]
theorem Qmr (n : Nat) (hn : n ≤ 1073741824) : Qac (n : Int) = some (Q0 (List.range n)):=by
  unfold Qac
  have key : ∀ k,k ≤ n → loop (Qab (n : Int)) (([] : List Int),0) = loop (Qab (n : Int)) (Q0 (List.range k),(k : Int)):=by
    intro k
    induction k with
    | zero=>intro _; rfl
    | succ k ih =>
      intro hk
      rw [ih (by omega)]
      refine Yp ?_
      unfold Qab
      dsimp only
      rw [XA (by omega),cond_true,Y6 (by simp [Qms]; omega),Ql,Xy k (by omega)]
      simp [Q0,List.range_succ]
  rw [key n (Nat.le_refl _)]
  have : Qab (n : Int) (Q0 (List.range n),(n : Int)) = some (.inr (Q0 (List.range n))):=by unfold Qab; dsimp only; rw [XB]; rfl
  rw [X2 this]; rfl

def g2 (f : List (List Int)) (i k : Nat) : Int:=gi (gr f i) k
structure Sq (n : Nat) (f : List (List Int)) : Prop where
  len : f.length = n
  row : ∀ i,i < n → (gr f i).length = n
def Bd (n : Nat) (f : List (List Int)) (b : Int) : Prop:=∀ i k,i < n → k < n → -b ≤ g2 f i k ∧ g2 f i k ≤ b

/-! ### A loop that maps -/
theorem Qlu {α β : Type} {step : (List β × Int) → Option ((List β × Int) ⊕ List β)} (xs : List α) (g : α → β)
    (hs : ∀ k (hk : k < xs.length) (acc : List β),acc.length = k → step (acc,(k : Int)) = some (.inl (acc ++ [g xs[k]],((k + 1 : Nat) : Int)))) (he : ∀ acc,step (acc,(xs.length : Int)) = some (.inr acc)) :
    loop step ([],0) = some (xs.map g):=by
  have key : ∀ k,k ≤ xs.length → loop step ([],0) = loop step ((xs.take k).map g,(k : Int)):=by
    intro k
    induction k with
    | zero=>intro _; rfl
    | succ k ih =>
      intro hk
      rw [ih (by omega)]
      refine (Yp (hs k (by omega) _ (by simp; omega))).trans ?_
      have e : (xs.take (k + 1)).map g = (xs.take k).map g ++ [g xs[k]]:=by rw [List.take_succ_eq_append_getElem (by omega),List.map_append]; rfl
      rw [e]
  rw [key _ (Nat.le_refl _),List.take_length]
  exact X2 (he _)
theorem Qyg (f : List (List Int)) (hl : f.length ≤ 1000) (hr : ∀ r ∈ f,r.length ≤ 1000 ∧ ∀ x ∈ r,-9223372036854775808 ≤ x ∧ x ≤ 9223372036854775807) : Qai f = some (f.map fun r=>r.map QS):=by
  unfold Qai
  rw [Qlu f (fun r=>r.map QS)]
  · rfl
  · intro k hk acc hacc
    unfold Qhm
    dsimp only
    have hm:=hr _ (List.getElem_mem hk)
    rw [XA hk,cond_true,XT hk,Ql]
    rw [Qlu f[k] QS]
    · rw [Ql,Y6 (by simp [hacc]; omega),Ql,Xy k (by omega)]
    · intro j hj acc2 hacc2
      unfold Qhl
      dsimp only
      rw [XA hj,cond_true,XT hj,Ql,Y3 (hm.2 _ (List.getElem_mem hj)),Ql,Y6 (by simp [hacc2]; omega),Ql,Xy j (by omega)]
    · intro acc2
      unfold Qhl
      dsimp only
      rw [XB]; rfl
  · intro acc
    unfold Qhm
    dsimp only
    rw [XB]; rfl

/-! ### Minors -/
def wd (f : List (List Int)) : List (List Arr3_U64):=f.map fun r=>r.map QS
def Ya (f : List (List Int)) : List Nat → Int
  | []=>1
  | [a]=>g2 f a a
  | [a,b]=>g2 f a a * g2 f b b - g2 f a b * g2 f b a
  | [a,b,c]=>g2 f a a * (g2 f b b * g2 f c c - g2 f b c * g2 f c b) + g2 f a b * (g2 f b c * g2 f c a - g2 f b a * g2 f c c) + g2 f a c * (g2 f b a * g2 f c b - g2 f b b * g2 f c a)
  | _=>0
theorem Qqr {n : Nat} {f : List (List Int)} (h : Sq n f) {l : List Nat} (hl : ∀ x ∈ l, x < n) {i k : Nat} (hi : i < l.length) (hk : k < l.length) :
    XJ (i : Int) (k : Int) (wd f) (Q0 l) = some (QS (g2 f l[i] l[k])):=by
  unfold XJ
  have h1:=hl _ (List.getElem_mem hi)
  have h2:=hl _ (List.getElem_mem hk)
  have h3 : l[i] < f.length:=by rw [h.len]; exact h1
  rw [Qlb hi,Ql]
  have e1 : idx (wd f) ((l[i] : Nat) : Int) = some ((gr f l[i]).map QS):=by
    rw [XT (by simp [wd]; exact h3)]
    simp only [wd,List.getElem_map]; rw [Zr h3]
  rw [e1,Ql,Qlb hk,Ql]
  have h4 : l[k] < (gr f l[i]).length:=by rw [h.row _ h1]; exact h2
  rw [XT (by simpa using h4),Ql,List.getElem_map,YK h4]; rfl
theorem Qma {n : Nat} {f : List (List Int)} (h : Sq n f) {l : List Nat} (hl : ∀ x ∈ l,x < n) (h3 : l.length ≤ 3) : Qbm (wd f) (Q0 l) = some (QS (Ya f l)):=by
  unfold Qbm
  have E:=fun i k (hi : i < l.length) (hk : k < l.length)=>Qqr h hl hi hk
  match l,h3,E with
  | [],_,_=>simp only [Q0,List.map_nil,List.length_nil]; rw [show decide (((0 : Nat) : Int) = 0) = true from rfl,cond_true,Y3 (by decide)]; rfl
  | [a],_,E =>
    have E00:=E 0 0 (by simp) (by simp)
    rw [show decide (((Q0 [a]).length : Int) = 0) = false from rfl,cond_false,show decide (((Q0 [a]).length : Int) = 1) = true from rfl,cond_true]
    change Option.bind (XJ ((0 : Nat) : Int) ((0 : Nat) : Int) _ _) _ = _
    rw [E00]; rfl
  | [a,b],_,E =>
    have E00:=E 0 0 (by simp) (by simp)
    have E01:=E 0 1 (by simp) (by simp)
    have E10:=E 1 0 (by simp) (by simp)
    have E11:=E 1 1 (by simp) (by simp)
    rw [show decide (((Q0 [a,b]).length : Int) = 0) = false from rfl,cond_false,show decide (((Q0 [a,b]).length : Int) = 1) = false from rfl,cond_false,show decide (((Q0 [a,b]).length : Int) = 2) = true from rfl,cond_true]
    simp only [List.getElem_cons_zero,List.getElem_cons_succ] at E00 E01 E10 E11
    change XJ 0 0 (wd f) (Q0 [a,b]) = _ at E00
    change XJ 0 1 (wd f) (Q0 [a,b]) = _ at E01
    change XJ 1 0 (wd f) (Q0 [a,b]) = _ at E10
    change XJ 1 1 (wd f) (Q0 [a,b]) = _ at E11
    rw [E00,E01,E10,E11]
    simp only [Ql,Jl,J7]
    rfl
  | [a,b,c],_,E =>
    have E00 : XJ 0 0 (wd f) (Q0 [a,b,c]) = _:=E 0 0 (by simp) (by simp)
    have E01 : XJ 0 1 (wd f) (Q0 [a,b,c]) = _:=E 0 1 (by simp) (by simp)
    have E02 : XJ 0 2 (wd f) (Q0 [a,b,c]) = _:=E 0 2 (by simp) (by simp)
    have E10 : XJ 1 0 (wd f) (Q0 [a,b,c]) = _:=E 1 0 (by simp) (by simp)
    have E11 : XJ 1 1 (wd f) (Q0 [a,b,c]) = _:=E 1 1 (by simp) (by simp)
    have E12 : XJ 1 2 (wd f) (Q0 [a,b,c]) = _:=E 1 2 (by simp) (by simp)
    have E20 : XJ 2 0 (wd f) (Q0 [a,b,c]) = _:=E 2 0 (by simp) (by simp)
    have E21 : XJ 2 1 (wd f) (Q0 [a,b,c]) = _:=E 2 1 (by simp) (by simp)
    have E22 : XJ 2 2 (wd f) (Q0 [a,b,c]) = _:=E 2 2 (by simp) (by simp)
    simp only [List.getElem_cons_zero,List.getElem_cons_succ] at E00 E01 E02 E10 E11 E12 E20 E21 E22
    rw [show decide (((Q0 [a,b,c]).length : Int) = 0) = false from rfl,cond_false,show decide (((Q0 [a,b,c]).length : Int) = 1) = false from rfl,cond_false,show decide (((Q0 [a,b,c]).length : Int) = 2) = false from rfl,cond_false,
      Y3 (by decide),Ql]
    have w1 : ∀ x,Arr3_U64.mk (QS x).e0 (QS x).e1 (QS x).e2 = QS x:=fun x=>rfl
    have t : (Int.tmod (w64 (0 + 1)) 3 = 1 ∧ Int.tmod (w64 (0 + 2)) 3 = 2) ∧ (Int.tmod (w64 (1 + 1)) 3 = 2 ∧ Int.tmod (w64 (1 + 2)) 3 = 0) ∧ (Int.tmod (w64 (2 + 1)) 3 = 0 ∧ Int.tmod (w64 (2 + 2)) 3 = 1):=by decide
    have s0 : Jg (wd f) (Q0 [a,b,c]) (0,(QS 0).e0,(QS 0).e1,(QS 0).e2) = some (.inl (1,(QS (0 + g2 f a a * (g2 f b b * g2 f c c - g2 f b c * g2 f c b))).e0,(QS (0 + g2 f a a * (g2 f b b * g2 f c c - g2 f b c * g2 f c b))).e1,(QS (0 + g2 f a a * (g2 f b b * g2 f c c - g2 f b c * g2 f c b))).e2)):=by
      simp only [Jg,show decide ((0 : Int) < 3) = true from rfl,cond_true,t,E00,E11,E22,E12,E21,Ql,Jl,J7,w1,Qer]; rfl
    have s1 : ∀ x,Jg (wd f) (Q0 [a,b,c]) (1,(QS x).e0,(QS x).e1,(QS x).e2) = some (.inl (2,(QS (x + g2 f a b * (g2 f b c * g2 f c a - g2 f b a * g2 f c c))).e0,(QS (x + g2 f a b * (g2 f b c * g2 f c a - g2 f b a * g2 f c c))).e1,(QS (x + g2 f a b * (g2 f b c * g2 f c a - g2 f b a * g2 f c c))).e2)):=by
      intro x
      simp only [Jg,show decide ((1 : Int) < 3) = true from rfl,cond_true,t,E01,E12,E20,E10,E22,Ql,Jl,J7,w1,Qer]; rfl
    have s2 : ∀ x,Jg (wd f) (Q0 [a,b,c]) (2,(QS x).e0,(QS x).e1,(QS x).e2) = some (.inl (3,(QS (x + g2 f a c * (g2 f b a * g2 f c b - g2 f b b * g2 f c a))).e0,(QS (x + g2 f a c * (g2 f b a * g2 f c b - g2 f b b * g2 f c a))).e1,(QS (x + g2 f a c * (g2 f b a * g2 f c b - g2 f b b * g2 f c a))).e2)):=by
      intro x
      simp only [Jg,show decide ((2 : Int) < 3) = true from rfl,cond_true,t,E02,E10,E21,E11,E20,Ql,Jl,J7,w1,Qer]; rfl
    have s3 : ∀ x,Jg (wd f) (Q0 [a,b,c]) (3,(QS x).e0,(QS x).e1,(QS x).e2) = some (.inr ((QS x).e0,(QS x).e1,(QS x).e2)):=fun x=>rfl
    rw [Yp s0,Yp (s1 _),Yp (s2 _),X2 (s3 _)]
    simp only [Ql,w1,Ya]
    congr 2; omega

/-! ### Which forms are right -/
def ZU (f : List (List Int)) (i : Nat) (row : List Int) : Option Int:=fs (fun k x=>if Xp 10000 x then (if g2 f k i = x then none else some 3) else some 2) 0 row
def ZE (f : List (List Int)) (r : List Int) : Bool:=!decide (r.length = f.length)
def Ja (f : List (List Int)) : Int :=
  if f.length = 0 then 10 else if 3 < f.length then 8 else if f.any (ZE f) then 10 else
    match fs (ZU f) 0 f with | some e=>e | none=>0
theorem Qni {f : List (List Int)} (h : f.any (ZE f) = false) : Sq f.length f :=
  ⟨rfl,fun i hi=>by rw [List.any_eq_false] at h; have:=h _ (Qgh hi); simpa [ZE] using this⟩
theorem Qti (f : List (List Int)) (hl : f.length < 1073741824) : Qdm f = some (Ja f):=by
  unfold Qdm
  simp only [YH,Ql,Zq]
  have hc : Qey f f = some (f.any (ZE f)):=by
    unfold Qey Qis
    rw [YG f (fun k r=>if ZE f r then some (k : Int) else none)]
    · rw [Ql,Qdc (ZE f),Ql,Qda]
    · intro k hk
      unfold Qir
      rw [XA hk,XT hk]
      simp only [cond_true,Ql,Qgy,Jd]
      exact Qdb (Xy k (by omega))
    · unfold Qir
      rw [XB]; rfl
  have e1 : (decide ((0 : Int) < (f.length : Int))) = !decide (f.length = 0):=by rw [Bool.eq_iff_iff,Bool.not_eq_true',decide_eq_true_iff,decide_eq_false_iff_not]; omega
  have e2 : (decide ((f.length : Int) ≤ 3)) = !decide (3 < f.length):=by rw [Bool.eq_iff_iff,Bool.not_eq_true',decide_eq_true_iff,decide_eq_false_iff_not]; omega
  rw [e1,e2,hc]
  unfold Ja
  by_cases h1 : f.length = 0
  · simp [h1]
  · by_cases h2 : 3 < f.length
    · simp [h1,h2]
    · cases h3 : f.any (ZE f) with
      | true=>simp [h1,h2]
      | false =>
        have hq:=Qni h3
        have hloop : loop (Qdl f) 0 = some (oi (fs (ZU f) 0 f)):=by
          refine YG f _ (fun i hi=>?_) ?_
          · unfold Qdl
            rw [XA hi,cond_true,XT hi,Ql]
            have hri : f[i].length = f.length:=by rw [Zr hi]; exact hq.row i hi
            have hin : loop (Qdk f[i] f (i : Int)) 0 = some (oi ((ZU f i f[i]).map fun r=>(.inr (.inl r) : Int ⊕ (Int ⊕ Unit)))):=by
              rw [YG f[i] (fun k x=>(if Xp 10000 x then (if g2 f k i = x then none else some (3 : Int)) else some 2).map fun r=>(.inr (.inl r) : Int ⊕ (Int ⊕ Unit)))]
              · rw [Qak (fun r=>(.inr (.inl r) : Int ⊕ (Int ⊕ Unit)))]; rfl
              · intro k hk
                have hkf : k < f.length:=by omega
                have hki : i < (gr f k).length:=by rw [hq.row k hkf]; exact hi
                unfold Qdk
                rw [XA hk,cond_true,XT hk,Ql,JE hkf,Ql,YE hki,Ql]
                simp only [Qhq _ _ (show (0 : Int) ≤ 10000 ∧ (10000 : Int) ≤ 4611686018427387904 by decide),Ql,YH,Zq]
                rw [Xy k (by omega)]
                show _ = X6 (Option.map _ (if Xp 10000 f[i][k] then (if g2 f k i = f[i][k] then none else some 3) else some 2)) k
                unfold g2
                cases Xp 10000 f[i][k] <;> by_cases h5 : gi (gr f k) i = f[i][k] <;> simp [h5,X6]
              · unfold Qdk
                rw [XB]; rfl
            rw [hin,Ql,Xy i (by omega)]
            cases ZU f i f[i] <;> rfl
          · unfold Qdl
            rw [XB]; rfl
        simp only [h1,h2,hloop,decide_false,Bool.not_false,cond_true,if_true,if_false,decide_true,Bool.not_true,cond_false,Ql,Bool.false_eq_true]
        cases fs (ZU f) 0 f <;> rfl
structure Rf (f : List (List Int)) : Prop where
  n1 : 1 ≤ f.length
  n3 : f.length ≤ 3
  sq : Sq f.length f
  bd : Bd f.length f 10000
  sym : ∀ i k,i < f.length → k < f.length → g2 f k i = g2 f i k
theorem frmE_right {f : List (List Int)} : Ja f = 0 ↔ Rf f:=by
  constructor
  · intro h
    unfold Ja at h
    by_cases h1 : f.length = 0
    · simp [h1] at h
    · by_cases h2 : 3 < f.length
      · simp [h1,h2] at h
      · cases h3 : f.any (ZE f) with
        | true=>simp [h1,h2,h3] at h
        | false =>
          have hq:=Qni h3
          simp only [h1,h2,h3,if_false,Bool.false_eq_true] at h
          cases h4 : fs (ZU f) 0 f with
          | some e =>
            simp only [h4] at h
            obtain ⟨i,hi,h5⟩:=ZF h4
            obtain ⟨k,hk,h6⟩:=ZF h5
            subst h
            split at h6
            · split at h6 <;> simp at h6
            · simp at h6
          | none =>
            rw [fs_none] at h4
            have key : ∀ i k,i < f.length → k < f.length → Xp 10000 (g2 f i k) = true ∧ g2 f k i = g2 f i k:=by
              intro i k hi hk
              have h5:=h4 i hi
              unfold ZU at h5
              rw [fs_none] at h5
              have hr : f[i].length = f.length:=by rw [Zr hi]; exact hq.row i hi
              have h6:=h5 k (by omega)
              have e : f[i][k] = g2 f i k:=by unfold g2; rw [YK (by omega)]; congr 1; exact Zr hi
              simp only [Nat.zero_add,e] at h6
              split at h6
              · rename_i hs
                split at h6
                · rename_i hy; exact ⟨hs,hy⟩
                · cases h6
              · cases h6
            exact ⟨by omega,by omega,hq,fun i k hi hk=>(ZP _ _).1 (key i k hi hk).1,fun i k hi hk=>(key i k hi hk).2⟩
  · intro h
    have h3 : f.any (ZE f) = false:=by
      rw [List.any_eq_false]
      intro r hr
      obtain ⟨i,hi,rfl⟩:=List.getElem_of_mem hr
      have:=h.sq.row i hi
      rw [← Zr hi] at this
      simp [ZE,this]
    have h4 : fs (ZU f) 0 f = none:=by
      rw [fs_none]
      intro i hi
      unfold ZU
      rw [fs_none]
      intro k hk
      have hr : f[i].length = f.length:=by rw [Zr hi]; exact h.sq.row i hi
      have hk' : k < f.length:=by omega
      have e : f[i][k] = g2 f i k:=by unfold g2; rw [YK (by omega)]; congr 1; exact Zr hi
      simp only [Nat.zero_add,e]
      rw [if_pos ((ZP _ _).2 (h.bd i k hi hk')),if_pos (h.sym i k hi hk')]
    unfold Ja
    rw [if_neg (by have:=h.n1; omega),if_neg (by have:=h.n3; omega),h3,h4]; rfl
end Go.Gw

end
section
set_option maxRecDepth 4096
set_option linter.unusedSimpArgs false
set_option linter.unusedVariables false
namespace Go.Gw
open Go

theorem Qyb (x q : Int) : w64 (x + 18446744073709551616 * q) = w64 x:=by simp only [Qfc]; omega
theorem Qxz (x : Int) : ∃ q,w64 x = x + 18446744073709551616 * q:=⟨(w64 x - x) / 18446744073709551616,by simp only [Qfc]; omega⟩
theorem Qya (a b : Int) : w64 (w64 a * b) = w64 (a * b):=by
  obtain ⟨q,hq⟩:=Qxz a
  rw [hq,Int.add_mul,Int.mul_assoc,Qyb]
theorem Qnt (a b : Int) : w64 (a * w64 b) = w64 (a * b):=by rw [Int.mul_comm,Qya,Int.mul_comm]
theorem Qbw {β : Type} {step : (List β × Int) → Option ((List β × Int) ⊕ List β)} (n : Nat) (g : Nat → β)
    (hs : ∀ k,k < n → ∀ acc : List β,acc.length = k → step (acc,(k : Int)) = some (.inl (acc ++ [g k],((k + 1 : Nat) : Int)))) (he : ∀ acc,step (acc,(n : Int)) = some (.inr acc)) :
    loop step ([],0) = some ((List.range n).map g):=by
  have key : ∀ k,k ≤ n → loop step ([],0) = loop step ((List.range k).map g,(k : Int)):=by
    intro k
    induction k with
    | zero=>intro _; rfl
    | succ k ih =>
      intro hk
      rw [ih (by omega)]
      refine (Yp (hs k (by omega) _ (by simp))).trans ?_
      have e : (List.range (k + 1)).map g = (List.range k).map g ++ [g k]:=by rw [List.range_succ,List.map_append]; rfl
      rw [e]
  rw [key _ (Nat.le_refl _)]
  exact X2 (he _)
def Zi (n : Nat) (g : Nat → Int) : List Int:=(List.range n).map g
theorem Qar (n : Nat) (g : Nat → Int) : (Zi n g).length = n:=by simp [Zi]
theorem Qcy {n : Nat} {g : Nat → Int} {k : Nat} (h : k < n) : gi (Zi n g) k = g k:=by rw [← YK (by rw [Qar]; exact h)]; simp [Zi]
def JP (n : Nat) (g : Nat → Nat → Int) : List (List Int):=(List.range n).map fun i=>Zi n (g i)
theorem Qnq (n : Nat) (g : Nat → Nat → Int) : (JP n g).length = n:=by simp [JP]
theorem Qla {n : Nat} {g : Nat → Nat → Int} {i : Nat} (h : i < n) : gr (JP n g) i = Zi n (g i):=by rw [← Zr (by rw [Qnq]; exact h)]; simp [JP]
theorem Qri {n : Nat} {g : Nat → Nat → Int} {i k : Nat} (hi : i < n) (hk : k < n) : g2 (JP n g) i k = g i k:=by unfold g2; rw [Qla hi,Qcy hk]
theorem Qxb (n : Nat) (g : Nat → Nat → Int) : Sq n (JP n g):=⟨Qnq n g,fun i hi=>by rw [Qla hi,Qar]⟩

/-! ### Values -/
theorem Qfv {a b : List Int} (h : a.length ≤ b.length) (hl : a.length < 1073741824) : Qaa a b = some (w64 (Xi (fun k=>gi a k * gi b k) a.length)):=by
  unfold Qaa
  rw [Qei a.length (fun k=>gi a k * gi b k)]
  · rfl
  · intro k hk acc
    unfold Qgu
    dsimp only
    rw [XA hk,cond_true,YE hk,Ql,YE (by omega),Ql,Jn,Xy k (by omega)]
  · intro acc
    unfold Qgu
    dsimp only
    rw [XB]; rfl
def ZA (n : Nat) (f : List (List Int)) (x : List Int) : Int:=Xi (fun i=>gi x i * Xi (fun k=>g2 f i k * gi x k) n) n
theorem Qxx {n : Nat} {f : List (List Int)} (h : Sq n f) {x : List Int} (hx : x.length = n) (hn : n < 1073741824) : Qeg f x = some (w64 (ZA n f x)):=by
  unfold Qeg
  rw [Qei n (fun i=>gi x i * Xi (fun k=>g2 f i k * gi x k) n)]
  · rfl
  · intro k hk acc
    unfold Qhk
    dsimp only
    have hr:=h.row k hk
    rw [h.len,XA hk,cond_true,JE (by rw [h.len]; exact hk),Ql,YE (by omega),Ql,Qfv (by omega) (by omega),Ql,Jn,Xy k (by omega),hr]
    congr 3
    rw [← Jn,Qnt,Jn]; rfl
  · intro acc
    unfold Qhk
    dsimp only
    rw [h.len,XB]; rfl

/-! ### The worst disturbance -/
theorem Qpe {q : Int} (h : 0 ≤ q ∧ q < 4611686018427387904) : QX .i64 q 1 = q % 2:=by
  unfold QX
  have e1 : (BitVec.ofInt IntKind.i64.bits q &&& BitVec.ofInt IntKind.i64.bits 1).toNat = q.toNat % 2:=by
    rw [BitVec.toNat_and]
    have h1 : (BitVec.ofInt IntKind.i64.bits q).toNat = q.toNat:=by
      rw [BitVec.toNat_ofInt]
      have : ((2 ^ IntKind.i64.bits : Nat) : Int) = 18446744073709551616:=by decide
      rw [this]; omega
    have h2 : (BitVec.ofInt IntKind.i64.bits 1).toNat = 1:=by decide
    rw [h1,h2,Nat.and_one_is_mod]
  rw [e1]
  show w64 _ = _
  rw [Xd (by omega)]; omega
def sgn (s i : Nat) : Int:=1 - 2 * ((s / 2 ^ i % 2 : Nat) : Int)
def xv (p : LevitatePlant) (s : Nat) : List Int:=Zi p.Noise.length fun i=>(gi p.Noise i + 1) * sgn s i
def Jo (v : Nat → Int) : Nat → Int
  | 0=>0
  | s + 1=>if s = 0 ∨ Jo v s < v s then v s else Jo v s
def Qny (p : LevitatePlant) (f : List (List Int)) : Int:=Jo (fun s=>ZA p.Noise.length f (xv p s)) (2 ^ p.Noise.length)
theorem XN {a b A B : Int} (ha : -A ≤ a ∧ a ≤ A) (hb : -B ≤ b ∧ b ≤ B) : -(A * B) ≤ a * b ∧ a * b ≤ A * B:=by
  have hA : 0 ≤ A:=by omega
  have hB : 0 ≤ B:=by omega
  have h1 : (a * b).natAbs ≤ A.toNat * B.toNat:=by rw [Int.natAbs_mul]; exact Nat.mul_le_mul (by omega) (by omega)
  have h2 : ((A.toNat * B.toNat : Nat) : Int) = A * B:=by rw [Int.natCast_mul]; congr 1 <;> omega
  omega
theorem Qnl {t : Nat → Int} {B : Int} : ∀ {n : Nat},(∀ k,k < n → -B ≤ t k ∧ t k ≤ B) → -(n * B) ≤ Xi t n ∧ Xi t n ≤ n * B
  | 0,_=>by simp [Xi]
  | n + 1,h=>by
    simp only [Xi]
    have h1:=Qnl (n:=n) (fun k hk=>h k (by omega)); have h2:=h n (by omega)
    have : ((n + 1 : Nat) : Int) * B = n * B + B:=by rw [Int.natCast_add,Int.add_mul]; simp
    omega
theorem Qch {t : Nat → Int} {B : Int} {n : Nat} (hn : n ≤ 3) (hB : 0 ≤ B) (h : ∀ k,k < n → -B ≤ t k ∧ t k ≤ B) : -(3 * B) ≤ Xi t n ∧ Xi t n ≤ 3 * B:=by
  have h1:=Qnl h
  have h2 : (n : Int) * B ≤ 3 * B:=Int.mul_le_mul_of_nonneg_right (by omega) hB
  omega
theorem Qxw {n : Nat} {f : List (List Int)} (hn : n ≤ 3) (hf : Bd n f 10000) {x : List Int} {X : Int} (hX : 0 ≤ X) (hx : ∀ k,k < n → -X ≤ gi x k ∧ gi x k ≤ X) : -(3 * (X * (3 * (10000 * X)))) ≤ ZA n f x ∧ ZA n f x ≤ 3 * (X * (3 * (10000 * X))):=by
  have h1 : 0 ≤ 10000 * X:=by omega
  refine Qch hn (Int.mul_nonneg hX (by omega)) fun i hi=>XN (hx i hi) (Qch hn h1 fun k hk=>XN (hf i k hi hk) (hx k hk))
theorem Qwp (s i : Nat) : sgn s i = 1 ∨ sgn s i = -1:=by unfold sgn; omega
theorem Qyi {p : LevitatePlant} (h : Rp p) (s : Nat) {k : Nat} (hk : k < p.Noise.length) : -10001 ≤ gi (xv p s) k ∧ gi (xv p s) k ≤ 10001:=by
  unfold xv
  rw [Qcy hk]
  have:=h.noise_b hk
  rcases Qwp s k with h1 | h1 <;> rw [h1] <;> omega
theorem Qyj {p : LevitatePlant} (h : Rp p) {s : Nat} (hs : s < 8) : loop (Qec ⟨p⟩ (s : Int)) ([],0) = some (xv p s):=by
  refine Qbw p.Noise.length _ (fun k hk acc hacc=>?_) (fun acc=>?_)
  · unfold Qec
    dsimp only
    have hb:=h.noise_b hk
    have hk3 : k < 3:=by have:=h.n3; omega
    rw [XA hk,cond_true,YE hk,Ql,Qng _ k (by omega),Ql]
    have e : (s : Int) / 2 ^ k = ((s / 2 ^ k : Nat) : Int):=by rw [Int.natCast_ediv,Int.natCast_pow]; rfl
    have hle : s / 2 ^ k ≤ s:=Nat.div_le_self _ _
    have e3 : sgn s k = 1 - 2 * ((s / 2 ^ k % 2 : Nat) : Int):=rfl
    rw [e,e3]
    generalize s / 2 ^ k = Q at *
    rw [Qpe (by omega),Y6 (by simp [hacc]; omega),Ql,Xy k (by omega)]
    have e2 : w64 (w64 (gi p.Noise k + 1) * w64 (1 - w64 (2 * ((Q : Int) % 2)))) = (gi p.Noise k + 1) * (1 - 2 * ((Q % 2 : Nat) : Int)):=by
      rw [Xd (x:=gi p.Noise k + 1) (by omega),Xd (x:=2 * _) (by omega),Xd (x:=1 - _) (by omega)]
      have e4 : 1 - 2 * ((Q : Int) % 2) = 1 - 2 * ((Q % 2 : Nat) : Int):=by omega
      rw [e4]
      have h1 : 1 - 2 * ((Q % 2 : Nat) : Int) = 1 ∨ 1 - 2 * ((Q % 2 : Nat) : Int) = -1:=by omega
      rcases h1 with h1 | h1 <;> rw [h1] <;> rw [Xd (by omega)]
    rw [e2]
  · unfold Qec
    dsimp only
    rw [XB]; rfl
theorem Qmw {n : Nat} (h : n ≤ 3) : 2 ^ n ≤ 8:=by
  have : 2 ^ n ≤ 2 ^ 3:=Nat.pow_le_pow_right (by decide) h
  omega
theorem Qij {n : Nat} (h : n ≤ 3) : Qcd .i64 1 (n : Int) = some ((2 ^ n : Nat) : Int):=by
  match n,h with
  | 0,_=>rfl
  | 1,_=>rfl
  | 2,_=>rfl
  | 3,_=>rfl
theorem Qyh {p : LevitatePlant} (h : Rp p) {f : List (List Int)} (hf : Sq p.Noise.length f) (hb : Bd p.Noise.length f 10000) : Qbt ⟨p⟩ f = some (Qny p f):=by
  unfold Qbt
  have h3:=h.n3
  have h8:=Qmw h3
  rw [hf.len,Qij h3,Ql]
  have vb : ∀ s,-(3 * (10001 * (3 * (10000 * 10001)))) ≤ ZA p.Noise.length f (xv p s) ∧ ZA p.Noise.length f (xv p s) ≤ 3 * (10001 * (3 * (10000 * 10001))):=fun s=>Qxw h3 hb (by decide) (fun k hk=>Qyi h s hk)
  have key : ∀ s,s ≤ 2 ^ p.Noise.length → loop (Qag f ⟨p⟩ ((2 ^ p.Noise.length : Nat) : Int)) (0,0) = loop (Qag f ⟨p⟩ ((2 ^ p.Noise.length : Nat) : Int)) (Jo (fun s=>ZA p.Noise.length f (xv p s)) s,(s : Int)):=by
    intro s
    induction s with
    | zero=>intro _; rfl
    | succ s ih =>
      intro hs
      rw [ih (by omega)]
      refine Yp ?_
      unfold Qag
      dsimp only
      rw [XA (by omega),cond_true,Qyj h (by omega),Ql,Qxx hf (by unfold xv; rw [Qar]) (by omega),Ql,Xy s (by omega)]
      have:=vb s
      rw [Xd (by omega)]
      have e0 : decide ((s : Int) = 0) = decide (s = 0):=Jd _ 0
      rw [e0]
      simp only [Jo]
      by_cases h1 : s = 0
      · simp [h1]
      · by_cases h2 : Jo (fun s=>ZA p.Noise.length f (xv p s)) s < ZA p.Noise.length f (xv p s)
        · simp [h1,h2]
        · simp [h1,h2]
  rw [key _ (Nat.le_refl _)]
  have : Qag f ⟨p⟩ ((2 ^ p.Noise.length : Nat) : Int) (Jo (fun s=>ZA p.Noise.length f (xv p s)) (2 ^ p.Noise.length),((2 ^ p.Noise.length : Nat) : Int)) = some (.inr (Jo (fun s=>ZA p.Noise.length f (xv p s)) (2 ^ p.Noise.length))):=by
    unfold Qag
    dsimp only
    rw [XB]; rfl
  rw [X2 this]; rfl
/-! ### Signs of minors -/
theorem Qcr {x : Int} (h : -3138550867693340381917894711603833208051177722232017256448 ≤ x ∧ x < 3138550867693340381917894711603833208051177722232017256448) : Jh (QS x) = some (decide (x < 0)):=by
  rw [Qpi]; congr 1; rw [decide_eq_decide]; omega
theorem Qye {x : Int} (h : -3138550867693340381917894711603833208051177722232017256448 ≤ x ∧ x < 3138550867693340381917894711603833208051177722232017256448) : QS x = QS 0 ↔ x = 0:=by
  constructor
  · intro e; have:=Qyd e; omega
  · rintro rfl; rfl
theorem Qkf {n : Nat} {f : List (List Int)} (hb : Bd n f 200000000000000) {l : List Nat} (hl : ∀ x ∈ l,x < n) : -50000000000000000000000000000000000000000000 ≤ Ya f l ∧ Ya f l ≤ 50000000000000000000000000000000000000000000:=by
  match l,hl with
  | [],_=>simp [Ya]
  | [a],hl=>have:=hb a a (hl a (by simp)) (hl a (by simp)); simp only [Ya]; omega
  | [a,b],hl =>
    have ha:=hl a (by simp); have hb':=hl b (by simp)
    have h1:=XN (hb a a ha ha) (hb b b hb' hb')
    have h2:=XN (hb a b ha hb') (hb b a hb' ha)
    simp only [Ya]; omega
  | [a,b,c],hl =>
    have ha:=hl a (by simp); have hb':=hl b (by simp); have hc:=hl c (by simp)
    have q1:=XN (hb b b hb' hb') (hb c c hc hc)
    have q2:=XN (hb b c hb' hc) (hb c b hc hb')
    have q3:=XN (hb b c hb' hc) (hb c a hc ha)
    have q4:=XN (hb b a hb' ha) (hb c c hc hc)
    have q5:=XN (hb b a hb' ha) (hb c b hc hb')
    have q6:=XN (hb b b hb' hb') (hb c a hc ha)
    have t1:=XN (B:=80000000000000000000000000000) (hb a a ha ha) (b:=g2 f b b * g2 f c c - g2 f b c * g2 f c b) (by omega)
    have t2:=XN (B:=80000000000000000000000000000) (hb a b ha hb') (b:=g2 f b c * g2 f c a - g2 f b a * g2 f c c) (by omega)
    have t3:=XN (B:=80000000000000000000000000000) (hb a c ha hc) (b:=g2 f b a * g2 f c b - g2 f b b * g2 f c a) (by omega)
    simp only [Ya]; omega
  | a :: b :: c :: d :: l,_=>simp [Ya]
def Qes (f : List (List Int)) : Bool:=(List.range f.length).all fun k=>decide (0 < Ya f (List.range (k + 1)))
theorem Bd.mono {n : Nat} {f : List (List Int)} {a b : Int} (h : Bd n f a) (hab : a ≤ b) : Bd n f b:=fun i k hi hk=>by have:=h i k hi hk; omega
theorem Qrf {α ρ : Type} (P : Nat → Bool) (r : ρ) : ∀ (l : List α) (k : Nat),fs (fun i (_ : α)=>if P i then none else some r) k l = if (List.range l.length).all (fun j=>P (k + j)) then none else some r:=by
  intro l
  induction l with
  | nil=>intro k; rfl
  | cons x xs ih =>
    intro k
    rw [List.length_cons,List.range_succ_eq_map]
    cases hp : P k with
    | true =>
      simp only [fs,hp,if_true,ih (k + 1),List.all_cons,Nat.add_zero,Bool.true_and,List.all_map]
      congr 2
      apply List.all_congr rfl
      intro j
      simp only [Function.comp]; rw [show k + 1 + j = k + (j + 1) by omega]
    | false=>simp [fs,hp]
theorem Qnv {n : Nat} {f : List (List Int)} (h : Sq n f) (hn : n ≤ 3) (hb : Bd n f 200000000000000) : Qai f = some (wd f):=by
  refine Qyg f (by rw [h.len]; omega) fun r hr=>?_
  obtain ⟨i,hi,rfl⟩:=List.getElem_of_mem hr
  rw [h.len] at hi
  have e : f[i] = gr f i:=Zr (by rw [h.len]; exact hi)
  rw [e]
  refine ⟨by rw [h.row i hi]; omega,fun x hx=>?_⟩
  obtain ⟨k,hk,rfl⟩:=Qek hx
  rw [h.row i hi] at hk
  have:=hb i k hi hk
  unfold g2 at this
  omega
theorem Qvq {f : List (List Int)} (h : Sq f.length f) (hn : f.length ≤ 3) (hb : Bd f.length f 200000000000000) : Qed f = some (Qes f):=by
  unfold Qed
  rw [Qnv h hn hb,Ql,YG f (fun k _=>if (fun k=>decide (0 < Ya f (List.range (k + 1)))) k then none else some false)]
  · rw [Qrf]
    unfold Qes
    simp only [Nat.zero_add]
    cases (List.range f.length).all fun k=>decide (0 < Ya f (List.range (k + 1))) <;> rfl
  · intro k hk
    unfold Qhi
    rw [XA hk,cond_true,Xy k (by omega),Qmr _ (by omega),Ql]
    have hl : ∀ x ∈ List.range (k + 1),x < f.length:=fun x hx=>by rw [List.mem_range] at hx; omega
    have hd:=Qkf hb hl
    rw [Qma h hl (by simp; omega),Ql,Qcr (by omega),Ql]
    show _ = X6 (if decide (0 < Ya f (List.range (k + 1))) then none else some false) k
    generalize hD : Ya f (List.range (k + 1)) = D at *
    by_cases h1 : D < 0
    · have : ¬ 0 < D:=by omega
      simp [h1,this,X6]
    · by_cases h2 : D = 0
      · subst h2; simp [Y3,X6]
      · have h3 : 0 < D:=by omega
        have h4 : ¬ QS D = QS 0:=fun e=>h2 ((Qye (by omega)).1 e)
        simp [h1,h3,h4,Y3,X6]
  · unfold Qhi
    rw [XB]; rfl

/-! ### No value below 0 -/
def Z2 : Nat → List (List Nat)
  | 1=>[[0]]
  | 2=>[[0],[1],[0,1]]
  | 3=>[[0],[1],[0,1],[2],[0,2],[1,2],[0,1,2]]
  | _=>[]
def JL (n : Nat) (d : List (List Int)) : Bool:=(Z2 n).all fun l=>decide (0 ≤ Ya d l)
theorem Zo {set : Int} {xs ys : List Int} (h : ∀ e ∈ xs,0 ≤ e ∧ e ≤ 62) (h0 : 0 < xs.length) (h1 : xs.length ≤ 1073741824) (hy : xs.filter (fun x=>!Yd set x) = ys) : J2 set xs = some ys:=by
  unfold J2; rw [if_pos ⟨h,h0,h1⟩,hy]
theorem Qtk {α ρ : Type} {step : Int → Option (Int ⊕ (ρ ⊕ Unit))} (xs : List α) (f : Nat → α → Option ρ)
    (hs : ∀ k (hk : k < xs.length),step ((k + 1 : Nat) : Int) = X6 (f k xs[k]) (k + 1))
    (he : step ((xs.length + 1 : Nat) : Int) = some (.inr (.inr ()))) : loop step 1 = some (oi (fs f 0 xs)):=by
  have key : ∀ j k,j + k = xs.length → loop step ((k + 1 : Nat) : Int) = some (oi (fs f k (xs.drop k))):=by
    intro j
    induction j with
    | zero =>
      intro k hk
      obtain rfl : k = xs.length:=by omega
      rw [List.drop_length]
      exact X2 he
    | succ j ih =>
      intro k hk
      have hlt : k < xs.length:=by omega
      rw [List.drop_eq_getElem_cons hlt]
      have:=hs k hlt
      simp only [fs]
      cases hp : f k xs[k] with
      | some r=>rw [hp] at this; exact X2 this
      | none=>rw [hp] at this; rw [Yp this]; exact ih (k + 1) (by omega)
  have:=key xs.length 0 (by omega)
  simpa using this
theorem Qwo {n : Nat} (h1 : 1 ≤ n) (h3 : n ≤ 3) : (Z2 n).length + 1 = 2 ^ n ∧ ∀ k (hk : k < (Z2 n).length),J2 ((k + 1 : Nat) : Int) (Q0 (List.range n)) = some (Q0 (Z2 n)[k]) ∧ (∀ x ∈ (Z2 n)[k],x < n) ∧ (Z2 n)[k].length ≤ 3:=by
  match n,h1,h3 with
  | 1,_,_ =>
    refine ⟨rfl,fun k hk=>?_⟩
    match k,hk with
    | 0,_=>exact ⟨Zo (by decide) (by decide) (by decide) (show List.filter (fun x=>!Yd 1 x) (Q0 (List.range 1)) = Q0 [0] by decide),show ∀ x ∈ [0],x < 1 by decide,show [0].length ≤ 3 by decide⟩
  | 2,_,_ =>
    refine ⟨rfl,fun k hk=>?_⟩
    match k,hk with
    | 0,_=>exact ⟨Zo (by decide) (by decide) (by decide) (show List.filter (fun x=>!Yd 1 x) (Q0 (List.range 2)) = Q0 [0] by decide),show ∀ x ∈ [0],x < 2 by decide,show [0].length ≤ 3 by decide⟩
    | 1,_=>exact ⟨Zo (by decide) (by decide) (by decide) (show List.filter (fun x=>!Yd 2 x) (Q0 (List.range 2)) = Q0 [1] by decide),show ∀ x ∈ [1],x < 2 by decide,show [1].length ≤ 3 by decide⟩
    | 2,_=>exact ⟨Zo (by decide) (by decide) (by decide) (show List.filter (fun x=>!Yd 3 x) (Q0 (List.range 2)) = Q0 [0,1] by decide),show ∀ x ∈ [0,1],x < 2 by decide,show [0,1].length ≤ 3 by decide⟩
  | 3,_,_ =>
    refine ⟨rfl,fun k hk=>?_⟩
    match k,hk with
    | 0,_=>exact ⟨Zo (by decide) (by decide) (by decide) (show List.filter (fun x=>!Yd 1 x) (Q0 (List.range 3)) = Q0 [0] by decide),show ∀ x ∈ [0],x < 3 by decide,show [0].length ≤ 3 by decide⟩
    | 1,_=>exact ⟨Zo (by decide) (by decide) (by decide) (show List.filter (fun x=>!Yd 2 x) (Q0 (List.range 3)) = Q0 [1] by decide),show ∀ x ∈ [1],x < 3 by decide,show [1].length ≤ 3 by decide⟩
    | 2,_=>exact ⟨Zo (by decide) (by decide) (by decide) (show List.filter (fun x=>!Yd 3 x) (Q0 (List.range 3)) = Q0 [0,1] by decide),show ∀ x ∈ [0,1],x < 3 by decide,show [0,1].length ≤ 3 by decide⟩
    | 3,_=>exact ⟨Zo (by decide) (by decide) (by decide) (show List.filter (fun x=>!Yd 4 x) (Q0 (List.range 3)) = Q0 [2] by decide),show ∀ x ∈ [2],x < 3 by decide,show [2].length ≤ 3 by decide⟩
    | 4,_=>exact ⟨Zo (by decide) (by decide) (by decide) (show List.filter (fun x=>!Yd 5 x) (Q0 (List.range 3)) = Q0 [0,2] by decide),show ∀ x ∈ [0,2],x < 3 by decide,show [0,2].length ≤ 3 by decide⟩
    | 5,_=>exact ⟨Zo (by decide) (by decide) (by decide) (show List.filter (fun x=>!Yd 6 x) (Q0 (List.range 3)) = Q0 [1,2] by decide),show ∀ x ∈ [1,2],x < 3 by decide,show [1,2].length ≤ 3 by decide⟩
    | 6,_=>exact ⟨Zo (by decide) (by decide) (by decide) (show List.filter (fun x=>!Yd 7 x) (Q0 (List.range 3)) = Q0 [0,1,2] by decide),show ∀ x ∈ [0,1,2],x < 3 by decide,show [0,1,2].length ≤ 3 by decide⟩
theorem Qtx {n : Nat} {d : List (List Int)} (h1 : 1 ≤ n) (h3 : n ≤ 3) (h : Sq n d) (hb : Bd n d 200000000000000) : Qdr d = some (JL n d):=by
  unfold Qdr
  have hs:=Qwo h1 h3
  rw [Qnv h h3 hb,Ql,Qtk (Z2 n) (fun _ l=>if 0 ≤ Ya d l then none else some false)]
  · have : ∀ (l : List (List Nat)) t, fs (fun _ l => if 0 ≤ Ya d l then none else some false) t l = if l.all (fun l => decide (0 ≤ Ya d l)) then none else some false := by
      intro l
      induction l with
      | nil=>intro t; rfl
      | cons y ys ih =>
        intro t
        by_cases hy : 0 ≤ Ya d y
        · simp [fs,hy]; simpa using ih (t + 1)
        · simp [fs,hy]
    rw [this]
    unfold JL
    cases (Z2 n).all fun l=>decide (0 ≤ Ya d l) <;> rfl
  · intro k hk
    obtain ⟨e1,e2,e3⟩:=hs.2 k hk
    unfold Qhb
    rw [h.len,Qij h3,Ql,XA (by omega),cond_true,Qmr n (by omega),Ql,e1,Ql,Qma h e2 e3,Ql]
    have hd:=Qkf hb e2
    rw [Qcr (by omega),Ql]
    have : w64 (((k + 1 : Nat) : Int) + 1) = ((k + 1 + 1 : Nat) : Int):=Xy (k + 1) (by have:=Qmw h3; omega)
    rw [this]
    generalize Ya d (Z2 n)[k] = D
    by_cases h0 : D < 0
    · have : ¬ 0 ≤ D:=by omega
      simp [h0,this,X6]
    · have : 0 ≤ D:=by omega
      simp [h0,this,X6]
  · unfold Qhb
    rw [h.len,Qij h3,Ql,hs.1,XB]; rfl
end Go.Gw

end
section
set_option maxRecDepth 4096
set_option linter.unusedSimpArgs false
set_option linter.unusedVariables false
namespace Go.Gw
open Go

/-! ### What a map takes from a form -/
def ZG (p : LevitatePlant) (m : Nat) (f : List (List Int)) (i k : Nat) : Int:=Xi (fun a=>ge p m a i * Xi (fun b=>g2 f a b * ge p m b k) p.Noise.length) p.Noise.length
def dI (p : LevitatePlant) (m : Nat) (f : List (List Int)) (r : Arr2_Int) (i k : Nat) : Int:=r.e0 * p.Den * p.Den * g2 f i k - r.e1 * ZG p m f i k
def dM (p : LevitatePlant) (m : Nat) (f : List (List Int)) (r : Arr2_Int) : List (List Int):=JP p.Noise.length (dI p m f r)
structure Rr (r : Arr2_Int) : Prop where
  e1 : 1 ≤ r.e1 ∧ r.e1 ≤ 1000
  e0 : 0 ≤ r.e0 ∧ r.e0 ≤ r.e1
theorem Qlc {p : LevitatePlant} (h : Rp p) {m : Nat} (hm : m < p.Maps.length) {f : List (List Int)} (hb : Bd p.Noise.length f 10000) {i k : Nat} (hi : i < p.Noise.length) (hk : k < p.Noise.length) : -90000000000 ≤ ZG p m f i k ∧ ZG p m f i k ≤ 90000000000:=by
  have:=Qch (t:=fun a=>ge p m a i * Xi (fun b=>g2 f a b * ge p m b k) p.Noise.length) (B:=1000 * (3 * (10000 * 1000))) h.n3 (by decide) fun a ha=>XN (h.ge_b hm ha hi) (Qch h.n3 (by decide) fun b hb'=>XN (hb a b ha hb') (h.ge_b hm hb' hk))
  unfold ZG; omega
theorem rdd {p : LevitatePlant} (h : Rp p) {r : Arr2_Int} (hr : Rr r) : -1000000 ≤ r.e0 * p.Den ∧ r.e0 * p.Den ≤ 1000000 ∧ -1000000000 ≤ r.e0 * p.Den * p.Den ∧ r.e0 * p.Den * p.Den ≤ 1000000000:=by
  have hd:=h.den
  have h0:=hr.e0; have h1:=hr.e1
  have a1:=XN (a:=r.e0) (b:=p.Den) (A:=1000) (B:=1000) (by omega) (by omega)
  have a2:=XN (a:=r.e0 * p.Den) (b:=p.Den) (A:=1000000) (B:=1000) (by omega) (by omega)
  omega
theorem Qke {p : LevitatePlant} (h : Rp p) {m : Nat} (hm : m < p.Maps.length) {f : List (List Int)} (hb : Bd p.Noise.length f 10000) {r : Arr2_Int} (hr : Rr r) {i k : Nat} (hi : i < p.Noise.length) (hk : k < p.Noise.length) :
    (-10000000000000 ≤ r.e0 * p.Den * p.Den * g2 f i k ∧ r.e0 * p.Den * p.Den * g2 f i k ≤ 10000000000000) ∧ (-90000000000000 ≤ r.e1 * ZG p m f i k ∧ r.e1 * ZG p m f i k ≤ 90000000000000):=by
  have hx:=rdd h hr
  have a3:=XN (a:=r.e0 * p.Den * p.Den) (A:=1000000000) (by omega) (hb i k hi hk)
  have a4:=XN (a:=r.e1) (A:=1000) (by have:=hr.e1; omega) (Qlc h hm hb hi hk)
  omega
theorem Qkd {p : LevitatePlant} (h : Rp p) {m : Nat} (hm : m < p.Maps.length) {k : Nat} (hk : k < p.Noise.length) : Qbo (k : Int) (gm p m) = some (Zi p.Noise.length fun a=>ge p m a k):=by
  unfold Qbo
  have hl:=h.sq _ (JD hm)
  have h3:=h.n3
  have : loop (Qdx (gm p m) (k : Int)) ([],0) = some (Zi p.Noise.length fun a=>ge p m a k):=by
    refine Qbw p.Noise.length (fun a=>ge p m a k) (fun a ha acc hacc=>?_) (fun acc=>?_)
    · unfold Qdx
      dsimp only
      rw [hl,XA ha,cond_true,JE (by rw [hl]; exact ha),Ql,YE (by rw [h.row_len hm ha]; exact hk),Ql,Y6 (by simp [hacc]; omega),Ql,Xy a (by omega)]; rfl
    · unfold Qdx
      dsimp only
      rw [hl,XB]; rfl
  rw [this]; rfl
theorem Qrw {p : LevitatePlant} (h : Rp p) {m : Nat} (hm : m < p.Maps.length) {f : List (List Int)} (hf : Sq p.Noise.length f) (hb : Bd p.Noise.length f 10000) {r : Arr2_Int} (hr : Rr r) :
    Qbp ⟨p⟩ (m : Int) f r = some (JL p.Noise.length (dM p m f r)):=by
  unfold Qbp
  have h3:=h.n3
  rw [Qgi hm,Ql]
  have hx:=rdd h hr
  have him : ∀ i k,i < p.Noise.length → k < p.Noise.length → loop (Qdy (gm p m) f (i : Int) (k : Int)) (0,0) = some (ZG p m f i k):=by
    intro i k hi hk
    rw [Qei p.Noise.length (fun a=>ge p m a i * Xi (fun b=>g2 f a b * ge p m b k) p.Noise.length)]
    · have:=Qlc h hm hb hi hk
      rw [Xd (by unfold ZG at this; omega)]; rfl
    · intro a ha acc
      unfold Qdy
      dsimp only
      rw [hf.len,XA ha,cond_true,JE (by rw [hf.len]; exact ha),Ql,Qkd h hm hi,Ql,YE (by rw [Qar]; exact ha),Ql,Qkd h hm hk,Ql,
        Qfv (by rw [hf.row a ha,Qar]; omega) (by rw [hf.row a ha]; omega),Ql,Jn,hf.row a ha,Qcy ha,Xy a (by omega)]
      congr 3
      rw [← Jn,Qnt,Jn]
      congr 3
      exact Qnn fun b hb'=>by rw [Qcy hb']; rfl
    · intro acc
      unfold Qdy
      dsimp only
      rw [hf.len,XB]; rfl
  have hd : loop (Qea (gm p m) ⟨p⟩ r f) ([],0) = some (dM p m f r):=by
    refine Qbw p.Noise.length (fun i=>Zi p.Noise.length (dI p m f r i)) (fun i hi acc hacc=>?_) (fun acc=>?_)
    · unfold Qea
      dsimp only
      rw [hf.len,XA hi,cond_true,JE (by rw [hf.len]; exact hi),Ql]
      have hrow : loop (Qdz (gm p m) (gr f i) ⟨p⟩ r f (i : Int)) ([],0) = some (Zi p.Noise.length (dI p m f r i)):=by
        refine Qbw p.Noise.length (dI p m f r i) (fun k hk acc2 hacc2=>?_) (fun acc2=>?_)
        · unfold Qdz
          dsimp only
          have hb2:=Qke h hm hb hr hi hk
          rw [hf.row i hi,XA hk,cond_true,YE (by rw [hf.row i hi]; exact hk),Ql,him i k hi hk,Ql]
          rw [Xd (x:=r.e0 * p.Den) (by omega),Xd (x:=r.e0 * p.Den * p.Den) (by omega)]
          change Option.bind (Yn acc2 [w64 (w64 (r.e0 * p.Den * p.Den * g2 f i k) - w64 (r.e1 * ZG p m f i k))]) _ = _
          rw [Xd (x:=r.e0 * p.Den * p.Den * g2 f i k) (by omega),Xd (x:=r.e1 * ZG p m f i k) (by omega),Xd (by omega),Y6 (by simp [hacc2]; omega),Ql,Xy k (by omega)]; rfl
        · unfold Qdz
          dsimp only
          rw [hf.row i hi,XB]; rfl
      rw [hrow,Ql,Y6 (by simp [hacc]; omega),Ql,Xy i (by omega)]
    · unfold Qea
      dsimp only
      rw [hf.len,XB]; rfl
  rw [hd,Ql,Qtx (d:=dM p m f r) h.n1 h3 (Qxb _ _) (fun i k hi hk=>by
    unfold dM; rw [Qri hi hk]
    have:=Qke h hm hb hr hi hk
    unfold dI; omega)]; rfl

/-! ### What proves -/
def Qal (r : Arr2_Int) : Bool:=(decide (1 ≤ r.e1) && decide (r.e1 ≤ 1000)) && (decide (0 ≤ r.e0) && decide (r.e0 ≤ r.e1))
theorem rateB_iff {r : Arr2_Int} : Qal r = true ↔ Rr r:=by
  unfold Qal
  simp only [Bool.and_eq_true,decide_eq_true_eq]
  exact ⟨fun h=>⟨h.1,h.2⟩,fun h=>⟨h.e1,h.e0⟩⟩
def lsM (p : LevitatePlant) (f : List (List Int)) (r : Arr2_Int) : Option Nat:=fs (fun m _=>if JL p.Noise.length (dM p m f r) then none else some m) 0 p.Maps
def pvV (p : LevitatePlant) (f : List (List Int)) (r : Arr2_Int) : Int × Int :=
  if Qal r then (if Qes f then (match lsM p f r with | some m=>((m : Int),24) | none=>(0,0)) else (0,20)) else (0,2)
theorem Qvk (p : LevitatePlant) (f : List (List Int)) (h : Sh p) (hl : f.length < 1073741824) : Qdt p f = some (⟨p⟩,if (Yw p).2 = 0 then (if Ja f = 0 then (if f.length = p.Noise.length then 0 else 13) else Ja f) else (Yw p).2):=by
  unfold Qdt
  simp only [Qhp p h,Ql,Qti f hl,YH,Qrd,Jd]
  by_cases h1 : (Yw p).2 = 0 <;> by_cases h2 : Ja f = 0 <;> by_cases h3 : f.length = p.Noise.length <;> simp [h1,h2,h3]
theorem Qvr {p : LevitatePlant} (h : Rp p) {f : List (List Int)} (hf : Rf f) (hn : f.length = p.Noise.length) (r : Arr2_Int) : Qef p f r = some (⟨p⟩,pvV p f r):=by
  unfold Qef
  have h3:=h.n3
  have hsq : Sq p.Noise.length f:=by rw [← hn]; exact hf.sq
  have hbd : Bd p.Noise.length f 10000:=by rw [← hn]; exact hf.bd
  rw [Qvk p f h.sh (by omega)]
  simp only [Ql,h.ck,frmE_right.2 hf,hn,if_true,JJ]
  have e : ∀ b c : Bool,(bif b then some c else some default) = some (b && c):=by intro b c; cases b <;> rfl
  simp only [e,Ql,YH,Zq,if_true]
  have e2 : ((decide (1 ≤ r.e1) && decide (r.e1 ≤ 1000)) && ((decide (1 ≤ r.e1) && decide (r.e1 ≤ 1000)) && (decide (0 ≤ r.e0) && decide (r.e0 ≤ r.e1)))) = Qal r:=by
    unfold Qal; cases (decide (1 ≤ r.e1) && decide (r.e1 ≤ 1000)) <;> rfl
  rw [e2]
  unfold pvV
  cases hr : Qal r with
  | false=>simp
  | true =>
    have hrr:=rateB_iff.1 hr
    have hp:=Qvq hf.sq hf.n3 (hf.bd.mono (by decide))
    simp only [cond_true,decide_true,hp,Ql,YH,if_true]
    cases hpos : Qes f with
    | false=>simp
    | true =>
      have hloop : loop (Qee f p r (⟨p⟩,0)) 0 = some (oi ((lsM p f r).map fun m : Nat=>((⟨p⟩,(m : Int),24) : levitate_plant × Int × Int))):=by
        rw [YG p.Maps (fun m _=>(if JL p.Noise.length (dM p m f r) then none else some m).map fun m : Nat=>((⟨p⟩,(m : Int),24) : levitate_plant × Int × Int))]
        · rw [Qak (fun m : Nat=>((⟨p⟩,(m : Int),24) : levitate_plant × Int × Int)) (fun m _=>if JL p.Noise.length (dM p m f r) then none else some m)]; rfl
        · intro m hm
          unfold Qee
          rw [XA hm,cond_true]
          change Option.bind (Qbp ⟨p⟩ (m : Int) f r) _ = _
          rw [Qrw h hm hsq hbd hrr,Ql,Xy m (by have:=h.m4; omega)]
          cases JL p.Noise.length (dM p m f r) <;> rfl
        · unfold Qee
          rw [XB]; rfl
      simp only [cond_true,decide_true,Bool.not_true,cond_false,if_true]
      rw [hloop]
      cases lsM p f r <;> rfl

/-! ### Levels -/
def Jc (level worst : Int) (r : Arr2_Int) : Bool :=
  decide (0 ≤ (r.e1 - r.e0) * level - r.e1 * worst) && decide (4 * r.e0 * r.e1 * level * worst ≤ ((r.e1 - r.e0) * level - r.e1 * worst) * ((r.e1 - r.e0) * level - r.e1 * worst))
theorem Qrj {level worst : Int} {r : Arr2_Int} (hr : Rr r) (hl : 0 ≤ level ∧ level ≤ 100000000000000) (hw : -9002000000000000 ≤ worst ∧ worst ≤ 9002000000000000) : Qdp level worst r = some (Jc level worst r):=by
  unfold Qdp
  have h0:=hr.e0; have h1:=hr.e1
  have a1:=XN (a:=r.e1 - r.e0) (b:=level) (A:=1000) (B:=100000000000000) (by omega) (by omega)
  have a2:=XN (a:=r.e1) (b:=worst) (A:=1000) (B:=9002000000000000) (by omega) (by omega)
  have a3:=XN (a:=4 * r.e0) (b:=r.e1) (A:=4000) (B:=1000) (by omega) (by omega)
  have a4:=XN (a:=4 * r.e0 * r.e1) (b:=level) (A:=4000000) (B:=100000000000000) (by omega) (by omega)
  have a5:=XN (a:=4 * r.e0 * r.e1 * level) (b:=worst) (A:=400000000000000000000) (B:=9002000000000000) (by omega) (by omega)
  rw [Xd (x:=r.e1 - r.e0) (by omega),Y3 (by omega),Ql,Y3 (n:=level) (by omega),Ql,Jl,Ql,Y3 (n:=r.e1) (by omega),Ql,Y3 (n:=worst) (by omega),Ql,Jl,Ql,J7,Ql,Ql]
  have eta : ∀ x : Int,Arr3_U64.mk (QS x).e0 (QS x).e1 (QS x).e2 = QS x:=fun _=>rfl
  dsimp only
  rw [eta]
  rw [Xd (x:=4 * r.e0) (by omega),Xd (x:=4 * r.e0 * r.e1) (by omega),Y3 (n:=4 * r.e0 * r.e1) (by omega)]
  generalize hA : (r.e1 - r.e0) * level - r.e1 * worst = A
  have hA1 : -10000000000000000000 ≤ A ∧ A ≤ 10000000000000000000:=by omega
  have a6:=XN hA1 hA1
  simp only [Qcr (x:=A) (by omega),Ql,Y3 (n:=level) (show -9223372036854775808 ≤ level ∧ level ≤ 9223372036854775807 by omega),Y3 (n:=worst) (show -9223372036854775808 ≤ worst ∧ worst ≤ 9223372036854775807 by omega),Jl,J7]
  rw [Qcr (by omega)]
  unfold Jc
  rw [hA]
  generalize 4 * r.e0 * r.e1 * level * worst = B
  generalize A * A = C
  by_cases h4 : A < 0
  · have : ¬ 0 ≤ A:=by omega
    simp [h4,this]
  · have : 0 ≤ A:=by omega
    by_cases h5 : C - B < 0
    · have : ¬ B ≤ C:=by omega
      simp [h4, *]
    · have : B ≤ C:=by omega
      simp [h4, *]

/-! ### The least number -/
theorem Qru {step : (Int × Int) → Option ((Int × Int) ⊕ Int)} (P : Int → Bool) (most : Int) (h0 : 0 ≤ most) (hm : most ≤ 1000000000000000)
    (hs : ∀ lo hi,-1 ≤ lo → lo < hi → hi ≤ most + 1 → 1 < hi - lo → step (lo,hi) = some (.inl (if P (lo + (hi - lo) / 2) then (lo,lo + (hi - lo) / 2) else (lo + (hi - lo) / 2,hi))))
    (he : ∀ lo hi,-1 ≤ lo → lo < hi → hi ≤ most + 1 → ¬ 1 < hi - lo → step (lo,hi) = some (.inr hi)) :
    Runs (loop step (-1,w64 (most + 1))) fun hi=>0 ≤ hi ∧ hi ≤ most + 1 ∧ (hi ≤ most → P hi = true) ∧ (0 < hi → P (hi - 1) = false):=by
  rw [Xd (by omega)]
  refine Runs.loop (fun s=>-1 ≤ s.1 ∧ s.1 < s.2 ∧ s.2 ≤ most + 1 ∧ (s.2 ≤ most → P s.2 = true) ∧ (0 ≤ s.1 → P s.1 = false)) (fun s=>(s.2 - s.1).toNat) ⟨by omega,by show (-1 : Int) < most + 1; omega,by show most + 1 ≤ most + 1; omega,fun h=>by exfalso; change most + 1 ≤ most at h; omega,fun h=>by exfalso; change (0 : Int) ≤ -1 at h; omega⟩ ?_
  rintro ⟨lo,hi⟩ ⟨h1,h2,h3,h4,h5⟩
  dsimp only at h1 h2 h3 h4 h5
  by_cases hd : 1 < hi - lo
  · rw [hs lo hi h1 h2 h3 hd]
    refine Runs.some ?_
    cases hp : P (lo + (hi - lo) / 2) with
    | true =>
      rw [if_pos rfl]
      refine ⟨⟨h1,by dsimp only; omega,by dsimp only; omega,fun _=>hp,h5⟩,?_⟩
      dsimp only; omega
    | false =>
      rw [if_neg (by simp)]
      refine ⟨⟨by dsimp only; omega,by dsimp only; omega,h3,h4,fun _=>hp⟩,?_⟩
      dsimp only; omega
  · rw [he lo hi h1 h2 h3 hd]
    refine Runs.some ⟨by omega,h3,h4,fun h=>?_⟩
    have : hi - 1 = lo:=by omega
    rw [this]; exact h5 (by omega)
theorem Qlz {lo hi most : Int} (h1 : -1 ≤ lo) (h2 : lo < hi) (h3 : hi ≤ most + 1) (hm : most ≤ 1000000000000000) : w64 (hi - lo) = hi - lo ∧ w64 (lo + (w64 (Int.tdiv (hi - lo) 2))) = lo + (hi - lo) / 2:=by
  have e1 : w64 (hi - lo) = hi - lo:=Xd (by omega)
  have e2 : Int.tdiv (hi - lo) 2 = (hi - lo) / 2:=Int.tdiv_eq_ediv_of_nonneg (by omega)
  refine ⟨e1,?_⟩
  rw [e2,Xd (x:=(hi - lo) / 2) (by omega),Xd (by omega)]
theorem Qrt {worst : Int} {r : Arr2_Int} (hr : Rr r) (hw : -9002000000000000 ≤ worst ∧ worst ≤ 9002000000000000) : Runs (Qdq 100000000000000 worst r) fun q=>0 ≤ q.1 ∧ q.1 ≤ 100000000000001 ∧ (q.1 ≤ 100000000000000 → Jc q.1 worst r = true) ∧ (0 < q.1 → Jc (q.1 - 1) worst r = false) ∧ q.2 = decide (q.1 ≤ 100000000000000):=by
  unfold Qdq
  refine Runs.callR (Qru (fun n=>Jc n worst r) 100000000000000 (by decide) (by decide) (fun lo hi h1 h2 h3 hd=>?_) (fun lo hi h1 h2 h3 hd=>?_)) fun hi hh=>Runs.some ⟨hh.1,hh.2.1,hh.2.2.1,hh.2.2.2,rfl⟩
  · unfold Qha
    dsimp only
    have hm:=Qlz h1 h2 h3 (by decide)
    rw [hm.1,hm.2,decide_eq_true hd,cond_true]
    unfold Qgp
    rw [Qrj hr (by omega) hw,Ql,Ql]
    cases Jc (lo + (hi - lo) / 2) worst r <;> rfl
  · unfold Qha
    dsimp only
    have hm:=Qlz h1 h2 h3 (by decide)
    rw [hm.1,decide_eq_false hd]; rfl

/-! ### Bounds -/
/-! ### Proofs -/
end Go.Gw

end
section
set_option maxRecDepth 4096
set_option linter.unusedSimpArgs false
set_option linter.unusedVariables false
namespace Go.Gw
open Go

theorem Qjh (a b : List Int) (h : a.length < 1073741824) : Qay a b = some (decide (a = b)):=by
  unfold Qay
  rw [Jd]
  by_cases hl : a.length = b.length
  · rw [YG a (fun k x=>if gi b k = x then none else some false)]
    · simp only [hl,decide_true,Bool.not_true,cond_false,Ql]
      cases hf : fs (fun k x=>if gi b k = x then none else some false) 0 a with
      | none =>
        rw [fs_none] at hf
        have : a = b:=Qlt hl fun k hk=>by
          have:=hf k hk
          simp only [Nat.zero_add] at this
          split at this
          · rename_i e; rw [← YK hk]; exact e.symm
          · cases this
        simp [oi,Xx,this]
      | some r =>
        obtain ⟨k,hk,h1⟩:=ZF hf
        simp only [Nat.zero_add] at h1
        split at h1
        · cases h1
        · rename_i e
          cases h1
          have : ¬ a = b:=fun e2=>by subst e2; exact e (YK hk).symm
          simp [oi,Xx,this]
    · intro k hk
      unfold Qfr
      rw [XA hk,cond_true,XT hk,Ql,YE (by omega),Ql,Xy k (by omega)]
      by_cases e : gi b k = a[k]
      · simp [e,X6]
      · have e' : ¬ a[k] = gi b k:=fun h=>e h.symm
        simp [e,e',X6]
    · unfold Qfr
      rw [XB]; rfl
  · have : ¬ a = b:=fun e=>hl (by rw [e])
    simp [hl,this]

/-! ### Which plants have few parts -/
/-! ### The opposite order -/
/-! ### The example -/
def YO : LevitatePlant:=⟨10,[[[5,0],[2,4]]],[3,1]⟩
def J5 : List (List Int):=[[1,0],[0,1]]
theorem exP_right : Rp YO:=ckP_right.1 (by decide)
theorem exF_right : Rf J5:=frmE_right.1 (by decide)
theorem Qqu : J8 YO [0,0] = some ([6,4],0):=by
  obtain ⟨r,hr,h1⟩:=Qrl exP_right (bxE_right.1 (by decide) : Bx YO [0,0])
  rw [hr]; congr 1
  refine h1.eq (.inl ⟨rfl,rfl,by decide,by decide,(show ∀ m,m < 1 → ∀ i,i < 2 → X3 YO m i [6,4] ≤ gi [6,4] i from by decide),?_⟩)
  intro K hK hs k hk
  have a0:=hK 0 (by decide) 0 (by decide)
  have a1:=hK 0 (by decide) 1 (by decide)
  have s0:=hs 0 (by decide)
  have s1:=hs 1 (by decide)
  have e0 : X3 YO 0 0 K = (0 + 5 * gi K 0 + 0 * gi K 1 + 10 - 1) / 10 + 3:=rfl
  have e1 : X3 YO 0 1 K = (0 + 2 * gi K 0 + 4 * gi K 1 + 10 - 1) / 10 + 1:=rfl
  rw [e0] at a0
  rw [e1] at a1
  change (0 : Int) ≤ gi K 0 at s0
  change (0 : Int) ≤ gi K 1 at s1
  match k,hk with
  | 0,_=>show (6 : Int) ≤ gi K 0; omega
  | 1,_=>show (4 : Int) ≤ gi K 1; omega
theorem Qqw (q : Int) : Jc q 20 ⟨1,2⟩ = decide (234 ≤ q):=by
  unfold Jc
  have e1 : (2 - 1) * q - 2 * 20 = q - 40:=by omega
  have e2 : 4 * 1 * 2 * q * 20 = 160 * q:=by omega
  have e3 : (q - 40) * (q - 40) = q * q - 80 * q + 1600:=by grind
  rw [e1,e2,e3]
  rw [Bool.eq_iff_iff]
  simp only [Bool.and_eq_true,decide_eq_true_eq]
  constructor
  · rintro ⟨h1,h2⟩
    apply Classical.byContradiction
    intro h3
    have h4 : 0 ≤ (q - 40) * (233 - q):=Int.mul_nonneg (by omega) (by omega)
    have h5 : (q - 40) * (233 - q) = 273 * q - q * q - 9320:=by grind
    omega
  · intro h
    have h4 : 0 ≤ (q - 234) * (q - 6):=Int.mul_nonneg (by omega) (by omega)
    have h5 : (q - 234) * (q - 6) = q * q - 240 * q + 1404:=by grind
    exact ⟨by omega,by omega⟩
theorem Qqx : Qbk YO J5 ⟨1,2⟩ = some (234,0):=by
  unfold Qbk
  rw [Qvr exP_right exF_right rfl]
  have e : pvV YO J5 ⟨1,2⟩ = (0,0):=by decide
  rw [e]
  simp only [Ql,decide_true,Bool.not_true,cond_false]
  change Option.bind (Qbt ⟨YO⟩ J5) _ = _
  rw [Qyh exP_right exF_right.sq exF_right.bd,Ql,show Qny YO J5 = 20 by decide]
  obtain ⟨q,hq,h1,h2,h3,h4,h5⟩:=Qrt (worst:=20) (r:=⟨1,2⟩) ⟨by decide,by decide⟩ (by decide)
  rw [hq,Ql]
  rw [Qqw] at h3 h4
  have : q.1 = 234:=by
    simp only [decide_eq_true_eq,decide_eq_false_iff_not] at h3 h4
    omega
  rw [h5,this]; rfl
end Go.Gw

end
