/- Levitate in plain words: samples, steps, runs; the examples that each law begins with. Condition: lists are short. -/
import Derived.Test.YtekkhkapnapelaaGwSens3
set_option linter.unusedVariables false
set_option linter.unusedSimpArgs false
set_option linter.unusedSectionVars false
set_option maxRecDepth 8192
set_option linter.unusedSimpArgs false
set_option linter.unusedVariables false
namespace Go.Gw
open Go

/-! ### Division downwards -/
theorem Qmd {n b : Int} (hb : 1 ≤ b) : -((-n + b - 1) / b) = n / b:=by
  have h1:=Int.mul_ediv_add_emod n b
  have h2:=Int.emod_nonneg n (show b ≠ 0 by omega)
  have h3:=Int.emod_lt_of_pos n (show 0 < b by omega)
  have : (-n + b - 1) / b = -(n / b):=by
    rw [show -n + b - 1 = (b - 1 - n % b) + b * (-(n / b)) by rw [Int.mul_neg]; omega,Int.add_mul_ediv_left _ _ (by omega),Int.ediv_eq_zero_of_lt (by omega) (by omega)]; omega
  omega
theorem Qkh {n b : Int} (hb : 1 ≤ b) {M : Int} (h : -M ≤ n ∧ n ≤ M) : -M ≤ n / b ∧ n / b ≤ M:=by
  by_cases h0 : 0 ≤ n
  · have h1 : 0 ≤ n / b:=Int.ediv_nonneg h0 (by omega)
    have h2 : n / b ≤ n:=Int.ediv_le_self _ h0
    omega
  · have h1 : n / b < 0:=Int.ediv_neg_of_neg_of_pos (by omega) (by omega)
    have h2:=Qmd (n:=n) hb
    have h3 : (-n + b - 1) / b ≤ -n:=by
      apply Int.ediv_le_of_le_mul (by omega)
      have : 0 ≤ (-n - 1) * (b - 1):=Int.mul_nonneg (by omega) (by omega)
      have e : (-n - 1) * (b - 1) = -n * b + n - b + 1:=by grind
      omega
    omega
theorem Qth {n b : Int} (h : -4000000000000000000 ≤ n ∧ n ≤ 4000000000000000000) (h2 : 1 ≤ b) (h3 : b ≤ 4000000000000000000) : JH n b = some (n / b):=by
  unfold JH
  by_cases hn : n < 0
  · rw [decide_eq_true hn,cond_true,show w64 (0 - n) = -n by rw [Xd (by omega)]; omega]
    unfold Qgs
    rw [show decide (-n < 0) = false by simp; omega,cond_false,Xd (x:=-n + b) (by omega),Xd (by omega),Qid (by omega),Int.tdiv_eq_ediv_of_nonneg (by omega)]
    have e:=Qmd (n:=n) h2
    have h4 : 0 ≤ (-n + b - 1) / b:=Int.ediv_nonneg (by omega) (by omega)
    have h5 : (-n + b - 1) / b ≤ -n + b - 1:=Int.ediv_le_self _ (by omega)
    simp only [Ql]
    rw [Xd (x:=(-n + b - 1) / b) (by omega),Xd (by omega)]
    congr 1; omega
  · rw [decide_eq_false hn,cond_false,Qid (by omega),Int.tdiv_eq_ediv_of_nonneg (by omega),Ql]
    have:=Qkh h2 h
    rw [Xd (by omega)]

/-! ### Samples -/
def Zx (p : LevitatePlant) (s : LevitateSample) : Int :=
  if 0 ≤ s.Map ∧ s.Map < p.Maps.length then
    (if s.Noise.length = p.Noise.length then
      (match fs (fun k x=>if Xp (gi p.Noise k) x then none else some (2 : Int)) 0 s.Noise with | some e=>e | none=>0) else 10) else 6
structure Sm (p : LevitatePlant) (s : LevitateSample) : Prop where
  m0 : 0 ≤ s.Map
  m1 : s.Map < p.Maps.length
  len : s.Noise.length = p.Noise.length
  nz : ∀ k,k < p.Noise.length → -gi p.Noise k ≤ gi s.Noise k ∧ gi s.Noise k ≤ gi p.Noise k
theorem Qrh {α : Type} {P : Nat → α → Bool} {l : List α} {k : Nat} {e : Int} (h : fs (fun k x=>if P k x then none else some (2 : Int)) k l = some e) : e = 2:=by
  obtain ⟨i,hi,h1⟩:=ZF h
  split at h1
  · cases h1
  · cases h1; rfl
theorem smE_right {p : LevitatePlant} {s : LevitateSample} : Zx p s = 0 ↔ Sm p s:=by
  unfold Zx
  constructor
  · intro h
    split at h
    · rename_i h1
      split at h
      · rename_i h2
        cases h3 : fs (fun k x=>if Xp (gi p.Noise k) x then none else some (2 : Int)) 0 s.Noise with
        | some e=>rw [h3] at h; have:=Qrh h3; simp only at h; omega
        | none =>
          refine ⟨h1.1,h1.2,h2,fun k hk=>?_⟩
          have h4:=fs_none.1 h3 k (by omega)
          rw [Nat.zero_add,YK (by omega)] at h4
          split at h4
          · rename_i h5; exact (ZP _ _).1 h5
          · cases h4
      · omega
    · omega
  · intro h
    rw [if_pos ⟨h.m0,h.m1⟩,if_pos h.len]
    have : fs (fun k x=>if Xp (gi p.Noise k) x then none else some (2 : Int)) 0 s.Noise = none:=fs_none.2 fun i hi=>by
      have:=h.nz i (by have:=h.len; omega)
      rw [Nat.zero_add,YK hi,if_pos ((ZP _ _).2 this)]
    rw [this]
theorem Qwz {p : LevitatePlant} {s : LevitateSample} (hl : s.Noise.length = p.Noise.length) : (Xx (oi (fs (fun k x=>if Xp (gi p.Noise k) x then none else some (2 : Int)) 0 s.Noise)) fun (_ : Unit)=>some 0) = some (match fs (fun k x=>if Xp (gi p.Noise k) x then none else some (2 : Int)) 0 s.Noise with | some e=>e | none=>0):=by
  cases fs (fun k x=>if Xp (gi p.Noise k) x then none else some (2 : Int)) 0 s.Noise <;> rfl
theorem Qtn {p : LevitatePlant} (h : Rp p) {s : LevitateSample} (hs : s.Noise.length < 1073741824) : Qbs ⟨p⟩ s = some (Zx p s):=by
  unfold Qbs
  have hm1:=h.m1
  have hm4:=h.m4
  rw [Xd (by dsimp only; omega)]
  simp only [JJ,Ql,YH,Zq,Jd]
  unfold Zx
  by_cases h1 : 0 ≤ s.Map ∧ s.Map < p.Maps.length
  · have e1 : (decide (0 ≤ s.Map) && decide (s.Map ≤ (p.Maps.length : Int) - 1)) = true:=by simp; omega
    rw [if_pos h1,e1]
    by_cases h2 : s.Noise.length = p.Noise.length
    · rw [if_pos h2,decide_eq_true h2]
      simp only [cond_true,decide_true,Bool.not_true,cond_false,if_pos]
      rw [YG s.Noise (fun k x=>if Xp (gi p.Noise k) x then none else some 2),Ql,Qwz h2]
      · intro k hk
        unfold Qhh
        rw [XA hk,XT hk,Xy k (by omega)]
        dsimp only
        have hb:=h.noise_b (i:=k) (by omega)
        rw [cond_true,Ql,YE (by omega),Ql,Qhq _ _ (by omega),Ql]
        cases Xp (gi p.Noise k) s.Noise[k] <;> rfl
      · unfold Qhh
        rw [XB]; rfl
    · rw [if_neg h2,decide_eq_false h2]; rfl
  · have e1 : (decide (0 ≤ s.Map) && decide (s.Map ≤ (p.Maps.length : Int) - 1)) = false:=by simp; omega
    rw [if_neg h1,e1]; rfl
def Qao (p : LevitatePlant) (l : List LevitateSample) : Option Int:=fs (fun _ s=>if Zx p s = 0 then none else some (Zx p s)) 0 l
def Qez (p : LevitatePlant) (l : List LevitateSample) : Int:=match Qao p l with | some e=>e | none=>0
theorem smsE_right {p : LevitatePlant} {l : List LevitateSample} : Qez p l = 0 ↔ ∀ s ∈ l,Sm p s:=by
  unfold Qez
  constructor
  · intro h s hs
    cases h1 : Qao p l with
    | some e =>
      rw [h1] at h
      obtain ⟨i,hi,h2⟩:=ZF h1
      split at h2
      · cases h2
      · cases h2; exact absurd h (by assumption)
    | none =>
      obtain ⟨i,hi,rfl⟩:=List.mem_iff_getElem.1 hs
      have h2:=fs_none.1 h1 i hi
      split at h2
      · exact smE_right.1 (by assumption)
      · cases h2
  · intro h
    have : Qao p l = none:=fs_none.2 fun i hi=>by rw [if_pos (smE_right.2 (h _ (List.getElem_mem hi)))]
    rw [this]
def ZY (p : LevitatePlant) (x : List Int) (l : List LevitateSample) : Int :=
  if (Yw p).2 ≠ 0 then (Yw p).2 else if Zy p x ≠ 0 then Zy p x else if 60 < l.length then 8 else Qez p l
theorem Qtm {p : LevitatePlant} (h : Sh p) {x : List Int} (hx : x.length < 1073741824) {l : List LevitateSample} (hl : l.length < 1073741824) (hs : ∀ s ∈ l, s.Noise.length < 1073741824) :
    Qdu p x l = some (⟨p⟩,ZY p x l):=by
  unfold Qdu
  rw [Qhp p h,Ql]
  dsimp only
  unfold ZY
  by_cases h0 : (Yw p).2 = 0
  · have hp:=ckP_right.1 h0
    rw [if_neg (by simp [h0]),decide_eq_true h0]
    simp only [Bool.not_true,cond_false,YH,Ql,Zq]
    change Option.bind (Qaf ⟨p⟩ x) _ = _
    rw [Qlv p x hx,Ql]
    by_cases h1 : Zy p x = 0
    · by_cases h2 : 60 < l.length
      · have e : decide ((l.length : Int) ≤ 60) = false:=decide_eq_false (by omega)
        simp [h1,h2,e]
      · have e : decide ((l.length : Int) ≤ 60) = true:=decide_eq_true (by omega)
        simp only [e,h1,h2,if_true,if_false,cond_true,decide_true,Bool.not_true,cond_false,ne_eq,not_true_eq_false]
        rw [YG l (fun _ s=>if Zx p s = 0 then none else some (⟨p⟩,Zx p s)),Ql]
        · have e : fs (fun (_ : Nat) s => if Zx p s = 0 then none else some ((⟨p⟩ : levitate_plant), Zx p s)) 0 l = (Qao p l).map fun e => (⟨p⟩, e) := by
            unfold Qao
            rw [← Qak]
            exact Qrg fun i hi=>by split <;> rfl
          rw [e]
          unfold Qez
          cases Qao p l <;> rfl
        · intro k hk
          unfold Qhc
          rw [XA hk,XT hk,Xy k (by omega),cond_true,Ql]
          change Option.bind (Qbs ⟨p⟩ l[k]) _ = _
          rw [Qtn hp (hs _ (List.getElem_mem hk)),Ql]
          by_cases h2 : Zx p l[k] = 0
          · simp [h2,X6]
          · simp only [h2,decide_false,Bool.not_false,cond_true,if_false,X6]
        · unfold Qhc
          rw [XB]; rfl
    · simp [h1]
  · rw [if_pos h0,decide_eq_false h0]; rfl

/-! ### Steps -/
def Qcu (p : LevitatePlant) (m i : Nat) (x : List Int) : Int:=Xi (fun k=>ge p m i k * gi x k) p.Noise.length
def YI (p : LevitatePlant) (x : List Int) (s : LevitateSample) : List Int:=Zi p.Noise.length fun i=>Qcu p s.Map.toNat i x / p.Den + gi s.Noise i
def Zw (p : LevitatePlant) : List Int → List LevitateSample → Option (List (List Int))
  | _,[]=>some []
  | x,s :: l=>if (YI p x s).all (Xp 100000) then (Zw p (YI p x s) l).map (YI p x s :: ·) else none
def rnR : Option (List (List Int)) → List (List Int) × Int
  | some ys=>(ys,0)
  | none=>([],24)
structure Stt (p : LevitatePlant) (x : List Int) : Prop where
  len : x.length = p.Noise.length
  bd : ∀ k,k < p.Noise.length → -100000 ≤ gi x k ∧ gi x k ≤ 100000
theorem Qcq {x : List Int} {n : Nat} (hl : x.length = n) {M : Int} : x.all (Xp M) = true ↔ ∀ k,k < n → -M ≤ gi x k ∧ gi x k ≤ M:=by
  subst hl
  rw [List.all_eq_true]
  constructor
  · intro h k hk; exact (ZP _ _).1 (h _ (Qbi hk))
  · intro h y hy
    obtain ⟨k,hk,rfl⟩:=Qek hy
    exact (ZP _ _).2 (h k hk)
theorem stE_right {p : LevitatePlant} {x : List Int} : Zy p x = 0 ↔ Stt p x:=by
  unfold Zy
  constructor
  · intro h
    by_cases h1 : x.length = p.Noise.length
    · refine ⟨h1,?_⟩
      cases h2 : x.all (Xp 100000) with
      | true=>exact (Qcq h1).1 h2
      | false=>simp [h1,h2] at h
    · simp [h1] at h
  · intro h
    simp [h.len,(Qcq h.len).2 h.bd]
theorem Qpz {p : LevitatePlant} (h : Rp p) {m i : Nat} (hm : m < p.Maps.length) (hi : i < p.Noise.length) {x : List Int} (hx : ∀ k,k < p.Noise.length → -100000 ≤ gi x k ∧ gi x k ≤ 100000) : -300000000 ≤ Qcu p m i x ∧ Qcu p m i x ≤ 300000000 :=
  Qch h.n3 (by decide) fun k hk=>XN (h.ge_b hm hi hk) (hx k hk)
theorem Qit (p : LevitatePlant) (x : List Int) (s : LevitateSample) : (YI p x s).length = p.Noise.length:=Qar _ _
theorem stepI_stt {p : LevitatePlant} {x : List Int} {s : LevitateSample} : Stt p (YI p x s) ↔ (YI p x s).all (Xp 100000) = true :=
  ⟨fun h=>(Qcq h.len).2 h.bd,fun h=>⟨Qit _ _ _,(Qcq (Qit _ _ _)).1 h⟩⟩
theorem Qxh {p : LevitatePlant} (h : Rp p) {x : List Int} (hx : Stt p x) {s : LevitateSample} (hs : Sm p s) : loop (Qeb s (gm p s.Map.toNat) ⟨p⟩ x) ([],0) = some (YI p x s):=by
  have hm : s.Map.toNat < p.Maps.length:=by have:=hs.m0; have:=hs.m1; omega
  have hrl : (gm p s.Map.toNat).length = p.Noise.length:=h.sq _ (JD hm)
  have hn:=h.n3
  refine Qbw p.Noise.length _ ?_ ?_
  · intro i hi acc hacc
    unfold Qeb
    dsimp only
    have hd:=h.den
    have hb:=Qpz h hm hi hx.bd
    have hg : gi (gm p s.Map.toNat)[i]! 0 = gi (gm p s.Map.toNat)[i]! 0:=rfl
    rw [XA (by omega),cond_true,JE (by omega),Ql,YE (by have:=hs.len; omega),Ql,Qfv (by rw [h.row_len hm hi,hx.len]; exact Nat.le_refl _) (by rw [h.row_len hm hi]; omega),Ql,h.row_len hm hi]
    change Option.bind (JH (w64 (Qcu p s.Map.toNat i x)) p.Den) _ = _
    rw [Xd (by omega),Qth (by omega) hd.1 (by omega),Ql]
    have h1:=Qkh hd.1 hb
    have h2:=hs.nz i hi
    have h3:=h.noise_b hi
    rw [Xd (by omega),Y6 (by simp; omega),Ql,Xy i (by omega)]
  · intro acc
    unfold Qeb
    dsimp only
    rw [hrl,XB]; rfl
theorem Qwf {p : LevitatePlant} (h : Rp p) {l : List LevitateSample} (hl : l.length < 1000) (hs : ∀ s ∈ l,Sm p s) {x : List Int} (hx : Stt p x) : Qbr ⟨p⟩ x l = some (rnR (Zw p x l)):=by
  unfold Qbr
  have key : ∀ (r l0 : List LevitateSample) (x : List Int) (acc : List (List Int)), l = l0 ++ r → acc.length = l0.length → Stt p x →
      loop (Qae l ⟨p⟩) ((l0.length : Int),acc,x) = some (match Zw p x r with | some ys=>.inr (acc ++ ys) | none=>.inl ([],24)):=by
    intro r
    induction r with
    | nil =>
      intro l0 x acc he ha hx
      refine X2 ?_
      unfold Qae
      dsimp only
      rw [he,List.append_nil,XB]
      simp [Zw]
    | cons s r ih =>
      intro l0 x acc he ha hx
      have hlt : l0.length < l.length:=by rw [he]; simp
      have hel : l[l0.length]'hlt = s := by simp [he]
      have hsm:=hs s (by rw [he]; simp)
      have hm : s.Map.toNat < p.Maps.length:=by have:=hsm.m0; have:=hsm.m1; omega
      have em : s.Map = (s.Map.toNat : Int):=by have:=hsm.m0; omega
      have hstep:=Qxh h hx hsm
      have hsl:=Qit p x s
      have hn:=h.n3
      have ea : Jf 100000 = some 100000:=rfl
      have st : Qae l ⟨p⟩ ((l0.length : Int),acc,x) = if (YI p x s).all (Xp 100000) then some (.inl (((l0 ++ [s]).length : Int),acc ++ [YI p x s],YI p x s)) else some (.inr (.inl ([],24))):=by
        unfold Qae
        dsimp only
        rw [XA hlt,cond_true,XT hlt,Ql,hel]
        have ei : idx p.Maps s.Map = some (gm p s.Map.toNat):=by rw [em]; exact Qgi hm
        rw [ei,Ql,hstep,Ql,ea,Ql,Qcp _ 100000 (by decide) (by omega),Ql]
        cases hb : (YI p x s).all (Xp 100000) with
        | false=>rfl
        | true =>
          have hal : acc.length < 1000:=by omega
          simp only [Bool.not_true,cond_false,Ql,if_true]
          rw [Y6 (by simp; omega),Ql,Xy _ (by omega),Qcp _ 100000 (by decide) (by omega),Ql,hb]
          simp
      cases hb : (YI p x s).all (Xp 100000) with
      | false =>
        rw [hb] at st
        rw [X2 st,Zw,if_neg (by simp [hb])]
      | true =>
        rw [hb] at st
        rw [Yp st,ih (l0 ++ [s]) _ _ (by rw [he]; simp) (by simp [ha]) (stepI_stt.2 hb),Zw,if_pos hb]
        cases Zw p (YI p x s) r <;> simp
  have:=key l [] x [] rfl rfl hx
  change loop (Qae l ⟨p⟩) (0,[],x) = _ at this
  rw [this]
  cases Zw p x l <;> rfl
def Qig (p : LevitatePlant) (x : List Int) (l : List LevitateSample) : List (List Int) × Int:=if ZY p x l = 0 then rnR (Zw p x l) else ([],ZY p x l)
theorem Qoq {p : LevitatePlant} (h : Sh p) {x : List Int} (hx : x.length < 1073741824) {l : List LevitateSample} (hl : l.length < 1073741824) (hs : ∀ s ∈ l,s.Noise.length < 1073741824) : Qdi p x l = some (Qig p x l):=by
  unfold Qdi Qig
  rw [Qtm h hx hl hs,Ql]
  by_cases h0 : ZY p x l = 0
  · rw [if_pos h0,decide_eq_true h0]
    unfold ZY at h0
    split at h0
    · exact absurd h0 (by assumption)
    · rename_i h1
      split at h0
      · exact absurd h0 (by assumption)
      · rename_i h2
        split at h0
        · omega
        · rename_i h3
          have hp:=ckP_right.1 (Classical.not_not.1 h1)
          simp only [Bool.not_true,cond_false]
          change Option.bind (Qbr ⟨p⟩ x l) _ = _
          rw [Qwf hp (by omega) (smsE_right.1 h0) (stE_right.1 (Classical.not_not.1 h2))]
          rfl
  · rw [if_neg h0,decide_eq_false h0]; rfl
def Qnj (p : LevitatePlant) (x : List Int) (s : LevitateSample) : List Int × Int :=
  if ZY p x [s] = 0 then (if (YI p x s).all (Xp 100000) then (YI p x s,0) else ([],24)) else ([],ZY p x [s])
theorem Qor {p : LevitatePlant} (h : Sh p) {x : List Int} (hx : x.length < 1073741824) {s : LevitateSample} (hs : s.Noise.length < 1073741824) : J9 p x s = some (Qnj p x s):=by
  unfold J9
  rw [Qoq h hx (by simp) (by simpa using hs),Ql]
  unfold Qig Qnj
  by_cases h0 : ZY p x [s] = 0
  · rw [if_pos h0,if_pos h0]
    cases hb : (YI p x s).all (Xp 100000) with
    | true=>simp [Zw,rnR,hb,idx]
    | false=>simp [Zw,rnR,hb]
  · rw [if_neg h0,if_neg h0]
    simp only [h0,decide_false,Bool.not_false,cond_true]

/-! ### The examples -/
theorem Qqz : J9 YO [20,-10] ⟨0,[1,-1]⟩ = some ([11,-1],0):=by
  rw [Qor exP_right.sh (by decide) (by decide)]; decide
theorem Qqv : Qdh 1000 ⟨10,20⟩ ⟨5,10⟩ = some (⟨1000,16000⟩,0):=by
  unfold Qdh Qgz Qgv Qgw Qdn Qdo
  simp only [JJ,YH,Zq,Ql]
  rw [show JH (w64 (w64 (1000 * 10) * 10)) (w64 (10 * 10)) = some 1000 by decide,show JG (w64 (w64 (1000 * 20) * 20)) (w64 (5 * 5)) = some 16000 by decide]
  rfl
theorem Qjb {r : Nat} {b : Bool} (h : ZK r = some b) : YP r = some b:=by
  unfold YP; rw [h]
theorem ex_read : YP 1120403456 = some true ∧ YP 1120796672 = some true ∧ YP 1132068864 = some true:=⟨Qjb (by decide +kernel),Qjb (by decide +kernel),Qjb (by decide +kernel)⟩
theorem ex_in : (Xn 1120403456 0 && XG 1120403456 1161527296) = true ∧ (Xn 1120796672 0 && XG 1120796672 1161527296) = true ∧ (Xn 1132068864 0 && XG 1132068864 1161527296) = true:=by decide +kernel
theorem ex_int : Yb 1120403456 = some 100 ∧ Yb 1120796672 = some 103 ∧ Yb 1132068864 = some 250:=by decide +kernel
theorem Qxd {l : List Int} (h : 0 < l.length) (h1 : l.length ≤ 1073741824) (hs : l.Pairwise fun x y=>decide (x ≤ y) = true) : JO l = some l:=by
  unfold JO
  rw [if_pos ⟨h,h1⟩,List.mergeSort_of_pairwise hs]
theorem Qqy : Je ⟨⟨1120403456,1120796672,1132068864⟩,5⟩ = some (103,0):=by
  unfold Je
  have st : ∀ (k : Nat) (acc : List Int) (f : Nat) (n : Int), k < 3 → idx [(1120403456 : Nat), 1120796672, 1132068864] (k : Int) = some f → YP f = some true → (Xn f 0 && XG f 1161527296) = true → Yb f = some n → acc.length < 3 →
      ZH ⟨⟨1120403456,1120796672,1132068864⟩,5⟩ (acc,(k : Int)) = some (.inl (acc ++ [n],((k + 1 : Nat) : Int))):=by
    intro k acc f n hk hi hw hin hn ha
    unfold ZH
    dsimp only
    rw [decide_eq_true (show (k : Int) < 3 by omega),cond_true,hi,Ql,hw,Ql,YH,Ql,hin,YH,Ql,cond_true,Zq,Ql,if_pos rfl]
    rw [show (!decide ((bif true then (0 : Int) else 2) = 0)) = false from rfl,cond_false,hn,Ql]
    rw [Y6 (by simp; omega),Ql,Xy k (by omega)]
  have key : loop (ZH ⟨⟨1120403456,1120796672,1132068864⟩,5⟩) ([],0) = some (.inr [100,103,250]):=by
    refine (Yp (st 0 [] _ _ (by decide) rfl ex_read.1 ex_in.1 ex_int.1 (by decide))).trans ?_
    refine (Yp (st 1 _ _ _ (by decide) rfl ex_read.2.1 ex_in.2.1 ex_int.2.1 (by decide))).trans ?_
    refine (Yp (st 2 _ _ _ (by decide) rfl ex_read.2.2 ex_in.2.2 ex_int.2.2 (by decide))).trans ?_
    exact X2 rfl
  rw [key,Ql]
  unfold Xx
  dsimp only
  rw [Qxd (by decide) (by decide) (by decide)]
  rfl
theorem Qph : Qdd = some true:=by
  unfold Qdd Qbj Qgk
  simp only [Ql]
  change Option.bind (J9 YO [20,-10] ⟨0,[1,-1]⟩) _ = _
  rw [Qqz,Ql]
  change Option.bind (J8 YO [0,0]) _ = _
  rw [Qqu,Ql]
  change Option.bind (Qbk YO J5 ⟨1,2⟩) _ = _
  rw [Qqx,Ql,Qqv,Ql,Qqy]
  simp only [Ql,decide_true,cond_true,Bool.and_true,Qjh [11,-1] [11,-1] (by decide),Qjh [6,4] [6,4] (by decide)]
end Go.Gw
