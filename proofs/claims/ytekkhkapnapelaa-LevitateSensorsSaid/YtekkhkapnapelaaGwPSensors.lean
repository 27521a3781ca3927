/- LevitateSensors answers true. Condition: none. -/
import Derived.Test.YtekkhkapnapelaaGwSens3
import Derived.Test.YtekkhkapnapelaaGwLev9
set_option linter.unusedVariables false
set_option linter.unusedSimpArgs false
set_option linter.unusedSectionVars false
set_option maxRecDepth 8192
set_option linter.unusedSimpArgs false
set_option linter.unusedVariables false
namespace Go.Gw
open Go
def XQ (a b c k : Int) : Int:=a + b + c - QY a b c - Q8 a b c
def Ji (a b c k : Int) : Int × Int :=
  if ¬ (0 ≤ k ∧ k ≤ 3000) then (0,2) else if k < XQ a b c k - QY a b c ∧ k < Q8 a b c - XQ a b c k then (0,13) else (XQ a b c k,0)
def Zd (e0 n0 e1 n1 e2 n2 k : Int) : Int × Int:=if e0 ≠ 0 then (0,e0) else if e1 ≠ 0 then (0,e1) else if e2 ≠ 0 then (0,e2) else Ji n0 n1 n2 k
theorem Qxa (a b c : Int) : JO [a,b,c] = some [QY a b c,XQ a b c 0,Q8 a b c]:=by
  unfold JO
  rw [if_pos (by simp)]
  have hp:=List.mergeSort_perm [a,b,c] (fun x y : Int=>decide (x ≤ y))
  have hs:=List.pairwise_mergeSort (le:=fun x y : Int=>decide (x ≤ y)) (fun a b c h1 h2=>by simp at *; omega) (fun a b=>by simp; omega) [a,b,c]
  generalize [a,b,c].mergeSort (fun x y : Int=>decide (x ≤ y)) = l at hp hs
  have hl:=hp.length_eq
  match l,hl with
  | [x,y,z],_ =>
    have hsum : x + (y + (z + 0)) = a + (b + (c + 0)):=hp.foldr_eq' (f:=fun u v : Int=>u + v) (fun _ _ _ _ _=>by omega) 0
    simp at hs
    have hx : x ∈ [a,b,c]:=hp.subset (by simp)
    have hz : z ∈ [a,b,c]:=hp.subset (by simp)
    have ha : a ∈ [x,y,z]:=hp.symm.subset (by simp)
    have hb : b ∈ [x,y,z]:=hp.symm.subset (by simp)
    have hc : c ∈ [x,y,z]:=hp.symm.subset (by simp)
    simp at hx hz ha hb hc
    have e1 : QY a b c = x:=by unfold QY; repeat' split <;> omega
    have e3 : Q8 a b c = z:=by unfold Q8; repeat' split <;> omega
    unfold XQ
    rw [e1,e3,show a + b + c - x - z = y by omega]
theorem Qly {a b c k : Int} (ha : 0 ≤ a ∧ a ≤ 3000) (hb : 0 ≤ b ∧ b ≤ 3000) (hc : 0 ≤ c ∧ c ≤ 3000) : 0 ≤ QY a b c ∧ QY a b c ≤ XQ a b c k ∧ XQ a b c k ≤ Q8 a b c ∧ Q8 a b c ≤ 3000:=by
  unfold XQ QY Q8; repeat' split <;> omega
theorem Qfi {p : LevitateSensors} {k : Nat} {acc : List Int} {r : Nat} {e n : Int} (hk : k < 3) (hi : idx [p.Values.e0, p.Values.e1, p.Values.e2] (k : Int) = some r) (h : Y5 r e n) (ha : acc.length < 3) :
    ZH p (acc,(k : Int)) = some (if e = 0 then .inl (acc ++ [n],((k + 1 : Nat) : Int)) else .inr (.inl (0,e))):=by
  obtain ⟨h1,h2,h3,-,h5⟩:=h
  unfold ZH
  dsimp only
  rw [decide_eq_true (show (k : Int) < 3 by omega),cond_true,hi,Ql,h1,Ql,YH,Ql,YH,Ql,Zq,Ql]
  rcases h5 with rfl | rfl | rfl
  · rw [h2 (by decide)]
    show (bif false then _ else Option.bind (Yb r) _) = _
    rw [cond_false,(h3 rfl).1,Ql,Y6 (by simp; omega),Ql,Xy k (by omega)]
    rfl
  · rw [h2 (by decide)]; rfl
  · rfl
theorem Qji {a b c : Nat} {k e0 n0 e1 n1 e2 n2 : Int} (h0 : Y5 a e0 n0) (h1 : Y5 b e1 n1) (h2 : Y5 c e2 n2) :
    Je ⟨⟨a,b,c⟩,k⟩ = some (Zd e0 n0 e1 n1 e2 n2 k):=by
  unfold Je Zd
  have s0 : ZH ⟨⟨a,b,c⟩,k⟩ ([],0) = some (if e0 = 0 then .inl ([n0],1) else .inr (.inl (0,e0))):=Qfi (p:=⟨⟨a,b,c⟩,k⟩) (k:=0) (acc:=[]) (by decide) rfl h0 (by decide)
  by_cases c0 : e0 = 0
  rotate_left
  · rw [if_neg c0] at s0
    rw [X2 s0,if_pos c0]; rfl
  rw [if_pos c0] at s0
  rw [if_neg (fun h=>h c0),Yp s0]
  have s1 : ZH ⟨⟨a,b,c⟩,k⟩ ([n0],1) = some (if e1 = 0 then .inl ([n0,n1],2) else .inr (.inl (0,e1))):=Qfi (p:=⟨⟨a,b,c⟩,k⟩) (k:=1) (acc:=[n0]) (by decide) rfl h1 (by simp)
  by_cases c1 : e1 = 0
  rotate_left
  · rw [if_neg c1] at s1
    rw [X2 s1,if_pos c1]; rfl
  rw [if_pos c1] at s1
  rw [if_neg (fun h=>h c1),Yp s1]
  have s2 : ZH ⟨⟨a,b,c⟩,k⟩ ([n0,n1],2) = some (if e2 = 0 then .inl ([n0,n1,n2],3) else .inr (.inl (0,e2))):=Qfi (p:=⟨⟨a,b,c⟩,k⟩) (k:=2) (acc:=[n0,n1]) (by decide) rfl h2 (by simp)
  by_cases c2 : e2 = 0
  rotate_left
  · rw [if_neg c2] at s2
    rw [X2 s2,if_pos c2]; rfl
  rw [if_pos c2] at s2
  rw [if_neg (fun h=>h c2),Yp s2]
  have s3 : ZH ⟨⟨a,b,c⟩,k⟩ ([n0,n1,n2],3) = some (.inr (.inr [n0,n1,n2])):=rfl
  rw [X2 s3,Ql]
  unfold Xx
  dsimp only
  rw [Qxa,Ql,JJ,Ql]
  have a1:=(h0.2.2.1 c0).2.imp id And.left
  have a2:=(h1.2.2.1 c1).2.imp id And.left
  have a3:=(h2.2.2.1 c2).2.imp id And.left
  obtain ⟨b1,b2,b3,b4⟩:=Qly (k:=0) a1 a2 a3
  have em : XQ n0 n1 n2 0 = XQ n0 n1 n2 k:=rfl
  rw [em] at b2 b3 ⊢
  have i0 : ∀ x y z : Int,idx [x,y,z] 0 = some x:=fun x y z=>XT (k:=0) (by simp)
  have i1 : ∀ x y z : Int,idx [x,y,z] 1 = some y:=fun x y z=>XT (k:=1) (by simp)
  have i2 : ∀ x y z : Int,idx [x,y,z] 2 = some z:=fun x y z=>XT (k:=2) (by simp)
  unfold Ji
  by_cases hk : 0 ≤ k ∧ k ≤ 3000
  · rw [if_neg (fun h=>h hk),decide_eq_true hk.1,decide_eq_true hk.2]
    rw [i1,i0,i2,Bool.and_self,Bool.not_true,cond_false,Ql,Ql,Xd (by omega)]
    by_cases q1 : k < XQ n0 n1 n2 k - QY n0 n1 n2
    · rw [decide_eq_true q1,cond_true,cond_true,Ql,Ql,Xd (by omega)]
      by_cases q2 : k < Q8 n0 n1 n2 - XQ n0 n1 n2 k
      · rw [decide_eq_true q2,if_pos ⟨q1,q2⟩]; rfl
      · rw [decide_eq_false q2,if_neg (fun h=>q2 h.2)]; rfl
    · rw [decide_eq_false q1,if_neg (fun h=>q1 h.1)]; rfl
  · rw [if_pos hk,show (decide (0 ≤ k) && decide (k ≤ 3000)) = false by rw [Bool.and_eq_false_iff,decide_eq_false_iff_not,decide_eq_false_iff_not]; omega]
    rfl
theorem Qvt {a b c : Nat} {k e0 n0 e1 n1 e2 n2 : Int} (h0 : Y5 a e0 n0) (h1 : Y5 b e1 n1) (h2 : Y5 c e2 n2) :
    Qet ⟨⟨a,b,c⟩,k⟩ = some (Zd e0 n0 e1 n1 e2 n2 k):=by
  unfold Qet Zd
  rw [h0.2.2.2.1,Ql]
  by_cases c0 : e0 = 0
  rotate_left
  · rw [decide_eq_false c0,if_pos c0]; rfl
  rw [decide_eq_true c0,if_pos c0,if_neg (fun h=>h c0),Bool.not_true,cond_false,h1.2.2.2.1,Ql]
  by_cases c1 : e1 = 0
  rotate_left
  · rw [decide_eq_false c1,if_pos c1]; rfl
  rw [decide_eq_true c1,if_pos c1,if_neg (fun h=>h c1),Bool.not_true,cond_false,h2.2.2.2.1,Ql]
  by_cases c2 : e2 = 0
  rotate_left
  · rw [decide_eq_false c2,if_pos c2]; rfl
  rw [decide_eq_true c2,if_pos c2,if_neg (fun h=>h c2),Bool.not_true,cond_false]
  have a1:=(h0.2.2.1 c0).2.imp id And.left
  have a2:=(h1.2.2.1 c1).2.imp id And.left
  have a3:=(h2.2.2.1 c2).2.imp id And.left
  obtain ⟨b1,b2,b3,b4⟩:=Qly (k:=k) a1 a2 a3
  have hm : w64 (w64 (w64 (w64 (n0 + n1) + n2) - QY n0 n1 n2) - Q8 n0 n1 n2) = XQ n0 n1 n2 k:=by
    rw [Xd (x:=n0 + n1) (by omega),Xd (x:=n0 + n1 + n2) (by omega),Xd (x:=n0 + n1 + n2 - QY n0 n1 n2) (by omega)]
    exact Xd (by unfold XQ at b2 b3; omega)
  show Option.bind (some (decide (0 ≤ k) && decide (k ≤ 3000))) _ = _
  rw [Ql,hm,Xd (x:=XQ n0 n1 n2 k - QY n0 n1 n2) (by omega),Xd (x:=Q8 n0 n1 n2 - XQ n0 n1 n2 k) (by omega)]
  unfold Ji
  by_cases hk : 0 ≤ k ∧ k ≤ 3000
  · rw [if_neg (fun h=>h hk),decide_eq_true hk.1,decide_eq_true hk.2]
    by_cases q : k < XQ n0 n1 n2 k - QY n0 n1 n2 ∧ k < Q8 n0 n1 n2 - XQ n0 n1 n2 k
    · rw [if_pos q,decide_eq_true q.1,decide_eq_true q.2]; rfl
    · rw [if_neg q,show (decide (k < XQ n0 n1 n2 k - QY n0 n1 n2) && decide (k < Q8 n0 n1 n2 - XQ n0 n1 n2 k)) = false by rw [Bool.and_eq_false_iff,decide_eq_false_iff_not,decide_eq_false_iff_not]; omega]
      rfl
  · rw [if_pos hk,show (decide (0 ≤ k) && decide (k ≤ 3000)) = false by rw [Bool.and_eq_false_iff,decide_eq_false_iff_not,decide_eq_false_iff_not]; omega]
    rfl
theorem Qop (x : Arr3_Int) (p k : Int) : Qgl x p k = some true:=by
  unfold Qgl
  rw [Qph,Ql,Bool.not_true,cond_false]
  rw [show Yk .i64 p (w64 (2 * 0)) = some (p.fdiv (2 ^ 0)) from rfl,Ql]
  refine Qfo fun a=>?_
  rw [show Yk .i64 p (w64 (2 * 1)) = some (p.fdiv (2 ^ 2)) from rfl,Ql]
  refine Qfo fun b=>?_
  rw [show Yk .i64 p (w64 (2 * 2)) = some (p.fdiv (2 ^ 4)) from rfl,Ql]
  refine Qfo fun c=>?_
  obtain ⟨e0,n0,h0⟩:=cls a
  obtain ⟨e1,n1,h1⟩:=cls b
  obtain ⟨e2,n2,h2⟩:=cls c
  rw [Qji h0 h1 h2,Qvt h0 h1 h2,Ql,Ql,Qji h1 h2 h0]
  simp only [decide_true,Bool.not_true,Bool.or_self,cond_false,Ql]
  by_cases z : e0 = 0 ∧ e1 = 0 ∧ e2 = 0
  · obtain ⟨z0,z1,z2⟩:=z
    have ht : Zd e1 n1 e2 n2 e0 n0 k = Zd e0 n0 e1 n1 e2 n2 k:=by
      have hmin : QY n1 n2 n0 = QY n0 n1 n2:=by unfold QY; repeat' split <;> omega
      have hmax : Q8 n1 n2 n0 = Q8 n0 n1 n2:=by unfold Q8; repeat' split <;> omega
      have hmid : XQ n1 n2 n0 k = XQ n0 n1 n2 k:=by unfold XQ; rw [hmin,hmax]; omega
      unfold Zd Ji
      rw [hmin,hmax,hmid]
      simp [z0,z1,z2]
    rw [ht]
    simp only [beq_self_eq_true,decide_true,Bool.not_true,Bool.or_self,cond_false]
    congr 1
    have hm : Zd e0 n0 e1 n1 e2 n2 k = Ji n0 n1 n2 k:=by unfold Zd; simp [z0,z1,z2]
    rw [hm]
    by_cases hok : (Ji n0 n1 n2 k).2 = 0
    · have f0:=(h0.2.2.1 z0).2.2.2
      have f1:=(h1.2.2.1 z1).2.2.2
      have g0:=(h0.2.2.1 z0).2
      have g1:=(h1.2.2.1 z1).2
      have g2:=(h2.2.2.1 z2).2
      have hv : (Ji n0 n1 n2 k).1 = XQ n0 n1 n2 k:=by
        revert hok; unfold Ji
        split
        · intro h; cases h
        split
        · intro h; cases h
        · intro _; rfl
      rw [decide_eq_true hok,Bool.not_true,Bool.false_or,Qbf f0 f1,hv]
      by_cases he : n0 = n1
      · have hn : XQ n0 n1 n2 k = n0:=by subst he; unfold XQ QY Q8; repeat' split <;> omega
        rw [hn,Qfy (Qkr (by omega)) f0,decide_eq_true (show n0 * 2 ^ 149 = n0 * 2 ^ 149 from rfl),Bool.or_true]
      · rw [decide_eq_false (fun h=>he (by omega))]; rfl
    · rw [decide_eq_false hok]; rfl
  · have hz : ∀ {e0 n0 e1 n1 e2 n2 : Int}, ¬ (e0 = 0 ∧ e1 = 0 ∧ e2 = 0) → (Zd e0 n0 e1 n1 e2 n2 k).1 = 0 ∧ (Zd e0 n0 e1 n1 e2 n2 k).2 ≠ 0 := by
      intro e0 n0 e1 n1 e2 n2 h
      unfold Zd
      split
      · exact ⟨rfl,by assumption⟩
      split
      · exact ⟨rfl,by assumption⟩
      split
      · exact ⟨rfl,by assumption⟩
      · omega
    obtain ⟨x1,x2⟩:=hz (n0:=n0) (n1:=n1) (n2:=n2) z
    obtain ⟨y1,y2⟩:=hz (e0:=e1) (n0:=n1) (e1:=e2) (n1:=n2) (e2:=e0) (n2:=n0) (by omega)
    rw [x1,y1,decide_eq_false x2,decide_eq_false y2]
    rfl
end Go.Gw
