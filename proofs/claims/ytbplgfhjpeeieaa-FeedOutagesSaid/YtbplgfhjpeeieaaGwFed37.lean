/- Feed: the net without some substations, both ways. Condition: a right net. -/
import Derived.Test.YtbplgfhjpeeieaaGwAwake
import Derived.Test.YtbplgfhjpeeieaaGwLawFeedOutages
set_option linter.unusedVariables false
set_option linter.unusedSimpArgs false
set_option linter.unusedSectionVars false
set_option maxRecDepth 4096
namespace Go.Gw
open Go
theorem QDz (l : List Int) (v : Int) (hl : l.length < 1000000) : Qhc l v = some (l.any fun x=>decide (v = x)):=by
  unfold Qhc Qqz
  have key:=Z4 (step:=Qli l v) l (fun x=>decide (v = x)) (fun k _=>(k : Int)) (fun k hk=>by
    unfold Qli
    rw [XK hk,Xy hk,XN k (by omega)]; rfl) (by
    unfold Qli
    rw [XL]; rfl)
  rw [key]
  have : ∀ k (xs : List Int),(jn0 (X2 (fun x=>decide (v = x)) (fun k _=>(k : Int)) k xs) fun (_ : Unit)=>some (-1 : Int)).bind (fun r=>some (decide (0 ≤ r))) = some (xs.any fun x=>decide (v = x)):=by
    intro k xs
    induction xs generalizing k with
    | nil=>rfl
    | cons x xs ih =>
      unfold X2
      by_cases h : v = x
      · simp [h,jn0]
      · simp only [h,decide_false,Bool.false_eq_true,if_false,List.any_cons,Bool.false_or]; exact ih (k + 1)
  exact this 0 l
theorem QKi (l : List Int) (v : Int) (hl : l.length < 1000000) : Qev l v = some (l.any fun x=>decide (v = x)):=by
  unfold Qev
  have key:=Z4 (step:=Qia l v) l (fun x=>decide (v = x)) (fun _ _=>true) (fun k hk=>by
    unfold Qia
    rw [XK hk,cond_true,Xy hk,XN k (by omega),Qv,show decide (l[k] = v) = decide (v = l[k]) from decide_eq_decide.2 eq_comm]) (by
    unfold Qia
    rw [XL]; rfl)
  rw [key]
  have : ∀ k (xs : List Int),(jn0 (X2 (fun x=>decide (v = x)) (fun _ _=>true) k xs) fun (_ : Unit)=>some false) = some (xs.any fun x=>decide (v = x)):=by
    intro k xs
    induction xs generalizing k with
    | nil=>rfl
    | cons x xs ih =>
      unfold X2
      by_cases h : v = x
      · simp [h,jn0]
      · simp only [h,decide_false,Bool.false_eq_true,if_false,List.any_cons,Bool.false_or]; exact ih (k + 1)
  exact this 0 l
def JH (o : List Int) (v : Int) : Bool:=o.any fun x=>decide (v = x)
def YB (o : List Int) (s : FeedSection) : FeedSection :=
  bif JH o s.Right then FeedSection.mk (bif JH o s.Left then -1 else s.Left) (-1) 1000 s.Loss else FeedSection.mk (bif JH o s.Left then -1 else s.Left) s.Right (bif JH o s.Left then 0 else s.Share) s.Loss
def Qci (s : FeedSection) : Bool:=decide (s.Left = s.Right)
def Zy (n : FeedNet) (o : List Int) : FeedNet:=FeedNet.mk n.Stations (n.Sections.map (YB o)) n.Trains
theorem QQs : ∀ l r il ir eq sh lo s0 s1 : Bool,Qql l r il ir eq sh lo s0 s1 = 0 ↔ ((l || il) && (r || ir) && !(l && r) && !eq && sh && lo && (!l || s0) && (!r || s1)) = true:=by decide
theorem QQt {s : FeedSection} {n : Nat} : Zq s n = 0 ↔ (s.Left = -1 ∨ (0 ≤ s.Left ∧ s.Left ≤ (n : Int) - 1)) ∧ (s.Right = -1 ∨ (0 ≤ s.Right ∧ s.Right ≤ (n : Int) - 1)) ∧ ¬ (s.Left = -1 ∧ s.Right = -1) ∧ s.Left ≠ s.Right ∧ (0 ≤ s.Share ∧ s.Share ≤ 1000) ∧ (0 ≤ s.Loss ∧ s.Loss ≤ 500) ∧ (s.Left = -1 → s.Share = 0) ∧ (s.Right = -1 → s.Share = 1000):=by
  unfold Zq
  rw [QQs]
  simp only [Bool.and_eq_true,Bool.or_eq_true,Bool.not_eq_true',decide_eq_true_eq,decide_eq_false_iff_not,Bool.and_eq_false_imp,Bool.not_and,and_assoc]
  constructor
  · rintro ⟨a,b,c,d,e,f,g,h⟩; simp only [← and_assoc] at *; omega
  · rintro ⟨a,b,c,d,e,f,g,h⟩; simp only [← and_assoc] at *; omega
theorem Qzv {s : FeedSection} {n : Nat} (o : List Int) (h : Zq s n = 0) : (Qci (YB o s) = (decide ((YB o s).Left = -1) && decide ((YB o s).Right = -1))) ∧ (Qci (YB o s) = false → Zq (YB o s) n = 0):=by
  rw [QQt] at h ⊢
  obtain ⟨a,b,c,d,e,f,g,k⟩:=h
  unfold Qci YB
  cases JH o s.Left <;> cases JH o s.Right <;> simp only [cond_true,cond_false,decide_eq_false_iff_not]
  · refine ⟨?_,fun _=>⟨a,b,c,d,e,f,g,k⟩⟩
    rw [decide_eq_false d,Qhn,decide_eq_false c]
  · rw [Qhn]
    exact ⟨decide_eq_decide.2 (by simp),fun hne=>⟨a,.inl (by simp),fun q=>hne q.1,hne,by simp,f,fun q=>absurd q hne,fun _=>by simp⟩⟩
  · rw [Qhn]
    exact ⟨decide_eq_decide.2 (by simp [eq_comm]),fun hne=>⟨.inl (by simp),b,fun q=>hne q.2.symm,hne,by simp,f,fun _=>by simp,fun q=>absurd q.symm hne⟩⟩
  · simp
theorem Qil {α : Type} (l : List α) (h : l.length < 1000000) : app ([] : List α) l = some l:=by rw [JZ (by simp; omega)]; rfl
theorem QTu {n : FeedNet} (h : NetS n) : loop (Qfs n.Trains) (0,n.Trains) = some n.Trains:=by
  have key:=Zu (step:=Qfs n.Trains) (o:=n.Trains) (fun k=>((k : Int),n.Trains)) n.Trains.length (fun k hk=>by
    have hst:=h.tr
    have hsteps:=(h.tn _ (List.getElem_mem hk)).2
    unfold Qfs Qqq
    simp only [XK hk,cond_true,Xy hk,Qv]
    rw [Qil _ (by omega),Qv,Qv,XN k (by omega)]
    congr 3
    rw [Int.toNat_natCast]
    exact List.set_getElem_self hk) (by
    unfold Qfs
    simp only [XL,cond_false])
  exact key
theorem QQx {α : Type} (l : List α) (i : Nat) (a b : α) : (l.set i a).set i b = l.set i b:=List.set_set ..
theorem QEd {α : Type} (f : α → α) (l : List α) (i : Nat) (h : i < l.length) : ((l.take i).map f ++ l.drop i).set i (f l[i]) = (l.take (i + 1)).map f ++ l.drop (i + 1):=by
  have hlen : ((l.take i).map f).length = i:=by simp; omega
  rw [List.drop_eq_getElem_cons h,List.set_append_right _ _ (by omega),hlen,Nat.sub_self,List.set_cons_zero,List.take_add_one,List.getElem?_eq_getElem h,List.map_append]
  simp
theorem Qyt (o : Option FeedPeak) : (pkB o).2 = o.isSome:=by cases o <;> rfl
def YV (o : List Int) (l : List FeedSection) (k : Nat) : List FeedSection:=(l.take k).map (YB o) ++ l.drop k
theorem Qip (o : List Int) (l : List FeedSection) {k : Nat} (hk : k < l.length) : (YV o l k)[k]? = some l[k]:=by
  unfold YV
  rw [List.getElem?_append_right (by simp; omega)]
  simp [Nat.min_eq_left (Nat.le_of_lt hk)]
theorem Qsx (o : List Int) (l : List FeedSection) (k : Nat) : (YV o l k).length = l.length:=by unfold YV; simp; omega
theorem Qsy (o : List Int) (l : List FeedSection) {k : Nat} (hk : k < l.length) : (YV o l k).set k (YB o l[k]) = YV o l (k + 1):=QEd (YB o) l k hk
theorem QKl {α : Type} {l : List α} {k : Nat} (hk : k < l.length) (a : α) : idx (l.set k a) (k : Int) = some a:=by
  rw [Xy?,List.getElem?_set_self hk]
def JJ (o : List Int) (l : List FeedSection) (k : Nat) : Option Nat:=if Qci (YB o (l[k]?.getD default)) = true then some k else none
theorem QRb (o : List Int) (ho : o.length < 1000000) (st : List FeedStation) (tr : List FeedTrain) (l : List FeedSection) (hl : l.length < 1000000) (k : Nat) (hk : k < l.length) :
    Qdl o st l tr ((k : Int),YV o l k) = some (match JJ o l k with | some a=>.inr (.inl (feed_net.mk (FeedNet.mk st (YV o l (a + 1)) tr),false)) | none=>.inl (((k + 1 : Nat) : Int),YV o l (k + 1))):=by
  have hk2 : k < (YV o l k).length:=by rw [Qsx]; exact hk
  have hct:=Qsy o l hk
  unfold Qdl JJ
  simp only [XK hk,cond_true]
  rw [Xy?,Qip o l hk,List.getElem?_eq_getElem hk]
  simp only [Qv,QDz _ _ ho,Int.toNat_natCast,Option.getD_some]
  rw [XN k (by omega)]
  have hc : (YV o l k)[k]? = some l[k]:=Qip o l hk
  generalize YV o l k = c at hk2 hct hc
  have hci : idx c (k : Int) = some l[k]:=by rw [Xy?]; exact hc
  have hcs : c.set k l[k] = c:=by
    rw [List.getElem?_eq_getElem hk2] at hc
    rw [← Option.some.inj hc]
    exact List.set_getElem_self hk2
  have e1 : ∀ v,(o.any fun x=>decide (v = x)) = JH o v:=fun _=>rfl
  simp only [e1]
  unfold YB at hct
  unfold YB Qci
  generalize l[k] = s at hct hci hcs
  rcases Bool.eq_false_or_eq_true (JH o s.Left) with h1 | h1 <;> rcases Bool.eq_false_or_eq_true (JH o s.Right) with h2 | h2 <;> simp only [h1,h2,cond_true,cond_false,Qv,QKl hk2,QQx,hci,decide_eq_true_eq] at hct ⊢
  · simp [hct]
  · by_cases hq : s.Right = -1
    · simp [hq,← hct]
    · have hq2 : ¬ (-1 = s.Right):=fun e=>hq e.symm
      simp [hq2,hct]
  · by_cases hq : s.Left = -1 <;> simp [hq,← hct]
  · rw [hcs] at hct
    by_cases hq : s.Left = s.Right <;> simp [hq,← hct]
def ZT (o : List Int) (l : List FeedSection) : Option Nat:=(List.range l.length).findSome? (JJ o l)
theorem Qsw (o : List Int) (l : List FeedSection) : YV o l l.length = l.map (YB o):=by unfold YV; simp
theorem Qth {n : FeedNet} (h : NetS n) (o : List Int) (ho : o.length < 1000000) : Qft ⟨n⟩ o = some (match ZT o n.Sections with | some a=>(feed_net.mk (FeedNet.mk n.Stations (YV o n.Sections (a + 1)) n.Trains),false) | none=>(⟨Zy n o⟩,true)):=by
  have h1:=h.st
  have h2:=h.se
  have h3:=h.tr
  unfold Qft Qqp Qqo Qqr
  simp only []
  rw [Qil _ (by omega),Qil _ (by omega),Qil _ (by omega)]
  simp only [Qv]
  rw [QTu h,Qv]
  have key:=J7 (step:=Qdl o n.Stations n.Sections n.Trains) (fun k=>((k : Int),YV o n.Sections k)) n.Sections.length (JJ o n.Sections) (fun a=>(feed_net.mk (FeedNet.mk n.Stations (YV o n.Sections (a + 1)) n.Trains),false)) (n.Sections.map (YB o))
    (fun k hk=>by rw [QRb o ho n.Stations n.Trains n.Sections (by omega) k hk]; cases JJ o n.Sections k <;> rfl) (by
      unfold Qdl
      simp only [XL,cond_false,Qsw])
  have key : loop (Qdl o n.Stations n.Sections n.Trains) (0,n.Sections) = _:=key
  rw [key,Qv]
  unfold ZT
  cases (List.range n.Sections.length).findSome? (JJ o n.Sections) <;> rfl
theorem QQl (o : List Int) (ho : o.length < 1000000) (l : List FeedSection) (hl : l.length < 1000000) {m : Nat} (hs : ∀ s ∈ l, Zq s m = 0) (k : Nat) (hk : k < l.length) :
    Qed o ((k : Int),YV o l k) = some (match JJ o l k with | some _=>.inr (.inl (FeedNet.mk [] [] [],23)) | none=>.inl (((k + 1 : Nat) : Int),YV o l (k + 1))):=by
  have hk2 : k < (YV o l k).length:=by rw [Qsx]; exact hk
  have hct:=Qsy o l hk
  have hcut:=(Qzv o (hs _ (List.getElem_mem hk))).1
  unfold Qed JJ
  simp only [XK hk2,cond_true]
  rw [Xy?,Qip o l hk,List.getElem?_eq_getElem hk]
  simp only [Qv,QKi _ _ ho,Int.toNat_natCast,Option.getD_some]
  rw [XN k (by omega)]
  simp only [hcut]
  have hc : (YV o l k)[k]? = some l[k]:=Qip o l hk
  generalize YV o l k = c at hk2 hct hc
  have e1 : ∀ v,(o.any fun x=>decide (v = x)) = JH o v:=fun _=>rfl
  simp only [e1]
  unfold YB at hct
  unfold YB
  generalize l[k] = s at hct
  rcases Bool.eq_false_or_eq_true (JH o s.Left) with h1 | h1 <;> rcases Bool.eq_false_or_eq_true (JH o s.Right) with h2 | h2 <;> simp only [h1,h2,cond_true,cond_false,Qv,jn0] at hct ⊢
  · simp
  · by_cases hq : s.Right = -1 <;> simp [hq,← hct]
  · by_cases hq : s.Left = -1 <;> simp [hq,← hct]
  · by_cases hq : s.Left = -1 <;> by_cases hq2 : s.Right = -1 <;> simp [hq,hq2,← hct]
def J5 (o : List Int) (k : Nat) : Int:=if k = 0 then -1 else o[k - 1]?.getD 0
def Qea (n : FeedNet) (o : List Int) (k : Nat) : Option Int:=if Qbl n (o[k]?.getD 0) ≠ 0 then some 6 else if J5 o k < o[k]?.getD 0 then none else some 9
def Qbj (n : FeedNet) (o : List Int) : Option Int:=(List.range o.length).findSome? (Qea n o)
def Jl (n : FeedNet) (o : List Int) : FeedNet × Int:=match Qbj n o with | some e=>(FeedNet.mk [] [] [],e) | none=>match ZT o n.Sections with | some _=>(FeedNet.mk [] [] [],23) | none=>(Zy n o,0)
theorem QSu (n : FeedNet) (s : Int) : Qbl n s = 0 ∨ Qbl n s = 6:=by unfold Qbl; split <;> simp
theorem QFi {n : FeedNet} (h : NetS n) (o : List Int) (ho : o.length < 1000000) (y : Int) : loop (Qfl o (⟨n⟩,y)) (-1,0) = some (fsO (Qbj n o) (fun e=>(FeedNet.mk [] [] [],e)) ()):=by
  have key:=J7 (step:=Qfl o (⟨n⟩,y)) (fun k=>(J5 o k,(k : Int))) o.length (Qea n o) (fun e=>(FeedNet.mk [] [] [],e)) () (fun k hk=>by
    unfold Qfl Qea
    simp only [XK hk,cond_true,Xy hk,Qv]
    rw [show feed_net.mk (FeedNet.mk n.Stations n.Sections n.Trains) = feed_net.mk n from rfl,QFq h.st,Qv,JX,Qv,Qar _ (by simp),Qv,QKe,XN k (by omega),List.getElem?_eq_getElem hk,Option.getD_some]
    have hl : J5 o (k + 1) = o[k]:=by unfold J5; rw [if_neg (by omega),Nat.add_sub_cancel,List.getElem?_eq_getElem hk,Option.getD_some]
    rw [hl]
    rcases QSu n o[k] with h6 | h6
    · by_cases hlt : J5 o k < o[k] <;> simp [h6,hlt]
    · simp [h6]) (by
    unfold Qfl
    simp only [XL,cond_false])
  exact key
theorem QPe {n : FeedNet} (h : NetS n) (o : List Int) (ho : o.length < 1000000) : loop (Qgv n o) 0 = some (fsO (Qbj n o) (fun e=>(FeedNet.mk [] [] [],e)) ()):=by
  have key:=J7 (step:=Qgv n o) (fun k=>(k : Int)) o.length (Qea n o) (fun e=>(FeedNet.mk [] [] [],e)) () (fun k hk=>by
    unfold Qgv Qea Qee
    have hst:=h.st
    simp only [XK hk,cond_true,Xy hk,Qv]
    rw [Yi (x:=(n.Stations.length : Int) - 1) (by omega),Qbw,Qv,Qv,Qhn,XN k (by omega),List.getElem?_eq_getElem hk,Option.getD_some]
    unfold Qbl
    by_cases hin : 0 ≤ o[k] ∧ o[k] ≤ (n.Stations.length : Int) - 1
    · cases k with
      | zero =>
        have : J5 o 0 < o[0]:=by unfold J5; rw [if_pos rfl]; omega
        simp [hin,this]
      | succ j =>
        have hj : j < o.length:=by omega
        have hl : J5 o (j + 1) = o[j]:=by unfold J5; rw [if_neg (by omega),Nat.add_sub_cancel,List.getElem?_eq_getElem hj,Option.getD_some]
        rw [decide_eq_true hin,hl,if_pos hin,decide_eq_true (show (0 : Int) < ((j + 1 : Nat) : Int) by omega),Yi (by omega),show ((j + 1 : Nat) : Int) - 1 = (j : Int) by omega]
        simp only [cond_true,Bool.not_true,cond_false,Xy hj,Qv,Bool.true_and,ne_eq,not_true_eq_false,if_false]
        by_cases hlt : o[j] < o[j + 1]
        · rw [decide_eq_false (by omega),if_pos hlt]; rfl
        · rw [decide_eq_true (by omega),if_neg hlt]; rfl
    · simp [hin]) (by
    unfold Qgv
    simp only [XL,cond_false])
  exact key
theorem Qyx {n : FeedNet} (h : NetS n) (hs : ∀ s ∈ n.Sections,Zq s n.Stations.length = 0) (o : List Int) (ho : o.length < 1000000) : Qgw n o = some (Jl n o):=by
  unfold Qgw Jl
  rw [QPe h o ho,Qv]
  cases Qbj n o with
  | some e=>rfl
  | none =>
    simp only [fsO,jn0]
    have h2:=h.se
    rw [Qsv h,Qv]
    have key:=J7 (step:=Qed o) (fun k=>((k : Int),YV o n.Sections k)) n.Sections.length (JJ o n.Sections) (fun _=>(FeedNet.mk [] [] [],(23 : Int))) (n.Sections.map (YB o))
      (fun k hk=>by rw [QQl o ho n.Sections (by omega) hs k hk]; cases JJ o n.Sections k <;> rfl) (by
        unfold Qed
        rw [Qsw,show ((n.Sections.length : Nat) : Int) = ((n.Sections.map (YB o)).length : Int) by rw [List.length_map]]
        simp only [XL,cond_false])
    have key : loop (Qed o) (0,n.Sections) = _:=key
    rw [key,Qv]
    unfold ZT
    cases (List.range n.Sections.length).findSome? (JJ o n.Sections) <;> rfl
theorem QFj {n : FeedNet} (h : NetS n) (o : List Int) (ho : o.length < 1000000) : Qix n o = some (if (Zg n).2 ≠ 0 then (FeedNet.mk [] [] [],(Zg n).2) else Jl n o):=by
  unfold Qix Qca
  rw [Qtf h,Qv,Qv]
  by_cases h0 : (Zg n).2 = 0
  · simp only [h0,ne_eq,not_true_eq_false,if_false,decide_true,Bool.not_true,cond_false]
    rw [QFi h o ho,Qv]
    unfold Jl
    cases Qbj n o with
    | some e=>rfl
    | none =>
      simp only [fsO,jn0]
      rw [show feed_net.mk (FeedNet.mk n.Stations n.Sections n.Trains) = feed_net.mk n from rfl,Qth h o ho,Qv]
      cases ZT o n.Sections <;> rfl
  · simp [h0]
end Go.Gw
