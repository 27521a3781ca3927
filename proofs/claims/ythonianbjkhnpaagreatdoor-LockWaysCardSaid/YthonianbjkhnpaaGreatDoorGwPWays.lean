/- The law LockWays in plain words. No condition. -/
import Derived.Test.YthonianbjkhnpaaGreatDoorGwLawLockWays
import Derived.Test.YthonianbjkhnpaaGreatDoorGwLck28
set_option linter.unusedVariables false
set_option linter.unusedSimpArgs false
set_option linter.unusedSectionVars false
set_option maxRecDepth 4096
open Go.Gw.Runs renaming call→Ea,some→Eb,callR→Ec,bif_t→Ed,bif_f→Ee
namespace Go.Gw
open Go
attribute [local irreducible] loop
theorem QEa {p:Ng} (hS:PlantS p) (hp:PlantOk p) {e:Int} {L:List Nj} (hL:L.length < 1000000):∀ (l:List Nj) (k:Nat) {x y:Nd},L.drop k=l->StateOk p x->Run p x l y ->
  loop (Qjc p (L,e)) ((k:Int),x.Nb,x.Na,x.Nh)=some (.inr (y.Nb,y.Na,y.Nh))
 | [],k,x,y,hk,hx,h=>by
  cases h;have hk2:L.length<=k:=by rwa [List.drop_eq_nil_iff] at hk
  refine ZE ?_;unfold Qjc;dsimp only;rw [decide_eq_false (by omega)];rfl
 | a::l,k,x,y,hk,hx,h=>by
  have hlt:k < L.length:=by
   rcases Nat.lt_or_ge k L.length with h1 | h1
   ·exact h1
   ·rw [List.drop_eq_nil_of_le h1] at hk;cases hk
  rw [List.drop_eq_getElem_cons hlt] at hk;obtain ⟨h1,h2⟩:=List.cons.inj hk;obtain ⟨e1,e2⟩:=QUd h.1;have hs:Qjc p (L,e) ((k:Int),x.Nb,x.Na,x.Nh)=some (.inl (((k+1:Nat):Int),(X1 p x a).Nb,(X1 p x a).Na,(X1 p x a).Nh)):=by
   unfold Qjc;dsimp only;rw [Xw hlt,cond_true,Xj hlt,Qp,h1,QFh,QUl hS hp hx,Qp,QKj e1,if_pos e2,Xf k (by omega)];rfl
  rw [JC hs];exact QEa hS hp hL l (k+1) h2 (Qpt hp hx e1 e2) h.2
theorem QHe (p:Ng) (x:Nd) (to:Nq):Qsu p x to=some true:=by
  unfold Qsu;rw [QIj,Qp,Bool.not_true,cond_false];refine QOa (fun b=>?_) ?_ fun hS hX _=>?_
  · cases b<;>rfl
  · rfl
  have htb:∃ b,Qmv p=some b:=by
    unfold Qmv;rcases Qzg p with ⟨hf,_,_⟩ | hf
    · rw [hf];exact ⟨_,rfl⟩
    · rw [hf];exact ⟨_,rfl⟩
  obtain ⟨b,hb⟩:=htb;refine Runs.eq ?_;refine Ea (b:=b) (by simpa using hb) ?_;refine Ec (R:=fun e=>b=true\/e=ZG p x) ?_ ?_
  · cases b with
    | true=>exact Eb (.inl rfl)
    | false=>exact Runs.of_eq (Qro hS hX) (.inr rfl)
  intro e he;refine Runs.bif (fun _=>Eb rfl) (fun _=>Ea (QJj hS) (Ea (Qmb hX) ?_));by_cases h0:ZG p x=0/\Zl p to.e0=true/\Ya p to.e1=true
  · obtain ⟨h0,h1,h2⟩:=h0;obtain ⟨hp,hx,_⟩:=QDa h0;obtain ⟨l,e2,g1,g2⟩:=QNn hS hX h0 h1 h2;refine Ea g1 (Ea (Qro hS hX) ?_);refine Ec (R:=fun d=>d=0) (Ed (decide_eq_true h0) (Ea (Quv hS _) (Eb (by rw [h1];rfl)))) ?_;rintro _ rfl;refine Ec (R:=fun d=>d=0) (Ed rfl (Ea (Qoj hS _) (Eb (by rw [h2];rfl)))) ?_;rintro _ rfl;refine Ee rfl (Ea (QUw hS hp hx h1) ?_);rcases g2 with ⟨g2,rfl,rfl⟩ | ⟨g2,rfl,rfl⟩ | ⟨g2,rfl,y,g3,g4,g5⟩
    · rw [g2];exact Ee rfl (Ed rfl (Eb rfl))
    · rw [g2];exact Ed rfl (Eb rfl)
    · rw [g2];have hll:l.length < 1000000:=by have:=QGs Qaz [x] [YB x] 0 g2;unfold Qaz at this;omega
      refine Ee rfl (Ee (decide_eq_false (by show ¬ ((l.length:Int) < 0);omega)) (Ee (by simp) (Ea (Qmb hX) (Ea (QEa hS hp hll l 0 (List.drop_zero ..) hx g3) ?_))));refine Ea (b:=true) ?_ (Eb rfl);rw [QFh,QDl hp g4 h1,g5]
  · have hfr : ∀ a b c : Int, a ≠ 0 \/ b ≠ 0 \/ c ≠ 0 -> ZD [a, b, c] ≠ 0 := fun a b c h => by
      rw [Qct];split
      · assumption
      · split
        · assumption
        · rcases h with h | h | h
          · contradiction
          · contradiction
          · exact h
    have hne:ZD [ZG p x,bif Zl p to.e0 then 0 else 6,bif Ya p to.e1 then 0 else 6]≠0:=by
      refine hfr _ _ _ ?_;by_cases q0:ZG p x=0
      · by_cases q1:Zl p to.e0=true
        · have q2 : Ya p to.e1 = false := by
            cases q:Ya p to.e1 with
            | true=>exact absurd ⟨q0,q1,q⟩ h0
            | false=>rfl
          rw [q2];exact .inr (.inr (by decide))
        · have q1:Zl p to.e0=false:=by simpa using q1
          rw [q1];exact .inr (.inl (by decide))
      · exact .inl q0
    refine Ea (QNm hS hX rfl hne) (Ea (Qro hS hX) ?_);refine Ec (R:=fun d=>d=if ZG p x=0 then (bif Zl p to.e0 then 0 else 6) else ZG p x) (Runs.bif (fun q=>Ea (Quv hS _) (Eb (by rw [if_pos (of_decide_eq_true q)]))) (fun q=>Eb (by rw [if_neg (of_decide_eq_false q)]))) ?_;rintro _ rfl;refine Ec (R:=fun d=>d=ZD [ZG p x,bif Zl p to.e0 then 0 else 6,bif Ya p to.e1 then 0 else 6]) (Runs.bif (fun q=>Ea (Qoj hS _) (Eb ?_)) (fun q=>Eb ?_)) ?_
    · have q:=of_decide_eq_true q;rw [Qct];by_cases q0:ZG p x=0
      · rw [if_pos q0] at q;rw [if_neg (by simpa using q0),if_neg (by simpa using q)]
      · rw [if_neg q0] at q;exact absurd q q0
    · have q:=of_decide_eq_false q;rw [Qct];by_cases q0:ZG p x=0
      · rw [if_pos q0] at q ⊢;rw [if_neg (by simpa using q0),if_pos q]
      · rw [if_neg q0,if_pos q0]
    rintro _ rfl;refine Ed (by rw [decide_eq_false hne];rfl) (Eb (by simp))
end Go.Gw
