/- Laws of the walk. Condition: each theorem says its own. -/
import Derived.Test.YtpgpimedmpeliaaGreatDoorGwTopA
import Derived.Test.YtpgpimedmpeliaaGreatDoorGwLib21
set_option linter.unusedVariables false
set_option linter.unusedSimpArgs false
set_option linter.unusedSectionVars false
section
set_option maxRecDepth 100000
namespace Go.Gw
open Go
theorem Qva:Qiy=some true:=by decide +kernel
end Go.Gw

end
section
set_option linter.unusedSectionVars false
namespace Go.Gw
section
variable {α β γ σ ρ:Type}
def JN (p:α→Bool) (res:Nat→α→ρ):Nat→List α→ρ⊕Unit
  | _,[]=>.inr ()
  | k,x::xs=>if p x then .inl (res k x) else JN p res (k+1) xs
theorem QBq {step : Int → Option (Int ⊕ (ρ ⊕ Unit))} (xs : List α) (p : α → Bool) (res : Nat → α → ρ)
    (hs:∀ k (hk:k < xs.length),step (k:Int)=(bif p xs[k] then some (.inr (.inl (res k xs[k]))) else some (.inl ((k+1:Nat):Int))))
    (he:step (xs.length:Int)=some (.inr (.inr ()))):loop step 0=some (JN p res 0 xs):=by
  have key:∀ j k,j+k=xs.length→loop step (k:Int)=some (JN p res k (xs.drop k)):=by
    intro j
    induction j with
    | zero =>
      intro k hk
      obtain rfl:k=xs.length:=by omega
      rw [List.drop_length]
      exact Qpc he
    | succ j ih =>
      intro k hk
      have hlt:k < xs.length:=by omega
      rw [List.drop_eq_getElem_cons hlt]
      have:=hs k hlt
      cases hp:p xs[k] with
      | true=>rw [hp] at this;simp only [JN,hp,if_true];exact Qpc this
      | false=>rw [hp] at this;simp only [JN,hp];rw [QBp this];exact ih (k+1) (by omega)
  have:=key xs.length 0 (by omega)
  simpa using this

theorem QKb (k:Nat) (h:k < 4611686018427387904):w64 ((k:Int)+1)=((k+1:Nat):Int):=by rw [YJ (by omega)];omega
theorem QBs {k n:Nat} (h:k < n):decide ((k:Int) < (n:Int))=true:=by simp;omega
theorem QBt (n:Nat):decide ((n:Int) < (n:Int))=false:=by simp
end
end Go.Gw

end
section
set_option maxRecDepth 4096
namespace Go.Gw
open Go
def Qab:List Int→Int
  | []=>0
  | x::xs=>if x=0 then Qab xs else x
theorem Qnb (l:List Int) (hl:l.length < 1073741824):YA l=some (Qab l):=by
  unfold YA
  rw [QBq l (fun x=>!decide (x=0)) (fun _ x=>x)]
  · have key : ∀ (l : List Int) k, (XD (JN (fun x => !decide (x = 0)) (fun _ x => x) k l) fun (_ : Unit) => some 0) = some (Qab l) := by
      intro l
      induction l with
      | nil=>intro k;rfl
      | cons x xs ih =>
        intro k
        by_cases h:x=0
        · simp [JN,Qab,h];exact ih _
        · simp [JN,Qab,h,XD]
    simpa using key l 0
  · intro k hk
    unfold Qjb
    rw [QBs hk,Qyz hk,QKb k (by omega)];rfl
  · unfold Qjb
    rw [QBt];rfl
theorem Qtd (b:Bool) (e:Int):XF b e=some (bif b then 0 else e):=by cases b<;>rfl
def YW (t:Arr5_Int):Int:=Int.tmod (w64 (w64 (w64 (w64 (0+w64 (1 * w64 (t.e0+1)))+w64 (2 * w64 (t.e1+1)))+w64 (3 * w64 (t.e2+1)))+w64 (4 * w64 (t.e3+1)))) 251
theorem Qmk (t:Arr5_Int):Qcy t=some (YW t):=by
  unfold Qcy
  rw [loop_iff.2 ⟨5,(by rfl:Xs (Qoi t) 5 (0,0)=some _)⟩]
  rfl
theorem Qsg (t:Arr5_Int):Qdf t=some (YW t):=by
  unfold Qdf
  rw [loop_iff.2 ⟨5,(by rfl:Xs (Qqp t) 5 (0,0)=some _)⟩]
  rfl
end Go.Gw

end
section
set_option maxRecDepth 4096
namespace Go.Gw
open Go
def Zf (n:Int):Bool:=decide (0≤n)&&decide (n≤6)
def QV (n:Int):Bool:=decide (0≤n)&&decide (n≤250)
def Jo (e:LockEvent) (c:Int):Arr5_Int×Int:=bif Zf e.Kind then (bif (QV e.A&&QV e.B)&&QV c then (Arr5_Int.mk e.Kind e.A e.B c (YW (Arr5_Int.mk e.Kind e.A e.B c 0)),0) else (Arr5_Int.mk 0 0 0 0 0,2)) else (Arr5_Int.mk 0 0 0 0 0,15)
theorem QJo (e:LockEvent) (c:Int):Qcx e c=some (Jo e c):=by
  have k1:Qbh e.Kind=some (Zf e.Kind):=rfl
  have a1:JE e.A=some (QV e.A):=rfl
  have b1:JE e.B=some (QV e.B):=rfl
  have c1:JE c=some (QV c):=rfl
  unfold Qcx Jo
  rw [k1,a1,b1,c1]
  cases Zf e.Kind<;>cases QV e.A<;>cases QV e.B<;>cases QV c<;>simp [Qtd,Qnb,Qab,Qmk]
theorem QFs (e:LockEvent) (c:Int):Qgf e c=some (Jo e c):=by
  have k1:Qet e.Kind 0 6=some (Zf e.Kind):=rfl
  have a1:JJ e.A=some (QV e.A):=rfl
  have b1:JJ e.B=some (QV e.B):=rfl
  have c1:JJ c=some (QV c):=rfl
  unfold Qgf Jo
  rw [k1,a1,b1,c1]
  cases Zf e.Kind<;>cases QV e.A<;>cases QV e.B<;>cases QV c<;>simp [Qsg]
def Xh (t:Arr5_Int):Int:=bif QV t.e0&&(QV t.e1&&(QV t.e2&&(QV t.e3&&QV t.e4))) then (bif decide (t.e4=YW t) then (bif Zf t.e0 then 0 else 15) else 21) else 2
theorem Qvk (t:Arr5_Int):Qgp [t.e0,t.e1,t.e2,t.e3,t.e4]=some (!(QV t.e0&&(QV t.e1&&(QV t.e2&&(QV t.e3&&QV t.e4))))):=by
  have h:∀ n,Qji n=some (!QV n):=fun n=>rfl
  have key:loop (JM [t.e0,t.e1,t.e2,t.e3,t.e4]) 0=some (bif QV t.e0 then bif QV t.e1 then bif QV t.e2 then bif QV t.e3 then bif QV t.e4 then .inr () else .inl 4 else .inl 3 else .inl 2 else .inl 1 else .inl 0):=by
    refine loop_iff.2 ⟨6,?_⟩
    have s0:JM [t.e0,t.e1,t.e2,t.e3,t.e4] 0=bif !QV t.e0 then some (.inr (.inl 0)) else some (.inl 1):=rfl
    have s1:JM [t.e0,t.e1,t.e2,t.e3,t.e4] 1=bif !QV t.e1 then some (.inr (.inl 1)) else some (.inl 2):=rfl
    have s2:JM [t.e0,t.e1,t.e2,t.e3,t.e4] 2=bif !QV t.e2 then some (.inr (.inl 2)) else some (.inl 3):=rfl
    have s3:JM [t.e0,t.e1,t.e2,t.e3,t.e4] 3=bif !QV t.e3 then some (.inr (.inl 3)) else some (.inl 4):=rfl
    have s4:JM [t.e0,t.e1,t.e2,t.e3,t.e4] 4=bif !QV t.e4 then some (.inr (.inl 4)) else some (.inl 5):=rfl
    have s5:JM [t.e0,t.e1,t.e2,t.e3,t.e4] 5=some (.inr (.inr ())):=rfl
    cases h0:QV t.e0<;>cases h1:QV t.e1<;>cases h2:QV t.e2<;>cases h3:QV t.e3<;>cases h4:QV t.e4<;>simp [Xs,s0,s1,s2,s3,s4,s5,h0,h1,h2,h3,h4]
  unfold Qgp Qkq
  rw [key]
  cases QV t.e0<;>cases QV t.e1<;>cases QV t.e2<;>cases QV t.e3<;>cases QV t.e4<;>rfl
theorem Qsy (t:Arr5_Int):Qbj t=some (Xh t):=by
  have k1:Qbh t.e0=some (Zf t.e0):=rfl
  unfold Qbj Xh
  rw [Qvk,Qmk,k1]
  by_cases hc:t.e4=YW t
  all_goals cases (QV t.e0&&(QV t.e1&&(QV t.e2&&(QV t.e3&&QV t.e4))))<;>cases Zf t.e0<;>simp [Qtd,Qnb,Qab,hc]
def Jb (t:Arr5_Int):LockEvent×Int×Int:=if Xh t=0 then (LockEvent.mk t.e0 t.e1 t.e2,t.e3,0) else (LockEvent.mk 0 0 0,0,Xh t)
theorem Qin (t:Arr5_Int):Qcw t=some (Jb t):=by
  unfold Qcw Jb
  rw [Qsy,Option.bind_some]
  by_cases h:Xh t=0
  · simp [h]
  · simp [h]
theorem Qql (t:Arr5_Int):Qbp t=some (Jb t):=by
  have key:loop (JI t) 0=some (bif (QV t.e0&&(QV t.e1&&(QV t.e2&&(QV t.e3&&QV t.e4)))) then .inr () else .inl (LockEvent.mk 0 0 0,0,2)):=by
    refine loop_iff.2 ⟨6,?_⟩
    have s0:JI t 0=bif !QV t.e0 then some (.inr (.inl (LockEvent.mk 0 0 0,0,2))) else some (.inl 1):=rfl
    have s1:JI t 1=bif !QV t.e1 then some (.inr (.inl (LockEvent.mk 0 0 0,0,2))) else some (.inl 2):=rfl
    have s2:JI t 2=bif !QV t.e2 then some (.inr (.inl (LockEvent.mk 0 0 0,0,2))) else some (.inl 3):=rfl
    have s3:JI t 3=bif !QV t.e3 then some (.inr (.inl (LockEvent.mk 0 0 0,0,2))) else some (.inl 4):=rfl
    have s4:JI t 4=bif !QV t.e4 then some (.inr (.inl (LockEvent.mk 0 0 0,0,2))) else some (.inl 5):=rfl
    have s5:JI t 5=some (.inr (.inr ())):=rfl
    cases h0:QV t.e0<;>cases h1:QV t.e1<;>cases h2:QV t.e2<;>cases h3:QV t.e3<;>cases h4:QV t.e4<;>simp [Xs,s0,s1,s2,s3,s4,s5,h0,h1,h2,h3,h4]
  unfold Qbp
  rw [key,Qsg]
  have hk:QV t.e0=true→(decide (7≤t.e0)=!Zf t.e0):=fun h=>by
    unfold QV at h;unfold Zf
    simp at h
    by_cases h7:7≤t.e0
    · simp [h7];omega
    · simp [h7];omega
  unfold Jb Xh
  generalize (QV t.e1&&(QV t.e2&&(QV t.e3&&QV t.e4)))=rb
  by_cases hc:t.e4=YW t
  all_goals cases rb
  all_goals cases h0:QV t.e0
  all_goals cases hkk:Zf t.e0
  all_goals first
    | (simp [hc,XD];done)
    | (have h7:=hk h0;rw [hkk] at h7;simp at h7;simp [hc,XD,h7];done)
    | (have h7 := hk h0; rw [hkk] at h7; simp at h7; have h8 : ¬ (7 ≤ t.e0) := by omega
       simp [hc,XD,h8];done)
end Go.Gw

end
section
set_option maxRecDepth 4096
namespace Go.Gw
open Go
attribute [local irreducible] loop
def Qef (a b c:Arr5_Int):Option Arr5_Int:=if Xh a=0∧(a=b∨a=c) then some a else if Xh b=0∧(b=a∨b=c) then some b else if Xh c=0∧(c=a∨c=b) then some c else none
theorem Qwz (t:Arr5_Int):(Jb t).2.2=Xh t:=by
  unfold Jb
  by_cases h:Xh t=0<;>simp [h]
theorem Qyt:Qkp 2=some []:=by rfl
theorem Qvq (x y:List Arr5_Int) (b c:Arr5_Int) (h:x++y=[b,c]):Qdr [x,y]=some [b,c]:=by
  have hs:Xs (Qrn [x,y]) 3 (0,0)=some 2:=by
    match x,y,h with
    | [],[b',c'],h=>rfl
    | [b'],[c'],h=>rfl
    | [b',c'],[],h=>rfl
  have h2:Xs (Qro [x,y]) 3 ([],0)=some [b,c]:=by
    match x,y,h with
    | [],[b',c'],h=>cases h;rfl
    | [b'],[c'],h=>cases h;rfl
    | [b',c'],[],h=>cases h;rfl
  unfold Qdr
  rw [loop_iff.2 ⟨3,hs⟩,Option.bind_some,Qyt,Option.bind_some,loop_iff.2 ⟨3,h2⟩]
  rfl
theorem Qvs (b c v:Arr5_Int):Qds [b,c] v=some (decide (v=b)||decide (v=c)):=by
  have h:loop (Qdu [b,c] v) 0=some (bif decide (v=b) then .inl 0 else bif decide (v=c) then .inl 1 else .inr ()):=by
    refine loop_iff.2 ⟨3,?_⟩
    have s0:Qdu [b,c] v 0=bif decide (v=b) then some (.inr (.inl 0)) else some (.inl 1):=rfl
    have s1:Qdu [b,c] v 1=bif decide (v=c) then some (.inr (.inl 1)) else some (.inl 2):=rfl
    have s2:Qdu [b,c] v 2=some (.inr (.inr ())):=rfl
    generalize decide (v=b)=d1 at s0 ⊢
    generalize decide (v=c)=d2 at s1 ⊢
    cases d1<;>cases d2<;>simp [Xs,s0,s1,s2]
  unfold Qds Qkr
  rw [h]
  cases decide (v=b)<;>cases decide (v=c)<;>rfl
noncomputable def vb (el:Arr5_Int) (l:List (List Arr5_Int)) (i:Int):Option (Int⊕((Arr5_Int×Int)⊕Unit)):=Option.bind (Qdr l) fun r709=>Option.bind (Qbj el) fun r720=>Option.bind (bif (decide (r720=0)) then Qds r709 el else some default) fun r728=>bif ((decide (r720=0))&&r728) then some (.inr (.inl (el,0))) else some (.inl (w64 (i+1)))
theorem Qlf {x y:List Arr5_Int} {b c el:Arr5_Int} {i:Int} (h:x++y=[b,c]):vb el [x,y] i=bif decide (Xh el=0)&&(decide (el=b)||decide (el=c)) then some (.inr (.inl (el,0))) else some (.inl (w64 (i+1))):=by
  unfold vb
  rw [Qvq x y b c h,Option.bind_some,Qsy,Option.bind_some,Qvs]
  cases decide (Xh el=0)<;>rfl
def Qlg (t:Arr3_Arr5Int):Arr5_Int×Int:=match Qef t.e0 t.e1 t.e2 with
  | some x=>(x,0)
  | none=>(Arr5_Int.mk 0 0 0 0 0,12)
theorem QJz (t:Arr3_Arr5Int):Qfn t=some (Qlg t):=by
  have s0:Qbg t 0=vb t.e0 [[],[t.e1,t.e2]] 0:=rfl
  have s1:Qbg t 1=vb t.e1 [[t.e0],[t.e2]] 1:=rfl
  have s2:Qbg t 2=vb t.e2 [[t.e0,t.e1],[]] 2:=rfl
  have s3:Qbg t 3=some (.inr (.inr ())):=rfl
  rw [Qlf (b:=t.e1) (c:=t.e2) rfl] at s0
  rw [Qlf (b:=t.e0) (c:=t.e2) rfl] at s1
  rw [Qlf (b:=t.e0) (c:=t.e1) rfl] at s2
  unfold Qfn Qlg Qef
  have key:loop (Qbg t) 0=some (bif decide (Xh t.e0=0)&&(decide (t.e0=t.e1)||decide (t.e0=t.e2)) then .inl (t.e0,0) else bif decide (Xh t.e1=0)&&(decide (t.e1=t.e0)||decide (t.e1=t.e2)) then .inl (t.e1,0) else bif decide (Xh t.e2=0)&&(decide (t.e2=t.e0)||decide (t.e2=t.e1)) then .inl (t.e2,0) else .inr ()):=by
    refine loop_iff.2 ⟨4,?_⟩
    generalize (decide (Xh t.e0=0)&&(decide (t.e0=t.e1)||decide (t.e0=t.e2)))=d0 at s0 ⊢
    generalize (decide (Xh t.e1=0)&&(decide (t.e1=t.e0)||decide (t.e1=t.e2)))=d1 at s1 ⊢
    generalize (decide (Xh t.e2=0)&&(decide (t.e2=t.e0)||decide (t.e2=t.e1)))=d2 at s2 ⊢
    have w1:w64 (0+1)=1:=rfl
    have w2:w64 (1+1)=2:=rfl
    have w3:w64 (2+1)=3:=rfl
    rw [w1] at s0;rw [w2] at s1;rw [w3] at s2
    cases d0<;>cases d1<;>cases d2<;>simp [Xs,s0,s1,s2,s3]
  rw [key]
  have e0:(decide (Xh t.e0=0)&&(decide (t.e0=t.e1)||decide (t.e0=t.e2)))=decide (Xh t.e0=0∧(t.e0=t.e1∨t.e0=t.e2)):=by simp
  have e1:(decide (Xh t.e1=0)&&(decide (t.e1=t.e0)||decide (t.e1=t.e2)))=decide (Xh t.e1=0∧(t.e1=t.e0∨t.e1=t.e2)):=by simp
  have e2:(decide (Xh t.e2=0)&&(decide (t.e2=t.e0)||decide (t.e2=t.e1)))=decide (Xh t.e2=0∧(t.e2=t.e0∨t.e2=t.e1)):=by simp
  rw [e0,e1,e2]
  by_cases h0:Xh t.e0=0∧(t.e0=t.e1∨t.e0=t.e2)
  · rw [decide_eq_true h0,if_pos h0];rfl
  rw [decide_eq_false h0,if_neg h0]
  by_cases h1:Xh t.e1=0∧(t.e1=t.e0∨t.e1=t.e2)
  · rw [decide_eq_true h1,if_pos h1];rfl
  rw [decide_eq_false h1,if_neg h1]
  by_cases h2:Xh t.e2=0∧(t.e2=t.e0∨t.e2=t.e1)
  · rw [decide_eq_true h2,if_pos h2];rfl
  rw [decide_eq_false h2,if_neg h2];rfl
end Go.Gw

end
section
set_option maxRecDepth 4096
namespace Go.Gw
open Go
attribute [local irreducible] loop
def Qkn (t:Arr3_Arr5Int):Arr5_Int×Bool:=match Qef t.e0 t.e1 t.e2 with
  | some x=>(x,true)
  | none=>(Arr5_Int.mk 0 0 0 0 0,false)
theorem Qis {f : Int → Option (Int ⊕ ((Int ⊕ ((Arr5_Int × Bool) ⊕ Unit)) ⊕ Unit))} {x : Arr5_Int} {d0 d1 d2 : Bool} (s0 : f 0 = bif d0 then some (.inr (.inl (.inr (.inl (x, true))))) else some (.inl 1)) (s1 : f 1 = bif d1 then some (.inr (.inl (.inr (.inl (x, true))))) else some (.inl 2))
    (s2:f 2=bif d2 then some (.inr (.inl (.inr (.inl (x,true))))) else some (.inl 3)) (s3:f 3=some (.inr (.inr ()))):loop f 0=some (bif d0||(d1||d2) then .inl (.inr (.inl (x,true))) else .inr ()):=by
  refine loop_iff.2 ⟨4,?_⟩
  cases d0<;>cases d1<;>cases d2<;>simp [Xs,s0,s1,s2,s3]
theorem QGr (t:Arr3_Arr5Int):Qgg t=some (Qkn t):=by
  have i0:=Qis (f:=Qbq t 0) (x:=t.e0) (d0:=false) (d1:=decide (t.e1=t.e0)) (d2:=decide (t.e2=t.e0)) rfl rfl rfl rfl
  have i1:=Qis (f:=Qbq t 1) (x:=t.e1) (d0:=decide (t.e0=t.e1)) (d1:=false) (d2:=decide (t.e2=t.e1)) rfl rfl rfl rfl
  have i2:=Qis (f:=Qbq t 2) (x:=t.e2) (d0:=decide (t.e0=t.e2)) (d1:=decide (t.e1=t.e2)) (d2:=false) rfl rfl rfl rfl
  have step : ∀ (i : Int) (x : Arr5_Int) (d : Bool) (j : Int), Qde t i = (Option.bind (Qbp x) fun r1131 => (bif (!decide (r1131.2.2 = 0)) then some (.inl j) else (Option.bind (loop (Qbq t i) 0) fun o1395 => XD o1395 fun (_ : Unit) => some (.inl j)))) →
      loop (Qbq t i) 0=some (bif d then .inl (.inr (.inl (x,true))) else .inr ())→Qde t i=bif decide (Xh x=0)&&d then some (.inr (.inl (x,true))) else some (.inl j):=fun i x d j h1 h2=>by
    rw [h1,h2,Qql,Option.bind_some,Qwz]
    cases decide (Xh x=0)<;>cases d<;>rfl
  have s0:=step 0 t.e0 _ 1 rfl i0
  have s1:=step 1 t.e1 _ 2 rfl i1
  have s2:=step 2 t.e2 _ 3 rfl i2
  have s3:Qde t 3=some (.inr (.inr ())):=rfl
  have e0:(decide (Xh t.e0=0)&&(false||(decide (t.e1=t.e0)||decide (t.e2=t.e0))))=decide (Xh t.e0=0∧(t.e0=t.e1∨t.e0=t.e2)):=by simp [eq_comm]
  have e1:(decide (Xh t.e1=0)&&(decide (t.e0=t.e1)||(false||decide (t.e2=t.e1))))=decide (Xh t.e1=0∧(t.e1=t.e0∨t.e1=t.e2)):=by simp [eq_comm]
  have e2:(decide (Xh t.e2=0)&&(decide (t.e0=t.e2)||(decide (t.e1=t.e2)||false)))=decide (Xh t.e2=0∧(t.e2=t.e0∨t.e2=t.e1)):=by simp [eq_comm]
  rw [e0] at s0;rw [e1] at s1;rw [e2] at s2
  unfold Qgg Qkn Qef
  have key:loop (Qde t) 0=some (bif decide (Xh t.e0=0∧(t.e0=t.e1∨t.e0=t.e2)) then .inl (t.e0,true) else bif decide (Xh t.e1=0∧(t.e1=t.e0∨t.e1=t.e2)) then .inl (t.e1,true) else bif decide (Xh t.e2=0∧(t.e2=t.e0∨t.e2=t.e1)) then .inl (t.e2,true) else .inr ()):=by
    refine loop_iff.2 ⟨4,?_⟩
    generalize decide (Xh t.e0=0∧(t.e0=t.e1∨t.e0=t.e2))=d0 at s0 ⊢
    generalize decide (Xh t.e1=0∧(t.e1=t.e0∨t.e1=t.e2))=d1 at s1 ⊢
    generalize decide (Xh t.e2=0∧(t.e2=t.e0∨t.e2=t.e1))=d2 at s2 ⊢
    cases d0<;>cases d1<;>cases d2<;>simp [Xs,s0,s1,s2,s3]
  rw [key]
  by_cases h0:Xh t.e0=0∧(t.e0=t.e1∨t.e0=t.e2)
  · rw [decide_eq_true h0,if_pos h0];rfl
  rw [decide_eq_false h0,if_neg h0]
  by_cases h1:Xh t.e1=0∧(t.e1=t.e0∨t.e1=t.e2)
  · rw [decide_eq_true h1,if_pos h1];rfl
  rw [decide_eq_false h1,if_neg h1]
  by_cases h2:Xh t.e2=0∧(t.e2=t.e0∨t.e2=t.e1)
  · rw [decide_eq_true h2,if_pos h2];rfl
  rw [decide_eq_false h2,if_neg h2];rfl
end Go.Gw

end
