/- The law LockTelegrams in plain words. No condition. -/
import Derived.Test.YtpgpimedmpeliaaGreatDoorGwLawLockTelegrams
import Derived.Test.YtpgpimedmpeliaaGreatDoorGwAwakeLock
import Derived.Test.YtpgpimedmpeliaaGreatDoorGwLib21
set_option linter.unusedVariables false
set_option linter.unusedSimpArgs false
set_option linter.unusedSectionVars false
set_option maxRecDepth 4096
namespace Go.Gw
open Go
theorem Qvm {t:Arr5_Int} (h0:QV t.e0=true) (h1:QV t.e1=true) (h2:QV t.e2=true) (h3:QV t.e3=true):QV (YW t)=true:=by
  unfold QV at *
  simp at h0 h1 h2 h3
  have e:YW t=Int.tmod ((t.e0+1)+2 * (t.e1+1)+3 * (t.e2+1)+4 * (t.e3+1)) 251:=by
    unfold YW
    rw [YJ (x:=t.e0+1) (by omega),YJ (x:=t.e1+1) (by omega),YJ (x:=t.e2+1) (by omega),YJ (x:=t.e3+1) (by omega)]
    rw [YJ (x:=1 * (t.e0+1)) (by omega),YJ (x:=2 * (t.e1+1)) (by omega),YJ (x:=3 * (t.e2+1)) (by omega),YJ (x:=4 * (t.e3+1)) (by omega)]
    rw [YJ (x:=0+1 * (t.e0+1)) (by omega),YJ (x:=0+1 * (t.e0+1)+2 * (t.e1+1)) (by omega),YJ (x:=0+1 * (t.e0+1)+2 * (t.e1+1)+3 * (t.e2+1)) (by omega),YJ (by omega)]
    congr 1;omega
  rw [e,Int.tmod_eq_emod_of_nonneg (by omega)]
  simp;omega
theorem Qsz {v:LockEvent} {c:Int} (h:(Jo v c).2=0):Jb (Jo v c).1=(v,c,0):=by
  unfold Jo at h ⊢
  cases hk:Zf v.Kind
  · rw [hk] at h;cases h
  rw [hk] at h
  cases hb:((QV v.A&&QV v.B)&&QV c)
  · rw [hb] at h;cases h
  simp at hb
  obtain ⟨⟨ha,hb'⟩,hc⟩:=hb
  have h0:QV v.Kind=true:=by unfold Zf at hk;unfold QV;simp at hk ⊢;omega
  have h4:=Qvm (t:=Arr5_Int.mk v.Kind v.A v.B c 0) h0 ha hb' hc
  have hE:Xh (Arr5_Int.mk v.Kind v.A v.B c (YW (Arr5_Int.mk v.Kind v.A v.B c 0)))=0:=by
    have:YW (Arr5_Int.mk v.Kind v.A v.B c (YW (Arr5_Int.mk v.Kind v.A v.B c 0)))=YW (Arr5_Int.mk v.Kind v.A v.B c 0):=rfl
    unfold Xh
    simp [h0,ha,hb',hc,h4,hk,this]
  show Jb (Arr5_Int.mk v.Kind v.A v.B c (YW (Arr5_Int.mk v.Kind v.A v.B c 0)))=_
  unfold Jb
  rw [if_pos hE]
theorem Qtx (v:LockEvent) (c:Int) (l:Arr3_Arr5Int):Qiw v c l=some true:=by
  have key:loop (Qcv l) 0=some (.inr ()):=by
    refine loop_iff.2 ⟨4,?_⟩
    have st:∀ (x:Arr5_Int) (i j:Int),idx ([l.e0,l.e1,l.e2]:List Arr5_Int) i=some x→i < 3→w64 (i+1)=j→Qcv l i=some (.inl j):=fun x i j h1 h2 h3=>by
      unfold Qcv
      simp [h1,h2,h3,Qin,Qql]
    have s0:=st l.e0 0 1 rfl (by omega) rfl
    have s1:=st l.e1 1 2 rfl (by omega) rfl
    have s2:=st l.e2 2 3 rfl (by omega) rfl
    have s3:Qcv l 3=some (.inr (.inr ())):=rfl
    simp [Xs,s0,s1,s2,s3]
  unfold Qiw
  rw [Qva,QJo,QFs,key,QJz,QGr]
  simp [XD]
  unfold Qlg Qkn
  cases hv:Qef l.e0 l.e1 l.e2 with
  | none =>
    simp
    by_cases h:(Jo v c).2=0
    · simp [h,Qin,Qsz h]
    · simp [h]
  | some x =>
    simp
    by_cases h:(Jo v c).2=0
    · simp [h,Qin,Qsz h]
    · simp [h]
end Go.Gw
