/- Goroutines: leavers, draws, a new goroutine, a meeting at the channel. No condition. -/
import Derived.Test.YtpgpimedmpeliaaGreatDoorGwCj9
set_option linter.unusedVariables false
set_option linter.unusedSimpArgs false
set_option linter.unusedSectionVars false
set_option linter.unusedVariables false
namespace Go.Gw
open Go Go.Conc
section
variable {Sh:Loc→Prop} {c n:Nat} {vs:Nat→Option View} {W W':World} {t:Trace} {i:Nat} {x:View}

def Jy (vs:Nat→Option View) (d:Nat):Nat→Option View:=fun j=>(vs j).map fun x=>{ x with w:=x.w.at d }
theorem Agr.at {F Z:Nat→Prop} {w W:World} (h:Agr F Z w W) (d:Nat):Agr F Z (w.at d) (W.at d):=⟨h.tape,rfl,h.os,h.output,h.size,h.own,h.shr,h.hid,h.zf⟩
theorem Zh (w:World) (d:Nat):Rel w (w.at d):=⟨rfl,rfl,rfl,Nat.le_refl _,fun _ _=>rfl,fun b h1 h2=>absurd h2 (Nat.not_lt.2 h1)⟩
theorem Qfb {d j:Nat}:(Jy vs d j).isSome=(vs j).isSome:=by simp [Jy]
/-! ### A new goroutine -/
open Classical in
noncomputable def frz (C:Nat→Prop) (w:World):World:={ w with heap:=w.heap.mapIdx fun b o=>if C b then (match o with | .cells cs e _=>.cells cs e (0,cs.size) | o=>o) else o }
open Classical in
noncomputable def hid (C:Nat→Prop) (w:World):World:={ w with heap:=w.heap.mapIdx fun b o=>if C b then o else XJ }
open Classical in
theorem ZF {C:Nat→Prop} {w:World} {b:Nat}:(frz C w).heap[b]?=(w.heap[b]?).map fun o=>if C b then (match o with | .cells cs e _=>.cells cs e (0,cs.size) | o=>o) else o:=by
  simp [frz,Array.getElem?_mapIdx]
open Classical in
theorem Qfj {C:Nat→Prop} {w:World} {b:Nat}:(hid C w).heap[b]?=(w.heap[b]?).map fun o=>if C b then o else XJ:=by
  simp [hid,Array.getElem?_mapIdx]
theorem Qfg {C:Nat→Prop} {w:World}:(frz C w).heap.size=w.heap.size:=by simp [frz]
theorem Qir {C:Nat→Prop} {w:World}:(hid C w).heap.size=w.heap.size:=by simp [hid]
def Rows (C:Nat→Prop) (w:World):Prop:=∀ b,C b→∃ cs e fz,w.heap[b]?=some (.cells cs e fz)
theorem Agr.frz {F Z C:Nat→Prop} {w W:World} (h:Agr F Z w W) (hC:∀ b,C b→F b) (hR:Rows C w):Agr F (fun b=>Z b∨C b) (Gw.frz C w) W:=by
  refine ⟨h.tape,h.drawn,h.os,h.output,by rw [Qfg];exact h.size,fun b hF hz=>?_,fun b hF hz=>?_,fun b hF hlt=>?_,fun b hz=>hz.elim (h.zf b) (hC b)⟩
  · have hCb:¬ C b:=fun e=>hz (.inr e)
    rw [ZF,h.own b hF (fun e=>hz (.inl e))];simp [hCb]
  · by_cases hCb:C b
    · obtain ⟨cs,e,fz,h1⟩:=hR b hCb
      by_cases hZ:Z b
      · obtain ⟨cs',e',fz',h2,h3⟩:=h.shr b hF hZ
        rw [h1] at h2;cases h2
        exact ⟨cs,e,fz',by rw [ZF,h1];simp [hCb],h3⟩
      · exact ⟨cs,e,fz,by rw [ZF,h1];simp [hCb],by rw [h.own b hF hZ];exact h1⟩
    · have hZ:Z b:=hz.resolve_right hCb
      obtain ⟨cs',e',fz',h2,h3⟩:=h.shr b hF hZ
      exact ⟨cs',e',fz',by rw [ZF,h2];simp [hCb],h3⟩
  · rw [Qfg] at hlt
    have hCb:¬ C b:=fun e=>hF (hC b e)
    rw [ZF,h.hid b hF hlt]
    simp [hCb]
theorem Agr.hide {F Z C:Nat→Prop} {w W:World} (h:Agr F Z w W) (hC:∀ b,C b↔Z b):Agr C C (Gw.hid C w) W:=by
  refine ⟨h.tape,h.drawn,h.os,h.output,by rw [Qir];exact h.size,fun b hF hz=>absurd hF hz,fun b hF _=>?_,fun b hF hlt=>?_,fun b hz=>hz⟩
  · have hZ:=(hC b).1 hF
    obtain ⟨cs',e',fz',h2,h3⟩:=h.shr b (h.zf b hZ) hZ
    exact ⟨cs',e',fz',by rw [Qfj,h2];simp [hF],h3⟩
  · rw [Qir] at hlt
    rw [Qfj,Array.getElem?_eq_getElem hlt];simp [hF]
theorem NoView.frz {C:Nat→Prop} {w:World} (h:NoView w):NoView (Gw.frz C w):=fun b a u e=>by
  rw [ZF] at e
  cases hb:w.heap[b]? with
  | none=>rw [hb] at e;cases e
  | some o =>
    rw [hb] at e
    simp only [Option.map_some,Option.some.injEq] at e
    split at e
    · cases o<;>simp at e
      rename_i x' u'
      exact h b x' u' hb
    · subst e;exact h b a u hb
theorem NoView.hide {C:Nat→Prop} {w:World} (h:NoView w):NoView (Gw.hid C w):=fun b a u e=>by
  rw [Qfj] at e
  cases hb:w.heap[b]? with
  | none=>rw [hb] at e;cases e
  | some o =>
    rw [hb] at e
    simp only [Option.map_some,Option.some.injEq] at e
    split at e
    · subst e;exact h b a u hb
    · cases e

/-! ### Operations that touch nothing -/
def Qch (y:MemOp):Prop:=y.act.touch?=none∧y.act≠.mark .disable∧y.act≠.mark .enable
theorem Qcr {y:MemOp} (hy:Qch y) (g:Nat):Deaf (t++#[y]) g=Deaf t g:=by
  rw [Deaf_push]
  obtain ⟨h,fn,pos,act⟩:=y
  unfold deafStep
  cases act with
  | mark m=>cases m<;>first | rfl | exact absurd rfl hy.2.1 | exact absurd rfl hy.2.2
  | _=>rfl
theorem Qta {y:MemOp} (hy:Qch y) {e:Nat} {a:Touch} (ha:touchAt (t++#[y]) e=some a):touchAt t e=some a:=by
  rcases Jq ha with ⟨_,h1⟩ | ⟨_,op,h1,h2,_⟩
  · exact h1
  · have:op=y:=by simpa using h1
    subst this;rw [hy.1] at h2;cases h2
end
end Go.Gw
