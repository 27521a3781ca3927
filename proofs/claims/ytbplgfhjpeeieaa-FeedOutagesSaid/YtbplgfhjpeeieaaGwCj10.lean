/- Goroutines: leavers, draws, a new goroutine, a meeting at the channel. No condition. -/
import Derived.Test.YtbplgfhjpeeieaaGwCj9
set_option linter.unusedVariables false
set_option linter.unusedSimpArgs false
set_option linter.unusedSectionVars false
set_option linter.unusedVariables false
namespace Go.Gw
open Go Go.Conc
section
variable {Sh : Loc → Prop} {c n : Nat} {vs : Nat → Option View} {W W' : World} {t : Trace} {i : Nat} {x : View}

theorem PI.mute (h : PI Sh c vs n W t) (hi : vs i = none) (hi0 : i ≠ 0) (hin : i < n) {es : Array Event} (hm : ∀ e ∈ es,e.mute = true) (fn : FuncId) (pos : String) : PI Sh c vs n W (t ++ MemOp.ofEvents i fn pos es):=by
  have hg : ∀ op ∈ MemOp.ofEvents i fn pos es,op.g = i:=fun op hop=>by obtain ⟨e,_,rfl⟩:=Conc.mem_ofEvents hop; rfl
  have hno : ∀ op ∈ MemOp.ofEvents i fn pos es,op.act.touch? = none:=fun op hop=>by obtain ⟨e,he,rfl⟩:=Conc.mem_ofEvents hop; exact touch_mute (hm e he)
  have hold : ∀ e a,touchAt (t ++ MemOp.ofEvents i fn pos es) e = some a → touchAt t e = some a:=fun e a ha=>by
    rcases Qcp ha with ⟨_,h1⟩ | ⟨_,op,h1,h2,_⟩
    · exact h1
    · rw [hno op h1] at h2; cases h2
  refine ⟨fun j y hy=>?_,h.apart,h.chan,fun said=>?_,fun e a ha hm=>?_,fun e g hge hne hc=>?_,fun j hj=>?_,fun op hop'=>?_,h.mono⟩
  · obtain ⟨hjn,sy⟩:=h.seen j y hy
    have hj : j ≠ i:=fun e=>by subst e; rw [hi] at hy; cases hy
    exact ⟨hjn,sy.agr,sy.nov,sy.bnd,sy.chan,fun e a ad ha hl hF hz=>(sy.own e a ad (hold e a ha) hl hF hz).app _,fun e a ad ha hl hz hw=>(sy.shr e a ad (hold e a ha) hl hz hw).app _,by rw [Deaf_other t (Ne.symm hj) _ hg]; exact sy.deaf⟩
  · exact noRace_append (h.clean said) hg fun e a _ op hop b hb _=>(by rw [hno op hop] at hb; cases hb)
  · rcases h.known e a (hold e a ha) hm with h4 | h4 | ⟨j,h4,h5⟩
    · exact .inl (h4.app _)
    · exact .inr (.inl h4)
    · exact .inr (.inr ⟨j,h4,h5.app _⟩)
  · rcases g?_cases hge with ⟨h0,h1⟩ | ⟨h0,op,h1,h2,h3⟩
    · rcases h.over e g h1 hne ((counts_old h0).1 hc) with ⟨j,h4,h5⟩ | ⟨j,h4,h5⟩
      · exact .inl ⟨j,by rw [g?_old (lt_of_g? h4)]; exact h4,hb_app _ h5⟩
      · exact .inr ⟨j,h4,h5.app _⟩
    · obtain ⟨a,ha,_⟩:=hc
      rw [show ((t ++ MemOp.ofEvents i fn pos es).act? e).bind (·.touch?) = touchAt (t ++ MemOp.ofEvents i fn pos es) e from rfl,touchAt_of h3,hno op h1] at ha
      cases ha
  · rw [Deaf_other t (by omega) _ hg]; exact h.above j hj
  · rcases Array.mem_append.1 hop' with h1 | h1
    · exact h.low op h1
    · obtain ⟨e,hee,rfl⟩:=Conc.mem_ofEvents h1
      exact low_mute (hm e hee) _

def Qao (vs : Nat → Option View) (d : Nat) : Nat → Option View:=fun j=>(vs j).map fun x=>{ x with w:=x.w.at d }
theorem Agr.at {F Z : Nat → Prop} {w W : World} (h : Agr F Z w W) (d : Nat) : Agr F Z (w.at d) (W.at d):=⟨h.tape,rfl,h.os,h.output,h.size,h.own,h.shr,h.hid,h.zf⟩
theorem Y5 (w : World) (d : Nat) : Rel w (w.at d):=⟨rfl,rfl,rfl,Nat.le_refl _,fun _ _=>rfl,fun b h1 h2=>absurd h2 (Nat.not_lt.2 h1)⟩
theorem Seen.at (h : Seen c x W t i) (d : Nat) : Seen c { x with w:=x.w.at d } (W.at d) t i:=⟨h.agr.at d,h.nov.rel (Y5 _ d),h.bnd,h.chan,h.own,h.shr,h.deaf⟩
theorem Qnf {d j : Nat} : (Qao vs d j).isSome = (vs j).isSome:=by simp [Qao]
theorem PI.at (h : PI Sh c vs n W t) (d : Nat) : PI Sh c (Qao vs d) n (W.at d) t:=by
  refine ⟨fun j y hy=>?_,fun j k y z hjk hy hz=>?_,h.chan,h.clean,fun e a ha hm=>?_,fun e g hge hne hc=>?_,h.above,h.low,fun j y y0 hy hy0 b hb=>?_⟩
  · obtain ⟨y0,hy0,rfl⟩:=Option.map_eq_some_iff.1 hy
    exact ⟨(h.seen j y0 hy0).1,(h.seen j y0 hy0).2.at d⟩
  · obtain ⟨y0,hy0,rfl⟩:=Option.map_eq_some_iff.1 hy
    obtain ⟨z0,hz0,rfl⟩:=Option.map_eq_some_iff.1 hz
    exact h.apart j k y0 z0 hjk hy0 hz0
  · rcases h.known e a ha hm with h4 | h4 | ⟨j,h4,h5⟩
    · exact .inl h4
    · exact .inr (.inl h4)
    · exact .inr (.inr ⟨j,by rw [Qnf]; exact h4,h5⟩)
  · rcases h.over e g hge hne hc with h4 | ⟨j,h4,h5⟩
    · exact .inl h4
    · exact .inr ⟨j,by rw [Qnf]; exact h4,h5⟩
  · obtain ⟨y',h1,rfl⟩:=Option.map_eq_some_iff.1 hy
    obtain ⟨y00,h2,rfl⟩:=Option.map_eq_some_iff.1 hy0
    exact h.mono j y' y00 h1 h2 b hb

/-! ### A new goroutine -/
open Classical in
noncomputable def frz (C : Nat → Prop) (w : World) : World:={ w with heap:=w.heap.mapIdx fun b o=>if C b then (match o with | .cells cs e _=>.cells cs e (0,cs.size) | o=>o) else o }
open Classical in
noncomputable def hid (C : Nat → Prop) (w : World) : World:={ w with heap:=w.heap.mapIdx fun b o=>if C b then o else YE }
open Classical in
theorem Z1 {C : Nat → Prop} {w : World} {b : Nat} : (frz C w).heap[b]? = (w.heap[b]?).map fun o=>if C b then (match o with | .cells cs e _=>.cells cs e (0,cs.size) | o=>o) else o:=by
  simp [frz,Array.getElem?_mapIdx]
open Classical in
theorem Qjj {C : Nat → Prop} {w : World} {b : Nat} : (hid C w).heap[b]? = (w.heap[b]?).map fun o=>if C b then o else YE:=by
  simp [hid,Array.getElem?_mapIdx]
theorem Qjh {C : Nat → Prop} {w : World} : (frz C w).heap.size = w.heap.size:=by simp [frz]
theorem Qpc {C : Nat → Prop} {w : World} : (hid C w).heap.size = w.heap.size:=by simp [hid]
def Rows (C : Nat → Prop) (w : World) : Prop:=∀ b,C b → ∃ cs e fz,w.heap[b]? = some (.cells cs e fz)
theorem Agr.frz {F Z C : Nat → Prop} {w W : World} (h : Agr F Z w W) (hC : ∀ b,C b → F b) (hR : Rows C w) : Agr F (fun b=>Z b ∨ C b) (Gw.frz C w) W:=by
  refine ⟨h.tape,h.drawn,h.os,h.output,by rw [Qjh]; exact h.size,fun b hF hz=>?_,fun b hF hz=>?_,fun b hF hlt=>?_,fun b hz=>hz.elim (h.zf b) (hC b)⟩
  · have hCb : ¬ C b:=fun e=>hz (.inr e)
    rw [Z1,h.own b hF (fun e=>hz (.inl e))]; simp [hCb]
  · by_cases hCb : C b
    · obtain ⟨cs,e,fz,h1⟩:=hR b hCb
      by_cases hZ : Z b
      · obtain ⟨cs',e',fz',h2,h3⟩:=h.shr b hF hZ
        rw [h1] at h2; cases h2
        exact ⟨cs,e,fz',by rw [Z1,h1]; simp [hCb],h3⟩
      · exact ⟨cs,e,fz,by rw [Z1,h1]; simp [hCb],by rw [h.own b hF hZ]; exact h1⟩
    · have hZ : Z b:=hz.resolve_right hCb
      obtain ⟨cs',e',fz',h2,h3⟩:=h.shr b hF hZ
      exact ⟨cs',e',fz',by rw [Z1,h2]; simp [hCb],h3⟩
  · rw [Qjh] at hlt
    have hCb : ¬ C b:=fun e=>hF (hC b e)
    rw [Z1,h.hid b hF hlt]
    simp [hCb]
theorem Agr.hide {F Z C : Nat → Prop} {w W : World} (h : Agr F Z w W) (hC : ∀ b,C b ↔ Z b) : Agr C C (Gw.hid C w) W:=by
  refine ⟨h.tape,h.drawn,h.os,h.output,by rw [Qpc]; exact h.size,fun b hF hz=>absurd hF hz,fun b hF _=>?_,fun b hF hlt=>?_,fun b hz=>hz⟩
  · have hZ:=(hC b).1 hF
    obtain ⟨cs',e',fz',h2,h3⟩:=h.shr b (h.zf b hZ) hZ
    exact ⟨cs',e',fz',by rw [Qjj,h2]; simp [hF],h3⟩
  · rw [Qpc] at hlt
    rw [Qjj,Array.getElem?_eq_getElem hlt]; simp [hF]
theorem NoView.frz {C : Nat → Prop} {w : World} (h : NoView w) : NoView (Gw.frz C w):=fun b a u e=>by
  rw [Z1] at e
  cases hb : w.heap[b]? with
  | none=>rw [hb] at e; cases e
  | some o =>
    rw [hb] at e
    simp only [Option.map_some,Option.some.injEq] at e
    split at e
    · cases o <;> simp at e
      rename_i x' u'
      exact h b x' u' hb
    · subst e; exact h b a u hb
theorem NoView.hide {C : Nat → Prop} {w : World} (h : NoView w) : NoView (Gw.hid C w):=fun b a u e=>by
  rw [Qjj] at e
  cases hb : w.heap[b]? with
  | none=>rw [hb] at e; cases e
  | some o =>
    rw [hb] at e
    simp only [Option.map_some,Option.some.injEq] at e
    split at e
    · subst e; exact h b a u hb
    · cases e

/-! ### Operations that touch nothing -/
def Jb (y : MemOp) : Prop:=y.act.touch? = none ∧ y.act ≠ .mark .disable ∧ y.act ≠ .mark .enable
theorem ZZ {y : MemOp} (hy : Jb y) (g : Nat) : Deaf (t ++ #[y]) g = Deaf t g:=by
  rw [Deaf_push]
  obtain ⟨h,fn,pos,act⟩:=y
  unfold deafStep
  cases act with
  | mark m=>cases m <;> first | rfl | exact absurd rfl hy.2.1 | exact absurd rfl hy.2.2
  | _=>rfl
theorem Qaw {y : MemOp} (hy : Jb y) {e : Nat} {a : Touch} (ha : touchAt (t ++ #[y]) e = some a) : touchAt t e = some a:=by
  rcases Qcp ha with ⟨_,h1⟩ | ⟨_,op,h1,h2,_⟩
  · exact h1
  · have : op = y:=by simpa using h1
    subst this; rw [hy.1] at h2; cases h2
theorem PI.calm (h : PI Sh c vs n W t) {y : MemOp} (hy : Jb y) (hl : y.act.low W.heap.size) : PI Sh c vs n W (t ++ #[y]):=by
  refine ⟨fun j y' hy'=>?_,h.apart,h.chan,fun said=>?_,fun e a ha hm=>?_,fun e g hge hne hc=>?_,fun j hj=>?_,fun op hop'=>?_,h.mono⟩
  · obtain ⟨hjn,sy⟩:=h.seen j y' hy'
    exact ⟨hjn,sy.agr,sy.nov,sy.bnd,sy.chan,fun e a ad ha hl hF hz=>(sy.own e a ad (Qaw hy ha) hl hF hz).app _,fun e a ad ha hl hz hw=>(sy.shr e a ad (Qaw hy ha) hl hz hw).app _,by rw [ZZ hy]; exact sy.deaf⟩
  · exact noRace_append (g := y.g) (h.clean said) (fun op hop => by have : op = y := by simpa using hop
                                                                    rw [this]) fun e a _ op hop b hb _=>(by
      have : op = y:=by simpa using hop
      rw [this,hy.1] at hb; cases hb)
  · rcases h.known e a (Qaw hy ha) hm with h4 | h4 | ⟨j,h4,h5⟩
    · exact .inl (h4.app _)
    · exact .inr (.inl h4)
    · exact .inr (.inr ⟨j,h4,h5.app _⟩)
  · rcases g?_cases hge with ⟨h0,h1⟩ | ⟨h0,op,h1,h2,h3⟩
    · rcases h.over e g h1 hne ((counts_old h0).1 hc) with ⟨j,h4,h5⟩ | ⟨j,h4,h5⟩
      · exact .inl ⟨j,by rw [g?_old (lt_of_g? h4)]; exact h4,hb_app _ h5⟩
      · exact .inr ⟨j,h4,h5.app _⟩
    · obtain ⟨a,ha,_⟩:=hc
      have : op = y:=by simpa using h1
      rw [show ((t ++ #[y]).act? e).bind (·.touch?) = touchAt (t ++ #[y]) e from rfl,touchAt_of h3,this,hy.1] at ha
      cases ha
  · rw [ZZ hy]; exact h.above j hj
  · rcases Array.mem_append.1 hop' with h1 | h1
    · exact h.low op h1
    · have : op = y:=by simpa using h1
      rw [this]; exact hl
end
end Go.Gw
