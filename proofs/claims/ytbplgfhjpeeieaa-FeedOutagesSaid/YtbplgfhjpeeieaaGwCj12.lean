/- Goroutines: the meeting at the channel; the beginning and the end of being many. No condition. -/
import Derived.Test.YtbplgfhjpeeieaaGwCj11
set_option linter.unusedVariables false
set_option linter.unusedSimpArgs false
set_option linter.unusedSectionVars false
set_option linter.unusedVariables false
namespace Go.Gw
open Go Go.Conc
section
variable {Sh : Loc → Prop} {c n : Nat} {vs : Nat → Option View} {W W' : World} {t : Trace} {i : Nat} {x y : View}

structure More (w w' : World) : Prop where
  os : w'.os = w.os
  tape : w'.tape = w.tape
  output : w'.output = w.output
  size : w'.heap.size = w.heap.size
  block : ∀ b,b < w.heap.size → w.heap[b]? ≠ some YE → w'.heap[b]? = w.heap[b]?
def Shows (w w' : World) : Prop:=∀ (b : Nat) (cs : Array Value) (e : TypeId) (fz : Nat × Nat),w.heap[b]? = some (.cells cs e fz) → w'.heap[b]? = some (.cells cs e fz)
theorem More.shows {w w' : World} (h : More w w') : Shows w w':=fun b cs e fz hb=>by
  rw [h.block b (Array.getElem?_eq_some_iff.1 hb).1 (by rw [hb]; simp [YE])]; exact hb

theorem Qjz {s r : Nat} {tm : Bool} {b : Nat} (h : b ≠ c) : (W.passed c s r tm).heap[b]? = W.heap[b]?:=by
  simp only [World.passed]; exact Array.getElem?_setIfInBounds_ne (Ne.symm h)
theorem passed_size {s r : Nat} {tm : Bool} : (W.passed c s r tm).heap.size = W.heap.size:=by simp [World.passed]
theorem Agr.passed {F Z : Nat → Prop} {w : World} (h : Agr F Z w W) (hc : ¬ F c) (s r : Nat) (tm : Bool) : Agr F Z w (W.passed c s r tm) :=
  ⟨h.tape,h.drawn,h.os,h.output,passed_size.trans h.size,fun b hb hz=>by rw [Qjz (fun (e : b = c)=>hc (e ▸ hb))]; exact h.own b hb hz,fun b hb hz=>by
    obtain ⟨cs,e,fz,h1,h2⟩:=h.shr b hb hz
    exact ⟨cs,e,fz,h1,by rw [Qjz (fun (e : b = c)=>hc (e ▸ hb))]; exact h2⟩,h.hid,h.zf⟩

open Classical in
noncomputable def Ji (x y : View) : World:={ x.w with heap:=x.w.heap.mapIdx fun b o=>if x.F b then o else if y.F b then (y.w.heap[b]?).getD YE else YE }
open Classical in
theorem Qce {b : Nat} : (Ji x y).heap[b]? = (x.w.heap[b]?).map fun o=>if x.F b then o else if y.F b then (y.w.heap[b]?).getD YE else YE:=by
  simp [Ji,Array.getElem?_mapIdx]
theorem Qpi : (Ji x y).heap.size = x.w.heap.size:=by simp [Ji]

theorem QLb (hx : Agr x.F x.Z x.w W) : More x.w (Ji x y):=by
  refine ⟨rfl,rfl,rfl,Qpi,fun b hb hj=>?_⟩
  rw [Qce]
  by_cases hF : x.F b
  · simp [hF]
  · exact absurd (hx.hid b hF hb) hj
theorem QLd (hx : Agr x.F x.Z x.w W) (hy : Agr y.F y.Z y.w W) (hap : Apart x y) : Shows y.w (Ji x y):=fun b cs e fz hb=>by
  have hlt:=(Array.getElem?_eq_some_iff.1 hb).1
  have hyF : y.F b:=by
    refine Classical.byContradiction fun hn=>?_
    rw [hy.hid b hn hlt] at hb; cases hb
  have hlt' : b < x.w.heap.size:=by rw [← hx.size,hy.size]; exact hlt
  rw [Qce,Array.getElem?_eq_getElem hlt']
  by_cases hF : x.F b
  · obtain ⟨hxz,hyz⟩:=hap b hF hyF
    obtain ⟨cs1,e1,fz1,h1,h2⟩:=hx.shr b hF hxz
    obtain ⟨cs2,e2,fz2,h3,h4⟩:=hy.shr b hyF hyz
    rw [h2] at h4
    simp only [Option.some.injEq,Obj.cells.injEq] at h4
    obtain ⟨rfl,rfl,rfl⟩:=h4
    rw [hb] at h3
    rw [Array.getElem?_eq_getElem hlt'] at h1
    simp only [Option.map_some,if_pos hF]
    rw [h1,← h3]
  · simp only [Option.map_some,if_neg hF,if_pos hyF,hb,Option.getD_some]
theorem QLa (hx : Agr x.F x.Z x.w W) (hy : Agr y.F y.Z y.w W) (hap : Apart x y) (hz : ∀ b,y.Z b → x.F b) (hb : ∀ b,y.F b → b < W.heap.size) : Agr (fun b=>x.F b ∨ y.F b) x.Z (Ji x y) W:=by
  refine ⟨hx.tape,hx.drawn,hx.os,hx.output,by rw [Qpi]; exact hx.size,fun b hF hZ=>?_,fun b hF hZ=>?_,fun b hF hlt=>?_,fun b hZ=>.inl (hx.zf b hZ)⟩
  · rw [Qce]
    by_cases hxF : x.F b
    · rw [hx.own b hxF hZ]; simp [hxF]
    · have hyF:=hF.resolve_left hxF
      have hlt:=hb b hyF
      have hlt' : b < x.w.heap.size:=by rw [← hx.size]; exact hlt
      have hyl : b < y.w.heap.size:=by rw [← hy.size]; exact hlt
      rw [hy.own b hyF (fun e=>hxF (hz b e)),Array.getElem?_eq_getElem hlt']
      simp only [Option.map_some,if_neg hxF,if_pos hyF,Array.getElem?_eq_getElem hyl,Option.getD_some]
  · have hxF:=hx.zf b hZ
    obtain ⟨cs1,e1,fz1,h1,h2⟩:=hx.shr b hxF hZ
    exact ⟨cs1,e1,fz1,by rw [Qce,h1]; simp [hxF],h2⟩
  · rw [Qpi] at hlt
    have hxF : ¬ x.F b:=fun e=>hF (.inl e)
    have hyF : ¬ y.F b:=fun e=>hF (.inr e)
    rw [Qce,Array.getElem?_eq_getElem hlt]
    simp [hxF,hyF]
theorem QLc (hx : Seen c x W t 0) (hy : Seen c y W t i) : NoView (Ji x y):=fun b a u e=>by
  rw [Qce] at e
  cases hb : x.w.heap[b]? with
  | none=>rw [hb] at e; cases e
  | some o =>
    rw [hb] at e
    simp only [Option.map_some,Option.some.injEq] at e
    split at e
    · subst e; exact hx.nov b a u hb
    · split at e
      · cases hyb : y.w.heap[b]? with
        | none=>rw [hyb] at e; cases e
        | some o'=>rw [hyb] at e; simp at e; subst e; exact hy.nov b a u hyb
      · cases e

theorem PI.meet (h : PI Sh c vs n W t) (h0 : vs 0 = some x) (hi : vs i = some y) (hi0 : i ≠ 0) {s : Nat} (hs : W.heap[c]? = some (.chan 0 #[] false s s false)) (f1 f2 f3 f4 : FuncId) (p1 p2 p3 p4 : String) :
    PI Sh c (fun j=>if j = 0 then some ⟨fun b=>x.F b ∨ y.F b,x.Z,Ji x y⟩ else if j = i then none else vs j) n (W.passed c s s false)
      (t ++ #[{ g:=i,fn:=f1,pos:=p1,act:=.send c s }] ++ #[{ g:=0,fn:=f2,pos:=p2,act:=.recv c s 0 }] ++ #[{ g:=i,fn:=f3,pos:=p3,act:=.sendDone c s }] ++ #[{ g:=0,fn:=f4,pos:=p4,act:=.recvDone c s }]):=by
  have hcl:=h.chan_lt
  have hb:=(((h.calm (Qii c s i f1 p1) hcl).calm (Qih c s 0 0 f2 p2) hcl).calm (Qij c s i f3 p3) hcl).calm (Qna c s 0 f4 p4) hcl
  have hx:=(h.seen 0 x h0).2
  have hy:=(h.seen i y hi).2
  have hx2:=(hb.seen 0 x h0).2
  have hap:=h.apart 0 i x y (Ne.symm hi0) h0 hi
  have hzz : ∀ b,y.Z b → x.F b:=h.mono i y x hi h0
  have met : ∀ e,Knows t i e → Knows (t ++ #[{ g:=i,fn:=f1,pos:=p1,act:=.send c s }] ++ #[{ g:=0,fn:=f2,pos:=p2,act:=.recv c s 0 }] ++ #[{ g:=i,fn:=f3,pos:=p3,act:=.sendDone c s }] ++ #[{ g:=0,fn:=f4,pos:=p4,act:=.recvDone c s }]) 0 e:=fun e he=>QKm hx.deaf hy.deaf he
  have hold : ∀ e a,touchAt (t ++ #[{ g:=i,fn:=f1,pos:=p1,act:=.send c s }] ++ #[{ g:=0,fn:=f2,pos:=p2,act:=.recv c s 0 }] ++ #[{ g:=i,fn:=f3,pos:=p3,act:=.sendDone c s }] ++ #[{ g:=0,fn:=f4,pos:=p4,act:=.recvDone c s }]) e = some a → touchAt t e = some a :=
    fun e a ha=>Qaw (Qii ..) (Qaw (Qih ..) (Qaw (Qij ..) (Qaw (Qna ..) ha)))
  have happ : ∀ g e,Knows t g e → Knows (t ++ #[{ g:=i,fn:=f1,pos:=p1,act:=.send c s }] ++ #[{ g:=0,fn:=f2,pos:=p2,act:=.recv c s 0 }] ++ #[{ g:=i,fn:=f3,pos:=p3,act:=.sendDone c s }] ++ #[{ g:=0,fn:=f4,pos:=p4,act:=.recvDone c s }]) g e:=fun g e hk=>(((hk.app _).app _).app _).app _
  have hg4 : ∀ e,e < t.size → (t ++ #[{ g:=i,fn:=f1,pos:=p1,act:=.send c s }] ++ #[{ g:=0,fn:=f2,pos:=p2,act:=.recv c s 0 }] ++ #[{ g:=i,fn:=f3,pos:=p3,act:=.sendDone c s }] ++ #[{ g:=0,fn:=f4,pos:=p4,act:=.recvDone c s }] : Trace).g? e = t.g? e:=fun e he=>by simp only [Array.append_assoc]; exact g?_old he
  have hc4 : ∀ e,e < t.size → ((t ++ #[{ g:=i,fn:=f1,pos:=p1,act:=.send c s }] ++ #[{ g:=0,fn:=f2,pos:=p2,act:=.recv c s 0 }] ++ #[{ g:=i,fn:=f3,pos:=p3,act:=.sendDone c s }] ++ #[{ g:=0,fn:=f4,pos:=p4,act:=.recvDone c s }] : Trace).counts e ↔ t.counts e):=fun e he=>by simp only [Array.append_assoc]; exact counts_old he
  have hb4 : ∀ e j,HappensBefore t e j → HappensBefore (t ++ #[{ g:=i,fn:=f1,pos:=p1,act:=.send c s }] ++ #[{ g:=0,fn:=f2,pos:=p2,act:=.recv c s 0 }] ++ #[{ g:=i,fn:=f3,pos:=p3,act:=.sendDone c s }] ++ #[{ g:=0,fn:=f4,pos:=p4,act:=.recvDone c s }]) e j:=fun e j hk=>hb_app _ (hb_app _ (hb_app _ (hb_app _ hk)))
  generalize (t ++ #[{ g:=i,fn:=f1,pos:=p1,act:=.send c s }] ++ #[{ g:=0,fn:=f2,pos:=p2,act:=.recv c s 0 }] ++ #[{ g:=i,fn:=f3,pos:=p3,act:=.sendDone c s }] ++ #[{ g:=0,fn:=f4,pos:=p4,act:=.recvDone c s }] : Trace) = t4 at hb hx2 met hold happ hg4 hc4 hb4 ⊢
  have hag:=QLa hx.agr hy.agr hap hzz hy.bnd
  refine ⟨fun j z hz=>?_,fun j k z z' hjk hz hz'=>?_,⟨s + 1,?_⟩,hb.clean,fun e a ha hm=>?_,fun e g hge hne hc=>?_,hb.above,fun op hop=>by rw [passed_size]; exact hb.low op hop,fun j z z0 hz hz0 b hbz=>?_⟩
  · by_cases hj : j = 0
    · subst hj
      rw [if_pos rfl] at hz; cases hz
      refine ⟨(h.seen 0 x h0).1,hag.passed (fun e=>e.elim hx.chan hy.chan) _ _ _,QLc hx hy,fun b hF=>by rw [passed_size]; exact hF.elim (hx.bnd b) (hy.bnd b),fun e=>e.elim hx.chan hy.chan,fun e a ad ha hl hF hz=>?_,hx2.shr,hx2.deaf⟩
      by_cases hxF : x.F ad.block
      · exact hx2.own e a ad ha hl hxF hz
      · exact met e (hy.own e a ad (hold e a ha) hl (hF.resolve_left hxF) (fun e=>hxF (hzz _ e)))
    · rw [if_neg hj] at hz
      by_cases hji : j = i
      · rw [if_pos hji] at hz; cases hz
      · rw [if_neg hji] at hz
        obtain ⟨hjn,sz⟩:=hb.seen j z hz
        exact ⟨hjn,sz.agr.passed sz.chan _ _ _,sz.nov,fun b hF=>by rw [passed_size]; exact sz.bnd b hF,sz.chan,sz.own,sz.shr,sz.deaf⟩
  · have main : ∀ k z, k ≠ 0 → (if k = 0 then some (⟨fun b => x.F b ∨ y.F b, x.Z, Ji x y⟩ : View) else if k = i then none else vs k) = some z → Apart ⟨fun b => x.F b ∨ y.F b, x.Z, Ji x y⟩ z := fun k z hk hz b h1 h2 => by
      rw [if_neg hk] at hz
      by_cases hki : k = i
      · rw [if_pos hki] at hz; cases hz
      · rw [if_neg hki] at hz
        by_cases hxF : x.F b
        · exact h.apart 0 k x z (Ne.symm hk) h0 hz b hxF h2
        · have:=h.apart i k y z (Ne.symm hki) hi hz b (h1.resolve_left hxF) h2
          exact absurd (hzz b this.1) hxF
    by_cases hj : j = 0
    · subst hj
      rw [if_pos rfl] at hz; cases hz
      exact main k z' (Ne.symm hjk) hz'
    · by_cases hk : k = 0
      · subst hk
        rw [if_pos rfl] at hz'; cases hz'
        exact (main j z hj hz).symm
      · rw [if_neg hj] at hz; rw [if_neg hk] at hz'
        by_cases hji : j = i
        · rw [if_pos hji] at hz; cases hz
        · rw [if_neg hji] at hz
          by_cases hki : k = i
          · rw [if_pos hki] at hz'; cases hz'
          · rw [if_neg hki] at hz'
            exact h.apart j k z z' hjk hz hz'
  · simp [World.passed,hcl]
  · rcases h.known e a (hold e a ha) hm with h4 | h4 | ⟨j,h4,h5⟩
    · exact .inl (happ _ _ h4)
    · exact .inr (.inl h4)
    · by_cases hji : j = i
      · subst hji; exact .inl (met e h5)
      · by_cases hj0 : j = 0
        · subst hj0; exact .inl (happ _ _ h5)
        · exact .inr (.inr ⟨j,by simp [hj0,hji,h4],happ _ _ h5⟩)
  · obtain ⟨a,ha,_⟩:=id hc
    obtain ⟨op,ho,_⟩:=touch_of (hold e a ha)
    have hlt:=lt_size_of_getElem? ho
    have out : ∀ e,Knows t4 0 e → t4.g? e = some g → ∃ j,t4.g? j = some 0 ∧ HappensBefore t4 e j:=fun e ⟨q,z,h1,h2,h3⟩ hge=>by
      rcases h3 with rfl | h3
      · rw [Trace.g?,h1] at hge; simp at hge; rw [h2] at hge; exact absurd hge.symm hne
      · exact ⟨q,by rw [Trace.g?,h1]; simp [h2],h3⟩
    rcases h.over e g (by rw [← hg4 e hlt]; exact hge) hne ((hc4 e hlt).1 hc) with ⟨j,h4,h5⟩ | ⟨j,h4,h5⟩
    · exact .inl ⟨j,by rw [hg4 j (lt_of_g? h4)]; exact h4,hb4 _ _ h5⟩
    · by_cases hji : j = i
      · subst hji; exact .inl (out e (met e h5) hge)
      · by_cases hj0 : j = 0
        · subst hj0; exact .inl (out e (happ _ _ h5) hge)
        · exact .inr ⟨j,by simp [hj0,hji,h4],happ _ _ h5⟩
  · rw [if_pos rfl] at hz0; cases hz0
    by_cases hj : j = 0
    · subst hj; rw [if_pos rfl] at hz; cases hz; exact .inl (hx.agr.zf b hbz)
    · rw [if_neg hj] at hz
      by_cases hji : j = i
      · rw [if_pos hji] at hz; cases hz
      · rw [if_neg hji] at hz; exact .inl (h.mono j z x hz h0 b hbz)
end
end Go.Gw
