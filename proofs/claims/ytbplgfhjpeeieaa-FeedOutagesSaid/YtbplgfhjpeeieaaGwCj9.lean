/- Goroutines: steps of many side by side. No condition. -/
import Derived.Test.YtbplgfhjpeeieaaGwCj8
set_option linter.unusedVariables false
set_option linter.unusedSimpArgs false
set_option linter.unusedSectionVars false
set_option linter.unusedVariables false
namespace Go.Gw
open Go Go.Conc

def Qac (vs : Nat → Option View) (i : Nat) (x : Option View) (W' : World) : Nat → Option View:=fun j=>if j = i then x else (vs j).map (JG W')
theorem Jo {vs : Nat → Option View} {i : Nat} {x : Option View} {W' : World} : Qac vs i x W' i = x:=by simp [Qac]
theorem Z6 {vs : Nat → Option View} {i j : Nat} {x : Option View} {W' : World} (h : j ≠ i) : Qac vs i x W' j = (vs j).map (JG W'):=by simp [Qac,h]
theorem QOu {vs : Nat → Option View} {i j : Nat} {x : View} {W' : World} {y : View} (hy : vs j = some y) : (Qac vs i (some x) W' j).isSome = true:=by
  by_cases h : j = i
  · subst h; simp [Jo]
  · simp [Z6 h,hy]
theorem Qyu {vs : Nat → Option View} {i j : Nat} {x : View} {W' : World} (hy : (vs j).isSome = true) : (Qac vs i (some x) W' j).isSome = true:=by
  cases hv : vs j with
  | none=>rw [hv] at hy; cases hy
  | some y=>exact QOu hv

theorem g?_cases {t u : Trace} {e g : Nat} (h : (t ++ u).g? e = some g) : (e < t.size ∧ t.g? e = some g) ∨ (t.size ≤ e ∧ ∃ op ∈ u,op.g = g ∧ (t ++ u)[e]? = some op):=by
  unfold Trace.g? at h
  obtain ⟨op,h1,h2⟩:=Option.map_eq_some_iff.1 h
  rcases getElem?_append_cases h1 with ⟨h3,h4⟩ | ⟨h3,h4⟩
  · exact .inl ⟨h3,by simp [Trace.g?,h4,h2]⟩
  · exact .inr ⟨h3,op,h4,h2,h1⟩
theorem Qcp {t u : Trace} {e : Nat} {a : Touch} (h : touchAt (t ++ u) e = some a) : (e < t.size ∧ touchAt t e = some a) ∨ (t.size ≤ e ∧ ∃ op ∈ u,op.act.touch? = some a ∧ (t ++ u)[e]? = some op):=by
  obtain ⟨x,hx,hxa⟩:=touch_of h
  rcases getElem?_append_cases hx with ⟨h3,h4⟩ | ⟨h3,h4⟩
  · exact .inl ⟨h3,by rw [touchAt_of h4]; exact hxa⟩
  · exact .inr ⟨h3,x,h4,hxa,hx⟩
theorem lt_of_g? {t : Trace} {j g : Nat} (h : t.g? j = some g) : j < t.size:=by
  unfold Trace.g? at h
  obtain ⟨z,hz,_⟩:=Option.map_eq_some_iff.1 h
  exact lt_size_of_getElem? hz

section
variable {Sh : Loc → Prop} {c n : Nat} {vs : Nat → Option View} {W W' : World} {t : Trace} {i : Nat} {x : View}
theorem PI.old_low (h : PI Sh c vs n W t) {e : Nat} {a : Touch} {ad : Addr} (ha : touchAt t e = some a) (hl : a.loc = .cell ad) : ad.block < W.heap.size:=by
  obtain ⟨op,ho,hop⟩:=touch_of ha
  have:=h.low op (mem_of_getElem? ho)
  obtain ⟨g,fn,pos,act⟩:=op
  cases act with
  | access ev =>
    simp only [MemAct.touch?] at hop
    cases hop
    simp only [MemAct.low] at this
    simp only at hl
    rw [hl] at this
    exact this
  | mark m =>
    cases m <;> simp only [MemAct.touch?] at hop <;> first | (cases hop; done) | (cases hop; simp only at hl; cases hl; exact this)
  | _=>simp only [MemAct.touch?] at hop; cases hop
theorem PI.chan_lt (h : PI Sh c vs n W t) : c < W.heap.size:=by
  obtain ⟨s,hs⟩:=h.chan
  exact (Array.getElem?_eq_some_iff.1 hs).1

theorem PI.step (h : PI Sh c vs n W t) (hi : vs i = some x) {F' : Nat → Prop} {w' : World} (ha : AgrTo x.F x.Z W F' w' W') (hn : NoView w') {es : Array Event} (he : ∀ e ∈ es, Qbt F' x.Z e) (fn : FuncId) (pos : String) :
    PI Sh c (Qac vs i (some ⟨fun b=>F' b ∧ b < W'.heap.size,x.Z,w'⟩) W') n W' (t ++ MemOp.ofEvents i fn pos es):=by
  obtain ⟨hin,hx⟩:=h.seen i x hi
  have hg : ∀ op ∈ MemOp.ofEvents i fn pos es,op.g = i:=fun op hop=>by obtain ⟨e,_,rfl⟩:=Conc.mem_ofEvents hop; rfl
  have hF : ∀ b,F' b → b < W.heap.size → x.F b:=fun b hb hlt=>by
    rcases ha.new b hb with h1 | h1
    · exact h1
    · omega
  have hop : ∀ op ∈ MemOp.ofEvents i fn pos es,∀ b,op.act.touch? = some b → ∃ ad,b.loc = .cell ad ∧ F' ad.block ∧ (b.write = true → ¬ x.Z ad.block) ∧ b.kind = .plain:=fun op hop b hb=>by
    obtain ⟨e,hee,rfl⟩:=Conc.mem_ofEvents hop
    exact Qnl (he e hee) hb
  have hgrow : ∀ j y,j ≠ i → vs j = some y → Agr y.F y.Z (JG W' y).w W' ∧ ∀ b,y.F b → W'.heap[b]? = W.heap[b]?:=fun j y hj hy=>by
    obtain ⟨_,sy⟩:=h.seen j y hy
    have hk : ∀ b,y.F b → W'.heap[b]? = W.heap[b]?:=fun b hb=>ha.keep b (sy.bnd b hb) (by
      rcases Classical.em (x.F b) with hxb | hxb
      · exact .inr ((h.apart i j x y (Ne.symm hj) hi hy) b hxb hb).1
      · exact .inl hxb)
    exact ⟨sy.agr.grown y rfl sy.bnd ha.size ha.same.1 ha.same.2.1 ha.same.2.2 hk,hk⟩
  refine ⟨fun j y hy=>?_,fun j k y z hjk hy hz=>?_,?_,fun said=>?_,fun e a hta hm=>?_,fun e g hge hne hc=>?_,fun j hj=>?_,fun op hop'=>?_,fun j y y0 hy hy0 b hb=>?_⟩
  · by_cases hj : j = i
    · subst hj
      rw [Jo] at hy
      cases hy
      refine ⟨hin,ha.agr.cut,hn,fun b hb=>hb.2,fun hc=>?_,fun e a ad hta hl hFb hz=>?_,fun e a ad hta hl hz hw=>?_,?_⟩
      · exact hx.chan (hF c hc.1 h.chan_lt)
      · rcases Qcp hta with ⟨_,h1⟩ | ⟨_,op,h1,h2,h3⟩
        · exact (hx.own e a ad h1 hl (hF _ hFb.1 (h.old_low h1 hl)) hz).app _
        · have:=knows_own h3; rwa [hg op h1] at this
      · rcases Qcp hta with ⟨_,h1⟩ | ⟨_,op,h1,h2,h3⟩
        · exact (hx.shr e a ad h1 hl hz hw).app _
        · have:=knows_own h3; rwa [hg op h1] at this
      · rw [Deaf_own,deafBehind_still (fun e hee=>Qff (he e hee))]; exact hx.deaf
    · rw [Z6 hj] at hy
      obtain ⟨y0,hy0,rfl⟩:=Option.map_eq_some_iff.1 hy
      obtain ⟨hjn,sy⟩:=h.seen j y0 hy0
      obtain ⟨hag,hk⟩:=hgrow j y0 hj hy0
      have hap:=h.apart i j x y0 (Ne.symm hj) hi hy0
      refine ⟨hjn,hag,sy.nov.rel Qdr,fun b hb=>Nat.lt_of_lt_of_le (sy.bnd b hb) ha.size,sy.chan,fun e a ad hta hl hFb hz=>?_,fun e a ad hta hl hz hw=>?_,?_⟩
      · rcases Qcp hta with ⟨_,h1⟩ | ⟨_,op,h1,h2,h3⟩
        · exact (sy.own e a ad h1 hl hFb hz).app _
        · obtain ⟨ad',h4,h5,h6,_⟩:=hop op h1 a h2
          rw [hl] at h4; cases h4
          exact absurd (hap _ (hF _ h5 (sy.bnd _ hFb)) hFb).2 hz
      · rcases Qcp hta with ⟨_,h1⟩ | ⟨_,op,h1,h2,h3⟩
        · exact (sy.shr e a ad h1 hl hz hw).app _
        · obtain ⟨ad',h4,h5,h6,_⟩:=hop op h1 a h2
          rw [hl] at h4; cases h4
          have hFb : y0.F ad.block:=sy.agr.zf _ hz
          exact absurd (hap _ (hF _ h5 (sy.bnd _ hFb)) hFb).1 (h6 hw)
      · rw [Deaf_other t (Ne.symm hj) _ hg]; exact sy.deaf
  · have key : ∀ j y, j ≠ i → Qac vs i (some ⟨fun b => F' b ∧ b < W'.heap.size, x.Z, w'⟩) W' j = some y → Apart ⟨fun b => F' b ∧ b < W'.heap.size, x.Z, w'⟩ y := fun j y hj hy => by
      rw [Z6 hj] at hy
      obtain ⟨y0,hy0,rfl⟩:=Option.map_eq_some_iff.1 hy
      intro b hb hyb
      exact h.apart i j x y0 (Ne.symm hj) hi hy0 b (hF b hb.1 ((h.seen j y0 hy0).2.bnd b hyb)) hyb
    by_cases hj : j = i
    · subst hj
      rw [Jo] at hy; cases hy
      exact key k z (Ne.symm hjk) hz
    · by_cases hk : k = i
      · subst hk
        rw [Jo] at hz; cases hz
        exact (key j y hjk hy).symm
      · rw [Z6 hj] at hy; rw [Z6 hk] at hz
        obtain ⟨y0,hy0,rfl⟩:=Option.map_eq_some_iff.1 hy
        obtain ⟨z0,hz0,rfl⟩:=Option.map_eq_some_iff.1 hz
        exact h.apart j k y0 z0 hjk hy0 hz0
  · obtain ⟨s,hs⟩:=h.chan
    exact ⟨s,by rw [ha.keep c h.chan_lt (.inl hx.chan)]; exact hs⟩
  · refine noRace_append (h.clean said) hg fun e a hta op hop' b hb hcf=>?_
    obtain ⟨ad,h4,h5,h6,_⟩:=hop op hop' b hb
    have hl : a.loc = .cell ad:=hcf.1.trans h4
    have hFb:=hF _ h5 (h.old_low hta hl)
    rcases Classical.em (x.Z ad.block) with hz | hz
    · refine hx.shr e a ad hta hl hz ?_
      rcases hcf.2.2.1 with h7 | h7
      · exact h7
      · exact absurd hz (h6 h7)
    · exact hx.own e a ad hta hl hFb hz
  · rcases Qcp hta with ⟨_,h1⟩ | ⟨_,op,h1,h2,h3⟩
    · rcases h.known e a h1 hm with h4 | h4 | ⟨j,h4,h5⟩
      · exact .inl (h4.app _)
      · exact .inr (.inl h4)
      · exact .inr (.inr ⟨j,Qyu h4,h5.app _⟩)
    · have:=knows_own h3
      rw [hg op h1] at this
      exact .inr (.inr ⟨i,by rw [Jo]; rfl,this⟩)
  · rcases g?_cases hge with ⟨h0,h1⟩ | ⟨_,op,h1,h2,h3⟩
    · rcases h.over e g h1 hne ((counts_old h0).1 hc) with ⟨j,h4,h5⟩ | ⟨j,h4,h5⟩
      · exact .inl ⟨j,by rw [g?_old (lt_of_g? h4)]; exact h4,hb_app _ h5⟩
      · exact .inr ⟨j,Qyu h4,h5.app _⟩
    · have:=knows_own h3
      rw [hg op h1] at this
      exact .inr ⟨i,by rw [Jo]; rfl,this⟩
  · rw [Deaf_other t (by omega) _ hg]; exact h.above j hj
  · rcases Array.mem_append.1 hop' with h1 | h1
    · exact MemAct.low_mono ha.size (h.low op h1)
    · obtain ⟨e,hee,rfl⟩:=Conc.mem_ofEvents h1
      refine Qnk (F:=fun b=>F' b) (he e hee) fun b hb=>?_
      rcases ha.new b hb with h2 | h2
      · exact Nat.lt_of_lt_of_le (hx.bnd b h2) ha.size
      · exact h2.2
  · -- what is shared,goroutine 0 sees
    have hZ : ∃ y',vs j = some y' ∧ y'.Z b:=by
      by_cases hj : j = i
      · subst hj; rw [Jo] at hy; cases hy; exact ⟨x,hi,hb⟩
      · rw [Z6 hj] at hy
        obtain ⟨y',h1,rfl⟩:=Option.map_eq_some_iff.1 hy
        exact ⟨y',h1,hb⟩
    obtain ⟨y',hy',hb'⟩:=hZ
    by_cases h0 : 0 = i
    · subst h0; rw [Jo] at hy0; cases hy0
      have hxb:=h.mono j y' x hy' hi b hb'
      exact ⟨ha.more b hxb,Nat.lt_of_lt_of_le (hx.bnd b hxb) ha.size⟩
    · rw [Z6 h0] at hy0
      obtain ⟨y00,h1,rfl⟩:=Option.map_eq_some_iff.1 hy0
      exact h.mono j y' y00 hy' h1 b hb'
end
end Go.Gw
