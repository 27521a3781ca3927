/- Goroutines: a new goroutine, a meeting at the channel: what is known. No condition. -/
import Derived.Test.YtbplgfhjpeeieaaGwCj10
set_option linter.unusedVariables false
set_option linter.unusedSimpArgs false
set_option linter.unusedSectionVars false
set_option linter.unusedVariables false
namespace Go.Gw
open Go Go.Conc
section
variable {Sh : Loc → Prop} {c n : Nat} {vs : Nat → Option View} {W W' : World} {t : Trace} {i : Nat} {x : View}

theorem Qhx {t1 : Trace} {y : MemOp} (u : Trace) : (t1 ++ #[y] ++ u)[t1.size]? = some y:=by
  rw [Array.append_assoc,Array.getElem?_append_right (Nat.le_refl _),Nat.sub_self,Array.getElem?_append_left (by simp)]; rfl
theorem Qrp {t1 : Trace} {y : MemOp} : (t1 ++ #[y])[t1.size]? = some y:=by
  have:=Qhx (t1:=t1) (y:=y) #[]
  rwa [Array.append_empty] at this
theorem Qji {t1 : Trace} {y : MemOp} (u : Trace) (hd : Deaf t1 y.g = 0) : (t1 ++ #[y] ++ u).heard t1.size:=by
  refine ⟨y.g,by rw [Trace.g?,Qhx]; rfl,?_⟩
  rw [Array.append_assoc,deaf_old (Nat.le_refl _)]
  exact hd

theorem Qfa (k g : Nat) (fn : FuncId) (pos : String) : Jb { g:=g,fn:=fn,pos:=pos,act:=.go k }:=⟨rfl,by simp,by simp⟩
theorem Qik (g : Nat) (fn : FuncId) (pos : String) : Jb { g:=g,fn:=fn,pos:=pos,act:=.start }:=⟨rfl,by simp,by simp⟩
theorem Qii (k s g : Nat) (fn : FuncId) (pos : String) : Jb { g:=g,fn:=fn,pos:=pos,act:=.send k s }:=⟨rfl,by simp,by simp⟩
theorem Qih (k s r g : Nat) (fn : FuncId) (pos : String) : Jb { g:=g,fn:=fn,pos:=pos,act:=.recv k s r }:=⟨rfl,by simp,by simp⟩
theorem Qij (k s g : Nat) (fn : FuncId) (pos : String) : Jb { g:=g,fn:=fn,pos:=pos,act:=.sendDone k s }:=⟨rfl,by simp,by simp⟩
theorem Qna (k s g : Nat) (fn : FuncId) (pos : String) : Jb { g:=g,fn:=fn,pos:=pos,act:=.recvDone k s }:=⟨rfl,by simp,by simp⟩

theorem QKn {fn fn' : FuncId} {pos pos' : String} (h0 : Deaf t 0 = 0) (hn : Deaf t n = 0) {e : Nat} (hk : Knows t 0 e) : Knows (t ++ #[{ g:=0,fn:=fn,pos:=pos,act:=.go n }] ++ #[{ g:=n,fn:=fn',pos:=pos',act:=.start }]) n e:=by
  obtain ⟨q,z,h1,h2,h3⟩:=hk
  have hq:=lt_size_of_getElem? h1
  generalize hy1 : ({ g:=0,fn:=fn,pos:=pos,act:=.go n } : MemOp) = y1
  generalize hy2 : ({ g:=n,fn:=fn',pos:=pos',act:=.start } : MemOp) = y2
  have c1 : Jb y1:=by subst hy1; exact Qfa ..
  have e1 : (t ++ #[y1] ++ #[y2])[t.size]? = some y1:=Qhx _
  have e2 : (t ++ #[y1] ++ #[y2])[(t ++ #[y1]).size]? = some y2:=Qrp
  have eq : (t ++ #[y1] ++ #[y2])[q]? = some z:=by rw [getElem?_append_old (by simp; omega),getElem?_append_old hq]; exact h1
  have g1 : HappensBefore (t ++ #[y1] ++ #[y2]) e t.size:=((h3.app #[y1]).app #[y2]).hb (hb_po hq eq e1 (by subst hy1; exact h2))
  refine ⟨_,y2,e2,by subst hy2; rfl,.inr (g1.trans (.single (.inr ⟨?_,?_,?_⟩)))⟩
  · refine .spawn (child:=n) ?_ ?_ ?_
    · rw [Trace.act?,e1]; subst hy1; rfl
    · rw [Trace.act?,e2]; subst hy2; rfl
    · rw [Trace.g?,e2]; subst hy2; rfl
  · exact Qji _ (by subst hy1; exact h0)
  · have:=Qji (t1:=t ++ #[y1]) (y:=y2) #[] (by rw [ZZ c1]; subst hy2; exact hn)
    rwa [Array.append_empty] at this

theorem QKm {h r s : Nat} {f1 f2 f3 f4 : FuncId} {p1 p2 p3 p4 : String} (h0 : Deaf t 0 = 0) (hh : Deaf t h = 0) {e : Nat} (hk : Knows t h e) :
    Knows (t ++ #[{ g:=h,fn:=f1,pos:=p1,act:=.send c s }] ++ #[{ g:=0,fn:=f2,pos:=p2,act:=.recv c s r }] ++ #[{ g:=h,fn:=f3,pos:=p3,act:=.sendDone c s }] ++ #[{ g:=0,fn:=f4,pos:=p4,act:=.recvDone c s }]) 0 e:=by
  obtain ⟨q,z,h1,h2,h3⟩:=hk
  have hq:=lt_size_of_getElem? h1
  generalize hy1 : ({ g:=h,fn:=f1,pos:=p1,act:=.send c s } : MemOp) = y1
  generalize hy2 : ({ g:=0,fn:=f2,pos:=p2,act:=.recv c s r } : MemOp) = y2
  generalize hy3 : ({ g:=h,fn:=f3,pos:=p3,act:=.sendDone c s } : MemOp) = y3
  generalize hy4 : ({ g:=0,fn:=f4,pos:=p4,act:=.recvDone c s } : MemOp) = y4
  have c1 : Jb y1:=by subst hy1; exact Qii ..
  have c2 : Jb y2:=by subst hy2; exact Qih ..
  have c3 : Jb y3:=by subst hy3; exact Qij ..
  have eT : t ++ #[y1] ++ #[y2] ++ #[y3] ++ #[y4] = t ++ #[y1] ++ (#[y2] ++ #[y3] ++ #[y4]):=by simp only [Array.append_assoc]
  have e1 : (t ++ #[y1] ++ #[y2] ++ #[y3] ++ #[y4])[t.size]? = some y1:=by rw [eT]; exact Qhx _
  have e4 : (t ++ #[y1] ++ #[y2] ++ #[y3] ++ #[y4])[(t ++ #[y1] ++ #[y2] ++ #[y3]).size]? = some y4:=Qrp
  have eq : (t ++ #[y1] ++ #[y2] ++ #[y3] ++ #[y4])[q]? = some z:=by rw [eT,getElem?_append_old (by simp; omega),getElem?_append_old hq]; exact h1
  have g1 : HappensBefore (t ++ #[y1] ++ #[y2] ++ #[y3] ++ #[y4]) e t.size:=((((h3.app #[y1]).app #[y2]).app #[y3]).app #[y4]).hb (hb_po hq eq e1 (by subst hy1; exact h2))
  refine ⟨_,y4,e4,by subst hy4; rfl,.inr (g1.trans (.single (.inr ⟨?_,?_,?_⟩)))⟩
  · refine .handOver (c:=c) (k:=s) ?_ ?_
    · rw [Trace.act?,e1]; subst hy1; rfl
    · rw [Trace.act?,e4]; subst hy4; rfl
  · rw [eT]; exact Qji _ (by subst hy1; exact hh)
  · have:=Qji (t1:=t ++ #[y1] ++ #[y2] ++ #[y3]) (y:=y4) #[] (by rw [ZZ c3,ZZ c2,ZZ c1]; subst hy4; exact h0)
    rwa [Array.append_empty] at this

theorem PI.fork {C : Nat → Prop} (h : PI Sh c vs n W t) (h0 : vs 0 = some x) (hC : ∀ b, C b → x.F b) (hR : Rows C x.w) (fn fn' : FuncId) (pos pos' : String) :
    PI Sh c (fun j=>if j = 0 then some ⟨x.F,fun b=>x.Z b ∨ C b,frz C x.w⟩ else if j = n then some ⟨fun b=>x.Z b ∨ C b,fun b=>x.Z b ∨ C b,hid (fun b=>x.Z b ∨ C b) (frz C x.w)⟩ else vs j) (n + 1) W
      (t ++ #[{ g:=0,fn:=fn,pos:=pos,act:=.go n }] ++ #[{ g:=n,fn:=fn',pos:=pos',act:=.start }]):=by
  have hb:=(h.calm (Qfa n 0 fn pos) trivial).calm (Qik n fn' pos') trivial
  have hn0 : 0 < n:=(h.seen 0 x h0).1
  have hx:=(h.seen 0 x h0).2
  have hx2:=(hb.seen 0 x h0).2
  have hone : ∀ j y,vs j = some y → j ≠ n:=fun j y hy e=>by have:=(h.seen j y hy).1; omega
  have hold : ∀ e a,touchAt (t ++ #[{ g:=0,fn:=fn,pos:=pos,act:=.go n }] ++ #[{ g:=n,fn:=fn',pos:=pos',act:=.start }]) e = some a → touchAt t e = some a:=fun e a ha=>Qaw (Qfa n 0 fn pos) (Qaw (Qik n fn' pos') ha)
  have hagr:=hx.agr.frz hC hR
  have hF : ∀ b,(x.Z b ∨ C b) → x.F b:=fun b hz=>hz.elim (hx.agr.zf b) (hC b)
  have hdn:=h.above n (Nat.le_refl _)
  have hap0 : ∀ j y,j ≠ 0 → vs j = some y → ∀ b,x.F b → y.F b → x.Z b ∧ y.Z b:=fun j y hj hy=>h.apart 0 j x y (Ne.symm hj) h0 hy
  refine ⟨fun j y hy=>?_,fun j k y z hjk hy hz=>?_,hb.chan,hb.clean,fun e a ha hm=>?_,fun e g hge hne hc=>?_,fun j hj=>hb.above j (by omega),hb.low,fun j y y0 hy hy0 b hz=>?_⟩
  · by_cases hj : j = 0
    · subst hj
      rw [if_pos rfl] at hy; cases hy
      refine ⟨by omega,hagr,hx.nov.frz,hx.bnd,hx.chan,fun e a ad ha hl hFb hz=>hx2.own e a ad ha hl hFb (fun e=>hz (.inl e)),fun e a ad ha hl hz hw=>?_,hx2.deaf⟩
      by_cases hZ : x.Z ad.block
      · exact hx2.shr e a ad ha hl hZ hw
      · exact hx2.own e a ad ha hl (hF _ hz) hZ
    · rw [if_neg hj] at hy
      by_cases hjn : j = n
      · subst hjn
        rw [if_pos rfl] at hy; cases hy
        refine ⟨by omega,hagr.hide (fun b=>Iff.rfl),hx.nov.frz.hide,fun b hb=>hx.bnd b (hF b hb),fun hc=>hx.chan (hF c hc),fun e a ad ha hl hFb hz=>absurd hFb hz,fun e a ad ha hl hz hw=>?_,?_⟩
        · refine QKn hx.deaf hdn ?_
          by_cases hZ : x.Z ad.block
          · exact hx.shr e a ad (hold e a ha) hl hZ hw
          · exact hx.own e a ad (hold e a ha) hl (hF _ hz) hZ
        · rw [ZZ (Qik ..),ZZ (Qfa ..)]; exact hdn
      · rw [if_neg hjn] at hy
        exact ⟨by have:=(hb.seen j y hy).1; omega,(hb.seen j y hy).2⟩
  · have main : ∀ k z, k ≠ 0 → (if k = 0 then some (⟨x.F, fun b => x.Z b ∨ C b, frz C x.w⟩ : View) else if k = n then some ⟨fun b => x.Z b ∨ C b, fun b => x.Z b ∨ C b, hid (fun b => x.Z b ∨ C b) (frz C x.w)⟩ else vs k) = some z → Apart ⟨x.F, fun b => x.Z b ∨ C b, frz C x.w⟩ z := fun k z hk hz b h1 h2 => by
      rw [if_neg hk] at hz
      by_cases hkn : k = n
      · rw [if_pos hkn] at hz; cases hz; exact ⟨h2,h2⟩
      · rw [if_neg hkn] at hz
        have:=hap0 k z hk hz b h1 h2
        exact ⟨.inl this.1,this.2⟩
    have chld : ∀ k z,k ≠ 0 → k ≠ n → vs k = some z → Apart ⟨fun b=>x.Z b ∨ C b,fun b=>x.Z b ∨ C b,hid (fun b=>x.Z b ∨ C b) (frz C x.w)⟩ z:=fun k z hk hkn hz b h1 h2=>⟨h1,(hap0 k z hk hz b (hF b h1) h2).2⟩
    by_cases hj : j = 0
    · subst hj
      rw [if_pos rfl] at hy; cases hy
      exact main k z (Ne.symm hjk) hz
    · by_cases hk : k = 0
      · subst hk
        rw [if_pos rfl] at hz; cases hz
        exact (main j y hj hy).symm
      · rw [if_neg hj] at hy; rw [if_neg hk] at hz
        by_cases hjn : j = n
        · subst hjn
          rw [if_pos rfl] at hy; cases hy
          rw [if_neg (Ne.symm hjk)] at hz
          exact chld k z hk (Ne.symm hjk) hz
        · rw [if_neg hjn] at hy
          by_cases hkn : k = n
          · subst hkn
            rw [if_pos rfl] at hz; cases hz
            exact (chld j y hj hjk hy).symm
          · rw [if_neg hkn] at hz
            exact h.apart j k y z hjk hy hz
  · rcases hb.known e a ha hm with h4 | h4 | ⟨j,h4,h5⟩
    · exact .inl h4
    · exact .inr (.inl h4)
    · refine .inr (.inr ⟨j,?_,h5⟩)
      by_cases hj : j = 0
      · simp [hj]
      · by_cases hjn : j = n
        · simp [hjn]; split <;> rfl
        · simp [hj,hjn,h4]
  · rcases hb.over e g hge hne hc with h4 | ⟨j,h4,h5⟩
    · exact .inl h4
    · refine .inr ⟨j,?_,h5⟩
      by_cases hj : j = 0
      · simp [hj]
      · by_cases hjn : j = n
        · simp [hjn]; split <;> rfl
        · simp [hj,hjn,h4]
  · rw [if_pos rfl] at hy0; cases hy0
    by_cases hj : j = 0
    · subst hj; rw [if_pos rfl] at hy; cases hy; exact hF b hz
    · rw [if_neg hj] at hy
      by_cases hjn : j = n
      · rw [if_pos hjn] at hy; cases hy; exact hF b hz
      · rw [if_neg hjn] at hy; exact h.mono j y x hy h0 b hz
end
end Go.Gw
