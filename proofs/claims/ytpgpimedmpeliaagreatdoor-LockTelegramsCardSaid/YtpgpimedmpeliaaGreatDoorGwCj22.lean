/- Goroutines: pieces of goroutine 0's code between communications; what holds of its view while it shares. No condition. -/
import Derived.Test.YtpgpimedmpeliaaGreatDoorGwCj21
import Derived.Test.YtpgpimedmpeliaaGreatDoorGwLib6
set_option linter.unusedVariables false
set_option linter.unusedSimpArgs false
set_option linter.unusedSectionVars false
set_option linter.unusedVariables false
set_option linter.unusedSectionVars false
namespace Go.Gw
open Go Go.Conc

section
variable {P:Program} [JD P] {n:Nat} {ρ:Env} {w:World} {b:Frame} {kk:List Item} {cs:List Frame} {Stop:Goroutine→World→Prop}
theorem QFg {ops : List Oper} {i : Nat} {rest : List Nat} {o : Oper} {K : Value → World → Prop} (hi : ops[i]? = some o) (hw : Xx ops.toArray o n ρ = true) (h : Eff P o n ρ w K) (hb : b.kind ≠ .early)
    (hK:∀ v w',K v w'→Wlk (JD.j (P:=P)) Stop (G (b.at (act n (Xb ρ o.dst v)) (.inRegion ops.toArray rest::kk)) cs) w'):Wlk (JD.j (P:=P)) Stop (G (b.at (act n ρ) (.inRegion ops.toArray (i::rest)::kk)) cs) w:=by
  have hi':ops.toArray[i]?=some o:=by simpa using hi
  have hs:Stp P n ops.toArray o ρ w (fun ρ' w'=>∃ v,ρ'=Xb ρ o.dst v∧K v w'):=by
    unfold Stp;rw [if_pos hw]
    exact h.mono fun v w' h'=>⟨v,rfl,h'⟩
  refine Qka (K:=fun a w=>∃ v,a=act n (Xb ρ o.dst v)∧K v w) (hs.toOp hi' fun ρ' w' ⟨v,hv,h'⟩=>⟨v,by rw [hv],h'⟩) hb fun a' w' ⟨v,ha,h'⟩=>?_
  subst ha
  exact hK v w' h'
theorem Qwo {o:Oper} {v:Value} {K:Value→World→Prop} (hy:Yl P n ρ o w v) (h:K v w):Eff P o n ρ w K:=⟨hy.1,.inl ⟨v,hy.2,h⟩⟩
theorem Qvp {c : Code} {K : Env → World → Prop} (h : WC P n c ⟨K, fun _ _ _ => False, fun _ _ => False⟩ ρ w) (hb : b.kind ≠ .early)
    (hK:∀ ρ' w',K ρ' w'→Wlk (JD.j (P:=P)) Stop (G (b.at (act n ρ') kk) cs) w'):Wlk (JD.j (P:=P)) Stop (G (b.at (act n ρ) (.code c::kk)) cs) w :=
  h b kk cs Stop hb fun e a' w' q=>by
    cases e<;>first
      | (obtain ⟨ρ',rfl,h'⟩:=q;exact hK ρ' w' h')
      | (obtain ⟨_,_,h'⟩:=q;exact h'.elim)
      | exact q.elim
theorem Qgi {id : Nat} {ops : List Oper} {K : Env → World → Prop} (h : T0 P n ops.toArray K ops ρ w) (hb : b.kind ≠ .early)
    (hK:∀ ρ' w',K ρ' w'→Wlk (JD.j (P:=P)) Stop (G (b.at (act n ρ') kk) cs) w'):Wlk (JD.j (P:=P)) Stop (G (b.at (act n ρ) (.code (.region id ops.toArray false)::kk)) cs) w :=
  Qvp (QB (q:=⟨K,fun _ _ _=>False,fun _ _=>False⟩) h) hb hK
section
variable {J:Jd P}
theorem Jj {a:Act} {x y:Code} (h:Wlk J Stop (G (b.at a (.code x::.code y::kk)) cs) w):Wlk J Stop (G (b.at a (.code (.seq x y)::kk)) cs) w:=.ctl rfl (fun _=>stepG_seq) h
theorem QGw {a:Act} (h:Wlk J Stop (G (b.at a kk) cs) w):Wlk J Stop (G (b.at a (.code .skip::kk)) cs) w:=.ctl rfl (fun _=>stepG_skip) h
theorem Qmj {a:Act} {i:Nat} {c:Code} (h:Wlk J Stop (G (b.at a (.code c::.inBlock i::kk)) cs) w):Wlk J Stop (G (b.at a (.code (.block i c)::kk)) cs) w:=.ctl rfl (fun _=>stepG_block) h
theorem Qza {a:Act} {i:Nat} (h:Wlk J Stop (G (b.at a kk) cs) w):Wlk J Stop (G (b.at a (.inBlock i::kk)) cs) w:=.ctl rfl (fun _=>stepG_inBlock) h
theorem QBr {a:Act} {c:Code} (h:Wlk J Stop (G (b.at a (.code c::.inLoop c::kk)) cs) w):Wlk J Stop (G (b.at a (.code (.loop c)::kk)) cs) w:=.ctl rfl (fun _=>stepG_loop) h
theorem Qzb {a:Act} {c:Code} (h:Wlk J Stop (G (b.at a (.code c::.inLoop c::kk)) cs) w):Wlk J Stop (G (b.at a (.inLoop c::kk)) cs) w:=.ctl rfl (fun _=>stepG_inLoop) h
theorem Qxa {a:Act} {id:Nat} {k':List Item} (he:exitTo id kk=some k') (h:Wlk J Stop (G (b.at a k') cs) w):Wlk J Stop (G (b.at a (.code (.exit id)::kk)) cs) w:=.ctl rfl (fun _=>stepG_exit he) h
theorem Qik {a:Act} {ops:Array Oper} (h:Wlk J Stop (G (b.at a kk) cs) w):Wlk J Stop (G (b.at a (.inRegion ops []::kk)) cs) w:=.ctl rfl (fun _=>stepG_region_end) h
theorem Qgj {a:Act} {id:Nat} {ops:Array Oper} (h:Wlk J Stop (G (b.at a (.inRegion ops (List.range ops.size)::kk)) cs) w):Wlk J Stop (G (b.at a (.code (.region id ops false)::kk)) cs) w:=.ctl rfl (fun _=>stepG_region) h
theorem Qvr {c:Operand} {x y:Code} {t:Bool} (hc:Qk n ρ c=.bool t) (h:Wlk J Stop (G (b.at (act n ρ) (.code (bif t then x else y)::kk)) cs) w):Wlk J Stop (G (b.at (act n ρ) (.code (.cond c x y)::kk)) cs) w:=by
  refine .ctl rfl (fun _=>stepG_cond (by rw [ZA];exact hc)) ?_
  cases t<;>exact h
end
end

section
variable {P:Program} {c:Nat} {S:Goroutine→World→Prop} {Z:Nat→Prop} {orig:Nat→Option Obj} {O:List (Value→World→Prop)} {g:Goroutine} {w w1 w':World}
end

/-! ### Rows -/
def RowAt (w:World) (b:Nat) (cs:List Value):Prop:=∃ e fz,w.heap[b]?=some (.cells cs.toArray e fz)
theorem RowAt.at {w:World} {b:Nat} {cs:List Value} (h:RowAt w b cs):At w ⟨b,0,none⟩ cs:=by
  obtain ⟨e,fz,h⟩:=h
  exact At.of_block h fun j v hv=>by simpa using hv
theorem Box.row {w:World} {b:Nat} {cs:List Value} {T:TypeId} (h:Box w b cs T):RowAt w b cs:=⟨_,_,h⟩
theorem RowAt.step {L L':List Value} {w w':World} {b:Nat} {cs:List Value} (s:Stepp L w L' w') (hA:Avoids L b) (h:RowAt w b cs):RowAt w' b cs:=by
  obtain ⟨e,fz,h⟩:=h
  obtain ⟨⟨fz',h1⟩,_⟩:=s.keeps h hA
  exact ⟨e,fz',h1⟩
theorem Qax {b x:Nat} (h:x≠b):Avoids [pt b] x:=fun y hy e=>by
  rcases List.mem_singleton.1 hy with rfl
  simp [pt,Qj] at e;exact h e.symm
theorem Qga {L:List Value} {b x:Nat} (h:pt b∈L) (hA:Avoids L x):x≠b:=fun e=>hA _ h (by simp [pt,Qj,e])

def CC (w:World) (b8:Nat):Nat→Prop:=fun b=>b≠b8∧∃ cs e fz,w.heap[b]?=some (.cells cs e fz)
structure Inv (w0:World) (b8:Nat) (Z:Nat→Prop) (orig:Nat→Option Obj) (w:World):Prop where
  os:w.os=w0.os
  tape:w.tape=w0.tape
  output:w.output=w0.output
  size:w0.heap.size≤w.heap.size
  old:∀ b,b < w0.heap.size→b≠b8→(Z b→orig b=w0.heap[b]?)∧(¬ Z b→w.heap[b]?=w0.heap[b]?)
  zrow:∀ b,Z b→∃ cs e fz fz',w.heap[b]?=some (.cells cs e fz)∧orig b=some (.cells cs e fz')
  z8:¬ Z b8
  lt8:b8 < w0.heap.size
section
variable {w0 w w1 w':World} {b8:Nat} {Z:Nat→Prop} {orig:Nat→Option Obj} {L:List Value}
theorem Inv.chg {b:Nat} (h:Inv w0 b8 Z orig w) (c:Chg [pt b] w w') (hb:b=b8∨(w0.heap.size≤b∧¬ Z b)):Inv w0 b8 Z orig w':=by
  have hz:∀ x,Z x→x≠b:=fun x hx e=>by
    subst e
    rcases hb with rfl | ⟨_,h1⟩
    · exact h.z8 hx
    · exact h1 hx
  refine ⟨c.os.trans h.os,c.tape.trans h.tape,c.output.trans h.output,Nat.le_trans h.size c.size,fun x hx h8=>⟨(h.old x hx h8).1,fun hn=>?_⟩,fun x hx=>?_,h.z8,h.lt8⟩
  · have hne : x ≠ b := fun e => by
      subst e
      rcases hb with rfl | ⟨h1,_⟩
      · exact h8 rfl
      · omega
    rw [c.block x (Nat.lt_of_lt_of_le hx h.size) (Qax hne)]
    exact (h.old x hx h8).2 hn
  · obtain ⟨cs,e,fz,fz',h1,h2⟩:=h.zrow x hx
    exact ⟨cs,e,fz,fz',by rw [c.block x (Ys h1) (Qax (hz x hx))];exact h1,h2⟩
theorem Inv.ext (h:Inv w0 b8 Z orig w) (c:Ext w w'):Inv w0 b8 Z orig w':=h.chg (b:=b8) (c.mono fun _ h=>by cases h) (.inl rfl)
theorem Inv.rel (h:Inv w0 b8 Z orig w) (r:Rel w w'):Inv w0 b8 Z orig w':=h.ext r.ext
theorem Inv.frz (h:Inv w0 b8 Z orig w) (r:Rel w w1):Inv w0 b8 (fun b=>Z b∨CC w b8 b) (Z0 Z (CC w b8) w1 orig) (Gw.frz (CC w b8) w1):=by
  have h1:=h.rel r
  refine ⟨h1.os,h1.tape,h1.output,by rw [Qfg];exact h1.size,fun b hb h8=>⟨fun hz=>?_,fun hn=>?_⟩,fun b hz=>?_,fun hz=>hz.elim h.z8 fun hc=>hc.1 rfl,h.lt8⟩
  · unfold Z0
    by_cases hZ:Z b
    · rw [if_pos hZ];exact (h1.old b hb h8).1 hZ
    · rw [if_neg hZ];exact (h1.old b hb h8).2 hZ
  · rw [ZF,(h1.old b hb h8).2 fun e=>hn (.inl e)]
    have hC:¬ CC w b8 b:=fun e=>hn (.inr e)
    simp [hC]
  · by_cases hZ:Z b
    · obtain ⟨cs,e,fz,fz',k1,k2⟩:=h1.zrow b hZ
      have k3:Z0 Z (CC w b8) w1 orig b=some (.cells cs e fz'):=by unfold Z0;rw [if_pos hZ];exact k2
      by_cases hC:CC w b8 b
      · exact ⟨cs,e,(0,cs.size),fz',by rw [ZF,k1];simp [hC],k3⟩
      · exact ⟨cs,e,fz,fz',by rw [ZF,k1];simp [hC],k3⟩
    · have hC:=hz.resolve_left hZ
      obtain ⟨_,cs,e,fz,k1⟩:=id hC
      have k2:w1.heap[b]?=some (.cells cs e fz):=(r.block b (Ys k1)).trans k1
      exact ⟨cs,e,(0,cs.size),fz,by rw [ZF,k2];simp [hC],by unfold Z0;rw [if_neg hZ];exact k2⟩
theorem Inv.stepp (h:Inv w0 b8 Z orig w) (hL:pt b8∈L):Stepp L w0 L w:=⟨fun {b cs e fz} hb hA=>⟨by
  have h8:=Qga hL hA
  have hlt:=Ys hb
  by_cases hz:Z b
  · obtain ⟨cs',e',f1,f2,k1,k2⟩:=h.zrow b hz
    rw [(h.old b hlt h8).1 hz,hb] at k2
    cases k2
    exact ⟨f1,k1⟩
  · exact ⟨fz,by rw [(h.old b hlt h8).2 hz];exact hb⟩,hA⟩⟩
theorem Inv.thaw (h:Inv w0 b8 Z orig w):Chg [pt b8] w0 (Gw.thaw Z orig w):=⟨h.os,h.tape,h.output,by rw [Qlc];exact h.size,fun b hb hA=>by
  have h8:b≠b8:=Qga (L:=[pt b8]) (by simp) hA
  rw [Qbz]
  by_cases hz:Z b
  · obtain ⟨cs,e,f1,f2,k1,k2⟩:=h.zrow b hz
    rw [k1]
    simp only [Option.map_some,if_pos hz,k2,Option.getD_some]
    rw [← (h.old b hb h8).1 hz,k2]
  · rw [(h.old b hb h8).2 hz]
    simp [hz]⟩
theorem Inv.thawS (h:Inv w0 b8 Z orig w):Stepp L w L (Gw.thaw Z orig w):=⟨fun {b cs e fz} hb hA=>⟨by
  rw [Qbz,hb]
  by_cases hz:Z b
  · obtain ⟨cs',e',f1,f2,k1,k2⟩:=h.zrow b hz
    rw [hb] at k1;cases k1
    exact ⟨f2,by simp [hz,k2]⟩
  · exact ⟨fz,by simp [hz]⟩,hA⟩⟩
theorem Qml (hL:pt b8∈L) (r:Rel w w1):Stepp L w L (hid (fun b=>Z b∨CC w b8 b) (frz (CC w b8) w1)):=⟨fun {b cs e fz} hb hA=>⟨by
  have hC:CC w b8 b:=⟨Qga hL hA,_,_,_,hb⟩
  exact ⟨(0,cs.size),by rw [Qfj,ZF,r.block b (Ys hb),hb];simp [hC]⟩,hA⟩⟩
theorem Qvj (r:Rel w w1):Rows (CC w b8) w1:=fun b hb=>by
  obtain ⟨_,cs,e,fz,h⟩:=hb
  exact ⟨cs,e,fz,(r.block b (Ys h)).trans h⟩
theorem Shows.stepp (h:Shows w w'):Stepp L w L w':=⟨fun {b cs e fz} hb hA=>⟨⟨fz,h b cs e fz hb⟩,hA⟩⟩
end

/-! ### The making of a channel -/
end Go.Gw
