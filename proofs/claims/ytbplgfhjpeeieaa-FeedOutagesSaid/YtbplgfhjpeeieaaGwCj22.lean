/- Goroutines: pieces of goroutine 0's code between communications; what holds of its view while it shares. No condition. -/
import Derived.Test.YtbplgfhjpeeieaaGwCj21
import Derived.Test.YtbplgfhjpeeieaaGwPlan
set_option linter.unusedVariables false
set_option linter.unusedSimpArgs false
set_option linter.unusedSectionVars false
set_option linter.unusedVariables false
set_option linter.unusedSectionVars false
namespace Go.Gw
open Go Go.Conc

section
variable {P : Program} [JD P] {n : Nat} {ρ : Env} {w : World} {b : Frame} {kk : List Item} {cs : List Frame} {Stop : Goroutine → World → Prop}
theorem Qyn {ops : List Oper} {K : Env → World → Prop} {k m : Nat} (hk : k + m = ops.length) (h : T0 P n ops.toArray K (ops.drop k) ρ w) (hb : b.kind ≠ .early)
    (hK : ∀ ρ' w',K ρ' w' → Wlk (JD.j (P:=P)) Stop (G (b.at (act n ρ') kk) cs) w') : Wlk (JD.j (P:=P)) Stop (G (b.at (act n ρ) (.inRegion ops.toArray (List.range' k m) :: kk)) cs) w :=
  T0.toOps (Q:=fun e a w=>match e with | .normal=>∃ ρ,a = act n ρ ∧ K ρ w | _=>False) (fun ρ w h=>⟨ρ,rfl,h⟩) m k ρ w hk h b kk cs Stop hb fun e a' w' q=>by
    cases e with
    | normal=>obtain ⟨ρ',rfl,h'⟩:=q; exact hK ρ' w' h'
    | _=>exact q.elim
theorem Qyl {ops : List Oper} {i : Nat} {rest : List Nat} {o : Oper} {K : Value → World → Prop} (hi : ops[i]? = some o) (hw : Yf ops.toArray o n ρ = true) (h : Eff P o n ρ w K) (hb : b.kind ≠ .early)
    (hK : ∀ v w',K v w' → Wlk (JD.j (P:=P)) Stop (G (b.at (act n (XG ρ o.dst v)) (.inRegion ops.toArray rest :: kk)) cs) w') : Wlk (JD.j (P:=P)) Stop (G (b.at (act n ρ) (.inRegion ops.toArray (i :: rest) :: kk)) cs) w:=by
  have hi' : ops.toArray[i]? = some o:=by simpa using hi
  have hs : Stp P n ops.toArray o ρ w (fun ρ' w'=>∃ v,ρ' = XG ρ o.dst v ∧ K v w'):=by
    unfold Stp; rw [if_pos hw]
    exact h.mono fun v w' h'=>⟨v,rfl,h'⟩
  refine Qpt (K:=fun a w=>∃ v,a = act n (XG ρ o.dst v) ∧ K v w) (hs.toOp hi' fun ρ' w' ⟨v,hv,h'⟩=>⟨v,by rw [hv],h'⟩) hb fun a' w' ⟨v,ha,h'⟩=>?_
  subst ha
  exact hK v w' h'
theorem Qtd {o : Oper} {v : Value} {K : Value → World → Prop} (hy : Yl P n ρ o w v) (h : K v w) : Eff P o n ρ w K:=⟨hy.1,.inl ⟨v,hy.2,h⟩⟩
theorem Qsu {c : Code} {K : Env → World → Prop} (h : WC P n c ⟨K, fun _ _ _ => False, fun _ _ => False⟩ ρ w) (hb : b.kind ≠ .early)
    (hK : ∀ ρ' w',K ρ' w' → Wlk (JD.j (P:=P)) Stop (G (b.at (act n ρ') kk) cs) w') : Wlk (JD.j (P:=P)) Stop (G (b.at (act n ρ) (.code c :: kk)) cs) w :=
  h b kk cs Stop hb fun e a' w' q=>by
    cases e <;> first
      | (obtain ⟨ρ',rfl,h'⟩:=q; exact hK ρ' w' h')
      | (obtain ⟨_,_,h'⟩:=q; exact h'.elim)
      | exact q.elim
theorem Qch {id : Nat} {ops : List Oper} {K : Env → World → Prop} (h : T0 P n ops.toArray K ops ρ w) (hb : b.kind ≠ .early)
    (hK : ∀ ρ' w',K ρ' w' → Wlk (JD.j (P:=P)) Stop (G (b.at (act n ρ') kk) cs) w') : Wlk (JD.j (P:=P)) Stop (G (b.at (act n ρ) (.code (.region id ops.toArray false) :: kk)) cs) w :=
  Qsu (QK (q:=⟨K,fun _ _ _=>False,fun _ _=>False⟩) h) hb hK
section
variable {J : Jd P}
theorem JI {a : Act} {x y : Code} (h : Wlk J Stop (G (b.at a (.code x :: .code y :: kk)) cs) w) : Wlk J Stop (G (b.at a (.code (.seq x y) :: kk)) cs) w:=.ctl rfl (fun _=>stepG_seq) h
theorem Qqn {a : Act} (h : Wlk J Stop (G (b.at a kk) cs) w) : Wlk J Stop (G (b.at a (.code .skip :: kk)) cs) w:=.ctl rfl (fun _=>stepG_skip) h
theorem Qig {a : Act} {i : Nat} {c : Code} (h : Wlk J Stop (G (b.at a (.code c :: .inBlock i :: kk)) cs) w) : Wlk J Stop (G (b.at a (.code (.block i c) :: kk)) cs) w:=.ctl rfl (fun _=>stepG_block) h
theorem Qwu {a : Act} {i : Nat} (h : Wlk J Stop (G (b.at a kk) cs) w) : Wlk J Stop (G (b.at a (.inBlock i :: kk)) cs) w:=.ctl rfl (fun _=>stepG_inBlock) h
theorem Qxj {a : Act} {c : Code} (h : Wlk J Stop (G (b.at a (.code c :: .inLoop c :: kk)) cs) w) : Wlk J Stop (G (b.at a (.code (.loop c) :: kk)) cs) w:=.ctl rfl (fun _=>stepG_loop) h
theorem Qwv {a : Act} {c : Code} (h : Wlk J Stop (G (b.at a (.code c :: .inLoop c :: kk)) cs) w) : Wlk J Stop (G (b.at a (.inLoop c :: kk)) cs) w:=.ctl rfl (fun _=>stepG_inLoop) h
theorem Qte {a : Act} {id : Nat} {k' : List Item} (he : exitTo id kk = some k') (h : Wlk J Stop (G (b.at a k') cs) w) : Wlk J Stop (G (b.at a (.code (.exit id) :: kk)) cs) w:=.ctl rfl (fun _=>stepG_exit he) h
theorem QEw {a : Act} {ops : Array Oper} (h : Wlk J Stop (G (b.at a kk) cs) w) : Wlk J Stop (G (b.at a (.inRegion ops [] :: kk)) cs) w:=.ctl rfl (fun _=>stepG_region_end) h
theorem Qqe {a : Act} {id : Nat} {ops : Array Oper} (h : Wlk J Stop (G (b.at a (.inRegion ops (List.range ops.size) :: kk)) cs) w) : Wlk J Stop (G (b.at a (.code (.region id ops false) :: kk)) cs) w:=.ctl rfl (fun _=>stepG_region) h
theorem Qnd {c : Operand} {x y : Code} {t : Bool} (hc : QC n ρ c = .bool t) (h : Wlk J Stop (G (b.at (act n ρ) (.code (bif t then x else y) :: kk)) cs) w) : Wlk J Stop (G (b.at (act n ρ) (.code (.cond c x y) :: kk)) cs) w:=by
  refine .ctl rfl (fun _=>stepG_cond (by rw [Qam]; exact hc)) ?_
  cases t <;> exact h
end
end

section
variable {P : Program} {c : Nat} {S : Goroutine → World → Prop} {Z : Nat → Prop} {orig : Nat → Option Obj} {O : List (Value → World → Prop)} {g : Goroutine} {w w1 w' : World}
theorem PW.rely (h : PW P c S Z orig O g w) (r : Rel w w1) : PW P c S Z orig O g w1:=by
  cases h with
  | done h1 h2=>exact .done h1 fun w2 r2=>h2 w2 (r.trans r2)
  | step nx h1 h2 h3=>exact .step nx h1 (fun w2 r2=>h2 w2 (r.trans r2)) (fun w2 r2=>h3 w2 (r.trans r2))
  | fork g' child C φ h1 h2 h3 h4 h5=>exact .fork g' child C φ h1 h2 (fun w2 r2=>h3 w2 (r.trans r2)) (fun w2 r2=>h4 w2 (r.trans r2)) (fun w2 r2=>h5 w2 (r.trans r2))
  | recv g2 z h1 h2 h3 h4=>exact .recv g2 z h1 h2 h3 fun O1 φ O2 e w2 xw w3 v r2=>h4 O1 φ O2 e w2 xw w3 v (r.trans r2)
theorem PW.stop (h : PW P c S Z orig O g w) : Wlk (Jp P Z) (fun g w=>PW P c S Z orig O g w) g w:=.stop fun _ r=>h.rely r
end

/-! ### Rows -/
def RowAt (w : World) (b : Nat) (cs : List Value) : Prop:=∃ e fz,w.heap[b]? = some (.cells cs.toArray e fz)
theorem RowAt.at {w : World} {b : Nat} {cs : List Value} (h : RowAt w b cs) : At w ⟨b,0,none⟩ cs:=by
  obtain ⟨e,fz,h⟩:=h
  exact At.of_block h fun j v hv=>by simpa using hv
theorem Box.row {w : World} {b : Nat} {cs : List Value} {T : TypeId} (h : Box w b cs T) : RowAt w b cs:=⟨_,_,h⟩
theorem RowAt.lt {w : World} {b : Nat} {cs : List Value} (h : RowAt w b cs) : b < w.heap.size:=by obtain ⟨_,_,h⟩:=h; exact ZD h
theorem RowAt.step {L L' : List Value} {w w' : World} {b : Nat} {cs : List Value} (s : Stepp L w L' w') (hA : Avoids L b) (h : RowAt w b cs) : RowAt w' b cs:=by
  obtain ⟨e,fz,h⟩:=h
  obtain ⟨⟨fz',h1⟩,_⟩:=s.keeps h hA
  exact ⟨e,fz',h1⟩
theorem YH {b x : Nat} (h : x ≠ b) : Avoids [pt b] x:=fun y hy e=>by
  rcases List.mem_singleton.1 hy with rfl
  simp [pt,Qh] at e; exact h e.symm
theorem Qps {L : List Value} {b x : Nat} (h : pt b ∈ L) (hA : Avoids L x) : x ≠ b:=fun e=>hA _ h (by simp [pt,Qh,e])

def CC (w : World) (b8 : Nat) : Nat → Prop:=fun b=>b ≠ b8 ∧ ∃ cs e fz,w.heap[b]? = some (.cells cs e fz)
structure Inv (w0 : World) (b8 : Nat) (Z : Nat → Prop) (orig : Nat → Option Obj) (w : World) : Prop where
  os : w.os = w0.os
  tape : w.tape = w0.tape
  output : w.output = w0.output
  size : w0.heap.size ≤ w.heap.size
  old : ∀ b,b < w0.heap.size → b ≠ b8 → (Z b → orig b = w0.heap[b]?) ∧ (¬ Z b → w.heap[b]? = w0.heap[b]?)
  zrow : ∀ b,Z b → ∃ cs e fz fz',w.heap[b]? = some (.cells cs e fz) ∧ orig b = some (.cells cs e fz')
  z8 : ¬ Z b8
  lt8 : b8 < w0.heap.size
section
variable {w0 w w1 w' : World} {b8 : Nat} {Z : Nat → Prop} {orig : Nat → Option Obj} {L : List Value}
theorem Inv.start (h : b8 < w0.heap.size) : Inv w0 b8 (fun _=>False) (fun _=>none) w0:=⟨rfl,rfl,rfl,Nat.le_refl _,fun _ _ _=>⟨fun h=>h.elim,fun _=>rfl⟩,fun _ h=>h.elim,fun h=>h,h⟩
theorem Inv.chg {b : Nat} (h : Inv w0 b8 Z orig w) (c : Chg [pt b] w w') (hb : b = b8 ∨ (w0.heap.size ≤ b ∧ ¬ Z b)) : Inv w0 b8 Z orig w':=by
  have hz : ∀ x,Z x → x ≠ b:=fun x hx e=>by
    subst e
    rcases hb with rfl | ⟨_,h1⟩
    · exact h.z8 hx
    · exact h1 hx
  refine ⟨c.os.trans h.os,c.tape.trans h.tape,c.output.trans h.output,Nat.le_trans h.size c.size,fun x hx h8=>⟨(h.old x hx h8).1,fun hn=>?_⟩,fun x hx=>?_,h.z8,h.lt8⟩
  · have hne : x ≠ b := fun e => by
      subst e
      rcases hb with rfl | ⟨h1,_⟩
      · exact h8 rfl
      · omega
    rw [c.block x (Nat.lt_of_lt_of_le hx h.size) (YH hne)]
    exact (h.old x hx h8).2 hn
  · obtain ⟨cs,e,fz,fz',h1,h2⟩:=h.zrow x hx
    exact ⟨cs,e,fz,fz',by rw [c.block x (ZD h1) (YH (hz x hx))]; exact h1,h2⟩
theorem Inv.ext (h : Inv w0 b8 Z orig w) (c : Ext w w') : Inv w0 b8 Z orig w':=h.chg (b:=b8) (c.mono fun _ h=>by cases h) (.inl rfl)
theorem Inv.rel (h : Inv w0 b8 Z orig w) (r : Rel w w') : Inv w0 b8 Z orig w':=h.ext r.ext
theorem Inv.more {c : Nat} (h : Inv w0 b8 Z orig w) (hm : More w w') (hl : ∀ b,b < c → w'.heap[b]? = w.heap[b]?) (hc : w0.heap.size ≤ c) : Inv w0 b8 Z orig w' :=
  ⟨hm.os.trans h.os,hm.tape.trans h.tape,hm.output.trans h.output,by rw [hm.size]; exact h.size,fun b hb h8=>⟨(h.old b hb h8).1,fun hn=>by rw [hl b (by omega)]; exact (h.old b hb h8).2 hn⟩,fun b hb=>by
    obtain ⟨cs,e,fz,fz',h1,h2⟩:=h.zrow b hb
    exact ⟨cs,e,fz,fz',hm.shows b cs e fz h1,h2⟩,h.z8,h.lt8⟩
theorem Inv.frz (h : Inv w0 b8 Z orig w) (r : Rel w w1) : Inv w0 b8 (fun b=>Z b ∨ CC w b8 b) (J9 Z (CC w b8) w1 orig) (Gw.frz (CC w b8) w1):=by
  have h1:=h.rel r
  refine ⟨h1.os,h1.tape,h1.output,by rw [Qjh]; exact h1.size,fun b hb h8=>⟨fun hz=>?_,fun hn=>?_⟩,fun b hz=>?_,fun hz=>hz.elim h.z8 fun hc=>hc.1 rfl,h.lt8⟩
  · unfold J9
    by_cases hZ : Z b
    · rw [if_pos hZ]; exact (h1.old b hb h8).1 hZ
    · rw [if_neg hZ]; exact (h1.old b hb h8).2 hZ
  · rw [Z1,(h1.old b hb h8).2 fun e=>hn (.inl e)]
    have hC : ¬ CC w b8 b:=fun e=>hn (.inr e)
    simp [hC]
  · by_cases hZ : Z b
    · obtain ⟨cs,e,fz,fz',k1,k2⟩:=h1.zrow b hZ
      have k3 : J9 Z (CC w b8) w1 orig b = some (.cells cs e fz'):=by unfold J9; rw [if_pos hZ]; exact k2
      by_cases hC : CC w b8 b
      · exact ⟨cs,e,(0,cs.size),fz',by rw [Z1,k1]; simp [hC],k3⟩
      · exact ⟨cs,e,fz,fz',by rw [Z1,k1]; simp [hC],k3⟩
    · have hC:=hz.resolve_left hZ
      obtain ⟨_,cs,e,fz,k1⟩:=id hC
      have k2 : w1.heap[b]? = some (.cells cs e fz):=(r.block b (ZD k1)).trans k1
      exact ⟨cs,e,(0,cs.size),fz,by rw [Z1,k2]; simp [hC],by unfold J9; rw [if_neg hZ]; exact k2⟩
theorem Inv.stepp (h : Inv w0 b8 Z orig w) (hL : pt b8 ∈ L) : Stepp L w0 L w:=⟨fun {b cs e fz} hb hA=>⟨by
  have h8:=Qps hL hA
  have hlt:=ZD hb
  by_cases hz : Z b
  · obtain ⟨cs',e',f1,f2,k1,k2⟩:=h.zrow b hz
    rw [(h.old b hlt h8).1 hz,hb] at k2
    cases k2
    exact ⟨f1,k1⟩
  · exact ⟨fz,by rw [(h.old b hlt h8).2 hz]; exact hb⟩,hA⟩⟩
theorem Inv.thaw (h : Inv w0 b8 Z orig w) : Chg [pt b8] w0 (Gw.thaw Z orig w):=⟨h.os,h.tape,h.output,by rw [Qrj]; exact h.size,fun b hb hA=>by
  have h8 : b ≠ b8:=Qps (L:=[pt b8]) (by simp) hA
  rw [Qek]
  by_cases hz : Z b
  · obtain ⟨cs,e,f1,f2,k1,k2⟩:=h.zrow b hz
    rw [k1]
    simp only [Option.map_some,if_pos hz,k2,Option.getD_some]
    rw [← (h.old b hb h8).1 hz,k2]
  · rw [(h.old b hb h8).2 hz]
    simp [hz]⟩
theorem Inv.thawS (h : Inv w0 b8 Z orig w) : Stepp L w L (Gw.thaw Z orig w):=⟨fun {b cs e fz} hb hA=>⟨by
  rw [Qek,hb]
  by_cases hz : Z b
  · obtain ⟨cs',e',f1,f2,k1,k2⟩:=h.zrow b hz
    rw [hb] at k1; cases k1
    exact ⟨f2,by simp [hz,k2]⟩
  · exact ⟨fz,by simp [hz]⟩,hA⟩⟩
theorem Inv.thawB (h : Inv w0 b8 Z orig w) {cs : List Value} {T : TypeId} (hB : Box w b8 cs T) : Box (Gw.thaw Z orig w) b8 cs T:=by
  unfold Box at *
  rw [Qek,hB]
  simp [h.z8]
theorem Qsl (hL : pt b8 ∈ L) (r : Rel w w1) : Stepp L w L (hid (fun b=>Z b ∨ CC w b8 b) (frz (CC w b8) w1)):=⟨fun {b cs e fz} hb hA=>⟨by
  have hC : CC w b8 b:=⟨Qps hL hA,_,_,_,hb⟩
  exact ⟨(0,cs.size),by rw [Qjj,Z1,r.block b (ZD hb),hb]; simp [hC]⟩,hA⟩⟩
theorem QKg (r : Rel w w1) : Stepp L w L (frz (CC w b8) w1):=⟨fun {b cs e fz} hb hA=>⟨by
  by_cases hC : CC w b8 b
  · exact ⟨(0,cs.size),by rw [Z1,r.block b (ZD hb),hb]; simp [hC]⟩
  · exact ⟨fz,by rw [Z1,r.block b (ZD hb),hb]; simp [hC]⟩,hA⟩⟩
theorem QKf (r : Rel w w1) {cs : List Value} {T : TypeId} (hB : Box w b8 cs T) : Box (frz (CC w b8) w1) b8 cs T:=by
  have hC : ¬ CC w b8 b8:=fun h=>h.1 rfl
  unfold Box at *
  rw [Z1,r.block b8 (ZD hB),hB]
  simp [hC]
theorem QDp (r : Rel w w1) : Rows (CC w b8) w1:=fun b hb=>by
  obtain ⟨_,cs,e,fz,h⟩:=hb
  exact ⟨cs,e,fz,(r.block b (ZD h)).trans h⟩
theorem Shows.stepp (h : Shows w w') : Stepp L w L w':=⟨fun {b cs e fz} hb hA=>⟨⟨fz,h b cs e fz hb⟩,hA⟩⟩
theorem Shows.box (h : Shows w w') {b : Nat} {cs : List Value} {T : TypeId} (hB : Box w b cs T) : Box w' b cs T:=h _ _ _ _ hB
end

/-! ### The making of a channel -/
theorem QSs {P : Program} {main : Bool} {b : Frame} {a : Act} {k : List Item} {cs : List Frame} {ops : Array Oper} {i : Nat} {rest : List Nat} {o : Oper} {T el : TypeId} {dir : ChanDir} {x : Operand} (ho : ops[i]? = some o) (hop : o.op = .makeChan T x) (hw : Region.wanted o (yielded ops a.tmps) = true)
    (hk : b.kind ≠ .early) (hu : P.underlying T = some (.chan dir el)) (hx : a.eval x = .int .i64 0) (hi : ((P.info? el).map (·.bytes)).isSome = true) (W : World) :
    stepG P main (G (b.at a (.inRegion ops (i :: rest) :: k)) cs) W = .go (G (b.at (a.put o.dst (.chan (some W.heap.size))) (.inRegion ops rest :: k)) cs) { W with heap:=W.heap.push (.chan 0 #[] false 0 0 false) } #[]:=by
  cases hinf : P.info? el with
  | none=>rw [hinf] at hi; cases hi
  | some inf =>
    have e1 : (execOp a.eval o).runT P W #[] = (.ok (.value (.chan (some W.heap.size))) { W with heap:=W.heap.push (.chan 0 #[] false 0 0 false) },#[]):=by
      have h0 : execOp a.eval o = (Instr.makeChan T (.int .i64 0) >>= fun v=>Pure.pure (Next.value v)):=by simp only [execOp,hop,hx]
      rw [h0]
      have h1 : (Instr.makeChan T (.int .i64 0)).runT P W #[] = (.ok (.chan (some W.heap.size)) { W with heap:=W.heap.push (.chan 0 #[] false 0 0 false) },#[]):=by
        unfold Instr.makeChan
        rw [ZR (a:=(0 : Int)) (w':=W) (es':=#[]) (by simp [asInt,asIntOf]),ZR (Qky hu)]
        simp only []
        rw [ZR (a:=inf) (w':=W) (es':=#[]) (by unfold typeInfo; rw [ZR (a:=P) (w':=W) (es':=#[]) rfl,hinf]; rfl)]
        rw [if_neg (by simp [IntKind.max]; decide)]
        rfl
      rw [ZR h1]; rfl
    have e2:=Sem.runT_eq P (execOp a.eval o) W #[]
    rw [e1] at e2
    rw [stepG_value ho hw hk (Prod.mk.inj e2).1.symm]
    unfold listed
    rw [← (Prod.mk.inj e2).2,seen_none]
end Go.Gw
