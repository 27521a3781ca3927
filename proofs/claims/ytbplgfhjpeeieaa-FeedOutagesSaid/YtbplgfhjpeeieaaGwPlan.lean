/- Laws of the walk. Condition: each theorem says its own. -/
import Derived.Test.YtbplgfhjpeeieaaGwLib6
import Derived.Laws.OwnMore
import Derived.Laws.CopyRow
import Derived.Laws.ByValue
import Derived.WalkSpells
set_option linter.unusedVariables false
set_option linter.unusedSimpArgs false
set_option linter.unusedSectionVars false
section
set_option linter.unusedSectionVars false
namespace Go.Gw
open Go
section
variable {P : Program} [JD P] {n : Nat} {q : Post} {ρ : Env} {w : World}

inductive Pl where
  | done
  | p (i : Nat) (r : Pl)
  | q (i : Nat) (r : Pl)
  | e (i : Nat) (r : Pl)
  | b (i : Nat) (r : Pl)
  | f (i : Nat) (r : Pl) (j : Nat) (s : Pl)
def Pl.hasQ : Pl → Bool
  | .done=>false
  | .p _ r=>r.hasQ
  | .q _ _=>true
  | .e _ r=>r.hasQ
  | .b _ _=>false
  | .f _ r _ s=>r.hasQ || s.hasQ
def Pl.len : Pl → Nat
  | .done=>0
  | .p _ r=>r.len + 1
  | .q _ r=>r.len + 1
  | .e _ r=>r.len + 1
  | .b _ r=>r.len + 1
  | .f _ r _ _=>r.len + 1
def Pl.brk : Pl → List Nat
  | .done=>[]
  | .p _ r=>r.brk
  | .q _ r=>r.brk
  | .e _ r=>r.brk
  | .b i r=>i :: r.brk
  | .f _ r _ s=>r.brk ++ s.brk

def TP (P : Program) [JD P] (n : Nat) (ops : List Oper) (S : World → Prop) (K : Env → World → Prop) : Pl → Env → World → Prop
  | .done,ρ,w=>K ρ w
  | .p i r,ρ,w=>∃ o v,ops[i]? = some o ∧ Quiet P n ops.toArray (fun _=>True) o ρ v ∧ TP P n ops S K r (XG ρ o.dst v) w
  | .q i r,ρ,w=>∃ o v,ops[i]? = some o ∧ Quiet P n ops.toArray S o ρ v ∧ TP P n ops S K r (XG ρ o.dst v) w
  | .e i r,ρ,w=>∃ o,ops[i]? = some o ∧ Stp P n ops.toArray o ρ w (fun ρ' w'=>S w' ∧ TP P n ops S K r ρ' w')
  | .b i r,ρ,w=>∃ o,ops[i]? = some o ∧ Stp P n ops.toArray o ρ w (fun ρ' w'=>TP P n ops S K r ρ' w')
  | .f i r j s, ρ, w => (∃ o, ops[i]? = some o ∧ Stp P n ops.toArray o ρ w (fun ρ' w' => S w' ∧ TP P n ops S K r ρ' w')) ∧
      (∃ o,ops[j]? = some o ∧ Stp P n ops.toArray o ρ w (fun ρ' w'=>S w' ∧ TP P n ops S K s ρ' w'))

def Z5 (ops : Array Oper) (bs : List Nat) : Pl → Array Bool → Bool
  | .done,listed=>(Region.ready .any ops listed).isEmpty
  | .p i r,listed=>Region.free .any ops listed i && (Region.ready .any ops listed).contains i && Z5 ops bs r (listed.setIfInBounds i true)
  | .q i r,listed=>(bs.all fun b=>Qbh ops ops.size b i) && Region.free .any ops listed i && (Region.ready .any ops listed).contains i && Z5 ops bs r (listed.setIfInBounds i true)
  | .e i r,listed=>Region.ready .any ops listed == [i] && (!bs.contains i && Z5 ops bs r (listed.setIfInBounds i true))
  | .b i r,listed=>Region.ready .any ops listed == [i] && (bs.contains i && (!r.hasQ && Z5 ops bs r (listed.setIfInBounds i true)))
  | .f i r j s,listed=>Region.ready .any ops listed == [i,j] && (Nat.beq r.len s.len && (!bs.contains i && (!bs.contains j && (Z5 ops bs r (listed.setIfInBounds i true) && Z5 ops bs s (listed.setIfInBounds j true)))))

def QVk (ops : Array Oper) (p : Pl) : Bool:=Region.noSelect ops && (Nat.beq p.len ops.size && Z5 ops p.brk p (Array.replicate ops.size false))

def anyQ (P : Program) [JD P] (ops : Array Oper) (Q : Exit → Act → World → Prop) (bs : List Nat) (S : World → Prop) (Kt : Array Bool → Act → World → Prop) : Nat → Array Bool → Act → World → Prop
  | 0,listed,a,w=>Kt listed a w
  | fuel + 1,listed,a,w=>Region.ready .any ops listed ≠ [] ∧ ∀ i ∈ Region.ready .any ops listed,Zo (JD.j (P:=P)) ops i (fun a' w'=>(bs.contains i = false → S w → S w') ∧ anyQ P ops Q bs S Kt fuel (listed.setIfInBounds i true) a' w') a w

theorem anyQ.toAny {ops : Array Oper} {Q : Exit → Act → World → Prop} {bs : List Nat} {S : World → Prop} {Kt : Array Bool → Act → World → Prop} (ht : ∀ listed a w, Kt listed a w → ZL (JD.j (P := P)) ops Q 0 listed a w) :
    ∀ (fuel : Nat) (listed : Array Bool) (a : Act) (w : World),anyQ P ops Q bs S Kt fuel listed a w → ZL (JD.j (P:=P)) ops Q fuel listed a w
  | 0,listed,a,w,h=>ht _ _ _ h
  | fuel + 1,listed,a,w,h=>⟨fun h0=>absurd h0 h.1,fun i hi=>Qdx (fun a' w' h'=>anyQ.toAny ht fuel _ a' w' h'.2) (h.2 i hi)⟩

theorem QTw {listed : Array Bool} {i x : Nat} (h : (listed.setIfInBounds i true).getD x true = false) : listed.getD x true = false ∧ x ≠ i:=by
  by_cases hx : i = x
  · subst hx
    exfalso
    by_cases hl : i < listed.size <;> simp [Array.getD,hl] at h
  · rw [getD_set_ne true hx] at h; exact ⟨h,fun e=>hx e.symm⟩

section
variable {S : World → Prop} {K : Env → World → Prop} {ops : List Oper} {o : Oper} {i : Nat} {r : Pl} {v : Value}
end
end
end Go.Gw

end
section
set_option linter.unusedSectionVars false
namespace Go.Gw
open Go
section
variable {P : Program} [JD P] {n : Nat} {ρ : Env} {w : World}
variable {d : Option Nat} {t T U : TypeId} {p : String} {af : Array Edge} {gu : Option (Nat × Bool)} {x y z : Operand}

theorem Qbc {α : Type} [Rep α] {e : TypeId} {L : List Value} {v : Value} {xs : List α} {i : Int} {el y' : α} {off k : Nat} {u : Value} {vs : List Value} {K : Value → World → Prop} (hs : XV P T k) (hc : u.cells.toList = vs) (hk : vs.length = k) (hown : Own e L w v xs) (hv : v ∈ L) (hel : idx xs i = some el)
    (hx : QC n ρ x = .pointer (some ((QD v i.toNat (Rep.n α)).add off))) (hy : QC n ρ y = u) (hl : Nat.ble (off + k) (Rep.n α) = true) (h1 : ∀ c ∈ vs,c.oneCell' = true)
    (hset : ∀ w' cs,Rep.rd L w' cs el → Rep.rd L w' (YY cs off vs) y')
    (h : ∀ w',Chg [v] w w' → Own e L w' v (xs.set i.toNat y') → K undef w') : Eff P ⟨d,.store T x y,t,p,af,gu⟩ n ρ w K:=by
  subst hc; subst hk
  have e : u.cells.toList.length = u.cells.size:=by simp
  exact QEl (by rw [← e]; exact hs) hown hv hel hx hy (by rw [← e]; simpa using hl) h1 hset h

def mk {α : Type} (i : Int) (zero : α) : Option (List α):=if 0 ≤ i ∧ i ≤ 1048576 then some (List.replicate i.toNat zero) else none
theorem QLf {α : Type} {i : Int} {zero : α} {xs : List α} (h : mk i zero = some xs) : 0 ≤ i ∧ i ≤ 1048576 ∧ xs = List.replicate i.toNat zero:=by
  unfold mk at h
  split at h
  · rename_i hc; exact ⟨hc.1,hc.2,by cases h; rfl⟩
  · cases h

theorem Elems.replicate {α : Type} [Rep α] {L : List Value} {c : Value} {zero : α} (h1 : Rep.n α = 1) (hz : Rep.rd L w [c] zero) : ∀ m : Nat,Elems L w (List.replicate m c) (List.replicate m zero)
  | 0=>Elems.nil
  | m + 1=>by
    rw [List.replicate_succ,List.replicate_succ]
    exact Elems.cons (cs:=[c]) hz (Elems.replicate h1 hz m)

theorem QKv (c : Value) (m : Nat) : (madeCells #[c] m).toList = List.replicate m c:=by
  apply List.ext_getElem
  · simp [madeCells]
  · intro i h1 h2
    simp [madeCells,Nat.mod_one]

theorem Qnh {α : Type} [Rep α] {e : TypeId} {bytes : Nat} {c : Value} {L : List Value} {i : Int} {zero : α} {xs : List α} {k k' : IntKind} {K : Value → World → Prop} (h1 : Rep.n α = 1) (hu : P.underlying T = some (.slice e)) (hi : EInfo P e 1 bytes c) (hcc : c.cells = #[c])
    (hbm : Nat.ble bytes 65536 = true) (hz : ∀ L w,Rep.rd L w [c] zero) (hx : QC n ρ x = .int k i) (hy : QC n ρ y = .int k' i) (hm : mk i zero = some xs)
    (h : ∀ v w',Ext w w' → (∀ b,Qh v = some b → w.heap.size ≤ b) → Own e (v :: L) w' v xs → K v w') : Eff P ⟨d,.makeSlice T x y,t,p,af,gu⟩ n ρ w K:=by
  obtain ⟨h0,hmax,rfl⟩:=QLf hm
  obtain ⟨ti,g1,g2,g3,g4,_,_⟩:=hi.ex
  have hbm : bytes ≤ 65536:=by simpa using hbm
  obtain ⟨m,rfl⟩ : ∃ m : Nat,i = (m : Int):=⟨i.toNat,by omega⟩
  have hmm : m ≤ 1048576:=by omega
  have hb : ti.bytes * m ≤ 281474976710656:=by
    rw [g3]
    calc bytes * m ≤ 65536 * 1048576:=Nat.mul_le_mul hbm hmm
      _ ≤ _:=by decide
  refine JE (Zs (QTj _ _ _)) fun w1 e1=>?_
  obtain ⟨w',hr,ho,hg⟩:=run_makeSlice_full (P:=P) (w:=w1) 0 T e ti c 1 hu g1 g4 g2 k k' m (by omega) hb (by unfold maxLen; omega) (Nat.zero_le _)
  have he : Ext w1 w':=⟨hg.os,hg.tape,hg.output,hg.size,fun b hb _=>hg.block b hb (fun e=>by cases e)⟩
  simp only [execOp,hx,hy,Sem.run_bind,hr,Result.andThen,Sem.run_pure,effR]
  refine h _ w' (e1.trans he) (fun b hb=>by have:=e1.size; simp [Qh] at hb; omega) ⟨(madeCells c.cells (m * 1)).toList,?_,?_⟩
  · rw [h1,List.length_replicate,Int.toNat_natCast]
    exact ho
  · rw [hcc,Nat.mul_one,QKv,Int.toNat_natCast]
    exact Elems.replicate h1 (hz _ _) m
end
end Go.Gw

end
section
set_option linter.unusedSectionVars false
namespace Go.Gw
open Go
section
variable {P : Program} [JD P] {n : Nat} {ρ : Env} {w : World}
variable {d : Option Nat} {t T U : TypeId} {p : String} {af : Array Edge} {gu : Option (Nat × Bool)} {x y z : Operand}

def cpy (l : List Int) : List Int → List Int
  | []=>[]
  | x :: xs=>match l with
    | []=>x :: xs
    | y :: l=>y :: cpy l xs
def QVi (xs : List Int) (hi mx : Int) : Option (List Int):=if 0 < mx ∧ mx ≤ xs.length ∧ 0 ≤ hi ∧ hi ≤ mx then some (xs.take hi.toNat) else none
theorem Qru {L : List Value} {b : Nat} (hL : LtL L w) (hb : w.heap.size ≤ b) : Avoids L b:=fun x hx e=>by have:=hL x hx b e; omega
end
end Go.Gw
namespace Go.Gw
end Go.Gw

end
section
set_option linter.unusedSectionVars false
namespace Go.Gw
open Go
section
variable {P : Program} [JD P] {n : Nat} {ρ : Env} {w : World}
theorem Qhs {ops : Array Oper} {K : Env → World → Prop} {o : Oper} {os : List Oper} (Φ : Value → World → Prop) (b : Bool) (hw : Yf ops o n ρ = b) (ht : b = true → Eff P o n ρ w (fun v w' => Ext w w' ∧ Φ v w'))
    (h : ∀ v w',Ext w w' → (b = true → Φ v w') → T0 P n ops K os (XG ρ o.dst (gd b v)) w') : T0 P n ops K (o :: os) ρ w :=
  Qrn b hw (fun hb=>(ht hb).mono fun v w' ⟨he,hv⟩=>by have:=h v w' he (fun _=>hv); rw [Qr hb] at this; exact this)
    (fun hb=>by have:=h undef w (Chg.refl _ _) (fun hb'=>by rw [hb] at hb'; cases hb'); rw [Qdq hb] at this; exact this)
end
end Go.Gw

end
section
set_option linter.unusedSectionVars false
namespace Go.Gw
open Go
section
variable {P : Program} [JD P] {n : Nat} {q : Post} {ρ : Env} {w : World}
end
end Go.Gw

end
section
set_option linter.unusedSectionVars false
namespace Go.Gw
open Go
section
variable {P : Program} [JD P] {n : Nat} {ρ : Env} {w w' : World}
variable {d : Option Nat} {t T U : TypeId} {p : String} {af : Array Edge} {gu : Option (Nat × Bool)} {x y z : Operand}
theorem Qmd {f : FuncId} {cap : Array Operand} {cs : List Value} (h : (cap.map (QC n ρ)).toList = cs) : Yl P n ρ ⟨d,.makeFunc (.func f) #[] cap,t,p,af,gu⟩ w (.func (.func f) #[] cs.toArray):=by
  have e : cap.map (QC n ρ) = cs.toArray:=by rw [← h]
  exact Yr fun w es=>by simp [execOp,Instr.makeFunc,e,go_sem]
theorem Qit {f : FuncId} {fn : Func} {c : Code} {xs : Array Operand} {aT : Array TypeId} {cs us args : List Value} {K Φ : Value → World → Prop} (hy : QC n ρ y = .func (.func f) #[] cs.toArray) (hf : P.funcs[f]? = some fn) (hname : (fn.name == "runtime.NumGoroutine") = false) (hb : fn.body = some c)
    (ha : (xs.map (QC n ρ)).toList = us) (hargs : us ++ cs = args) (hc : CallsTo P f args w Φ) (h : ∀ v w',Φ v w' → K v w') : Eff P ⟨d,.call ⟨.value y,xs,aT⟩,t,p,af,gu⟩ n ρ w K:=by
  have e : xs.map (QC n ρ) = us.toArray:=by rw [← ha]
  have this : ∀ w es,(execOp (QC n ρ) ⟨d,.call ⟨.value y,xs,aT⟩,t,p,af,gu⟩).runT P w es = (.ok (.enter f args.toArray) w,es):=fun w es=>by
    subst hargs
    refine Eq.trans ?_ (Qqf (args:=(us ++ cs).toArray) hf hname hb)
    simp only [execOp,resolve,Deferred.ofValue,invoke,e,hy,pure_bind,List.append_toArray,List.nil_append]
  refine ⟨.still _ this,.inr fun w1 r=>?_⟩
  rw [show (execOp (QC n ρ) ⟨d,.call ⟨.value y,xs,aT⟩,t,p,af,gu⟩).run P w1 = _ from by rw [← Sem.runT_fst P _ w1 #[],this]]
  exact CallsJ.rely (CallsTo.mono hc h) r
def QVf (H : List Value) (w : World) (b : Nat) : Prop:=w.heap.size ≤ b ∨ ¬ Avoids H b
theorem Own.cutf {α : Type} [Rep α] {e : TypeId} {L : List Value} {v : Value} {xs ys : List α} {hi : Int} (h : Own e L w v xs) (hc : cut xs 0 hi = some ys) : Own e L w (Qbx v 0 hi.toNat (Rep.n α)) ys:=by
  obtain ⟨h0,h1,h2,rfl⟩:=Qiq hc
  obtain ⟨cells,⟨hl,ho⟩,hel⟩:=h
  have hk : hi.toNat ≤ xs.length:=by omega
  have hlen : ((xs.take hi.toNat).drop (0 : Int).toNat).length = hi.toNat:=by simp; omega
  have ht : (xs.take hi.toNat).drop (0 : Int).toNat = xs.take hi.toNat:=by simp
  have hle : hi.toNat * Rep.n α ≤ cells.length:=by rw [hl]; exact Nat.mul_le_mul_right _ hk
  refine ⟨cells.take (hi.toNat * Rep.n α),⟨by rw [hlen,List.length_take]; omega,?_⟩,?_⟩
  · rcases ho with ⟨rfl,hz⟩ | ⟨g,cap,cur,rfl,hb,hh,h4,h5,h6,h7⟩
    · left
      rw [hlen]
      have : hi.toNat = 0:=by omega
      simp [Qbx,this]
    · right
      refine ⟨g,cap,cur,?_,hb,hh,by rw [hlen]; omega,h5,h6,?_⟩
      · rw [hlen]
        simp only [Qbx,Nat.zero_mul,Nat.sub_zero]
        congr 1
        split
        · rfl
        · simp only [Option.map_some]; rw [YU]
      · rw [hlen,← h7,List.take_take]
        congr 1
        have:=Nat.mul_le_mul_right (Rep.n α) hk
        omega
  · rw [ht]
    refine ⟨by rw [List.length_take,List.length_take,hl]; have:=Nat.mul_le_mul_right (Rep.n α) hk; rw [Nat.min_eq_left this,Nat.min_eq_left hk],fun i x hx=>?_⟩
    have hi2 : i < hi.toNat:=by
      rcases Nat.lt_or_ge i hi.toNat with h | h
      · exact h
      · rw [List.getElem?_eq_none (by rw [List.length_take]; omega)] at hx; cases hx
    rw [List.getElem?_take_of_lt hi2] at hx
    have:=hel.2 i x hx
    have hlt : i * Rep.n α + Rep.n α ≤ hi.toNat * Rep.n α:=by rw [← Nat.succ_mul]; exact Nat.mul_le_mul_right _ hi2
    rw [List.drop_take,List.take_take]
    rw [Nat.min_eq_left (by omega)]
    exact this
end
end Go.Gw

end
section
set_option linter.unusedSectionVars false
namespace Go.Gw
open Go
def Qla (k : IntKind) (a b : Int) : Option Int:=if 0 ≤ b ∧ b ≤ k.bits then some (k.wrap (a * 2 ^ b.toNat)) else none
def Qlb (k : IntKind) (a b : Int) : Option Int:=if 0 ≤ b ∧ b ≤ k.bits then some (a.fdiv (2 ^ b.toNat)) else none
def Qbv (k : IntKind) (a b : Int) : Int:=k.wrap (BitVec.ofInt k.bits a &&& BitVec.ofInt k.bits b).toNat
def orS (k : IntKind) (a b : Int) : Int:=k.wrap (BitVec.ofInt k.bits a ||| BitVec.ofInt k.bits b).toNat
def QVl (k : IntKind) (a b : Int) : Int:=k.wrap (BitVec.ofInt k.bits a ^^^ BitVec.ofInt k.bits b).toNat
section
variable {P : Program} [JD P] {n : Nat} {ρ : Env} {w w' : World}
variable {d : Option Nat} {t T U : TypeId} {p : String} {af : Array Edge} {gu : Option (Nat × Bool)} {x y z : Operand}
theorem QUz {k yk : IntKind} {a b c : Int} (h : Qla k a b = some c) (hx : QC n ρ x = .int k a) (hy : QC n ρ y = .int yk b) : Yl P n ρ ⟨d,.binOp .shl T x y U,t,p,af,gu⟩ w (.int k c):=by
  unfold Qla at h
  split at h
  · rename_i hb
    cases h
    have h1 : ¬ b < 0:=by omega
    have h2 : min b.toNat k.bits = b.toNat:=by omega
    exact Yr fun w es=>by simp [execOp,hx,hy,eqGuard,binOp,Op.shift,h1,h2]
  · cases h
theorem QVa {k yk : IntKind} {a b c : Int} (h : Qlb k a b = some c) (hx : QC n ρ x = .int k a) (hy : QC n ρ y = .int yk b) : Yl P n ρ ⟨d,.binOp .shr T x y U,t,p,af,gu⟩ w (.int k c):=by
  unfold Qlb at h
  split at h
  · rename_i hb
    cases h
    have h1 : ¬ b < 0:=by omega
    have h2 : min b.toNat k.bits = b.toNat:=by omega
    exact Yr fun w es=>by simp [execOp,hx,hy,eqGuard,binOp,Op.shift,h1,h2]
  · cases h
theorem QUo {k : IntKind} {a b : Int} (hx : QC n ρ x = .int k a) (hy : QC n ρ y = .int k b) : Yl P n ρ ⟨d,.binOp .and T x y U,t,p,af,gu⟩ w (.int k (Qbv k a b)):=by
  exact Yr fun w es=>by simp [execOp,hx,hy,eqGuard,binOp,Op.intBits,Qbv]
end
end Go.Gw

end
section
set_option linter.unusedSectionVars false
namespace Go.Gw
open Go
def isnil : Value → Bool
  | .slice none _ _=>true
  | _=>false
section
variable {P : Program} [JD P] {n : Nat} {ρ : Env} {w w' : World}
variable {d : Option Nat} {t T U : TypeId} {p : String} {af : Array Edge} {gu : Option (Nat × Bool)} {x y z : Operand}
theorem Qmc {α : Type} [Rep α] {e : TypeId} {L : List Value} {w2 : World} {v : Value} {xs : List α} (hu : P.underlying T = some (.slice e)) (hs : SlRd L w2 v xs) (hx : QC n ρ x = v) (hy : QC n ρ y = .slice none 0 0) :
    Yl P n ρ ⟨d,.binOp .eql T x y U,t,p,af,gu⟩ w (.bool (isnil v)):=by
  have : ∃ a m c,v = .slice a m c:=by
    rcases hs with ⟨a0,h,_⟩ | ⟨b,off,cap,cur,e,fz,h1,_⟩
    · exact ⟨_,_,_,h⟩
    · exact ⟨_,_,_,h1⟩
  obtain ⟨a,m,c,rfl⟩:=this
  have h1 : ∀ w,(Op.equal T (.slice a m c) (.slice none 0 0)).run P w = .ok a.isNone w:=fun w=>by
    simp [Op.equal,Op.maxDepth,Lib.run_equalIn_slice_nil w 9999 T e a m c 0 0 hu]
  have ht : Tame P (Op.equal T (.slice a m c) (.slice none 0 0)):=by
    rw [Op.equal,show Op.maxDepth = 9999 + 1 from rfl,Op.equalIn]
    refine .und hu ?_
    cases a <;> exact .pure _
  have h2 : a.isNone = isnil (.slice a m c):=by cases a <;> rfl
  rw [← h2]
  exact Qai (Zs (by simp only [eqGuard,binOp,hx,hy]; exact .bnd (.pure _) fun _=>.bnd ht fun _=>.pure _)) fun w1 _=>by simp [execOp,hx,hy,eqGuard,binOp,h1,Result.andThen]
theorem SlRd.isnil {α : Type} [Rep α] {L : List Value} {v : Value} {xs : List α} (hs : SlRd L w v xs) (h : isnil v = true) : xs = []:=by
  rcases hs with ⟨a0,rfl,h2⟩ | ⟨b,off,cap,cur,e,fz,rfl,_⟩
  · exact h2
  · cases h
theorem Qjs {α β : Type} {xs : List α} {f : List α → Option β} {e : Option β} {r : β} (h0 : xs = []) (h : f xs = some r) (he : f [] = e) : e = some r:=by subst h0; rw [← he]; exact h
end
end Go.Gw

end
section
set_option linter.unusedSectionVars false
namespace Go.Gw
open Go
def U8 : Type:=Int
instance : Rep U8:=⟨1,fun _ _ cs d=>cs = [.int .u8 d],fun h=>by subst h; rfl,fun h=>by subst h; simp [Value.oneCell'],fun _ h=>h⟩
def bl (s : ByteArray) : List U8:=s.data.toList.map fun b=>((b.toNat : Nat) : Int)
theorem Qba (s : ByteArray) : (bl s).length = s.size:=by
  show (List.map (fun b : UInt8=>((b.toNat : Nat) : Int)) s.data.toList).length = s.size
  rw [List.length_map]; rfl
theorem Qmx (a b : ByteArray) : (a.toList == b.toList) = decide (a = b):=by
  rw [ByteArray.toList_eq,ByteArray.toList_eq]
  by_cases h : a = b
  · subst h; simp
  · have : ¬ a.data.toList = b.data.toList:=fun e=>h (by cases a; cases b; simp at e; simp [e])
    rw [decide_eq_false h,beq_eq_false_iff_ne]; exact this
theorem Qda (a b : ByteArray) : a.toList = b.toList ↔ a = b:=by
  have:=Qmx a b
  by_cases h : a = b
  · simp [h]
  · rw [decide_eq_false h,beq_eq_false_iff_ne] at this
    exact ⟨fun e=>absurd e this,fun e=>absurd e h⟩
def cat (a b : ByteArray) : Option ByteArray:=if a.size + b.size ≤ 1048576 then some (a ++ b) else none
def tob (s : ByteArray) : Option (List U8):=if s.size ≤ 1048576 then some (bl s) else none
section
variable {P : Program} [JD P] {n : Nat} {ρ : Env} {w : World}
variable {d : Option Nat} {t T U : TypeId} {p : String} {af : Array Edge} {gu : Option (Nat × Bool)} {x y z : Operand}
theorem Qeo {a b : ByteArray} (hx : QC n ρ x = .string a) (hy : QC n ρ y = .string b) : Yl P n ρ ⟨d,.binOp .eql T x y U,t,p,af,gu⟩ w (.bool (decide (a = b))):=Yr fun w es=>by
  simp only [← Qmx]; simp [execOp,hx,hy,eqGuard,binOp,Op.stringOp]
theorem QCg {a b : ByteArray} (hx : QC n ρ x = .string a) (hy : QC n ρ y = .string b) : Yl P n ρ ⟨d,.binOp .neq T x y U,t,p,af,gu⟩ w (.bool (!decide (a = b))):=Yr fun w es=>by
  simp only [← Qmx]; simp [execOp,hx,hy,eqGuard,binOp,Op.stringOp,bne]
theorem QKk {s : ByteArray} {i : Int} {el : U8} (h : idx (bl s) i = some el) : (if 0 ≤ i then s[i.toNat]? else none) = some (UInt8.ofNat (Int.toNat el)) ∧ (((UInt8.ofNat (Int.toNat el)).toNat : Nat) : Int) = el:=by
  obtain ⟨h0,h1,h2⟩:=Qcd h
  rw [Qba] at h1
  rw [if_pos h0,ByteArray.getElem?_lt' s _ h1]
  replace h2 : ((s.data.toList.map fun b=>((b.toNat : Nat) : Int)) : List Int)[i.toNat]? = some (el : Int):=h2
  rw [List.getElem?_map] at h2
  obtain ⟨b,hb,hbe⟩:=Option.map_eq_some_iff.1 h2
  subst hbe
  have e : s[i.toNat] = b:=by
    rw [List.getElem?_eq_some_iff] at hb
    obtain ⟨_,hb⟩:=hb
    rw [← hb]; rfl
  subst e
  constructor
  · congr 1
    show _ = UInt8.ofNat ((s[i.toNat].toNat : Int).toNat)
    rw [Int.toNat_natCast]; simp
  · show ((UInt8.ofNat ((s[i.toNat].toNat : Int).toNat)).toNat : Int) = (s[i.toNat].toNat : Int)
    rw [Int.toNat_natCast]; simp
theorem QUu {k : IntKind} {s : ByteArray} {i : Int} {el : U8} (hu : P.underlying T = some .string) (hx : QC n ρ x = .string s) (hy : QC n ρ y = .int k i) (h : idx (bl s) i = some el) : Yl P n ρ ⟨d,.index T x y,t,p,af,gu⟩ w (.int .u8 el):=by
  obtain ⟨h1,h2⟩:=QKk h
  refine Qai (Zs (QTh _ _ _)) fun w1 _=>?_
  simp only [execOp,hx,hy,Instr.index,asIntOf,pure_bind,Sem.run_bind,run_underlying hu,Result.andThen,h1,Sem.run_pure,h2]
def Z9 (s : ByteArray) (cap : Nat) : Array Value:=s.data.map (fun b=>Value.int .u8 b.toNat) ++ Array.replicate (cap - s.size) (.int .u8 0)
def Qhi (e : TypeId) (s : ByteArray) : Sem Value:=do
  let cap ← choose (.appendCap s.size 0 e)
  let b ← newObj (.cells (Z9 s cap) e ((Z9 s cap).size,(Z9 s cap).size + 1))
  pure (.slice (some ⟨b,0,none⟩) s.size cap)
theorem QBg (e : TypeId) (s : ByteArray) (w : World) (es : Array Event) : (Conv.stringToBytes e s).runT P w es = (Qhi e s).runT P w es:=by
  unfold Conv.stringToBytes Qhi markStringish
  rw [show (choose (.appendCap s.size 0 e) >>= _ : Sem Value) = (choose (.appendCap s.size 0 e)).bind _ from rfl,Go.Sem.runT_bind']
  rw [show (choose (.appendCap s.size 0 e) >>= _ : Sem Value) = (choose (.appendCap s.size 0 e)).bind _ from rfl,Go.Sem.runT_bind']
  generalize (choose (.appendCap s.size 0 e)).runT P w es = r
  obtain ⟨r,es⟩:=r
  cases r with
  | halt h w=>rfl
  | ok cap w =>
    simp only [newRow,newObj,shape,freeze,Bind.bind,Sem.bind,Pure.pure,Sem.runT,World.shape?,Array.getElem?_push_size]
    unfold World.freeze
    simp only [Nat.one_ne_zero,if_false]
    congr 2
    congr 1
    apply Array.ext_getElem?
    intro i
    rw [Array.getElem?_modify,Array.getElem?_push,Array.getElem?_push]
    by_cases hi : w.heap.size = i
    · subst hi; simp [Z9]
    · rw [if_neg hi]
      have : ¬ i = w.heap.size:=fun e=>hi e.symm
      simp [this]
theorem QTo (e : TypeId) (s : ByteArray) : Tame P (Conv.stringToBytes e s) :=
  .same _ _ (QBg e s) (.bnd (Qlr _) fun cap=>.bnd (QBt _ rfl) fun b=>.pure _)
theorem QTe {e : TypeId} {s : ByteArray} (hu : P.underlying T = some .string) (hU : P.underlying U = some (.slice e)) (he : P.underlying e = some (.int .u8)) : Tame P (convert T U (.string s)):=by
  unfold convert
  exact .und hu (.und hU (.und he (QTo _ _)))
theorem QEv (s : ByteArray) (cap : Nat) (L : List Value) : Elems L w (((Z9 s cap).toList.drop 0).take (s.size * Rep.n U8)) (bl s):=by
  have e1 : Rep.n U8 = 1:=rfl
  have hl : (s.data.toList.map fun b=>Value.int .u8 b.toNat).length = s.size:=by rw [List.length_map]; rfl
  have e2 : ((Z9 s cap).toList.drop 0).take (s.size * Rep.n U8) = s.data.toList.map fun b=>Value.int .u8 b.toNat:=by
    rw [e1,Nat.mul_one,List.drop_zero]
    simp only [Z9,Array.toList_append,Array.toList_map]
    rw [List.take_append_of_le_length (by rw [hl]; exact Nat.le_refl _),List.take_of_length_le (by rw [hl]; exact Nat.le_refl _)]
  rw [e2]
  refine ⟨by rw [hl,Qba,e1,Nat.mul_one],fun i x hx=>?_⟩
  rw [e1,Nat.mul_one]
  replace hx : ((s.data.toList.map fun b=>((b.toNat : Nat) : Int)) : List Int)[i]? = some (x : Int):=hx
  rw [List.getElem?_map] at hx
  obtain ⟨b,hb,hbe⟩:=Option.map_eq_some_iff.1 hx
  subst hbe
  show ((s.data.toList.map fun b=>Value.int .u8 b.toNat).drop i).take 1 = [.int .u8 (b.toNat : Int)]
  obtain ⟨hi,he⟩:=List.getElem?_eq_some_iff.1 hb
  rw [List.drop_eq_getElem_cons (by rw [List.length_map]; exact hi)]
  simp [he]
theorem QEo {e : TypeId} {s : ByteArray} {xs : List U8} {L : List Value} {K : Value → World → Prop} (hu : P.underlying T = some .string) (hU : P.underlying U = some (.slice e)) (he : P.underlying e = some (.int .u8)) (hx : QC n ρ x = .string s) (hs : tob s = some xs) (hlt : LtL L w)
    (h : ∀ v w',Ext w w' → SlRd L w' v xs → K v w') : Eff P ⟨d,.convert T U x,t,p,af,gu⟩ n ρ w K:=by
  unfold tob at hs
  split at hs
  · rename_i hsz
    cases hs
    refine JE (Zs (by rw [hx]; exact QTe hu hU he)) fun w1 e1=>?_
    have hrun : (convert T U (.string s)).run P w1 = (Qhi e s).run P w1:=by
      have h1:=QBg (P:=P) e s w1 #[]
      have h2 : (convert T U (.string s)).run P w1 = (Conv.stringToBytes e s).run P w1:=by
        simp [convert,run_underlying hu,run_underlying hU,run_underlying he]
      rw [h2,← Sem.runT_fst P _ w1 #[],h1,Sem.runT_fst]
    generalize hcap : Question.cut (.appendCap s.size 0 e) (w1.tape w1.drawn (.appendCap s.size 0 e)) = cap
    have hcb : s.size ≤ cap ∧ cap ≤ maxLen:=by
      rw [← hcap]
      simp only [Question.cut]
      have:=Nat.mod_lt (w1.tape w1.drawn (.appendCap s.size 0 e)) (show 0 < 2 ^ 63 - s.size by omega)
      unfold maxLen
      omega
    have hr2 : (Qhi e s).run P w1 = .ok (.slice (some ⟨w1.heap.size,0,none⟩) s.size cap) { w1 with drawn:=w1.drawn + 1,heap:=w1.heap.push (.cells (Z9 s cap) e ((Z9 s cap).size,(Z9 s cap).size + 1)) }:=by
      simp [Qhi,choose,newObj,Sem.run,Question.forced,hcap,Bind.bind,Sem.bind,Pure.pure]
    simp only [execOp,hx,Sem.run_bind,hrun,hr2,Result.andThen,Sem.run_pure,effR]
    refine h _ _ (e1.trans ⟨rfl,rfl,rfl,by simp,fun b hb _=>by simp [Array.getElem?_push_lt hb,Array.getElem?_eq_getElem hb]⟩) ?_
    refine .inr ⟨w1.heap.size,0,cap,Z9 s cap,e,((Z9 s cap).size,(Z9 s cap).size + 1),by rw [Qba],by simp,fun x hx e=>?_,by rw [Qba]; exact hcb.1,hcb.2,?_,?_⟩
    · have:=hlt x hx _ e
      have:=e1.size
      omega
    · have e3 : Rep.n U8 = 1:=rfl
      have : s.data.size = s.size:=rfl
      simp [e3,Z9]; omega
    · rw [Qba]; exact QEv s cap L
  · cases hs
end
end Go.Gw

end
section
set_option linter.unusedSectionVars false
namespace Go.Gw
open Go
section
variable {P : Program} [JD P] {n : Nat} {ρ : Env} {w : World}
variable {d : Option Nat} {t T U : TypeId} {p : String} {af : Array Edge} {gu : Option (Nat × Bool)} {x y z : Operand}

def cutf (v : Value) (hi k : Nat) : Value:=match v with
  | .slice a _ _=>.slice (if hi = 0 then a else a.map (·.add (0 * k))) hi hi
  | v=>v
def Full (v : Value) : Prop:=∃ a k,v = .slice a k k

theorem SlRd.cutF {α : Type} [Rep α] {L : List Value} {w : World} {v : Value} {xs ys : List α} {hi : Int} (hs : SlRd L w v xs) (hc : Gw.cut xs 0 hi = some ys) : SlRd L w (cutf v hi.toNat (Rep.n α)) ys:=by
  obtain ⟨h0,h1,h2,rfl⟩:=Qiq hc
  have hk : hi.toNat ≤ xs.length:=by omega
  rcases hs with ⟨a0,rfl,rfl⟩ | ⟨b,off,cap,cur,e,fz,rfl,hb,hA,h4,h5,h6,h7⟩
  · have : hi = 0:=by simp at h2; omega
    subst this
    exact .inl ⟨a0,by simp [cutf],by simp⟩
  · have hlen : ((xs.take hi.toNat).drop (0 : Int).toNat).length = hi.toNat:=by simp; omega
    have ht : (xs.take hi.toNat).drop (0 : Int).toNat = xs.take hi.toNat:=by simp
    have hmul:=Nat.mul_le_mul_right (Rep.n α) hk
    have hmul2:=Nat.mul_le_mul_right (Rep.n α) h4
    refine .inr ⟨b,off,hi.toNat,cur,e,fz,?_,hb,hA,by rw [hlen]; exact Nat.le_refl _,by omega,by omega,?_⟩
    · simp only [cutf,hlen]
      congr 1
      split
      · rfl
      · simp only [Option.map_some,Nat.zero_mul]; rw [YU]; rfl
    · rw [hlen,ht]
      refine ⟨by rw [List.length_take,List.length_take,List.length_drop,Array.length_toList,Nat.min_eq_left hk]; omega,fun i x hx=>?_⟩
      have hi2 : i < hi.toNat:=by
        rcases Nat.lt_or_ge i hi.toNat with h | h
        · exact h
        · rw [List.getElem?_eq_none (by rw [List.length_take]; omega)] at hx; cases hx
      rw [List.getElem?_take_of_lt hi2] at hx
      have:=h7.2 i x hx
      have hlt : i * Rep.n α + Rep.n α ≤ hi.toNat * Rep.n α:=by rw [← Nat.succ_mul]; exact Nat.mul_le_mul_right _ hi2
      rw [List.drop_take,List.take_take] at this ⊢
      rw [Nat.min_eq_left (by omega)] at this ⊢
      exact this
theorem Full.cut {v : Value} {hi k : Nat} (h : ∃ a m c,v = .slice a m c) : Full (cutf v hi k):=by
  obtain ⟨a,m,c,rfl⟩:=h; exact ⟨_,_,rfl⟩
theorem SlRd.sl {α : Type} [Rep α] {L : List Value} {w : World} {v : Value} {xs : List α} (h : SlRd L w v xs) : ∃ a m c,v = .slice a m c:=by
  obtain ⟨a,c,h,_⟩:=h.shape; exact ⟨a,_,c,h⟩

theorem QUq {α : Type} [Rep α] {e : TypeId} {L : List Value} {w2 : World} {v : Value} {xs ys : List α} {k k' : IntKind} {hi : Int} {u : Operand} (hu : P.underlying T = some (.slice e)) (hz : XV P e (Rep.n α)) (hs : SlRd L w2 v xs) (hc : cut xs 0 hi = some ys)
    (hx : QC n ρ x = v) (hh : QC n ρ z = .int k hi) (hm : QC n ρ u = .int k' hi) : Yl P n ρ ⟨d,.slice T x none (some z) (some u),t,p,af,gu⟩ w (cutf v hi.toNat (Rep.n α)):=by
  obtain ⟨h0,h1,h2,_⟩:=Qiq hc
  obtain ⟨a,cap,hv,_⟩:=hs.shape
  have hcap : xs.length ≤ cap:=by
    rcases hs with ⟨a0,rfl,rfl⟩ | ⟨b,off,cap',cur,e,fz,rfl,hb,hA,h4,_⟩
    · exact Nat.zero_le _
    · cases hv; exact h4
  subst hv
  refine Qai (Zs (QTl _ _ _ _ _)) fun w1 _=>?_
  have e1:=Qzn (P:=P) (w:=w1) (k:=k') (i:=hi) (y:=cap) (c:=.slice3Acap) (by omega) (by omega)
  have e2:=Qzn (P:=P) (w:=w1) (k:=k) (i:=hi) (y:=hi.toNat) (c:=.slice3B) (by omega) (by omega)
  simp [execOp,hx,hh,hm,Instr.sliceAt,Instr.slice,run_underlying hu,Instr.sliceBounds,e1,e2,Qad hz,cutf]

theorem Qqj {α : Type} [Rep α] {e : TypeId} {bytes : Nat} {zz : Value} {L : List Value} {v vx : Value} {xs ys : List α}
    (hu : P.underlying T = some (.slice e)) (hi : EInfo P e (Rep.n α) bytes zz) (hr : SlRd L w v xs) (hf : Full v) (hs : SlRd L w vx ys) (hne : 0 < ys.length)
    (hb : (xs.length + ys.length) * bytes ≤ 140737488355328) (hm : xs.length + ys.length ≤ maxLen) :
    ∃ v' w',(Builtin.append_ #[T,T] t #[v,vx]).run P w = .ok v' w' ∧ Ext w w' ∧ (∀ b,Qh v' = some b → w.heap.size ≤ b) ∧ Own e (v' :: L) w' v' (xs ++ ys):=by
  obtain ⟨i,h1,h2,h3,h4,h5,h6⟩:=hi.ex
  rcases hs with ⟨a0,rfl,rfl⟩ | ⟨b,off,cap,cur,e',fz,rfl,hblk,hA,hcap,hcm,hsz,hely⟩
  · simp at hne
  have hnl : (((cur.toList.drop off).take (ys.length * Rep.n α))).length = ys.length * Rep.n α:=hely.1
  have hnews : ∀ j u,((cur.toList.drop off).take (ys.length * Rep.n α))[j]? = some u → w.cell? ((⟨b,off,none⟩ : Addr).add j) = some u:=fun j u hu=>by
    rw [YU]
    have hj : j < ys.length * Rep.n α:=by
      rcases Nat.lt_or_ge j (ys.length * Rep.n α) with h | h
      · exact h
      · rw [List.getElem?_eq_none (by rw [hnl]; exact h)] at hu; cases hu
    rw [List.getElem?_take_of_lt hj,List.getElem?_drop] at hu
    simp [World.cell?,hblk,← hu]
  -- what lies there
  obtain ⟨olds,hol,hoe⟩ : ∃ olds : List Value,olds.length = xs.length * Rep.n α ∧ Elems L w olds xs:=by
    rcases hr with ⟨a0,rfl,rfl⟩ | ⟨_,_,_,_,_,_,_,_,_,_,_,_,h7⟩
    · exact ⟨[],by simp,Elems.nil⟩
    · exact ⟨_,h7.1,h7⟩
  have grown : ∀ (olds : List Value), olds.length = xs.length * Rep.n α → Elems L w olds xs → (Builtin.append_ #[T, T] t #[v, .slice (some ⟨b, off, none⟩) ys.length cap]).run P w = .ok (.slice (some ⟨w.heap.size, 0, none⟩) (xs.length + ys.length) (grownCap w (xs.length + ys.length) xs.length e)) (w.drew.alloc (.cells (olds.toArray ++ ((cur.toList.drop off).take (ys.length * Rep.n α)).toArray ++ Builtin.zeroCells zz.cells (grownCap w (xs.length + ys.length) xs.length e - (xs.length + ys.length))) e)) →
      ∃ v' w',(Builtin.append_ #[T,T] t #[v,.slice (some ⟨b,off,none⟩) ys.length cap]).run P w = .ok v' w' ∧ Ext w w' ∧ (∀ b,Qh v' = some b → w.heap.size ≤ b) ∧ Own e (v' :: L) w' v' (xs ++ ys):=fun olds hol hoe hr=>by
    have hge:=grownCap_ge w (xs.length + ys.length) xs.length e
    have hcm : grownCap w (xs.length + ys.length) xs.length e ≤ maxLen:=grownCap_le_maxLen w _ _ e hm
    have hE : Ext w (w.drew.alloc (.cells (olds.toArray ++ ((cur.toList.drop off).take (ys.length * Rep.n α)).toArray ++ Builtin.zeroCells zz.cells (grownCap w (xs.length + ys.length) xs.length e - (xs.length + ys.length))) e)) :=
      ⟨rfl,rfl,rfl,by simp,fun k hk _=>heap_alloc_old w.drew _ hk⟩
    have hfr : ∀ k,Qh (.slice (some ⟨w.heap.size,0,none⟩) (xs.length + ys.length) (grownCap w (xs.length + ys.length) xs.length e)) = some k → w.heap.size ≤ k:=fun k hk=>by simp [Qh] at hk; omega
    have hlen : (olds ++ ((cur.toList.drop off).take (ys.length * Rep.n α))).length = (xs.length + ys.length) * Rep.n α:=by rw [List.length_append,hol,hnl,Nat.add_mul]
    refine ⟨_,_,hr,hE,hfr,olds ++ ((cur.toList.drop off).take (ys.length * Rep.n α)),⟨by rw [hlen,List.length_append],.inr ⟨w.heap.size,_,_,by rw [List.length_append],Nat.zero_le _,heap_alloc_new w.drew _,by rw [List.length_append]; exact hge,hcm,?_,?_⟩⟩,?_⟩
    · simp only [Array.size_append,List.size_toArray,size_zeroCells,h5,hol,hnl,← Nat.add_mul]
      congr 1
      omega
    · simp only [Array.toList_append,List.append_assoc]
      rw [← List.append_assoc,List.length_append,← hlen]
      exact List.take_left
    · exact (hoe.append hely).step (Stepp.add _ hE hfr)
  obtain ⟨a,k,hv⟩:=hf
  rcases hr with ⟨a0,rfl,rfl⟩ | ⟨b2,off2,cap2,cur2,e2,fz2,rfl,hblk2,hA2,hcap2,hcm2,hsz2,hely2⟩
  · refine grown [] (by simp) Elems.nil ?_
    cases a0 with
    | none =>
      have hr:=run_append_nil (P:=P) w T t e i zz hu h1 h4 ⟨b,off,none⟩ ys.length cap _ (by rw [h2]; exact hnl) hnews hne (by simp only [List.length_nil,Nat.zero_add] at hm; unfold maxLen at hm; omega) (by rw [h3]; simp only [List.length_nil,Nat.zero_add] at hb; omega)
      simpa using hr
    | some a0 =>
      have hr:=run_append_grow (P:=P) w T t e i zz hu h1 h4 a0 0 0 [] (by simp) (fun j v hv=>by simp at hv) ⟨b,off,none⟩ ys.length cap _ (by rw [h2]; exact hnl) hnews (by omega) (by simp only [List.length_nil,Nat.zero_add] at hm; unfold maxLen at hm; omega) (growslice_fits (by omega) (by rw [h3]; simpa using hb))
      simpa using hr
  · cases hv
    have holds : ∀ j u,((cur2.toList.drop off2).take (xs.length * Rep.n α))[j]? = some u → w.cell? ((⟨b2,off2,none⟩ : Addr).add j) = some u:=fun j u hu=>by
      rw [YU]
      have hj : j < xs.length * Rep.n α:=by
        rcases Nat.lt_or_ge j (xs.length * Rep.n α) with h | h
        · exact h
        · rw [List.getElem?_eq_none (by rw [hely2.1]; exact h)] at hu; cases hu
      rw [List.getElem?_take_of_lt hj,List.getElem?_drop] at hu
      simp [World.cell?,hblk2,← hu]
    refine grown _ hely2.1 hely2 ?_
    exact run_append_grow (P:=P) w T t e i zz hu h1 h4 ⟨b2,off2,none⟩ xs.length xs.length _ (by rw [h2]; exact hely2.1) holds ⟨b,off,none⟩ ys.length cap _ (by rw [h2]; exact hnl) hnews (by omega) (by unfold maxLen at hm; omega) (growslice_fits (by omega) (by rw [h3]; exact hb))

theorem Qng {α : Type} [Rep α] {e : TypeId} {bytes : Nat} {zz : Value} {L : List Value} {v vx : Value} {xs ys zs : List α} {K : Value → World → Prop} {aT : Array TypeId}
    (hu : P.underlying T = some (.slice e)) (hi : EInfo P e (Rep.n α) bytes zz) (hbm : Nat.ble bytes 65536 = true) (hT : aT = #[T,T]) (hx : QC n ρ x = v) (hy : QC n ρ y = vx) (hr : SlRd L w v xs) (hf : Full v) (hs : SlRd L w vx ys) (hne : 0 < ys.length)
    (hz : app xs ys = some zs)
    (h : ∀ v' w',Ext w w' → (∀ b,Qh v' = some b → w.heap.size ≤ b) → Own e (v' :: L) w' v' zs → K v' w') : Eff P ⟨d,.call ⟨.builtin .append,#[x,y],aT⟩,t,p,af,gu⟩ n ρ w K:=by
  subst hT
  obtain ⟨hb,rfl⟩:=Qmq hz
  have hbm : bytes ≤ 65536:=by simpa using hbm
  have : (xs.length + ys.length) * bytes ≤ 1073741824 * 65536:=Nat.mul_le_mul hb hbm
  have e0 : execOp (QC n ρ) ⟨d,.call ⟨.builtin .append,#[x,y],#[T,T]⟩,t,p,af,gu⟩ = (Builtin.append_ #[T,T] t #[v,vx] >>= fun v=>Pure.pure (Next.value v)):=by
    simp [execOp,resolve,invoke,builtin,hx,hy]
  refine JE (by rw [e0]; exact Zs (Qlo hu _ _ _)) fun w1 e1=>?_
  rw [e0]
  obtain ⟨v',w',hr',hc,hbl,ho⟩:=Qqj (P:=P) (t:=t) hu hi (hr.step (Stepp.ext e1)) hf (hs.step (Stepp.ext e1)) hne (by omega) (by unfold maxLen; omega)
  simp only [Sem.run_bind,hr',Result.andThen,Sem.run_pure,effR]
  exact h v' w' (e1.trans hc) (fun b hb=>Nat.le_trans e1.size (hbl b hb)) ho
theorem Qzm {α : Type} [Rep α] {e : TypeId} {bytes : Nat} {zz : Value} {L : List Value} {v vx : Value}
    (hu : P.underlying T = some (.slice e)) (hi : EInfo P e (Rep.n α) bytes zz) (hf : Full v) (hs : SlRd L w vx ([] : List α)) : (Builtin.append_ #[T,T] t #[v,vx]).run P w = .ok v w:=by
  obtain ⟨i,h1,h2,h3,h4,h5,h6⟩:=hi.ex
  obtain ⟨av,k,rfl⟩:=hf
  obtain ⟨a0,c,rfl,_⟩:=hs.shape
  have hl0 : ∀ a : Addr,(loadCells a 0).run P w = .ok #[] w:=fun a=>run_loadCells_list (P:=P) w a [] (fun j v hv=>by simp at hv)
  simp [Builtin.append_,run_underlying hu,sizeOf,typeInfo,h1,Builtin.lenOf,Builtin.firstCells]
  cases av <;> cases a0 <;> simp [storeCells,hl0]
theorem Yg {α : Type} [Rep α] {e : TypeId} {bytes : Nat} {zz : Value} {L : List Value} {v vx : Value} {xs ys zs : List α} {K : Value → World → Prop} {aT : Array TypeId}
    (hu : P.underlying T = some (.slice e)) (hi : EInfo P e (Rep.n α) bytes zz) (hbm : Nat.ble bytes 65536 = true) (hT : aT = #[T,T]) (hx : QC n ρ x = v) (hy : QC n ρ y = vx) (hown : Own e (v :: L) w v xs) (hf : Full v) (hs : SlRd (v :: L) w vx ys)
    (hz : app xs ys = some zs)
    (h : ∀ v' w',Ext w w' → (∀ b,Qh v' = some b → Qh v = some b ∨ w.heap.size ≤ b) → Own e (v' :: L) w' v' zs → K v' w') : Eff P ⟨d,.call ⟨.builtin .append,#[x,y],aT⟩,t,p,af,gu⟩ n ρ w K:=by
  subst hT
  obtain ⟨hb,rfl⟩:=Qmq hz
  have hbm : bytes ≤ 65536:=by simpa using hbm
  have : (xs.length + ys.length) * bytes ≤ 1073741824 * 65536:=Nat.mul_le_mul hb hbm
  have e0 : execOp (QC n ρ) ⟨d,.call ⟨.builtin .append,#[x,y],#[T,T]⟩,t,p,af,gu⟩ = (Builtin.append_ #[T,T] t #[v,vx] >>= fun v=>Pure.pure (Next.value v)):=by
    simp [execOp,resolve,invoke,builtin,hx,hy]
  refine JE (by rw [e0]; exact Zs (Qlo hu _ _ _)) fun w1 e1=>?_
  rw [e0]
  have hown1:=hown.step (Stepp.ext e1) e1 (fun _ _=>Avoids.nil _)
  have hs1:=hs.step (Stepp.ext e1)
  rcases Nat.eq_zero_or_pos ys.length with hz | hz
  · obtain rfl:=List.eq_nil_of_length_eq_zero hz
    simp only [Sem.run_bind,Qzm (t:=t) hu hi hf hs1,Result.andThen,Sem.run_pure,effR]
    rw [List.append_nil] at h
    exact h v w1 e1 (fun b hb=>.inl hb) hown1
  · obtain ⟨v',w',hr,hc,hbl,ho⟩:=Qqi (P:=P) (t:=t) hu hi hown1 hs1 (by omega) (by unfold maxLen; omega)
    obtain ⟨v2,w2,hr2,he2,_⟩:=Qqj (P:=P) (t:=t) hu hi ((hown1.sub (L':=[]) (fun _ h=>by cases h)).rd (fun b _=>Avoids.nil b)) hf (hs1.sub (fun _ h=>by cases h)) hz (by omega) (by unfold maxLen; omega)
    rw [hr] at hr2
    cases hr2
    simp only [Sem.run_bind,hr,Result.andThen,Sem.run_pure,effR]
    exact h v' w' (e1.trans he2) (fun b hb=>(hbl b hb).imp id fun h=>Nat.le_trans e1.size h) ho
theorem QEg {α : Type} [Rep α] {e : TypeId} {bytes : Nat} {zz : Value} {L : List Value} {v vx : Value} {xs ys zs : List α} {K : Value → World → Prop} {aT : Array TypeId}
    (hu : P.underlying T = some (.slice e)) (hi : EInfo P e (Rep.n α) bytes zz) (hbm : Nat.ble bytes 8 = true) (hT : aT = #[T,T]) (hx : QC n ρ x = v) (hy : QC n ρ y = vx) (hown : Own e (v :: L) w v xs) (hf : Full v) (hs : SlRd (v :: L) w vx ys)
    (hz : Qcy xs ys = some zs)
    (h : ∀ v' w',Ext w w' → (∀ b,Qh v' = some b → Qh v = some b ∨ w.heap.size ≤ b) → Own e (v' :: L) w' v' zs → K v' w') : Eff P ⟨d,.call ⟨.builtin .append,#[x,y],aT⟩,t,p,af,gu⟩ n ρ w K:=by
  subst hT
  obtain ⟨hb,rfl⟩:=QDa hz
  have hbm : bytes ≤ 8:=by simpa using hbm
  have : (xs.length + ys.length) * bytes ≤ 17592186044416 * 8:=Nat.mul_le_mul hb hbm
  have e0 : execOp (QC n ρ) ⟨d,.call ⟨.builtin .append,#[x,y],#[T,T]⟩,t,p,af,gu⟩ = (Builtin.append_ #[T,T] t #[v,vx] >>= fun v=>Pure.pure (Next.value v)):=by
    simp [execOp,resolve,invoke,builtin,hx,hy]
  refine JE (by rw [e0]; exact Zs (Qlo hu _ _ _)) fun w1 e1=>?_
  rw [e0]
  have hown1:=hown.step (Stepp.ext e1) e1 (fun _ _=>Avoids.nil _)
  have hs1:=hs.step (Stepp.ext e1)
  rcases Nat.eq_zero_or_pos ys.length with hz | hz
  · obtain rfl:=List.eq_nil_of_length_eq_zero hz
    simp only [Sem.run_bind,Qzm (t:=t) hu hi hf hs1,Result.andThen,Sem.run_pure,effR]
    rw [List.append_nil] at h
    exact h v w1 e1 (fun b hb=>.inl hb) hown1
  · obtain ⟨v',w',hr,hc,hbl,ho⟩:=Qqi (P:=P) (t:=t) hu hi hown1 hs1 (by omega) (by unfold maxLen; omega)
    obtain ⟨v2,w2,hr2,he2,_⟩:=Qqj (P:=P) (t:=t) hu hi ((hown1.sub (L':=[]) (fun _ h=>by cases h)).rd (fun b _=>Avoids.nil b)) hf (hs1.sub (fun _ h=>by cases h)) hz (by omega) (by unfold maxLen; omega)
    rw [hr] at hr2
    cases hr2
    simp only [Sem.run_bind,hr,Result.andThen,Sem.run_pure,effR]
    exact h v' w' (e1.trans he2) (fun b hb=>(hbl b hb).imp id fun h=>Nat.le_trans e1.size h) ho
theorem Za {α : Type} [Rep α] {e : TypeId} {bytes : Nat} {z : Value} {L : List Value} {K : Value → World → Prop} (hu : P.underlying T = some (.slice e)) (hi : EInfo P e (Rep.n α) bytes z)
    (h : ∀ v w',Ext w w' → (∀ b,Qh v = some b → w.heap.size ≤ b) → Own e (v :: L) w' v ([] : List α) → Full v → K v w') : Eff P ⟨d,.buildSlice T 0 #[],t,p,af,gu⟩ n ρ w K :=
  Qtc (xs:=[]) (cells:=[]) hu hi (by simp) (by simp [JS,Qep]) Elems.nil rfl fun _ w' hb he _ ho=>h _ w' he (fun k hk=>by simp [Qh] at hk; omega) ho ⟨_,_,rfl⟩
/-! ### Whether an own slice is nil, told by its list -/
/-! ### Pointers that lie in arrays; loops of few rounds -/
theorem Qbq {a : Addr} (hx : QC n ρ x = .pointer (some a)) : Yl P n ρ ⟨d,.nilCheck x,t,p,af,gu⟩ w (.pointer (some a)):=Yr fun w es=>by
  simp only [execOp,hx]; rfl
def unr (P : Program) [JD P] (n : Nat) (c : Code) (q : Post) : Nat → Env → World → Prop
  | 0=>fun _ _=>False
  | k + 1=>fun ρ w=>WC P n c ⟨unr P n c q k,q.ex,q.ret⟩ ρ w
theorem QEn {α : Type} [Rep α] {e : TypeId} {L : List Value} {v : Value} {xs : List α} {i : Int} {el y' : α} {off : Nat} {u : Value} {K : Value → World → Prop} (hs : XV P T u.cells.size) (hown : Own e L w v xs) (hv : v ∈ L) (hel : idx xs i = some el)
    (hx : QC n ρ x = .pointer (some ((QD v i.toNat (Rep.n α)).add off))) (hy : QC n ρ y = u) (hl : off + u.cells.size ≤ Rep.n α) (h1 : ∀ c ∈ u.cells.toList,c.oneCell' = true)
    (hset : ∀ w',Chg [v] w w' → ∀ cs,Rep.rd L w' cs el → Rep.rd L w' (YY cs off u.cells.toList) y')
    (h : ∀ w',Chg [v] w w' → Own e L w' v (xs.set i.toNat y') → K undef w') : Eff P ⟨d,.store T x y,t,p,af,gu⟩ n ρ w K:=by
  refine JE (Qri (Qrh _ _ _)) fun w1 e1=>?_
  replace hown:=hown.step (Stepp.ext e1) e1 (fun _ _=>Avoids.nil _)
  obtain ⟨h0,hi,h2⟩:=Qcd hel
  obtain ⟨cells,ho,hE⟩:=hown
  rcases ho.2 with ⟨_,hh⟩ | ⟨g,cap,cur,rfl,_,hg,h4,h5,hcs,htake⟩
  · omega
  · have hlen : i.toNat * Rep.n α + off + 0 + u.cells.toList.length ≤ cells.length := by
      have : (i.toNat + 1) * Rep.n α ≤ xs.length * Rep.n α:=Nat.mul_le_mul_right _ hi
      rw [Nat.succ_mul] at this
      rw [hE.1]; simp; omega
    obtain ⟨w',hr,ho2,hg2⟩:=Qqk (P:=P) u.cells.toList (i.toNat * Rep.n α + off) 0 cells w1 ho hlen h1
    have hx' : QC n ρ x = .pointer (some ⟨g,i.toNat * Rep.n α + off,none⟩):=by rw [hx]; simp [QD,YU]
    have hst : (Instr.storeAt T (.pointer (some ⟨g,i.toNat * Rep.n α + off,none⟩)) u).run P w1 = .ok () w':=by
      simp [Instr.storeAt,Instr.sureAddr,storeVar,Qad hs,hr]
    simp only [execOp,hx',hy,Sem.run_bind,hst,Result.andThen,Sem.run_pure,effR]
    have hc : Chg [Value.slice (some ⟨g,0,none⟩) xs.length cap] w1 w':=⟨hg2.os,hg2.tape,hg2.output,hg2.size,fun b hb hA=>hg2.block b hb (fun e=>hA _ (List.mem_singleton.2 rfl) (by cases e; rfl))⟩
    refine h w' ((e1.mono (fun _ h=>by cases h)).trans hc) ⟨_,by rw [List.length_set]; exact ho2,?_⟩
    have hE':=hE.step (Qf hc hv)
    refine ⟨by rw [Qzx,List.length_set]; exact hE.1,fun j b hb=>?_⟩
    by_cases hj : j = i.toNat
    · subst hj
      rw [List.getElem?_set_self hi] at hb
      cases hb
      rw [Nat.add_zero,Qzz _ _ _ _ _ (by simpa using hl)]
      exact hset _ ((e1.mono (fun _ h=>by cases h)).trans hc) _ (hE'.2 _ _ h2)
    · rw [List.getElem?_set_ne (Ne.symm hj)] at hb
      rw [Nat.add_zero,Qzy]
      · exact hE'.2 _ _ hb
      · rcases Nat.lt_or_ge j i.toNat with hlt | hge
        · left
          have : (j + 1) * Rep.n α ≤ i.toNat * Rep.n α:=Nat.mul_le_mul_right _ hlt
          rw [Nat.succ_mul] at this; omega
        · right
          have : (i.toNat + 1) * Rep.n α ≤ j * Rep.n α:=Nat.mul_le_mul_right _ (by omega)
          rw [Nat.succ_mul] at this; simp; omega
theorem QEm {α : Type} [Rep α] {e : TypeId} {L : List Value} {v : Value} {xs : List α} {i : Int} {el y' : α} {off k : Nat} {u : Value} {vs : List Value} {K : Value → World → Prop} (hs : XV P T k) (hc : u.cells.toList = vs) (hk : vs.length = k) (hown : Own e L w v xs) (hv : v ∈ L) (hel : idx xs i = some el)
    (hx : QC n ρ x = .pointer (some ((QD v i.toNat (Rep.n α)).add off))) (hy : QC n ρ y = u) (hl : Nat.ble (off + k) (Rep.n α) = true) (h1 : ∀ c ∈ vs,c.oneCell' = true)
    (hset : ∀ w',Chg [v] w w' → ∀ cs,Rep.rd L w' cs el → Rep.rd L w' (YY cs off vs) y')
    (h : ∀ w',Chg [v] w w' → Own e L w' v (xs.set i.toNat y') → K undef w') : Eff P ⟨d,.store T x y,t,p,af,gu⟩ n ρ w K:=by
  subst hc; subst hk
  have e : u.cells.toList.length = u.cells.size:=by simp
  exact QEn (by rw [← e]; exact hs) hown hv hel hx hy (by rw [← e]; simpa using hl) h1 hset h
theorem QT {v : Value} {b off : Nat} {cs vs : List Value} {T' : TypeId} {K : Value → World → Prop} {k : Nat} (hs : XV P T k) (hv : v.cells.toList = vs) (hk : vs.length = k) (hx : QC n ρ x = .pointer (some ⟨b, off, none⟩)) (hy : QC n ρ y = v)
    (hb : Box w b cs T') (hl : Nat.ble (off + k) cs.length = true) (h1 : ∀ u ∈ vs,u.oneCell' = true) (hcs : YY cs off vs = vs)
    (h : ∀ w',Chg [.pointer (some ⟨b,0,none⟩)] w w' → Box w' b vs T' → K undef w') : Eff P ⟨d,.store T x y,t,p,af,gu⟩ n ρ w K:=YW hs hv hk hx hy hb hl h1 hcs h
theorem Q0 (w : World) : Ext w w:=Chg.refl _ _
structure Way (L0 : List Value) (w0 : World) (L : List Value) (w : World) : Prop where
  s : Stepp L0 w0 L w
theorem Way.refl (L : List Value) (w : World) : Way L w L w:=⟨Stepp.sub w fun _ h=>h⟩
theorem Way.step {L0 L L' : List Value} {w0 w w' : World} (h : Way L0 w0 L w) (s : Stepp L w L' w') : Way L0 w0 L' w':=⟨h.s.trans s⟩
theorem Way.ext {L0 L : List Value} {w0 w w' : World} (h : Way L0 w0 L w) (e : Ext w w') : Way L0 w0 L w':=h.step (Stepp.ext e)
theorem Way.sub {L0 L L' : List Value} {w0 w : World} (h : Way L0 w0 L w) (hs : ∀ x ∈ L',x ∈ L) : Way L0 w0 L' w:=h.step (Stepp.sub w hs)
theorem SlRd.way {α : Type} [Rep α] {L0 L : List Value} {w0 w : World} {v : Value} {xs : List α} (h : SlRd L0 w0 v xs) (s : Way L0 w0 L w) : SlRd L w v xs:=h.step s.s
end
end Go.Gw

end
