/- Laws of the walk. Condition: each theorem says its own. -/
import Derived.Test.YtekkhkapnapelaaGwMem
import Derived.Laws.OwnMore
import Derived.Laws.CopyRow
set_option linter.unusedVariables false
set_option linter.unusedSimpArgs false
set_option linter.unusedSectionVars false
section
namespace Go.Gw
open Go
section
variable {P : Program} {n : Nat} {q : Post} {ρ : Env} {w : World}

inductive Pl where
  | done
  | p (i : Nat) (r : Pl)
  | q (i : Nat) (r : Pl)
  | e (i : Nat) (r : Pl)
  | b (i : Nat) (r : Pl)
  | f (i : Nat) (r : Pl) (j : Nat) (s : Pl)
def Pl.hasQ : Pl → Bool
  | .done=>false
  | .p _ r=>r.hasQ
  | .q _ _=>true
  | .e _ r=>r.hasQ
  | .b _ _=>false
  | .f _ r _ s=>r.hasQ || s.hasQ
def Pl.len : Pl → Nat
  | .done=>0
  | .p _ r=>r.len + 1
  | .q _ r=>r.len + 1
  | .e _ r=>r.len + 1
  | .b _ r=>r.len + 1
  | .f _ r _ _=>r.len + 1
def Pl.brk : Pl → List Nat
  | .done=>[]
  | .p _ r=>r.brk
  | .q _ r=>r.brk
  | .e _ r=>r.brk
  | .b i r=>i :: r.brk
  | .f _ r _ s=>r.brk ++ s.brk

def TP (P : Program) (n : Nat) (ops : List Oper) (S : World → Prop) (K : Env → World → Prop) : Pl → Env → World → Prop
  | .done,ρ,w=>K ρ w
  | .p i r,ρ,w=>∃ o v,ops[i]? = some o ∧ Quiet P n ops.toArray (fun _=>True) o ρ v ∧ TP P n ops S K r (Xa ρ o.dst v) w
  | .q i r,ρ,w=>∃ o v,ops[i]? = some o ∧ Quiet P n ops.toArray S o ρ v ∧ TP P n ops S K r (Xa ρ o.dst v) w
  | .e i r,ρ,w=>∃ o,ops[i]? = some o ∧ Stp P n ops.toArray o ρ w (fun ρ' w'=>S w' ∧ TP P n ops S K r ρ' w')
  | .b i r,ρ,w=>∃ o,ops[i]? = some o ∧ Stp P n ops.toArray o ρ w (fun ρ' w'=>TP P n ops S K r ρ' w')
  | .f i r j s, ρ, w => (∃ o, ops[i]? = some o ∧ Stp P n ops.toArray o ρ w (fun ρ' w' => S w' ∧ TP P n ops S K r ρ' w')) ∧
      (∃ o,ops[j]? = some o ∧ Stp P n ops.toArray o ρ w (fun ρ' w'=>S w' ∧ TP P n ops S K s ρ' w'))

def YT (ops : Array Oper) (bs : List Nat) : Pl → Array Bool → Bool
  | .done,listed=>(Region.ready .any ops listed).isEmpty
  | .p i r,listed=>Region.free .any ops listed i && (Region.ready .any ops listed).contains i && YT ops bs r (listed.setIfInBounds i true)
  | .q i r,listed=>(bs.all fun b=>JK ops ops.size b i) && Region.free .any ops listed i && (Region.ready .any ops listed).contains i && YT ops bs r (listed.setIfInBounds i true)
  | .e i r,listed=>Region.ready .any ops listed == [i] && (!bs.contains i && YT ops bs r (listed.setIfInBounds i true))
  | .b i r,listed=>Region.ready .any ops listed == [i] && (bs.contains i && (!r.hasQ && YT ops bs r (listed.setIfInBounds i true)))
  | .f i r j s,listed=>Region.ready .any ops listed == [i,j] && (Nat.beq r.len s.len && (!bs.contains i && (!bs.contains j && (YT ops bs r (listed.setIfInBounds i true) && YT ops bs s (listed.setIfInBounds j true)))))

def Qmv (ops : Array Oper) (p : Pl) : Bool:=Region.noSelect ops && (Nat.beq p.len ops.size && YT ops p.brk p (Array.replicate ops.size false))

def anyQ (P : Program) (ops : Array Oper) (Q : Exit → Act → World → Prop) (bs : List Nat) (S : World → Prop) (Kt : Array Bool → Act → World → Prop) : Nat → Array Bool → Act → World → Prop
  | 0,listed,a,w=>Kt listed a w
  | fuel + 1,listed,a,w=>Region.ready .any ops listed ≠ [] ∧ ∀ i ∈ Region.ready .any ops listed,wpOp P ops Q i (fun a' w'=>(bs.contains i = false → S w → S w') ∧ anyQ P ops Q bs S Kt fuel (listed.setIfInBounds i true) a' w') a w

theorem anyQ.toAny {ops : Array Oper} {Q : Exit → Act → World → Prop} {bs : List Nat} {S : World → Prop} {Kt : Array Bool → Act → World → Prop} (ht : ∀ listed a w, Kt listed a w → wpAny P .any ops Q 0 listed a w) :
    ∀ (fuel : Nat) (listed : Array Bool) (a : Act) (w : World),anyQ P ops Q bs S Kt fuel listed a w → wpAny P .any ops Q fuel listed a w
  | 0,listed,a,w,h=>ht _ _ _ h
  | fuel + 1,listed,a,w,h=>⟨fun h0=>absurd h0 h.1,fun i hi=>wpOp_mono (fun a' w' h'=>anyQ.toAny ht fuel _ a' w' h'.2) (h.2 i hi)⟩

theorem Qxv {listed : Array Bool} {i x : Nat} (h : (listed.setIfInBounds i true).getD x true = false) : listed.getD x true = false ∧ x ≠ i:=by
  by_cases hx : i = x
  · subst hx
    exfalso
    by_cases hl : i < listed.size <;> simp [Array.getD,hl] at h
  · rw [getD_set_ne true hx] at h; exact ⟨h,fun e=>hx e.symm⟩

section
variable {S : World → Prop} {K : Env → World → Prop} {ops : List Oper} {o : Oper} {i : Nat} {r : Pl} {v : Value}
end
end
end Go.Gw

end
section
namespace Go.Gw
open Go
section
variable {P : Program} {n : Nat} {ρ : Env} {w : World}
variable {d : Option Nat} {t T U : TypeId} {p : String} {af : Array Edge} {gu : Option (Nat × Bool)} {x y z : Operand}

theorem Qqm {α : Type} [Rep α] {e : TypeId} {L : List Value} {v : Value} {xs : List α} {i : Int} {el y' : α} {off k : Nat} {u : Value} {vs : List Value} {K : Value → World → Prop} (hs : Xs P T k) (hc : u.cells.toList = vs) (hk : vs.length = k) (hown : Own e L w v xs) (hv : v ∈ L) (hel : idx xs i = some el)
    (hx : Qo n ρ x = .pointer (some ((QV v i.toNat (Rep.n α)).add off))) (hy : Qo n ρ y = u) (hl : Nat.ble (off + k) (Rep.n α) = true) (h1 : ∀ c ∈ vs,c.oneCell' = true)
    (hset : ∀ w' cs,Rep.rd L w' cs el → Rep.rd L w' (Ye cs off vs) y')
    (h : ∀ w',Chg [v] w w' → Own e L w' v (xs.set i.toNat y') → K undef w') : Eff P ⟨d,.store T x y,t,p,af,gu⟩ n ρ w K:=by
  subst hc; subst hk
  have e : u.cells.toList.length = u.cells.size:=by simp
  exact Qql (by rw [← e]; exact hs) hown hv hel hx hy (by rw [← e]; simpa using hl) h1 hset h

def mk {α : Type} (i : Int) (zero : α) : Option (List α):=if 0 ≤ i ∧ i ≤ 1048576 then some (List.replicate i.toNat zero) else none
theorem Elems.replicate {α : Type} [Rep α] {L : List Value} {c : Value} {zero : α} (h1 : Rep.n α = 1) (hz : Rep.rd L w [c] zero) : ∀ m : Nat,Elems L w (List.replicate m c) (List.replicate m zero)
  | 0=>Elems.nil
  | m + 1=>by
    rw [List.replicate_succ,List.replicate_succ]
    exact Elems.cons (cs:=[c]) hz (Elems.replicate h1 hz m)

end
end Go.Gw

end
section
namespace Go.Gw
open Go
section
variable {P : Program} {n : Nat} {ρ : Env} {w : World}
variable {d : Option Nat} {t T U : TypeId} {p : String} {af : Array Edge} {gu : Option (Nat × Bool)} {x y z : Operand}

def cpy (l : List Int) : List Int → List Int
  | []=>[]
  | x :: xs=>match l with
    | []=>x :: xs
    | y :: l=>y :: cpy l xs
def Qza (xs : List Int) (hi mx : Int) : Option (List Int):=if 0 < mx ∧ mx ≤ xs.length ∧ 0 ≤ hi ∧ hi ≤ mx then some (xs.take hi.toNat) else none
end
end Go.Gw
namespace Go.Gw
end Go.Gw

end
section
namespace Go.Gw
open Go
section
variable {P : Program} {n : Nat} {ρ : Env} {w : World}
theorem Qjl {ops : Array Oper} {K : Env → World → Prop} {o : Oper} {os : List Oper} (Φ : Value → World → Prop) (b : Bool) (hw : Xl ops o n ρ = b) (ht : b = true → Eff P o n ρ w (fun v w' => Ext w w' ∧ Φ v w'))
    (h : ∀ v w',Ext w w' → (b = true → Φ v w') → T0 P n ops K os (Xa ρ o.dst (gd b v)) w') : T0 P n ops K (o :: os) ρ w :=
  Qjk b hw (fun hb=>(ht hb).mono fun v w' ⟨he,hv⟩=>by have:=h v w' he (fun _=>hv); rw [Qw hb] at this; exact this)
    (fun hb=>by have:=h undef w (Chg.refl _ _) (fun hb'=>by rw [hb] at hb'; cases hb'); rw [Qbh hb] at this; exact this)
end
end Go.Gw

end
