/- Laws of the walk. Condition: each theorem says its own. -/
import Derived.Test.YtekkhkapnapelaaGwPlan
import Derived.Laws.ByValue
import Derived.Laws.Externs
import Derived.WalkSpells
import Derived.Shelf.GgSortFunc.InsertionK
import Derived.Sort.Statements
import Derived.IntWalk
import Derived.Test.YtekkhkapnapelaaGwFacts
import Derived.Shelf.SlicesE.DeleteFunc
import Derived.Shelf.SlicesE.Delete
import Derived.WalkKit
import Derived.Shelf.SortM.Plain
set_option linter.unusedVariables false
set_option linter.unusedSimpArgs false
set_option linter.unusedSectionVars false
section
namespace Go.Gw
open Go
section
variable {P : Program} {n : Nat} {q : Post} {ρ : Env} {w : World}
end
end Go.Gw

end
section
namespace Go.Gw
open Go
section
variable {P : Program} {n : Nat} {ρ : Env} {w w' : World}
variable {d : Option Nat} {t T U : TypeId} {p : String} {af : Array Edge} {gu : Option (Nat × Bool)} {x y z : Operand}
theorem Jr {f : FuncId} {cap : Array Operand} {cs : List Value} (h : (cap.map (Qo n ρ)).toList = cs) : Yl P n ρ ⟨d,.makeFunc (.func f) #[] cap,t,p,af,gu⟩ w (.func (.func f) #[] cs.toArray):=by
  have e : cap.map (Qo n ρ) = cs.toArray:=by rw [← h]
  simp [Yl,execOp,Instr.makeFunc,e,go_sem]
theorem Yo {f : FuncId} {fn : Func} {c : Code} {xs : Array Operand} {aT : Array TypeId} {cs us args : List Value} {K Φ : Value → World → Prop} (hy : Qo n ρ y = .func (.func f) #[] cs.toArray) (hf : P.funcs[f]? = some fn) (hname : (fn.name == "runtime.NumGoroutine") = false) (hb : fn.body = some c)
    (ha : (xs.map (Qo n ρ)).toList = us) (hargs : us ++ cs = args) (hc : CallsTo P f args w Φ) (h : ∀ v w',Φ v w' → K v w') : Eff P ⟨d,.call ⟨.value y,xs,aT⟩,t,p,af,gu⟩ n ρ w K:=by
  have e : xs.map (Qo n ρ) = us.toArray:=by rw [← ha]
  have : (execOp (Qo n ρ) ⟨d,.call ⟨.value y,xs,aT⟩,t,p,af,gu⟩).run P w = .ok (.enter f args.toArray) w:=by
    subst hargs
    simp [execOp,resolve,Deferred.ofValue,invoke,e,hy,MuLone.run_callFunc_enter hf hname hb]
  simp only [Eff,this]
  exact CallsTo.mono hc h
def Qyz (H : List Value) (w : World) (b : Nat) : Prop:=w.heap.size ≤ b ∨ ¬ Avoids H b
end
end Go.Gw

end
section
namespace Go.Gw
open Go
def Qcd (k : IntKind) (a b : Int) : Option Int:=if 0 ≤ b ∧ b ≤ k.bits then some (k.wrap (a * 2 ^ b.toNat)) else none
def Yk (k : IntKind) (a b : Int) : Option Int:=if 0 ≤ b ∧ b ≤ k.bits then some (a.fdiv (2 ^ b.toNat)) else none
def QX (k : IntKind) (a b : Int) : Int:=k.wrap (BitVec.ofInt k.bits a &&& BitVec.ofInt k.bits b).toNat
def orS (k : IntKind) (a b : Int) : Int:=k.wrap (BitVec.ofInt k.bits a ||| BitVec.ofInt k.bits b).toNat
def Qzf (k : IntKind) (a b : Int) : Int:=k.wrap (BitVec.ofInt k.bits a ^^^ BitVec.ofInt k.bits b).toNat
section
variable {P : Program} {n : Nat} {ρ : Env} {w w' : World}
variable {d : Option Nat} {t T U : TypeId} {p : String} {af : Array Edge} {gu : Option (Nat × Bool)} {x y z : Operand}
theorem Qog {k yk : IntKind} {a b c : Int} (h : Qcd k a b = some c) (hx : Qo n ρ x = .int k a) (hy : Qo n ρ y = .int yk b) : Yl P n ρ ⟨d,.binOp .shl T x y U,t,p,af,gu⟩ w (.int k c):=by
  unfold Qcd at h
  split at h
  · rename_i hb
    cases h
    have h1 : ¬ b < 0:=by omega
    have h2 : min b.toNat k.bits = b.toNat:=by omega
    simp [Yl,execOp,hx,hy,eqGuard,binOp,Op.shift,h1,h2]
  · cases h
theorem ZD {k yk : IntKind} {a b c : Int} (h : Yk k a b = some c) (hx : Qo n ρ x = .int k a) (hy : Qo n ρ y = .int yk b) : Yl P n ρ ⟨d,.binOp .shr T x y U,t,p,af,gu⟩ w (.int k c):=by
  unfold Yk at h
  split at h
  · rename_i hb
    cases h
    have h1 : ¬ b < 0:=by omega
    have h2 : min b.toNat k.bits = b.toNat:=by omega
    simp [Yl,execOp,hx,hy,eqGuard,binOp,Op.shift,h1,h2]
  · cases h
theorem JS {k : IntKind} {a b : Int} (hx : Qo n ρ x = .int k a) (hy : Qo n ρ y = .int k b) : Yl P n ρ ⟨d,.binOp .and T x y U,t,p,af,gu⟩ w (.int k (QX k a b)):=by
  simp [Yl,execOp,hx,hy,eqGuard,binOp,Op.intBits,QX]
def XI (a b c : Int) : Option (Int × Int):=if 0 ≤ a ∧ 0 ≤ b ∧ 0 ≤ c ∧ c ≤ 1 then some ((a + b + c) % 18446744073709551616,(a + b + c) / 18446744073709551616) else none
theorem Qfw {f : FuncId} {fn : Func} {xs : Array Operand} {aT : Array TypeId} {a b c : Int} {r : Int × Int} {K : Value → World → Prop} (hf : P.funcs[f]? = some fn) (hname : (fn.name == "runtime.NumGoroutine") = false) (hb : fn.body.isNone = true) (hn : Extern.findNext fn = none) (he : Extern.find fn = some add64Entry)
    (ha : (xs.map (Qo n ρ)).toList = [.int .u64 a,.int .u64 b,.int .u64 c]) (h : XI a b c = some r) (hK : K (.tuple #[.int .u64 r.1,.int .u64 r.2]) w) : Eff P ⟨d,.call ⟨.value (.func f),xs,aT⟩,t,p,af,gu⟩ n ρ w K:=by
  have e : xs.map (Qo n ρ) = #[.int .u64 a,.int .u64 b,.int .u64 c]:=by rw [← Array.toList_inj,ha]
  unfold XI at h
  split at h
  · rename_i hc
    cases h
    have h1:=run_add64 (P:=P) a b c hc.1 hc.2.1 hc.2.2.1 hc.2.2.2 w
    have h2:=run_callFunc_extern hf hname hb hn he #[.int .u64 a,.int .u64 b,.int .u64 c] w
    rw [h1] at h2
    have : (execOp (Qo n ρ) ⟨d,.call ⟨.value (.func f),xs,aT⟩,t,p,af,gu⟩).run P w = .ok (.value (.tuple #[.int .u64 ((a + b + c) % 18446744073709551616),.int .u64 ((a + b + c) / 18446744073709551616)])) w:=by
      simp [execOp,resolve,Deferred.ofValue,invoke,e,Qo,h2,Result.andThen]
    simp only [Eff,this]
    exact hK
  · cases h
end
theorem Qcz {w : World} {a : Addr} {xs : List Int} {i el : Int} {k : IntKind} (h : At w a (xs.map (Value.int k))) (hi : idx xs i = some el) : At w (a.add (i.toNat * 1)) [.int k el] :=
  At.elem h (by rw [List.getElem?_map,(YF hi).2.2]; rfl)
end Go.Gw

end
section
namespace Go.Gw
open Go
def isnil : Value → Bool
  | .slice none _ _=>true
  | _=>false
section
variable {P : Program} {n : Nat} {ρ : Env} {w w' : World}
variable {d : Option Nat} {t T U : TypeId} {p : String} {af : Array Edge} {gu : Option (Nat × Bool)} {x y z : Operand}
theorem Qyl {α : Type} [Rep α] {e : TypeId} {L : List Value} {w2 : World} {v : Value} {xs : List α} (hu : P.underlying T = some (.slice e)) (hs : SlRd L w2 v xs) (hx : Qo n ρ x = v) (hy : Qo n ρ y = .slice none 0 0) :
    Yl P n ρ ⟨d,.binOp .eql T x y U,t,p,af,gu⟩ w (.bool (isnil v)):=by
  have : ∃ a m c,v = .slice a m c:=by
    rcases hs with ⟨a0,h,_⟩ | ⟨b,off,cap,cur,e,fz,h1,_⟩
    · exact ⟨_,_,_,h⟩
    · exact ⟨_,_,_,h1⟩
  obtain ⟨a,m,c,rfl⟩:=this
  have h1 : (Op.equal T (.slice a m c) (.slice none 0 0)).run P w = .ok a.isNone w:=by
    simp [Op.equal,Op.maxDepth,Lib.run_equalIn_slice_nil w 9999 T e a m c 0 0 hu]
  have h2 : a.isNone = isnil (.slice a m c):=by cases a <;> rfl
  rw [← h2]
  simp [Yl,execOp,hx,hy,eqGuard,binOp,h1,Result.andThen]
theorem SlRd.isnil {α : Type} [Rep α] {L : List Value} {v : Value} {xs : List α} (hs : SlRd L w v xs) (h : isnil v = true) : xs = []:=by
  rcases hs with ⟨a0,rfl,h2⟩ | ⟨b,off,cap,cur,e,fz,rfl,_⟩
  · exact h2
  · cases h
theorem Qty {α β : Type} {xs : List α} {f : List α → Option β} {e : Option β} {r : β} (h0 : xs = []) (h : f xs = some r) (he : f [] = e) : e = some r:=by subst h0; rw [← he]; exact h
end
end Go.Gw

end
section
namespace Go.Gw
open Go
def YD (a b : Nat) : Bool:=FloatKind.f32.format.order a b == some .lt
def XG (a b : Nat) : Bool:=FloatKind.f32.format.order a b == some .lt || FloatKind.f32.format.order a b == some .eq
def XZ (a b : Nat) : Bool:=FloatKind.f32.format.order a b == some .gt
def Xn (a b : Nat) : Bool:=FloatKind.f32.format.order a b == some .gt || FloatKind.f32.format.order a b == some .eq
def Xv (a b : Nat) : Bool:=FloatKind.f32.format.order a b == some .eq
def QN (a b : Nat) : Bool:=FloatKind.f32.format.order a b != some .eq
def YX (a b : Nat) : Option Nat:=FloatKind.f32.format.sub a b
def Qzd (a b : Nat) : Option Nat:=FloatKind.f32.format.add a b
def Yb (a : Nat) : Option Int:=match (FloatKind.f32.decode a).toInt .zero with
  | some n=>if -9223372036854775808 ≤ n ∧ n ≤ 9223372036854775807 then some n else none
  | none=>none
def Xw (n : Int) : Nat:=FloatKind.f32.nearest n
section
variable {P : Program} {n : Nat} {ρ : Env} {w : World}
variable {d : Option Nat} {t T U : TypeId} {p : String} {af : Array Edge} {gu : Option (Nat × Bool)} {x y z : Operand} {a b : Nat}
theorem Qod (hx : Qo n ρ x = .float .f32 a) (hy : Qo n ρ y = .float .f32 b) : Yl P n ρ ⟨d,.binOp .lss T x y U,t,p,af,gu⟩ w (.bool (YD a b)):=by simp [Yl,execOp,hx,hy,eqGuard,binOp,Op.floatCmp,YD]
theorem Qjd (hx : Qo n ρ x = .float .f32 a) (hy : Qo n ρ y = .float .f32 b) : Yl P n ρ ⟨d,.binOp .leq T x y U,t,p,af,gu⟩ w (.bool (XG a b)):=by simp [Yl,execOp,hx,hy,eqGuard,binOp,Op.floatCmp,XG]
theorem Qoc (hx : Qo n ρ x = .float .f32 a) (hy : Qo n ρ y = .float .f32 b) : Yl P n ρ ⟨d,.binOp .gtr T x y U,t,p,af,gu⟩ w (.bool (XZ a b)):=by simp [Yl,execOp,hx,hy,eqGuard,binOp,Op.floatCmp,XZ]
theorem Qjc (hx : Qo n ρ x = .float .f32 a) (hy : Qo n ρ y = .float .f32 b) : Yl P n ρ ⟨d,.binOp .geq T x y U,t,p,af,gu⟩ w (.bool (Xn a b)):=by simp [Yl,execOp,hx,hy,eqGuard,binOp,Op.floatCmp,Xn]
theorem Qck (hx : Qo n ρ x = .float .f32 a) (hy : Qo n ρ y = .float .f32 b) : Yl P n ρ ⟨d,.binOp .eql T x y U,t,p,af,gu⟩ w (.bool (Xv a b)):=by simp [Yl,execOp,hx,hy,eqGuard,binOp,Op.floatCmp,Xv]
theorem Jp (hx : Qo n ρ x = .float .f32 a) (hy : Qo n ρ y = .float .f32 b) : Yl P n ρ ⟨d,.binOp .neq T x y U,t,p,af,gu⟩ w (.bool (QN a b)):=by simp [Yl,execOp,hx,hy,eqGuard,binOp,Op.floatCmp,QN]
theorem Qoe {c : Nat} (h : YX a b = some c) (hx : Qo n ρ x = .float .f32 a) (hy : Qo n ρ y = .float .f32 b) : Yl P n ρ ⟨d,.binOp .sub T x y U,t,p,af,gu⟩ w (.float .f32 c):=by
  unfold YX at h; simp [Yl,execOp,hx,hy,eqGuard,binOp,Op.floatArith,h]
theorem Qje {c : Int} (h : Yb a = some c) (hu : P.underlying T = some (.float .f32)) (hv : P.underlying U = some (.int .i64)) (hx : Qo n ρ x = .float .f32 a) : Yl P n ρ ⟨d,.convert T U x,t,p,af,gu⟩ w (.int .i64 c):=by
  unfold Yb at h
  split at h
  · rename_i m hm
    split at h
    · rename_i hr
      cases h
      have h1 : IntKind.i64.min ≤ c ∧ c ≤ IntKind.i64.max:=hr
      have h2 : c ≤ 9223372036854775807:=hr.2
      simp [Yl,execOp,hx,convert,run_underlying hu,run_underlying hv,Conv.floatToInt,hm,h1,h2,Result.andThen]
    · cases h
  · cases h
theorem Qat {k : IntKind} {c : Int} (hu : P.underlying T = some (.int k)) (hv : P.underlying U = some (.float .f32)) (hx : Qo n ρ x = .int k c) : Yl P n ρ ⟨d,.convert T U x,t,p,af,gu⟩ w (.float .f32 (Xw c)):=by
  simp [Yl,execOp,hx,convert,run_underlying hu,run_underlying hv,Conv.intToFloat,Result.andThen,Xw]
theorem Qyo {m e : Nat} {k : IntKind} {i : Int} {el : Nat} {xs : List Nat} (hu : P.underlying T = some (.array m e)) (hs : YB P e) (hz : Xs P e 1) (hl : xs.length = m) (hx : Qo n ρ x = .agg (xs.map (Value.float .f32)).toArray) (hy : Qo n ρ y = .int k i)
    (h : idx xs i = some el) : Yl P n ρ ⟨d,.index T x y,t,p,af,gu⟩ w (.float .f32 el):=by
  obtain ⟨h0,h1,h2⟩:=YF h
  have hp : (part e (xs.map (Value.float .f32)).toArray (i.toNat * 1)).run P w = .ok (.float .f32 el) w:=Qnd hs (by rw [Nat.mul_one,List.getElem?_map,h2]; rfl)
  have h1' : i < (m : Int):=by omega
  simp [Yl,execOp,hx,hy,Instr.index,asIntOf,run_underlying hu,h0,h1',Zh hz] at hp ⊢
  simp [hp]
end
end Go.Gw

end
section
namespace Go.Gw
open Go
noncomputable def Jy {β : Type} (f : Nat → Option β) : Option β:=open Classical in if ∃ u,∀ r,f r = some u then f 0 else none
theorem Qfn {β : Type} {f : Nat → Option β} {v : β} (h : Jy f = some v) (r : Nat) : f r = some v:=by
  unfold Jy at h
  split at h
  · rename_i hu; obtain ⟨u,hu⟩:=hu
    rw [hu 0] at h; cases h; exact hu r
  · cases h
theorem Qfo {β : Type} {f : Nat → Option β} {v : β} (h : ∀ r,f r = some v) : Jy f = some v:=by
  unfold Jy
  rw [if_pos ⟨v,h⟩,h]
section
variable {P : Program} {n : Nat} {ρ : Env} {w : World}
variable {d : Option Nat} {t T U : TypeId} {p : String} {af : Array Edge} {gu : Option (Nat × Bool)} {x y z : Operand} {a b : Nat}
theorem Jq {s q : TypeId} {i j : Int} {b : Bool} (hb : decide (i < j) = b) (hx : Qo n ρ x = .int .i64 i) (hy : Qo n ρ y = .int .i64 j) : Yl P n ρ ⟨d,.binOp .lss s x y q,t,p,af,gu⟩ w (.bool b):=hb ▸ Xe hx hy
theorem Qas {s q : TypeId} {i j r : Int} (hb : w64 (i + j) = r) (hx : Qo n ρ x = .int .i64 i) (hy : Qo n ρ y = .int .i64 j) : Yl P n ρ ⟨d,.binOp .add s x y q,t,p,af,gu⟩ w (.int .i64 r):=hb ▸ QW hx hy
def unr (P : Program) (n : Nat) (c : Code) (q : Post) : Nat → Env → World → Prop
  | 0=>fun _ _=>False
  | k + 1=>fun ρ w=>WC P n c ⟨unr P n c q k,q.ex,q.ret⟩ ρ w
theorem Jm {c : Code} {q : Post} (k : Nat) (h : WC P n c ⟨unr P n c q k,q.ex,q.ret⟩ ρ w) : unr P n c q (k + 1) ρ w:=h
theorem Qjt {c : Code} {q : Post} (k : Nat) (h : unr P n c q k ρ w) : WC P n (.loop c) q ρ w:=by
  have hi : ∀ k,XU (fun i : Nat=>match i with | 0=>some (.inr ()) | i + 1=>some (.inl (β:=Unit) i)) (k + 1) k = some ():=by
    intro k
    induction k with
    | zero=>rfl
    | succ k ih=>exact ih
  refine Qjq (fun s ρ w=>unr P n c q s ρ w) (hi k) h fun s ρ w hI=>?_
  cases s with
  | zero=>exact hI.elim
  | succ s=>exact ⟨fun s' hs=>by cases hs; exact hI,fun hs=>nomatch hs⟩
def QY (a b c : Int) : Int:=if c < (if b < a then b else a) then c else if b < a then b else a
def Q8 (a b c : Int) : Int:=if (if a < b then b else a) < c then c else if a < b then b else a
theorem Qyr {a b c : Int} {aT : Array TypeId} (hx : Qo n ρ x = .int .i64 a) (hy : Qo n ρ y = .int .i64 b) (hz : Qo n ρ z = .int .i64 c) : Yl P n ρ ⟨d,.call ⟨.builtin .max,#[x,y,z],aT⟩,t,p,af,gu⟩ w (.int .i64 (Q8 a b c)):=by
  simp [Yl,execOp,resolve,invoke,builtin,Builtin.max_,Builtin.max2,hx,hy,hz,Q8]
theorem Qys {a b c : Int} {aT : Array TypeId} (hx : Qo n ρ x = .int .i64 a) (hy : Qo n ρ y = .int .i64 b) (hz : Qo n ρ z = .int .i64 c) : Yl P n ρ ⟨d,.call ⟨.builtin .min,#[x,y,z],aT⟩,t,p,af,gu⟩ w (.int .i64 (QY a b c)):=by
  simp [Yl,execOp,resolve,invoke,builtin,Builtin.min_,Builtin.min2,hx,hy,hz,QY]
/-! ### What is drawn -/
def Qze (a b : Nat) : Option Nat:=FloatKind.f32.format.div a b
theorem Qkk {K : Value → World → Prop} (h : YX a b = none) (hx : Qo n ρ x = .float .f32 a) (hy : Qo n ρ y = .float .f32 b) (hK : ∀ c w',Ext w w' → c % 2 ^ 31 > 0x7f800000 → K (.float .f32 c) w') : Eff P ⟨d,.binOp .sub T x y U,t,p,af,gu⟩ n ρ w K:=by
  unfold YX at h; simp [Eff,execOp,hx,hy,eqGuard,binOp,Op.floatArith,h]
  refine hK _ _ (Ext.drew w) ?_
  generalize w.tape w.drawn (Question.nanBits FloatKind.f32 a b) = x
  show ((x % 2) * 2147483648 + 2139095040 + 1 + (x / 2) % 8388607) % 2147483648 > 2139095040
  have h1:=Nat.mod_lt (x / 2) (show 0 < 8388607 by decide)
  generalize x % 2 = u at *
  generalize x / 2 % 8388607 = v at *
  omega
theorem Qkj {K : Value → World → Prop} (hx : Qo n ρ x = .float .f32 a) (hy : Qo n ρ y = .float .f32 b) (hK : ∀ c w',Ext w w' → K (.float .f32 c) w') : Eff P ⟨d,.binOp .quo T x y U,t,p,af,gu⟩ n ρ w K:=by
  cases h : FloatKind.f32.format.div a b with
  | none =>
    simp [Eff,execOp,hx,hy,eqGuard,binOp,Op.floatArith,h]
    exact hK _ _ (Ext.drew w)
  | some c =>
    simp [Eff,execOp,hx,hy,eqGuard,binOp,Op.floatArith,h]
    exact hK _ _ (Chg.refl _ _)
theorem Qqh {K : Value → World → Prop} (hx : Qo n ρ x = .float .f32 a) (hy : Qo n ρ y = .float .f32 b) (hK : ∀ c w',Ext w w' → K (.float .f32 c) w') : Eff P ⟨d,.binOp .add T x y U,t,p,af,gu⟩ n ρ w K:=by
  cases h : FloatKind.f32.format.add a b with
  | none =>
    simp [Eff,execOp,hx,hy,eqGuard,binOp,Op.floatArith,h]
    exact hK _ _ (Ext.drew w)
  | some c =>
    simp [Eff,execOp,hx,hy,eqGuard,binOp,Op.floatArith,h]
    exact hK _ _ (Chg.refl _ _)
theorem Qqi {K : Value → World → Prop} (h : Yb a = none) (hu : P.underlying T = some (.float .f32)) (hv : P.underlying U = some (.int .i64)) (hx : Qo n ρ x = .float .f32 a) (hK : ∀ c w',Ext w w' → K (.int .i64 c) w') : Eff P ⟨d,.convert T U x,t,p,af,gu⟩ n ρ w K:=by
  unfold Yb at h
  have key : ∀ o,o = (FloatKind.f32.decode a).toInt .zero → (match o with | some m=>(if -9223372036854775808 ≤ m ∧ m ≤ 9223372036854775807 then some m else none) | none=>none) = (none : Option Int) → Eff P ⟨d,.convert T U x,t,p,af,gu⟩ n ρ w K:=by
    intro o ho hn
    cases o with
    | none =>
      simp [Eff,execOp,hx,convert,run_underlying hu,run_underlying hv,Conv.floatToInt,← ho,Result.andThen]
      exact hK _ _ (Ext.drew w)
    | some m =>
      have hm : ¬ (IntKind.i64.min ≤ m ∧ m ≤ 9223372036854775807):=by
        intro hr
        have h2 : -9223372036854775808 ≤ m ∧ m ≤ 9223372036854775807:=hr
        simp [h2] at hn
      simp [Eff,execOp,hx,convert,run_underlying hu,run_underlying hv,Conv.floatToInt,← ho,hm,Result.andThen]
      exact hK _ _ (Ext.drew w)
  exact key _ rfl h
theorem Qos {ops : Array Oper} {o : Oper} {os : List Oper} {K : Env → World → Prop} (hw : Xl ops o n ρ = true) (h : Eff P o n ρ w (fun v w'=>T0 P n ops K os (Xa ρ o.dst v) w')) : T0 P n ops K (o :: os) ρ w:=by
  simp only [T0,Stp,hw,if_true]; exact h
theorem Qmy {c : Nat} (h : c % 2 ^ 31 > 0x7f800000) : Ieee.single.read c = .nan (c / 2 ^ 31 % 2 == 1) (c % 2 ^ 31 - 0x7f800000):=by
  have h1 : Ieee.single.signWeight = 2 ^ 31:=by decide
  have h2 : Ieee.single.binade = 8388608:=by decide
  have h3 : Ieee.single.infRung = 0x7f800000:=by decide
  simp only [Ieee.Format.read,h1,h2,h3]
  rw [if_neg (by omega),if_neg (by omega),if_neg (by omega)]
theorem Qtr {c : Nat} (h : c % 2 ^ 31 > 0x7f800000) (x : Nat) : Xv c x = false:=by
  simp [Xv,FloatKind.format,Ieee.Format.order,Qmy h,Ieee.Datum.order]
theorem Qts {c : Nat} (h : c % 2 ^ 31 > 0x7f800000) (x : Nat) : QN c x = true:=by
  simp [QN,FloatKind.format,Ieee.Format.order,Qmy h,Ieee.Datum.order]
end
end Go.Gw

end
section
namespace Go.Gw
open Go Ieee

def XM (r : Nat) (V : Int) : Prop:=∃ s m,∃ k : Nat,single.read r = .number s m (-149 + (k : Int)) ∧ V = signed s m k ∧ m < 16777216 ∧ k ≤ 253 ∧ (k = 0 ∨ 8388608 ≤ m)
theorem Y0 (s : Bool) (m k : Nat) : signed s m k = (if s then -1 else 1) * ((m : Int) * 2 ^ k):=by
  unfold signed
  rw [Nat.shiftLeft_eq]
  cases s <;> simp
theorem Qce (s : Bool) (m a b : Nat) : signed s m (a + b) = signed s m a * 2 ^ b:=by
  rw [Y0,Y0,Int.pow_add]
  simp [Int.mul_assoc]
theorem Qgn : single.leastPlace = -149:=by decide
theorem Qvw (r : Nat) : (∃ s m,∃ k : Nat,single.read r = .number s m (-149 + (k : Int)) ∧ m < 16777216 ∧ k ≤ 253 ∧ (k = 0 ∨ 8388608 ≤ m)) ∨ (∃ s,single.read r = .infinity s) ∨ (∃ s f,single.read r = .nan s f):=by
  have h1 : single.signWeight = 2147483648:=by decide
  have h2 : single.binade = 8388608:=by decide
  have h3 : single.infRung = 2139095040:=by decide
  simp only [Ieee.Format.read,h1,h2,h3,Qgn]
  by_cases c1 : r % 2147483648 < 8388608
  · rw [if_pos c1]
    exact .inl ⟨_,_,0,rfl,by omega,by omega,.inl rfl⟩
  rw [if_neg c1]
  by_cases c2 : r % 2147483648 < 2139095040
  · rw [if_pos c2]
    refine .inl ⟨_,_,_,rfl,by omega,by omega,.inr (by omega)⟩
  rw [if_neg c2]
  by_cases c3 : r % 2147483648 = 2139095040
  · rw [if_pos c3]; exact .inr (.inl ⟨_,rfl⟩)
  · rw [if_neg c3]; exact .inr (.inr ⟨_,_,rfl⟩)
theorem Qrc (r : Nat) : (∃ V,XM r V) ∨ (∃ s,single.read r = .infinity s) ∨ (∃ s f,single.read r = .nan s f):=by
  rcases Qvw r with ⟨s,m,k,h,h1,h2,h3⟩ | h | h
  · exact .inl ⟨_,s,m,k,h,rfl,h1,h2,h3⟩
  · exact .inr (.inl h)
  · exact .inr (.inr h)
theorem JB {x y : Int} (h : x < y) : compare x y = .lt:=by simp [compare,compareOfLessAndEq,h]
theorem JA {x y : Int} (h : y < x) : compare x y = .gt:=by simp [compare,compareOfLessAndEq,show ¬ x < y by omega,show ¬ x = y by omega]
theorem J1 (x : Int) : compare x x = .eq:=by simp [compare,compareOfLessAndEq]
theorem Qkc (x y c : Int) (hc : 0 < c) : compare (x * c) (y * c) = compare x y:=by
  rcases Int.lt_trichotomy x y with h | h | h
  · rw [JB h,JB (Int.mul_lt_mul_of_pos_right h hc)]
  · subst h; simp [J1]
  · rw [JA h,JA (Int.mul_lt_mul_of_pos_right h hc)]
theorem Qca {a b : Nat} {x y : Int} (ha : XM a x) (hb : XM b y) : single.order a b = some (compare x y):=by
  obtain ⟨s,m,k,h,rfl,-⟩:=ha
  obtain ⟨t,n,l,h',rfl,-⟩:=hb
  unfold Ieee.Format.order
  rw [h,h']
  simp only [Datum.order]
  congr 1
  rcases Nat.le_total k l with hk | hk
  · have e1 : (-149 + (k : Int) - min (-149 + (k : Int)) (-149 + (l : Int))).toNat = 0:=by omega
    have e2 : (-149 + (l : Int) - min (-149 + (k : Int)) (-149 + (l : Int))).toNat = l - k:=by omega
    rw [e1,e2,← Qkc _ _ (2 ^ k) (Int.pow_pos (by decide)),← Qce,← Qce,Nat.zero_add,Nat.sub_add_cancel hk]
  · have e1 : (-149 + (k : Int) - min (-149 + (k : Int)) (-149 + (l : Int))).toNat = k - l:=by omega
    have e2 : (-149 + (l : Int) - min (-149 + (k : Int)) (-149 + (l : Int))).toNat = 0:=by omega
    rw [e1,e2,← Qkc _ _ (2 ^ l) (Int.pow_pos (by decide)),← Qce,← Qce,Nat.zero_add,Nat.sub_add_cancel hk]
theorem Qbz {a b : Nat} : FloatKind.f32.format.order a b = single.order a b:=rfl
section
variable {a b : Nat} {x y : Int} (ha : XM a x) (hb : XM b y)
include ha hb
theorem Qfy : Xv a b = decide (x = y):=by
  unfold Xv; rw [Qbz,Qca ha hb]
  rcases Int.lt_trichotomy x y with h | h | h
  · rw [JB h,decide_eq_false (by omega)]; rfl
  · subst h; simp [J1]
  · rw [JA h,decide_eq_false (by omega)]; rfl
theorem Qbf : QN a b = !decide (x = y):=by
  rw [← Qfy ha hb]; unfold QN Xv; rfl
theorem Qkp : YD a b = decide (x < y):=by
  unfold YD; rw [Qbz,Qca ha hb]
  rcases Int.lt_trichotomy x y with h | h | h
  · rw [JB h,decide_eq_true h]; rfl
  · subst h; simp [J1]
  · rw [JA h,decide_eq_false (by omega)]; rfl
theorem Qko : XZ a b = decide (y < x):=by
  unfold XZ; rw [Qbz,Qca ha hb]
  rcases Int.lt_trichotomy x y with h | h | h
  · rw [JB h,decide_eq_false (by omega)]; rfl
  · subst h; simp [J1]
  · rw [JA h,decide_eq_true h]; rfl
theorem Qbe : XG a b = decide (x ≤ y):=by
  unfold XG; rw [Qbz,Qca ha hb]
  rcases Int.lt_trichotomy x y with h | h | h
  · rw [JB h,decide_eq_true (by omega)]; rfl
  · subst h; simp [J1]
  · rw [JA h,decide_eq_false (by omega)]; rfl
theorem Qbd : Xn a b = decide (y ≤ x):=by
  unfold Xn; rw [Qbz,Qca ha hb]
  rcases Int.lt_trichotomy x y with h | h | h
  · rw [JB h,decide_eq_false (by omega)]; rfl
  · subst h; simp [J1]
  · rw [JA h,decide_eq_true (by omega)]; rfl
end
theorem Qcw : XM 0 0:=⟨false,0,0,by decide,by decide,by decide,by decide,.inl rfl⟩
theorem Qgb : XM 1266679808 (2 ^ 173):=⟨false,8388608,150,by decide,by decide +kernel,by decide,by decide,.inr (by decide)⟩
theorem Qge : XM 3414163456 (-2 ^ 173):=⟨true,8388608,150,by decide,by decide +kernel,by decide,by decide,.inr (by decide)⟩
theorem Qgc : XM 1317011456 (2 ^ 179):=⟨false,8388608,156,by decide,by decide +kernel,by decide,by decide,.inr (by decide)⟩
theorem Qgf : XM 3464495104 (-2 ^ 179):=⟨true,8388608,156,by decide,by decide +kernel,by decide,by decide,.inr (by decide)⟩
theorem Qgd : XM 1161527296 (3000 * 2 ^ 149):=⟨false,12288000,137,by decide,by decide +kernel,by decide,by decide,.inr (by decide)⟩

theorem Qnk {r : Nat} {V : Int} (h : XM r V) : YX r r = some 0:=by
  obtain ⟨s,m,k,h,-⟩:=h
  unfold YX
  show Ieee.Format.sub single r r = _
  unfold Ieee.Format.sub
  rw [h]
  have hz : ∀ u,signed s m u + signed (!s) m u = 0:=by
    intro u; rw [Y0,Y0]; cases s <;> simp <;> omega
  simp only [Datum.opposite,Datum.sum,hz,if_true,Option.map_some,Int.natAbs_zero]
  cases s <;> rfl

theorem Qxj {r : Nat} {V : Int} (h : XM r V) : (FloatKind.f32.decode r).toInt .zero = some (if V < 0 then -((V.natAbs / 2 ^ 149 : Nat) : Int) else ((V.natAbs / 2 ^ 149 : Nat) : Int)):=by
  obtain ⟨s,m,k,h,hV,-⟩:=h
  show (single.read r).toInt .zero = _
  rw [h]
  simp only [Datum.toInt,Datum.integral]
  have hab : V.natAbs = m * 2 ^ k:=by rw [hV,Y0]; cases s <;> simp [Int.natAbs_mul,Int.natAbs_pow]
  have key : Toward.zero.cut s (m <<< (-149 + (k : Int)).toNat) (-(-149 + (k : Int))).toNat = V.natAbs / 2 ^ 149:=by
    unfold Toward.cut
    simp only [Bool.toNat_false,Nat.add_zero,Nat.shiftLeft_eq,Nat.one_mul]
    rw [hab]
    rcases Nat.lt_or_ge k 149 with hk | hk
    · have e1 : (-149 + (k : Int)).toNat = 0:=by omega
      have e2 : (-(-149 + (k : Int))).toNat = 149 - k:=by omega
      rw [e1,e2,Nat.pow_zero,Nat.mul_one]
      have e3 : m * 2 ^ k / 2 ^ 149 = m / 2 ^ (149 - k):=by
        rw [show (149 : Nat) = (149 - k) + k by omega,Nat.pow_add,Nat.mul_div_mul_right _ _ (Nat.pow_pos (by decide))]
        congr 2; omega
      rw [e3]
      rcases Nat.le_total (149 - k) (m.log2 + 2) with hl | hl
      · rw [Nat.min_eq_left hl]
      · rw [Nat.min_eq_right hl]
        have hm : m < 2 ^ (m.log2 + 1):=Nat.lt_log2_self
        rw [Nat.div_eq_of_lt (Nat.lt_of_lt_of_le hm (Nat.pow_le_pow_right (by decide) (by omega))),Nat.div_eq_of_lt (Nat.lt_of_lt_of_le hm (Nat.pow_le_pow_right (by decide) (by omega)))]
    · have e1 : (-149 + (k : Int)).toNat = k - 149:=by omega
      have e2 : (-(-149 + (k : Int))).toNat = 0:=by omega
      rw [e1,e2,Nat.zero_min,Nat.pow_zero,Nat.div_one]
      rw [show 2 ^ k = 2 ^ (k - 149) * 2 ^ 149 by rw [← Nat.pow_add]; congr 1; omega,← Nat.mul_assoc,Nat.mul_div_cancel _ (Nat.pow_pos (by decide))]
  rw [key]
  congr 1
  rw [Y0]
  simp only [Int.pow_zero,Int.mul_one]
  by_cases hn : V < 0
  · rw [if_pos hn]
    have : s = true:=by
      cases s with
      | true=>rfl
      | false =>
        exfalso; rw [hV,Y0] at hn
        have : (0 : Int) ≤ (m : Int) * 2 ^ k:=Int.mul_nonneg (by omega) (Int.pow_nonneg (by decide))
        simp at hn; omega
    rw [this]; simp
  · rw [if_neg hn]
    cases s with
    | false=>simp
    | true =>
      have h0 : V.natAbs = 0:=by
        rw [hV,Y0] at hn ⊢
        have : (0 : Int) ≤ (m : Int) * 2 ^ k:=Int.mul_nonneg (by omega) (Int.pow_nonneg (by decide))
        simp only [if_true] at hn ⊢
        omega
      rw [h0]; simp
end Go.Gw

end
section
namespace Go.Gw
open Go Ieee
theorem Qtv (s : Bool) (N : Nat) (h0 : N ≠ 0) (hL : N.log2 ≤ 127) (hd : 2 ^ (N.log2 - 23) ∣ N) : XM (single.nearest s N 0) (signed s N 149):=by
  have h1 : single.signWeight = 2147483648:=by decide
  have h2 : single.binade = 8388608:=by decide
  have h3 : single.infRung = 2139095040:=by decide
  have h4 : single.fractionBits = 23:=rfl
  have hlo : 2 ^ N.log2 ≤ N:=Nat.log2_self_le h0
  have hhi : N < 2 ^ (N.log2 + 1):=Nat.lt_log2_self
  generalize hLe : N.log2 = L at *
  -- the digits that are kept
  obtain ⟨K,hK,hK1,hK2,hV⟩ : ∃ K : Nat,Toward.even.cut s (N <<< ((0 : Int) - ((L : Int) - 23)).toNat) ((L : Int) - 23 - 0).toNat = K ∧ 8388608 ≤ K ∧ K < 16777216 ∧ K * 2 ^ (L + 126) = N * 2 ^ 149:=by
    rcases Nat.le_total L 23 with hc | hc
    · refine ⟨N * 2 ^ (23 - L),?_,?_,?_,?_⟩
      · rw [show ((0 : Int) - ((L : Int) - 23)).toNat = 23 - L by omega,show ((L : Int) - 23 - 0).toNat = 0 by omega]
        unfold Toward.cut
        simp [Nat.shiftLeft_eq,Nat.mod_one]
      · calc 8388608 = 2 ^ L * 2 ^ (23 - L) := by rw [← Nat.pow_add, show L + (23 - L) = 23 by omega]
          _ ≤ N * 2 ^ (23 - L):=Nat.mul_le_mul_right _ hlo
      · calc N * 2 ^ (23 - L) < 2 ^ (L + 1) * 2 ^ (23 - L) := Nat.mul_lt_mul_of_pos_right hhi (Nat.pow_pos (by decide))
          _ = 16777216:=by rw [← Nat.pow_add,show L + 1 + (23 - L) = 24 by omega]
      · rw [Nat.mul_assoc,← Nat.pow_add,show 23 - L + (L + 126) = 149 by omega]
    · obtain ⟨q,hq⟩:=hd
      have hp : 0 < 2 ^ (L - 23):=Nat.pow_pos (by decide)
      refine ⟨q,?_,?_,?_,?_⟩
      · rw [show ((0 : Int) - ((L : Int) - 23)).toNat = 0 by omega,show ((L : Int) - 23 - 0).toNat = L - 23 by omega]
        unfold Toward.cut
        simp only [Nat.shiftLeft_eq,Nat.pow_zero,Nat.mul_one,Nat.one_mul,hLe]
        rw [Nat.min_eq_left (by omega),hq,Nat.mul_div_cancel_left _ hp,Nat.mul_mod_right]
        have : ¬ 2 ^ (L - 23) = 0:=by omega
        simp [this]
      · have : 2 ^ (L - 23) * 8388608 ≤ 2 ^ (L - 23) * q := by
          rw [← hq,show (8388608 : Nat) = 2 ^ 23 from rfl,← Nat.pow_add,show L - 23 + 23 = L by omega]; exact hlo
        exact Nat.le_of_mul_le_mul_left this hp
      · have : 2 ^ (L - 23) * q < 2 ^ (L - 23) * 16777216 := by
          rw [← hq,show (16777216 : Nat) = 2 ^ 24 from rfl,← Nat.pow_add,show L - 23 + 24 = L + 1 by omega]; exact hhi
        exact Nat.lt_of_mul_lt_mul_left this
      · rw [hq,Nat.mul_comm (2 ^ (L - 23)) q,Nat.mul_assoc,← Nat.pow_add,show L - 23 + 149 = L + 126 by omega]
  have hr : (L + 126) * 8388608 + K < 2139095040:=by omega
  have hn : single.nearest s N 0 = (if s then 2147483648 + ((L + 126) * 8388608 + K) else (L + 126) * 8388608 + K):=by
    unfold Ieee.Format.nearest
    rw [if_neg h0]
    simp only [h2,h3,h4,Qgn,hLe]
    rw [show max ((0 : Int) + (L : Int) - ((23 : Nat) : Int)) (-149) = (L : Int) - 23 by omega,hK,show ((L : Int) - 23 - -149).toNat = L + 126 by omega,Nat.min_eq_left (by omega)]
    unfold Ieee.Format.word; rw [h1]
  refine ⟨s,K,L + 126,?_,?_,hK2,by omega,.inr hK1⟩
  · rw [hn]
    simp only [Ieee.Format.read,h1,h2,h3,Qgn]
    have e1 : (if s = true then 2147483648 + ((L + 126) * 8388608 + K) else (L + 126) * 8388608 + K) % 2147483648 = (L + 126) * 8388608 + K:=by cases s <;> simp <;> omega
    have e2 : ((if s = true then 2147483648 + ((L + 126) * 8388608 + K) else (L + 126) * 8388608 + K) / 2147483648 % 2 == 1) = s:=by
      cases s
      · simp only [Bool.false_eq_true,if_false]; rw [Nat.div_eq_of_lt (by omega)]; rfl
      · simp only [if_true]; rw [show (2147483648 + ((L + 126) * 8388608 + K)) / 2147483648 = 1 by omega]; rfl
    have e3 : 8388608 + ((L + 126) * 8388608 + K) % 8388608 = K:=by omega
    have e4 : ((L + 126) * 8388608 + K) / 8388608 - 1 = L + 126:=by omega
    rw [e1,e2,if_neg (by omega),if_pos hr,e3,e4]
  · rw [Y0,Y0]
    have : ((K : Int) * 2 ^ (L + 126)) = (N : Int) * 2 ^ 149:=by exact_mod_cast hV
    rw [this]
theorem Qkq {n : Int} (hL : n.natAbs.log2 ≤ 127) (hd : 2 ^ (n.natAbs.log2 - 23) ∣ n.natAbs) : XM (Xw n) (n * 2 ^ 149):=by
  show XM (single.nearest (n < 0) n.natAbs 0) _
  by_cases h0 : n = 0
  · subst h0; exact Qcw
  · have h:=Qtv (n < 0) n.natAbs (by omega) hL hd
    rw [Y0] at h
    have e : (if decide (n < 0) = true then (-1 : Int) else 1) * ((n.natAbs : Int) * 2 ^ 149) = n * 2 ^ 149:=by
      rw [← Int.mul_assoc]; congr 1
      by_cases hn : n < 0
      · rw [if_pos (decide_eq_true hn)]; omega
      · rw [if_neg (by rw [decide_eq_true_eq]; exact hn)]; omega
    rw [e] at h; exact h
theorem Qkr {n : Int} (h : n.natAbs < 16777216) : XM (Xw n) (n * 2 ^ 149):=by
  have hl : n.natAbs.log2 ≤ 23:=by
    by_cases h0 : n.natAbs = 0
    · rw [h0]; decide
    · have:=Nat.log2_lt h0 (k:=24) |>.2 h; omega
  exact Qkq (by omega) (by rw [show n.natAbs.log2 - 23 = 0 by omega]; exact Nat.one_dvd _)
theorem Qra {r : Nat} {V : Int} (h : XM r V) (h1 : 2 ^ 173 ≤ V.natAbs) : ∃ n : Int,V = n * 2 ^ 149 ∧ XM (Xw n) V:=by
  obtain ⟨s,m,k,-,hV,hm,hk,hn⟩:=h
  have hab : V.natAbs = m * 2 ^ k:=by rw [hV,Y0]; cases s <;> simp [Int.natAbs_mul,Int.natAbs_pow]
  have hk2 : 150 ≤ k:=by
    rcases Nat.lt_or_ge k 150 with hc | hc
    · exfalso
      have : m * 2 ^ k < 2 ^ 24 * 2 ^ 149:=Nat.lt_of_lt_of_le (Nat.mul_lt_mul_of_pos_right hm (Nat.pow_pos (by decide))) (Nat.mul_le_mul_left _ (Nat.pow_le_pow_right (by decide) (by omega)))
      rw [← Nat.pow_add] at this; omega
    · exact hc
  have hm2 : 8388608 ≤ m:=by rcases hn with h | h <;> omega
  have hVn : V = signed s m (k - 149) * 2 ^ 149:=by rw [hV,← Qce]; congr 1; omega
  refine ⟨signed s m (k - 149),hVn,?_⟩
  have hna : (signed s m (k - 149)).natAbs = m * 2 ^ (k - 149):=by rw [Y0]; cases s <;> simp [Int.natAbs_mul,Int.natAbs_pow]
  have hlog : (m * 2 ^ (k - 149)).log2 = 23 + (k - 149):=by
    have hp : 0 < 2 ^ (k - 149):=Nat.pow_pos (by decide)
    have h0 : m * 2 ^ (k - 149) ≠ 0:=Nat.mul_ne_zero (by omega) (by omega)
    refine (Nat.log2_eq_iff h0).2 ⟨?_,?_⟩
    · rw [Nat.pow_add]; exact Nat.mul_le_mul_right _ hm2
    · rw [show 23 + (k - 149) + 1 = 24 + (k - 149) by omega,Nat.pow_add]; exact Nat.mul_lt_mul_of_pos_right hm hp
  rw [hVn]
  refine Qkq ?_ ?_
  · rw [hna,hlog]; omega
  · rw [hna,hlog,show 23 + (k - 149) - 23 = k - 149 by omega]; exact Nat.dvd_mul_left _ _
end Go.Gw

end
section
namespace Go.Gw
open Go
section
variable {P : Program} {n : Nat} {q : Post} {ρ : Env} {w : World}

def TX (P : Program) (n : Nat) (ops : List Oper) (K : Env → World → Prop) : Pl → Env → World → Prop
  | .done,ρ,w=>K ρ w
  | .p i r,ρ,w=>∃ o v,ops[i]? = some o ∧ Quiet P n ops.toArray (fun _=>True) o ρ v ∧ TX P n ops K r (Xa ρ o.dst v) w
  | .q i r,ρ,w=>∃ o v,ops[i]? = some o ∧ Quiet P n ops.toArray (Ext w) o ρ v ∧ TX P n ops K r (Xa ρ o.dst v) w
  | .e i r,ρ,w=>∃ o,ops[i]? = some o ∧ Stp P n ops.toArray o ρ w (fun ρ' w'=>Ext w w' ∧ TX P n ops K r ρ' w')
  | .b i r,ρ,w=>∃ o,ops[i]? = some o ∧ Stp P n ops.toArray o ρ w (fun ρ' w'=>TX P n ops K r ρ' w')
  | .f i r j s, ρ, w => (∃ o, ops[i]? = some o ∧ Stp P n ops.toArray o ρ w (fun ρ' w' => Ext w w' ∧ TX P n ops K r ρ' w')) ∧
      (∃ o,ops[j]? = some o ∧ Stp P n ops.toArray o ρ w (fun ρ' w'=>Ext w w' ∧ TX P n ops K s ρ' w'))

def anyX (P : Program) (ops : Array Oper) (Q : Exit → Act → World → Prop) (bs : List Nat) (Kt : Array Bool → Act → World → Prop) : Nat → (World → Prop) → Array Bool → Act → World → Prop
  | 0,_,listed,a,w=>Kt listed a w
  | fuel + 1,S,listed,a,w=>Region.ready .any ops listed ≠ [] ∧ ∀ i ∈ Region.ready .any ops listed,wpOp P ops Q i (fun a' w'=>∃ S' : World → Prop,(bs.contains i = false → S w → S' w' ∧ ∀ x,S' x → S x) ∧ anyX P ops Q bs Kt fuel S' (listed.setIfInBounds i true) a' w') a w

theorem anyX.toAny {ops : Array Oper} {Q : Exit → Act → World → Prop} {bs : List Nat} {Kt : Array Bool → Act → World → Prop} (ht : ∀ listed a w, Kt listed a w → wpAny P .any ops Q 0 listed a w) :
    ∀ (fuel : Nat) (S : World → Prop) (listed : Array Bool) (a : Act) (w : World),anyX P ops Q bs Kt fuel S listed a w → wpAny P .any ops Q fuel listed a w
  | 0,_,listed,a,w,h=>ht _ _ _ h
  | fuel + 1,S,listed,a,w,h=>⟨fun h0=>absurd h0 h.1,fun i hi=>wpOp_mono (fun a' w' ⟨S',_,h'⟩=>anyX.toAny ht fuel S' _ a' w' h') (h.2 i hi)⟩

theorem Qjw {ops : Array Oper} {Q : Exit → Act → World → Prop} {bs : List Nat} {Si : World → Prop} {Kt : Array Bool → Act → World → Prop} {i : Nat} {oi : Oper} {v : Value} (hi : ops[i]? = some oi)
    (hb : (∀ b ∈ bs,JK ops ops.size b i = true) ∨ ∀ w,Si w)
    (hsel : ∀ (j : Nat) (o : Oper) cs b,ops[j]? = some o → o.op ≠ .select cs b) (hQ : ∀ c a w,¬ Q (.panic c) a w) :
    ∀ (fuel : Nat) (S : World → Prop) (listed : Array Bool) (a : Act) (w : World),listed.size = ops.size → Closed ops listed → fuel + 1 = Z5 listed ops.size →
      (∀ j oj,ops[j]? = some oj → j ≠ i → listed.getD j true = false → (∀ e ∈ oj.after,Region.binds .any e = true → e.on ≠ i) → oi.apart ops oj = true) →
      i ∈ Region.ready .any ops listed → YieldsIf P ops Si oi v a → Si w → ((S w ∧ ∀ x,S x → Si x) ∨ ∀ w,Si w) →
      anyX P ops Q bs Kt fuel S (listed.setIfInBounds i true) (a.put oi.dst v) w → anyX P ops Q bs Kt (fuel + 1) S listed a w:=by
  have hQ' : ∀ c (a : Act) w,Q (.panic c) (a.put oi.dst v) w → Q (.panic c) a w:=fun c a w h=>absurd h (hQ _ _ _)
  have hlt : ∀ {j : Nat} {listed : Array Bool},j ∈ Region.ready .any ops listed → j < ops.size:=fun hj=>by
    obtain ⟨_,oj,hoj,_⟩:=mem_ready.1 hj
    exact (Array.getElem?_eq_some_iff.1 hoj).1
  have him:=(Array.getElem?_eq_some_iff.1 hi).1
  intro fuel
  induction fuel with
  | zero =>
    intro S listed a w hls hcl hcnt _ hr hy hSw hD H
    have hiu:=(mem_ready.1 hr).1
    refine ⟨fun h=>(by rw [h] at hr; cases hr),fun j hj=>?_⟩
    by_cases hji : j = i
    · subst hji; exact hy.wpOp hi hSw ⟨S,fun _ h=>⟨h,fun _ h=>h⟩,H⟩
    · exfalso
      have:=Qxu (listed:=listed) (hlt hj) him hji (by simpa using (mem_ready.1 hj).1) (by simpa using hiu)
      omega
  | succ fuel ih =>
    intro S listed a w hls hcl hcnt hfree hr hy hSw hD H
    have hiu:=(mem_ready.1 hr).1
    refine ⟨fun h=>(by rw [h] at hr; cases hr),fun j hj=>?_⟩
    by_cases hji : j = i
    · subst hji; exact hy.wpOp hi hSw ⟨S,fun _ h=>⟨h,fun _ h=>h⟩,H⟩
    · have h1:=H.2 j (ready_mono hj hji)
      obtain ⟨hjun,oj,hoj,hall⟩:=mem_ready.1 hj
      have hnot : ∀ e ∈ oj.after,Region.binds .any e = true → e.on ≠ i:=fun e he hb heq=>by
        have h1:=hall e he hb
        have h0:=(mem_ready.1 hr).1
        rw [heq] at h1
        rcases Nat.lt_or_ge i listed.size with h' | h'
        · simp [h'] at h0 h1; rw [h0] at h1; cases h1
        · simp [Array.getElem?_eq_none h'] at h1
      have h2:=wpOp_putIf hoj (hfree j oj hoj hji hjun hnot) (fun cs b=>hsel i oi cs b hi) (fun cs b=>hsel j oj cs b hoj) hQ' hy h1
      have hfree' : ∀ k ok, ops[k]? = some ok → k ≠ i → (listed.setIfInBounds j true).getD k true = false →
          (∀ e ∈ ok.after,Region.binds .any e = true → e.on ≠ i) → oi.apart ops ok = true:=fun k ok hk hki hun hno=>hfree k ok hk hki (Qxv hun).1 hno
      have hbj : bs.contains j = false ∨ ∀ w,Si w:=by
        rcases hb with hb | hb
        · left
          cases hc : bs.contains j with
          | false=>rfl
          | true =>
            exfalso
            have hm:=Qmb hcl _ _ _ _ hoj hall (hb j (by simpa using hc))
            have him' : i < listed.size:=by rw [hls]; exact him
            simp [Array.getD,him'] at hiu hm
            rw [hiu] at hm; cases hm
        · exact .inr hb
      refine wpOp_mono (fun a' w' h3=>?_) h2
      obtain ⟨hy',S',hk',h4⟩:=h3
      refine ⟨S',hk',?_⟩
      have hD' : (S' w' ∧ ∀ x,S' x → Si x) ∨ ∀ w,Si w:=by
        rcases hD with hD | hD
        · rcases hbj with hbj | hbj
          · exact .inl ⟨(hk' hbj hD.1).1,fun x hx=>hD.2 x ((hk' hbj hD.1).2 x hx)⟩
          · exact .inr hbj
        · exact .inr hD
      have hSw' : Si w':=by
        rcases hD' with h | h
        · exact h.2 _ h.1
        · exact h _
      refine ih S' (listed.setIfInBounds j true) a' w' (by simpa using hls) (hcl.set hj) (by have:=JQ (listed:=listed) (hlt hj) (by simpa using hjun); omega) hfree' (ready_mono hr (Ne.symm hji)) hy' hSw' hD' ?_
      rw [Array.setIfInBounds_comm _ _ hji]
      exact h4

theorem TX.toX {ops : List Oper} {bs : List Nat} {K : Env → World → Prop} (hsel : Region.noSelect ops.toArray = true) (hK : ∀ ρ w, K ρ w → q.norm ρ w) :
    ∀ (p : Pl) (listed : Array Bool) (ρ : Env) (w : World),listed.size = ops.toArray.size → Closed ops.toArray listed → Z5 listed ops.toArray.size = p.len → YT ops.toArray bs p listed = true →
    TX P n ops K p ρ w → anyX P ops.toArray (q.Q n) bs (fun listed a w=>wpAny P .any ops.toArray (q.Q n) 0 listed a w) p.len (Ext w) listed (QT n ρ) w
  | .done,listed,ρ,w,_,_,_,hok,h=>⟨by simpa [YT] using hok,ρ,rfl,hK _ _ h⟩
  | .p i r,listed,ρ,w,hls,hcl,hc,hok,h=>by
    simp only [YT,Bool.and_eq_true] at hok
    obtain ⟨⟨hf,hr⟩,hrest⟩:=hok
    obtain ⟨o,v,hi',hq,ht⟩:=h
    have hi : ops.toArray[i]? = some o:=by simpa using hi'
    have him:=(Array.getElem?_eq_some_iff.1 hi).1
    have hr : i ∈ Region.ready .any ops.toArray listed:=by simpa using hr
    have hc':=JQ (listed:=listed) him (by simpa using (mem_ready.1 hr).1)
    simp only [Pl.len] at hc
    refine Qjw (Si:=fun _=>True) hi (.inr fun _=>trivial) (Region.noSelect_spec hsel) (fun _ _ _ h=>h) r.len (Ext w) listed _ w hls hcl hc.symm (Region.free_spec hi hf) hr hq.yields trivial (.inr fun _=>trivial) ?_
    rw [Zl]
    exact TX.toX hsel hK r _ _ w (by simpa using hls) (hcl.set hr) (by omega) hrest ht
  | .q i r,listed,ρ,w,hls,hcl,hc,hok,h=>by
    simp only [YT,Bool.and_eq_true,List.all_eq_true] at hok
    obtain ⟨⟨⟨hm,hf⟩,hr⟩,hrest⟩:=hok
    obtain ⟨o,v,hi',hq,ht⟩:=h
    have hi : ops.toArray[i]? = some o:=by simpa using hi'
    have him:=(Array.getElem?_eq_some_iff.1 hi).1
    have hr : i ∈ Region.ready .any ops.toArray listed:=by simpa using hr
    have hc':=JQ (listed:=listed) him (by simpa using (mem_ready.1 hr).1)
    simp only [Pl.len] at hc
    refine Qjw (Si:=Ext w) hi (.inl hm) (Region.noSelect_spec hsel) (fun _ _ _ h=>h) r.len (Ext w) listed _ w hls hcl hc.symm (Region.free_spec hi hf) hr hq.yields (Chg.refl _ _) (.inl ⟨Chg.refl _ _,fun _ h=>h⟩) ?_
    rw [Zl]
    exact TX.toX hsel hK r _ _ w (by simpa using hls) (hcl.set hr) (by omega) hrest ht
  | .e i r,listed,ρ,w,hls,hcl,hc,hok,h=>by
    simp only [YT,Bool.and_eq_true,beq_iff_eq] at hok
    obtain ⟨hr,hnb,hrest⟩:=hok
    obtain ⟨o,hi',hs⟩:=h
    have hi : ops.toArray[i]? = some o:=by simpa using hi'
    have hr' : i ∈ Region.ready .any ops.toArray listed:=by rw [hr]; simp
    have hc':=JQ (listed:=listed) (Array.getElem?_eq_some_iff.1 hi).1 (by simpa using (mem_ready.1 hr').1)
    simp only [Pl.len] at hc
    refine ⟨by rw [hr]; simp,fun j hj=>?_⟩
    have hj : j = i:=by rw [hr] at hj; simpa using hj
    subst hj
    exact hs.toWpOp hi fun ρ w' h'=>⟨Ext w',fun _ _=>⟨Chg.refl _ _,fun _ hx=>Chg.trans h'.1 hx⟩,TX.toX hsel hK r _ _ w' (by simpa using hls) (hcl.set hr') (by omega) hrest h'.2⟩
  | .b i r,listed,ρ,w,hls,hcl,hc,hok,h=>by
    simp only [YT,Bool.and_eq_true,beq_iff_eq] at hok
    obtain ⟨hr,hib,hnq,hrest⟩:=hok
    obtain ⟨o,hi',hs⟩:=h
    have hi : ops.toArray[i]? = some o:=by simpa using hi'
    have hr' : i ∈ Region.ready .any ops.toArray listed:=by rw [hr]; simp
    have hc':=JQ (listed:=listed) (Array.getElem?_eq_some_iff.1 hi).1 (by simpa using (mem_ready.1 hr').1)
    simp only [Pl.len] at hc
    refine ⟨by rw [hr]; simp,fun j hj=>?_⟩
    have hj : j = i:=by rw [hr] at hj; simpa using hj
    subst hj
    refine hs.toWpOp hi fun ρ w' h'=>⟨Ext w',?_,TX.toX hsel hK r _ _ w' (by simpa using hls) (hcl.set hr') (by omega) hrest h'⟩
    intro hb; rw [hib] at hb; cases hb
  | .f i r j s,listed,ρ,w,hls,hcl,hc,hok,h=>by
    simp only [YT,Bool.and_eq_true,beq_iff_eq] at hok
    obtain ⟨hr,hlen,hn1,hn2,hrest,hrest2⟩:=hok
    obtain ⟨⟨o,hi',hs⟩,o2,hj',hs2⟩:=h
    have hi : ops.toArray[i]? = some o:=by simpa using hi'
    have hj2 : ops.toArray[j]? = some o2:=by simpa using hj'
    have hri : i ∈ Region.ready .any ops.toArray listed:=by rw [hr]; simp
    have hrj : j ∈ Region.ready .any ops.toArray listed:=by rw [hr]; simp
    have hci:=JQ (listed:=listed) (Array.getElem?_eq_some_iff.1 hi).1 (by simpa using (mem_ready.1 hri).1)
    have hcj:=JQ (listed:=listed) (Array.getElem?_eq_some_iff.1 hj2).1 (by simpa using (mem_ready.1 hrj).1)
    have hlen : r.len = s.len:=by simpa using hlen
    simp only [Pl.len] at hc
    refine ⟨by rw [hr]; simp,fun k hk=>?_⟩
    rw [hr] at hk
    rcases List.mem_cons.1 hk with rfl | hk
    · exact hs.toWpOp hi fun ρ w' h'=>⟨Ext w',fun _ _=>⟨Chg.refl _ _,fun _ hx=>Chg.trans h'.1 hx⟩,TX.toX hsel hK r _ _ w' (by simpa using hls) (hcl.set hri) (by omega) hrest h'.2⟩
    · have hk : k = j:=by simpa using hk
      subst hk
      have:=fun ρ w' (h' : Ext w w' ∧ TX P n ops K s ρ w')=>TX.toX hsel hK s (listed.setIfInBounds k true) ρ w' (by simpa using hls) (hcl.set hrj) (by omega) hrest2 h'.2
      refine hs2.toWpOp hj2 fun ρ w' h'=>⟨Ext w',fun _ _=>⟨Chg.refl _ _,fun _ hx=>Chg.trans h'.1 hx⟩,?_⟩
      have h3:=this ρ w' h'
      rw [← hlen] at h3
      exact h3

theorem XF {id : Nat} {ops : List Oper} (hm : P.follows .mixedOrders = true) (p : Pl) (hok : Qmv ops.toArray p = true) (h : ∀ w1,Ext w w1 → TX P n ops q.norm p ρ w1) : WC P n (.region id ops.toArray true) q ρ w:=by
  simp only [Qmv,Bool.and_eq_true] at hok
  obtain ⟨hsel,hl,hp⟩:=hok
  have hl : p.len = ops.toArray.size:=by simpa [Nat.beq_eq] using hl
  refine wp_region_any hm ?_
  have h1:=TX.toX (q:=q) hsel (fun _ _ h=>h) p (Array.replicate ops.toArray.size false) ρ { w with drawn:=w.drawn + 1 } (by simp) (Closed.none _ _) (by rw [Qxt _ _ (Nat.le_refl _),hl]) hp (h _ (Ext.drew w))
  have h2:=anyX.toAny (fun _ _ _ h=>h) p.len _ _ _ _ h1
  rw [hl] at h2
  exact h2

section
variable {K : Env → World → Prop} {ops : List Oper} {o : Oper} {i : Nat} {r : Pl} {v : Value}
theorem Xr (h : K ρ w) : TX P n ops K .done ρ w:=h
theorem Qj (hi : ops[i]? = some o) (hw : Xl ops.toArray o n ρ = true) (hy : ∀ w',Yl P n ρ o w' v) (h : TX P n ops K r (Xa ρ o.dst v) w) : TX P n ops K (.p i r) ρ w :=
  ⟨o,v,hi,.inl ⟨hw,fun w' _=>hy w'⟩,h⟩
theorem QQ (hi : ops[i]? = some o) (hw : Xl ops.toArray o n ρ = true) (hy : ∀ w',Ext w w' → Yl P n ρ o w' v) (h : TX P n ops K r (Xa ρ o.dst v) w) : TX P n ops K (.q i r) ρ w :=
  ⟨o,v,hi,.inl ⟨hw,hy⟩,h⟩
theorem Zk (b : Bool) (hi : ops[i]? = some o) (hw : Xl ops.toArray o n ρ = b) (hy : ∀ w',b = true → Yl P n ρ o w' v) (h : TX P n ops K r (Xa ρ o.dst (gd b v)) w) : TX P n ops K (.p i r) ρ w:=by
  cases b with
  | true=>rw [Qw rfl] at h; exact Qj hi hw (fun w'=>hy w' rfl) h
  | false=>rw [Qbh rfl] at h; exact ⟨o,undef,hi,.inr ⟨hw,rfl⟩,h⟩
theorem JX (b : Bool) (hi : ops[i]? = some o) (hw : Xl ops.toArray o n ρ = b) (hy : ∀ w',Ext w w' → b = true → Yl P n ρ o w' v) (h : TX P n ops K r (Xa ρ o.dst (gd b v)) w) : TX P n ops K (.q i r) ρ w:=by
  cases b with
  | true=>rw [Qw rfl] at h; exact QQ hi hw (fun w' hS=>hy w' hS rfl) h
  | false=>rw [Qbh rfl] at h; exact ⟨o,undef,hi,.inr ⟨hw,rfl⟩,h⟩
theorem QJ (hi : ops[i]? = some o) (hw : Xl ops.toArray o n ρ = true) (h : Eff P o n ρ w (fun v w'=>Ext w w' ∧ TX P n ops K r (Xa ρ o.dst v) w')) : TX P n ops K (.e i r) ρ w :=
  ⟨o,hi,by unfold Stp; rw [if_pos hw]; exact h⟩
theorem Yg (hi : ops[i]? = some o) (hw : Xl ops.toArray o n ρ = true) (h : Eff P o n ρ w (fun v w'=>TX P n ops K r (Xa ρ o.dst v) w')) : TX P n ops K (.b i r) ρ w :=
  ⟨o,hi,by unfold Stp; rw [if_pos hw]; exact h⟩
theorem Qov (b : Bool) (V : Value) (hi : ops[i]? = some o) (hw : Xl ops.toArray o n ρ = b) (ht : b = true → Eff P o n ρ w (fun v w' => v = V ∧ Ext w w'))
    (h : ∀ w',Ext w w' → Ext w w' ∧ TX P n ops K r (Xa ρ o.dst (gd b V)) w') : TX P n ops K (.e i r) ρ w:=by
  refine ⟨o,hi,?_⟩
  unfold Stp
  cases b with
  | true =>
    rw [if_pos hw]
    refine (ht rfl).mono fun v w' ⟨hv,he⟩=>?_
    have:=h w' he; rw [Qw rfl] at this; rw [hv]; exact this
  | false =>
    rw [if_neg (by simp [hw])]
    have:=h w (Chg.refl _ _); rw [Qbh rfl] at this; exact this
theorem Jw {j : Nat} {s : Pl} {o2 : Oper} (hi : ops[i]? = some o) (hw : Xl ops.toArray o n ρ = true) (hj : ops[j]? = some o2) (hw2 : Xl ops.toArray o2 n ρ = true)
    (h : Eff P o n ρ w (fun v w'=>Ext w w' ∧ TX P n ops K r (Xa ρ o.dst v) w')) (h2 : Eff P o2 n ρ w (fun v w'=>Ext w w' ∧ TX P n ops K s (Xa ρ o2.dst v) w')) : TX P n ops K (.f i r j s) ρ w :=
  ⟨⟨o,hi,by unfold Stp; rw [if_pos hw]; exact h⟩,⟨o2,hj,by unfold Stp; rw [if_pos hw2]; exact h2⟩⟩
end
end
end Go.Gw

end
section
namespace Go.Gw
open Go Go.Sort Go.Proofs
section
variable {α β : Type} [Rep β]

theorem Qkv (enc : α → List Value) (k : Nat) (hk : ∀ x,(enc x).length = k) : ∀ l : List α,(l.flatMap enc).length = l.length * k
  | []=>by simp
  | a :: l=>by rw [List.flatMap_cons,List.length_append,hk,Qkv enc k hk l,List.length_cons,Nat.succ_mul,Nat.add_comm]
theorem Qku [Inhabited α] (enc : α → List Value) (k : Nat) (hk : ∀ x,(enc x).length = k) (d : Array α) : (flatK enc k d).toList = d.toList.flatMap enc:=by
  have hlen : (d.toList.flatMap enc).length = d.size * k:=by
    rw [Qkv enc k hk]; simp
  apply List.ext_getElem
  · simp [hlen]
  · intro t h1 h2
    simp only [Array.length_toList,size_flatK] at h1
    have hk0 : 0 < k:=by rcases Nat.eq_zero_or_pos k with h | h; subst h; omega; exact h
    have hq : t / k < d.size:=Nat.div_lt_of_lt_mul (by rwa [Nat.mul_comm] at h1)
    have e1 : (flatK enc k d).toList[t] = (enc d[t / k]!)[t % k]!:=by
      rw [← get_flatK enc k d t h1,getElem!_pos _ t (by simpa using h1)]; simp
    rw [e1]
    have key : ∀ (l : List α) (t : Nat) (ht : t < (l.flatMap enc).length),(l.flatMap enc)[t] = (enc (l[t / k]!))[t % k]!:=by
      intro l
      induction l with
      | nil=>intro t ht; simp at ht
      | cons a l ih =>
        intro t ht
        simp only [List.flatMap_cons] at ht ⊢
        by_cases hlt : t < k
        · rw [List.getElem_append_left (by rw [hk]; exact hlt)]
          simp [Nat.div_eq_of_lt hlt,Nat.mod_eq_of_lt hlt,hk,hlt]
        · have hge : k ≤ t:=Nat.le_of_not_lt hlt
          rw [List.getElem_append_right (by rw [hk]; exact hge)]
          have ht' : t - k < (l.flatMap enc).length:=by rw [List.length_append,hk] at ht; omega
          have hd : t / k = (t - k) / k + 1:=by
            rw [← Nat.sub_add_cancel hge,Nat.add_div_right _ hk0]; simp
          have hm : t % k = (t - k) % k:=by
            conv=>lhs; rw [← Nat.sub_add_cancel hge,Nat.add_mod_right]
          have:=ih (t - k) ht'
          simp only [hk]
          rw [this,hd,hm]
          simp
    rw [key d.toList t h2]
    simp [hq]

theorem Elems.flat_inv {enc : α → List Value} {k : Nat} {to : α → β} {L : List Value} {w : World} (hn : Rep.n β = k) (hrd : ∀ cs a,Rep.rd L w cs (to a) → cs = enc a) : ∀ (l : List α) (cells : List Value),Elems L w cells (l.map to) → cells = l.flatMap enc
  | [],cells,h=>by
    have:=h.1; simp at this; exact this
  | a :: l,cells,h=>by
    have h0:=h.2 0 (to a) (by simp)
    rw [Nat.zero_mul,List.drop_zero] at h0
    have e1:=hrd _ _ h0
    have h1 : Elems L w (cells.drop (Rep.n β)) (l.map to):=by
      refine ⟨by rw [List.length_drop,h.1,List.map_cons,List.length_cons,Nat.succ_mul]; omega,fun i x hx=>?_⟩
      have:=h.2 (i + 1) x (by simpa using hx)
      rw [List.drop_drop]
      rw [show Rep.n β + i * Rep.n β = (i + 1) * Rep.n β by rw [Nat.succ_mul,Nat.add_comm]]
      exact this
    have e2:=Elems.flat_inv hn hrd l _ h1
    rw [List.flatMap_cons,← e1,← e2,List.take_append_drop]

theorem Own.holds [Inhabited α] {enc : α → List Value} {k : Nat} {to : α → β} {e : TypeId} {L : List Value} {w : World} {v : Value} {d : Array α} (hk : ∀ x, (enc x).length = k) (hn : Rep.n β = k) (hrd : ∀ cs a, Rep.rd L w cs (to a) → cs = enc a) (h : Own e L w v (d.toList.map to)) (h0 : d.size ≠ 0) :
    ∃ g cap cur,v = .slice (some ⟨g,0,none⟩) d.size cap ∧ w.heap[g]? = some (.cells cur e (0,0)) ∧ d.size ≤ cap ∧ cap ≤ maxLen ∧ cur.size = cap * k ∧ cur.toList.take (d.size * k) = (flatK enc k d).toList ∧ HoldsK enc k w g 0 d:=by
  obtain ⟨cells,⟨hl,ho⟩,hE⟩:=h
  have hf:=Elems.flat_inv hn hrd _ _ hE
  have hsz : (d.toList.map to).length = d.size:=by simp
  rw [hsz] at ho
  rcases ho with ⟨_,hz⟩ | ⟨g,cap,cur,hv,_,hg,h4,h5,h6,h7⟩
  · exact absurd hz h0
  · rw [hn] at h6 h7
    rw [hf,← Qku enc k hk] at h7
    refine ⟨g,cap,cur,hv,hg,h4,h5,h6,h7,fun j hj=>⟨?_,?_⟩⟩
    · have h8 : cur[0 + j]? = some (flatK enc k d)[j]! := by
        have h9 : (cur.toList.take (d.size * k))[j]? = some (flatK enc k d)[j]!:=by
          rw [h7,getElem!_pos _ j hj]; simp
        rw [size_flatK] at hj
        rw [List.getElem?_take_of_lt hj] at h9
        simpa using h9
      simp only [World.cell?,hg,h8]; rfl
    · simp [World.frozen?,hg]

end
end Go.Gw

end
section
namespace Go.Gw
open Go

theorem Xd {x : Int} (h : -9223372036854775808 ≤ x ∧ x ≤ 9223372036854775807) : w64 x = x:=Go.IntWalk.i64_in x h

def Runs {α : Type} (e : Option α) (Q : α → Prop) : Prop:=∃ a,e = some a ∧ Q a

section
variable {α β σ μ : Type} {Q : α → Prop} {e e' : Option α}
theorem Runs.some {a : α} (h : Q a) : Runs (some a) Q:=⟨a,rfl,h⟩
theorem Runs.bind {e : Option β} {f : β → Option α} (h : Runs e fun b=>Runs (f b) Q) : Runs (e.bind f) Q:=by
  obtain ⟨b,rfl,a,ha,hq⟩:=h; exact ⟨a,ha,hq⟩
theorem Runs.mono {Q' : α → Prop} (h : Runs e Q) (hm : ∀ a,Q a → Q' a) : Runs e Q':=by obtain ⟨a,ha,hq⟩:=h; exact ⟨a,ha,hm _ hq⟩
theorem Runs.eq {a : α} (h : Runs e (· = a)) : e = .some a:=by obtain ⟨b,hb,rfl⟩:=h; exact hb
theorem Runs.call {e : Option β} {f : β → Option α} {b : β} (h : e = .some b) (hq : Runs (f b) Q) : Runs (e.bind f) Q:=by subst h; exact hq
theorem Runs.callR {e : Option β} {f : β → Option α} {R : β → Prop} (h : Runs e R) (hq : ∀ b,R b → Runs (f b) Q) : Runs (e.bind f) Q:=by obtain ⟨b,rfl,hb⟩:=h; exact hq b hb
theorem Runs.bif {b : Bool} (ht : b = true → Runs e Q) (hf : b = false → Runs e' Q) : Runs (bif b then e else e') Q:=by
  cases b
  · exact hf rfl
  · exact ht rfl
theorem Runs.jl {b : α} {f : μ → Option α} (h : Q b) : Runs (Xx (.inl b) f) Q:=⟨b,rfl,h⟩
theorem Runs.j {o : α ⊕ μ} {f : μ → Option α} (hl : ∀ b,o = .inl b → Q b) (hr : ∀ m,o = .inr m → Runs (f m) Q) : Runs (Xx o f) Q:=by
  cases o with
  | inl b=>exact Runs.jl (hl b rfl)
  | inr m=>exact hr m rfl

def Rnd (I : σ → Prop) (m : σ → Nat) (Q : β → Prop) (s : σ) : σ ⊕ β → Prop
  | .inl s'=>I s' ∧ m s' < m s
  | .inr o=>Q o
theorem Runs.loop {step : σ → Option (σ ⊕ β)} {s : σ} {Q : β → Prop} (I : σ → Prop) (m : σ → Nat) (h0 : I s) (h : ∀ s,I s → Runs (step s) (Rnd I m Q s)) : Runs (Gw.loop step s) Q:=by
  generalize hk : m s = k
  induction k using Nat.strongRecOn generalizing s with
  | _ k ih =>
    obtain ⟨x,hx,hq⟩:=h s h0
    cases x with
    | inl s' =>
      rw [Yp hx]
      exact ih (m s') (by have:=hq.2; omega) hq.1 rfl
    | inr o=>rw [X2 hx]; exact ⟨o,rfl,hq⟩
theorem Runs.idx {xs : List β} {i : Int} {f : β → Option α} (h0 : 0 ≤ i) (h1 : i < xs.length) (h : ∀ x,xs[i.toNat]? = .some x → Runs (f x) Q) : Runs ((Gw.idx xs i).bind f) Q:=by
  have hl : i.toNat < xs.length:=by omega
  have e : Gw.idx xs i = .some xs[i.toNat]:=by unfold Gw.idx; rw [if_pos h0,List.getElem?_eq_getElem hl]
  exact Runs.call e (h _ (List.getElem?_eq_getElem hl))
theorem XT {xs : List β} {k : Nat} (h : k < xs.length) : Gw.idx xs (k : Int) = .some xs[k]:=by
  unfold Gw.idx; rw [if_pos (by omega),Int.toNat_natCast,List.getElem?_eq_getElem h]
theorem Y6 {xs ys : List β} (h : xs.length + ys.length ≤ 1073741824) : Yn xs ys = .some (xs ++ ys):=by unfold Yn; rw [if_pos h]
theorem Qid {a b : Int} (h : b ≠ 0) : quo a b = .some (w64 (a.tdiv b)):=by unfold quo; rw [if_neg h]
end
end Go.Gw

end
section
namespace Go.Gw
open Go Go.Proofs Go.Shelf Go.RowKit Go.Sort Go.Lib
set_option maxRecDepth 100000
def Qpx : Go.Shelf.Ren:=⟨fun | 10=>96 | 6=>92 | n=>n,fun | 22=>35 | 23=>3 | 25=>79 | 3=>3 | 4=>4 | 0=>0 | n=>n,fun | n=>n⟩
theorem Qpw : Go.Proofs.SlLaysH.n10 Try.prog Qpx :=
  { mixed:=by kernel_rfl,
    f6:=⟨Try.f92.name,by kernel_rfl,Try.func92.trans (congrArg some (by kernel_rfl))⟩,
    f10:=⟨Try.f96.name,by kernel_rfl,Try.func96.trans (congrArg some (by kernel_rfl))⟩,
    t0:=Try.underlying0,
    a0:=Try.isAgg0,
    z0:=Try.sizeOf0,
    v0:=Try.zeroValue0,
    t3:=Try.underlying3,
    a3:=Try.isAgg3,
    z3:=Try.sizeOf3,
    v3:=Try.zeroValue3,
    t4:=Try.underlying4,
    a4:=Try.isAgg4,
    z4:=Try.sizeOf4,
    v4:=Try.zeroValue4,
    t22:=Try.underlying35,
    a22:=Try.isAgg35,
    z22:=Try.sizeOf35,
    v22:=Try.zeroValue35,
    a23:=Try.isAgg3,
    z23:=Try.sizeOf3,
    t25:=Try.underlying79,
    a25:=Try.isAgg79,
    z25:=Try.sizeOf79,
    v25:=Try.zeroValue79 }
abbrev IntB:={ i : Int // 0 ≤ i ∧ i ≤ 62 }
instance : Inhabited IntB:=⟨⟨0,by decide⟩⟩
def Z8 (x : IntB) : Value:=.int .i64 x.1
def Yd (set x : Int) : Bool:=decide (QX .i64 (set.fdiv (2 ^ x.toNat)) 1 = 0)

theorem Qmu {α : Type} [Inhabited α] {enc : α → Value} {to : α → Int} {e : TypeId} {L : List Value} {w : World} {v : Value} {d : Array α} (henc : ∀ a, enc a = .int .i64 (to a)) (h : Own e L w v (d.toList.map to)) (h0 : d.size ≠ 0) :
    ∃ g cap cur,v = .slice (some ⟨g,0,none⟩) d.size cap ∧ w.heap[g]? = some (.cells cur e (0,0)) ∧ d.size ≤ cap ∧ cap ≤ maxLen ∧ cur.size = cap ∧ Holds enc w g 0 d:=by
  obtain ⟨g,cap,cur,hv,hg,h4,h5,h6,h7,hH⟩:=Own.holds (enc:=fun a=>[enc a]) (k:=1) (fun _=>rfl) rfl (fun cs a hrd=>by rw [henc]; exact hrd) h h0
  refine ⟨g,cap,cur,hv,hg,h4,h5,by rw [h6,Nat.mul_one],fun j hj=>?_⟩
  have hc : cur[j]? = some (enc d[j]!):=by
    have h8 : (cur.toList.take (d.size * 1))[j]? = some (enc d[j]!):=by
      rw [h7,Qku (fun a=>[enc a]) 1 (fun _=>rfl)]
      rw [getElem!_pos d j hj]
      have : ∀ (l : List α) (i : Nat) (hi : i < l.length),(l.flatMap fun a=>[enc a])[i]? = some (enc l[i]):=by
        intro l
        induction l with
        | nil=>intro i hi; simp at hi
        | cons a l ih =>
          intro i hi
          cases i with
          | zero=>simp
          | succ i=>simpa using ih i (by simpa using hi)
      exact (this d.toList j (by simpa using hj)).trans (by simp)
    rw [List.getElem?_take_of_lt (by omega)] at h8
    simpa using h8
  refine ⟨?_,by simp [World.frozen?,hg]⟩
  simp only [World.cell?,hg,Nat.zero_add,hc]; rfl

theorem Qnb {α : Type} [Inhabited α] {enc : α → Value} {e : TypeId} {w : World} {g q : Nat} {d' : Array α} {cur : Array Value} (hg : w.heap[g]? = some (.cells cur e (0, 0))) :
    (putRow enc (Sort.ahead w q) g 0 d').heap[g]? = some (.cells (putCells enc 0 d' cur) e (0,0)):=by
  have hlt : g < w.heap.size:=ZV hg
  have hv : w.heap[g] = .cells cur e (0,0):=(Array.getElem?_eq_some_iff.1 hg).2
  unfold putRow mapBlock Sort.ahead
  show (w.heap.modify g (onCells (putCells enc 0 d')))[g]? = _
  rw [Array.getElem?_eq_getElem (by simpa using hlt),Array.getElem_modify]
  simp [hv,onCells]
theorem Qna {α : Type} [Inhabited α] {enc : α → Value} {w : World} {g q m cap : Nat} {d' : Array α} : Chg [.slice (some ⟨g,0,none⟩) m cap] w (putRow enc (Sort.ahead w q) g 0 d'):=by
  refine ⟨rfl,rfl,rfl,?_,fun b hb hA=>?_⟩
  · unfold putRow mapBlock Sort.ahead
    show w.heap.size ≤ (w.heap.modify g (onCells (putCells enc 0 d'))).size
    simp
  · have hne : g ≠ b:=fun e=>hA _ (List.mem_singleton.2 rfl) (by simp [Qn,e])
    unfold putRow mapBlock Sort.ahead
    show (w.heap.modify g (onCells (putCells enc 0 d')))[b]? = _
    rw [Array.getElem?_modify]
    simp [hne]
theorem Qmt {e : TypeId} {L : List Value} {w : World} {g cap m : Nat} {cur : Array Value} {zs : List Int} (hg : w.heap[g]? = some (.cells cur e (0, 0))) (hm : zs.length = m) (h4 : m ≤ cap) (h5 : cap ≤ maxLen) (h6 : cur.size = cap)
    (hc : ∀ j (hj : j < zs.length),cur[j]? = some (.int .i64 zs[j])) : Own e L w (.slice (some ⟨g,0,none⟩) m cap) zs:=by
  subst hm
  have hE : ∀ l : List Int,Elems L w (l.map (Value.int .i64)) l:=by
    intro l
    induction l with
    | nil=>exact Elems.nil
    | cons a l ih=>exact Elems.cons (cs:=[.int .i64 a]) rfl ih
  refine ⟨zs.map (Value.int .i64),⟨by simp [Rep.n],.inr ⟨g,cap,cur,rfl,Nat.zero_le _,hg,h4,h5,by simp [Rep.n,h6],?_⟩⟩,hE zs⟩
  apply List.ext_getElem?
  intro j
  by_cases hj : j < zs.length
  · have h1 : j < zs.length * Rep.n Int:=by simpa [Rep.n] using hj
    rw [List.getElem?_take_of_lt h1]
    have:=hc j hj
    simp only [Array.getElem?_toList]
    rw [this]
    simp [hj]
  · rw [List.getElem?_eq_none (by simp [Rep.n]; omega),List.getElem?_eq_none (by simp; omega)]
theorem Qmx {α : Type} [Inhabited α] {enc : α → Value} {d : Array α} {c : Array Value} {j : Nat} (hj : j < d.size) (hc : d.size ≤ c.size) : (putCells enc 0 d c)[j]? = some (enc d[j]!):=by
  have : j < c.size:=by omega
  simp [putCells,hj,this]

def Qcs : List Int → List IntB
  | []=>[]
  | e :: es=>if h : 0 ≤ e ∧ e ≤ 62 then ⟨e,h⟩ :: Qcs es else []
theorem Qka : ∀ (l : List Int),(∀ e ∈ l,0 ≤ e ∧ e ≤ 62) → (Qcs l).map (·.1) = l
  | [],_=>rfl
  | e :: es,h=>by
    simp only [Qcs]
    rw [dif_pos (h e (List.mem_cons_self ..)),List.map_cons,Qka es fun x hx=>h x (List.mem_cons_of_mem _ hx)]

noncomputable def J2 (set : Int) (xs : List Int) : Option (List Int) :=
  open Classical in if (∀ e ∈ xs, 0 ≤ e ∧ e ≤ 62) ∧ 0 < xs.length ∧ xs.length ≤ 1073741824 then some (xs.filter fun x => !Yd set x) else none
def Qzb (xs : List Int) (i j : Int) : Option (List Int) :=
  if 0 ≤ i ∧ i ≤ j ∧ j ≤ xs.length ∧ 0 < xs.length ∧ xs.length ≤ 1073741824 then some (xs.take i.toNat ++ xs.drop j.toNat) else none

theorem Qky (set : Int) (x : IntB) (B : Nat) (W : World) (hc : W.cell? ⟨B, 0, none⟩ = some (.int .i64 set)) :
    FnGives Try.prog 97 #[.pointer (some ⟨B,0,none⟩)] #[Z8 x] (.bool (Yd set x.1)) W:=by
  show Calls Try.prog 97 #[Z8 x,.pointer (some ⟨B,0,none⟩)] W _
  obtain ⟨x,h0,h1⟩:=x
  have hm : min x.toNat 64 = x.toNat:=by omega
  have hn : ¬ x < 0:=by omega
  unfold Z8
  go_enter Try.func97,Try.ntmps97
  go_wp2
  all_goals (go_ret; refine ⟨?_,0,rfl⟩)
  all_goals simp_all
  all_goals (unfold Yd QX Go.bits; rw [Int.fdiv_eq_ediv_of_nonneg _ (Int.le_of_lt (Int.pow_pos (by decide)))]; first | rfl | simp [Qgj])

theorem Qpy {e : TypeId} {L : List Value} {w : World} {v : Value} {xs zs : List Int} {set : Int} {b T : Nat} (h : Own e L w v xs) (hB : Box w b [.int .i64 set] T) (hne : Qn v ≠ some b) (hz : J2 set xs = some zs) :
    CallsTo Try.prog 96 [v,.func (.func 97) #[] #[.pointer (some ⟨b,0,none⟩)]] w (fun u w'=>Chg [v] w w' ∧ (∀ k,Qn u = some k → Qn v = some k) ∧ ∀ L',Own e L' w' u zs):=by
  unfold J2 at hz
  split at hz
  · rename_i hc
    obtain ⟨hb,h0,hn⟩:=hc
    cases hz
    have hv:=Qka xs hb
    have hcell : w.cell? ⟨b,0,none⟩ = some (.int .i64 set):=by
      have : w.heap[b]? = some (.cells [Value.int .i64 set].toArray T (0,0)):=hB
      simp [World.cell?,this]
    generalize Qcs xs = ys at hv
    subst hv
    have hlen : ys.length ≤ 1073741824:=by simpa using hn
    have hzs : (ys.map (·.1)).filter (fun x=>!Yd set x) = (ys.filter fun x=>!Yd set x.1).map (·.1):=by rw [List.filter_map]; rfl
    rw [hzs]
    have hown : Own e L w v (ys.toArray.toList.map (·.1)):=by simpa using h
    obtain ⟨g,cap,cur,hvv,hg,h5,h6,h7,hH⟩:=Qmu (enc:=Z8) (to:=(·.1)) (fun _=>rfl) hown (by rw [List.size_toArray]; simp only [List.length_map] at h0; omega)
    subst hvv
    have hbg : b ≠ g:=fun e=>hne (by simp [Qn,e])
    have eg : ∀ args w,(callFunc 97 args).run Try.prog w = .ok (.enter 97 args) w:=enters_of Try.func97 (by kernel_rfl) rfl
    have hp : PredAt Try.prog 97 #[.pointer (some ⟨b,0,none⟩)] Z8 (fun x=>Yd set x.1) w:=fun W x hbl=>Qky set x b W ((hbl.cell (p:=⟨b,0,none⟩) hB.lt).trans hcell)
    have hpo : PredOver Try.prog 97 #[.pointer (some ⟨b,0,none⟩)] Z8 (fun x=>Yd set x.1) g 0 ys.toArray.size w:=fun n os dk x _=>Qky set x b _ (by
      unfold sortWorld
      rw [cell?_grow _ _ _ (by show b < (putRow _ _ _ _ _).heap.size; rw [size_putRow]; exact hB.lt),cell?_putRow_other _ _ g 0 _ _ (Or.inl hbg)]
      exact hcell)
    have hcon:=AnyE.slices_DeleteFunc Qpw Z8 (fun _=>rfl) (fun x=>Yd set x.1) 97 #[.pointer (some ⟨b,0,none⟩)] eg ⟨0,by decide⟩ Try.zeroValue3 g 0 cap ys.toArray w hp hpo hH (by simp; omega) h5
    have hfl : (ys.filter fun x=>!Yd set x.1).length ≤ ys.length:=List.length_filter_le _ _
    refine Calls.mono hcon fun e' w' he=>?_
    obtain ⟨rfl,q,rfl⟩:=he
    refine ⟨Qna,fun k hk=>hk,fun L'=>Qmt (Qnb hg) (by rw [List.length_map]) (by simp at h5 ⊢; omega) h6 (by simp [putCells,h7]) fun t ht=>?_⟩
    rw [List.length_map] at ht
    rw [Qmx (by simp; omega) (by simp at h5 ⊢; omega),getElem!_pos _ _ (by simp; omega)]
    simp only [List.getElem_toArray,Z8]
    rw [List.getElem_append_left ht]
    simp
  · cases hz

end Go.Gw

end
section
namespace Go.Gw
open Go Go.Proofs Go.Shelf Go.RowKit Go.Sort Go.Lib
set_option maxRecDepth 100000
def Qxg : Go.Shelf.Ren:=⟨fun | 5=>19 | 8=>39 | 7=>38 | 19=>62 | 20=>63 | 10=>53 | 11=>54 | 12=>55 | 13=>56 | 14=>57 | 15=>58 | 16=>59 | 17=>60 | 18=>61 | 30=>81 | 31=>82 | 32=>83 | 33=>84 | 34=>85 | 35=>86 | 40=>98 | n=>n,fun | 23=>35 | 25=>3 | 3=>3 | 32=>85 | 22=>35 | 0=>0 | 44=>109 | 46=>95 | 4=>4 | 36=>102 | 35=>101 | 41=>76 | 5=>5 | 9=>9 | 53=>128 | 57=>132 | 63=>139 | 64=>32 | n=>n,fun n=>n⟩
theorem Qxf : Go.Proofs.SlLaysM.n5 Try.prog Qxg :=
  { mixed:=by kernel_rfl,
    f5:=⟨Try.f19.name,by kernel_rfl,Try.func19.trans (congrArg some (by kernel_rfl))⟩,
    f7:=⟨Try.f38.name,by kernel_rfl,Try.func38.trans (congrArg some (by kernel_rfl))⟩,
    f8:=Try.func39.trans (congrArg some (by kernel_rfl)),
    f10:=⟨Try.f53.name,by kernel_rfl,Try.func53.trans (congrArg some (by kernel_rfl))⟩,
    f11:=⟨Try.f54.name,by kernel_rfl,Try.func54.trans (congrArg some (by kernel_rfl))⟩,
    f12:=⟨Try.f55.name,by kernel_rfl,Try.func55.trans (congrArg some (by kernel_rfl))⟩,
    f13:=⟨Try.f56.name,by kernel_rfl,Try.func56.trans (congrArg some (by kernel_rfl))⟩,
    f14:=⟨Try.f57.name,by kernel_rfl,Try.func57.trans (congrArg some (by kernel_rfl))⟩,
    f15:=⟨Try.f58.name,by kernel_rfl,Try.func58.trans (congrArg some (by kernel_rfl))⟩,
    f16:=⟨Try.f59.name,by kernel_rfl,Try.func59.trans (congrArg some (by kernel_rfl))⟩,
    f17:=⟨Try.f60.name,by kernel_rfl,Try.func60.trans (congrArg some (by kernel_rfl))⟩,
    f18:=⟨Try.f61.name,by kernel_rfl,Try.func61.trans (congrArg some (by kernel_rfl))⟩,
    f19:=Try.func62.trans (congrArg some (by kernel_rfl)),
    f20:=Try.func63.trans (congrArg some (by kernel_rfl)),
    f30:=⟨Try.f81.name,by kernel_rfl,Try.func81.trans (congrArg some (by kernel_rfl))⟩,
    f31:=Try.func82.trans (congrArg some (by kernel_rfl)),
    f32:=Try.func83.trans (congrArg some (by kernel_rfl)),
    f33:=⟨Try.f84.name,by kernel_rfl,Try.func84.trans (congrArg some (by kernel_rfl))⟩,
    f34:=⟨Try.f85.name,by kernel_rfl,Try.func85.trans (congrArg some (by kernel_rfl))⟩,
    f35:=⟨Try.f86.name,by kernel_rfl,Try.func86.trans (congrArg some (by kernel_rfl))⟩,
    f40:=⟨Try.f98.name,by kernel_rfl,Try.func98.trans (congrArg some (by kernel_rfl))⟩,
    t0:=Try.underlying0,
    a0:=Try.isAgg0,
    z0:=Try.sizeOf0,
    v0:=Try.zeroValue0,
    t3:=Try.underlying3,
    a3:=Try.isAgg3,
    z3:=Try.sizeOf3,
    v3:=Try.zeroValue3,
    t4:=Try.underlying4,
    a4:=Try.isAgg4,
    z4:=Try.sizeOf4,
    v4:=Try.zeroValue4,
    t5:=Try.underlying5,
    a5:=Try.isAgg5,
    z5:=Try.sizeOf5,
    v5:=Try.zeroValue5,
    t9:=Try.underlying9,
    a9:=Try.isAgg9,
    z9:=Try.sizeOf9,
    v9:=Try.zeroValue9,
    t22:=Try.underlying35,
    a22:=Try.isAgg35,
    z22:=Try.sizeOf35,
    v22:=Try.zeroValue35,
    t23:=Try.underlying35,
    a23:=Try.isAgg35,
    z23:=Try.sizeOf35,
    v23:=Try.zeroValue35,
    t25:=Try.underlying3,
    a25:=Try.isAgg3,
    z25:=Try.sizeOf3,
    v25:=Try.zeroValue3,
    t32:=Try.underlying85,
    a32:=Try.isAgg85,
    z32:=Try.sizeOf85,
    v32:=Try.zeroValue85,
    t35:=Try.underlying101,
    a35:=Try.isAgg101,
    z35:=Try.sizeOf101,
    v35:=Try.zeroValue101,
    t36:=Try.underlying102,
    a36:=Try.isAgg102,
    z36:=Try.sizeOf102,
    v36:=Try.zeroValue102,
    t41:=Try.underlying76,
    a41:=Try.isAgg76,
    z41:=Try.sizeOf76,
    v41:=Try.zeroValue76,
    t44:=Try.underlying109,
    a44:=Try.isAgg109,
    z44:=Try.sizeOf109,
    v44:=Try.zeroValue109,
    t46:=Try.underlying95,
    a46:=Try.isAgg95,
    z46:=Try.sizeOf95,
    v46:=Try.zeroValue95,
    t53:=Try.underlying128,
    a53:=Try.isAgg128,
    z53:=Try.sizeOf128,
    v53:=Try.zeroValue128,
    t57:=Try.underlying132,
    a57:=Try.isAgg132,
    z57:=Try.sizeOf132,
    v57:=Try.zeroValue132,
    t63:=Try.underlying139,
    a63:=Try.isAgg139,
    z63:=Try.sizeOf139,
    v63:=Try.zeroValue139,
    t64:=Try.underlying32,
    a64:=Try.isAgg32,
    z64:=Try.sizeOf32,
    v64:=Try.zeroValue32 }
noncomputable def JO (xs : List Int) : Option (List Int) :=
  if 0 < xs.length ∧ xs.length ≤ 1073741824 then some (xs.mergeSort fun x y=>decide (x ≤ y)) else none
theorem Qxe {e : TypeId} {L : List Value} {w : World} {v : Value} {xs zs : List Int} (h : Own e L w v xs) (hz : JO xs = some zs) :
    CallsTo Try.prog 19 [v] w (fun u w'=>Chg [v] w w' ∧ (.tuple #[]) = u ∧ Own e L w' v zs):=by
  unfold JO at hz
  split at hz
  · rename_i hc
    cases hz
    have hown : Own e L w v (xs.toArray.toList.map id):=by simpa using h
    obtain ⟨g,cap,cur,hvv,hg,h5,h6,h7,hH⟩:=Qmu (enc:=Value.int .i64) (to:=id) (fun _=>rfl) hown (by rw [List.size_toArray]; omega)
    have hcon:=AnyM.slices_Sort_int Qxf g 0 cap xs w hH (ZV hg) (by omega)
    subst hvv
    simp only [List.size_toArray] at *
    refine Calls.mono hcon fun e' w' he=>?_
    obtain ⟨rfl,q,os,rfl⟩:=he
    have hlen : (xs.mergeSort fun x y=>decide (x ≤ y)).length = xs.length:=List.length_mergeSort _
    have hgrow : ∀ (b : Nat) (o : Obj),(putRow (Value.int .i64) (Sort.ahead w q) g 0 (xs.mergeSort fun x y=>decide (x ≤ y)).toArray).heap[b]? = some o → (grow (putRow (Value.int .i64) (Sort.ahead w q) g 0 (xs.mergeSort fun x y=>decide (x ≤ y)).toArray) os).heap[b]? = some o:=by
      intro b o hb
      show (_ ++ os)[b]? = _
      have hlt:=(Array.getElem?_eq_some_iff.1 hb).1
      rw [Array.getElem?_append_left hlt]; exact hb
    have hch : Chg [.slice (some ⟨g,0,none⟩) xs.length cap] w (putRow (Value.int .i64) (Sort.ahead w q) g 0 (xs.mergeSort fun x y=>decide (x ≤ y)).toArray):=Qna
    refine ⟨⟨hch.os,hch.tape,hch.output,?_,fun b hb hA=>?_⟩,rfl,Qmt (hgrow _ _ (Qnb hg)) hlen h5 h6 (by simp [putCells,h7]) fun t ht=>?_⟩
    · refine Nat.le_trans hch.size ?_
      show _ ≤ (_ ++ os).size
      rw [Array.size_append]; omega
    · have h1:=hch.block b hb hA
      obtain ⟨o,ho⟩ : ∃ o,w.heap[b]? = some o:=⟨_,Array.getElem?_eq_getElem hb⟩
      rw [ho] at h1 ⊢
      exact hgrow b o h1
    · rw [Qmx (by rw [List.size_toArray]; exact ht) (by rw [List.size_toArray]; omega),getElem!_pos _ _ (by rw [List.size_toArray]; exact ht)]
      simp
  · cases hz
end Go.Gw

end
