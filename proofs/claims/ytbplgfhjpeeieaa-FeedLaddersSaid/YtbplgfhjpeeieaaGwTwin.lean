/- Computing twins of specifications: loops with fuel; each twin lies below its specification. Printed by a program of this work. No condition. -/
import Derived.Test.YtbplgfhjpeeieaaGwParA
set_option linter.unusedVariables false
set_option linter.unusedSimpArgs false
set_option linter.unusedSectionVars false
set_option maxRecDepth 100000
set_option linter.unusedVariables false
namespace Go.Gw
open Go
def Le {α : Type} (x y : Option α) : Prop := ∀ r, x = some r → y = some r
theorem Le.refl {α : Type} (x : Option α) : Le x x := fun _ h => h
theorem Le.bind {α β : Type} {x y : Option α} {f g : α → Option β} (h : Le x y) (hf : ∀ a, Le (f a) (g a)) : Le (Option.bind x f) (Option.bind y g) := fun r hr => by
  cases hx : x with
  | none => rw [hx] at hr; cases hr
  | some a => rw [hx] at hr; rw [h a hx]; exact hf a r hr
theorem Le.cond {α : Type} {b : Bool} {x x' y y' : Option α} (h : Le x x') (h' : Le y y') : Le (bif b then x else y) (bif b then x' else y') := by cases b <;> assumption
theorem Le.jn0 {β μ : Type} {o : β ⊕ μ} {f g : μ → Option β} (h : ∀ a, Le (f a) (g a)) : Le (Gw.jn0 o f) (Gw.jn0 o g) := by
  cases o with
  | inl b => exact Le.refl _
  | inr m => exact h m
theorem Qpy {σ β : Type} {f g : σ → Option (σ ⊕ β)} (h : ∀ s, Le (f s) (g s)) : ∀ k s, Le (iter f k s) (iter g k s)
  | 0, s => Le.refl _
  | k + 1, s => fun r hr => by
    simp only [iter] at hr ⊢
    cases hf : f s with
    | none => rw [hf] at hr; cases hr
    | some x =>
      rw [hf] at hr; rw [h s x hf]
      cases x with
      | inl s' => exact Qpy h k s' r hr
      | inr o => exact hr
theorem Le.iter {σ β : Type} {f g : σ → Option (σ ⊕ β)} {k : Nat} {s : σ} (h : ∀ s, Le (f s) (g s)) : Le (Gw.iter f k s) (loop g s) := fun r hr => loop_iff.2 ⟨k, Qpy h k s r hr⟩
def Qai (kk_ : Nat) (p_limit : Int) : Option FeedNet :=
  some (FeedNet.mk ([(FeedStation.mk (ByteArray.mk #[97]) p_limit false), (FeedStation.mk (ByteArray.mk #[98]) 2000 true)] : List FeedStation) ([(FeedSection.mk 0 1 600 100), (FeedSection.mk (-1) 1 0 0)] : List FeedSection) ([(FeedTrain.mk (ByteArray.mk #[120]) 0 2 ([(FeedStep.mk 0 2000), (FeedStep.mk 1 (-500))] : List FeedStep)), (FeedTrain.mk (ByteArray.mk #[121]) 0 1 ([(FeedStep.mk 0 2500)] : List FeedStep))] : List FeedTrain))
theorem Qdk {kk_ : Nat}  {p_limit : Int} : Le (Qai kk_ p_limit) (ZX p_limit) :=
  (Le.refl _)
def Qnd (kk_ : Nat) (bs4 : (List U8)) : (Int) → Option ((Int) ⊕ (Bool ⊕ (Unit))) := fun x86 =>
  (bif (decide (x86 < (bs4.length : Int))) then (
    (Option.bind (idx (α := Int) bs4 x86) fun el104 =>
    (bif ((!(((decide (97 ≤ el104)) && (decide (el104 ≤ 122))) || ((decide (65 ≤ el104)) && (decide (el104 ≤ 90))))) && ((decide (x86 = 0)) || ((!decide (el104 = 45)) && ((decide (el104 < 48)) || (decide (57 < el104)))))) then (
      some (.inr (.inl false))
    ) else (
      some (.inl (w64 (x86 + 1)))
    ))
    )
  ) else (
    some (.inr (.inr ()))
  ))
theorem Qzt {kk_ : Nat}  {bs4 : (List U8)} : ∀ s, Le (Qnd kk_ bs4 s) (Qnf bs4 s) := fun x86 =>
  (Le.cond (Le.bind (Le.refl _) fun el104 => (Le.cond (Le.refl _) (Le.refl _))) (Le.refl _))
def Qne (kk_ : Nat) (p_s : ByteArray) : Option Bool :=
  (Option.bind (tob p_s) fun bs4 =>
  (Option.bind (iter (Qnd kk_ bs4) kk_ 0) fun o91 => jn0 o91 fun (_ : Unit) =>
  some ((!decide (p_s = (ByteArray.mk #[]))) && (decide ((p_s.size : Int) ≤ 12)))
  )
  )
theorem Qzr {kk_ : Nat}  {p_s : ByteArray} : Le (Qne kk_ p_s) (Qgs p_s) :=
  (Le.bind (Le.refl _) fun bs4 => (Le.bind (Le.iter Qzt) fun o91 => (Le.jn0 fun _ => (Le.refl _))))
def XE (kk_ : Nat) (p_ok : Bool) (p_e : Int) : Option Int :=
  (bif p_ok then (
    some 0
  ) else (
    some p_e
  ))
theorem XJ {kk_ : Nat}  {p_ok : Bool} {p_e : Int} : Le (XE kk_ p_ok p_e) (Xn p_ok p_e) :=
  (Le.cond (Le.refl _) (Le.refl _))
def Qth (kk_ : Nat) (p_s : (List ByteArray)) (p_v : ByteArray) : (Int) → Option ((Int) ⊕ (Int ⊕ (Unit))) := fun x76 =>
  (bif (decide (x76 < (p_s.length : Int))) then (
    (Option.bind (idx p_s x76) fun el94 =>
    (bif (decide (p_v = el94)) then (
      some (.inr (.inl x76))
    ) else (
      some (.inl (w64 (x76 + 1)))
    ))
    )
  ) else (
    some (.inr (.inr ()))
  ))
theorem QGu {kk_ : Nat}  {p_s : (List ByteArray)} {p_v : ByteArray} : ∀ s, Le (Qth kk_ p_s p_v s) (Qtj p_s p_v s) := fun x76 =>
  (Le.cond (Le.bind (Le.refl _) fun el94 => (Le.cond (Le.refl _) (Le.refl _))) (Le.refl _))
def Qti (kk_ : Nat) (p_s : (List ByteArray)) (p_v : ByteArray) : Option Int :=
  (Option.bind (iter (Qth kk_ p_s p_v) kk_ 0) fun o80 => jn0 o80 fun (_ : Unit) =>
  some (-1)
  )
theorem QGs {kk_ : Nat}  {p_s : (List ByteArray)} {p_v : ByteArray} : Le (Qti kk_ p_s p_v) (Qji p_s p_v) :=
  (Le.bind (Le.iter QGu) fun o80 => (Le.jn0 fun _ => (Le.refl _)))
def Qst (kk_ : Nat) (p_s : (List ByteArray)) (p_v : ByteArray) : Option Bool :=
  (Option.bind (Qti kk_ p_s p_v) fun r4 =>
  some (decide (0 ≤ r4))
  )
theorem QGa {kk_ : Nat}  {p_s : (List ByteArray)} {p_v : ByteArray} : Le (Qst kk_ p_s p_v) (Qjd p_s p_v) :=
  (Le.bind QGs fun r4 => (Le.refl _))
def Qnc (kk_ : Nat) (p_l : (List Int)) : (Int) → Option ((Int) ⊕ (Int ⊕ (Unit))) := fun x72 =>
  (bif (decide (x72 < (p_l.length : Int))) then (
    (Option.bind (idx p_l x72) fun el89 =>
    (bif (!decide (el89 = 0)) then (
      some (.inr (.inl el89))
    ) else (
      some (.inl (w64 (x72 + 1)))
    ))
    )
  ) else (
    some (.inr (.inr ()))
  ))
theorem Qzq {kk_ : Nat}  {p_l : (List Int)} : ∀ s, Le (Qnc kk_ p_l s) (Qcr p_l s) := fun x72 =>
  (Le.cond (Le.bind (Le.refl _) fun el89 => (Le.cond (Le.refl _) (Le.refl _))) (Le.refl _))
def YQ (kk_ : Nat) (p_l : (List Int)) : Option Int :=
  (Option.bind (iter (Qnc kk_ p_l) kk_ 0) fun o76 => jn0 o76 fun (_ : Unit) =>
  some 0
  )
theorem Y6 {kk_ : Nat}  {p_l : (List Int)} : Le (YQ kk_ p_l) (Yc p_l) :=
  (Le.bind (Le.iter Qzq) fun o76 => (Le.jn0 fun _ => (Le.refl _)))
def Qgt (kk_ : Nat) (p_name : ByteArray) (p_others : (List ByteArray)) : Option Int :=
  (Option.bind (Qne kk_ p_name) fun r4 =>
  (Option.bind (XE kk_ r4 4) fun r9 =>
  (Option.bind (Qst kk_ p_others p_name) fun r15 =>
  (Option.bind (XE kk_ (!r15) 5) fun r21 =>
  (Option.bind (YQ kk_ ([r9, r21] : List Int)) fun r34 =>
  some r34
  )
  )
  )
  )
  )
theorem Qno {kk_ : Nat}  {p_name : ByteArray} {p_others : (List ByteArray)} : Le (Qgt kk_ p_name p_others) (Qcv p_name p_others) :=
  (Le.bind Qzr fun r4 => (Le.bind XJ fun r9 => (Le.bind QGa fun r15 => (Le.bind XJ fun r21 => (Le.bind Y6 fun r34 => (Le.refl _))))))
def Zb (kk_ : Nat) (p_n : Int) (p_lo : Int) (p_hi : Int) : Option Bool :=
  some ((decide (p_lo ≤ p_n)) && (decide (p_n ≤ p_hi)))
theorem Zs {kk_ : Nat}  {p_n : Int} {p_lo : Int} {p_hi : Int} : Le (Zb kk_ p_n p_lo p_hi) (YR p_n p_lo p_hi) :=
  (Le.refl _)
def Qhn (kk_ : Nat) (p_n : Int) (c4 : Int) : Option Bool :=
  (Option.bind (bif (!(decide (p_n = -1))) then Zb kk_ p_n 0 (w64 (c4 - 1)) else some default) fun r7 =>
  some ((decide (p_n = -1)) || r7)
  )
theorem Qpg {kk_ : Nat}  {p_n : Int} {c4 : Int} : Le (Qhn kk_ p_n c4) (Qde p_n c4) :=
  (Le.bind (Le.cond Zs (Le.refl _)) fun r7 => (Le.refl _))
def Qpi (kk_ : Nat) (p_Listappend : FeedSection) (p_String : Int) : Option Int :=
  (Option.bind (α := (Bool)) (
    (bif (decide (p_Listappend.Right = -1)) then (
      some (decide (p_Listappend.Share = 1000))
    ) else (
      (bif (decide (p_Listappend.Left = -1)) then (
        some (decide (p_Listappend.Share = 0))
      ) else (
        some ((!decide (p_Listappend.Left = -1)) && (!decide (p_Listappend.Right = -1)))
      ))
    ))
  ) fun (x30 : Bool) =>
  (Option.bind (Qhn kk_ p_Listappend.Left p_String) fun r115 =>
  (Option.bind (bif r115 then Qhn kk_ p_Listappend.Right p_String else some default) fun r121 =>
  (Option.bind (XE kk_ (r115 && r121) 6) fun r127 =>
  (Option.bind (XE kk_ ((!decide (p_Listappend.Left = -1)) || (!decide (p_Listappend.Right = -1))) 23) fun r133 =>
  (Option.bind (XE kk_ (!decide (p_Listappend.Left = p_Listappend.Right)) 26) fun r139 =>
  (Option.bind (Zb kk_ p_Listappend.Share 0 1000) fun r145 =>
  (Option.bind (bif r145 then Zb kk_ p_Listappend.Loss 0 500 else some default) fun r151 =>
  (Option.bind (XE kk_ (r145 && r151) 2) fun r157 =>
  (Option.bind (XE kk_ x30 3) fun r163 =>
  (Option.bind (YQ kk_ ([r127, r133, r139, r157, r163] : List Int)) fun r176 =>
  some r176
  )
  )
  )
  )
  )
  )
  )
  )
  )
  )
  )
theorem QBd {kk_ : Nat}  {p_Listappend : FeedSection} {p_String : Int} : Le (Qpi kk_ p_Listappend p_String) (Qho p_Listappend p_String) :=
  (Le.bind (Le.cond (Le.refl _) (Le.cond (Le.refl _) (Le.refl _))) fun x30 => (Le.bind Qpg fun r115 => (Le.bind (Le.cond Qpg (Le.refl _)) fun r121 => (Le.bind XJ fun r127 => (Le.bind XJ fun r133 => (Le.bind XJ fun r139 => (Le.bind Zs fun r145 => (Le.bind (Le.cond Zs (Le.refl _)) fun r151 => (Le.bind XJ fun r157 => (Le.bind XJ fun r163 => (Le.bind Y6 fun r176 => (Le.refl _))))))))))))
def Qhq (kk_ : Nat) (p_n : Int) (p_most : Int) : Option Bool :=
  (Option.bind (Zb kk_ p_n (w64 (0 - p_most)) p_most) fun r3 =>
  some r3
  )
theorem Qpj {kk_ : Nat}  {p_n : Int} {p_most : Int} : Le (Qhq kk_ p_n p_most) (ZU p_n p_most) :=
  (Le.bind Zs fun r3 => (Le.refl _))
def Qcs (kk_ : Nat) (p_n : Int) : Option Bool :=
  (Option.bind (Zb kk_ p_n 0 1000) fun r3 =>
  some r3
  )
theorem Qgq {kk_ : Nat}  {p_n : Int} : Le (Qcs kk_ p_n) (Qaa p_n) :=
  (Le.bind Zs fun r3 => (Le.refl _))
def Qpl (kk_ : Nat) (p_sections : Int) (p_t : FeedTrain) : (Int) → Option ((Int) ⊕ (Int ⊕ (Unit))) := fun x603 =>
  (bif (decide (x603 < (p_t.Steps.length : Int))) then (
    (Option.bind (idx p_t.Steps x603) fun el620 =>
    (Option.bind (Zb kk_ el620.Section 0 (w64 (p_sections - 1))) fun r681 =>
    (Option.bind (XE kk_ r681 6) fun r687 =>
    (Option.bind (Qhq kk_ el620.Power 20000) fun r693 =>
    (Option.bind (XE kk_ r693 2) fun r699 =>
    (Option.bind (YQ kk_ ([r687, r699] : List Int)) fun r712 =>
    (bif (!decide (r712 = 0)) then (
      some (.inr (.inl r712))
    ) else (
      some (.inl (w64 (x603 + 1)))
    ))
    )
    )
    )
    )
    )
    )
  ) else (
    some (.inr (.inr ()))
  ))
theorem QBj {kk_ : Nat}  {p_sections : Int} {p_t : FeedTrain} : ∀ s, Le (Qpl kk_ p_sections p_t s) (Qpn p_sections p_t s) := fun x603 =>
  (Le.cond (Le.bind (Le.refl _) fun el620 => (Le.bind Zs fun r681 => (Le.bind XJ fun r687 => (Le.bind Qpj fun r693 => (Le.bind XJ fun r699 => (Le.bind Y6 fun r712 => (Le.cond (Le.refl _) (Le.refl _)))))))) (Le.refl _))
def Qpm (kk_ : Nat) (p_t : FeedTrain) (p_sections : Int) : Option Int :=
  (Option.bind (Qcs kk_ p_t.Earliest) fun r193 =>
  (Option.bind (bif r193 then Qcs kk_ p_t.Latest else some default) fun r200 =>
  (Option.bind (XE kk_ (r193 && r200) 2) fun r207 =>
  (Option.bind (XE kk_ (decide (p_t.Earliest ≤ p_t.Latest)) 9) fun r214 =>
  (Option.bind (XE kk_ (decide (0 < (p_t.Steps.length : Int))) 10) fun r221 =>
  (Option.bind (XE kk_ (decide ((p_t.Steps.length : Int) ≤ 12)) 8) fun r228 =>
  (Option.bind (YQ kk_ ([r207, r214, r221, r228] : List Int)) fun r243 =>
  (bif (!decide (r243 = 0)) then (
    some r243
  ) else (
    (Option.bind (iter (Qpl kk_ p_sections p_t) kk_ 0) fun o607 => jn0 o607 fun (_ : Unit) =>
    some 0
    )
  ))
  )
  )
  )
  )
  )
  )
  )
theorem QBh {kk_ : Nat}  {p_t : FeedTrain} {p_sections : Int} : Le (Qpm kk_ p_t p_sections) (Qhu p_t p_sections) :=
  (Le.bind Qgq fun r193 => (Le.bind (Le.cond Qgq (Le.refl _)) fun r200 => (Le.bind XJ fun r207 => (Le.bind XJ fun r214 => (Le.bind XJ fun r221 => (Le.bind XJ fun r228 => (Le.bind Y6 fun r243 => (Le.cond (Le.refl _) (Le.bind (Le.iter QBj) fun o607 => (Le.jn0 fun _ => (Le.refl _)))))))))))
def Qmj (kk_ : Nat) (p_Listappend : FeedNet) : ((List ByteArray) × Int) → Option (((List ByteArray) × Int) ⊕ ((FeedMark × Int) ⊕ (Unit))) := fun (x798, x806) =>
  (bif (decide (x806 < (p_Listappend.Stations.length : Int))) then (
    (Option.bind (idx p_Listappend.Stations x806) fun el847 =>
    (Option.bind (Qgt kk_ el847.Name x798) fun r979 =>
    (Option.bind (Zb kk_ el847.Limit 0 100000) fun r985 =>
    (Option.bind (XE kk_ r985 2) fun r991 =>
    (Option.bind (YQ kk_ ([r979, r991] : List Int)) fun r1004 =>
    (bif (!decide (r1004 = 0)) then (
      some (.inr (.inl ((FeedMark.mk 1 x806), r1004)))
    ) else (
      (Option.bind (app x798 ([el847.Name] : List ByteArray)) fun zs1038 =>
      some (.inl (zs1038, w64 (x806 + 1)))
      )
    ))
    )
    )
    )
    )
    )
  ) else (
    some (.inr (.inr ()))
  ))
theorem Qzg {kk_ : Nat}  {p_Listappend : FeedNet} : ∀ s, Le (Qmj kk_ p_Listappend s) (Qmn p_Listappend s) := fun (x798, x806) =>
  (Le.cond (Le.bind (Le.refl _) fun el847 => (Le.bind Qno fun r979 => (Le.bind Zs fun r985 => (Le.bind XJ fun r991 => (Le.bind Y6 fun r1004 => (Le.cond (Le.refl _) (Le.bind (Le.refl _) fun zs1038 => (Le.refl _)))))))) (Le.refl _))
def Qmk (kk_ : Nat) (p_Listappend : FeedNet) : (Int) → Option ((Int) ⊕ ((FeedMark × Int) ⊕ (Unit))) := fun x1266 =>
  (bif (decide (x1266 < (p_Listappend.Sections.length : Int))) then (
    (Option.bind (idx p_Listappend.Sections x1266) fun el1298 =>
    (Option.bind (Qpi kk_ el1298 (p_Listappend.Stations.length : Int)) fun r1327 =>
    (bif (!decide (r1327 = 0)) then (
      some (.inr (.inl ((FeedMark.mk 2 x1266), r1327)))
    ) else (
      some (.inl (w64 (x1266 + 1)))
    ))
    )
    )
  ) else (
    some (.inr (.inr ()))
  ))
theorem Qzh {kk_ : Nat}  {p_Listappend : FeedNet} : ∀ s, Le (Qmk kk_ p_Listappend s) (Qmo p_Listappend s) := fun x1266 =>
  (Le.cond (Le.bind (Le.refl _) fun el1298 => (Le.bind QBd fun r1327 => (Le.cond (Le.refl _) (Le.refl _)))) (Le.refl _))
def Qml (kk_ : Nat) (p_Listappend : FeedNet) : ((List ByteArray) × Int) → Option (((List ByteArray) × Int) ⊕ ((FeedMark × Int) ⊕ (Unit))) := fun (x2020, x2028) =>
  (bif (decide (x2028 < (p_Listappend.Trains.length : Int))) then (
    (Option.bind (idx p_Listappend.Trains x2028) fun el2062 =>
    (Option.bind (Qgt kk_ el2062.Name x2020) fun r2181 =>
    (Option.bind (Qpm kk_ el2062 (p_Listappend.Sections.length : Int)) fun r2187 =>
    (Option.bind (YQ kk_ ([r2181, r2187] : List Int)) fun r2200 =>
    (bif (!decide (r2200 = 0)) then (
      some (.inr (.inl ((FeedMark.mk 3 x2028), r2200)))
    ) else (
      (Option.bind (app x2020 ([el2062.Name] : List ByteArray)) fun zs2236 =>
      some (.inl (zs2236, w64 (x2028 + 1)))
      )
    ))
    )
    )
    )
    )
  ) else (
    some (.inr (.inr ()))
  ))
theorem Qzi {kk_ : Nat}  {p_Listappend : FeedNet} : ∀ s, Le (Qml kk_ p_Listappend s) (Qmp p_Listappend s) := fun (x2020, x2028) =>
  (Le.cond (Le.bind (Le.refl _) fun el2062 => (Le.bind Qno fun r2181 => (Le.bind QBh fun r2187 => (Le.bind Y6 fun r2200 => (Le.cond (Le.refl _) (Le.bind (Le.refl _) fun zs2236 => (Le.refl _))))))) (Le.refl _))
def Qmm (kk_ : Nat) (p_Listappend : FeedNet) : Option (FeedMark × Int) :=
  (Option.bind (XE kk_ ((decide (0 < (p_Listappend.Stations.length : Int))) && (decide (0 < (p_Listappend.Sections.length : Int)))) 10) fun r34 =>
  (Option.bind (XE kk_ (((decide ((p_Listappend.Stations.length : Int) ≤ 6)) && (decide ((p_Listappend.Sections.length : Int) ≤ 10))) && (decide ((p_Listappend.Trains.length : Int) ≤ 6))) 8) fun r40 =>
  (Option.bind (YQ kk_ ([r34, r40] : List Int)) fun r55 =>
  (bif (!decide (r55 = 0)) then (
    some ((FeedMark.mk 0 0), r55)
  ) else (
    (Option.bind (iter (Qmj kk_ p_Listappend) kk_ (([] : List ByteArray), 0)) fun o834 => jn0 o834 fun (_ : Unit) =>
    (Option.bind (iter (Qmk kk_ p_Listappend) kk_ 0) fun o1285 => jn0 o1285 fun (_ : Unit) =>
    (Option.bind (iter (Qml kk_ p_Listappend) kk_ (([] : List ByteArray), 0)) fun o2049 => jn0 o2049 fun (_ : Unit) =>
    some ((FeedMark.mk 0 0), 0)
    )
    )
    )
  ))
  )
  )
  )
theorem Qze {kk_ : Nat}  {p_Listappend : FeedNet} : Le (Qmm kk_ p_Listappend) (Qgl p_Listappend) :=
  (Le.bind XJ fun r34 => (Le.bind XJ fun r40 => (Le.bind Y6 fun r55 => (Le.cond (Le.refl _) (Le.bind (Le.iter Qzg) fun o834 => (Le.jn0 fun _ => (Le.bind (Le.iter Qzh) fun o1285 => (Le.jn0 fun _ => (Le.bind (Le.iter Qzi) fun o2049 => (Le.jn0 fun _ => (Le.refl _)))))))))))
def Qhj (kk_ : Nat) (p_n : FeedNet) : Option (feed_net × Int) :=
  (Option.bind (Qmm kk_ p_n) fun r32 =>
  some ((feed_net.mk p_n), r32.2)
  )
theorem Qpb {kk_ : Nat}  {p_n : FeedNet} : Le (Qhj kk_ p_n) (Qdc p_n) :=
  (Le.bind Qze fun r32 => (Le.refl _))
def Qoz (kk_ : Nat) (p_t : FeedTrain) (c7 : ByteArray) : Option Bool :=
  some (decide (p_t.Name = c7))
theorem QAx {kk_ : Nat}  {p_t : FeedTrain} {c7 : ByteArray} : Le (Qoz kk_ p_t c7) (Qhf p_t c7) :=
  (Le.refl _)
def Qsx (kk_ : Nat) (c5 : ByteArray) (p_s : (List FeedTrain)) : (Int) → Option ((Int) ⊕ (Int ⊕ (Unit))) := fun x110 =>
  (bif (decide (x110 < (p_s.length : Int))) then (
    (Option.bind (idx p_s x110) fun el130 =>
    (Option.bind (Qoz kk_ el130 c5) fun r139 =>
    (bif r139 then (
      some (.inr (.inl x110))
    ) else (
      some (.inl (w64 (x110 + 1)))
    ))
    )
    )
  ) else (
    some (.inr (.inr ()))
  ))
theorem QGi {kk_ : Nat}  {c5 : ByteArray} {p_s : (List FeedTrain)} : ∀ s, Le (Qsx kk_ c5 p_s s) (Qsz c5 p_s s) := fun x110 =>
  (Le.cond (Le.bind (Le.refl _) fun el130 => (Le.bind QAx fun r139 => (Le.cond (Le.refl _) (Le.refl _)))) (Le.refl _))
def Qsy (kk_ : Nat) (p_s : (List FeedTrain)) (c5 : ByteArray) : Option Int :=
  (Option.bind (iter (Qsx kk_ c5 p_s) kk_ 0) fun o116 => jn0 o116 fun (_ : Unit) =>
  some (-1)
  )
theorem QGg {kk_ : Nat}  {p_s : (List FeedTrain)} {c5 : ByteArray} : Le (Qsy kk_ p_s c5) (Qjg p_s c5) :=
  (Le.bind (Le.iter QGi) fun o116 => (Le.jn0 fun _ => (Le.refl _)))
def Qpa (kk_ : Nat) (p_n : feed_net) (p_name : ByteArray) : Option Int :=
  (Option.bind (Qsy kk_ p_n.FeedNet.Trains p_name) fun r30 =>
  some r30
  )
theorem QAz {kk_ : Nat}  {p_n : feed_net} {p_name : ByteArray} : Le (Qpa kk_ p_n p_name) (Qhg p_n p_name) :=
  (Le.bind QGg fun r30 => (Le.refl _))
def Qop (kk_ : Nat) (p_r : feed_run) (c7 : FeedDeparture) : Option Bool :=
  some (decide (p_r.FeedTrain.Name = c7.Train))
theorem QAp {kk_ : Nat}  {p_r : feed_run} {c7 : FeedDeparture} : Le (Qop kk_ p_r c7) (Qhb p_r c7) :=
  (Le.refl _)
def Qta (kk_ : Nat) (c5 : FeedDeparture) (p_s : (List feed_run)) : (Int) → Option ((Int) ⊕ (Int ⊕ (Unit))) := fun x112 =>
  (bif (decide (x112 < (p_s.length : Int))) then (
    (Option.bind (idx p_s x112) fun el132 =>
    (Option.bind (Qop kk_ el132 c5) fun r141 =>
    (bif r141 then (
      some (.inr (.inl x112))
    ) else (
      some (.inl (w64 (x112 + 1)))
    ))
    )
    )
  ) else (
    some (.inr (.inr ()))
  ))
theorem QGl {kk_ : Nat}  {c5 : FeedDeparture} {p_s : (List feed_run)} : ∀ s, Le (Qta kk_ c5 p_s s) (Qtc c5 p_s s) := fun x112 =>
  (Le.cond (Le.bind (Le.refl _) fun el132 => (Le.bind QAp fun r141 => (Le.cond (Le.refl _) (Le.refl _)))) (Le.refl _))
def Qtb (kk_ : Nat) (p_s : (List feed_run)) (c5 : FeedDeparture) : Option Int :=
  (Option.bind (iter (Qta kk_ c5 p_s) kk_ 0) fun o118 => jn0 o118 fun (_ : Unit) =>
  some (-1)
  )
theorem QGj {kk_ : Nat}  {p_s : (List feed_run)} {c5 : FeedDeparture} : Le (Qtb kk_ p_s c5) (Qjh p_s c5) :=
  (Le.bind (Le.iter QGl) fun o118 => (Le.jn0 fun _ => (Le.refl _)))
def Qsq (kk_ : Nat) (p_s : (List feed_run)) (c5 : FeedDeparture) : Option Bool :=
  (Option.bind (Qtb kk_ p_s c5) fun r10 =>
  some (decide (0 ≤ r10))
  )
theorem QFu {kk_ : Nat}  {p_s : (List feed_run)} {c5 : FeedDeparture} : Le (Qsq kk_ p_s c5) (Qjc p_s c5) :=
  (Le.bind QGj fun r10 => (Le.refl _))
def Qoq (kk_ : Nat) (p_l : (List FeedDeparture)) (p_n : feed_net) : ((List feed_run) × Int) → Option (((List feed_run) × Int) ⊕ (((List feed_run) × Int × Int) ⊕ ((List feed_run)))) := fun (x1015, x1023) =>
  (bif (decide (x1023 < (p_l.length : Int))) then (
    (Option.bind (idx p_l x1023) fun el1060 =>
    (Option.bind (Qpa kk_ p_n el1060.Train) fun r1092 =>
    (Option.bind (Qsq kk_ x1015 el1060) fun r1098 =>
    (Option.bind (XE kk_ (decide (0 ≤ r1092)) 6) fun r1225 =>
    (Option.bind (XE kk_ (!r1098) 26) fun r1231 =>
    (Option.bind (Qcs kk_ el1060.At) fun r1237 =>
    (Option.bind (XE kk_ r1237 2) fun r1243 =>
    (Option.bind (YQ kk_ ([r1225, r1231, r1243] : List Int)) fun r1256 =>
    (bif (!decide (r1256 = 0)) then (
      some (.inr (.inl (([] : (List feed_run)), x1023, r1256)))
    ) else (
      (Option.bind (idx p_n.FeedNet.Trains r1092) fun el1317 =>
      (Option.bind (app x1015 ([(feed_run.mk el1317 el1060.At)] : List feed_run)) fun zs1342 =>
      some (.inl (zs1342, w64 (x1023 + 1)))
      )
      )
    ))
    )
    )
    )
    )
    )
    )
    )
    )
  ) else (
    some (.inr (.inr x1015))
  ))
theorem QAt {kk_ : Nat}  {p_l : (List FeedDeparture)} {p_n : feed_net} : ∀ s, Le (Qoq kk_ p_l p_n s) (Qos p_l p_n s) := fun (x1015, x1023) =>
  (Le.cond (Le.bind (Le.refl _) fun el1060 => (Le.bind QAz fun r1092 => (Le.bind QFu fun r1098 => (Le.bind XJ fun r1225 => (Le.bind XJ fun r1231 => (Le.bind Qgq fun r1237 => (Le.bind XJ fun r1243 => (Le.bind Y6 fun r1256 => (Le.cond (Le.refl _) (Le.bind (Le.refl _) fun el1317 => (Le.bind (Le.refl _) fun zs1342 => (Le.refl _)))))))))))) (Le.refl _))
def Qor (kk_ : Nat) (p_n : feed_net) (p_l : (List FeedDeparture)) : Option ((List feed_run) × Int × Int) :=
  (bif (decide (6 < (p_l.length : Int))) then (
    some (([] : (List feed_run)), 0, 8)
  ) else (
    (Option.bind (iter (Qoq kk_ p_l p_n) kk_ (([] : List feed_run), 0)) fun o1047 => jn0 o1047 fun (x1042 : (List feed_run)) =>
    some (x1042, 0, 0)
    )
  ))
theorem QAr {kk_ : Nat}  {p_n : feed_net} {p_l : (List FeedDeparture)} : Le (Qor kk_ p_n p_l) (Qhc p_n p_l) :=
  (Le.cond (Le.refl _) (Le.bind (Le.iter QAt) fun o1047 => (Le.jn0 fun x1042 => (Le.refl _))))
def Qdb (kk_ : Nat) (p_n : FeedNet) (p_l : (List FeedDeparture)) : Option (feed_net × (List feed_run) × Int) :=
  (Option.bind (Qhj kk_ p_n) fun r34 =>
  (bif (!decide (r34.2 = 0)) then (
    some ((feed_net.mk (FeedNet.mk r34.1.FeedNet.Stations r34.1.FeedNet.Sections r34.1.FeedNet.Trains)), ([] : (List feed_run)), r34.2)
  ) else (
    (Option.bind (Qor kk_ (feed_net.mk (FeedNet.mk r34.1.FeedNet.Stations r34.1.FeedNet.Sections r34.1.FeedNet.Trains)) p_l) fun r101 =>
    some ((feed_net.mk (FeedNet.mk r34.1.FeedNet.Stations r34.1.FeedNet.Sections r34.1.FeedNet.Trains)), r101.1, r101.2.2)
    )
  ))
  )
theorem Qhh {kk_ : Nat}  {p_n : FeedNet} {p_l : (List FeedDeparture)} : Le (Qdb kk_ p_n p_l) (Qad p_n p_l) :=
  (Le.bind Qpb fun r34 => (Le.cond (Le.refl _) (Le.bind QAr fun r101 => (Le.refl _))))
def Qdf (kk_ : Nat) (p_i : Int) : Option Int :=
  (Option.bind (Zb kk_ p_i 0 1012) fun r3 =>
  (Option.bind (XE kk_ r3 2) fun r8 =>
  some r8
  )
  )
theorem Qhr {kk_ : Nat}  {p_i : Int} : Le (Qdf kk_ p_i) (Qaf p_i) :=
  (Le.bind Zs fun r3 => (Le.bind XJ fun r8 => (Le.refl _)))
def Qgo (kk_ : Nat) (p_s : FeedSection) (p_power : Int) : Option Int :=
  (bif (decide (p_power < 0)) then (
    some (w64 (p_power * (w64 (1000 - p_s.Loss))))
  ) else (
    some (w64 (p_power * (w64 (1000 + p_s.Loss))))
  ))
theorem Qmy {kk_ : Nat}  {p_s : FeedSection} {p_power : Int} : Le (Qgo kk_ p_s p_power) (Qcp p_s p_power) :=
  (Le.cond (Le.refl _) (Le.refl _))
def Qgp (kk_ : Nat) (p_s : FeedSection) (p_station : Int) : Option Int :=
  (bif (decide (p_station = p_s.Left)) then (
    some p_s.Share
  ) else (
    (bif (decide (p_station = p_s.Right)) then (
      some (w64 (1000 - p_s.Share))
    ) else (
      some 0
    ))
  ))
theorem Qna {kk_ : Nat}  {p_s : FeedSection} {p_station : Int} : Le (Qgp kk_ p_s p_station) (Qcq p_s p_station) :=
  (Le.cond (Le.refl _) (Le.cond (Le.refl _) (Le.refl _)))
def Qhm (kk_ : Nat) (p_r : feed_run) (p_tick : Int) : Option (FeedStep × Bool) :=
  (Option.bind (Zb kk_ (w64 (p_tick - p_r.at_)) 0 (w64 ((p_r.FeedTrain.Steps.length : Int) - 1))) fun r25 =>
  (bif (!r25) then (
    some ((FeedStep.mk 0 0), false)
  ) else (
    (Option.bind (idx p_r.FeedTrain.Steps (w64 (p_tick - p_r.at_))) fun el40 =>
    some (el40, true)
    )
  ))
  )
theorem Qpe {kk_ : Nat}  {p_r : feed_run} {p_tick : Int} : Le (Qhm kk_ p_r p_tick) (Qdd p_r p_tick) :=
  (Le.bind Zs fun r25 => (Le.cond (Le.refl _) (Le.bind (Le.refl _) fun el40 => (Le.refl _))))
def Qon (kk_ : Nat) (p_l : (List feed_run)) (p_tick : Int) : ((List Int) × Int) → Option (((List Int) × Int) ⊕ ((List Int))) := fun (x408, x416) =>
  (bif (decide (x416 < (p_l.length : Int))) then (
    (Option.bind (idx p_l x416) fun el440 =>
    (Option.bind (Qhm kk_ el440 p_tick) fun r469 =>
    (bif r469.2 then (
      (Option.bind (idx x408 r469.1.Section) fun el523 =>
      (Option.bind (idx x408 r469.1.Section) fun el529 =>
      some (.inl ((x408.set (r469.1.Section : Int).toNat (w64 (el523 + r469.1.Power))), w64 (x416 + 1)))
      )
      )
    ) else (
      some (.inl (x408, w64 (x416 + 1)))
    ))
    )
    )
  ) else (
    some (.inr x408)
  ))
theorem QAo {kk_ : Nat}  {p_l : (List feed_run)} {p_tick : Int} : ∀ s, Le (Qon kk_ p_l p_tick s) (Qoo p_l p_tick s) := fun (x408, x416) =>
  (Le.cond (Le.bind (Le.refl _) fun el440 => (Le.bind Qpe fun r469 => (Le.cond (Le.bind (Le.refl _) fun el523 => (Le.bind (Le.refl _) fun el529 => (Le.refl _))) (Le.refl _)))) (Le.refl _))
def Qha (kk_ : Nat) (p_n : feed_net) (p_l : (List feed_run)) (p_tick : Int) : Option (List Int) :=
  (Option.bind (mk (p_n.FeedNet.Sections.length : Int) (0 : Int)) fun mk21 =>
  (Option.bind (iter (Qon kk_ p_l p_tick) kk_ (mk21, 0)) fun (x422 : (List Int)) =>
  some x422
  )
  )
theorem Qol {kk_ : Nat}  {p_n : feed_net} {p_l : (List feed_run)} {p_tick : Int} : Le (Qha kk_ p_n p_l p_tick) (Qcz p_n p_l p_tick) :=
  (Le.bind (Le.refl _) fun mk21 => (Le.bind (Le.iter QAo) fun x422 => (Le.refl _)))
def Qnx (kk_ : Nat) (el1591 : Int) (el1598 : FeedSection) (x1553 : (List Int)) : ((List Int) × Int) → Option (((List Int) × Int) ⊕ ((List Int))) := fun (x1940, x1952) =>
  (bif (decide (x1952 < (x1553.length : Int))) then (
    (Option.bind (idx x1940 x1952) fun el2033 =>
    (Option.bind (Qgo kk_ el1598 el1591) fun r2039 =>
    (Option.bind (Qgp kk_ el1598 x1952) fun r2045 =>
    (Option.bind (idx x1940 x1952) fun el2051 =>
    some (.inl ((x1940.set (x1952 : Int).toNat (w64 (el2033 + (w64 (r2039 * r2045))))), w64 (x1952 + 1)))
    )
    )
    )
    )
  ) else (
    some (.inr x1940)
  ))
theorem QAg {kk_ : Nat}  {el1591 : Int} {el1598 : FeedSection} {x1553 : (List Int)} : ∀ s, Le (Qnx kk_ el1591 el1598 x1553 s) (Qnz el1591 el1598 x1553 s) := fun (x1940, x1952) =>
  (Le.cond (Le.bind (Le.refl _) fun el2033 => (Le.bind Qmy fun r2039 => (Le.bind Qna fun r2045 => (Le.bind (Le.refl _) fun el2051 => (Le.refl _))))) (Le.refl _))
def Qny (kk_ : Nat) (p_n : feed_net) (r39 : (List Int)) : ((List Int) × Int) → Option (((List Int) × Int) ⊕ ((List Int))) := fun (x1553, x1561) =>
  (bif (decide (x1561 < (r39.length : Int))) then (
    (Option.bind (idx r39 x1561) fun el1591 =>
    (Option.bind (idx p_n.FeedNet.Sections x1561) fun el1598 =>
    (Option.bind (iter (Qnx kk_ el1591 el1598 x1553) kk_ (x1553, 0)) fun (x1968 : (List Int)) =>
    some (.inl (x1968, w64 (x1561 + 1)))
    )
    )
    )
  ) else (
    some (.inr x1553)
  ))
theorem QAh {kk_ : Nat}  {p_n : feed_net} {r39 : (List Int)} : ∀ s, Le (Qny kk_ p_n r39 s) (Qoa p_n r39 s) := fun (x1553, x1561) =>
  (Le.cond (Le.bind (Le.refl _) fun el1591 => (Le.bind (Le.refl _) fun el1598 => (Le.bind (Le.iter QAg) fun x1968 => (Le.refl _)))) (Le.refl _))
def Qgv (kk_ : Nat) (p_n : feed_net) (p_l : (List feed_run)) (p_tick : Int) : Option (List Int) :=
  (Option.bind (mk (p_n.FeedNet.Stations.length : Int) (0 : Int)) fun mk21 =>
  (Option.bind (Qha kk_ p_n p_l p_tick) fun r39 =>
  (Option.bind (iter (Qny kk_ p_n r39) kk_ (mk21, 0)) fun (x1573 : (List Int)) =>
  some x1573
  )
  )
  )
theorem Qnv {kk_ : Nat}  {p_n : feed_net} {p_l : (List feed_run)} {p_tick : Int} : Le (Qgv kk_ p_n p_l p_tick) (Qcw p_n p_l p_tick) :=
  (Le.bind (Le.refl _) fun mk21 => (Le.bind Qol fun r39 => (Le.bind (Le.iter QAh) fun x1573 => (Le.refl _))))
def Qmt (kk_ : Nat) (p_n : FeedNet) (p_l : (List FeedDeparture)) (p_tick : Int) : Option ((List Int) × Int) :=
  (Option.bind (Qdb kk_ p_n p_l) fun r21 =>
  (Option.bind (Qdf kk_ p_tick) fun r74 =>
  (Option.bind (YQ kk_ ([r21.2.2, r74] : List Int)) fun r86 =>
  (bif (!decide (r86 = 0)) then (
    some (([] : (List Int)), r86)
  ) else (
    (Option.bind (Qgv kk_ (feed_net.mk (FeedNet.mk r21.1.FeedNet.Stations r21.1.FeedNet.Sections r21.1.FeedNet.Trains)) r21.2.1 p_tick) fun r96 =>
    some (r96, 0)
    )
  ))
  )
  )
  )
theorem Qzm {kk_ : Nat}  {p_n : FeedNet} {p_l : (List FeedDeparture)} {p_tick : Int} : Le (Qmt kk_ p_n p_l p_tick) (Qgn p_n p_l p_tick) :=
  (Le.bind Qhh fun r21 => (Le.bind Qhr fun r74 => (Le.bind Y6 fun r86 => (Le.cond (Le.refl _) (Le.bind Qnv fun r96 => (Le.refl _))))))
def Qgd (kk_ : Nat) (p_x : Int) : Option Bool :=
  some (!decide (p_x = p_x))
theorem Qlf {kk_ : Nat}  {p_x : Int} : Le (Qgd kk_ p_x) (Qci p_x) :=
  (Le.refl _)
def J6 (kk_ : Nat) (p_x : Int) (p_y : Int) : Option Int :=
  (Option.bind (Qgd kk_ p_x) fun r3 =>
  (Option.bind (Qgd kk_ p_y) fun r9 =>
  (bif r3 then (
    (bif r9 then (
      some 0
    ) else (
      some (-1)
    ))
  ) else (
    (bif r9 then (
      some 1
    ) else (
      (bif (decide (p_x < p_y)) then (
        some (-1)
      ) else (
        (bif (decide (p_y < p_x)) then (
          some 1
        ) else (
          some 0
        ))
      ))
    ))
  ))
  )
  )
theorem Qcf {kk_ : Nat}  {p_x : Int} {p_y : Int} : Le (J6 kk_ p_x p_y) (JA p_x p_y) :=
  (Le.bind Qlf fun r3 => (Le.bind Qlf fun r9 => (Le.cond (Le.cond (Le.refl _) (Le.refl _)) (Le.cond (Le.refl _) (Le.cond (Le.refl _) (Le.cond (Le.refl _) (Le.refl _)))))))
def Qsn (kk_ : Nat) (p_s1 : (List Int)) (p_s2 : (List Int)) : (Int) → Option ((Int) ⊕ (Int ⊕ (Unit))) := fun x136 =>
  (bif (decide (x136 < (p_s1.length : Int))) then (
    (Option.bind (idx p_s1 x136) fun el157 =>
    (bif (decide ((p_s2.length : Int) ≤ x136)) then (
      some (.inr (.inl 1))
    ) else (
      (Option.bind (idx p_s2 x136) fun el168 =>
      (Option.bind (J6 kk_ el157 el168) fun r175 =>
      (bif (!decide (r175 = 0)) then (
        some (.inr (.inl r175))
      ) else (
        some (.inl (w64 (x136 + 1)))
      ))
      )
      )
    ))
    )
  ) else (
    some (.inr (.inr ()))
  ))
theorem QFr {kk_ : Nat}  {p_s1 : (List Int)} {p_s2 : (List Int)} : ∀ s, Le (Qsn kk_ p_s1 p_s2 s) (Qso p_s1 p_s2 s) := fun x136 =>
  (Le.cond (Le.bind (Le.refl _) fun el157 => (Le.cond (Le.refl _) (Le.bind (Le.refl _) fun el168 => (Le.bind Qcf fun r175 => (Le.cond (Le.refl _) (Le.refl _)))))) (Le.refl _))
def Qja (kk_ : Nat) (p_s1 : (List Int)) (p_s2 : (List Int)) : Option Int :=
  (Option.bind (iter (Qsn kk_ p_s1 p_s2) kk_ 0) fun o144 => jn0 o144 fun (_ : Unit) =>
  (bif (decide ((p_s1.length : Int) < (p_s2.length : Int))) then (
    some (-1)
  ) else (
    some 0
  ))
  )
theorem Qsl {kk_ : Nat}  {p_s1 : (List Int)} {p_s2 : (List Int)} : Le (Qja kk_ p_s1 p_s2) (Qel p_s1 p_s2) :=
  (Le.bind (Le.iter QFr) fun o144 => (Le.jn0 fun _ => (Le.cond (Le.refl _) (Le.refl _))))
def Qld (kk_ : Nat) (p_vals : (List Int)) : (Int) → Option ((Int) ⊕ (Int ⊕ (Unit))) := fun x77 =>
  (bif (decide (x77 < (p_vals.length : Int))) then (
    (Option.bind (idx p_vals x77) fun el95 =>
    (bif (!decide (el95 = 0)) then (
      some (.inr (.inl el95))
    ) else (
      some (.inl (w64 (x77 + 1)))
    ))
    )
  ) else (
    some (.inr (.inr ()))
  ))
theorem Qwl {kk_ : Nat}  {p_vals : (List Int)} : ∀ s, Le (Qld kk_ p_vals s) (Qle p_vals s) := fun x77 =>
  (Le.cond (Le.bind (Le.refl _) fun el95 => (Le.cond (Le.refl _) (Le.refl _))) (Le.refl _))
def Qgc (kk_ : Nat) (p_vals : (List Int)) : Option Int :=
  (Option.bind (iter (Qld kk_ p_vals) kk_ 0) fun o82 => jn0 o82 fun (_ : Unit) =>
  some 0
  )
theorem Qlb {kk_ : Nat}  {p_vals : (List Int)} : Le (Qgc kk_ p_vals) (Qch p_vals) :=
  (Le.bind (Le.iter Qwl) fun o82 => (Le.jn0 fun _ => (Le.refl _)))
def Qhl (kk_ : Nat) (p_p : feed_plan) (p_o : feed_plan) : Option Bool :=
  (Option.bind (bif (p_p.found && (!(!p_o.found))) then J6 kk_ p_p.delay p_o.delay else some default) fun r66 =>
  (Option.bind (bif (p_p.found && (!(!p_o.found))) then Qja kk_ p_p.at_ p_o.at_ else some default) fun r74 =>
  (Option.bind (bif (p_p.found && (!(!p_o.found))) then Qgc kk_ ([r66, r74] : List Int) else some default) fun r92 =>
  some (p_p.found && ((!p_o.found) || (decide (r92 < 0))))
  )
  )
  )
theorem Qpd {kk_ : Nat}  {p_p : feed_plan} {p_o : feed_plan} : Le (Qhl kk_ p_p p_o) (Z9 p_p p_o) :=
  (Le.bind (Le.cond Qcf (Le.refl _)) fun r66 => (Le.bind (Le.cond Qsl (Le.refl _)) fun r74 => (Le.bind (Le.cond Qlb (Le.refl _)) fun r92 => (Le.refl _))))
def Qgw (kk_ : Nat) (p_a : feed_run) (p_b : feed_run) : Option Int :=
  (Option.bind (J6 kk_ p_a.at_ p_b.at_) fun r27 =>
  some r27
  )
theorem Qob {kk_ : Nat}  {p_a : feed_run} {p_b : feed_run} : Le (Qgw kk_ p_a p_b) (Qcx p_a p_b) :=
  (Le.bind Qcf fun r27 => (Le.refl _))
def Qtn (kk_ : Nat) (p_x : (List feed_run)) : (Int × ByteArray × Int × Int × (List FeedStep) × Int) → Option ((Int × ByteArray × Int × Int × (List FeedStep) × Int) ⊕ (ByteArray × Int × Int × (List FeedStep) × Int)) := fun (x291, x295, x296, x297, x298, x302) =>
  (bif (decide (x291 < (p_x.length : Int))) then (
    (Option.bind (idx p_x x291) fun el352 =>
    (Option.bind (Qgw kk_ el352 (feed_run.mk (FeedTrain.mk x295 x296 x297 x298) x302)) fun r361 =>
    (bif (decide (r361 < 0)) then (
      (Option.bind (idx p_x x291) fun el368 =>
      some (.inl (w64 (x291 + 1), el368.FeedTrain.Name, el368.FeedTrain.Earliest, el368.FeedTrain.Latest, el368.FeedTrain.Steps, el368.at_))
      )
    ) else (
      some (.inl (w64 (x291 + 1), x295, x296, x297, x298, x302))
    ))
    )
    )
  ) else (
    some (.inr (x295, x296, x297, x298, x302))
  ))
theorem QHa {kk_ : Nat}  {p_x : (List feed_run)} : ∀ s, Le (Qtn kk_ p_x s) (Qtp p_x s) := fun (x291, x295, x296, x297, x298, x302) =>
  (Le.cond (Le.bind (Le.refl _) fun el352 => (Le.bind Qob fun r361 => (Le.cond (Le.bind (Le.refl _) fun el368 => (Le.refl _)) (Le.refl _)))) (Le.refl _))
def Qto (kk_ : Nat) (p_x : (List feed_run)) : Option feed_run :=
  (Option.bind (α := (Unit)) (
    (bif (decide ((p_x.length : Int) < 1)) then (
      none
    ) else (
      some ()
    ))
  ) fun (_ : Unit) =>
  (Option.bind (idx p_x 0) fun el29 =>
  (Option.bind (iter (Qtn kk_ p_x) kk_ (1, el29.FeedTrain.Name, el29.FeedTrain.Earliest, el29.FeedTrain.Latest, el29.FeedTrain.Steps, el29.at_)) fun ((x311, x312, x313, x314, x318) : ByteArray × Int × Int × (List FeedStep) × Int) =>
  some (feed_run.mk (FeedTrain.mk x311 x312 x313 x314) x318)
  )
  )
  )
theorem QGy {kk_ : Nat}  {p_x : (List feed_run)} : Le (Qto kk_ p_x) (Qjk p_x) :=
  (Le.bind (Le.cond (Le.refl _) (Le.refl _)) fun _ => (Le.bind (Le.refl _) fun el29 => (Le.bind (Le.iter QHa) fun (x311, x312, x313, x314, x318) => (Le.refl _))))
def Qtk (kk_ : Nat) (p_x : (List feed_run)) : (Int × ByteArray × Int × Int × (List FeedStep) × Int) → Option ((Int × ByteArray × Int × Int × (List FeedStep) × Int) ⊕ (ByteArray × Int × Int × (List FeedStep) × Int)) := fun (x291, x295, x296, x297, x298, x302) =>
  (bif (decide (x291 < (p_x.length : Int))) then (
    (Option.bind (idx p_x x291) fun el352 =>
    (Option.bind (Qgw kk_ el352 (feed_run.mk (FeedTrain.mk x295 x296 x297 x298) x302)) fun r361 =>
    (bif (decide (0 < r361)) then (
      (Option.bind (idx p_x x291) fun el368 =>
      some (.inl (w64 (x291 + 1), el368.FeedTrain.Name, el368.FeedTrain.Earliest, el368.FeedTrain.Latest, el368.FeedTrain.Steps, el368.at_))
      )
    ) else (
      some (.inl (w64 (x291 + 1), x295, x296, x297, x298, x302))
    ))
    )
    )
  ) else (
    some (.inr (x295, x296, x297, x298, x302))
  ))
theorem QGx {kk_ : Nat}  {p_x : (List feed_run)} : ∀ s, Le (Qtk kk_ p_x s) (Qtm p_x s) := fun (x291, x295, x296, x297, x298, x302) =>
  (Le.cond (Le.bind (Le.refl _) fun el352 => (Le.bind Qob fun r361 => (Le.cond (Le.bind (Le.refl _) fun el368 => (Le.refl _)) (Le.refl _)))) (Le.refl _))
def Qtl (kk_ : Nat) (p_x : (List feed_run)) : Option feed_run :=
  (Option.bind (α := (Unit)) (
    (bif (decide ((p_x.length : Int) < 1)) then (
      none
    ) else (
      some ()
    ))
  ) fun (_ : Unit) =>
  (Option.bind (idx p_x 0) fun el29 =>
  (Option.bind (iter (Qtk kk_ p_x) kk_ (1, el29.FeedTrain.Name, el29.FeedTrain.Earliest, el29.FeedTrain.Latest, el29.FeedTrain.Steps, el29.at_)) fun ((x311, x312, x313, x314, x318) : ByteArray × Int × Int × (List FeedStep) × Int) =>
  some (feed_run.mk (FeedTrain.mk x311 x312 x313 x314) x318)
  )
  )
  )
theorem QGv {kk_ : Nat}  {p_x : (List feed_run)} : Le (Qtl kk_ p_x) (Qjj p_x) :=
  (Le.bind (Le.cond (Le.refl _) (Le.refl _)) fun _ => (Le.bind (Le.refl _) fun el29 => (Le.bind (Le.iter QGx) fun (x311, x312, x313, x314, x318) => (Le.refl _))))
def Qof (kk_ : Nat) (p_n : feed_net) (r859 : (List Int)) (x832 : Int) : (Int) → Option ((Int) ⊕ (((Int) ⊕ ((FeedPeak × Bool) ⊕ (Unit))) ⊕ (Unit))) := fun x1027 =>
  (bif (decide (x1027 < (r859.length : Int))) then (
    (Option.bind (idx r859 x1027) fun el1064 =>
    (Option.bind (idx p_n.FeedNet.Stations x1027) fun el1071 =>
    (bif (decide (w64 (1000000 * el1071.Limit) < el1064)) then (
      some (.inr (.inl (.inr (.inl ((FeedPeak.mk x832 x1027 el1064), true)))))
    ) else (
      some (.inl (w64 (x1027 + 1)))
    ))
    )
    )
  ) else (
    some (.inr (.inr ()))
  ))
theorem QAi {kk_ : Nat}  {p_n : feed_net} {r859 : (List Int)} {x832 : Int} : ∀ s, Le (Qof kk_ p_n r859 x832 s) (Qoh p_n r859 x832 s) := fun x1027 =>
  (Le.cond (Le.bind (Le.refl _) fun el1064 => (Le.bind (Le.refl _) fun el1071 => (Le.cond (Le.refl _) (Le.refl _)))) (Le.refl _))
def Qog (kk_ : Nat) (p_l : (List feed_run)) (p_n : feed_net) (r59 : feed_run) : (Int) → Option ((Int) ⊕ ((FeedPeak × Bool) ⊕ (Unit))) := fun x832 =>
  (bif (decide (x832 ≤ w64 (r59.at_ + 12))) then (
    (Option.bind (Qgv kk_ p_n p_l x832) fun r859 =>
    (Option.bind (iter (Qof kk_ p_n r859 x832) kk_ 0) fun o1051 => jn0 o1051 fun (_ : Unit) =>
    some (.inl (w64 (x832 + 1)))
    )
    )
  ) else (
    some (.inr (.inr ()))
  ))
theorem QAj {kk_ : Nat}  {p_l : (List feed_run)} {p_n : feed_net} {r59 : feed_run} : ∀ s, Le (Qog kk_ p_l p_n r59 s) (Qoi p_l p_n r59 s) := fun x832 =>
  (Le.cond (Le.bind Qnv fun r859 => (Le.bind (Le.iter QAi) fun o1051 => (Le.jn0 fun _ => (Le.refl _)))) (Le.refl _))
def Qgx (kk_ : Nat) (p_n : feed_net) (p_l : (List feed_run)) : Option (FeedPeak × Bool) :=
  (bif (decide ((p_l.length : Int) = 0)) then (
    some ((FeedPeak.mk 0 0 0), false)
  ) else (
    (Option.bind (Qto kk_ p_l) fun r48 =>
    (Option.bind (Qtl kk_ p_l) fun r59 =>
    (Option.bind (iter (Qog kk_ p_l p_n r59) kk_ r48.at_) fun o846 => jn0 o846 fun (_ : Unit) =>
    some ((FeedPeak.mk 0 0 0), false)
    )
    )
    )
  ))
theorem Qod {kk_ : Nat}  {p_n : feed_net} {p_l : (List feed_run)} : Le (Qgx kk_ p_n p_l) (Qcy p_n p_l) :=
  (Le.cond (Le.refl _) (Le.bind QGy fun r48 => (Le.bind QGv fun r59 => (Le.bind (Le.iter QAj) fun o846 => (Le.jn0 fun _ => (Le.refl _))))))
def Qov (kk_ : Nat) (p_String : (List feed_run)) : (Int × (List Int)) → Option ((Int × (List Int)) ⊕ ((List Int))) := fun (x392, x398) =>
  (bif (decide (x392 < (p_String.length : Int))) then (
    (Option.bind (idx p_String x392) fun el442 =>
    (Option.bind (app x398 ([el442.at_] : List Int)) fun zs484 =>
    some (.inl (w64 (x392 + 1), zs484))
    )
    )
  ) else (
    some (.inr x398)
  ))
theorem QAv {kk_ : Nat}  {p_String : (List feed_run)} : ∀ s, Le (Qov kk_ p_String s) (Qox p_String s) := fun (x392, x398) =>
  (Le.cond (Le.bind (Le.refl _) fun el442 => (Le.bind (Le.refl _) fun zs484 => (Le.refl _))) (Le.refl _))
def Qow (kk_ : Nat) (el522 : FeedTrain) (p_Listappend : feed_net) (p_String : (List feed_run)) (p_2 : Int) (rc : feed_net → (List feed_run) → Int → Option feed_plan) : (Int × (List Int) × Int × Bool) → Option ((Int × (List Int) × Int × Bool) ⊕ ((List Int) × Int × Bool)) := fun (x2988, x3000, x3004, x3005) =>
  (bif (decide (x2988 ≤ el522.Latest)) then (
    (Option.bind (cut p_String 0 (p_String.length : Int)) fun ys3376 =>
    (Option.bind (app ys3376 ([(feed_run.mk el522 x2988)] : List feed_run)) fun zs3387 =>
    (Option.bind (rc p_Listappend zs3387 (w64 ((w64 (p_2 + x2988)) - el522.Earliest))) fun r3421 =>
    (Option.bind (Qhl kk_ r3421 (feed_plan.mk x3000 x3004 x3005)) fun r3474 =>
    (bif r3474 then (
      some (.inl (w64 (x2988 + 1), r3421.at_, r3421.delay, r3421.found))
    ) else (
      some (.inl (w64 (x2988 + 1), x3000, x3004, x3005))
    ))
    )
    )
    )
    )
  ) else (
    some (.inr (x3000, x3004, x3005))
  ))
theorem QAw {kk_ : Nat}  {rc rc2 : feed_net → (List feed_run) → Int → Option feed_plan} (hrc : ∀ a0 a1 a2, Le (rc a0 a1 a2) (rc2 a0 a1 a2)) {el522 : FeedTrain} {p_Listappend : feed_net} {p_String : (List feed_run)} {p_2 : Int} : ∀ s, Le (Qow kk_ el522 p_Listappend p_String p_2 rc s) (Qoy el522 p_Listappend p_String p_2 rc2 s) := fun (x2988, x3000, x3004, x3005) =>
  (Le.cond (Le.bind (Le.refl _) fun ys3376 => (Le.bind (Le.refl _) fun zs3387 => (Le.bind (hrc _ _ _ ) fun r3421 => (Le.bind Qpd fun r3474 => (Le.cond (Le.refl _) (Le.refl _)))))) (Le.refl _))
def Qot (kk_ : Nat) (rc : feed_net → (List feed_run) → Int → Option feed_plan) (p_Listappend : feed_net) (p_String : (List feed_run)) (p_2 : Int) : Option feed_plan :=
  (bif (decide ((p_String.length : Int) = (p_Listappend.FeedNet.Trains.length : Int))) then (
    (Option.bind (Qgx kk_ p_Listappend p_String) fun r38 =>
    (Option.bind (iter (Qov kk_ p_String) kk_ (0, ([] : List Int))) fun (x421 : (List Int)) =>
    some (feed_plan.mk x421 p_2 (!r38.2))
    )
    )
  ) else (
    (Option.bind (idx p_Listappend.FeedNet.Trains (p_String.length : Int)) fun el522 =>
    (Option.bind (iter (Qow kk_ el522 p_Listappend p_String p_2 rc) kk_ (el522.Earliest, ([] : (List Int)), 0, false)) fun ((x3014, x3018, x3019) : (List Int) × Int × Bool) =>
    some (feed_plan.mk x3014 x3018 x3019)
    )
    )
  ))
theorem QAu {kk_ : Nat}  {rc rc2 : feed_net → (List feed_run) → Int → Option feed_plan} (hrc : ∀ a0 a1 a2, Le (rc a0 a1 a2) (rc2 a0 a1 a2)) {p_Listappend : feed_net} {p_String : (List feed_run)} {p_2 : Int} : Le (Qot kk_ rc p_Listappend p_String p_2) (Qhd rc2 p_Listappend p_String p_2) :=
  (Le.cond (Le.bind Qod fun r38 => (Le.bind (Le.iter QAv) fun x421 => (Le.refl _))) (Le.bind (Le.refl _) fun el522 => (Le.bind (Le.iter (QAw hrc)) fun (x3014, x3018, x3019) => (Le.refl _))))
def Qda (kk_ : Nat) : Nat → feed_net → (List feed_run) → Int → Option feed_plan
  | 0 => fun _ _ _ => none
  | fl + 1 => Qot kk_ (Qda kk_ fl)
theorem Qhe {kk_ : Nat} : ∀ (fl : Nat) , ∀ {a0 a1 a2}, Le (Qda kk_ fl a0 a1 a2) (ZJ fl a0 a1 a2)
  | 0, _, _, _ => Le.refl _
  | fl + 1, _, _, _ => QAu (fun _ _ _ => Qhe fl)
def Qoj (kk_ : Nat) (p_t : FeedTrain) : Option Bool :=
  some (decide (8 ≤ w64 (p_t.Latest - p_t.Earliest)))
theorem QAk {kk_ : Nat}  {p_t : FeedTrain} : Le (Qoj kk_ p_t) (Qgy p_t) :=
  (Le.refl _)
def Qsu (kk_ : Nat) (p_s : (List FeedTrain)) : (Int) → Option ((Int) ⊕ (Int ⊕ (Unit))) := fun x100 =>
  (bif (decide (x100 < (p_s.length : Int))) then (
    (Option.bind (idx p_s x100) fun el118 =>
    (Option.bind (Qoj kk_ el118) fun r127 =>
    (bif r127 then (
      some (.inr (.inl x100))
    ) else (
      some (.inl (w64 (x100 + 1)))
    ))
    )
    )
  ) else (
    some (.inr (.inr ()))
  ))
theorem QGf {kk_ : Nat}  {p_s : (List FeedTrain)} : ∀ s, Le (Qsu kk_ p_s s) (Qsw p_s s) := fun x100 =>
  (Le.cond (Le.bind (Le.refl _) fun el118 => (Le.bind QAk fun r127 => (Le.cond (Le.refl _) (Le.refl _)))) (Le.refl _))
def Qsv (kk_ : Nat) (p_s : (List FeedTrain)) : Option Int :=
  (Option.bind (iter (Qsu kk_ p_s) kk_ 0) fun o104 => jn0 o104 fun (_ : Unit) =>
  some (-1)
  )
theorem QGd {kk_ : Nat}  {p_s : (List FeedTrain)} : Le (Qsv kk_ p_s) (Qjf p_s) :=
  (Le.bind (Le.iter QGf) fun o104 => (Le.jn0 fun _ => (Le.refl _)))
def Qsp (kk_ : Nat) (p_s : (List FeedTrain)) : Option Bool :=
  (Option.bind (Qsv kk_ p_s) fun r4 =>
  some (decide (0 ≤ r4))
  )
theorem QFs {kk_ : Nat}  {p_s : (List FeedTrain)} : Le (Qsp kk_ p_s) (Qjb p_s) :=
  (Le.bind QGd fun r4 => (Le.refl _))
def Qok (kk_ : Nat) (p_n : feed_net) : Option Int :=
  (Option.bind (Qsp kk_ p_n.FeedNet.Trains) fun r20 =>
  (Option.bind (XE kk_ ((decide ((p_n.FeedNet.Trains.length : Int) ≤ 4)) && (!r20)) 8) fun r27 =>
  some r27
  )
  )
theorem QAm {kk_ : Nat}  {p_n : feed_net} : Le (Qok kk_ p_n) (Qgz p_n) :=
  (Le.bind QFs fun r20 => (Le.bind XJ fun r27 => (Le.refl _)))
def Qag (kk_ : Nat) : List feed_plan → feed_plan → Option feed_plan
  | [], b => some b
  | p :: ps, b => Option.bind (Qhl kk_ p b) fun x => Qag kk_ ps (bif x then p else b)
theorem Qpp {kk_ : Nat} : ∀ (l : List feed_plan) (b : feed_plan), Le (Qag kk_ l b) (Yr l b)
  | [], b => Le.refl _
  | p :: ps, b => Le.bind Qpd fun x => Qpp ps _
def Qdu (kk_ : Nat) (net : feed_net) (t : FeedTrain) : Nat → Option (List feed_plan)
  | 0 => some []
  | m + 1 => Option.bind (Qdu kk_ net t m) fun l => Option.bind (Qda kk_ 4 net [feed_run.mk t (t.Earliest + m)] m) fun r => some (l ++ [r])
theorem Qrm {kk_ : Nat} {net : feed_net} {t : FeedTrain} : ∀ m, Le (Qdu kk_ net t m) (Zw net t m)
  | 0 => Le.refl _
  | m + 1 => Le.bind (Qrm m) fun l => Le.bind (Qhe 4) fun r => Le.refl _
def JK (x : feed_plan) : List feed_plan → List (List feed_plan)
  | [] => [[x]]
  | y :: ys => (x :: y :: ys) :: (JK x ys).map (y :: ·)
def Qan : List feed_plan → List (List feed_plan)
  | [] => [[]]
  | x :: xs => (Qan xs).flatMap (JK x)
theorem Qpv {x : feed_plan} : ∀ (l1 l2 : List feed_plan), l1 ++ x :: l2 ∈ JK x (l1 ++ l2)
  | [], [] => by simp [JK]
  | [], y :: l2 => by simp [JK]
  | y :: l1, l2 => by
    simp only [List.cons_append, JK, List.mem_cons, List.mem_map]
    exact .inr ⟨_, Qpv l1 l2, rfl⟩
theorem Qro : ∀ (l l' : List feed_plan), l'.Perm l → l' ∈ Qan l
  | [], l', h => by simp [Qan, h.eq_nil]
  | x :: xs, l', h => by
    obtain ⟨l1, l2, rfl⟩ := List.append_of_mem (h.symm.subset (List.mem_cons_self ..))
    have h2 : (l1 ++ l2).Perm xs := (List.perm_cons x).1 ((List.perm_middle.symm).trans h)
    simp only [Qan, List.mem_flatMap]
    exact ⟨l1 ++ l2, Qro xs _ h2, Qpv l1 l2⟩
def Qhk (kk_ : Nat) (net : feed_net) (t : FeedTrain) : Option feed_plan :=
  if 0 ≤ t.Earliest ∧ t.Earliest ≤ t.Latest ∧ t.Latest ≤ 1000000000 then
    Option.bind (Qdu kk_ net t (t.Latest - t.Earliest + 1).toNat) fun rs => Option.bind (Qag kk_ rs ⟨[], 0, false⟩) fun r => if (Qan rs).all (fun l => decide (Qag kk_ l ⟨[], 0, false⟩ = some r)) then some r else none
  else none
theorem QBb {kk_ : Nat} {net : feed_net} {t : FeedTrain} : Le (Qhk kk_ net t) (JG net t) := fun r h => by
  unfold Qhk at h
  unfold JG
  split at h
  · rename_i hc
    rw [if_pos hc]
    cases hl : Qdu kk_ net t (t.Latest - t.Earliest + 1).toNat with
    | none => rw [hl] at h; cases h
    | some rs =>
      rw [hl] at h
      rw [Qrm _ _ hl]
      simp only [Option.bind_some] at h ⊢
      cases hf : Qag kk_ rs ⟨[], 0, false⟩ with
      | none => rw [hf] at h; cases h
      | some r' =>
        rw [hf] at h
        simp only [Option.bind_some] at h
        split at h
        · rename_i ha
          cases h
          have hall : ∀ l : List feed_plan, l.Perm rs → Yr l ⟨[], 0, false⟩ = some r := fun l hp => by
            have := List.all_eq_true.1 ha l (Qro _ _ hp)
            exact Qpp _ _ _ (of_decide_eq_true this)
          have he : ∃ r, ∀ l : List feed_plan, l.Perm rs → Yr l ⟨[], 0, false⟩ = some r := ⟨r, hall⟩
          rw [dif_pos he]
          have h1 := he.choose_spec rs (List.Perm.refl _)
          rw [hall rs (List.Perm.refl _)] at h1
          exact h1.symm
        · cases h
  · cases h
def Qlx (kk_ : Nat) (r20 : (feed_net × Int)) (x205 : (List Int)) : ((List FeedDeparture) × Int) → Option (((List FeedDeparture) × Int) ⊕ ((List FeedDeparture))) := fun (x544, x552) =>
  (bif (decide (x552 < (x205.length : Int))) then (
    (Option.bind (idx x205 x552) fun el597 =>
    (Option.bind (idx r20.1.FeedNet.Trains x552) fun el603 =>
    (Option.bind (app x544 ([(FeedDeparture.mk el603.Name el597)] : List FeedDeparture)) fun zs618 =>
    some (.inl (zs618, w64 (x552 + 1)))
    )
    )
    )
  ) else (
    some (.inr x544)
  ))
theorem Qyw {kk_ : Nat}  {r20 : (feed_net × Int)} {x205 : (List Int)} : ∀ s, Le (Qlx kk_ r20 x205 s) (Qlz r20 x205 s) := fun (x544, x552) =>
  (Le.cond (Le.bind (Le.refl _) fun el597 => (Le.bind (Le.refl _) fun el603 => (Le.bind (Le.refl _) fun zs618 => (Le.refl _)))) (Le.refl _))
def Qly (kk_ : Nat) (p_Listappend : FeedNet) : Option ((List FeedDeparture) × Int × Int) :=
  (Option.bind (Qhj kk_ p_Listappend) fun r20 =>
  (bif (!decide (r20.2 = 0)) then (
    some (([] : (List FeedDeparture)), 0, r20.2)
  ) else (
    (Option.bind (Qok kk_ (feed_net.mk (FeedNet.mk r20.1.FeedNet.Stations r20.1.FeedNet.Sections r20.1.FeedNet.Trains))) fun r70 =>
    (bif (!decide (r70 = 0)) then (
      some (([] : (List FeedDeparture)), 0, r70)
    ) else (
      (Option.bind (α := ((List Int) × Int × Bool)) (
        (bif (decide ((r20.1.FeedNet.Trains.length : Int) = 0)) then (
          (Option.bind (Qda kk_ 4 (feed_net.mk (FeedNet.mk r20.1.FeedNet.Stations r20.1.FeedNet.Sections r20.1.FeedNet.Trains)) [] 0) fun r218 =>
          some (r218.at_, r218.delay, r218.found)
          )
        ) else (
          (Option.bind (idx r20.1.FeedNet.Trains 0) fun el243 =>
          (Option.bind (Qhk kk_ (feed_net.mk (FeedNet.mk r20.1.FeedNet.Stations r20.1.FeedNet.Sections r20.1.FeedNet.Trains)) el243) fun r285 =>
          some (r285.at_, r285.delay, r285.found)
          )
          )
        ))
      ) fun ((x205, x209, x210) : (List Int) × Int × Bool) =>
      (bif (!x210) then (
        some (([] : (List FeedDeparture)), 0, 12)
      ) else (
        (Option.bind (iter (Qlx kk_ r20 x205) kk_ (([] : List FeedDeparture), 0)) fun (x575 : (List FeedDeparture)) =>
        some (x575, x209, 0)
        )
      ))
      )
    ))
    )
  ))
  )
theorem Qyu {kk_ : Nat}  {p_Listappend : FeedNet} : Le (Qly kk_ p_Listappend) (Qcl p_Listappend) :=
  (Le.bind Qpb fun r20 => (Le.cond (Le.refl _) (Le.bind QAm fun r70 => (Le.cond (Le.refl _) (Le.bind (Le.cond (Le.bind (Qhe 4) fun r218 => (Le.refl _)) (Le.bind (Le.refl _) fun el243 => (Le.bind QBb fun r285 => (Le.refl _)))) fun (x205, x209, x210) => (Le.cond (Le.refl _) (Le.bind (Le.iter Qyw) fun x575 => (Le.refl _))))))))
def Qpk (kk_ : Nat) (p_r : Range) : Option Int :=
  (Option.bind (Qdf kk_ p_r.Lo) fun r45 =>
  (Option.bind (Qdf kk_ p_r.Hi) fun r51 =>
  (Option.bind (XE kk_ (decide (p_r.Lo ≤ p_r.Hi)) 9) fun r57 =>
  (Option.bind (YQ kk_ ([r45, r51, r57] : List Int)) fun r70 =>
  some r70
  )
  )
  )
  )
theorem QBf {kk_ : Nat}  {p_r : Range} : Le (Qpk kk_ p_r) (Qht p_r) :=
  (Le.bind Qhr fun r45 => (Le.bind Qhr fun r51 => (Le.bind XJ fun r57 => (Le.bind Y6 fun r70 => (Le.refl _)))))
def Qma (kk_ : Nat) (r46 : (feed_net × (List feed_run) × Int)) (x11084 : Int) : (Int × Int × Int) → Option ((Int × Int × Int) ⊕ (Int × Int)) := fun (x11655, x11662, x11663) =>
  (bif (decide (x11655 < (r46.2.1.length : Int))) then (
    (Option.bind (idx r46.2.1 x11655) fun el11716 =>
    (Option.bind (Qhm kk_ el11716 x11084) fun r11764 =>
    some (.inl (w64 (x11655 + 1), w64 (x11662 + (w64 (1000000 * (if r11764.1.Power < 0 then 0 else r11764.1.Power)))), w64 (x11663 + (w64 (1000000 * (if w64 (0 - r11764.1.Power) < 0 then 0 else w64 (0 - r11764.1.Power)))))))
    )
    )
  ) else (
    some (.inr (x11662, x11663))
  ))
theorem Qyz {kk_ : Nat}  {r46 : (feed_net × (List feed_run) × Int)} {x11084 : Int} : ∀ s, Le (Qma kk_ r46 x11084 s) (Qmf r46 x11084 s) := fun (x11655, x11662, x11663) =>
  (Le.cond (Le.bind (Le.refl _) fun el11716 => (Le.bind Qpe fun r11764 => (Le.refl _))) (Le.refl _))
def Qmb (kk_ : Nat) (el14071 : FeedSection) (p_Listappend : FeedNet) (r14116 : Int) : (Int × Int × Int) → Option ((Int × Int × Int) ⊕ (Int × Int)) := fun (x14579, x14587, x14588) =>
  (bif (decide (x14579 < (p_Listappend.Stations.length : Int))) then (
    (Option.bind (idx p_Listappend.Stations x14579) fun el14645 =>
    (Option.bind (Qgp kk_ el14071 x14579) fun r14692 =>
    (bif el14645.Takes then (
      some (.inl (w64 (x14579 + 1), w64 (x14587 + (w64 (r14692 * (if w64 (0 - r14116) < 0 then 0 else w64 (0 - r14116))))), x14588))
    ) else (
      some (.inl (w64 (x14579 + 1), x14587, w64 (x14588 + (w64 (r14692 * (if w64 (0 - r14116) < 0 then 0 else w64 (0 - r14116)))))))
    ))
    )
    )
  ) else (
    some (.inr (x14587, x14588))
  ))
theorem Qza {kk_ : Nat}  {el14071 : FeedSection} {p_Listappend : FeedNet} {r14116 : Int} : ∀ s, Le (Qmb kk_ el14071 p_Listappend r14116 s) (Qmg el14071 p_Listappend r14116 s) := fun (x14579, x14587, x14588) =>
  (Le.cond (Le.bind (Le.refl _) fun el14645 => (Le.bind Qna fun r14692 => (Le.cond (Le.refl _) (Le.refl _)))) (Le.refl _))
def Qmc (kk_ : Nat) (p_Listappend : FeedNet) (r11850 : (List Int)) : (Int × Int × Int × Int × Int) → Option ((Int × Int × Int × Int × Int) ⊕ (Int × Int × Int × Int)) := fun (x13999, x14006, x14007, x14008, x14009) =>
  (bif (decide (x13999 < (r11850.length : Int))) then (
    (Option.bind (idx r11850 x13999) fun el14064 =>
    (Option.bind (idx p_Listappend.Sections x13999) fun el14071 =>
    (Option.bind (Qgo kk_ el14071 el14064) fun r14116 =>
    (Option.bind (iter (Qmb kk_ el14071 p_Listappend r14116) kk_ (0, x14008, x14009)) fun ((x14619, x14620) : Int × Int) =>
    some (.inl (w64 (x13999 + 1), w64 (x14006 + (w64 (1000 * (if r14116 < 0 then 0 else r14116)))), w64 (x14007 + (w64 ((w64 (1000 * el14071.Loss)) * (if el14064 < w64 (0 - el14064) then w64 (0 - el14064) else el14064)))), x14619, x14620))
    )
    )
    )
    )
  ) else (
    some (.inr (x14006, x14007, x14008, x14009))
  ))
theorem Qzb {kk_ : Nat}  {p_Listappend : FeedNet} {r11850 : (List Int)} : ∀ s, Le (Qmc kk_ p_Listappend r11850 s) (Qmh p_Listappend r11850 s) := fun (x13999, x14006, x14007, x14008, x14009) =>
  (Le.cond (Le.bind (Le.refl _) fun el14064 => (Le.bind (Le.refl _) fun el14071 => (Le.bind Qmy fun r14116 => (Le.bind (Le.iter Qza) fun (x14619, x14620) => (Le.refl _))))) (Le.refl _))
def Qmd (kk_ : Nat) (p_Listappend : FeedNet) (p_2 : Range) (r46 : (feed_net × (List feed_run) × Int)) : (Int × Int × Int × Int × Int × Int × Int) → Option ((Int × Int × Int × Int × Int × Int × Int) ⊕ (Int × Int × Int × Int × Int × Int)) := fun (x11084, x11091, x11092, x11093, x11094, x11095, x11096) =>
  (bif (decide (x11084 ≤ p_2.Hi)) then (
    (Option.bind (iter (Qma kk_ r46 x11084) kk_ (0, x11092, x11093)) fun ((x11690, x11691) : Int × Int) =>
    (Option.bind (Qha kk_ (feed_net.mk (FeedNet.mk r46.1.FeedNet.Stations r46.1.FeedNet.Sections r46.1.FeedNet.Trains)) r46.2.1 x11084) fun r11850 =>
    (Option.bind (iter (Qmc kk_ p_Listappend r11850) kk_ (0, x11091, x11094, x11095, x11096)) fun ((x14036, x14037, x14038, x14039) : Int × Int × Int × Int) =>
    some (.inl (w64 (x11084 + 1), x14036, x11690, x11691, x14037, x14038, x14039))
    )
    )
    )
  ) else (
    some (.inr (x11091, x11092, x11093, x11094, x11095, x11096))
  ))
theorem Qzc {kk_ : Nat}  {p_Listappend : FeedNet} {p_2 : Range} {r46 : (feed_net × (List feed_run) × Int)} : ∀ s, Le (Qmd kk_ p_Listappend p_2 r46 s) (Qmi p_Listappend p_2 r46 s) := fun (x11084, x11091, x11092, x11093, x11094, x11095, x11096) =>
  (Le.cond (Le.bind (Le.iter Qyz) fun (x11690, x11691) => (Le.bind Qol fun r11850 => (Le.bind (Le.iter Qzb) fun (x14036, x14037, x14038, x14039) => (Le.refl _)))) (Le.refl _))
def Qme (kk_ : Nat) (p_Listappend : FeedNet) (p_String : (List FeedDeparture)) (p_2 : Range) : Option (FeedBook × Int) :=
  (Option.bind (Qdb kk_ p_Listappend p_String) fun r46 =>
  (Option.bind (Qpk kk_ p_2) fun r106 =>
  (Option.bind (YQ kk_ ([r46.2.2, r106] : List Int)) fun r118 =>
  (bif (!decide (r118 = 0)) then (
    some ((FeedBook.mk 0 0 0 0 0 0), r118)
  ) else (
    (Option.bind (iter (Qmd kk_ p_Listappend p_2 r46) kk_ (p_2.Lo, 0, 0, 0, 0, 0, 0)) fun ((x11112, x11113, x11114, x11115, x11116, x11117) : Int × Int × Int × Int × Int × Int) =>
    some ((FeedBook.mk x11112 x11113 x11114 x11115 x11116 x11117), 0)
    )
  ))
  )
  )
  )
theorem Qyx {kk_ : Nat}  {p_Listappend : FeedNet} {p_String : (List FeedDeparture)} {p_2 : Range} : Le (Qme kk_ p_Listappend p_String p_2) (Qcm p_Listappend p_String p_2) :=
  (Le.bind Qhh fun r46 => (Le.bind QBf fun r106 => (Le.bind Y6 fun r118 => (Le.cond (Le.refl _) (Le.bind (Le.iter Qzc) fun (x11112, x11113, x11114, x11115, x11116, x11117) => (Le.refl _))))))
def Qnq (kk_ : Nat) (p_String : (List feed_run)) (x15837 : Int) : ((List Int) × (List feed_run) × Int) → Option (((List Int) × (List feed_run) × Int) ⊕ ((List Int) × (List feed_run))) := fun (x19820, x19827, x19834) =>
  (bif (decide (x19834 < (p_String.length : Int))) then (
    (Option.bind (idx p_String x19834) fun el19910 =>
    (Option.bind (Qej .i64 x15837 x19834) fun q19953 =>
    (bif (decide (Z6 .i64 q19953 1 = 1)) then (
      (Option.bind (app x19820 ([x19834] : List Int)) fun zs20709 =>
      (Option.bind (app x19827 ([el19910] : List feed_run)) fun zs20750 =>
      some (.inl (zs20709, zs20750, w64 (x19834 + 1)))
      )
      )
    ) else (
      some (.inl (x19820, x19827, w64 (x19834 + 1)))
    ))
    )
    )
  ) else (
    some (.inr (x19820, x19827))
  ))
theorem QAe {kk_ : Nat}  {p_String : (List feed_run)} {x15837 : Int} : ∀ s, Le (Qnq kk_ p_String x15837 s) (Qnt p_String x15837 s) := fun (x19820, x19827, x19834) =>
  (Le.cond (Le.bind (Le.refl _) fun el19910 => (Le.bind (Le.refl _) fun q19953 => (Le.cond (Le.bind (Le.refl _) fun zs20709 => (Le.bind (Le.refl _) fun zs20750 => (Le.refl _))) (Le.refl _)))) (Le.refl _))
def Qnr (kk_ : Nat) (p_Listappend : feed_net) (p_String : (List feed_run)) : ((List Int) × Bool × Int) → Option (((List Int) × Bool × Int) ⊕ ((List Int) × Bool)) := fun (x15830, x15835, x15837) =>
  (Option.bind (Qei .i64 1 (p_String.length : Int)) fun q15873 =>
  (bif (decide (x15837 < q15873)) then (
    (Option.bind (iter (Qnq kk_ p_String x15837) kk_ (([] : List Int), ([] : List feed_run), 0)) fun ((x19875, x19882) : (List Int) × (List feed_run)) =>
    (Option.bind (J6 kk_ (x19875.length : Int) (x15830.length : Int)) fun r21180 =>
    (Option.bind (Qja kk_ x19875 x15830) fun r21185 =>
    (Option.bind (Qgc kk_ ([r21180, r21185] : List Int)) fun r21198 =>
    (Option.bind (Qgx kk_ p_Listappend x19882) fun r21205 =>
    (bif (r21205.2 && ((!x15835) || (decide (r21198 < 0)))) then (
      some (.inl (x19875, true, w64 (x15837 + 1)))
    ) else (
      some (.inl (x15830, x15835, w64 (x15837 + 1)))
    ))
    )
    )
    )
    )
    )
  ) else (
    some (.inr (x15830, x15835))
  ))
  )
theorem QAf {kk_ : Nat}  {p_Listappend : feed_net} {p_String : (List feed_run)} : ∀ s, Le (Qnr kk_ p_Listappend p_String s) (Qnu p_Listappend p_String s) := fun (x15830, x15835, x15837) =>
  (Le.bind (Le.refl _) fun q15873 => (Le.cond (Le.bind (Le.iter QAe) fun (x19875, x19882) => (Le.bind Qcf fun r21180 => (Le.bind Qsl fun r21185 => (Le.bind Qlb fun r21198 => (Le.bind Qod fun r21205 => (Le.cond (Le.refl _) (Le.refl _))))))) (Le.refl _)))
def Qns (kk_ : Nat) (p_Listappend : feed_net) (p_String : (List feed_run)) : Option ((List Int) × Bool) :=
  (Option.bind (iter (Qnr kk_ p_Listappend p_String) kk_ (([] : List Int), false, 1)) fun ((x15856, x15861) : (List Int) × Bool) =>
  some (x15856, x15861)
  )
theorem QAc {kk_ : Nat}  {p_Listappend : feed_net} {p_String : (List feed_run)} : Le (Qns kk_ p_Listappend p_String) (Qgu p_Listappend p_String) :=
  (Le.bind (Le.iter QAf) fun (x15856, x15861) => (Le.refl _))
def Qms (kk_ : Nat) (p_n : FeedNet) (p_l : (List FeedDeparture)) : Option ((List Int) × Int) :=
  (Option.bind (Qdb kk_ p_n p_l) fun r21 =>
  (bif (!decide (r21.2.2 = 0)) then (
    some (([] : (List Int)), r21.2.2)
  ) else (
    (Option.bind (Qns kk_ (feed_net.mk (FeedNet.mk r21.1.FeedNet.Stations r21.1.FeedNet.Sections r21.1.FeedNet.Trains)) r21.2.1) fun r77 =>
    (Option.bind (XE kk_ r77.2 12) fun r86 =>
    some (r77.1, r86)
    )
    )
  ))
  )
theorem Qzk {kk_ : Nat}  {p_n : FeedNet} {p_l : (List FeedDeparture)} : Le (Qms kk_ p_n p_l) (Qgm p_n p_l) :=
  (Le.bind Qhh fun r21 => (Le.cond (Le.refl _) (Le.bind QAc fun r77 => (Le.bind XJ fun r86 => (Le.refl _)))))
def Qng (kk_ : Nat) (p_n : Int) : Option Bool :=
  (Option.bind (Zb kk_ p_n 1 500) fun r3 =>
  some (!r3)
  )
theorem Qzu {kk_ : Nat}  {p_n : Int} : Le (Qng kk_ p_n) (Qct p_n) :=
  (Le.bind Zs fun r3 => (Le.refl _))
def Qtd (kk_ : Nat) (p_s : (List Int)) : (Int) → Option ((Int) ⊕ (Int ⊕ (Unit))) := fun x91 =>
  (bif (decide (x91 < (p_s.length : Int))) then (
    (Option.bind (idx p_s x91) fun el109 =>
    (Option.bind (Qng kk_ el109) fun r115 =>
    (bif r115 then (
      some (.inr (.inl x91))
    ) else (
      some (.inl (w64 (x91 + 1)))
    ))
    )
    )
  ) else (
    some (.inr (.inr ()))
  ))
theorem QGo {kk_ : Nat}  {p_s : (List Int)} : ∀ s, Le (Qtd kk_ p_s s) (Qen p_s s) := fun x91 =>
  (Le.cond (Le.bind (Le.refl _) fun el109 => (Le.bind Qzu fun r115 => (Le.cond (Le.refl _) (Le.refl _)))) (Le.refl _))
def Qte (kk_ : Nat) (p_s : (List Int)) : Option Int :=
  (Option.bind (iter (Qtd kk_ p_s) kk_ 0) fun o95 => jn0 o95 fun (_ : Unit) =>
  some (-1)
  )
theorem QGm {kk_ : Nat}  {p_s : (List Int)} : Le (Qte kk_ p_s) (Qeo p_s) :=
  (Le.bind (Le.iter QGo) fun o95 => (Le.jn0 fun _ => (Le.refl _)))
def Qsr (kk_ : Nat) (p_s : (List Int)) : Option Bool :=
  (Option.bind (Qte kk_ p_s) fun r4 =>
  some (decide (0 ≤ r4))
  )
theorem QFw {kk_ : Nat}  {p_s : (List Int)} : Le (Qsr kk_ p_s) (Qat p_s) :=
  (Le.bind QGm fun r4 => (Le.refl _))
def Qnh (kk_ : Nat) (p_n : Int) : Option Bool :=
  (Option.bind (Qhq kk_ p_n 20000) fun r3 =>
  some (!r3)
  )
theorem Qzw {kk_ : Nat}  {p_n : Int} : Le (Qnh kk_ p_n) (Qcu p_n) :=
  (Le.bind Qpj fun r3 => (Le.refl _))
def Qtf (kk_ : Nat) (p_s : (List Int)) : (Int) → Option ((Int) ⊕ (Int ⊕ (Unit))) := fun x91 =>
  (bif (decide (x91 < (p_s.length : Int))) then (
    (Option.bind (idx p_s x91) fun el109 =>
    (Option.bind (Qnh kk_ el109) fun r115 =>
    (bif r115 then (
      some (.inr (.inl x91))
    ) else (
      some (.inl (w64 (x91 + 1)))
    ))
    )
    )
  ) else (
    some (.inr (.inr ()))
  ))
theorem QGr {kk_ : Nat}  {p_s : (List Int)} : ∀ s, Le (Qtf kk_ p_s s) (Qep p_s s) := fun x91 =>
  (Le.cond (Le.bind (Le.refl _) fun el109 => (Le.bind Qzw fun r115 => (Le.cond (Le.refl _) (Le.refl _)))) (Le.refl _))
def Qtg (kk_ : Nat) (p_s : (List Int)) : Option Int :=
  (Option.bind (iter (Qtf kk_ p_s) kk_ 0) fun o95 => jn0 o95 fun (_ : Unit) =>
  some (-1)
  )
theorem QGp {kk_ : Nat}  {p_s : (List Int)} : Le (Qtg kk_ p_s) (Qeq p_s) :=
  (Le.bind (Le.iter QGr) fun o95 => (Le.jn0 fun _ => (Le.refl _)))
def Qss (kk_ : Nat) (p_s : (List Int)) : Option Bool :=
  (Option.bind (Qtg kk_ p_s) fun r4 =>
  some (decide (0 ≤ r4))
  )
theorem QFy {kk_ : Nat}  {p_s : (List Int)} : Le (Qss kk_ p_s) (Qau p_s) :=
  (Le.bind QGp fun r4 => (Le.refl _))
def Qnj (kk_ : Nat) (p_l : FeedLadder) : Option Int :=
  (Option.bind (Qsr kk_ p_l.Ohms) fun r17 =>
  (Option.bind (Qss kk_ p_l.Loads) fun r24 =>
  (Option.bind (XE kk_ ((decide (0 < (p_l.Loads.length : Int))) && (decide ((p_l.Ohms.length : Int) = w64 ((p_l.Loads.length : Int) + 1)))) 10) fun r73 =>
  (Option.bind (XE kk_ (decide ((p_l.Loads.length : Int) ≤ 8)) 8) fun r80 =>
  (Option.bind (XE kk_ ((!r17) && (!r24)) 2) fun r87 =>
  (Option.bind (YQ kk_ ([r73, r80, r87] : List Int)) fun r102 =>
  some r102
  )
  )
  )
  )
  )
  )
theorem Qzy {kk_ : Nat}  {p_l : FeedLadder} : Le (Qnj kk_ p_l) (JE p_l) :=
  (Le.bind QFw fun r17 => (Le.bind QFy fun r24 => (Le.bind XJ fun r73 => (Le.bind XJ fun r80 => (Le.bind XJ fun r87 => (Le.bind Y6 fun r102 => (Le.refl _)))))))
def Qmv (kk_ : Nat)  : (Int × Int) → Option ((Int × Int) ⊕ (Int)) := fun (x51, x53) =>
  (bif (!decide (x53 = 0)) then (
    (Option.bind (rem x51 x53) fun q75 =>
    some (.inl (x53, q75))
    )
  ) else (
    some (.inr x51)
  ))
theorem Qzp {kk_ : Nat}   : ∀ s, Le (Qmv kk_  s) (Qmx  s) := fun (x51, x53) =>
  (Le.cond (Le.bind (Le.refl _) fun q75 => (Le.refl _)) (Le.refl _))
def Qmw (kk_ : Nat) (p_a : Int) (p_b : Int) : Option Int :=
  (Option.bind (iter (Qmv kk_) kk_ (p_a, p_b)) fun (x57 : Int) =>
  some (if x57 < w64 (0 - x57) then w64 (0 - x57) else x57)
  )
theorem Qzo {kk_ : Nat}  {p_a : Int} {p_b : Int} : Le (Qmw kk_ p_a p_b) (Zr p_a p_b) :=
  (Le.bind (Le.iter Qzp) fun x57 => (Le.refl _))
def Qnl (kk_ : Nat) (p_Listappend : FeedLadder) : ((List Int) × Int × Int × Int × Int) → Option (((List Int) × Int × Int × Int × Int) ⊕ ((List Int) × Int × Int)) := fun (x227, x232, x234, x236, x241) =>
  (bif (decide (x241 < (p_Listappend.Ohms.length : Int))) then (
    (Option.bind (idx p_Listappend.Ohms x241) fun el278 =>
    (Option.bind (app x227 ([x236] : List Int)) fun zs291 =>
    (bif (decide (x241 < (p_Listappend.Loads.length : Int))) then (
      (Option.bind (idx p_Listappend.Loads x241) fun el311 =>
      some (.inl (zs291, w64 (x232 + el278), w64 (x234 + (w64 (el278 * x236))), w64 (x236 + el311), w64 (x241 + 1)))
      )
    ) else (
      some (.inl (zs291, w64 (x232 + el278), w64 (x234 + (w64 (el278 * x236))), x236, w64 (x241 + 1)))
    ))
    )
    )
  ) else (
    some (.inr (x227, x232, x234))
  ))
theorem QAa {kk_ : Nat}  {p_Listappend : FeedLadder} : ∀ s, Le (Qnl kk_ p_Listappend s) (Qab p_Listappend s) := fun (x227, x232, x234, x236, x241) =>
  (Le.cond (Le.bind (Le.refl _) fun el278 => (Le.bind (Le.refl _) fun zs291 => (Le.cond (Le.bind (Le.refl _) fun el311 => (Le.refl _)) (Le.refl _)))) (Le.refl _))
def Qnm (kk_ : Nat) (x256 : (List Int)) (x261 : Int) (x263 : Int) : ((List Frac) × Int) → Option (((List Frac) × Int) ⊕ ((List Frac))) := fun (x598, x607) =>
  (bif (decide (x607 < (x256.length : Int))) then (
    (Option.bind (idx x256 x607) fun el636 =>
    (Option.bind (Qmw kk_ (w64 (x263 - (w64 (el636 * x261)))) x261) fun r644 =>
    (Option.bind (quo (w64 (x263 - (w64 (el636 * x261)))) r644) fun q678 =>
    (Option.bind (quo x261 r644) fun q680 =>
    (Option.bind (app x598 ([(Frac.mk q678 q680)] : List Frac)) fun zs689 =>
    some (.inl (zs689, w64 (x607 + 1)))
    )
    )
    )
    )
    )
  ) else (
    some (.inr x598)
  ))
theorem QAb {kk_ : Nat}  {x256 : (List Int)} {x261 : Int} {x263 : Int} : ∀ s, Le (Qnm kk_ x256 x261 x263 s) (Qac x256 x261 x263 s) := fun (x598, x607) =>
  (Le.cond (Le.bind (Le.refl _) fun el636 => (Le.bind Qzo fun r644 => (Le.bind (Le.refl _) fun q678 => (Le.bind (Le.refl _) fun q680 => (Le.bind (Le.refl _) fun zs689 => (Le.refl _)))))) (Le.refl _))
def Qnn (kk_ : Nat) (p_Listappend : FeedLadder) : Option (List Frac) :=
  (Option.bind (iter (Qnl kk_ p_Listappend) kk_ (([] : List Int), 0, 0, 0, 0)) fun ((x256, x261, x263) : (List Int) × Int × Int) =>
  (Option.bind (iter (Qnm kk_ x256 x261 x263) kk_ (([] : List Frac), 0)) fun (x618 : (List Frac)) =>
  some x618
  )
  )
theorem Qzz {kk_ : Nat}  {p_Listappend : FeedLadder} : Le (Qnn kk_ p_Listappend) (JF p_Listappend) :=
  (Le.bind (Le.iter QAa) fun (x256, x261, x263) => (Le.bind (Le.iter QAb) fun x618 => (Le.refl _)))
def Qmr (kk_ : Nat) (p_l : FeedLadder) : Option ((List Frac) × Int) :=
  (Option.bind (Qnj kk_ p_l) fun r18 =>
  (bif (!decide (r18 = 0)) then (
    some (([] : (List Frac)), r18)
  ) else (
    (Option.bind (Qnn kk_ p_l) fun r28 =>
    some (r28, 0)
    )
  ))
  )
theorem Qzj {kk_ : Nat}  {p_l : FeedLadder} : Le (Qmr kk_ p_l) (JC p_l) :=
  (Le.bind Qzy fun r18 => (Le.cond (Le.refl _) (Le.bind Qzz fun r28 => (Le.refl _))))
def Qkr (kk_ : Nat) (p_a : (List Int)) (p_b : (List Int)) : (Int) → Option ((Int) ⊕ (Bool ⊕ (Unit))) := fun x141 =>
  (bif (decide (x141 < (p_a.length : Int))) then (
    (Option.bind (idx p_a x141) fun el173 =>
    (Option.bind (idx p_b x141) fun el179 =>
    (bif (!decide (el173 = el179)) then (
      some (.inr (.inl false))
    ) else (
      some (.inl (w64 (x141 + 1)))
    ))
    )
    )
  ) else (
    some (.inr (.inr ()))
  ))
theorem Qvs {kk_ : Nat}  {p_a : (List Int)} {p_b : (List Int)} : ∀ s, Le (Qkr kk_ p_a p_b s) (Qks p_a p_b s) := fun x141 =>
  (Le.cond (Le.bind (Le.refl _) fun el173 => (Le.bind (Le.refl _) fun el179 => (Le.cond (Le.refl _) (Le.refl _)))) (Le.refl _))
def Qft (kk_ : Nat) (p_a : (List Int)) (p_b : (List Int)) : Option Bool :=
  (bif (!decide ((p_a.length : Int) = (p_b.length : Int))) then (
    some false
  ) else (
    (Option.bind (iter (Qkr kk_ p_a p_b) kk_ 0) fun o145 => jn0 o145 fun (_ : Unit) =>
    some true
    )
  ))
theorem Qkp {kk_ : Nat}  {p_a : (List Int)} {p_b : (List Int)} : Le (Qft kk_ p_a p_b) (Qbs p_a p_b) :=
  (Le.cond (Le.refl _) (Le.bind (Le.iter Qvs) fun o145 => (Le.jn0 fun _ => (Le.refl _))))
def Qrt (kk_ : Nat) (p_a : (List FeedDeparture)) (p_b : (List FeedDeparture)) : (Int) → Option ((Int) ⊕ (Bool ⊕ (Unit))) := fun x141 =>
  (bif (decide (x141 < (p_a.length : Int))) then (
    (Option.bind (idx p_a x141) fun el173 =>
    (Option.bind (idx p_b x141) fun el179 =>
    (bif (!(decide (el173 = el179))) then (
      some (.inr (.inl false))
    ) else (
      some (.inl (w64 (x141 + 1)))
    ))
    )
    )
  ) else (
    some (.inr (.inr ()))
  ))
theorem QFd {kk_ : Nat}  {p_a : (List FeedDeparture)} {p_b : (List FeedDeparture)} : ∀ s, Le (Qrt kk_ p_a p_b s) (Qrv p_a p_b s) := fun x141 =>
  (Le.cond (Le.bind (Le.refl _) fun el173 => (Le.bind (Le.refl _) fun el179 => (Le.cond (Le.refl _) (Le.refl _)))) (Le.refl _))
def Qru (kk_ : Nat) (p_a : (List FeedDeparture)) (p_b : (List FeedDeparture)) : Option Bool :=
  (bif (!decide ((p_a.length : Int) = (p_b.length : Int))) then (
    some false
  ) else (
    (Option.bind (iter (Qrt kk_ p_a p_b) kk_ 0) fun o145 => jn0 o145 fun (_ : Unit) =>
    some true
    )
  ))
theorem QFb {kk_ : Nat}  {p_a : (List FeedDeparture)} {p_b : (List FeedDeparture)} : Le (Qru kk_ p_a p_b) (Qee p_a p_b) :=
  (Le.cond (Le.refl _) (Le.bind (Le.iter QFd) fun o145 => (Le.jn0 fun _ => (Le.refl _))))
def Qbv (kk_ : Nat) (p_n : Int) : Option Frac :=
  some (Frac.mk p_n 1)
theorem Qfv {kk_ : Nat}  {p_n : Int} : Le (Qbv kk_ p_n) (J3 p_n) :=
  (Le.refl _)
def Qkm (kk_ : Nat) (p_a : (List Frac)) (p_b : (List Frac)) : (Int) → Option ((Int) ⊕ (Bool ⊕ (Unit))) := fun x141 =>
  (bif (decide (x141 < (p_a.length : Int))) then (
    (Option.bind (idx p_a x141) fun el173 =>
    (Option.bind (idx p_b x141) fun el179 =>
    (bif (!(decide (el173 = el179))) then (
      some (.inr (.inl false))
    ) else (
      some (.inl (w64 (x141 + 1)))
    ))
    )
    )
  ) else (
    some (.inr (.inr ()))
  ))
theorem Qvr {kk_ : Nat}  {p_a : (List Frac)} {p_b : (List Frac)} : ∀ s, Le (Qkm kk_ p_a p_b s) (Qbq p_a p_b s) := fun x141 =>
  (Le.cond (Le.bind (Le.refl _) fun el173 => (Le.bind (Le.refl _) fun el179 => (Le.cond (Le.refl _) (Le.refl _)))) (Le.refl _))
def Qkn (kk_ : Nat) (p_a : (List Frac)) (p_b : (List Frac)) : Option Bool :=
  (bif (!decide ((p_a.length : Int) = (p_b.length : Int))) then (
    some false
  ) else (
    (Option.bind (iter (Qkm kk_ p_a p_b) kk_ 0) fun o145 => jn0 o145 fun (_ : Unit) =>
    some true
    )
  ))
theorem Qvq {kk_ : Nat}  {p_a : (List Frac)} {p_b : (List Frac)} : Le (Qkn kk_ p_a p_b) (Z7 p_a p_b) :=
  (Le.cond (Le.refl _) (Le.bind (Le.iter Qvr) fun o145 => (Le.jn0 fun _ => (Le.refl _))))
def Qqb (kk_ : Nat)  : Option Bool :=
  (Option.bind (Qai kk_ 3000) fun r10 =>
  (Option.bind (Qmt kk_ r10 ([(FeedDeparture.mk (ByteArray.mk #[120]) 0)] : List FeedDeparture) 0) fun r26 =>
  (Option.bind (Qai kk_ 2900) fun r36 =>
  (Option.bind (Qly kk_ r36) fun r54 =>
  (Option.bind (Qai kk_ 3000) fun r66 =>
  (Option.bind (Qme kk_ r66 ([(FeedDeparture.mk (ByteArray.mk #[120]) 0)] : List FeedDeparture) (Range.mk 0 1)) fun r86 =>
  (Option.bind (Qai kk_ 2900) fun r135 =>
  (Option.bind (Qms kk_ r135 ([(FeedDeparture.mk (ByteArray.mk #[120]) 0), (FeedDeparture.mk (ByteArray.mk #[121]) 0)] : List FeedDeparture)) fun r158 =>
  (Option.bind (Qmr kk_ (FeedLadder.mk ([1, 2, 3] : List Int) ([6, 12] : List Int))) fun r188 =>
  (Option.bind (bif (decide (r26.2 = 0)) then Qft kk_ r26.1 ([1320000000, 880000000] : List Int) else some default) fun r215 =>
  (Option.bind (bif ((((decide (r26.2 = 0)) && r215) && (decide (r54.2.2 = 0))) && (decide (r54.2.1 = 1))) then Qru kk_ r54.1 ([(FeedDeparture.mk (ByteArray.mk #[120]) 0), (FeedDeparture.mk (ByteArray.mk #[121]) 1)] : List FeedDeparture) else some default) fun r242 =>
  (Option.bind (bif ((((((((decide (r26.2 = 0)) && r215) && (decide (r54.2.2 = 0))) && (decide (r54.2.1 = 1))) && r242) && (decide (r86.2 = 0))) && (decide ((FeedBook.mk r86.1.Fed r86.1.Used r86.1.Braked r86.1.Lost r86.1.Back r86.1.Burned) = (FeedBook.mk 2200000000 2000000000 500000000 200000000 500000000 0)))) && (decide (r158.2 = 0))) then Qft kk_ r158.1 ([0, 1] : List Int) else some default) fun r271 =>
  (Option.bind (bif ((((((((((decide (r26.2 = 0)) && r215) && (decide (r54.2.2 = 0))) && (decide (r54.2.1 = 1))) && r242) && (decide (r86.2 = 0))) && (decide ((FeedBook.mk r86.1.Fed r86.1.Used r86.1.Braked r86.1.Lost r86.1.Back r86.1.Burned) = (FeedBook.mk 2200000000 2000000000 500000000 200000000 500000000 0)))) && (decide (r158.2 = 0))) && r271) && (decide (r188.2 = 0))) then Qbv kk_ 11 else some default) fun r285 =>
  (Option.bind (bif ((((((((((decide (r26.2 = 0)) && r215) && (decide (r54.2.2 = 0))) && (decide (r54.2.1 = 1))) && r242) && (decide (r86.2 = 0))) && (decide ((FeedBook.mk r86.1.Fed r86.1.Used r86.1.Braked r86.1.Lost r86.1.Back r86.1.Burned) = (FeedBook.mk 2200000000 2000000000 500000000 200000000 500000000 0)))) && (decide (r158.2 = 0))) && r271) && (decide (r188.2 = 0))) then Qbv kk_ 5 else some default) fun r302 =>
  (Option.bind (bif ((((((((((decide (r26.2 = 0)) && r215) && (decide (r54.2.2 = 0))) && (decide (r54.2.1 = 1))) && r242) && (decide (r86.2 = 0))) && (decide ((FeedBook.mk r86.1.Fed r86.1.Used r86.1.Braked r86.1.Lost r86.1.Back r86.1.Burned) = (FeedBook.mk 2200000000 2000000000 500000000 200000000 500000000 0)))) && (decide (r158.2 = 0))) && r271) && (decide (r188.2 = 0))) then Qbv kk_ (-7) else some default) fun r319 =>
  (Option.bind (bif ((((((((((decide (r26.2 = 0)) && r215) && (decide (r54.2.2 = 0))) && (decide (r54.2.1 = 1))) && r242) && (decide (r86.2 = 0))) && (decide ((FeedBook.mk r86.1.Fed r86.1.Used r86.1.Braked r86.1.Lost r86.1.Back r86.1.Burned) = (FeedBook.mk 2200000000 2000000000 500000000 200000000 500000000 0)))) && (decide (r158.2 = 0))) && r271) && (decide (r188.2 = 0))) then Qkn kk_ r188.1 ([r285, r302, r319] : List Frac) else some default) fun r353 =>
  some (((((((((((decide (r26.2 = 0)) && r215) && (decide (r54.2.2 = 0))) && (decide (r54.2.1 = 1))) && r242) && (decide (r86.2 = 0))) && (decide ((FeedBook.mk r86.1.Fed r86.1.Used r86.1.Braked r86.1.Lost r86.1.Back r86.1.Burned) = (FeedBook.mk 2200000000 2000000000 500000000 200000000 500000000 0)))) && (decide (r158.2 = 0))) && r271) && (decide (r188.2 = 0))) && r353)
  )
  )
  )
  )
  )
  )
  )
  )
  )
  )
  )
  )
  )
  )
  )
  )
theorem QBv {kk_ : Nat}   : Le (Qqb kk_ ) (Qdm ) :=
  (Le.bind Qdk fun r10 => (Le.bind Qzm fun r26 => (Le.bind Qdk fun r36 => (Le.bind Qyu fun r54 => (Le.bind Qdk fun r66 => (Le.bind Qyx fun r86 => (Le.bind Qdk fun r135 => (Le.bind Qzk fun r158 => (Le.bind Qzj fun r188 => (Le.bind (Le.cond Qkp (Le.refl _)) fun r215 => (Le.bind (Le.cond QFb (Le.refl _)) fun r242 => (Le.bind (Le.cond Qkp (Le.refl _)) fun r271 => (Le.bind (Le.cond Qfv (Le.refl _)) fun r285 => (Le.bind (Le.cond Qfv (Le.refl _)) fun r302 => (Le.bind (Le.cond Qfv (Le.refl _)) fun r319 => (Le.bind (Le.cond Qvq (Le.refl _)) fun r353 => (Le.refl _)))))))))))))))))
end Go.Gw
