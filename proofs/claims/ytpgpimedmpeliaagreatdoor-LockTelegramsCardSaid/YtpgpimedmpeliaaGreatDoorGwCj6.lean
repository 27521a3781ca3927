/- Goroutines: comparing structs is tame. No condition. -/
import Derived.Test.YtpgpimedmpeliaaGreatDoorGwCj5
set_option linter.unusedVariables false
set_option linter.unusedSimpArgs false
set_option linter.unusedSectionVars false
set_option linter.unusedVariables false
namespace Go.Gw
open Go Go.Conc
section
variable {P:Program}
theorem Tame.bindP {α β:Type} {m:Sem α} {f:α→Sem β} (φ:α→Prop) (h:Tame P m) (hφ:∀ w es r w',(m.runT P w es).1=.ok r w'→φ r) (hf:∀ a,φ a→Tame P (f a)):Tame P (m >>= f):=by
  classical
  refine .same _ (m >>= fun a => if φ a then f a else Sem.halt (.stuck "")) (fun w es => ?_) (.bnd h fun a => ?_)
  · rw [show (m >>= f) = m.bind f from rfl, Go.Sem.runT_bind', show (m >>= fun a => if φ a then f a else Sem.halt (.stuck "")) = m.bind _ from rfl, Go.Sem.runT_bind']
    have:=hφ w es
    generalize hx:m.runT P w es=x at this ⊢
    obtain ⟨x1,x2⟩:=x
    cases x1 with
    | ok a w1=>simp only [if_pos (this a w1 rfl)]
    | halt h w1=>rfl
  · split
    · exact hf _ ‹_›
    · exact .halt _
def J9:Value→Bool
  | .bool _ | .int _ _ | .string _ | .float _ _=>true
  | _=>false
def NP (v:Value):Prop:=J9 v=true∨∃ cs,v=.agg cs∧∀ c∈cs.toList,J9 c=true
theorem NP.part {t:TypeId} {cs:Array Value} {off:Nat} (h:∀ c∈cs.toList,J9 c=true):∀ w es r w',((part t cs off).runT P w es).1=.ok r w'→NP r:=by
  intro w es r w' hr
  rw [Sem.runT_fst] at hr
  unfold Go.part at hr
  simp only [Sem.run_bind] at hr
  cases h1:(isAgg t).run P w with
  | halt x w1=>simp [h1,Result.andThen] at hr
  | ok b w1 =>
    simp only [h1,Result.andThen] at hr
    cases b with
    | true =>
      simp only [if_true,Sem.run_bind] at hr
      cases h2:(sizeOf t).run P w1 with
      | halt x w2=>simp [h2,Result.andThen] at hr
      | ok k w2 =>
        simp only [h2,Result.andThen,Sem.run_pure] at hr
        cases hr
        refine .inr ⟨_,rfl,fun c hc=>h c ?_⟩
        simp only [Array.toList_extract,List.extract_eq_take_drop] at hc
        exact List.mem_of_mem_drop (List.mem_of_mem_take hc)
    | false =>
      simp only [Bool.false_eq_true,if_false] at hr
      split at hr
      · rename_i v hv
        simp only [Sem.run_pure] at hr
        cases hr
        exact .inl (h _ (Array.mem_toList_iff.2 (Array.mem_of_getElem? hv)))
      · simp [stuck] at hr
theorem Qan (t:TypeId) (cs:Array Value) (off:Nat):Tame P (part t cs off):=by
  unfold part
  refine .bnd (Qss _) fun b=>YH (.bnd (YT _) fun _=>.pure _) ?_
  split<;>first | exact .pure _ | exact XW _
theorem Qkv (t:TypeId) (x y:Value):Tame P (Instr.index t x y):=by
  unfold Instr.index
  refine .bnd (Qgr _) fun _=>.bnd (Zv _) fun _=>?_
  split
  · exact YH (.bnd (YT _) fun _=>Qan _ _ _) (Qgs _ _ _ _)
  · split<;>first | exact .pure _ | exact Qgs _ _ _ _
  · exact XW _
theorem Qku {α β:Type} (f:α→β→Sem (ForInStep β)) (hf:∀ a b,Tame P (f a b)):∀ (xs:List α) (b:β),Tame P (forIn xs b f)
  | [],b=>by rw [List.forIn_nil];exact .pure _
  | x::xs,b=>by
    rw [List.forIn_cons]
    refine .bnd (hf x b) fun r=>?_
    split
    · exact .pure _
    · exact Qku f hf xs _
theorem Qgt:∀ (d:Nat) (t:TypeId) (x y:Value),NP x→Tame P (Op.equalIn d t x y)
  | 0,_,_,_,_=>ZR _
  | d+1,t,x,y,hx=>by
    have ih:∀ (t t':TypeId) (cs ds:Array Value) (o o':Nat),(∀ c∈cs.toList,J9 c=true)→Tame P (part t cs o >>= fun a=>part t' ds o' >>= fun b=>Op.equalIn d t a b):=fun t t' cs ds o o' hc =>
      .bindP NP (Qan _ _ _) (NP.part hc) fun a ha=>.bnd (Qan _ _ _) fun b=>Qgt d _ _ _ ha
    unfold Op.equalIn
    refine .bnd (Zv _) fun D=>?_
    rcases hx with h | ⟨cs,rfl,hc⟩
    · split <;> first
        | exact .pure _
        | exact XW _
        | exact ZR _
        | exact YH (.pure _) (XW _)
        | (exfalso;cases h)
    · split
      all_goals first
        | contradiction
        | exact XW _
        | exact ZR _
        | skip
      · rename_i heq
        obtain rfl:=Value.agg.inj heq
        refine .bnd Qgv fun p=>?_
        have body : ∀ (ys : Array Value) (fs : Array Field), Tame P (forIn fs ((none : Option Bool), ()) fun f __s => (if f.name ≠ "_" then (part f.type cs f.offset >>= fun a => part f.type ys f.offset >>= fun b => Op.equalIn d f.type a b >>= fun r => if (!r) = true then (pure (ForInStep.done (some false, ())) : Sem _) else pure (ForInStep.yield (none, ()))) else pure (ForInStep.yield (none, ())))) := fun ys fs => by
          rw [← Array.forIn_toList]
          refine Qku _ (fun f b=>YH ?_ (.pure _)) _ _
          refine .bindP NP (Qan _ _ _) (NP.part hc) fun a ha=>.bnd (Qan _ _ _) fun b=>.bnd (Qgt d _ _ _ ha) fun r=>YH (.pure _) (.pure _)
        refine YH (.bnd (ZR _) fun _=>?_) ?_
        all_goals
          refine .bnd (body _ _) fun r=>?_
          dsimp only
          split<;>exact .pure _
      · rename_i heq
        obtain rfl:=Value.agg.inj heq
        refine .bnd (YT _) fun n=>.bnd ?_ fun r=>?_
        · rw [Std.Legacy.Range.forIn_eq_forIn_range']
          refine Qku _ (fun f b=>?_) _ _
          exact .bindP NP (Qan _ _ _) (NP.part hc) fun a ha=>.bnd (Qan _ _ _) fun b=>.bnd (Qgt d _ _ _ ha) fun r=>YH (.pure _) (.pure _)
        · dsimp only
          split<;>exact .pure _
end
end Go.Gw
