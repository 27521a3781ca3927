/- The data of the program. No condition. -/
import Derived.Test.YtekkhkapnapelaaGwMem
set_option linter.unusedVariables false
set_option linter.unusedSimpArgs false
set_option linter.unusedSectionVars false
namespace Go.Gw
open Go
structure Arr3_Int where mk ::
  e0 : Int
  e1 : Int
  e2 : Int
  deriving DecidableEq,Inhabited
instance : Rep Arr3_Int:=⟨3,fun _ _ cs d=>cs = [(.int .i64 d.e0),(.int .i64 d.e1),(.int .i64 d.e2)],fun h=>by subst h; rfl,fun h=>by subst h; exact (Qk rfl (Qk rfl (Qk rfl QI))),fun _ h=>h⟩
structure Arr3_Nat where mk ::
  e0 : Nat
  e1 : Nat
  e2 : Nat
  deriving DecidableEq,Inhabited
instance : Rep Arr3_Nat:=⟨3,fun _ _ cs d=>cs = [(.float .f32 d.e0),(.float .f32 d.e1),(.float .f32 d.e2)],fun h=>by subst h; rfl,fun h=>by subst h; exact (Qk rfl (Qk rfl (Qk rfl QI))),fun _ h=>h⟩
structure LevitateSensors where mk ::
  Values : Arr3_Nat
  Slack : Int
  deriving DecidableEq,Inhabited
instance : Rep LevitateSensors:=⟨4,fun _ _ cs d=>cs = [(.float .f32 d.Values.e0),(.float .f32 d.Values.e1),(.float .f32 d.Values.e2),(.int .i64 d.Slack)],fun h=>by subst h; rfl,fun h=>by subst h; exact (Qk rfl (Qk rfl (Qk rfl (Qk rfl QI)))),fun _ h=>h⟩
structure LevitatePlant where mk ::
  Den : Int
  Maps : (List (List (List Int)))
  Noise : (List Int)
  deriving DecidableEq,Inhabited
instance : Rep LevitatePlant:=⟨3,fun L w cs d=>∃ v28 v30,SlRd L w v28 d.Maps ∧ SlRd L w v30 d.Noise ∧ cs = [(.int .i64 d.Den),v28,v30],fun ⟨v28,v30,h29,h31,h⟩=>by subst h; rfl,fun ⟨v28,v30,h29,h31,h⟩ u hu=>by subst h; exact (Qk rfl (Qk h29.one1 (Qk h31.one1 QI))) u hu,fun s ⟨v28,v30,h29,h31,h⟩=>⟨v28,v30,h29.step s,h31.step s,h⟩⟩
structure LevitateSample where mk ::
  Map : Int
  Noise : (List Int)
  deriving DecidableEq,Inhabited
instance : Rep LevitateSample:=⟨2,fun L w cs d=>∃ v32,SlRd L w v32 d.Noise ∧ cs = [(.int .i64 d.Map),v32],fun ⟨v32,h33,h⟩=>by subst h; rfl,fun ⟨v32,h33,h⟩ u hu=>by subst h; exact (Qk rfl (Qk h33.one1 QI)) u hu,fun s ⟨v32,h33,h⟩=>⟨v32,h33.step s,h⟩⟩
structure Arr2_Int where mk ::
  e0 : Int
  e1 : Int
  deriving DecidableEq,Inhabited
instance : Rep Arr2_Int:=⟨2,fun _ _ cs d=>cs = [(.int .i64 d.e0),(.int .i64 d.e1)],fun h=>by subst h; rfl,fun h=>by subst h; exact (Qk rfl (Qk rfl QI)),fun _ h=>h⟩
structure Range where mk ::
  Lo : Int
  Hi : Int
  deriving DecidableEq,Inhabited
instance : Rep Range:=⟨2,fun _ _ cs d=>cs = [(.int .i64 d.Lo),(.int .i64 d.Hi)],fun h=>by subst h; rfl,fun h=>by subst h; exact (Qk rfl (Qk rfl QI)),fun _ h=>h⟩
structure levitate_plant where mk ::
  LevitatePlant : LevitatePlant
  deriving DecidableEq,Inhabited
instance : Rep levitate_plant:=⟨3,fun L w cs d=>∃ v34 v36,SlRd L w v34 d.LevitatePlant.Maps ∧ SlRd L w v36 d.LevitatePlant.Noise ∧ cs = [(.int .i64 d.LevitatePlant.Den),v34,v36],fun ⟨v34,v36,h35,h37,h⟩=>by subst h; rfl,fun ⟨v34,v36,h35,h37,h⟩ u hu=>by subst h; exact (Qk rfl (Qk h35.one1 (Qk h37.one1 QI))) u hu,fun s ⟨v34,v36,h35,h37,h⟩=>⟨v34,v36,h35.step s,h37.step s,h⟩⟩
structure LevitateMark where mk ::
  Map : Int
  Row : Int
  deriving DecidableEq,Inhabited
instance : Rep LevitateMark:=⟨2,fun _ _ cs d=>cs = [(.int .i64 d.Map),(.int .i64 d.Row)],fun h=>by subst h; rfl,fun h=>by subst h; exact (Qk rfl (Qk rfl QI)),fun _ h=>h⟩
structure Arr3_U64 where mk ::
  e0 : Int
  e1 : Int
  e2 : Int
  deriving DecidableEq,Inhabited
instance : Rep Arr3_U64:=⟨3,fun _ _ cs d=>cs = [(.int .u64 d.e0),(.int .u64 d.e1),(.int .u64 d.e2)],fun h=>by subst h; rfl,fun h=>by subst h; exact (Qk rfl (Qk rfl (Qk rfl QI))),fun _ h=>h⟩
end Go.Gw
