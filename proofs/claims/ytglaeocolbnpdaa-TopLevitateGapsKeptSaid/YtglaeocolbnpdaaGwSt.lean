/- The data of the program. No condition. -/
import Derived.Test.YtglaeocolbnpdaaGwMem
namespace Go.Gw
open Go
structure LevitatePlant where mk ::
  Den : Int
  Maps : (List (List (List Int)))
  Noise : (List Int)
  deriving DecidableEq, Inhabited
instance : Rep LevitatePlant := ⟨3, fun L w cs d => ∃ v1 v3, SlRd L w v1 d.Maps ∧ SlRd L w v3 d.Noise ∧ cs = [(.int .i64 d.Den), v1, v3], fun ⟨v1, v3, h2, h4, h⟩ => by subst h; rfl, fun ⟨v1, v3, h2, h4, h⟩ u hu => by subst h; exact (oc_cons rfl (oc_cons h2.one1 (oc_cons h4.one1 oc_nil))) u hu, fun s ⟨v1, v3, h2, h4, h⟩ => ⟨v1, v3, h2.step s, h4.step s, h⟩⟩
structure LevitateMark where mk ::
  Map : Int
  Row : Int
  deriving DecidableEq, Inhabited
instance : Rep LevitateMark := ⟨2, fun _ _ cs d => cs = [(.int .i64 d.Map), (.int .i64 d.Row)], fun h => by subst h; rfl, fun h => by subst h; exact (oc_cons rfl (oc_cons rfl oc_nil)), fun _ h => h⟩
structure Arr3_Int where mk ::
  e0 : Int
  e1 : Int
  e2 : Int
  deriving DecidableEq, Inhabited
instance : Rep Arr3_Int := ⟨3, fun _ _ cs d => cs = [(.int .i64 d.e0), (.int .i64 d.e1), (.int .i64 d.e2)], fun h => by subst h; rfl, fun h => by subst h; exact (oc_cons rfl (oc_cons rfl (oc_cons rfl oc_nil))), fun _ h => h⟩
structure Arr3_Nat where mk ::
  e0 : Nat
  e1 : Nat
  e2 : Nat
  deriving DecidableEq, Inhabited
instance : Rep Arr3_Nat := ⟨3, fun _ _ cs d => cs = [(.float .f32 d.e0), (.float .f32 d.e1), (.float .f32 d.e2)], fun h => by subst h; rfl, fun h => by subst h; exact (oc_cons rfl (oc_cons rfl (oc_cons rfl oc_nil))), fun _ h => h⟩
structure LevitateSensors where mk ::
  Values : Arr3_Nat
  Slack : Int
  deriving DecidableEq, Inhabited
instance : Rep LevitateSensors := ⟨4, fun _ _ cs d => cs = [(.float .f32 d.Values.e0), (.float .f32 d.Values.e1), (.float .f32 d.Values.e2), (.int .i64 d.Slack)], fun h => by subst h; rfl, fun h => by subst h; exact (oc_cons rfl (oc_cons rfl (oc_cons rfl (oc_cons rfl oc_nil)))), fun _ h => h⟩
structure Arr2_Int where mk ::
  e0 : Int
  e1 : Int
  deriving DecidableEq, Inhabited
instance : Rep Arr2_Int := ⟨2, fun _ _ cs d => cs = [(.int .i64 d.e0), (.int .i64 d.e1)], fun h => by subst h; rfl, fun h => by subst h; exact (oc_cons rfl (oc_cons rfl oc_nil)), fun _ h => h⟩
structure LevitateProof where mk ::
  Form : (List (List Int))
  Rate : Arr2_Int
  Level : Int
  deriving DecidableEq, Inhabited
instance : Rep LevitateProof := ⟨4, fun L w cs d => ∃ v5, SlRd L w v5 d.Form ∧ cs = [v5, (.int .i64 d.Rate.e0), (.int .i64 d.Rate.e1), (.int .i64 d.Level)], fun ⟨v5, h6, h⟩ => by subst h; rfl, fun ⟨v5, h6, h⟩ u hu => by subst h; exact (oc_cons h6.one1 (oc_cons rfl (oc_cons rfl (oc_cons rfl oc_nil)))) u hu, fun s ⟨v5, h6, h⟩ => ⟨v5, h6.step s, h⟩⟩
structure LevitateSample where mk ::
  Map : Int
  Noise : (List Int)
  deriving DecidableEq, Inhabited
instance : Rep LevitateSample := ⟨2, fun L w cs d => ∃ v7, SlRd L w v7 d.Noise ∧ cs = [(.int .i64 d.Map), v7], fun ⟨v7, h8, h⟩ => by subst h; rfl, fun ⟨v7, h8, h⟩ u hu => by subst h; exact (oc_cons rfl (oc_cons h8.one1 oc_nil)) u hu, fun s ⟨v7, h8, h⟩ => ⟨v7, h8.step s, h⟩⟩
structure Range where mk ::
  Lo : Int
  Hi : Int
  deriving DecidableEq, Inhabited
instance : Rep Range := ⟨2, fun _ _ cs d => cs = [(.int .i64 d.Lo), (.int .i64 d.Hi)], fun h => by subst h; rfl, fun h => by subst h; exact (oc_cons rfl (oc_cons rfl oc_nil)), fun _ h => h⟩
structure levitate_plant where mk ::
  LevitatePlant : LevitatePlant
  deriving DecidableEq, Inhabited
instance : Rep levitate_plant := ⟨3, fun L w cs d => ∃ v9 v11, SlRd L w v9 d.LevitatePlant.Maps ∧ SlRd L w v11 d.LevitatePlant.Noise ∧ cs = [(.int .i64 d.LevitatePlant.Den), v9, v11], fun ⟨v9, v11, h10, h12, h⟩ => by subst h; rfl, fun ⟨v9, v11, h10, h12, h⟩ u hu => by subst h; exact (oc_cons rfl (oc_cons h10.one1 (oc_cons h12.one1 oc_nil))) u hu, fun s ⟨v9, v11, h10, h12, h⟩ => ⟨v9, v11, h10.step s, h12.step s, h⟩⟩
structure Arr3_U64 where mk ::
  e0 : Int
  e1 : Int
  e2 : Int
  deriving DecidableEq, Inhabited
instance : Rep Arr3_U64 := ⟨3, fun _ _ cs d => cs = [(.int .u64 d.e0), (.int .u64 d.e1), (.int .u64 d.e2)], fun h => by subst h; rfl, fun h => by subst h; exact (oc_cons rfl (oc_cons rfl (oc_cons rfl oc_nil))), fun _ h => h⟩
end Go.Gw
