/- The data of the program. No condition. -/
import Derived.Test.YtglaeocolbnpdaaGreatGwMem
namespace Go.Gw
open Go
structure LevitatePlant where mk ::
  Den : Int
  Maps : (List (List (List Int)))
  Noise : (List Int)
  deriving DecidableEq, Inhabited
instance : Rep LevitatePlant := ⟨3, fun L w cs d => ∃ v1 v3, SlRd L w v1 d.Maps ∧ SlRd L w v3 d.Noise ∧ cs = [(.int .i64 d.Den), v1, v3], fun ⟨v1, v3, h2, h4, h⟩ => by subst h; rfl, fun ⟨v1, v3, h2, h4, h⟩ u hu => by subst h; exact (Qo rfl (Qo h2.one1 (Qo h4.one1 QH))) u hu, fun s ⟨v1, v3, h2, h4, h⟩ => ⟨v1, v3, h2.step s, h4.step s, h⟩⟩
structure LevitateSample where mk ::
  Map : Int
  Noise : (List Int)
  deriving DecidableEq, Inhabited
instance : Rep LevitateSample := ⟨2, fun L w cs d => ∃ v5, SlRd L w v5 d.Noise ∧ cs = [(.int .i64 d.Map), v5], fun ⟨v5, h6, h⟩ => by subst h; rfl, fun ⟨v5, h6, h⟩ u hu => by subst h; exact (Qo rfl (Qo h6.one1 QH)) u hu, fun s ⟨v5, h6, h⟩ => ⟨v5, h6.step s, h⟩⟩
structure Arr2_Int where mk ::
  e0 : Int
  e1 : Int
  deriving DecidableEq, Inhabited
instance : Rep Arr2_Int := ⟨2, fun _ _ cs d => cs = [(.int .i64 d.e0), (.int .i64 d.e1)], fun h => by subst h; rfl, fun h => by subst h; exact (Qo rfl (Qo rfl QH)), fun _ h => h⟩
structure LevitateMark where mk ::
  Map : Int
  Row : Int
  deriving DecidableEq, Inhabited
instance : Rep LevitateMark := ⟨2, fun _ _ cs d => cs = [(.int .i64 d.Map), (.int .i64 d.Row)], fun h => by subst h; rfl, fun h => by subst h; exact (Qo rfl (Qo rfl QH)), fun _ h => h⟩
structure Range where mk ::
  Lo : Int
  Hi : Int
  deriving DecidableEq, Inhabited
instance : Rep Range := ⟨2, fun _ _ cs d => cs = [(.int .i64 d.Lo), (.int .i64 d.Hi)], fun h => by subst h; rfl, fun h => by subst h; exact (Qo rfl (Qo rfl QH)), fun _ h => h⟩
structure Arr2_Range where mk ::
  e0 : Range
  e1 : Range
  deriving DecidableEq, Inhabited
instance : Rep Arr2_Range := ⟨4, fun _ _ cs d => cs = [(.int .i64 d.e0.Lo), (.int .i64 d.e0.Hi), (.int .i64 d.e1.Lo), (.int .i64 d.e1.Hi)], fun h => by subst h; rfl, fun h => by subst h; exact (Qo rfl (Qo rfl (Qo rfl (Qo rfl QH)))), fun _ h => h⟩
structure LevitateEscape where mk ::
  State : (List Int)
  Sample : LevitateSample
  deriving DecidableEq, Inhabited
instance : Rep LevitateEscape := ⟨3, fun L w cs d => ∃ v7 v9, SlRd L w v7 d.State ∧ SlRd L w v9 d.Sample.Noise ∧ cs = [v7, (.int .i64 d.Sample.Map), v9], fun ⟨v7, v9, h8, h10, h⟩ => by subst h; rfl, fun ⟨v7, v9, h8, h10, h⟩ u hu => by subst h; exact (Qo h8.one1 (Qo rfl (Qo h10.one1 QH))) u hu, fun s ⟨v7, v9, h8, h10, h⟩ => ⟨v7, v9, h8.step s, h10.step s, h⟩⟩
structure Arr2_ListInt where mk ::
  e0 : (List Int)
  e1 : (List Int)
  deriving DecidableEq, Inhabited
instance : Rep Arr2_ListInt := ⟨2, fun L w cs d => ∃ v11 v13, SlRd L w v11 d.e0 ∧ SlRd L w v13 d.e1 ∧ cs = [v11, v13], fun ⟨v11, v13, h12, h14, h⟩ => by subst h; rfl, fun ⟨v11, v13, h12, h14, h⟩ u hu => by subst h; exact (Qo h12.one1 (Qo h14.one1 QH)) u hu, fun s ⟨v11, v13, h12, h14, h⟩ => ⟨v11, v13, h12.step s, h14.step s, h⟩⟩
structure LevitateProof where mk ::
  Form : (List (List Int))
  Rate : Arr2_Int
  Level : Int
  deriving DecidableEq, Inhabited
instance : Rep LevitateProof := ⟨4, fun L w cs d => ∃ v15, SlRd L w v15 d.Form ∧ cs = [v15, (.int .i64 d.Rate.e0), (.int .i64 d.Rate.e1), (.int .i64 d.Level)], fun ⟨v15, h16, h⟩ => by subst h; rfl, fun ⟨v15, h16, h⟩ u hu => by subst h; exact (Qo h16.one1 (Qo rfl (Qo rfl (Qo rfl QH)))) u hu, fun s ⟨v15, h16, h⟩ => ⟨v15, h16.step s, h⟩⟩
structure guidewaylaw02_LevitateStart where mk ::
  State : (List Int)
  Samples : (List LevitateSample)
  deriving DecidableEq, Inhabited
instance : Rep guidewaylaw02_LevitateStart := ⟨2, fun L w cs d => ∃ v17 v19, SlRd L w v17 d.State ∧ SlRd L w v19 d.Samples ∧ cs = [v17, v19], fun ⟨v17, v19, h18, h20, h⟩ => by subst h; rfl, fun ⟨v17, v19, h18, h20, h⟩ u hu => by subst h; exact (Qo h18.one1 (Qo h20.one1 QH)) u hu, fun s ⟨v17, v19, h18, h20, h⟩ => ⟨v17, v19, h18.step s, h20.step s, h⟩⟩
structure LevitateFrame where mk ::
  Factors : (List Int)
  Load : Int
  Gap : Range
  Current : Int
  deriving DecidableEq, Inhabited
instance : Rep LevitateFrame := ⟨5, fun L w cs d => ∃ v21, SlRd L w v21 d.Factors ∧ cs = [v21, (.int .i64 d.Load), (.int .i64 d.Gap.Lo), (.int .i64 d.Gap.Hi), (.int .i64 d.Current)], fun ⟨v21, h22, h⟩ => by subst h; rfl, fun ⟨v21, h22, h⟩ u hu => by subst h; exact (Qo h22.one1 (Qo rfl (Qo rfl (Qo rfl (Qo rfl QH))))) u hu, fun s ⟨v21, h22, h⟩ => ⟨v21, h22.step s, h⟩⟩
structure Arr3_Nat where mk ::
  e0 : Nat
  e1 : Nat
  e2 : Nat
  deriving DecidableEq, Inhabited
instance : Rep Arr3_Nat := ⟨3, fun _ _ cs d => cs = [(.float .f32 d.e0), (.float .f32 d.e1), (.float .f32 d.e2)], fun h => by subst h; rfl, fun h => by subst h; exact (Qo rfl (Qo rfl (Qo rfl QH))), fun _ h => h⟩
structure LevitateSensors where mk ::
  Values : Arr3_Nat
  Slack : Int
  deriving DecidableEq, Inhabited
instance : Rep LevitateSensors := ⟨4, fun _ _ cs d => cs = [(.float .f32 d.Values.e0), (.float .f32 d.Values.e1), (.float .f32 d.Values.e2), (.int .i64 d.Slack)], fun h => by subst h; rfl, fun h => by subst h; exact (Qo rfl (Qo rfl (Qo rfl (Qo rfl QH)))), fun _ h => h⟩
structure levitate_plant where mk ::
  LevitatePlant : LevitatePlant
  deriving DecidableEq, Inhabited
instance : Rep levitate_plant := ⟨3, fun L w cs d => ∃ v23 v25, SlRd L w v23 d.LevitatePlant.Maps ∧ SlRd L w v25 d.LevitatePlant.Noise ∧ cs = [(.int .i64 d.LevitatePlant.Den), v23, v25], fun ⟨v23, v25, h24, h26, h⟩ => by subst h; rfl, fun ⟨v23, v25, h24, h26, h⟩ u hu => by subst h; exact (Qo rfl (Qo h24.one1 (Qo h26.one1 QH))) u hu, fun s ⟨v23, v25, h24, h26, h⟩ => ⟨v23, v25, h24.step s, h26.step s, h⟩⟩
structure guidewaybase_Wide where mk ::
  Sign : Int
  Digits : (List Int)
  deriving DecidableEq, Inhabited
instance : Rep guidewaybase_Wide := ⟨2, fun L w cs d => ∃ v27, SlRd L w v27 d.Digits ∧ cs = [(.int .i64 d.Sign), v27], fun ⟨v27, h28, h⟩ => by subst h; rfl, fun ⟨v27, h28, h⟩ u hu => by subst h; exact (Qo rfl (Qo h28.one1 QH)) u hu, fun s ⟨v27, h28, h⟩ => ⟨v27, h28.step s, h⟩⟩
structure levitate_frame where mk ::
  LevitateFrame : LevitateFrame
  deriving DecidableEq, Inhabited
instance : Rep levitate_frame := ⟨5, fun L w cs d => ∃ v29, SlRd L w v29 d.LevitateFrame.Factors ∧ cs = [v29, (.int .i64 d.LevitateFrame.Load), (.int .i64 d.LevitateFrame.Gap.Lo), (.int .i64 d.LevitateFrame.Gap.Hi), (.int .i64 d.LevitateFrame.Current)], fun ⟨v29, h30, h⟩ => by subst h; rfl, fun ⟨v29, h30, h⟩ u hu => by subst h; exact (Qo h30.one1 (Qo rfl (Qo rfl (Qo rfl (Qo rfl QH))))) u hu, fun s ⟨v29, h30, h⟩ => ⟨v29, h30.step s, h⟩⟩
structure Arr3_U64 where mk ::
  e0 : Int
  e1 : Int
  e2 : Int
  deriving DecidableEq, Inhabited
instance : Rep Arr3_U64 := ⟨3, fun _ _ cs d => cs = [(.int .u64 d.e0), (.int .u64 d.e1), (.int .u64 d.e2)], fun h => by subst h; rfl, fun h => by subst h; exact (Qo rfl (Qo rfl (Qo rfl QH))), fun _ h => h⟩
end Go.Gw
