/- The data of the program. No condition. -/
import Derived.Test.YtgpapebgdnimfaaGwLib7
namespace Go.Gw
open Go
structure LocateTrack where mk ::
  Vanes : (List Int)
  Window : Int
  Tooth : Int
  PerVane : Int
  First : Int
  Modulus : Int
  Slack : Int
  Errors : Int
  Round : Bool
  deriving DecidableEq, Inhabited
instance : Rep LocateTrack := ⟨9, fun L w cs d => ∃ v1, SlRd L w v1 d.Vanes ∧ cs = [v1, (.int .i64 d.Window), (.int .i64 d.Tooth), (.int .i64 d.PerVane), (.int .i64 d.First), (.int .i64 d.Modulus), (.int .i64 d.Slack), (.int .i64 d.Errors), (.bool d.Round)], fun ⟨v1, h2, h⟩ => by subst h; rfl, fun ⟨v1, h2, h⟩ u hu => by subst h; exact (oc_cons h2.one1 (oc_cons rfl (oc_cons rfl (oc_cons rfl (oc_cons rfl (oc_cons rfl (oc_cons rfl (oc_cons rfl (oc_cons rfl oc_nil))))))))) u hu, fun s ⟨v1, h2, h⟩ => ⟨v1, h2.step s, h⟩⟩
structure guidewaylaw04_Spoilt where mk ::
  Tooth : Int
  Wrong : (List Int)
  Unread : (List Int)
  Off : Int
  deriving DecidableEq, Inhabited
instance : Rep guidewaylaw04_Spoilt := ⟨4, fun L w cs d => ∃ v3 v5, SlRd L w v3 d.Wrong ∧ SlRd L w v5 d.Unread ∧ cs = [(.int .i64 d.Tooth), v3, v5, (.int .i64 d.Off)], fun ⟨v3, v5, h4, h6, h⟩ => by subst h; rfl, fun ⟨v3, v5, h4, h6, h⟩ u hu => by subst h; exact (oc_cons rfl (oc_cons h4.one1 (oc_cons h6.one1 (oc_cons rfl oc_nil)))) u hu, fun s ⟨v3, v5, h4, h6, h⟩ => ⟨v3, v5, h4.step s, h6.step s, h⟩⟩
structure guidewaytop_LocateRun where mk ::
  Teeth : (List Int)
  Time : Int
  Spoilt : (List guidewaylaw04_Spoilt)
  deriving DecidableEq, Inhabited
instance : Rep guidewaytop_LocateRun := ⟨3, fun L w cs d => ∃ v7 v9, SlRd L w v7 d.Teeth ∧ SlRd L w v9 d.Spoilt ∧ cs = [v7, (.int .i64 d.Time), v9], fun ⟨v7, v9, h8, h10, h⟩ => by subst h; rfl, fun ⟨v7, v9, h8, h10, h⟩ u hu => by subst h; exact (oc_cons h8.one1 (oc_cons rfl (oc_cons h10.one1 oc_nil))) u hu, fun s ⟨v7, v9, h8, h10, h⟩ => ⟨v7, v9, h8.step s, h10.step s, h⟩⟩
structure Range where mk ::
  Lo : Int
  Hi : Int
  deriving DecidableEq, Inhabited
instance : Rep Range := ⟨2, fun _ _ cs d => cs = [(.int .i64 d.Lo), (.int .i64 d.Hi)], fun h => by subst h; rfl, fun h => by subst h; exact (oc_cons rfl (oc_cons rfl oc_nil)), fun _ h => h⟩
structure LocateReading where mk ::
  Seen : (List Int)
  Count : Int
  deriving DecidableEq, Inhabited
instance : Rep LocateReading := ⟨2, fun L w cs d => ∃ v11, SlRd L w v11 d.Seen ∧ cs = [v11, (.int .i64 d.Count)], fun ⟨v11, h12, h⟩ => by subst h; rfl, fun ⟨v11, h12, h⟩ u hu => by subst h; exact (oc_cons h12.one1 (oc_cons rfl oc_nil)) u hu, fun s ⟨v11, h12, h⟩ => ⟨v11, h12.step s, h⟩⟩
structure LocateFix where mk ::
  At : Int
  Place : Range
  deriving DecidableEq, Inhabited
instance : Rep LocateFix := ⟨3, fun _ _ cs d => cs = [(.int .i64 d.At), (.int .i64 d.Place.Lo), (.int .i64 d.Place.Hi)], fun h => by subst h; rfl, fun h => by subst h; exact (oc_cons rfl (oc_cons rfl (oc_cons rfl oc_nil))), fun _ h => h⟩
structure LocateRest where mk ::
  Modulus : Int
  Rest : Int
  deriving DecidableEq, Inhabited
instance : Rep LocateRest := ⟨2, fun _ _ cs d => cs = [(.int .i64 d.Modulus), (.int .i64 d.Rest)], fun h => by subst h; rfl, fun h => by subst h; exact (oc_cons rfl (oc_cons rfl oc_nil)), fun _ h => h⟩
structure locate_track where mk ::
  LocateTrack : LocateTrack
  deriving DecidableEq, Inhabited
instance : Rep locate_track := ⟨9, fun L w cs d => ∃ v13, SlRd L w v13 d.LocateTrack.Vanes ∧ cs = [v13, (.int .i64 d.LocateTrack.Window), (.int .i64 d.LocateTrack.Tooth), (.int .i64 d.LocateTrack.PerVane), (.int .i64 d.LocateTrack.First), (.int .i64 d.LocateTrack.Modulus), (.int .i64 d.LocateTrack.Slack), (.int .i64 d.LocateTrack.Errors), (.bool d.LocateTrack.Round)], fun ⟨v13, h14, h⟩ => by subst h; rfl, fun ⟨v13, h14, h⟩ u hu => by subst h; exact (oc_cons h14.one1 (oc_cons rfl (oc_cons rfl (oc_cons rfl (oc_cons rfl (oc_cons rfl (oc_cons rfl (oc_cons rfl (oc_cons rfl oc_nil))))))))) u hu, fun s ⟨v13, h14, h⟩ => ⟨v13, h14.step s, h⟩⟩
structure locate_edge where mk ::
  at_ : Int
  by_ : Int
  deriving DecidableEq, Inhabited
instance : Rep locate_edge := ⟨2, fun _ _ cs d => cs = [(.int .i64 d.at_), (.int .i64 d.by_)], fun h => by subst h; rfl, fun h => by subst h; exact (oc_cons rfl (oc_cons rfl oc_nil)), fun _ h => h⟩
structure Arr12_Int where mk ::
  e0 : Int
  e1 : Int
  e2 : Int
  e3 : Int
  e4 : Int
  e5 : Int
  e6 : Int
  e7 : Int
  e8 : Int
  e9 : Int
  e10 : Int
  e11 : Int
  deriving DecidableEq, Inhabited
instance : Rep Arr12_Int := ⟨12, fun _ _ cs d => cs = [(.int .i64 d.e0), (.int .i64 d.e1), (.int .i64 d.e2), (.int .i64 d.e3), (.int .i64 d.e4), (.int .i64 d.e5), (.int .i64 d.e6), (.int .i64 d.e7), (.int .i64 d.e8), (.int .i64 d.e9), (.int .i64 d.e10), (.int .i64 d.e11)], fun h => by subst h; rfl, fun h => by subst h; exact (oc_cons rfl (oc_cons rfl (oc_cons rfl (oc_cons rfl (oc_cons rfl (oc_cons rfl (oc_cons rfl (oc_cons rfl (oc_cons rfl (oc_cons rfl (oc_cons rfl (oc_cons rfl oc_nil)))))))))))), fun _ h => h⟩
end Go.Gw
