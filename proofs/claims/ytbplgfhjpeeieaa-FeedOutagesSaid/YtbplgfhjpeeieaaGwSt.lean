/- The data of the program. No condition. -/
import Derived.Test.YtbplgfhjpeeieaaGwLib6
set_option linter.unusedVariables false
set_option linter.unusedSimpArgs false
set_option linter.unusedSectionVars false
namespace Go.Gw
open Go
structure FeedStation where mk ::
  Name : ByteArray
  Limit : Int
  Takes : Bool
  deriving DecidableEq,Inhabited
instance : Rep FeedStation:=⟨3,fun _ _ cs d=>cs = [(.string d.Name),(.int .i64 d.Limit),(.bool d.Takes)],fun h=>by subst h; rfl,fun h=>by subst h; exact (Qe rfl (Qe rfl (Qe rfl QG))),fun _ h=>h⟩
structure FeedSection where mk ::
  Left : Int
  Right : Int
  Share : Int
  Loss : Int
  deriving DecidableEq,Inhabited
instance : Rep FeedSection:=⟨4,fun _ _ cs d=>cs = [(.int .i64 d.Left),(.int .i64 d.Right),(.int .i64 d.Share),(.int .i64 d.Loss)],fun h=>by subst h; rfl,fun h=>by subst h; exact (Qe rfl (Qe rfl (Qe rfl (Qe rfl QG)))),fun _ h=>h⟩
structure FeedStep where mk ::
  Section : Int
  Power : Int
  deriving DecidableEq,Inhabited
instance : Rep FeedStep:=⟨2,fun _ _ cs d=>cs = [(.int .i64 d.Section),(.int .i64 d.Power)],fun h=>by subst h; rfl,fun h=>by subst h; exact (Qe rfl (Qe rfl QG)),fun _ h=>h⟩
structure FeedTrain where mk ::
  Name : ByteArray
  Earliest : Int
  Latest : Int
  Steps : (List FeedStep)
  deriving DecidableEq,Inhabited
instance : Rep FeedTrain:=⟨4,fun L w cs d=>∃ v1,SlRd L w v1 d.Steps ∧ cs = [(.string d.Name),(.int .i64 d.Earliest),(.int .i64 d.Latest),v1],fun ⟨v1,h2,h⟩=>by subst h; rfl,fun ⟨v1,h2,h⟩ u hu=>by subst h; exact (Qe rfl (Qe rfl (Qe rfl (Qe h2.one1 QG)))) u hu,fun s ⟨v1,h2,h⟩=>⟨v1,h2.step s,h⟩⟩
structure FeedNet where mk ::
  Stations : (List FeedStation)
  Sections : (List FeedSection)
  Trains : (List FeedTrain)
  deriving DecidableEq,Inhabited
instance : Rep FeedNet:=⟨3,fun L w cs d=>∃ v3 v5 v7,SlRd L w v3 d.Stations ∧ SlRd L w v5 d.Sections ∧ SlRd L w v7 d.Trains ∧ cs = [v3,v5,v7],fun ⟨v3,v5,v7,h4,h6,h8,h⟩=>by subst h; rfl,fun ⟨v3,v5,v7,h4,h6,h8,h⟩ u hu=>by subst h; exact (Qe h4.one1 (Qe h6.one1 (Qe h8.one1 QG))) u hu,fun s ⟨v3,v5,v7,h4,h6,h8,h⟩=>⟨v3,v5,v7,h4.step s,h6.step s,h8.step s,h⟩⟩
structure FeedMark where mk ::
  List : Int
  Number : Int
  deriving DecidableEq,Inhabited
instance : Rep FeedMark:=⟨2,fun _ _ cs d=>cs = [(.int .i64 d.List),(.int .i64 d.Number)],fun h=>by subst h; rfl,fun h=>by subst h; exact (Qe rfl (Qe rfl QG)),fun _ h=>h⟩
structure FeedDeparture where mk ::
  Train : ByteArray
  At : Int
  deriving DecidableEq,Inhabited
instance : Rep FeedDeparture:=⟨2,fun _ _ cs d=>cs = [(.string d.Train),(.int .i64 d.At)],fun h=>by subst h; rfl,fun h=>by subst h; exact (Qe rfl (Qe rfl QG)),fun _ h=>h⟩
structure Arr2_Int where mk ::
  e0 : Int
  e1 : Int
  deriving DecidableEq,Inhabited
instance : Rep Arr2_Int:=⟨2,fun _ _ cs d=>cs = [(.int .i64 d.e0),(.int .i64 d.e1)],fun h=>by subst h; rfl,fun h=>by subst h; exact (Qe rfl (Qe rfl QG)),fun _ h=>h⟩
structure Range where mk ::
  Lo : Int
  Hi : Int
  deriving DecidableEq,Inhabited
instance : Rep Range:=⟨2,fun _ _ cs d=>cs = [(.int .i64 d.Lo),(.int .i64 d.Hi)],fun h=>by subst h; rfl,fun h=>by subst h; exact (Qe rfl (Qe rfl QG)),fun _ h=>h⟩
structure FeedBook where mk ::
  Fed : Int
  Used : Int
  Braked : Int
  Lost : Int
  Back : Int
  Burned : Int
  deriving DecidableEq,Inhabited
instance : Rep FeedBook:=⟨6,fun _ _ cs d=>cs = [(.int .i64 d.Fed),(.int .i64 d.Used),(.int .i64 d.Braked),(.int .i64 d.Lost),(.int .i64 d.Back),(.int .i64 d.Burned)],fun h=>by subst h; rfl,fun h=>by subst h; exact (Qe rfl (Qe rfl (Qe rfl (Qe rfl (Qe rfl (Qe rfl QG)))))),fun _ h=>h⟩
structure Arr2_FeedBook where mk ::
  e0 : FeedBook
  e1 : FeedBook
  deriving DecidableEq,Inhabited
instance : Rep Arr2_FeedBook:=⟨12,fun _ _ cs d=>cs = [(.int .i64 d.e0.Fed),(.int .i64 d.e0.Used),(.int .i64 d.e0.Braked),(.int .i64 d.e0.Lost),(.int .i64 d.e0.Back),(.int .i64 d.e0.Burned),(.int .i64 d.e1.Fed),(.int .i64 d.e1.Used),(.int .i64 d.e1.Braked),(.int .i64 d.e1.Lost),(.int .i64 d.e1.Back),(.int .i64 d.e1.Burned)],fun h=>by subst h; rfl,fun h=>by subst h; exact (Qe rfl (Qe rfl (Qe rfl (Qe rfl (Qe rfl (Qe rfl (Qe rfl (Qe rfl (Qe rfl (Qe rfl (Qe rfl (Qe rfl QG)))))))))))),fun _ h=>h⟩
structure guidewaylaw07_FeedRead where mk ::
  Ticks : Range
  Books : Arr2_FeedBook
  deriving DecidableEq,Inhabited
instance : Rep guidewaylaw07_FeedRead:=⟨14,fun _ _ cs d=>cs = [(.int .i64 d.Ticks.Lo),(.int .i64 d.Ticks.Hi),(.int .i64 d.Books.e0.Fed),(.int .i64 d.Books.e0.Used),(.int .i64 d.Books.e0.Braked),(.int .i64 d.Books.e0.Lost),(.int .i64 d.Books.e0.Back),(.int .i64 d.Books.e0.Burned),(.int .i64 d.Books.e1.Fed),(.int .i64 d.Books.e1.Used),(.int .i64 d.Books.e1.Braked),(.int .i64 d.Books.e1.Lost),(.int .i64 d.Books.e1.Back),(.int .i64 d.Books.e1.Burned)],fun h=>by subst h; rfl,fun h=>by subst h; exact (Qe rfl (Qe rfl (Qe rfl (Qe rfl (Qe rfl (Qe rfl (Qe rfl (Qe rfl (Qe rfl (Qe rfl (Qe rfl (Qe rfl (Qe rfl (Qe rfl QG)))))))))))))),fun _ h=>h⟩
structure Arr3_Int where mk ::
  e0 : Int
  e1 : Int
  e2 : Int
  deriving DecidableEq,Inhabited
instance : Rep Arr3_Int:=⟨3,fun _ _ cs d=>cs = [(.int .i64 d.e0),(.int .i64 d.e1),(.int .i64 d.e2)],fun h=>by subst h; rfl,fun h=>by subst h; exact (Qe rfl (Qe rfl (Qe rfl QG))),fun _ h=>h⟩
structure FeedLadder where mk ::
  Ohms : (List Int)
  Loads : (List Int)
  deriving DecidableEq,Inhabited
instance : Rep FeedLadder:=⟨2,fun L w cs d=>∃ v9 v11,SlRd L w v9 d.Ohms ∧ SlRd L w v11 d.Loads ∧ cs = [v9,v11],fun ⟨v9,v11,h10,h12,h⟩=>by subst h; rfl,fun ⟨v9,v11,h10,h12,h⟩ u hu=>by subst h; exact (Qe h10.one1 (Qe h12.one1 QG)) u hu,fun s ⟨v9,v11,h10,h12,h⟩=>⟨v9,v11,h10.step s,h12.step s,h⟩⟩
structure Frac where mk ::
  Num : Int
  Den : Int
  deriving DecidableEq,Inhabited
instance : Rep Frac:=⟨2,fun _ _ cs d=>cs = [(.int .i64 d.Num),(.int .i64 d.Den)],fun h=>by subst h; rfl,fun h=>by subst h; exact (Qe rfl (Qe rfl QG)),fun _ h=>h⟩
structure FeedPeak where mk ::
  Tick : Int
  Station : Int
  Load : Int
  deriving DecidableEq,Inhabited
instance : Rep FeedPeak:=⟨3,fun _ _ cs d=>cs = [(.int .i64 d.Tick),(.int .i64 d.Station),(.int .i64 d.Load)],fun h=>by subst h; rfl,fun h=>by subst h; exact (Qe rfl (Qe rfl (Qe rfl QG))),fun _ h=>h⟩
structure FeedWindow where mk ::
  Station : Int
  Ticks : Range
  deriving DecidableEq,Inhabited
instance : Rep FeedWindow:=⟨3,fun _ _ cs d=>cs = [(.int .i64 d.Station),(.int .i64 d.Ticks.Lo),(.int .i64 d.Ticks.Hi)],fun h=>by subst h; rfl,fun h=>by subst h; exact (Qe rfl (Qe rfl (Qe rfl QG))),fun _ h=>h⟩
structure feed_net where mk ::
  FeedNet : FeedNet
  deriving DecidableEq,Inhabited
instance : Rep feed_net:=⟨3,fun L w cs d=>∃ v13 v15 v17,SlRd L w v13 d.FeedNet.Stations ∧ SlRd L w v15 d.FeedNet.Sections ∧ SlRd L w v17 d.FeedNet.Trains ∧ cs = [v13,v15,v17],fun ⟨v13,v15,v17,h14,h16,h18,h⟩=>by subst h; rfl,fun ⟨v13,v15,v17,h14,h16,h18,h⟩ u hu=>by subst h; exact (Qe h14.one1 (Qe h16.one1 (Qe h18.one1 QG))) u hu,fun s ⟨v13,v15,v17,h14,h16,h18,h⟩=>⟨v13,v15,v17,h14.step s,h16.step s,h18.step s,h⟩⟩
structure feed_plan where mk ::
  at_ : (List Int)
  delay : Int
  found : Bool
  deriving DecidableEq,Inhabited
instance : Rep feed_plan:=⟨3,fun L w cs d=>∃ v19,SlRd L w v19 d.at_ ∧ cs = [v19,(.int .i64 d.delay),(.bool d.found)],fun ⟨v19,h20,h⟩=>by subst h; rfl,fun ⟨v19,h20,h⟩ u hu=>by subst h; exact (Qe h20.one1 (Qe rfl (Qe rfl QG))) u hu,fun s ⟨v19,h20,h⟩=>⟨v19,h20.step s,h⟩⟩
structure feed_run where mk ::
  FeedTrain : FeedTrain
  at_ : Int
  deriving DecidableEq,Inhabited
instance : Rep feed_run:=⟨5,fun L w cs d=>∃ v21,SlRd L w v21 d.FeedTrain.Steps ∧ cs = [(.string d.FeedTrain.Name),(.int .i64 d.FeedTrain.Earliest),(.int .i64 d.FeedTrain.Latest),v21,(.int .i64 d.at_)],fun ⟨v21,h22,h⟩=>by subst h; rfl,fun ⟨v21,h22,h⟩ u hu=>by subst h; exact (Qe rfl (Qe rfl (Qe rfl (Qe h22.one1 (Qe rfl QG))))) u hu,fun s ⟨v21,h22,h⟩=>⟨v21,h22.step s,h⟩⟩
end Go.Gw
