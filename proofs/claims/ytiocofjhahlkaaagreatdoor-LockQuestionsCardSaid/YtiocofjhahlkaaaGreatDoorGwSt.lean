/- The data of the program. No condition. -/
import Derived.Test.YtiocofjhahlkaaaGreatDoorGwLib5
set_option linter.unusedVariables false
set_option linter.unusedSimpArgs false
set_option linter.unusedSectionVars false
namespace Go.Gw
open Go
structure LockSwitch where mk ::
  Name:ByteArray
  Section:Int
  deriving DecidableEq,Inhabited
instance:Rep LockSwitch:=⟨2,fun _ _ cs d=>cs=[(.string d.Name),(.int .i64 d.Section)],fun h=>by subst h;rfl,fun h=>by subst h;exact (Qp rfl (Qp rfl QR)),fun _ h=>h⟩
structure LockRoute where mk ::
  Name:ByteArray
  Sections:(List Int)
  Needs:(List Int)
  deriving DecidableEq,Inhabited
instance:Rep LockRoute:=⟨3,fun L w cs d=>∃ v1 v3,SlRd L w v1 d.Sections/\SlRd L w v3 d.Needs/\cs=[(.string d.Name),v1,v3],fun ⟨v1,v3,h2,h4,h⟩=>by subst h;rfl,fun ⟨v1,v3,h2,h4,h⟩ u hu=>by subst h;exact (Qp rfl (Qp h2.one1 (Qp h4.one1 QR))) u hu,fun s ⟨v1,v3,h2,h4,h⟩=>⟨v1,v3,h2.step s,h4.step s,h⟩⟩
structure LockPlant where mk ::
  Sections:(List ByteArray)
  Trains:(List ByteArray)
  Switches:(List LockSwitch)
  Routes:(List LockRoute)
  deriving DecidableEq,Inhabited
instance:Rep LockPlant:=⟨4,fun L w cs d=>∃ v5 v7 v9 v11,SlRd L w v5 d.Sections/\SlRd L w v7 d.Trains/\SlRd L w v9 d.Switches/\SlRd L w v11 d.Routes/\cs=[v5,v7,v9,v11],fun ⟨v5,v7,v9,v11,h6,h8,h10,h12,h⟩=>by subst h;rfl,fun ⟨v5,v7,v9,v11,h6,h8,h10,h12,h⟩ u hu=>by subst h;exact (Qp h6.one1 (Qp h8.one1 (Qp h10.one1 (Qp h12.one1 QR)))) u hu,fun s ⟨v5,v7,v9,v11,h6,h8,h10,h12,h⟩=>⟨v5,v7,v9,v11,h6.step s,h8.step s,h10.step s,h12.step s,h⟩⟩
structure LockTrain where mk ::
  Chain:(List Int)
  Under:Int
  deriving DecidableEq,Inhabited
instance:Rep LockTrain:=⟨2,fun L w cs d=>∃ v13,SlRd L w v13 d.Chain/\cs=[v13,(.int .i64 d.Under)],fun ⟨v13,h14,h⟩=>by subst h;rfl,fun ⟨v13,h14,h⟩ u hu=>by subst h;exact (Qp h14.one1 (Qp rfl QR)) u hu,fun s ⟨v13,h14,h⟩=>⟨v13,h14.step s,h⟩⟩
structure LockState where mk ::
  Switches:(List Int)
  Trains:(List LockTrain)
  Counter:Int
  deriving DecidableEq,Inhabited
instance:Rep LockState:=⟨3,fun L w cs d=>∃ v15 v17,SlRd L w v15 d.Switches/\SlRd L w v17 d.Trains/\cs=[v15,v17,(.int .i64 d.Counter)],fun ⟨v15,v17,h16,h18,h⟩=>by subst h;rfl,fun ⟨v15,v17,h16,h18,h⟩ u hu=>by subst h;exact (Qp h16.one1 (Qp h18.one1 (Qp rfl QR))) u hu,fun s ⟨v15,v17,h16,h18,h⟩=>⟨v15,v17,h16.step s,h18.step s,h⟩⟩
structure Arr2_Int where mk ::
  e0:Int
  e1:Int
  deriving DecidableEq,Inhabited
instance:Rep Arr2_Int:=⟨2,fun _ _ cs d=>cs=[(.int .i64 d.e0),(.int .i64 d.e1)],fun h=>by subst h;rfl,fun h=>by subst h;exact (Qp rfl (Qp rfl QR)),fun _ h=>h⟩
structure Arr5_Int where mk ::
  e0:Int
  e1:Int
  e2:Int
  e3:Int
  e4:Int
  deriving DecidableEq,Inhabited
instance:Rep Arr5_Int:=⟨5,fun _ _ cs d=>cs=[(.int .i64 d.e0),(.int .i64 d.e1),(.int .i64 d.e2),(.int .i64 d.e3),(.int .i64 d.e4)],fun h=>by subst h;rfl,fun h=>by subst h;exact (Qp rfl (Qp rfl (Qp rfl (Qp rfl (Qp rfl QR))))),fun _ h=>h⟩
structure LockEvent where mk ::
  Kind:Int
  A:Int
  B:Int
  deriving DecidableEq,Inhabited
instance:Rep LockEvent:=⟨3,fun _ _ cs d=>cs=[(.int .i64 d.Kind),(.int .i64 d.A),(.int .i64 d.B)],fun h=>by subst h;rfl,fun h=>by subst h;exact (Qp rfl (Qp rfl (Qp rfl QR))),fun _ h=>h⟩
structure LockMark where mk ::
  List:Int
  Number:Int
  deriving DecidableEq,Inhabited
instance:Rep LockMark:=⟨2,fun _ _ cs d=>cs=[(.int .i64 d.List),(.int .i64 d.Number)],fun h=>by subst h;rfl,fun h=>by subst h;exact (Qp rfl (Qp rfl QR)),fun _ h=>h⟩
structure lock_line where mk ::
  plant:LockPlant
  LockState:LockState
  deriving DecidableEq,Inhabited
instance:Rep lock_line:=⟨7,fun L w cs d=>∃ v19 v21 v23 v25 v27 v29,SlRd L w v19 d.plant.Sections/\SlRd L w v21 d.plant.Trains/\SlRd L w v23 d.plant.Switches/\SlRd L w v25 d.plant.Routes/\SlRd L w v27 d.LockState.Switches/\SlRd L w v29 d.LockState.Trains/\cs=[v19,v21,v23,v25,v27,v29,(.int .i64 d.LockState.Counter)],fun ⟨v19,v21,v23,v25,v27,v29,h20,h22,h24,h26,h28,h30,h⟩=>by subst h;rfl,fun ⟨v19,v21,v23,v25,v27,v29,h20,h22,h24,h26,h28,h30,h⟩ u hu=>by subst h;exact (Qp h20.one1 (Qp h22.one1 (Qp h24.one1 (Qp h26.one1 (Qp h28.one1 (Qp h30.one1 (Qp rfl QR))))))) u hu,fun s ⟨v19,v21,v23,v25,v27,v29,h20,h22,h24,h26,h28,h30,h⟩=>⟨v19,v21,v23,v25,v27,v29,h20.step s,h22.step s,h24.step s,h26.step s,h28.step s,h30.step s,h⟩⟩
structure lock_node where mk ::
  line:(Option lock_line)
  from_:Opq
  event:LockEvent
  deriving DecidableEq,Inhabited
instance:Rep lock_node:=⟨5,fun L w cs d=>∃ v31 v33,PtRd L w v31 d.line/\OpqRd L w v33 d.from_/\cs=[v31,v33,(.int .i64 d.event.Kind),(.int .i64 d.event.A),(.int .i64 d.event.B)],fun ⟨v31,v33,h32,h34,h⟩=>by subst h;rfl,fun ⟨v31,v33,h32,h34,h⟩ u hu=>by subst h;exact (Qp h32.one1 (Qp h34.one1 (Qp rfl (Qp rfl (Qp rfl QR))))) u hu,fun s ⟨v31,v33,h32,h34,h⟩=>⟨v31,v33,h32.step s,h34.step s,h⟩⟩
structure lock_step where mk ::
  event:LockEvent
  line:(Option lock_line)
  deriving DecidableEq,Inhabited
instance:Rep lock_step:=⟨4,fun L w cs d=>∃ v35,PtRd L w v35 d.line/\cs=[(.int .i64 d.event.Kind),(.int .i64 d.event.A),(.int .i64 d.event.B),v35],fun ⟨v35,h36,h⟩=>by subst h;rfl,fun ⟨v35,h36,h⟩ u hu=>by subst h;exact (Qp rfl (Qp rfl (Qp rfl (Qp h36.one1 QR)))) u hu,fun s ⟨v35,h36,h⟩=>⟨v35,h36.step s,h⟩⟩
end Go.Gw
