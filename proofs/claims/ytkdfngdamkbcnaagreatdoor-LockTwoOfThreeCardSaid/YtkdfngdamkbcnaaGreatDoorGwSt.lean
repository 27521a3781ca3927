/- The data of the program. No condition. -/
import Derived.Test.YtkdfngdamkbcnaaGreatDoorGwLib5
set_option linter.unusedVariables false
set_option linter.unusedSimpArgs false
set_option linter.unusedSectionVars false
namespace Go.Gw
open Go
structure Nu where mk ::
  Name:ByteArray
  Nv:Int
  deriving DecidableEq,Inhabited
instance:Rep Nu:=⟨2,fun _ _ cs d=>cs=[(.string d.Name),(.int .i64 d.Nv)],fun h=>by subst h;rfl,fun h=>by subst h;exact (Qe rfl (Qe rfl QH)),fun _ h=>h⟩
structure Np where mk ::
  Name:ByteArray
  Nf:(List Int)
  Nx:(List Int)
  deriving DecidableEq,Inhabited
instance:Rep Np:=⟨3,fun L w cs d=>∃ v1 v3,SlRd L w v1 d.Nf/\SlRd L w v3 d.Nx/\cs=[(.string d.Name),v1,v3],fun ⟨v1,v3,h2,h4,h⟩=>by subst h;rfl,fun ⟨v1,v3,h2,h4,h⟩ u hu=>by subst h;exact (Qe rfl (Qe h2.one1 (Qe h4.one1 QH))) u hu,fun s ⟨v1,v3,h2,h4,h⟩=>⟨v1,v3,h2.step s,h4.step s,h⟩⟩
structure Nh where mk ::
  Nf:(List ByteArray)
  Nb:(List ByteArray)
  Nc:(List Nu)
  Nk:(List Np)
  deriving DecidableEq,Inhabited
instance:Rep Nh:=⟨4,fun L w cs d=>∃ v5 v7 v9 v11,SlRd L w v5 d.Nf/\SlRd L w v7 d.Nb/\SlRd L w v9 d.Nc/\SlRd L w v11 d.Nk/\cs=[v5,v7,v9,v11],fun ⟨v5,v7,v9,v11,h6,h8,h10,h12,h⟩=>by subst h;rfl,fun ⟨v5,v7,v9,v11,h6,h8,h10,h12,h⟩ u hu=>by subst h;exact (Qe h6.one1 (Qe h8.one1 (Qe h10.one1 (Qe h12.one1 QH)))) u hu,fun s ⟨v5,v7,v9,v11,h6,h8,h10,h12,h⟩=>⟨v5,v7,v9,v11,h6.step s,h8.step s,h10.step s,h12.step s,h⟩⟩
structure Nl where mk ::
  Ng:(List Int)
  Nq:Int
  deriving DecidableEq,Inhabited
instance:Rep Nl:=⟨2,fun L w cs d=>∃ v13,SlRd L w v13 d.Ng/\cs=[v13,(.int .i64 d.Nq)],fun ⟨v13,h14,h⟩=>by subst h;rfl,fun ⟨v13,h14,h⟩ u hu=>by subst h;exact (Qe h14.one1 (Qe rfl QH)) u hu,fun s ⟨v13,h14,h⟩=>⟨v13,h14.step s,h⟩⟩
structure Ni where mk ::
  Nc:(List Int)
  Nb:(List Nl)
  Nj:Int
  deriving DecidableEq,Inhabited
instance:Rep Ni:=⟨3,fun L w cs d=>∃ v15 v17,SlRd L w v15 d.Nc/\SlRd L w v17 d.Nb/\cs=[v15,v17,(.int .i64 d.Nj)],fun ⟨v15,v17,h16,h18,h⟩=>by subst h;rfl,fun ⟨v15,v17,h16,h18,h⟩ u hu=>by subst h;exact (Qe h16.one1 (Qe h18.one1 (Qe rfl QH))) u hu,fun s ⟨v15,v17,h16,h18,h⟩=>⟨v15,v17,h16.step s,h18.step s,h⟩⟩
structure Nn where mk ::
  Kind:Int
  A:Int
  B:Int
  deriving DecidableEq,Inhabited
instance:Rep Nn:=⟨3,fun _ _ cs d=>cs=[(.int .i64 d.Kind),(.int .i64 d.A),(.int .i64 d.B)],fun h=>by subst h;rfl,fun h=>by subst h;exact (Qe rfl (Qe rfl (Qe rfl QH))),fun _ h=>h⟩
structure Nd where mk ::
  e0:Int
  e1:Int
  e2:Int
  e3:Int
  e4:Int
  deriving DecidableEq,Inhabited
instance:Rep Nd:=⟨5,fun _ _ cs d=>cs=[(.int .i64 d.e0),(.int .i64 d.e1),(.int .i64 d.e2),(.int .i64 d.e3),(.int .i64 d.e4)],fun h=>by subst h;rfl,fun h=>by subst h;exact (Qe rfl (Qe rfl (Qe rfl (Qe rfl (Qe rfl QH))))),fun _ h=>h⟩
structure NC where mk ::
  Event:Nn
  Nj:Int
  Which:Int
  Na:Nd
  Place:Int
  Number:Int
  deriving DecidableEq,Inhabited
instance:Rep NC:=⟨12,fun _ _ cs d=>cs=[(.int .i64 d.Event.Kind),(.int .i64 d.Event.A),(.int .i64 d.Event.B),(.int .i64 d.Nj),(.int .i64 d.Which),(.int .i64 d.Na.e0),(.int .i64 d.Na.e1),(.int .i64 d.Na.e2),(.int .i64 d.Na.e3),(.int .i64 d.Na.e4),(.int .i64 d.Place),(.int .i64 d.Number)],fun h=>by subst h;rfl,fun h=>by subst h;exact (Qe rfl (Qe rfl (Qe rfl (Qe rfl (Qe rfl (Qe rfl (Qe rfl (Qe rfl (Qe rfl (Qe rfl (Qe rfl (Qe rfl QH)))))))))))),fun _ h=>h⟩
structure Nz where mk ::
  e0:Nd
  e1:Nd
  e2:Nd
  deriving DecidableEq,Inhabited
instance:Rep Nz:=⟨15,fun _ _ cs d=>cs=[(.int .i64 d.e0.e0),(.int .i64 d.e0.e1),(.int .i64 d.e0.e2),(.int .i64 d.e0.e3),(.int .i64 d.e0.e4),(.int .i64 d.e1.e0),(.int .i64 d.e1.e1),(.int .i64 d.e1.e2),(.int .i64 d.e1.e3),(.int .i64 d.e1.e4),(.int .i64 d.e2.e0),(.int .i64 d.e2.e1),(.int .i64 d.e2.e2),(.int .i64 d.e2.e3),(.int .i64 d.e2.e4)],fun h=>by subst h;rfl,fun h=>by subst h;exact (Qe rfl (Qe rfl (Qe rfl (Qe rfl (Qe rfl (Qe rfl (Qe rfl (Qe rfl (Qe rfl (Qe rfl (Qe rfl (Qe rfl (Qe rfl (Qe rfl (Qe rfl QH))))))))))))))),fun _ h=>h⟩
structure ND where mk ::
  e0:Int
  e1:Int
  e2:Int
  e3:Int
  deriving DecidableEq,Inhabited
instance:Rep ND:=⟨4,fun _ _ cs d=>cs=[(.int .i64 d.e0),(.int .i64 d.e1),(.int .i64 d.e2),(.int .i64 d.e3)],fun h=>by subst h;rfl,fun h=>by subst h;exact (Qe rfl (Qe rfl (Qe rfl (Qe rfl QH)))),fun _ h=>h⟩
structure Nt where mk ::
  e0:Int
  e1:Int
  deriving DecidableEq,Inhabited
instance:Rep Nt:=⟨2,fun _ _ cs d=>cs=[(.int .i64 d.e0),(.int .i64 d.e1)],fun h=>by subst h;rfl,fun h=>by subst h;exact (Qe rfl (Qe rfl QH)),fun _ h=>h⟩
structure Nr where mk ::
  List:Int
  Number:Int
  deriving DecidableEq,Inhabited
instance:Rep Nr:=⟨2,fun _ _ cs d=>cs=[(.int .i64 d.List),(.int .i64 d.Number)],fun h=>by subst h;rfl,fun h=>by subst h;exact (Qe rfl (Qe rfl QH)),fun _ h=>h⟩
structure Nm where mk ::
  Ny:Nh
  Ni:Ni
  deriving DecidableEq,Inhabited
instance:Rep Nm:=⟨7,fun L w cs d=>∃ v19 v21 v23 v25 v27 v29,SlRd L w v19 d.Ny.Nf/\SlRd L w v21 d.Ny.Nb/\SlRd L w v23 d.Ny.Nc/\SlRd L w v25 d.Ny.Nk/\SlRd L w v27 d.Ni.Nc/\SlRd L w v29 d.Ni.Nb/\cs=[v19,v21,v23,v25,v27,v29,(.int .i64 d.Ni.Nj)],fun ⟨v19,v21,v23,v25,v27,v29,h20,h22,h24,h26,h28,h30,h⟩=>by subst h;rfl,fun ⟨v19,v21,v23,v25,v27,v29,h20,h22,h24,h26,h28,h30,h⟩ u hu=>by subst h;exact (Qe h20.one1 (Qe h22.one1 (Qe h24.one1 (Qe h26.one1 (Qe h28.one1 (Qe h30.one1 (Qe rfl QH))))))) u hu,fun s ⟨v19,v21,v23,v25,v27,v29,h20,h22,h24,h26,h28,h30,h⟩=>⟨v19,v21,v23,v25,v27,v29,h20.step s,h22.step s,h24.step s,h26.step s,h28.step s,h30.step s,h⟩⟩
structure Nw where mk ::
  line:(Option Nm)
  from_:Opq
  NB:Nn
  deriving DecidableEq,Inhabited
instance:Rep Nw:=⟨5,fun L w cs d=>∃ v31 v33,PtRd L w v31 d.line/\OpqRd L w v33 d.from_/\cs=[v31,v33,(.int .i64 d.NB.Kind),(.int .i64 d.NB.A),(.int .i64 d.NB.B)],fun ⟨v31,v33,h32,h34,h⟩=>by subst h;rfl,fun ⟨v31,v33,h32,h34,h⟩ u hu=>by subst h;exact (Qe h32.one1 (Qe h34.one1 (Qe rfl (Qe rfl (Qe rfl QH))))) u hu,fun s ⟨v31,v33,h32,h34,h⟩=>⟨v31,v33,h32.step s,h34.step s,h⟩⟩
structure Ns where mk ::
  NB:Nn
  line:(Option Nm)
  deriving DecidableEq,Inhabited
instance:Rep Ns:=⟨4,fun L w cs d=>∃ v35,PtRd L w v35 d.line/\cs=[(.int .i64 d.NB.Kind),(.int .i64 d.NB.A),(.int .i64 d.NB.B),v35],fun ⟨v35,h36,h⟩=>by subst h;rfl,fun ⟨v35,h36,h⟩ u hu=>by subst h;exact (Qe rfl (Qe rfl (Qe rfl (Qe h36.one1 QH)))) u hu,fun s ⟨v35,h36,h⟩=>⟨v35,h36.step s,h⟩⟩
end Go.Gw
