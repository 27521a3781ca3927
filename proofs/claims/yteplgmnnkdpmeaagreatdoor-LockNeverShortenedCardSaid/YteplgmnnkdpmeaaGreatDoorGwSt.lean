/- The data of the program. No condition. -/
import Derived.Test.YteplgmnnkdpmeaaGreatDoorGwLib5
set_option linter.unusedVariables false
set_option linter.unusedSimpArgs false
set_option linter.unusedSectionVars false
namespace Go.Gw
open Go
structure Nt where mk ::
  Name:ByteArray
  Nl:Int
  deriving DecidableEq,Inhabited
instance:Rep Nt:=⟨2,fun _ _ cs d=>cs=[(.string d.Name),(.int .i64 d.Nl)],fun h=>by subst h;rfl,fun h=>by subst h;exact (Qf rfl (Qf rfl QF)),fun _ h=>h⟩
structure Nn where mk ::
  Name:ByteArray
  Nd:(List Int)
  Nr:(List Int)
  deriving DecidableEq,Inhabited
instance:Rep Nn:=⟨3,fun L w cs d=>∃ v1 v3,SlRd L w v1 d.Nd/\SlRd L w v3 d.Nr/\cs=[(.string d.Name),v1,v3],fun ⟨v1,v3,h2,h4,h⟩=>by subst h;rfl,fun ⟨v1,v3,h2,h4,h⟩ u hu=>by subst h;exact (Qf rfl (Qf h2.one1 (Qf h4.one1 QF))) u hu,fun s ⟨v1,v3,h2,h4,h⟩=>⟨v1,v3,h2.step s,h4.step s,h⟩⟩
structure Ng where mk ::
  Nd:(List ByteArray)
  Na:(List ByteArray)
  Nb:(List Nt)
  Ni:(List Nn)
  deriving DecidableEq,Inhabited
instance:Rep Ng:=⟨4,fun L w cs d=>∃ v5 v7 v9 v11,SlRd L w v5 d.Nd/\SlRd L w v7 d.Na/\SlRd L w v9 d.Nb/\SlRd L w v11 d.Ni/\cs=[v5,v7,v9,v11],fun ⟨v5,v7,v9,v11,h6,h8,h10,h12,h⟩=>by subst h;rfl,fun ⟨v5,v7,v9,v11,h6,h8,h10,h12,h⟩ u hu=>by subst h;exact (Qf h6.one1 (Qf h8.one1 (Qf h10.one1 (Qf h12.one1 QF)))) u hu,fun s ⟨v5,v7,v9,v11,h6,h8,h10,h12,h⟩=>⟨v5,v7,v9,v11,h6.step s,h8.step s,h10.step s,h12.step s,h⟩⟩
structure Nk where mk ::
  Nc:(List Int)
  Nf:Int
  deriving DecidableEq,Inhabited
instance:Rep Nk:=⟨2,fun L w cs d=>∃ v13,SlRd L w v13 d.Nc/\cs=[v13,(.int .i64 d.Nf)],fun ⟨v13,h14,h⟩=>by subst h;rfl,fun ⟨v13,h14,h⟩ u hu=>by subst h;exact (Qf h14.one1 (Qf rfl QF)) u hu,fun s ⟨v13,h14,h⟩=>⟨v13,h14.step s,h⟩⟩
structure Nh where mk ::
  Nb:(List Int)
  Na:(List Nk)
  Nj:Int
  deriving DecidableEq,Inhabited
instance:Rep Nh:=⟨3,fun L w cs d=>∃ v15 v17,SlRd L w v15 d.Nb/\SlRd L w v17 d.Na/\cs=[v15,v17,(.int .i64 d.Nj)],fun ⟨v15,v17,h16,h18,h⟩=>by subst h;rfl,fun ⟨v15,v17,h16,h18,h⟩ u hu=>by subst h;exact (Qf h16.one1 (Qf h18.one1 (Qf rfl QF))) u hu,fun s ⟨v15,v17,h16,h18,h⟩=>⟨v15,v17,h16.step s,h18.step s,h⟩⟩
structure Nq where mk ::
  Kind:Int
  A:Int
  B:Int
  deriving DecidableEq,Inhabited
instance:Rep Nq:=⟨3,fun _ _ cs d=>cs=[(.int .i64 d.Kind),(.int .i64 d.A),(.int .i64 d.B)],fun h=>by subst h;rfl,fun h=>by subst h;exact (Qf rfl (Qf rfl (Qf rfl QF))),fun _ h=>h⟩
structure Nw where mk ::
  e0:Int
  e1:Int
  e2:Int
  e3:Int
  e4:Int
  deriving DecidableEq,Inhabited
instance:Rep Nw:=⟨5,fun _ _ cs d=>cs=[(.int .i64 d.e0),(.int .i64 d.e1),(.int .i64 d.e2),(.int .i64 d.e3),(.int .i64 d.e4)],fun h=>by subst h;rfl,fun h=>by subst h;exact (Qf rfl (Qf rfl (Qf rfl (Qf rfl (Qf rfl QF))))),fun _ h=>h⟩
structure Nz where mk ::
  e0:Nw
  e1:Nw
  e2:Nw
  deriving DecidableEq,Inhabited
instance:Rep Nz:=⟨15,fun _ _ cs d=>cs=[(.int .i64 d.e0.e0),(.int .i64 d.e0.e1),(.int .i64 d.e0.e2),(.int .i64 d.e0.e3),(.int .i64 d.e0.e4),(.int .i64 d.e1.e0),(.int .i64 d.e1.e1),(.int .i64 d.e1.e2),(.int .i64 d.e1.e3),(.int .i64 d.e1.e4),(.int .i64 d.e2.e0),(.int .i64 d.e2.e1),(.int .i64 d.e2.e2),(.int .i64 d.e2.e3),(.int .i64 d.e2.e4)],fun h=>by subst h;rfl,fun h=>by subst h;exact (Qf rfl (Qf rfl (Qf rfl (Qf rfl (Qf rfl (Qf rfl (Qf rfl (Qf rfl (Qf rfl (Qf rfl (Qf rfl (Qf rfl (Qf rfl (Qf rfl (Qf rfl QF))))))))))))))),fun _ h=>h⟩
structure Np where mk ::
  List:Int
  Number:Int
  deriving DecidableEq,Inhabited
instance:Rep Np:=⟨2,fun _ _ cs d=>cs=[(.int .i64 d.List),(.int .i64 d.Number)],fun h=>by subst h;rfl,fun h=>by subst h;exact (Qf rfl (Qf rfl QF)),fun _ h=>h⟩
structure Nm where mk ::
  Nx:Ng
  Nh:Nh
  deriving DecidableEq,Inhabited
instance:Rep Nm:=⟨7,fun L w cs d=>∃ v19 v21 v23 v25 v27 v29,SlRd L w v19 d.Nx.Nd/\SlRd L w v21 d.Nx.Na/\SlRd L w v23 d.Nx.Nb/\SlRd L w v25 d.Nx.Ni/\SlRd L w v27 d.Nh.Nb/\SlRd L w v29 d.Nh.Na/\cs=[v19,v21,v23,v25,v27,v29,(.int .i64 d.Nh.Nj)],fun ⟨v19,v21,v23,v25,v27,v29,h20,h22,h24,h26,h28,h30,h⟩=>by subst h;rfl,fun ⟨v19,v21,v23,v25,v27,v29,h20,h22,h24,h26,h28,h30,h⟩ u hu=>by subst h;exact (Qf h20.one1 (Qf h22.one1 (Qf h24.one1 (Qf h26.one1 (Qf h28.one1 (Qf h30.one1 (Qf rfl QF))))))) u hu,fun s ⟨v19,v21,v23,v25,v27,v29,h20,h22,h24,h26,h28,h30,h⟩=>⟨v19,v21,v23,v25,v27,v29,h20.step s,h22.step s,h24.step s,h26.step s,h28.step s,h30.step s,h⟩⟩
structure Ns where mk ::
  Ny:Nq
  line:(Option Nm)
  deriving DecidableEq,Inhabited
instance:Rep Ns:=⟨4,fun L w cs d=>∃ v31,PtRd L w v31 d.line/\cs=[(.int .i64 d.Ny.Kind),(.int .i64 d.Ny.A),(.int .i64 d.Ny.B),v31],fun ⟨v31,h32,h⟩=>by subst h;rfl,fun ⟨v31,h32,h⟩ u hu=>by subst h;exact (Qf rfl (Qf rfl (Qf rfl (Qf h32.one1 QF)))) u hu,fun s ⟨v31,h32,h⟩=>⟨v31,h32.step s,h⟩⟩
structure Nu where mk ::
  e0:Int
  e1:Int
  deriving DecidableEq,Inhabited
instance:Rep Nu:=⟨2,fun _ _ cs d=>cs=[(.int .i64 d.e0),(.int .i64 d.e1)],fun h=>by subst h;rfl,fun h=>by subst h;exact (Qf rfl (Qf rfl QF)),fun _ h=>h⟩
structure Nv where mk ::
  line:(Option Nm)
  from_:Opq
  Ny:Nq
  deriving DecidableEq,Inhabited
instance:Rep Nv:=⟨5,fun L w cs d=>∃ v33 v35,PtRd L w v33 d.line/\OpqRd L w v35 d.from_/\cs=[v33,v35,(.int .i64 d.Ny.Kind),(.int .i64 d.Ny.A),(.int .i64 d.Ny.B)],fun ⟨v33,v35,h34,h36,h⟩=>by subst h;rfl,fun ⟨v33,v35,h34,h36,h⟩ u hu=>by subst h;exact (Qf h34.one1 (Qf h36.one1 (Qf rfl (Qf rfl (Qf rfl QF))))) u hu,fun s ⟨v33,v35,h34,h36,h⟩=>⟨v33,v35,h34.step s,h36.step s,h⟩⟩
end Go.Gw
