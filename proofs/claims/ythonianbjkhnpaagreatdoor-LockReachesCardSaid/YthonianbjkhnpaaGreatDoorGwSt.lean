/- The data of the program. No condition. -/
import Derived.Test.YthonianbjkhnpaaGreatDoorGwLib5
set_option linter.unusedVariables false
set_option linter.unusedSimpArgs false
set_option linter.unusedSectionVars false
namespace Go.Gw
open Go
structure Nu where mk ::
  Name:ByteArray
  Np:Int
  deriving DecidableEq,Inhabited
instance:Rep Nu:=⟨2,fun _ _ cs d=>cs=[(.string d.Name),(.int .i64 d.Np)],fun h=>by subst h;rfl,fun h=>by subst h;exact (Qg rfl (Qg rfl QD)),fun _ h=>h⟩
structure Nm where mk ::
  Name:ByteArray
  Nc:(List Int)
  Nq:(List Int)
  deriving DecidableEq,Inhabited
instance:Rep Nm:=⟨3,fun L w cs d=>∃ v1 v3,SlRd L w v1 d.Nc/\SlRd L w v3 d.Nq/\cs=[(.string d.Name),v1,v3],fun ⟨v1,v3,h2,h4,h⟩=>by subst h;rfl,fun ⟨v1,v3,h2,h4,h⟩ u hu=>by subst h;exact (Qg rfl (Qg h2.one1 (Qg h4.one1 QD))) u hu,fun s ⟨v1,v3,h2,h4,h⟩=>⟨v1,v3,h2.step s,h4.step s,h⟩⟩
structure Nd where mk ::
  Nc:(List ByteArray)
  Nb:(List ByteArray)
  Na:(List Nu)
  Nh:(List Nm)
  deriving DecidableEq,Inhabited
instance:Rep Nd:=⟨4,fun L w cs d=>∃ v5 v7 v9 v11,SlRd L w v5 d.Nc/\SlRd L w v7 d.Nb/\SlRd L w v9 d.Na/\SlRd L w v11 d.Nh/\cs=[v5,v7,v9,v11],fun ⟨v5,v7,v9,v11,h6,h8,h10,h12,h⟩=>by subst h;rfl,fun ⟨v5,v7,v9,v11,h6,h8,h10,h12,h⟩ u hu=>by subst h;exact (Qg h6.one1 (Qg h8.one1 (Qg h10.one1 (Qg h12.one1 QD)))) u hu,fun s ⟨v5,v7,v9,v11,h6,h8,h10,h12,h⟩=>⟨v5,v7,v9,v11,h6.step s,h8.step s,h10.step s,h12.step s,h⟩⟩
structure Nl where mk ::
  Ng:(List Int)
  Nk:Int
  deriving DecidableEq,Inhabited
instance:Rep Nl:=⟨2,fun L w cs d=>∃ v13,SlRd L w v13 d.Ng/\cs=[v13,(.int .i64 d.Nk)],fun ⟨v13,h14,h⟩=>by subst h;rfl,fun ⟨v13,h14,h⟩ u hu=>by subst h;exact (Qg h14.one1 (Qg rfl QD)) u hu,fun s ⟨v13,h14,h⟩=>⟨v13,h14.step s,h⟩⟩
structure Nf where mk ::
  Na:(List Int)
  Nb:(List Nl)
  Ni:Int
  deriving DecidableEq,Inhabited
instance:Rep Nf:=⟨3,fun L w cs d=>∃ v15 v17,SlRd L w v15 d.Na/\SlRd L w v17 d.Nb/\cs=[v15,v17,(.int .i64 d.Ni)],fun ⟨v15,v17,h16,h18,h⟩=>by subst h;rfl,fun ⟨v15,v17,h16,h18,h⟩ u hu=>by subst h;exact (Qg h16.one1 (Qg h18.one1 (Qg rfl QD))) u hu,fun s ⟨v15,v17,h16,h18,h⟩=>⟨v15,v17,h16.step s,h18.step s,h⟩⟩
structure Nv where mk ::
  e0:Int
  e1:Int
  deriving DecidableEq,Inhabited
instance:Rep Nv:=⟨2,fun _ _ cs d=>cs=[(.int .i64 d.e0),(.int .i64 d.e1)],fun h=>by subst h;rfl,fun h=>by subst h;exact (Qg rfl (Qg rfl QD)),fun _ h=>h⟩
structure Nj where mk ::
  Kind:Int
  A:Int
  B:Int
  deriving DecidableEq,Inhabited
instance:Rep Nj:=⟨3,fun _ _ cs d=>cs=[(.int .i64 d.Kind),(.int .i64 d.A),(.int .i64 d.B)],fun h=>by subst h;rfl,fun h=>by subst h;exact (Qg rfl (Qg rfl (Qg rfl QD))),fun _ h=>h⟩
structure Nx where mk ::
  e0:Int
  e1:Int
  e2:Int
  e3:Int
  e4:Int
  deriving DecidableEq,Inhabited
instance:Rep Nx:=⟨5,fun _ _ cs d=>cs=[(.int .i64 d.e0),(.int .i64 d.e1),(.int .i64 d.e2),(.int .i64 d.e3),(.int .i64 d.e4)],fun h=>by subst h;rfl,fun h=>by subst h;exact (Qg rfl (Qg rfl (Qg rfl (Qg rfl (Qg rfl QD))))),fun _ h=>h⟩
structure Nn where mk ::
  List:Int
  Number:Int
  deriving DecidableEq,Inhabited
instance:Rep Nn:=⟨2,fun _ _ cs d=>cs=[(.int .i64 d.List),(.int .i64 d.Number)],fun h=>by subst h;rfl,fun h=>by subst h;exact (Qg rfl (Qg rfl QD)),fun _ h=>h⟩
structure Nt where mk ::
  Nw:Nd
  Nf:Nf
  deriving DecidableEq,Inhabited
instance:Rep Nt:=⟨7,fun L w cs d=>∃ v19 v21 v23 v25 v27 v29,SlRd L w v19 d.Nw.Nc/\SlRd L w v21 d.Nw.Nb/\SlRd L w v23 d.Nw.Na/\SlRd L w v25 d.Nw.Nh/\SlRd L w v27 d.Nf.Na/\SlRd L w v29 d.Nf.Nb/\cs=[v19,v21,v23,v25,v27,v29,(.int .i64 d.Nf.Ni)],fun ⟨v19,v21,v23,v25,v27,v29,h20,h22,h24,h26,h28,h30,h⟩=>by subst h;rfl,fun ⟨v19,v21,v23,v25,v27,v29,h20,h22,h24,h26,h28,h30,h⟩ u hu=>by subst h;exact (Qg h20.one1 (Qg h22.one1 (Qg h24.one1 (Qg h26.one1 (Qg h28.one1 (Qg h30.one1 (Qg rfl QD))))))) u hu,fun s ⟨v19,v21,v23,v25,v27,v29,h20,h22,h24,h26,h28,h30,h⟩=>⟨v19,v21,v23,v25,v27,v29,h20.step s,h22.step s,h24.step s,h26.step s,h28.step s,h30.step s,h⟩⟩
structure Ns where mk ::
  line:(Option Nt)
  from_:Opq
  Ny:Nj
  deriving DecidableEq,Inhabited
instance:Rep Ns:=⟨5,fun L w cs d=>∃ v31 v33,PtRd L w v31 d.line/\OpqRd L w v33 d.from_/\cs=[v31,v33,(.int .i64 d.Ny.Kind),(.int .i64 d.Ny.A),(.int .i64 d.Ny.B)],fun ⟨v31,v33,h32,h34,h⟩=>by subst h;rfl,fun ⟨v31,v33,h32,h34,h⟩ u hu=>by subst h;exact (Qg h32.one1 (Qg h34.one1 (Qg rfl (Qg rfl (Qg rfl QD))))) u hu,fun s ⟨v31,v33,h32,h34,h⟩=>⟨v31,v33,h32.step s,h34.step s,h⟩⟩
structure Nr where mk ::
  Ny:Nj
  line:(Option Nt)
  deriving DecidableEq,Inhabited
instance:Rep Nr:=⟨4,fun L w cs d=>∃ v35,PtRd L w v35 d.line/\cs=[(.int .i64 d.Ny.Kind),(.int .i64 d.Ny.A),(.int .i64 d.Ny.B),v35],fun ⟨v35,h36,h⟩=>by subst h;rfl,fun ⟨v35,h36,h⟩ u hu=>by subst h;exact (Qg rfl (Qg rfl (Qg rfl (Qg h36.one1 QD)))) u hu,fun s ⟨v35,h36,h⟩=>⟨v35,h36.step s,h⟩⟩
end Go.Gw
