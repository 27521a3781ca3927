/- The data of the program. No condition. -/
import Derived.Test.YtkdfngdamkbcnaaGreatDoorGwLib5
set_option linter.unusedVariables false
set_option linter.unusedSimpArgs false
set_option linter.unusedSectionVars false
namespace Go.Gw
open Go
structure Nm where mk ::
  Name:ByteArray
  Nn:Int
  deriving DecidableEq,Inhabited
instance:Rep Nm:=⟨2,fun _ _ cs d=>cs=[(.string d.Name),(.int .i64 d.Nn)],fun h=>by subst h;rfl,fun h=>by subst h;exact (Qi rfl (Qi rfl QH)),fun _ h=>h⟩
structure Ni where mk ::
  Name:ByteArray
  Nb:(List Int)
  Nq:(List Int)
  deriving DecidableEq,Inhabited
instance:Rep Ni:=⟨3,fun L w cs d=>∃ v1 v3,SlRd L w v1 d.Nb/\SlRd L w v3 d.Nq/\cs=[(.string d.Name),v1,v3],fun ⟨v1,v3,h2,h4,h⟩=>by subst h;rfl,fun ⟨v1,v3,h2,h4,h⟩ u hu=>by subst h;exact (Qi rfl (Qi h2.one1 (Qi h4.one1 QH))) u hu,fun s ⟨v1,v3,h2,h4,h⟩=>⟨v1,v3,h2.step s,h4.step s,h⟩⟩
structure Nd where mk ::
  Nb:(List ByteArray)
  Ng:(List ByteArray)
  Nf:(List Nm)
  Nc:(List Ni)
  deriving DecidableEq,Inhabited
instance:Rep Nd:=⟨4,fun L w cs d=>∃ v5 v7 v9 v11,SlRd L w v5 d.Nb/\SlRd L w v7 d.Ng/\SlRd L w v9 d.Nf/\SlRd L w v11 d.Nc/\cs=[v5,v7,v9,v11],fun ⟨v5,v7,v9,v11,h6,h8,h10,h12,h⟩=>by subst h;rfl,fun ⟨v5,v7,v9,v11,h6,h8,h10,h12,h⟩ u hu=>by subst h;exact (Qi h6.one1 (Qi h8.one1 (Qi h10.one1 (Qi h12.one1 QH)))) u hu,fun s ⟨v5,v7,v9,v11,h6,h8,h10,h12,h⟩=>⟨v5,v7,v9,v11,h6.step s,h8.step s,h10.step s,h12.step s,h⟩⟩
structure Nr where mk ::
  Nt:(List Int)
  Nw:Int
  deriving DecidableEq,Inhabited
instance:Rep Nr:=⟨2,fun L w cs d=>∃ v13,SlRd L w v13 d.Nt/\cs=[v13,(.int .i64 d.Nw)],fun ⟨v13,h14,h⟩=>by subst h;rfl,fun ⟨v13,h14,h⟩ u hu=>by subst h;exact (Qi h14.one1 (Qi rfl QH)) u hu,fun s ⟨v13,h14,h⟩=>⟨v13,h14.step s,h⟩⟩
structure Nj where mk ::
  Nf:(List Int)
  Ng:(List Nr)
  Nu:Int
  deriving DecidableEq,Inhabited
instance:Rep Nj:=⟨3,fun L w cs d=>∃ v15 v17,SlRd L w v15 d.Nf/\SlRd L w v17 d.Ng/\cs=[v15,v17,(.int .i64 d.Nu)],fun ⟨v15,v17,h16,h18,h⟩=>by subst h;rfl,fun ⟨v15,v17,h16,h18,h⟩ u hu=>by subst h;exact (Qi h16.one1 (Qi h18.one1 (Qi rfl QH))) u hu,fun s ⟨v15,v17,h16,h18,h⟩=>⟨v15,v17,h16.step s,h18.step s,h⟩⟩
structure Ns where mk ::
  Kind:Int
  A:Int
  B:Int
  deriving DecidableEq,Inhabited
instance:Rep Ns:=⟨3,fun _ _ cs d=>cs=[(.int .i64 d.Kind),(.int .i64 d.A),(.int .i64 d.B)],fun h=>by subst h;rfl,fun h=>by subst h;exact (Qi rfl (Qi rfl (Qi rfl QH))),fun _ h=>h⟩
structure Nx where mk ::
  e0:Int
  e1:Int
  e2:Int
  e3:Int
  e4:Int
  deriving DecidableEq,Inhabited
instance:Rep Nx:=⟨5,fun _ _ cs d=>cs=[(.int .i64 d.e0),(.int .i64 d.e1),(.int .i64 d.e2),(.int .i64 d.e3),(.int .i64 d.e4)],fun h=>by subst h;rfl,fun h=>by subst h;exact (Qi rfl (Qi rfl (Qi rfl (Qi rfl (Qi rfl QH))))),fun _ h=>h⟩
structure NC where mk ::
  Event:Ns
  Nu:Int
  Which:Int
  Nz:Nx
  Place:Int
  Number:Int
  deriving DecidableEq,Inhabited
instance:Rep NC:=⟨12,fun _ _ cs d=>cs=[(.int .i64 d.Event.Kind),(.int .i64 d.Event.A),(.int .i64 d.Event.B),(.int .i64 d.Nu),(.int .i64 d.Which),(.int .i64 d.Nz.e0),(.int .i64 d.Nz.e1),(.int .i64 d.Nz.e2),(.int .i64 d.Nz.e3),(.int .i64 d.Nz.e4),(.int .i64 d.Place),(.int .i64 d.Number)],fun h=>by subst h;rfl,fun h=>by subst h;exact (Qi rfl (Qi rfl (Qi rfl (Qi rfl (Qi rfl (Qi rfl (Qi rfl (Qi rfl (Qi rfl (Qi rfl (Qi rfl (Qi rfl QH)))))))))))),fun _ h=>h⟩
structure ND where mk ::
  e0:Nx
  e1:Nx
  e2:Nx
  deriving DecidableEq,Inhabited
instance:Rep ND:=⟨15,fun _ _ cs d=>cs=[(.int .i64 d.e0.e0),(.int .i64 d.e0.e1),(.int .i64 d.e0.e2),(.int .i64 d.e0.e3),(.int .i64 d.e0.e4),(.int .i64 d.e1.e0),(.int .i64 d.e1.e1),(.int .i64 d.e1.e2),(.int .i64 d.e1.e3),(.int .i64 d.e1.e4),(.int .i64 d.e2.e0),(.int .i64 d.e2.e1),(.int .i64 d.e2.e2),(.int .i64 d.e2.e3),(.int .i64 d.e2.e4)],fun h=>by subst h;rfl,fun h=>by subst h;exact (Qi rfl (Qi rfl (Qi rfl (Qi rfl (Qi rfl (Qi rfl (Qi rfl (Qi rfl (Qi rfl (Qi rfl (Qi rfl (Qi rfl (Qi rfl (Qi rfl (Qi rfl QH))))))))))))))),fun _ h=>h⟩
structure NB where mk ::
  e0:Int
  e1:Int
  e2:Int
  e3:Int
  deriving DecidableEq,Inhabited
instance:Rep NB:=⟨4,fun _ _ cs d=>cs=[(.int .i64 d.e0),(.int .i64 d.e1),(.int .i64 d.e2),(.int .i64 d.e3)],fun h=>by subst h;rfl,fun h=>by subst h;exact (Qi rfl (Qi rfl (Qi rfl (Qi rfl QH)))),fun _ h=>h⟩
structure Na where mk ::
  e0:Int
  e1:Int
  deriving DecidableEq,Inhabited
instance:Rep Na:=⟨2,fun _ _ cs d=>cs=[(.int .i64 d.e0),(.int .i64 d.e1)],fun h=>by subst h;rfl,fun h=>by subst h;exact (Qi rfl (Qi rfl QH)),fun _ h=>h⟩
structure Nh where mk ::
  List:Int
  Number:Int
  deriving DecidableEq,Inhabited
instance:Rep Nh:=⟨2,fun _ _ cs d=>cs=[(.int .i64 d.List),(.int .i64 d.Number)],fun h=>by subst h;rfl,fun h=>by subst h;exact (Qi rfl (Qi rfl QH)),fun _ h=>h⟩
structure Nk where mk ::
  Nv:Nd
  Nj:Nj
  deriving DecidableEq,Inhabited
instance:Rep Nk:=⟨7,fun L w cs d=>∃ v19 v21 v23 v25 v27 v29,SlRd L w v19 d.Nv.Nb/\SlRd L w v21 d.Nv.Ng/\SlRd L w v23 d.Nv.Nf/\SlRd L w v25 d.Nv.Nc/\SlRd L w v27 d.Nj.Nf/\SlRd L w v29 d.Nj.Ng/\cs=[v19,v21,v23,v25,v27,v29,(.int .i64 d.Nj.Nu)],fun ⟨v19,v21,v23,v25,v27,v29,h20,h22,h24,h26,h28,h30,h⟩=>by subst h;rfl,fun ⟨v19,v21,v23,v25,v27,v29,h20,h22,h24,h26,h28,h30,h⟩ u hu=>by subst h;exact (Qi h20.one1 (Qi h22.one1 (Qi h24.one1 (Qi h26.one1 (Qi h28.one1 (Qi h30.one1 (Qi rfl QH))))))) u hu,fun s ⟨v19,v21,v23,v25,v27,v29,h20,h22,h24,h26,h28,h30,h⟩=>⟨v19,v21,v23,v25,v27,v29,h20.step s,h22.step s,h24.step s,h26.step s,h28.step s,h30.step s,h⟩⟩
structure Np where mk ::
  line:(Option Nk)
  from_:Opq
  Ny:Ns
  deriving DecidableEq,Inhabited
instance:Rep Np:=⟨5,fun L w cs d=>∃ v31 v33,PtRd L w v31 d.line/\OpqRd L w v33 d.from_/\cs=[v31,v33,(.int .i64 d.Ny.Kind),(.int .i64 d.Ny.A),(.int .i64 d.Ny.B)],fun ⟨v31,v33,h32,h34,h⟩=>by subst h;rfl,fun ⟨v31,v33,h32,h34,h⟩ u hu=>by subst h;exact (Qi h32.one1 (Qi h34.one1 (Qi rfl (Qi rfl (Qi rfl QH))))) u hu,fun s ⟨v31,v33,h32,h34,h⟩=>⟨v31,v33,h32.step s,h34.step s,h⟩⟩
structure Nl where mk ::
  Ny:Ns
  line:(Option Nk)
  deriving DecidableEq,Inhabited
instance:Rep Nl:=⟨4,fun L w cs d=>∃ v35,PtRd L w v35 d.line/\cs=[(.int .i64 d.Ny.Kind),(.int .i64 d.Ny.A),(.int .i64 d.Ny.B),v35],fun ⟨v35,h36,h⟩=>by subst h;rfl,fun ⟨v35,h36,h⟩ u hu=>by subst h;exact (Qi rfl (Qi rfl (Qi rfl (Qi h36.one1 QH)))) u hu,fun s ⟨v35,h36,h⟩=>⟨v35,h36.step s,h⟩⟩
end Go.Gw
