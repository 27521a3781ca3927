/- The data of the program. No condition. -/
import Derived.Test.YtbigilldfhjedaaGreatDoorGwLib5
set_option linter.unusedVariables false
set_option linter.unusedSimpArgs false
set_option linter.unusedSectionVars false
namespace Go.Gw
open Go
structure Ns where mk ::
  Name:ByteArray
  Nq:Int
  deriving DecidableEq,Inhabited
instance:Rep Ns:=⟨2,fun _ _ cs d=>cs=[(.string d.Name),(.int .i64 d.Nq)],fun h=>by subst h;rfl,fun h=>by subst h;exact (Qg rfl (Qg rfl QF)),fun _ h=>h⟩
structure Nr where mk ::
  Name:ByteArray
  Nc:(List Int)
  Nu:(List Int)
  deriving DecidableEq,Inhabited
instance:Rep Nr:=⟨3,fun L w cs d=>∃ v1 v3,SlRd L w v1 d.Nc/\SlRd L w v3 d.Nu/\cs=[(.string d.Name),v1,v3],fun ⟨v1,v3,h2,h4,h⟩=>by subst h;rfl,fun ⟨v1,v3,h2,h4,h⟩ u hu=>by subst h;exact (Qg rfl (Qg h2.one1 (Qg h4.one1 QF))) u hu,fun s ⟨v1,v3,h2,h4,h⟩=>⟨v1,v3,h2.step s,h4.step s,h⟩⟩
structure Nf where mk ::
  Nc:(List ByteArray)
  Nb:(List ByteArray)
  Na:(List Ns)
  Nk:(List Nr)
  deriving DecidableEq,Inhabited
instance:Rep Nf:=⟨4,fun L w cs d=>∃ v5 v7 v9 v11,SlRd L w v5 d.Nc/\SlRd L w v7 d.Nb/\SlRd L w v9 d.Na/\SlRd L w v11 d.Nk/\cs=[v5,v7,v9,v11],fun ⟨v5,v7,v9,v11,h6,h8,h10,h12,h⟩=>by subst h;rfl,fun ⟨v5,v7,v9,v11,h6,h8,h10,h12,h⟩ u hu=>by subst h;exact (Qg h6.one1 (Qg h8.one1 (Qg h10.one1 (Qg h12.one1 QF)))) u hu,fun s ⟨v5,v7,v9,v11,h6,h8,h10,h12,h⟩=>⟨v5,v7,v9,v11,h6.step s,h8.step s,h10.step s,h12.step s,h⟩⟩
structure Nj where mk ::
  Kind:Int
  A:Int
  B:Int
  deriving DecidableEq,Inhabited
instance:Rep Nj:=⟨3,fun _ _ cs d=>cs=[(.int .i64 d.Kind),(.int .i64 d.A),(.int .i64 d.B)],fun h=>by subst h;rfl,fun h=>by subst h;exact (Qg rfl (Qg rfl (Qg rfl QF))),fun _ h=>h⟩
structure Nl where mk ::
  Nd:(List Int)
  Nm:Int
  deriving DecidableEq,Inhabited
instance:Rep Nl:=⟨2,fun L w cs d=>∃ v13,SlRd L w v13 d.Nd/\cs=[v13,(.int .i64 d.Nm)],fun ⟨v13,h14,h⟩=>by subst h;rfl,fun ⟨v13,h14,h⟩ u hu=>by subst h;exact (Qg h14.one1 (Qg rfl QF)) u hu,fun s ⟨v13,h14,h⟩=>⟨v13,h14.step s,h⟩⟩
structure Ng where mk ::
  Na:(List Int)
  Nb:(List Nl)
  Ni:Int
  deriving DecidableEq,Inhabited
instance:Rep Ng:=⟨3,fun L w cs d=>∃ v15 v17,SlRd L w v15 d.Na/\SlRd L w v17 d.Nb/\cs=[v15,v17,(.int .i64 d.Ni)],fun ⟨v15,v17,h16,h18,h⟩=>by subst h;rfl,fun ⟨v15,v17,h16,h18,h⟩ u hu=>by subst h;exact (Qg h16.one1 (Qg h18.one1 (Qg rfl QF))) u hu,fun s ⟨v15,v17,h16,h18,h⟩=>⟨v15,v17,h16.step s,h18.step s,h⟩⟩
structure NB where mk ::
  Event:Nj
  State:Ng
  deriving DecidableEq,Inhabited
instance:Rep NB:=⟨6,fun L w cs d=>∃ v19 v21,SlRd L w v19 d.State.Na/\SlRd L w v21 d.State.Nb/\cs=[(.int .i64 d.Event.Kind),(.int .i64 d.Event.A),(.int .i64 d.Event.B),v19,v21,(.int .i64 d.State.Ni)],fun ⟨v19,v21,h20,h22,h⟩=>by subst h;rfl,fun ⟨v19,v21,h20,h22,h⟩ u hu=>by subst h;exact (Qg rfl (Qg rfl (Qg rfl (Qg h20.one1 (Qg h22.one1 (Qg rfl QF)))))) u hu,fun s ⟨v19,v21,h20,h22,h⟩=>⟨v19,v21,h20.step s,h22.step s,h⟩⟩
structure Nz where mk ::
  e0:Int
  e1:Int
  e2:Int
  e3:Int
  e4:Int
  e5:Int
  deriving DecidableEq,Inhabited
instance:Rep Nz:=⟨6,fun _ _ cs d=>cs=[(.int .i64 d.e0),(.int .i64 d.e1),(.int .i64 d.e2),(.int .i64 d.e3),(.int .i64 d.e4),(.int .i64 d.e5)],fun h=>by subst h;rfl,fun h=>by subst h;exact (Qg rfl (Qg rfl (Qg rfl (Qg rfl (Qg rfl (Qg rfl QF)))))),fun _ h=>h⟩
structure Nh where mk ::
  e0:Int
  e1:Int
  e2:Int
  e3:Int
  e4:Int
  deriving DecidableEq,Inhabited
instance:Rep Nh:=⟨5,fun _ _ cs d=>cs=[(.int .i64 d.e0),(.int .i64 d.e1),(.int .i64 d.e2),(.int .i64 d.e3),(.int .i64 d.e4)],fun h=>by subst h;rfl,fun h=>by subst h;exact (Qg rfl (Qg rfl (Qg rfl (Qg rfl (Qg rfl QF))))),fun _ h=>h⟩
structure Nx where mk ::
  e0:Nh
  e1:Nh
  e2:Nh
  deriving DecidableEq,Inhabited
instance:Rep Nx:=⟨15,fun _ _ cs d=>cs=[(.int .i64 d.e0.e0),(.int .i64 d.e0.e1),(.int .i64 d.e0.e2),(.int .i64 d.e0.e3),(.int .i64 d.e0.e4),(.int .i64 d.e1.e0),(.int .i64 d.e1.e1),(.int .i64 d.e1.e2),(.int .i64 d.e1.e3),(.int .i64 d.e1.e4),(.int .i64 d.e2.e0),(.int .i64 d.e2.e1),(.int .i64 d.e2.e2),(.int .i64 d.e2.e3),(.int .i64 d.e2.e4)],fun h=>by subst h;rfl,fun h=>by subst h;exact (Qg rfl (Qg rfl (Qg rfl (Qg rfl (Qg rfl (Qg rfl (Qg rfl (Qg rfl (Qg rfl (Qg rfl (Qg rfl (Qg rfl (Qg rfl (Qg rfl (Qg rfl QF))))))))))))))),fun _ h=>h⟩
structure Np where mk ::
  List:Int
  Number:Int
  deriving DecidableEq,Inhabited
instance:Rep Np:=⟨2,fun _ _ cs d=>cs=[(.int .i64 d.List),(.int .i64 d.Number)],fun h=>by subst h;rfl,fun h=>by subst h;exact (Qg rfl (Qg rfl QF)),fun _ h=>h⟩
structure Nn where mk ::
  Nw:Nf
  Ng:Ng
  deriving DecidableEq,Inhabited
instance:Rep Nn:=⟨7,fun L w cs d=>∃ v23 v25 v27 v29 v31 v33,SlRd L w v23 d.Nw.Nc/\SlRd L w v25 d.Nw.Nb/\SlRd L w v27 d.Nw.Na/\SlRd L w v29 d.Nw.Nk/\SlRd L w v31 d.Ng.Na/\SlRd L w v33 d.Ng.Nb/\cs=[v23,v25,v27,v29,v31,v33,(.int .i64 d.Ng.Ni)],fun ⟨v23,v25,v27,v29,v31,v33,h24,h26,h28,h30,h32,h34,h⟩=>by subst h;rfl,fun ⟨v23,v25,v27,v29,v31,v33,h24,h26,h28,h30,h32,h34,h⟩ u hu=>by subst h;exact (Qg h24.one1 (Qg h26.one1 (Qg h28.one1 (Qg h30.one1 (Qg h32.one1 (Qg h34.one1 (Qg rfl QF))))))) u hu,fun s ⟨v23,v25,v27,v29,v31,v33,h24,h26,h28,h30,h32,h34,h⟩=>⟨v23,v25,v27,v29,v31,v33,h24.step s,h26.step s,h28.step s,h30.step s,h32.step s,h34.step s,h⟩⟩
structure NC where mk ::
  e0:Int
  e1:Int
  deriving DecidableEq,Inhabited
instance:Rep NC:=⟨2,fun _ _ cs d=>cs=[(.int .i64 d.e0),(.int .i64 d.e1)],fun h=>by subst h;rfl,fun h=>by subst h;exact (Qg rfl (Qg rfl QF)),fun _ h=>h⟩
structure Nv where mk ::
  line:(Option Nn)
  from_:Opq
  Ny:Nj
  deriving DecidableEq,Inhabited
instance:Rep Nv:=⟨5,fun L w cs d=>∃ v35 v37,PtRd L w v35 d.line/\OpqRd L w v37 d.from_/\cs=[v35,v37,(.int .i64 d.Ny.Kind),(.int .i64 d.Ny.A),(.int .i64 d.Ny.B)],fun ⟨v35,v37,h36,h38,h⟩=>by subst h;rfl,fun ⟨v35,v37,h36,h38,h⟩ u hu=>by subst h;exact (Qg h36.one1 (Qg h38.one1 (Qg rfl (Qg rfl (Qg rfl QF))))) u hu,fun s ⟨v35,v37,h36,h38,h⟩=>⟨v35,v37,h36.step s,h38.step s,h⟩⟩
structure Nt where mk ::
  Ny:Nj
  line:(Option Nn)
  deriving DecidableEq,Inhabited
instance:Rep Nt:=⟨4,fun L w cs d=>∃ v39,PtRd L w v39 d.line/\cs=[(.int .i64 d.Ny.Kind),(.int .i64 d.Ny.A),(.int .i64 d.Ny.B),v39],fun ⟨v39,h40,h⟩=>by subst h;rfl,fun ⟨v39,h40,h⟩ u hu=>by subst h;exact (Qg rfl (Qg rfl (Qg rfl (Qg h40.one1 QF)))) u hu,fun s ⟨v39,h40,h⟩=>⟨v39,h40.step s,h⟩⟩
def gtab0 (w:World):Prop:=At w ⟨0,0,none⟩ (([(ByteArray.mk #[112,108,97,99,101]),(ByteArray.mk #[114,101,113,117,101,115,116]),(ByteArray.mk #[116,117,114,110]),(ByteArray.mk #[101,110,116,101,114]),(ByteArray.mk #[108,101,97,118,101]),(ByteArray.mk #[103,105,118,101]),(ByteArray.mk #[116,97,107,101])]:List ByteArray).map Value.string)
theorem gtab0.ext {w w':World} (h:gtab0 w) (e:Ext w w'):gtab0 w':=At.ext e h
end Go.Gw
