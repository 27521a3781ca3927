/- The data of the program. No condition. -/
import Derived.Test.YthonianbjkhnpaaGreatDoorGwLib5
set_option linter.unusedVariables false
set_option linter.unusedSimpArgs false
set_option linter.unusedSectionVars false
namespace Go.Gw
open Go
structure Nv where mk ::
  Name:ByteArray
  Nn:Int
  deriving DecidableEq,Inhabited
instance:Rep Nv:=⟨2,fun _ _ cs d=>cs=[(.string d.Name),(.int .i64 d.Nn)],fun h=>by subst h;rfl,fun h=>by subst h;exact (Qj rfl (Qj rfl QJ)),fun _ h=>h⟩
structure Nr where mk ::
  Name:ByteArray
  Nf:(List Int)
  Ns:(List Int)
  deriving DecidableEq,Inhabited
instance:Rep Nr:=⟨3,fun L w cs d=>∃ v1 v3,SlRd L w v1 d.Nf/\SlRd L w v3 d.Ns/\cs=[(.string d.Name),v1,v3],fun ⟨v1,v3,h2,h4,h⟩=>by subst h;rfl,fun ⟨v1,v3,h2,h4,h⟩ u hu=>by subst h;exact (Qj rfl (Qj h2.one1 (Qj h4.one1 QJ))) u hu,fun s ⟨v1,v3,h2,h4,h⟩=>⟨v1,v3,h2.step s,h4.step s,h⟩⟩
structure Ng where mk ::
  Nf:(List ByteArray)
  Na:(List ByteArray)
  Nb:(List Nv)
  Ni:(List Nr)
  deriving DecidableEq,Inhabited
instance:Rep Ng:=⟨4,fun L w cs d=>∃ v5 v7 v9 v11,SlRd L w v5 d.Nf/\SlRd L w v7 d.Na/\SlRd L w v9 d.Nb/\SlRd L w v11 d.Ni/\cs=[v5,v7,v9,v11],fun ⟨v5,v7,v9,v11,h6,h8,h10,h12,h⟩=>by subst h;rfl,fun ⟨v5,v7,v9,v11,h6,h8,h10,h12,h⟩ u hu=>by subst h;exact (Qj h6.one1 (Qj h8.one1 (Qj h10.one1 (Qj h12.one1 QJ)))) u hu,fun s ⟨v5,v7,v9,v11,h6,h8,h10,h12,h⟩=>⟨v5,v7,v9,v11,h6.step s,h8.step s,h10.step s,h12.step s,h⟩⟩
structure Nm where mk ::
  Nc:(List Int)
  Nk:Int
  deriving DecidableEq,Inhabited
instance:Rep Nm:=⟨2,fun L w cs d=>∃ v13,SlRd L w v13 d.Nc/\cs=[v13,(.int .i64 d.Nk)],fun ⟨v13,h14,h⟩=>by subst h;rfl,fun ⟨v13,h14,h⟩ u hu=>by subst h;exact (Qj h14.one1 (Qj rfl QJ)) u hu,fun s ⟨v13,h14,h⟩=>⟨v13,h14.step s,h⟩⟩
structure Nd where mk ::
  Nb:(List Int)
  Na:(List Nm)
  Nh:Int
  deriving DecidableEq,Inhabited
instance:Rep Nd:=⟨3,fun L w cs d=>∃ v15 v17,SlRd L w v15 d.Nb/\SlRd L w v17 d.Na/\cs=[v15,v17,(.int .i64 d.Nh)],fun ⟨v15,v17,h16,h18,h⟩=>by subst h;rfl,fun ⟨v15,v17,h16,h18,h⟩ u hu=>by subst h;exact (Qj h16.one1 (Qj h18.one1 (Qj rfl QJ))) u hu,fun s ⟨v15,v17,h16,h18,h⟩=>⟨v15,v17,h16.step s,h18.step s,h⟩⟩
structure Nq where mk ::
  e0:Int
  e1:Int
  deriving DecidableEq,Inhabited
instance:Rep Nq:=⟨2,fun _ _ cs d=>cs=[(.int .i64 d.e0),(.int .i64 d.e1)],fun h=>by subst h;rfl,fun h=>by subst h;exact (Qj rfl (Qj rfl QJ)),fun _ h=>h⟩
structure Nj where mk ::
  Kind:Int
  A:Int
  B:Int
  deriving DecidableEq,Inhabited
instance:Rep Nj:=⟨3,fun _ _ cs d=>cs=[(.int .i64 d.Kind),(.int .i64 d.A),(.int .i64 d.B)],fun h=>by subst h;rfl,fun h=>by subst h;exact (Qj rfl (Qj rfl (Qj rfl QJ))),fun _ h=>h⟩
structure Ny where mk ::
  e0:Int
  e1:Int
  e2:Int
  e3:Int
  e4:Int
  deriving DecidableEq,Inhabited
instance:Rep Ny:=⟨5,fun _ _ cs d=>cs=[(.int .i64 d.e0),(.int .i64 d.e1),(.int .i64 d.e2),(.int .i64 d.e3),(.int .i64 d.e4)],fun h=>by subst h;rfl,fun h=>by subst h;exact (Qj rfl (Qj rfl (Qj rfl (Qj rfl (Qj rfl QJ))))),fun _ h=>h⟩
structure Nt where mk ::
  List:Int
  Number:Int
  deriving DecidableEq,Inhabited
instance:Rep Nt:=⟨2,fun _ _ cs d=>cs=[(.int .i64 d.List),(.int .i64 d.Number)],fun h=>by subst h;rfl,fun h=>by subst h;exact (Qj rfl (Qj rfl QJ)),fun _ h=>h⟩
structure Np where mk ::
  Nx:Ng
  Nd:Nd
  deriving DecidableEq,Inhabited
instance:Rep Np:=⟨7,fun L w cs d=>∃ v19 v21 v23 v25 v27 v29,SlRd L w v19 d.Nx.Nf/\SlRd L w v21 d.Nx.Na/\SlRd L w v23 d.Nx.Nb/\SlRd L w v25 d.Nx.Ni/\SlRd L w v27 d.Nd.Nb/\SlRd L w v29 d.Nd.Na/\cs=[v19,v21,v23,v25,v27,v29,(.int .i64 d.Nd.Nh)],fun ⟨v19,v21,v23,v25,v27,v29,h20,h22,h24,h26,h28,h30,h⟩=>by subst h;rfl,fun ⟨v19,v21,v23,v25,v27,v29,h20,h22,h24,h26,h28,h30,h⟩ u hu=>by subst h;exact (Qj h20.one1 (Qj h22.one1 (Qj h24.one1 (Qj h26.one1 (Qj h28.one1 (Qj h30.one1 (Qj rfl QJ))))))) u hu,fun s ⟨v19,v21,v23,v25,v27,v29,h20,h22,h24,h26,h28,h30,h⟩=>⟨v19,v21,v23,v25,v27,v29,h20.step s,h22.step s,h24.step s,h26.step s,h28.step s,h30.step s,h⟩⟩
structure Nz where mk ::
  line:(Option Np)
  Nw:Nj
  deriving DecidableEq,Inhabited
structure Nl where mk ::
  line:(Option Np)
  from_:(List Nz)
  Nw:Nj
  deriving DecidableEq,Inhabited
def ChRd (L:List Value) (w:World):Value->List Nz->Prop
  | v,[]=>v=.pointer none
  | v,a::r=>∃ b,v=.pointer (some ⟨b,0,none⟩)/\∃ (cs:List Value) (T:TypeId) (fz:Nat×Nat),w.heap[b]?=some (.cells cs.toArray T fz)/\Avoids L b/\∃ v31 v33,PtRd L w v31 a.line/\ChRd L w v33 r/\cs=[v31,v33,(.int .i64 a.Nw.Kind),(.int .i64 a.Nw.A),(.int .i64 a.Nw.B)]
theorem ChRd.stepA {L L':List Value} {w w':World} (s:Stepp L w L' w'):∀ {o:List Nz} {v:Value},ChRd L w v o->ChRd L' w' v o
  | [],v,h=>h
  | a::r,v,h=>by
    obtain ⟨b,h1,cs,T,fz,h2,h3,v31,v33,h32,h34,h⟩:=h
    obtain ⟨⟨fz',h4⟩,h5⟩:=s.keeps h2 h3
    exact ⟨b,h1,cs,T,fz',h4,h5,v31,v33,h32.step s,ChRd.stepA s h34,h⟩
section
variable {L L':List Value} {w w':World} {v:Value} {o:List Nz}
theorem ChRd.step (h:ChRd L w v o) (s:Stepp L w L' w'):ChRd L' w' v o:=ChRd.stepA s h
theorem ChRd.ext (h:ChRd L w v o) (e:Ext w w'):ChRd L w' v o:=ChRd.stepA (Stepp.ext e) h
theorem ChRd.sub (h:ChRd L w v o) (hs:∀ x∈L',x∈L):ChRd L' w v o:=ChRd.stepA (Stepp.sub w hs) h
theorem ChRd.way {L0:List Value} {w0:World} (h:ChRd L0 w0 v o) (s:Way L0 w0 L w):ChRd L w v o:=ChRd.stepA s.s h
theorem ChRd.one1 (h:ChRd L w v o):v.oneCell'=true:=by
  cases o with
  | nil=>cases h;rfl
  | cons a r=>obtain ⟨b,rfl,_⟩:=h;rfl
end
def Qgz:List Nz->Option Nl
  | []=>none
  | a::r=>some (Nl.mk a.line r a.Nw)
def ZB:Option Nl->List Nz
  | none=>[]
  | some d=>Nz.mk d.line d.Nw::d.from_
instance:Rep Nl:=⟨5,fun L w cs d=>∃ v31 v33,PtRd L w v31 d.line/\ChRd L w v33 d.from_/\cs=[v31,v33,(.int .i64 d.Nw.Kind),(.int .i64 d.Nw.A),(.int .i64 d.Nw.B)],fun ⟨v31,v33,h32,h34,h⟩=>by subst h;rfl,fun ⟨v31,v33,h32,h34,h⟩ u hu=>by subst h;exact (Qj h32.one1 (Qj h34.one1 (Qj rfl (Qj rfl (Qj rfl QJ))))) u hu,fun s ⟨v31,v33,h32,h34,h⟩=>⟨v31,v33,h32.step s,h34.step s,h⟩⟩
section
variable {L:List Value} {w:World} {v:Value}
theorem ChRd.pt {c:List Nz} (h:ChRd L w v c):PtRd L w v (Qgz c):=by
  cases c with
  | nil=>exact h
  | cons a r=>obtain ⟨b,h1,cs,T,fz,h2,h3,h4⟩:=h;exact ⟨b,h1,cs,T,fz,h2,h3,h4⟩
theorem ChRd.of {o:Option Nl} (h:PtRd L w v o):ChRd L w v (ZB o):=by
  cases o with
  | none=>exact h
  | some d=>obtain ⟨b,h1,cs,T,fz,h2,h3,h4⟩:=h;exact ⟨b,h1,cs,T,fz,h2,h3,h4⟩
end
structure Nu where mk ::
  Nw:Nj
  line:(Option Np)
  deriving DecidableEq,Inhabited
instance:Rep Nu:=⟨4,fun L w cs d=>∃ v35,PtRd L w v35 d.line/\cs=[(.int .i64 d.Nw.Kind),(.int .i64 d.Nw.A),(.int .i64 d.Nw.B),v35],fun ⟨v35,h36,h⟩=>by subst h;rfl,fun ⟨v35,h36,h⟩ u hu=>by subst h;exact (Qj rfl (Qj rfl (Qj rfl (Qj h36.one1 QJ)))) u hu,fun s ⟨v35,h36,h⟩=>⟨v35,h36.step s,h⟩⟩
def gtab0 (w:World):Prop:=At w ⟨0,0,none⟩ (([1,10,100,1000,10000,100000,1000000,10000000,100000000,1000000000,10000000000,100000000000,1000000000000,10000000000000,100000000000000,1000000000000000,10000000000000000,100000000000000000,1000000000000000000,10000000000000000000]:List Int).map fun z=>Value.int .u64 z)
theorem gtab0.ext {w w':World} (h:gtab0 w) (e:Ext w w'):gtab0 w':=At.ext e h
end Go.Gw
