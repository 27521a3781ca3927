/- The data of the program. No condition. -/
import Derived.Test.YtjladlhgnoiagaaGreatDoorGwCj6
set_option linter.unusedVariables false
set_option linter.unusedSimpArgs false
set_option linter.unusedSectionVars false
namespace Go.Gw
open Go
structure Nf where mk ::
  Ni:ByteArray
  At:Int
  deriving DecidableEq,Inhabited
instance:Rep Nf:=⟨2,fun _ _ cs d=>cs=[(.string d.Ni),(.int .i64 d.At)],fun h=>by subst h;rfl,fun h=>by subst h;exact (Qj rfl (Qj rfl QE)),fun _ h=>h⟩
structure NE where mk ::
  Name:ByteArray
  Nz:Int
  NB:Bool
  deriving DecidableEq,Inhabited
instance:Rep NE:=⟨3,fun _ _ cs d=>cs=[(.string d.Name),(.int .i64 d.Nz),(.bool d.NB)],fun h=>by subst h;rfl,fun h=>by subst h;exact (Qj rfl (Qj rfl (Qj rfl QE))),fun _ h=>h⟩
structure Ny where mk ::
  Left:Int
  Nr:Int
  Nq:Int
  Loss:Int
  deriving DecidableEq,Inhabited
instance:Rep Ny:=⟨4,fun _ _ cs d=>cs=[(.int .i64 d.Left),(.int .i64 d.Nr),(.int .i64 d.Nq),(.int .i64 d.Loss)],fun h=>by subst h;rfl,fun h=>by subst h;exact (Qj rfl (Qj rfl (Qj rfl (Qj rfl QE)))),fun _ h=>h⟩
structure Nu where mk ::
  Nw:Int
  Np:Int
  deriving DecidableEq,Inhabited
instance:Rep Nu:=⟨2,fun _ _ cs d=>cs=[(.int .i64 d.Nw),(.int .i64 d.Np)],fun h=>by subst h;rfl,fun h=>by subst h;exact (Qj rfl (Qj rfl QE)),fun _ h=>h⟩
structure Na where mk ::
  Name:ByteArray
  Nc:Int
  Nd:Int
  Nv:(List Nu)
  deriving DecidableEq,Inhabited
instance:Rep Na:=⟨4,fun L w cs d=>∃ v1,SlRd L w v1 d.Nv/\cs=[(.string d.Name),(.int .i64 d.Nc),(.int .i64 d.Nd),v1],fun ⟨v1,h2,h⟩=>by subst h;rfl,fun ⟨v1,h2,h⟩ u hu=>by subst h;exact (Qj rfl (Qj rfl (Qj rfl (Qj h2.one1 QE)))) u hu,fun s ⟨v1,h2,h⟩=>⟨v1,h2.step s,h⟩⟩
structure Nb where mk ::
  Nh:(List NE)
  Nk:(List Ny)
  Nj:(List Na)
  deriving DecidableEq,Inhabited
instance:Rep Nb:=⟨3,fun L w cs d=>∃ v3 v5 v7,SlRd L w v3 d.Nh/\SlRd L w v5 d.Nk/\SlRd L w v7 d.Nj/\cs=[v3,v5,v7],fun ⟨v3,v5,v7,h4,h6,h8,h⟩=>by subst h;rfl,fun ⟨v3,v5,v7,h4,h6,h8,h⟩ u hu=>by subst h;exact (Qj h4.one1 (Qj h6.one1 (Qj h8.one1 QE))) u hu,fun s ⟨v3,v5,v7,h4,h6,h8,h⟩=>⟨v3,v5,v7,h4.step s,h6.step s,h8.step s,h⟩⟩
structure Nl where mk ::
  Fed:Int
  Used:Int
  Nt:Int
  Lost:Int
  Back:Int
  Ns:Int
  deriving DecidableEq,Inhabited
instance:Rep Nl:=⟨6,fun _ _ cs d=>cs=[(.int .i64 d.Fed),(.int .i64 d.Used),(.int .i64 d.Nt),(.int .i64 d.Lost),(.int .i64 d.Back),(.int .i64 d.Ns)],fun h=>by subst h;rfl,fun h=>by subst h;exact (Qj rfl (Qj rfl (Qj rfl (Qj rfl (Qj rfl (Qj rfl QE)))))),fun _ h=>h⟩
structure Range where mk ::
  Lo:Int
  Hi:Int
  deriving DecidableEq,Inhabited
instance:Rep Range:=⟨2,fun _ _ cs d=>cs=[(.int .i64 d.Lo),(.int .i64 d.Hi)],fun h=>by subst h;rfl,fun h=>by subst h;exact (Qj rfl (Qj rfl QE)),fun _ h=>h⟩
structure NC where mk ::
  Ohms:(List Int)
  Nx:(List Int)
  deriving DecidableEq,Inhabited
instance:Rep NC:=⟨2,fun L w cs d=>∃ v9 v11,SlRd L w v9 d.Ohms/\SlRd L w v11 d.Nx/\cs=[v9,v11],fun ⟨v9,v11,h10,h12,h⟩=>by subst h;rfl,fun ⟨v9,v11,h10,h12,h⟩ u hu=>by subst h;exact (Qj h10.one1 (Qj h12.one1 QE)) u hu,fun s ⟨v9,v11,h10,h12,h⟩=>⟨v9,v11,h10.step s,h12.step s,h⟩⟩
structure Frac where mk ::
  Num:Int
  Den:Int
  deriving DecidableEq,Inhabited
instance:Rep Frac:=⟨2,fun _ _ cs d=>cs=[(.int .i64 d.Num),(.int .i64 d.Den)],fun h=>by subst h;rfl,fun h=>by subst h;exact (Qj rfl (Qj rfl QE)),fun _ h=>h⟩
structure Nm where mk ::
  Nb:Nb
  deriving DecidableEq,Inhabited
instance:Rep Nm:=⟨3,fun L w cs d=>∃ v13 v15 v17,SlRd L w v13 d.Nb.Nh/\SlRd L w v15 d.Nb.Nk/\SlRd L w v17 d.Nb.Nj/\cs=[v13,v15,v17],fun ⟨v13,v15,v17,h14,h16,h18,h⟩=>by subst h;rfl,fun ⟨v13,v15,v17,h14,h16,h18,h⟩ u hu=>by subst h;exact (Qj h14.one1 (Qj h16.one1 (Qj h18.one1 QE))) u hu,fun s ⟨v13,v15,v17,h14,h16,h18,h⟩=>⟨v13,v15,v17,h14.step s,h16.step s,h18.step s,h⟩⟩
structure Nn where mk ::
  at_:(List Int)
  delay:Int
  found:Bool
  deriving DecidableEq,Inhabited
instance:Rep Nn:=⟨3,fun L w cs d=>∃ v19,SlRd L w v19 d.at_/\cs=[v19,(.int .i64 d.delay),(.bool d.found)],fun ⟨v19,h20,h⟩=>by subst h;rfl,fun ⟨v19,h20,h⟩ u hu=>by subst h;exact (Qj h20.one1 (Qj rfl (Qj rfl QE))) u hu,fun s ⟨v19,h20,h⟩=>⟨v19,h20.step s,h⟩⟩
structure Ng where mk ::
  Na:Na
  at_:Int
  deriving DecidableEq,Inhabited
instance:Rep Ng:=⟨5,fun L w cs d=>∃ v21,SlRd L w v21 d.Na.Nv/\cs=[(.string d.Na.Name),(.int .i64 d.Na.Nc),(.int .i64 d.Na.Nd),v21,(.int .i64 d.at_)],fun ⟨v21,h22,h⟩=>by subst h;rfl,fun ⟨v21,h22,h⟩ u hu=>by subst h;exact (Qj rfl (Qj rfl (Qj rfl (Qj h22.one1 (Qj rfl QE))))) u hu,fun s ⟨v21,h22,h⟩=>⟨v21,h22.step s,h⟩⟩
structure NA where mk ::
  List:Int
  Number:Int
  deriving DecidableEq,Inhabited
instance:Rep NA:=⟨2,fun _ _ cs d=>cs=[(.int .i64 d.List),(.int .i64 d.Number)],fun h=>by subst h;rfl,fun h=>by subst h;exact (Qj rfl (Qj rfl QE)),fun _ h=>h⟩
structure NF where mk ::
  Tick:Int
  NG:Int
  Load:Int
  deriving DecidableEq,Inhabited
instance:Rep NF:=⟨3,fun _ _ cs d=>cs=[(.int .i64 d.Tick),(.int .i64 d.NG),(.int .i64 d.Load)],fun h=>by subst h;rfl,fun h=>by subst h;exact (Qj rfl (Qj rfl (Qj rfl QE))),fun _ h=>h⟩
structure ND where mk ::
  Func:ByteArray
  Num:ByteArray
  Err:Opq
  deriving DecidableEq,Inhabited
instance:Rep ND:=⟨3,fun L w cs d=>∃ v23,OpqRd L w v23 d.Err/\cs=[(.string d.Func),(.string d.Num),v23],fun ⟨v23,h24,h⟩=>by subst h;rfl,fun ⟨v23,h24,h⟩ u hu=>by subst h;exact (Qj rfl (Qj rfl (Qj h24.one1 QE))) u hu,fun s ⟨v23,h24,h⟩=>⟨v23,h24.step s,h⟩⟩
def gerr0 (w:World):Prop:=∃ v,At w ⟨0,0,none⟩ [v]/\v.oneCell'=true
theorem gerr0.ext {w w':World} (h:gerr0 w) (e:Ext w w'):gerr0 w':=by obtain ⟨v,h1,h2⟩:=h;exact ⟨v,At.ext e h1,h2⟩
def gerr1 (w:World):Prop:=∃ v,At w ⟨1,0,none⟩ [v]/\v.oneCell'=true
theorem gerr1.ext {w w':World} (h:gerr1 w) (e:Ext w w'):gerr1 w':=by obtain ⟨v,h1,h2⟩:=h;exact ⟨v,At.ext e h1,h2⟩
def gtab2 (w:World):Prop:=At w ⟨2,0,none⟩ (([1,10,100,1000,10000,100000,1000000,10000000,100000000,1000000000,10000000000,100000000000,1000000000000,10000000000000,100000000000000,1000000000000000,10000000000000000,100000000000000000,1000000000000000000,10000000000000000000]:List Int).map fun z=>Value.int .u64 z)
theorem gtab2.ext {w w':World} (h:gtab2 w) (e:Ext w w'):gtab2 w':=At.ext e h
end Go.Gw
