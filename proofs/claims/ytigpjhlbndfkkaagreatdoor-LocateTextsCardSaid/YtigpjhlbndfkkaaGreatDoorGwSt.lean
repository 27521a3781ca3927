/- The data of the program. No condition. -/
import Derived.Test.YtigpjhlbndfkkaaGreatDoorGwCj6
set_option linter.unusedVariables false
set_option linter.unusedSimpArgs false
set_option linter.unusedSectionVars false
namespace Go.Gw
open Go
structure Na where mk ::
  Nj:(List Int)
  Nb:Int
  Nd:Int
  Nf:Int
  Ng:Int
  Nc:Int
  Nh:Int
  Errors:Int
  Ni:Bool
  deriving DecidableEq,Inhabited
instance:Rep Na:=⟨9,fun L w cs d=>∃ v1,SlRd L w v1 d.Nj/\cs=[v1,(.int .i64 d.Nb),(.int .i64 d.Nd),(.int .i64 d.Nf),(.int .i64 d.Ng),(.int .i64 d.Nc),(.int .i64 d.Nh),(.int .i64 d.Errors),(.bool d.Ni)],fun ⟨v1,h2,h⟩=>by subst h;rfl,fun ⟨v1,h2,h⟩ u hu=>by subst h;exact (Qi h2.one1 (Qi rfl (Qi rfl (Qi rfl (Qi rfl (Qi rfl (Qi rfl (Qi rfl (Qi rfl QH))))))))) u hu,fun s ⟨v1,h2,h⟩=>⟨v1,h2.step s,h⟩⟩
structure Nl where mk ::
  Seen:(List Int)
  Count:Int
  deriving DecidableEq,Inhabited
instance:Rep Nl:=⟨2,fun L w cs d=>∃ v3,SlRd L w v3 d.Seen/\cs=[v3,(.int .i64 d.Count)],fun ⟨v3,h4,h⟩=>by subst h;rfl,fun ⟨v3,h4,h⟩ u hu=>by subst h;exact (Qi h4.one1 (Qi rfl QH)) u hu,fun s ⟨v3,h4,h⟩=>⟨v3,h4.step s,h⟩⟩
structure Range where mk ::
  Lo:Int
  Hi:Int
  deriving DecidableEq,Inhabited
instance:Rep Range:=⟨2,fun _ _ cs d=>cs=[(.int .i64 d.Lo),(.int .i64 d.Hi)],fun h=>by subst h;rfl,fun h=>by subst h;exact (Qi rfl (Qi rfl QH)),fun _ h=>h⟩
structure Nk where mk ::
  Nc:Int
  Rest:Int
  deriving DecidableEq,Inhabited
instance:Rep Nk:=⟨2,fun _ _ cs d=>cs=[(.int .i64 d.Nc),(.int .i64 d.Rest)],fun h=>by subst h;rfl,fun h=>by subst h;exact (Qi rfl (Qi rfl QH)),fun _ h=>h⟩
structure Np where mk ::
  Steps:Int
  Nr:Int
  deriving DecidableEq,Inhabited
instance:Rep Np:=⟨2,fun _ _ cs d=>cs=[(.int .i64 d.Steps),(.int .i64 d.Nr)],fun h=>by subst h;rfl,fun h=>by subst h;exact (Qi rfl (Qi rfl QH)),fun _ h=>h⟩
structure Nq where mk ::
  Na:Na
  deriving DecidableEq,Inhabited
instance:Rep Nq:=⟨9,fun L w cs d=>∃ v5,SlRd L w v5 d.Na.Nj/\cs=[v5,(.int .i64 d.Na.Nb),(.int .i64 d.Na.Nd),(.int .i64 d.Na.Nf),(.int .i64 d.Na.Ng),(.int .i64 d.Na.Nc),(.int .i64 d.Na.Nh),(.int .i64 d.Na.Errors),(.bool d.Na.Ni)],fun ⟨v5,h6,h⟩=>by subst h;rfl,fun ⟨v5,h6,h⟩ u hu=>by subst h;exact (Qi h6.one1 (Qi rfl (Qi rfl (Qi rfl (Qi rfl (Qi rfl (Qi rfl (Qi rfl (Qi rfl QH))))))))) u hu,fun s ⟨v5,h6,h⟩=>⟨v5,h6.step s,h⟩⟩
structure Nn where mk ::
  at_:Int
  by_:Int
  deriving DecidableEq,Inhabited
instance:Rep Nn:=⟨2,fun _ _ cs d=>cs=[(.int .i64 d.at_),(.int .i64 d.by_)],fun h=>by subst h;rfl,fun h=>by subst h;exact (Qi rfl (Qi rfl QH)),fun _ h=>h⟩
structure Ns where mk ::
  e0:Int
  e1:Int
  e2:Int
  e3:Int
  e4:Int
  e5:Int
  e6:Int
  e7:Int
  e8:Int
  e9:Int
  e10:Int
  e11:Int
  deriving DecidableEq,Inhabited
instance:Rep Ns:=⟨12,fun _ _ cs d=>cs=[(.int .i64 d.e0),(.int .i64 d.e1),(.int .i64 d.e2),(.int .i64 d.e3),(.int .i64 d.e4),(.int .i64 d.e5),(.int .i64 d.e6),(.int .i64 d.e7),(.int .i64 d.e8),(.int .i64 d.e9),(.int .i64 d.e10),(.int .i64 d.e11)],fun h=>by subst h;rfl,fun h=>by subst h;exact (Qi rfl (Qi rfl (Qi rfl (Qi rfl (Qi rfl (Qi rfl (Qi rfl (Qi rfl (Qi rfl (Qi rfl (Qi rfl (Qi rfl QH)))))))))))),fun _ h=>h⟩
structure Nt where mk ::
  Func:ByteArray
  Num:ByteArray
  Err:Opq
  deriving DecidableEq,Inhabited
instance:Rep Nt:=⟨3,fun L w cs d=>∃ v7,OpqRd L w v7 d.Err/\cs=[(.string d.Func),(.string d.Num),v7],fun ⟨v7,h8,h⟩=>by subst h;rfl,fun ⟨v7,h8,h⟩ u hu=>by subst h;exact (Qi rfl (Qi rfl (Qi h8.one1 QH))) u hu,fun s ⟨v7,h8,h⟩=>⟨v7,h8.step s,h⟩⟩
def gtab2 (w:World):Prop:=At w ⟨2,0,none⟩ (([1,10,100,1000,10000,100000,1000000,10000000,100000000,1000000000,10000000000,100000000000,1000000000000,10000000000000,100000000000000,1000000000000000,10000000000000000,100000000000000000,1000000000000000000,10000000000000000000]:List Int).map fun z=>Value.int .u64 z)
theorem gtab2.ext {w w':World} (h:gtab2 w) (e:Ext w w'):gtab2 w':=At.ext e h
def gerr3 (w:World):Prop:=∃ v,At w ⟨3,0,none⟩ [v]/\v.oneCell'=true
theorem gerr3.ext {w w':World} (h:gerr3 w) (e:Ext w w'):gerr3 w':=by obtain ⟨v,h1,h2⟩:=h;exact ⟨v,At.ext e h1,h2⟩
def gerr4 (w:World):Prop:=∃ v,At w ⟨4,0,none⟩ [v]/\v.oneCell'=true
theorem gerr4.ext {w w':World} (h:gerr4 w) (e:Ext w w'):gerr4 w':=by obtain ⟨v,h1,h2⟩:=h;exact ⟨v,At.ext e h1,h2⟩
end Go.Gw
