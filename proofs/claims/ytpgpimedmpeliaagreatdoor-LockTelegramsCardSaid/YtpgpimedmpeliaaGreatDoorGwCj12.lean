/- Goroutines: the meeting at the channel; the beginning and the end of being many. No condition. -/
import Derived.Test.YtpgpimedmpeliaaGreatDoorGwCj11
set_option linter.unusedVariables false
set_option linter.unusedSimpArgs false
set_option linter.unusedSectionVars false
set_option linter.unusedVariables false
namespace Go.Gw
open Go Go.Conc
section
variable {Sh:Loc→Prop} {c n:Nat} {vs:Nat→Option View} {W W':World} {t:Trace} {i:Nat} {x y:View}

structure More (w w':World):Prop where
  os:w'.os=w.os
  tape:w'.tape=w.tape
  output:w'.output=w.output
  size:w'.heap.size=w.heap.size
  block:∀ b,b < w.heap.size→w.heap[b]?≠some XJ→w'.heap[b]?=w.heap[b]?
def Shows (w w':World):Prop:=∀ (b:Nat) (cs:Array Value) (e:TypeId) (fz:Nat×Nat),w.heap[b]?=some (.cells cs e fz)→w'.heap[b]?=some (.cells cs e fz)
theorem More.shows {w w':World} (h:More w w'):Shows w w':=fun b cs e fz hb=>by
  rw [h.block b (Array.getElem?_eq_some_iff.1 hb).1 (by rw [hb];simp [XJ])];exact hb

open Classical in
noncomputable def merge (x y:View):World:={ x.w with heap:=x.w.heap.mapIdx fun b o=>if x.F b then o else if y.F b then (y.w.heap[b]?).getD XJ else XJ }
open Classical in
theorem Qad {b:Nat}:(merge x y).heap[b]?=(x.w.heap[b]?).map fun o=>if x.F b then o else if y.F b then (y.w.heap[b]?).getD XJ else XJ:=by
  simp [merge,Array.getElem?_mapIdx]
theorem Qjl:(merge x y).heap.size=x.w.heap.size:=by simp [merge]

theorem QCf (hx:Agr x.F x.Z x.w W):More x.w (merge x y):=by
  refine ⟨rfl,rfl,rfl,Qjl,fun b hb hj=>?_⟩
  rw [Qad]
  by_cases hF:x.F b
  · simp [hF]
  · exact absurd (hx.hid b hF hb) hj
theorem QCh (hx:Agr x.F x.Z x.w W) (hy:Agr y.F y.Z y.w W) (hap:Apart x y):Shows y.w (merge x y):=fun b cs e fz hb=>by
  have hlt:=(Array.getElem?_eq_some_iff.1 hb).1
  have hyF:y.F b:=by
    refine Classical.byContradiction fun hn=>?_
    rw [hy.hid b hn hlt] at hb;cases hb
  have hlt':b < x.w.heap.size:=by rw [← hx.size,hy.size];exact hlt
  rw [Qad,Array.getElem?_eq_getElem hlt']
  by_cases hF:x.F b
  · obtain ⟨hxz,hyz⟩:=hap b hF hyF
    obtain ⟨cs1,e1,fz1,h1,h2⟩:=hx.shr b hF hxz
    obtain ⟨cs2,e2,fz2,h3,h4⟩:=hy.shr b hyF hyz
    rw [h2] at h4
    simp only [Option.some.injEq,Obj.cells.injEq] at h4
    obtain ⟨rfl,rfl,rfl⟩:=h4
    rw [hb] at h3
    rw [Array.getElem?_eq_getElem hlt'] at h1
    simp only [Option.map_some,if_pos hF]
    rw [h1,← h3]
  · simp only [Option.map_some,if_neg hF,if_pos hyF,hb,Option.getD_some]
theorem QCe (hx:Agr x.F x.Z x.w W) (hy:Agr y.F y.Z y.w W) (hap:Apart x y) (hz:∀ b,y.Z b→x.F b) (hb:∀ b,y.F b→b < W.heap.size):Agr (fun b=>x.F b∨y.F b) x.Z (merge x y) W:=by
  refine ⟨hx.tape,hx.drawn,hx.os,hx.output,by rw [Qjl];exact hx.size,fun b hF hZ=>?_,fun b hF hZ=>?_,fun b hF hlt=>?_,fun b hZ=>.inl (hx.zf b hZ)⟩
  · rw [Qad]
    by_cases hxF:x.F b
    · rw [hx.own b hxF hZ];simp [hxF]
    · have hyF:=hF.resolve_left hxF
      have hlt:=hb b hyF
      have hlt':b < x.w.heap.size:=by rw [← hx.size];exact hlt
      have hyl:b < y.w.heap.size:=by rw [← hy.size];exact hlt
      rw [hy.own b hyF (fun e=>hxF (hz b e)),Array.getElem?_eq_getElem hlt']
      simp only [Option.map_some,if_neg hxF,if_pos hyF,Array.getElem?_eq_getElem hyl,Option.getD_some]
  · have hxF:=hx.zf b hZ
    obtain ⟨cs1,e1,fz1,h1,h2⟩:=hx.shr b hxF hZ
    exact ⟨cs1,e1,fz1,by rw [Qad,h1];simp [hxF],h2⟩
  · rw [Qjl] at hlt
    have hxF:¬ x.F b:=fun e=>hF (.inl e)
    have hyF:¬ y.F b:=fun e=>hF (.inr e)
    rw [Qad,Array.getElem?_eq_getElem hlt]
    simp [hxF,hyF]
end
end Go.Gw
