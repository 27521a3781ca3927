/- Goroutines: a new goroutine, a meeting at the channel: what is known. No condition. -/
import Derived.Test.YtpgpimedmpeliaaGreatDoorGwCj10
set_option linter.unusedVariables false
set_option linter.unusedSimpArgs false
set_option linter.unusedSectionVars false
set_option linter.unusedVariables false
namespace Go.Gw
open Go Go.Conc
section
variable {Sh:Loc→Prop} {c n:Nat} {vs:Nat→Option View} {W W':World} {t:Trace} {i:Nat} {x:View}

theorem Qhq {t1:Trace} {y:MemOp} (u:Trace):(t1++#[y]++u)[t1.size]?=some y:=by
  rw [Array.append_assoc,Array.getElem?_append_right (Nat.le_refl _),Nat.sub_self,Array.getElem?_append_left (by simp)];rfl
theorem J3 {t1:Trace} {y:MemOp}:(t1++#[y])[t1.size]?=some y:=by
  have:=Qhq (t1:=t1) (y:=y) #[]
  rwa [Array.append_empty] at this
theorem Qfi {t1:Trace} {y:MemOp} (u:Trace) (hd:Deaf t1 y.g=0):(t1++#[y]++u).heard t1.size:=by
  refine ⟨y.g,by rw [Trace.g?,Qhq];rfl,?_⟩
  rw [Array.append_assoc,deaf_old (Nat.le_refl _)]
  exact hd

theorem Qew (k g:Nat) (fn:FuncId) (pos:String):Qch { g:=g,fn:=fn,pos:=pos,act:=.go k }:=⟨rfl,by simp,by simp⟩
theorem Qid (g:Nat) (fn:FuncId) (pos:String):Qch { g:=g,fn:=fn,pos:=pos,act:=.start }:=⟨rfl,by simp,by simp⟩
theorem Qzf {fn fn':FuncId} {pos pos':String} (h0:Deaf t 0=0) (hn:Deaf t n=0) {e:Nat} (hk:Knows t 0 e):Knows (t++#[{ g:=0,fn:=fn,pos:=pos,act:=.go n }]++#[{ g:=n,fn:=fn',pos:=pos',act:=.start }]) n e:=by
  obtain ⟨q,z,h1,h2,h3⟩:=hk
  have hq:=lt_size_of_getElem? h1
  generalize hy1:({ g:=0,fn:=fn,pos:=pos,act:=.go n }:MemOp)=y1
  generalize hy2:({ g:=n,fn:=fn',pos:=pos',act:=.start }:MemOp)=y2
  have c1:Qch y1:=by subst hy1;exact Qew ..
  have e1:(t++#[y1]++#[y2])[t.size]?=some y1:=Qhq _
  have e2:(t++#[y1]++#[y2])[(t++#[y1]).size]?=some y2:=J3
  have eq:(t++#[y1]++#[y2])[q]?=some z:=by rw [getElem?_append_old (by simp;omega),getElem?_append_old hq];exact h1
  have g1:HappensBefore (t++#[y1]++#[y2]) e t.size:=((h3.app #[y1]).app #[y2]).hb (hb_po hq eq e1 (by subst hy1;exact h2))
  refine ⟨_,y2,e2,by subst hy2;rfl,.inr (g1.trans (.single (.inr ⟨?_,?_,?_⟩)))⟩
  · refine .spawn (child:=n) ?_ ?_ ?_
    · rw [Trace.act?,e1];subst hy1;rfl
    · rw [Trace.act?,e2];subst hy2;rfl
    · rw [Trace.g?,e2];subst hy2;rfl
  · exact Qfi _ (by subst hy1;exact h0)
  · have:=Qfi (t1:=t++#[y1]) (y:=y2) #[] (by rw [Qcr c1];subst hy2;exact hn)
    rwa [Array.append_empty] at this

end
end Go.Gw
