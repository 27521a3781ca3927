/- LocateFuses answers true. Condition: none. -/
import Derived.Test.YtgpapebgdnimfaaDoorGwLoc12
import Derived.Test.YtgpapebgdnimfaaDoorGwLawLocateFuses
set_option maxRecDepth 4096
namespace Go.Gw
open Go
theorem LocateFuses_true (l : List Range) (wrong : Int) (x : guidewaylaw04_Motion) : law04_LocateFuses_spec l wrong x = some true := by
  unfold law04_LocateFuses_spec
  rw [awake_ok]
  simp only [Option.bind_some, Bool.not_true, cond_false]
  by_cases hc : 14 < (l.length : Int)
  · simp [hc]
  · simp only [hc, decide_false, cond_false]
    have hl : l.length < 1073741824 := by omega
    rw [CopyRanges_ok l hl]
    simp only [Option.bind_some]
    obtain ⟨out, hf, h0, h1⟩ := Fused_ok l wrong hl
    rw [hf, Moved_ok, RangeErr_ok]
    simp only [Option.bind_some, SpeedErr_ok, TimeErr_ok]
    have e : ∀ (F : Int → Option Bool), (Option.bind (bif decide (rgE x.Place = 0) then some (spE x.Speed) else some (rgE x.Place)) fun x104 => Option.bind (bif decide (x104 = 0) then some (tiE x.Time) else some x104) F) = F (mvE x.Place x.Speed x.Time) := by
      intro F
      unfold mvE
      by_cases h1 : rgE x.Place = 0
      · by_cases h2 : spE x.Speed = 0
        · simp [h1, h2]
        · simp [h1, h2]
      · simp [h1]
    rw [e]
    have key : ∀ (F : Option Bool), (Option.bind (bif (((!((!decide (mvE x.Place x.Speed x.Time = 0)) && ((!decide ((if mvE x.Place x.Speed x.Time = 0 then (mvR x.Place x.Speed x.Time, (0 : Int)) else (rg0, mvE x.Place x.Speed x.Time)).2 = mvE x.Place x.Speed x.Time)) || (!(decide ((Range.mk (if mvE x.Place x.Speed x.Time = 0 then (mvR x.Place x.Speed x.Time, (0 : Int)) else (rg0, mvE x.Place x.Speed x.Time)).1.Lo (if mvE x.Place x.Speed x.Time = 0 then (mvR x.Place x.Speed x.Time, (0 : Int)) else (rg0, mvE x.Place x.Speed x.Time)).1.Hi) = (Range.mk 0 0))))))) && (decide (mvE x.Place x.Speed x.Time = 0))) && (!(!decide ((if mvE x.Place x.Speed x.Time = 0 then (mvR x.Place x.Speed x.Time, (0 : Int)) else (rg0, mvE x.Place x.Speed x.Time)).2 = 0)))) then ref04_Moved_spec x.Place x.Speed x.Time else some default) fun r161 =>
      (bif (((!decide (mvE x.Place x.Speed x.Time = 0)) && ((!decide ((if mvE x.Place x.Speed x.Time = 0 then (mvR x.Place x.Speed x.Time, (0 : Int)) else (rg0, mvE x.Place x.Speed x.Time)).2 = mvE x.Place x.Speed x.Time)) || (!(decide ((Range.mk (if mvE x.Place x.Speed x.Time = 0 then (mvR x.Place x.Speed x.Time, (0 : Int)) else (rg0, mvE x.Place x.Speed x.Time)).1.Lo (if mvE x.Place x.Speed x.Time = 0 then (mvR x.Place x.Speed x.Time, (0 : Int)) else (rg0, mvE x.Place x.Speed x.Time)).1.Hi) = (Range.mk 0 0)))))) || ((decide (mvE x.Place x.Speed x.Time = 0)) && ((!decide ((if mvE x.Place x.Speed x.Time = 0 then (mvR x.Place x.Speed x.Time, (0 : Int)) else (rg0, mvE x.Place x.Speed x.Time)).2 = 0)) || (!(decide ((Range.mk (if mvE x.Place x.Speed x.Time = 0 then (mvR x.Place x.Speed x.Time, (0 : Int)) else (rg0, mvE x.Place x.Speed x.Time)).1.Lo (if mvE x.Place x.Speed x.Time = 0 then (mvR x.Place x.Speed x.Time, (0 : Int)) else (rg0, mvE x.Place x.Speed x.Time)).1.Hi) = r161)))))) then some false else F)) = F := by
      intro F
      by_cases h : mvE x.Place x.Speed x.Time = 0
      · simp only [h, if_true, decide_true, Bool.not_true, Bool.false_and, Bool.not_false, Bool.and_self, cond_true]
        rw [rMoved_ok h]
        simp
      · simp [h, rg0]
    rw [key]
    rw [FusedErr_ok l wrong hl]
    simp only [Option.bind_some]
    by_cases hE : fuE l wrong = 0
    · obtain ⟨g1, g2, g3, g4⟩ := fuE_0.1 hE
      obtain ⟨out2, hr, hr2, hlen⟩ := rFused_ok g2 g4 g3
      simp only [hE, decide_true, Bool.not_true, cond_false, cond_true]
      rw [hr, (h0 hE).unique hr2]
      simp only [Option.bind_some]
      rw [Ranges_ok _ _ (by omega)]
      simp
    · simp [hE, h1 hE]
end Go.Gw
