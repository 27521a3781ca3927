/- Levitate in plain words: how a box that is not kept is left. Condition: right plants and boxes. -/
import Derived.Test.YtglaeocolbnpdaaGreatGwLev15
set_option maxRecDepth 8192
set_option linter.unusedSimpArgs false
set_option linter.unusedVariables false
namespace Go.Gw
open Go

def escN (p : LevitatePlant) (box : List Int) (m i k : Nat) : Int := if ge p m i k < 0 then gi box k else if 0 < ge p m i k then -gi box k else 0
def escS (p : LevitatePlant) (box : List Int) (m i : Nat) : List Int := tab p.Noise.length (escN p box m i)
def escZ (p : LevitatePlant) (i : Nat) : List Int := (List.replicate p.Noise.length 0).set i (-gi p.Noise i)
def escE (p : LevitatePlant) (box : List Int) (m i : Nat) : LevitateEscape := ⟨escS p box m i, ⟨(m : Int), escZ p i⟩⟩
theorem mk_ok {α : Type} {n : Nat} {z : α} (h : n ≤ 1048576) : mk (n : Int) z = some (List.replicate n z) := by
  unfold mk; rw [if_pos (by omega), Int.toNat_natCast]
theorem gi_rep {n k : Nat} : gi (List.replicate n 0) k = 0 := by
  unfold gi; rw [List.getD_eq_getElem?_getD, List.getElem?_replicate]; split <;> rfl
theorem loop_tabS {step : (Int × List Int) → Option ((Int × List Int) ⊕ List Int)} (n : Nat) (g : Nat → Int)
    (hs : ∀ k, k < n → ∀ acc : List Int, acc.length = k → step ((k : Int), acc) = some (.inl (((k + 1 : Nat) : Int), acc ++ [g k]))) (he : ∀ acc, step ((n : Int), acc) = some (.inr acc)) :
    loop step (0, []) = some (tab n g) := by
  refine loop_mapS (List.range n) g (fun k hk acc ha => ?_) (fun acc => ?_)
  · rw [List.getElem_range]; exact hs k (by simpa using hk) acc ha
  · rw [List.length_range]; exact he acc
theorem lEscape_ok {p : LevitatePlant} (h : Sh p) {x : List Int} (hx : x.length < 1073741824) :
    levitate_Escape_spec p x = some (if opB p x = 0 then (match brk p x with | none => (⟨[], ⟨0, []⟩⟩, 12) | some (m, i) => (escE p x m i, 0)) else (⟨[], ⟨0, []⟩⟩, opB p x)) := by
  unfold levitate_Escape_spec
  rw [lopenBox_ok p x h hx, Option.bind_some]
  by_cases h0 : opB p x = 0
  · obtain ⟨hp, hb⟩ := opB_right h0
    rw [if_pos h0, decide_eq_true h0]
    simp only [Bool.not_true, cond_false]
    change Option.bind (levitate_plant_broken_spec ⟨p⟩ x) _ = _
    rw [broken_ok hp hb.len hb.rng, Option.bind_some]
    cases hbr : brk p x with
    | none => rfl
    | some mi =>
      obtain ⟨m, i⟩ := mi
      obtain ⟨hm, hi, hlt⟩ := brk_some hbr
      have hn := hp.n3
      have hl := hb.len
      have hi' : i < p.Noise.length := by omega
      have hrl := hp.row_len hm hi'
      have hmi : i < (gm p m).length := by rw [hp.sq _ (gm_mem hm)]; exact hi'
      simp only [brkV, Bool.not_true, cond_false]
      rw [mk_ok (by omega), Option.bind_some, idx_gm hm, Option.bind_some, idx_gr hmi, Option.bind_some]
      rw [loop_tabS p.Noise.length (escN p x m i)]
      · have hnb := hp.noise_b hi'
        rw [Option.bind_some, idx_gi hi', Option.bind_some, idx_gi (by rw [List.length_replicate]; exact hi), Option.bind_some, show w64 (0 - gi p.Noise i) = -gi p.Noise i by rw [w64_id (by omega)]; omega, Int.toNat_natCast, hl]
        rfl
      · intro k hk acc ha
        unfold levitate_Escape_s0
        dsimp only
        have hbk := hb.rng k hk
        rw [hrl, lt_nat hk, cond_true, idx_gi (by omega), Option.bind_some]
        change Option.bind (bif decide (ge p m i k < 0) then _ else bif decide (0 < ge p m i k) then _ else _) _ = _
        rw [idx_gi (show k < x.length by omega), Option.bind_some, Option.bind_some, show w64 (0 - gi x k) = -gi x k by rw [w64_id (by omega)]; omega, w64n k (by omega)]
        unfold escN
        by_cases h1 : ge p m i k < 0
        · rw [decide_eq_true h1, if_pos h1, cond_true, Option.bind_some, app_ok (by simp; omega), Option.bind_some]
        · by_cases h2 : 0 < ge p m i k
          · rw [decide_eq_false h1, if_neg h1, decide_eq_true h2, if_pos h2, cond_false, cond_true, Option.bind_some, app_ok (by simp; omega), Option.bind_some]
          · rw [decide_eq_false h1, if_neg h1, decide_eq_false h2, if_neg h2, cond_false, cond_false, Option.bind_some, app_ok (by simp; omega), Option.bind_some]
      · intro acc
        unfold levitate_Escape_s0
        dsimp only
        rw [hrl, lt_nat_no]; rfl
  · rw [if_neg h0, decide_eq_false h0]; rfl
theorem escS_len (p : LevitatePlant) (x : List Int) (m i : Nat) : (escS p x m i).length = p.Noise.length := tab_len _ _
theorem escZ_len (p : LevitatePlant) (i : Nat) : (escZ p i).length = p.Noise.length := by simp [escZ]
end Go.Gw
