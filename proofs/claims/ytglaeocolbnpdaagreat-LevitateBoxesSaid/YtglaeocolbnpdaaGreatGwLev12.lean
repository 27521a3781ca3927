/- Levitate in plain words: errors of plants, states, boxes and samples by the specification. -/
import Derived.Test.YtglaeocolbnpdaaGreatGwLev9
set_option maxRecDepth 8192
set_option linter.unusedSimpArgs false
set_option linter.unusedVariables false
namespace Go.Gw
open Go

theorem rPlantErr_ok (p : LevitatePlant) (h : Sh p) : ref02_PlantErr_spec p = some (ckP p).2 := by
  unfold ref02_PlantErr_spec; rw [rCheckPlant_ok p h]; rfl
theorem rStateErr_ok (p : LevitatePlant) (x : List Int) (hx : x.length < 1073741824) : ref02_StateErr_spec p x = some (stE p x) := by
  unfold ref02_StateErr_spec
  rw [loop_fs x (fun _ n => if smallB 100000 n then none else some 2)]
  · have : ∀ (l : List Int) t, fs (fun _ n => if smallB 100000 n then none else some (2 : Int)) t l = if l.all (smallB 100000) then none else some 2 := by
      intro l
      induction l with
      | nil => intro t; rfl
      | cons y ys ih =>
        intro t
        cases hy : smallB 100000 y with
        | true => simp [fs, hy, ih]
        | false => simp [fs, hy]
    simp only [this, len_dec, Option.bind_some]
    unfold stE
    by_cases h : x.length = p.Noise.length <;> cases h2 : x.all (smallB 100000) <;> simp [h, oi, jn0]
  · intro k hk
    unfold ref02_StateErr_s0
    rw [lt_nat hk, idx_nat hk, w64n k (by omega)]
    simp only [cond_true, Option.bind_some, bwithin_ok]
    show (bif !smallB 100000 x[k] then _ else _) = _
    cases smallB 100000 x[k] <;> rfl
  · unfold ref02_StateErr_s0
    rw [lt_nat_no]; rfl
theorem rBoxErr_ok (p : LevitatePlant) (x : List Int) (hx : x.length < 1073741824) : ref02_BoxErr_spec p x = some (bxE p x) := by
  unfold ref02_BoxErr_spec
  rw [rStateErr_ok p x hx, loop_fs x (fun _ n => if neg0 n then some 2 else none)]
  · have : ∀ (l : List Int) t, fs (fun _ n => if neg0 n then some (2 : Int) else none) t l = if l.any neg0 then some 2 else none := by
      intro l
      induction l with
      | nil => intro t; rfl
      | cons y ys ih =>
        intro t
        cases hy : neg0 y with
        | true => simp [fs, hy]
        | false => simp [fs, hy, ih]
    simp only [this, Option.bind_some]
    unfold bxE
    by_cases h : stE p x = 0 <;> cases h2 : x.any neg0 <;> simp [h, oi, jn0]
  · intro k hk
    unfold ref02_BoxErr_s0
    rw [lt_nat hk, idx_nat hk, w64n k (by omega)]
    simp only [cond_true, Option.bind_some]
    show (bif neg0 x[k] then _ else _) = _
    cases neg0 x[k] <;> rfl
  · unfold ref02_BoxErr_s0
    rw [lt_nat_no]; rfl
end Go.Gw
