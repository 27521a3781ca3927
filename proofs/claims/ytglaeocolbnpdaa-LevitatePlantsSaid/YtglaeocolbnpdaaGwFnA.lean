/- What functions come to, printed by a program of this work. No condition. -/
import Derived.Test.YtglaeocolbnpdaaGwFacts
import Derived.Test.YtglaeocolbnpdaaGwPlan2
import Derived.Test.YtglaeocolbnpdaaGwLib12
import Derived.Test.YtglaeocolbnpdaaGwLib13
import Derived.Test.YtglaeocolbnpdaaGwLib16
import Derived.Test.YtglaeocolbnpdaaGwSrtI
import Derived.Test.YtglaeocolbnpdaaGwLib14
import Derived.Test.YtglaeocolbnpdaaGwFacts2
set_option maxRecDepth 4096
set_option maxHeartbeats 8000000
set_option linter.unusedVariables false
namespace Go.Gw
open Go Go.Proofs
attribute [local irreducible] T0 TS TT TP TX Eff Stp WC Quiet gd
noncomputable def law02_Few_s0 (p_p : LevitatePlant) (x678 : Int) : (Int) → Option ((Int) ⊕ (((Int) ⊕ (Bool ⊕ (Unit))) ⊕ (Unit))) := fun x847 =>
  (Option.bind (idx p_p.Maps x678) fun el871 =>
  (bif (decide (x847 < (el871.length : Int))) then (
    (Option.bind (idx p_p.Maps x678) fun el883 =>
    (Option.bind (idx el883 x847) fun el892 =>
    (bif (decide (5 < (el892.length : Int))) then (
      some (.inr (.inl (.inr (.inl false))))
    ) else (
      some (.inl (w64 (x847 + 1)))
    ))
    )
    )
  ) else (
    some (.inr (.inr ()))
  ))
  )
noncomputable def law02_Few_s1 (p_p : LevitatePlant) : (Int) → Option ((Int) ⊕ (Bool ⊕ (Unit))) := fun x678 =>
  (bif (decide (x678 < (p_p.Maps.length : Int))) then (
    (Option.bind (idx p_p.Maps x678) fun el700 =>
    (bif (decide (5 < (el700.length : Int))) then (
      some (.inr (.inl false))
    ) else (
      (Option.bind (loop (law02_Few_s0 p_p x678) 0) fun o861 => jn0 o861 fun (_ : Unit) =>
      some (.inl (w64 (x678 + 1)))
      )
    ))
    )
  ) else (
    some (.inr (.inr ()))
  ))
noncomputable def law02_Few_spec (p_p : LevitatePlant) : Option Bool :=
  (bif ((decide (5 < (p_p.Noise.length : Int))) || (decide (6 < (p_p.Maps.length : Int)))) then (
    some false
  ) else (
    (Option.bind (loop (law02_Few_s1 p_p) 0) fun o686 => jn0 o686 fun (_ : Unit) =>
    some true
    )
  ))
theorem law02_Few_ok (L : List Value) (w : World) (hL : LtL L w) (cs_p_p : List Value) (p_p : LevitatePlant) (h_p_p : Rep.rd L w cs_p_p p_p) (r : Bool) (h : law02_Few_spec p_p = some r) :
    CallsTo Try.prog 8 [(.agg cs_p_p.toArray)] w (fun v w' => Ext w w' ∧ (.bool r) = v) := by
  have e0 : Ext w w := Chg.refl _ _
  obtain ⟨v1, v3, h2, h4, rfl⟩ := h_p_p
  refine callsTo_of_WC (n := 49) (rs := [.tmp 2]) Try.func8 rfl rfl rfl rfl rfl ?_
  refine WC_seqK fun K7 hK7 => ?_
  refine WC_region ?_
  refine T0_e rfl (eff_boxC (cs := [(.int .i64 p_p.Den), v1, v3]) rfl rfl ?_)
  intro b8 wd9 hb10 he11 hB12
  have e14 := e0.trans he11
  refine T0_q (v := (.bool false)) rfl (yl_assign rfl) ?_
  refine T0_nil ?_
  refine hK7 _ _ ?_
  refine WC_seqK fun K16 hK16 => ?_
  refine WC_seqK fun K17 hK17 => ?_
  refine WC_region ?_
  refine T0_q (v := (.pointer (some ⟨b8, 2, none⟩))) rfl (yl_fa 2 Try.underlying25 rfl rfl ⟨0, sz23⟩ rfl rfl) ?_
  refine T0_q (v := v3) rfl (yl_load sc23 rfl (At.drop (Box.at hB12) 2)) ?_
  refine T0_q (v := (.int .i64 (p_p.Noise.length : Int))) rfl (yl_lenR rfl Try.underlying23 h4 rfl) ?_
  refine T0_q (v := (.bool (decide (5 < (p_p.Noise.length : Int))))) rfl (yl_gtr rfl rfl) ?_
  refine T0_q (v := (.bool (decide (5 < (p_p.Noise.length : Int))))) rfl (yl_move rfl) ?_
  refine T0_g (v := (.pointer (some ⟨b8, 1, none⟩))) (!(decide (5 < (p_p.Noise.length : Int)))) (wanted_f rfl rfl rfl rfl) (fun hg => (yl_fa 1 Try.underlying25 rfl rfl ⟨0, sz22⟩ rfl rfl)) ?_
  refine T0_g (v := v1) (!(decide (5 < (p_p.Noise.length : Int)))) (wanted_f rfl rfl rfl rfl) (fun hg => (yl_load sc22 (gd_true hg) (At.drop (Box.at hB12) 1))) ?_
  refine T0_g (v := (.int .i64 (p_p.Maps.length : Int))) (!(decide (5 < (p_p.Noise.length : Int)))) (wanted_f rfl rfl rfl rfl) (fun hg => (yl_lenR rfl Try.underlying22 h2 (gd_true hg))) ?_
  refine T0_g (v := (.bool (decide (6 < (p_p.Maps.length : Int))))) (!(decide (5 < (p_p.Noise.length : Int)))) (wanted_f rfl rfl rfl rfl) (fun hg => (yl_gtr (gd_true hg) rfl)) ?_
  refine T0_q (v := (.bool ((decide (5 < (p_p.Noise.length : Int))) || (decide (6 < (p_p.Maps.length : Int)))))) rfl (yl_or rfl rfl (fun hb => (gd_true (not_t hb)))) ?_
  refine T0_nil ?_
  refine hK17 _ _ ?_
  refine WC_cond (b := ((decide (5 < (p_p.Noise.length : Int))) || (decide (6 < (p_p.Maps.length : Int))))) rfl (fun hb18 => ?_) (fun hb18 => ?_)
  · clear hK16 hK17 hK7
    replace h := cond_t hb18 h
    refine WC_seqK fun K19 hK19 => ?_
    refine WC_region ?_
    refine T0_q (v := (.bool false)) rfl (yl_assign rfl) ?_
    refine T0_nil ?_
    refine hK19 _ _ ?_
    refine WC_ret ?_
    replace h := some_out h
    subst h
    exact ⟨[(.bool false)], ⟨rfl, trivial⟩, e14, rfl⟩
  · clear hK17 hK7
    replace h := cond_f hb18 h
    refine WC_skip ?_
    refine hK16 _ _ ?_
    refine WC_seqK fun K20 hK20 => ?_
    refine WC_seqK fun K21 hK21 => ?_
    refine WC_region ?_
    refine T0_q (v := (.int .i64 0)) rfl (yl_assign rfl) ?_
    refine T0_nil ?_
    refine hK21 _ _ ?_
    have hq := bind_elim h
    clear h
    obtain ⟨o686, hl687, hn688⟩ := hq
    refine WC_post (fun (ρ : Env) (wd684 : World) => .inr () = o686 ∧ Ext w wd684) ?_ ?_
    · clear hK16 hK20 hK21
      intro K692 hK692
      refine WC_block ?_
      refine WC_loopk (fun sv ρ wd675 => ∃ (x678 : Int), x678 = sv ∧ ρ 1 = (.pointer (some ⟨b8, 0, none⟩)) ∧ ρ 3 = (.int .i64 x678) ∧ SlRd L wd675 v1 p_p.Maps ∧ SlRd L wd675 v3 p_p.Noise ∧ Box wd675 b8 [(.int .i64 p_p.Den), v1, v3] 25 ∧ Ext w wd675) hl687 ⟨0, rfl, rfl, rfl, (h2.ext he11), (h4.ext he11), hB12, e14⟩ ?_
      rintro _ ρ wd675 ⟨x678, rfl, hs677, hs679, h680, h681, hB683, e676⟩ x689 h hx690 K691 hK691
      refine WC_seqK fun K694 hK694 => ?_
      refine WC_seqK fun K695 hK695 => ?_
      refine WC_region ?_
      refine T0_q (v := (.int .i64 x678)) rfl (yl_move hs679) ?_
      refine T0_q (v := (.pointer (some ⟨b8, 1, none⟩))) rfl (yl_fa 1 Try.underlying25 rfl rfl ⟨0, sz22⟩ hs677 rfl) ?_
      refine T0_q (v := v1) rfl (yl_load sc22 rfl (At.drop (Box.at hB683) 1)) ?_
      refine T0_q (v := (.int .i64 (p_p.Maps.length : Int))) rfl (yl_lenR rfl Try.underlying22 h680 rfl) ?_
      refine T0_q (v := (.bool (decide (x678 < (p_p.Maps.length : Int))))) rfl (yl_lss rfl rfl) ?_
      refine T0_nil ?_
      refine hK695 _ _ ?_
      refine WC_cond (b := (decide (x678 < (p_p.Maps.length : Int)))) rfl (fun hb696 => ?_) (fun hb696 => ?_)
      · clear hK692 hK695
        replace h := cond_t hb696 h
        refine WC_skip ?_
        refine hK694 _ _ ?_
        refine WC_seqK fun K697 hK697 => ?_
        refine WC_block ?_
        refine WC_seqK fun K698 hK698 => ?_
        refine WC_seqK fun K699 hK699 => ?_
        refine WC_region ?_
        refine T0_q (v := (.pointer (some ⟨b8, 1, none⟩))) rfl (yl_fa 1 Try.underlying25 rfl rfl ⟨0, sz22⟩ hs677 rfl) ?_
        refine T0_q (v := v1) rfl (yl_load sc22 rfl (At.drop (Box.at hB683) 1)) ?_
        refine T0_q (v := (.int .i64 x678)) rfl (yl_move hs679) ?_
        have hq := bind_elim h
        clear h
        obtain ⟨el700, hel701, h⟩ := hq
        have hq := SlRd.at h680 hel701
        obtain ⟨cs704, hat705, hrd706⟩ := hq
        obtain ⟨v702, rfl, h703⟩ := hrd706
        refine T0_q (v := (.pointer (some (elemAddr v1 (x678 : Int).toNat 1)))) rfl (yl_indexAddr Try.underlying22 sz47 h680 hel701 rfl rfl) ?_
        refine T0_q (v := v702) rfl (yl_load sc47 rfl hat705) ?_
        refine T0_q (v := (.int .i64 (el700.length : Int))) rfl (yl_lenR rfl Try.underlying47 h703 rfl) ?_
        refine T0_q (v := (.bool (decide (5 < (el700.length : Int))))) rfl (yl_gtr rfl rfl) ?_
        refine T0_nil ?_
        refine hK699 _ _ ?_
        refine WC_cond (b := (decide (5 < (el700.length : Int)))) rfl (fun hb709 => ?_) (fun hb709 => ?_)
        · clear hK691 hK694 hK697 hK698 hK699
          replace h := cond_t hb709 h
          refine WC_seqK fun K710 hK710 => ?_
          refine WC_region ?_
          refine T0_q (v := (.bool false)) rfl (yl_assign rfl) ?_
          refine T0_nil ?_
          refine hK710 _ _ ?_
          refine WC_ret ?_
          replace h := some_out h
          subst h
          have ho := hx690 _ rfl
          subst ho
          replace h := jn0_inl hn688
          replace h := some_out h
          subst h
          exact ⟨[(.bool false)], ⟨rfl, trivial⟩, e676, rfl⟩
        · clear hK694 hK699
          replace h := cond_f hb709 h
          refine WC_skip ?_
          refine hK698 _ _ ?_
          refine WC_seqK fun K711 hK711 => ?_
          refine WC_region ?_
          refine T0_q (v := (.int .i64 0)) rfl (yl_assign rfl) ?_
          refine T0_nil ?_
          refine hK711 _ _ ?_
          have hq := bind_elim h
          clear h
          obtain ⟨o861, hl862, hn863⟩ := hq
          refine WC_post (fun (ρ : Env) (wd853 : World) => .inr () = o861 ∧ ρ 1 = (.pointer (some ⟨b8, 0, none⟩)) ∧ ρ 3 = (.int .i64 x678) ∧ SlRd L wd853 v1 p_p.Maps ∧ SlRd L wd853 v3 p_p.Noise ∧ Box wd853 b8 [(.int .i64 p_p.Den), v1, v3] 25 ∧ Ext w wd853) ?_ ?_
          · clear hK691 hK697 hK698 hK711
            intro K867 hK867
            refine WC_block ?_
            refine WC_loopk (fun sv ρ wd843 => ∃ (x847 : Int), x847 = sv ∧ ρ 1 = (.pointer (some ⟨b8, 0, none⟩)) ∧ ρ 3 = (.int .i64 x678) ∧ ρ 4 = (.int .i64 x847) ∧ SlRd L wd843 v1 p_p.Maps ∧ SlRd L wd843 v3 p_p.Noise ∧ Box wd843 b8 [(.int .i64 p_p.Den), v1, v3] 25 ∧ Ext w wd843) hl862 ⟨0, rfl, hs677, hs679, rfl, h680, h681, hB683, e676⟩ ?_
            rintro _ ρ wd843 ⟨x847, rfl, hs845, hs846, hs848, h849, h850, hB852, e844⟩ x864 h hx865 K866 hK866
            refine WC_seqK fun K869 hK869 => ?_
            refine WC_seqK fun K870 hK870 => ?_
            refine WC_region ?_
            refine T0_q (v := (.int .i64 x847)) rfl (yl_move hs848) ?_
            refine T0_q (v := (.pointer (some ⟨b8, 1, none⟩))) rfl (yl_fa 1 Try.underlying25 rfl rfl ⟨0, sz22⟩ hs845 rfl) ?_
            refine T0_q (v := v1) rfl (yl_load sc22 rfl (At.drop (Box.at hB852) 1)) ?_
            refine T0_q (v := (.int .i64 x678)) rfl (yl_move hs846) ?_
            have hq := bind_elim h
            clear h
            obtain ⟨el871, hel872, h⟩ := hq
            have hq := SlRd.at h849 hel872
            obtain ⟨cs875, hat876, hrd877⟩ := hq
            obtain ⟨v873, rfl, h874⟩ := hrd877
            refine T0_q (v := (.pointer (some (elemAddr v1 (x678 : Int).toNat 1)))) rfl (yl_indexAddr Try.underlying22 sz47 h849 hel872 rfl rfl) ?_
            refine T0_q (v := v873) rfl (yl_load sc47 rfl hat876) ?_
            refine T0_q (v := (.int .i64 (el871.length : Int))) rfl (yl_lenR rfl Try.underlying47 h874 rfl) ?_
            refine T0_q (v := (.bool (decide (x847 < (el871.length : Int))))) rfl (yl_lss rfl rfl) ?_
            refine T0_nil ?_
            refine hK870 _ _ ?_
            refine WC_cond (b := (decide (x847 < (el871.length : Int)))) rfl (fun hb880 => ?_) (fun hb880 => ?_)
            · clear hK867 hK870
              replace h := cond_t hb880 h
              refine WC_skip ?_
              refine hK869 _ _ ?_
              refine WC_seqK fun K881 hK881 => ?_
              refine WC_block ?_
              refine WC_seqK fun K882 hK882 => ?_
              refine WC_region ?_
              refine T0_q (v := (.pointer (some ⟨b8, 1, none⟩))) rfl (yl_fa 1 Try.underlying25 rfl rfl ⟨0, sz22⟩ hs845 rfl) ?_
              refine T0_q (v := v1) rfl (yl_load sc22 rfl (At.drop (Box.at hB852) 1)) ?_
              refine T0_q (v := (.int .i64 x678)) rfl (yl_move hs846) ?_
              have hq := bind_elim h
              clear h
              obtain ⟨el883, hel884, h⟩ := hq
              have hq := SlRd.at h849 hel884
              obtain ⟨cs887, hat888, hrd889⟩ := hq
              obtain ⟨v885, rfl, h886⟩ := hrd889
              refine T0_q (v := (.pointer (some (elemAddr v1 (x678 : Int).toNat 1)))) rfl (yl_indexAddr Try.underlying22 sz47 h849 hel884 rfl rfl) ?_
              refine T0_q (v := v885) rfl (yl_load sc47 rfl hat888) ?_
              refine T0_q (v := (.int .i64 x847)) rfl (yl_move hs848) ?_
              have hq := bind_elim h
              clear h
              obtain ⟨el892, hel893, h⟩ := hq
              have hq := SlRd.at h886 hel893
              obtain ⟨cs896, hat897, hrd898⟩ := hq
              obtain ⟨v894, rfl, h895⟩ := hrd898
              refine T0_q (v := (.pointer (some (elemAddr v885 (x847 : Int).toNat 1)))) rfl (yl_indexAddr Try.underlying47 sz23 h886 hel893 rfl rfl) ?_
              refine T0_q (v := v894) rfl (yl_load sc23 rfl hat897) ?_
              refine T0_q (v := (.int .i64 (el892.length : Int))) rfl (yl_lenR rfl Try.underlying23 h895 rfl) ?_
              refine T0_q (v := (.bool (decide (5 < (el892.length : Int))))) rfl (yl_gtr rfl rfl) ?_
              refine T0_nil ?_
              refine hK882 _ _ ?_
              refine WC_cond (b := (decide (5 < (el892.length : Int)))) rfl (fun hb901 => ?_) (fun hb901 => ?_)
              · clear hK866 hK869 hK881 hK882
                replace h := cond_t hb901 h
                refine WC_seqK fun K902 hK902 => ?_
                refine WC_region ?_
                refine T0_q (v := (.bool false)) rfl (yl_assign rfl) ?_
                refine T0_nil ?_
                refine hK902 _ _ ?_
                refine WC_ret ?_
                replace h := some_out h
                subst h
                have ho := hx865 _ rfl
                subst ho
                replace h := jn0_inl hn863
                replace h := some_out h
                subst h
                have ho := hx690 _ rfl
                subst ho
                replace h := jn0_inl hn688
                replace h := some_out h
                subst h
                exact ⟨[(.bool false)], ⟨rfl, trivial⟩, e844, rfl⟩
              · clear hK869 hK882
                replace h := cond_f hb901 h
                refine WC_skip ?_
                refine hK881 _ _ ?_
                refine WC_region ?_
                refine T0_q (v := (.int .i64 x847)) rfl (yl_move hs848) ?_
                refine T0_q (v := (.int .i64 (w64 (x847 + 1)))) rfl (yl_add rfl rfl) ?_
                refine T0_q (v := (.int .i64 (w64 (x847 + 1)))) rfl (yl_assign rfl) ?_
                refine T0_nil ?_
                replace h := some_out h
                subst h
                refine hK866 _ _ _ rfl ?_
                exact ⟨w64 (x847 + 1), rfl, hs845, hs846, rfl, h849, h850, hB852, e844⟩
            · clear hK866 hK869 hK870
              replace h := cond_f hb880 h
              refine WC_exit ?_
              replace h := some_out h
              subst h
              have ho := hx865 _ rfl
              subst ho
              refine hK867 _ _ ?_
              exact ⟨rfl, hs845, hs846, h849, h850, hB852, e844⟩
          · clear hK698 hK711
            rintro ρ wd853 ⟨rfl, hs855, hs856, h857, h858, hB860, e854⟩
            replace h := jn0_inr hn863
            refine hK697 _ _ ?_
            refine WC_region ?_
            refine T0_q (v := (.int .i64 x678)) rfl (yl_move hs856) ?_
            refine T0_q (v := (.int .i64 (w64 (x678 + 1)))) rfl (yl_add rfl rfl) ?_
            refine T0_q (v := (.int .i64 (w64 (x678 + 1)))) rfl (yl_assign rfl) ?_
            refine T0_nil ?_
            replace h := some_out h
            subst h
            refine hK691 _ _ _ rfl ?_
            exact ⟨w64 (x678 + 1), rfl, hs855, rfl, h857, h858, hB860, e854⟩
      · clear hK691 hK694 hK695
        replace h := cond_f hb696 h
        refine WC_exit ?_
        replace h := some_out h
        subst h
        have ho := hx690 _ rfl
        subst ho
        refine hK692 _ _ ?_
        exact ⟨rfl, e676⟩
    · clear hK16 hK21
      rintro ρ wd684 ⟨rfl, e685⟩
      replace h := jn0_inr hn688
      refine hK20 _ _ ?_
      refine WC_seqK fun K903 hK903 => ?_
      refine WC_region ?_
      refine T0_q (v := (.bool true)) rfl (yl_assign rfl) ?_
      refine T0_nil ?_
      refine hK903 _ _ ?_
      refine WC_ret ?_
      replace h := some_out h
      subst h
      exact ⟨[(.bool true)], ⟨rfl, trivial⟩, e685, rfl⟩

noncomputable def base_CopyInts_spec (p_l : (List Int)) : Option (List Int) :=
  (Option.bind (app ([] : List Int) p_l) fun zs14 =>
  some zs14
  )
theorem base_CopyInts_ok (L : List Value) (w : World) (hL : LtL L w) (v_p_l : Value) (p_l : (List Int)) (h_p_l : SlRd L w v_p_l p_l) (r : (List Int)) (h : base_CopyInts_spec p_l = some r) :
    CallsTo Try.prog 23 [v_p_l] w (fun v w' => Ext w w' ∧ ∃ (v0 : Value), v0 = v ∧ SlRd L w' v0 r) := by
  have e0 : Ext w w := Chg.refl _ _
  refine callsTo_of_WC (n := 6) (rs := [.tmp 2]) Try.func23 rfl rfl rfl rfl rfl ?_
  refine WC_seqK fun K2 hK2 => ?_
  refine WC_region ?_
  refine T0_q (v := (.slice none 0 0)) rfl (yl_assign rfl) ?_
  refine T0_nil ?_
  refine hK2 _ _ ?_
  refine WC_seqK fun K3 hK3 => ?_
  refine WC_region ?_
  refine T0_e rfl (eff_buildOC (L := L) (xs := ([] : List Int)) (cells := []) Try.underlying23 ei3 rfl pc_nil rfl Elems.nil rfl ?_)
  intro v7 wd4 he5 hf8 h6
  have h9 := h_p_l.step (Stepp.add v7 he5 hf8)
  have hf11 : ∀ b, blk v7 = some b → w.heap.size ≤ b := fun b hb => Nat.le_trans e0.size (hf8 b hb)
  have e12 := e0.trans he5
  refine T0_q (v := v_p_l) rfl (yl_move rfl) ?_
  have hq := bind_elim h
  clear h
  obtain ⟨zs14, hz15, h⟩ := hq
  refine T0_e rfl (eff_app Try.underlying23 ei3 rfl rfl rfl rfl h6 h9 hz15 ?_)
  intro v16 wd17 hc18 hbl19 h20
  have hf22 := fresh_swap hbl19 hf11 e12.size
  have e24 := chg_own e12 hc18 hf11
  refine T0_q (v := v16) rfl (yl_assign rfl) ?_
  refine T0_nil ?_
  refine hK3 _ _ ?_
  refine WC_ret ?_
  replace h := some_out h
  subst h
  exact ⟨[v16], ⟨rfl, trivial⟩, e24, v16, rfl, (h20.rdL (sub_skip (sub_refl _)) hL hf22)⟩
theorem base_CopyInts_own (L : List Value) (w : World) (hL : LtL L w) (v_p_l : Value) (p_l : (List Int)) (h_p_l : SlRd L w v_p_l p_l) (r : (List Int)) (h : base_CopyInts_spec p_l = some r) :
    CallsTo Try.prog 23 [v_p_l] w (fun v w' => Ext w w' ∧ ∃ (v0 : Value), v0 = v ∧ (∀ b, blk v0 = some b → w.heap.size ≤ b) ∧ Own 3 (v0 :: L) w' v0 r) := by
  have e0 : Ext w w := Chg.refl _ _
  refine callsTo_of_WC (n := 6) (rs := [.tmp 2]) Try.func23 rfl rfl rfl rfl rfl ?_
  refine WC_seqK fun K2 hK2 => ?_
  refine WC_region ?_
  refine T0_q (v := (.slice none 0 0)) rfl (yl_assign rfl) ?_
  refine T0_nil ?_
  refine hK2 _ _ ?_
  refine WC_seqK fun K3 hK3 => ?_
  refine WC_region ?_
  refine T0_e rfl (eff_buildOC (L := L) (xs := ([] : List Int)) (cells := []) Try.underlying23 ei3 rfl pc_nil rfl Elems.nil rfl ?_)
  intro v7 wd4 he5 hf8 h6
  have h9 := h_p_l.step (Stepp.add v7 he5 hf8)
  have hf11 : ∀ b, blk v7 = some b → w.heap.size ≤ b := fun b hb => Nat.le_trans e0.size (hf8 b hb)
  have e12 := e0.trans he5
  refine T0_q (v := v_p_l) rfl (yl_move rfl) ?_
  have hq := bind_elim h
  clear h
  obtain ⟨zs14, hz15, h⟩ := hq
  refine T0_e rfl (eff_app Try.underlying23 ei3 rfl rfl rfl rfl h6 h9 hz15 ?_)
  intro v16 wd17 hc18 hbl19 h20
  have hf22 := fresh_swap hbl19 hf11 e12.size
  have e24 := chg_own e12 hc18 hf11
  refine T0_q (v := v16) rfl (yl_assign rfl) ?_
  refine T0_nil ?_
  refine hK3 _ _ ?_
  refine WC_ret ?_
  replace h := some_out h
  subst h
  exact ⟨[v16], ⟨rfl, trivial⟩, e24, v16, rfl, hf22, (h20.sub (sub_cons mem0 (sub_skip (sub_refl _))))⟩

noncomputable def base_Ints_s0 (p_a : (List Int)) (p_b : (List Int)) : (Int) → Option ((Int) ⊕ (Bool ⊕ (Unit))) := fun x105 =>
  (bif (decide (x105 < (p_a.length : Int))) then (
    (Option.bind (idx p_a x105) fun el125 =>
    (Option.bind (idx p_b x105) fun el131 =>
    (bif (!decide (el125 = el131)) then (
      some (.inr (.inl false))
    ) else (
      some (.inl (w64 (x105 + 1)))
    ))
    )
    )
  ) else (
    some (.inr (.inr ()))
  ))
noncomputable def base_Ints_spec (p_a : (List Int)) (p_b : (List Int)) : Option Bool :=
  (bif (!decide ((p_a.length : Int) = (p_b.length : Int))) then (
    some false
  ) else (
    (Option.bind (loop (base_Ints_s0 p_a p_b) 0) fun o109 => jn0 o109 fun (_ : Unit) =>
    some true
    )
  ))
theorem base_Ints_ok (L : List Value) (w : World) (hL : LtL L w) (v_p_a : Value) (p_a : (List Int)) (h_p_a : SlRd L w v_p_a p_a) (v_p_b : Value) (p_b : (List Int)) (h_p_b : SlRd L w v_p_b p_b) (r : Bool) (h : base_Ints_spec p_a p_b = some r) :
    CallsTo Try.prog 24 [v_p_a, v_p_b] w (fun v w' => Ext w w' ∧ (.bool r) = v) := by
  have e0 : Ext w w := Chg.refl _ _
  refine callsTo_of_WC (n := 26) (rs := [.tmp 4]) Try.func24 rfl rfl rfl rfl rfl ?_
  refine WC_seqK fun K3 hK3 => ?_
  refine WC_region ?_
  refine T0_q (v := (.bool false)) rfl (yl_assign rfl) ?_
  refine T0_nil ?_
  refine hK3 _ _ ?_
  refine WC_seqK fun K4 hK4 => ?_
  refine WC_seqK fun K5 hK5 => ?_
  refine WC_region ?_
  refine T0_q (v := v_p_a) rfl (yl_move rfl) ?_
  refine T0_q (v := (.int .i64 (p_a.length : Int))) rfl (yl_lenR rfl Try.underlying23 h_p_a rfl) ?_
  refine T0_q (v := v_p_b) rfl (yl_move rfl) ?_
  refine T0_q (v := (.int .i64 (p_b.length : Int))) rfl (yl_lenR rfl Try.underlying23 h_p_b rfl) ?_
  refine T0_q (v := (.bool (!decide ((p_a.length : Int) = (p_b.length : Int))))) rfl (yl_neq rfl rfl) ?_
  refine T0_nil ?_
  refine hK5 _ _ ?_
  refine WC_cond (b := (!decide ((p_a.length : Int) = (p_b.length : Int)))) rfl (fun hb6 => ?_) (fun hb6 => ?_)
  · clear hK3 hK4 hK5
    replace h := cond_t hb6 h
    refine WC_seqK fun K7 hK7 => ?_
    refine WC_region ?_
    refine T0_q (v := (.bool false)) rfl (yl_assign rfl) ?_
    refine T0_nil ?_
    refine hK7 _ _ ?_
    refine WC_ret ?_
    replace h := some_out h
    subst h
    exact ⟨[(.bool false)], ⟨rfl, trivial⟩, e0, rfl⟩
  · clear hK3 hK5
    replace h := cond_f hb6 h
    refine WC_skip ?_
    refine hK4 _ _ ?_
    refine WC_seqK fun K8 hK8 => ?_
    refine WC_seqK fun K9 hK9 => ?_
    refine WC_region ?_
    refine T0_q (v := (.int .i64 0)) rfl (yl_assign rfl) ?_
    refine T0_nil ?_
    refine hK9 _ _ ?_
    have hq := bind_elim h
    clear h
    obtain ⟨o109, hl110, hn111⟩ := hq
    refine WC_post (fun (ρ : Env) (wd107 : World) => .inr () = o109 ∧ Ext w wd107) ?_ ?_
    · clear hK4 hK8 hK9
      intro K115 hK115
      refine WC_block ?_
      refine WC_loopk (fun sv ρ wd99 => ∃ (x105 : Int), x105 = sv ∧ ρ 0 = v_p_a ∧ ρ 1 = v_p_b ∧ ρ 5 = (.int .i64 x105) ∧ SlRd L wd99 v_p_a p_a ∧ SlRd L wd99 v_p_b p_b ∧ Ext w wd99) hl110 ⟨0, rfl, rfl, rfl, rfl, h_p_a, h_p_b, e0⟩ ?_
      rintro _ ρ wd99 ⟨x105, rfl, hs102, hs104, hs106, h101, h103, e100⟩ x112 h hx113 K114 hK114
      refine WC_seqK fun K117 hK117 => ?_
      refine WC_seqK fun K118 hK118 => ?_
      refine WC_region ?_
      refine T0_q (v := (.int .i64 x105)) rfl (yl_move hs106) ?_
      refine T0_q (v := v_p_a) rfl (yl_move hs102) ?_
      refine T0_q (v := (.int .i64 (p_a.length : Int))) rfl (yl_lenR rfl Try.underlying23 h101 rfl) ?_
      refine T0_q (v := (.bool (decide (x105 < (p_a.length : Int))))) rfl (yl_lss rfl rfl) ?_
      refine T0_nil ?_
      refine hK118 _ _ ?_
      refine WC_cond (b := (decide (x105 < (p_a.length : Int)))) rfl (fun hb119 => ?_) (fun hb119 => ?_)
      · clear hK115 hK118
        replace h := cond_t hb119 h
        refine WC_skip ?_
        refine hK117 _ _ ?_
        refine WC_seqK fun K120 hK120 => ?_
        refine WC_block ?_
        refine WC_seqK fun K121 hK121 => ?_
        refine WC_planX mixed (.p 0 (.p 1 (.p 2 (.p 4 (.p 5 (.p 6 (.q 3 (.q 7 (.p 8 .done))))))))) (by kernel_rfl) ?_
        intro wd122 he123
        have e124 := e100.trans he123
        refine TX_p (v := v_p_a) rfl rfl (fun w' => (yl_move hs102)) ?_
        refine TX_p (v := (.int .i64 x105)) rfl rfl (fun w' => (yl_move hs106)) ?_
        have hq := bind_elim h
        clear h
        obtain ⟨el125, hel126, h⟩ := hq
        have hq := SlRd.at h101 hel126
        obtain ⟨cs127, hat128, hrd129⟩ := hq
        have hrd129 : cs127 = [(.int .i64 el125)] := hrd129
        subst hrd129
        refine TX_p (v := (.pointer (some (elemAddr v_p_a (x105 : Int).toNat 1)))) rfl rfl (fun w' => (yl_indexAddr Try.underlying23 sz3 h101 hel126 rfl rfl)) ?_
        refine TX_p (v := v_p_b) rfl rfl (fun w' => (yl_move hs104)) ?_
        refine TX_p (v := (.int .i64 x105)) rfl rfl (fun w' => (yl_move hs106)) ?_
        have hq := bind_elim h
        clear h
        obtain ⟨el131, hel132, h⟩ := hq
        have hq := SlRd.at h103 hel132
        obtain ⟨cs133, hat134, hrd135⟩ := hq
        have hrd135 : cs133 = [(.int .i64 el131)] := hrd135
        subst hrd135
        refine TX_p (v := (.pointer (some (elemAddr v_p_b (x105 : Int).toNat 1)))) rfl rfl (fun w' => (yl_indexAddr Try.underlying23 sz3 h103 hel132 rfl rfl)) ?_
        refine TX_q (v := (.int .i64 el125)) rfl rfl (fun w' hS => (yl_load sc3 rfl (hat128.ext' (he123.trans hS)))) ?_
        refine TX_q (v := (.int .i64 el131)) rfl rfl (fun w' hS => (yl_load sc3 rfl (hat134.ext' (he123.trans hS)))) ?_
        refine TX_p (v := (.bool (!decide (el125 = el131)))) rfl rfl (fun w' => (yl_neq rfl rfl)) ?_
        refine TX_done ?_
        refine hK121 _ _ ?_
        refine WC_cond (b := (!decide (el125 = el131))) rfl (fun hb137 => ?_) (fun hb137 => ?_)
        · clear hK114 hK117 hK120 hK121
          replace h := cond_t hb137 h
          refine WC_seqK fun K138 hK138 => ?_
          refine WC_region ?_
          refine T0_q (v := (.bool false)) rfl (yl_assign rfl) ?_
          refine T0_nil ?_
          refine hK138 _ _ ?_
          refine WC_ret ?_
          replace h := some_out h
          subst h
          have ho := hx113 _ rfl
          subst ho
          replace h := jn0_inl hn111
          replace h := some_out h
          subst h
          exact ⟨[(.bool false)], ⟨rfl, trivial⟩, e124, rfl⟩
        · clear hK117 hK121
          replace h := cond_f hb137 h
          refine WC_skip ?_
          refine hK120 _ _ ?_
          refine WC_region ?_
          refine T0_q (v := (.int .i64 x105)) rfl (yl_move hs106) ?_
          refine T0_q (v := (.int .i64 (w64 (x105 + 1)))) rfl (yl_add rfl rfl) ?_
          refine T0_q (v := (.int .i64 (w64 (x105 + 1)))) rfl (yl_assign rfl) ?_
          refine T0_nil ?_
          replace h := some_out h
          subst h
          refine hK114 _ _ _ rfl ?_
          exact ⟨w64 (x105 + 1), rfl, hs102, hs104, rfl, (h101.ext he123), (h103.ext he123), e124⟩
      · clear hK114 hK117 hK118
        replace h := cond_f hb119 h
        refine WC_exit ?_
        replace h := some_out h
        subst h
        have ho := hx113 _ rfl
        subst ho
        refine hK115 _ _ ?_
        exact ⟨rfl, e100⟩
    · clear hK4 hK9
      rintro ρ wd107 ⟨rfl, e108⟩
      replace h := jn0_inr hn111
      refine hK8 _ _ ?_
      refine WC_seqK fun K139 hK139 => ?_
      refine WC_region ?_
      refine T0_q (v := (.bool true)) rfl (yl_assign rfl) ?_
      refine T0_nil ?_
      refine hK139 _ _ ?_
      refine WC_ret ?_
      replace h := some_out h
      subst h
      exact ⟨[(.bool true)], ⟨rfl, trivial⟩, e108, rfl⟩

noncomputable def base_CopyLists_s0 (p_l : (List (List Int))) : ((List (List Int)) × Int) → Option (((List (List Int)) × Int) ⊕ ((List (List Int)))) := fun (x180, x185) =>
  (bif (decide (x185 < (p_l.length : Int))) then (
    (Option.bind (idx p_l x185) fun el212 =>
    (Option.bind (base_CopyInts_spec el212) fun r221 =>
    (Option.bind (app x180 ([r221] : List (List Int))) fun zs236 =>
    some (.inl (zs236, w64 (x185 + 1)))
    )
    )
    )
  ) else (
    some (.inr x180)
  ))
noncomputable def base_CopyLists_spec (p_l : (List (List Int))) : Option (List (List Int)) :=
  (Option.bind (loop (base_CopyLists_s0 p_l) (([] : List (List Int)), 0)) fun (x195 : (List (List Int))) =>
  some x195
  )
theorem base_CopyLists_ok (L : List Value) (w : World) (hL : LtL L w) (v_p_l : Value) (p_l : (List (List Int))) (h_p_l : SlRd L w v_p_l p_l) (r : (List (List Int))) (h : base_CopyLists_spec p_l = some r) :
    CallsTo Try.prog 26 [v_p_l] w (fun v w' => Ext w w' ∧ ∃ (v0 : Value), v0 = v ∧ SlRd L w' v0 r) := by
  have e0 : Ext w w := Chg.refl _ _
  refine callsTo_of_WC (n := 20) (rs := [.tmp 2]) Try.func26 rfl rfl rfl rfl rfl ?_
  refine WC_seqK fun K2 hK2 => ?_
  refine WC_region ?_
  refine T0_q (v := (.slice none 0 0)) rfl (yl_assign rfl) ?_
  refine T0_nil ?_
  refine hK2 _ _ ?_
  refine WC_seqK fun K3 hK3 => ?_
  refine WC_region ?_
  refine T0_q (v := (.slice none 0 0)) rfl (yl_assign rfl) ?_
  refine T0_nil ?_
  refine hK3 _ _ ?_
  refine WC_seqK fun K4 hK4 => ?_
  refine WC_seqK fun K5 hK5 => ?_
  refine WC_region ?_
  refine T0_q (v := (.int .i64 0)) rfl (yl_assign rfl) ?_
  refine T0_nil ?_
  refine hK5 _ _ ?_
  have h187 := h_p_l.step (add_nil _)
  have h189 : Own 23 ((.slice none 0 0) :: L) w (.slice none 0 0) ([] : List (List Int)) := Own.nil _ _ _
  have hq := bind_elim h
  clear h
  obtain ⟨o200, hl201, hn202⟩ := hq
  refine WC_post (fun (ρ : Env) (wd191 : World) => ∃ (x195 : (List (List Int))) (v194 : Value), x195 = o200 ∧ ρ 3 = v194 ∧ Own 23 (v194 :: L) wd191 v194 x195 ∧ (∀ b, blk v194 = some b → w.heap.size ≤ b) ∧ Ext w wd191) ?_ ?_
  · clear hK2 hK3 hK4 hK5
    intro K206 hK206
    refine WC_block ?_
    refine WC_loopk (fun sv ρ wd174 => ∃ (x180 : (List (List Int))) (x185 : Int) (v179 : Value), (x180, x185) = sv ∧ ρ 0 = v_p_l ∧ ρ 3 = v179 ∧ ρ 4 = (.int .i64 x185) ∧ SlRd (v179 :: L) wd174 v_p_l p_l ∧ Own 23 (v179 :: L) wd174 v179 x180 ∧ (∀ b, blk v179 = some b → w.heap.size ≤ b) ∧ Ext w wd174) hl201 ⟨([] : List (List Int)), 0, (.slice none 0 0), rfl, rfl, rfl, rfl, h187, h189, (fun b h => blk_nil b h), e0⟩ ?_
    rintro _ ρ wd174 ⟨x180, x185, v179, rfl, hs177, hs184, hs186, h176, h182, hf183, e175⟩ x203 h hx204 K205 hK205
    refine WC_seqK fun K208 hK208 => ?_
    refine WC_seqK fun K209 hK209 => ?_
    refine WC_region ?_
    refine T0_q (v := (.int .i64 x185)) rfl (yl_move hs186) ?_
    refine T0_q (v := v_p_l) rfl (yl_move hs177) ?_
    refine T0_q (v := (.int .i64 (p_l.length : Int))) rfl (yl_lenR rfl Try.underlying47 h176 rfl) ?_
    refine T0_q (v := (.bool (decide (x185 < (p_l.length : Int))))) rfl (yl_lss rfl rfl) ?_
    refine T0_nil ?_
    refine hK209 _ _ ?_
    refine WC_cond (b := (decide (x185 < (p_l.length : Int)))) rfl (fun hb210 => ?_) (fun hb210 => ?_)
    · clear hK206 hK209
      replace h := cond_t hb210 h
      refine WC_skip ?_
      refine hK208 _ _ ?_
      refine WC_seqK fun K211 hK211 => ?_
      refine WC_block ?_
      refine WC_region ?_
      refine T0_q (v := v179) rfl (yl_move hs184) ?_
      refine T0_q (v := v_p_l) rfl (yl_move hs177) ?_
      refine T0_q (v := (.int .i64 x185)) rfl (yl_move hs186) ?_
      have hq := bind_elim h
      clear h
      obtain ⟨el212, hel213, h⟩ := hq
      have hq := SlRd.at h176 hel213
      obtain ⟨cs216, hat217, hrd218⟩ := hq
      obtain ⟨v214, rfl, h215⟩ := hrd218
      refine T0_q (v := (.pointer (some (elemAddr v_p_l (x185 : Int).toNat 1)))) rfl (yl_indexAddr Try.underlying47 sz23 h176 hel213 rfl rfl) ?_
      refine T0_q (v := v214) rfl (yl_load sc23 rfl hat217) ?_
      have hq := bind_elim h
      clear h
      obtain ⟨r221, hr222, h⟩ := hq
      refine T0_e rfl (eff_call Try.func23 nm23 rfl (ev1 rfl) (base_CopyInts_ok (v179 :: L) _ (ltl_own (hL.chg e175) h182) v214 el212 h215 r221 hr222) ?_)
      rintro _ wd223 ⟨he224, v225, rfl, h226⟩
      have e227 := e175.trans he224
      refine T0_e rfl (eff_buildTC (xs := ([r221] : List (List Int))) (cells := [v225]) Try.underlying47 ei23 rfl (pc_cons rfl (cells_one h226.one1) pc_nil) rfl (Elems.cons (cs := [v225]) ⟨_, rfl, h226⟩ Elems.nil) rfl (ltl_own (hL.chg e227) (h182.ext he224)) ?_)
      intro b232 wd229 he230 h231
      have e233 := he224.trans he230
      have e234 := e227.trans he230
      have hq := bind_elim h
      clear h
      obtain ⟨zs236, hz237, h⟩ := hq
      refine T0_e rfl (eff_app Try.underlying47 ei23 rfl rfl rfl rfl (h182.ext e233) h231 hz237 ?_)
      intro v238 wd239 hc240 hbl241 h242
      have hf244 := fresh_swap hbl241 hf183 e234.size
      have h245 := (h176.ext e233).step (Stepp.swap hc240 hbl241)
      have e249 := chg_own e234 hc240 hf183
      refine T0_q (v := v238) rfl (yl_assign rfl) ?_
      refine T0_nil ?_
      refine hK211 _ _ ?_
      refine WC_region ?_
      refine T0_q (v := (.int .i64 x185)) rfl (yl_move hs186) ?_
      refine T0_q (v := (.int .i64 (w64 (x185 + 1)))) rfl (yl_add rfl rfl) ?_
      refine T0_q (v := (.int .i64 (w64 (x185 + 1)))) rfl (yl_assign rfl) ?_
      refine T0_nil ?_
      replace h := some_out h
      subst h
      refine hK205 _ _ _ rfl ?_
      exact ⟨zs236, w64 (x185 + 1), v238, rfl, hs177, rfl, rfl, h245, h242, hf244, e249⟩
    · clear hK205 hK208 hK209
      replace h := cond_f hb210 h
      refine WC_exit ?_
      replace h := some_out h
      subst h
      have ho := hx204 _ rfl
      subst ho
      refine hK206 _ _ ?_
      exact ⟨x180, v179, rfl, hs184, h182, hf183, e175⟩
  · clear hK2 hK3 hK5
    rintro ρ wd191 ⟨x195, v194, rfl, hs199, h197, hf198, e192⟩
    replace h := hn202
    refine hK4 _ _ ?_
    refine WC_seqK fun K251 hK251 => ?_
    refine WC_region ?_
    refine T0_q (v := v194) rfl (yl_move hs199) ?_
    refine T0_q (v := v194) rfl (yl_assign rfl) ?_
    refine T0_nil ?_
    refine hK251 _ _ ?_
    refine WC_ret ?_
    replace h := some_out h
    subst h
    exact ⟨[v194], ⟨rfl, trivial⟩, e192, v194, rfl, (h197.rdL (sub_skip (sub_refl _)) hL hf198)⟩

noncomputable def law02_Plant_spec : Option LevitatePlant :=
  some (LevitatePlant.mk 10 ([([([5, 0] : List Int), ([2, 4] : List Int)] : List (List Int))] : List (List (List Int))) ([3, 1] : List Int))
theorem law02_Plant_ok (L : List Value) (w : World) (hL : LtL L w) (r : LevitatePlant) (h : law02_Plant_spec = some r) :
    CallsTo Try.prog 32 [] w (fun v w' => Ext w w' ∧ ∃ (cs0 : List Value), (.agg cs0.toArray) = v ∧ Rep.rd L w' cs0 r) := by
  have e0 : Ext w w := Chg.refl _ _
  refine callsTo_of_WC (n := 7) (rs := [.cell 0 25]) Try.func32 rfl rfl rfl rfl rfl ?_
  refine WC_seqK fun K1 hK1 => ?_
  refine WC_region ?_
  refine T0_e rfl (eff_allocZ zi25 ?_)
  intro b2 wd3 hb4 he5 hB6
  have hbf7 := bfresh e0 hb4
  have e8 := e0.trans he5
  refine T0_nil ?_
  refine hK1 _ _ ?_
  refine WC_seqK fun K10 hK10 => ?_
  refine WC_region ?_
  refine T0_e rfl (eff_buildTC (xs := ([5, 0] : List Int)) (cells := [(.int .i64 5), (.int .i64 0)]) Try.underlying23 ei3 rfl (pc_cons rfl rfl (pc_cons rfl rfl pc_nil)) rfl (Elems.cons (cs := [(.int .i64 5)]) rfl (Elems.cons (cs := [(.int .i64 0)]) rfl Elems.nil)) rfl (ltl_box (hL.chg e8) hB6) ?_)
  intro b14 wd11 he12 h13
  have e15 := e8.trans he12
  refine T0_e rfl (eff_buildTC (xs := ([2, 4] : List Int)) (cells := [(.int .i64 2), (.int .i64 4)]) Try.underlying23 ei3 rfl (pc_cons rfl rfl (pc_cons rfl rfl pc_nil)) rfl (Elems.cons (cs := [(.int .i64 2)]) rfl (Elems.cons (cs := [(.int .i64 4)]) rfl Elems.nil)) rfl (ltl_box (hL.chg e15) (hB6.ext he12)) ?_)
  intro b20 wd17 he18 h19
  have e21 := he12.trans he18
  have e22 := e15.trans he18
  refine T0_e rfl (eff_buildTC (xs := ([([5, 0] : List Int), ([2, 4] : List Int)] : List (List Int))) (cells := [(.slice (some ⟨b14, 0, none⟩) 2 2), (.slice (some ⟨b20, 0, none⟩) 2 2)]) Try.underlying47 ei23 rfl (pc_cons rfl (cells_one h13.one1) (pc_cons rfl (cells_one h19.one1) pc_nil)) rfl (Elems.cons (cs := [(.slice (some ⟨b14, 0, none⟩) 2 2)]) ⟨_, rfl, (h13.ext he18)⟩ (Elems.cons (cs := [(.slice (some ⟨b20, 0, none⟩) 2 2)]) ⟨_, rfl, h19⟩ Elems.nil)) rfl (ltl_box (hL.chg e22) (hB6.ext e21)) ?_)
  intro b27 wd24 he25 h26
  have e29 := e21.trans he25
  have e30 := e22.trans he25
  refine T0_e rfl (eff_buildTC (xs := ([([([5, 0] : List Int), ([2, 4] : List Int)] : List (List Int))] : List (List (List Int)))) (cells := [(.slice (some ⟨b27, 0, none⟩) 2 2)]) Try.underlying22 ei47 rfl (pc_cons rfl (cells_one h26.one1) pc_nil) rfl (Elems.cons (cs := [(.slice (some ⟨b27, 0, none⟩) 2 2)]) ⟨_, rfl, h26⟩ Elems.nil) rfl (ltl_box (hL.chg e30) (hB6.ext e29)) ?_)
  intro b35 wd32 he33 h34
  have e38 := e29.trans he33
  have e39 := e30.trans he33
  refine T0_e rfl (eff_buildTC (xs := ([3, 1] : List Int)) (cells := [(.int .i64 3), (.int .i64 1)]) Try.underlying23 ei3 rfl (pc_cons rfl rfl (pc_cons rfl rfl pc_nil)) rfl (Elems.cons (cs := [(.int .i64 3)]) rfl (Elems.cons (cs := [(.int .i64 1)]) rfl Elems.nil)) rfl (ltl_box (hL.chg e39) (hB6.ext e38)) ?_)
  intro b44 wd41 he42 h43
  have e48 := e38.trans he42
  have e49 := e39.trans he42
  refine T0_q (v := (.agg (List.toArray [(.int .i64 10), (.slice (some ⟨b35, 0, none⟩) 1 1), (.slice (some ⟨b44, 0, none⟩) 2 2)]))) rfl (yl_buildC (cells := [(.int .i64 10), (.slice (some ⟨b35, 0, none⟩) 1 1), (.slice (some ⟨b44, 0, none⟩) 2 2)]) bi25 (pc_cons rfl rfl (pc_cons rfl (cells_one h34.one1) (pc_cons rfl (cells_one h43.one1) pc_nil))) rfl) ?_
  refine T0_e rfl (eff_storeC (vs := [(.int .i64 10), (.slice (some ⟨b35, 0, none⟩) 1 1), (.slice (some ⟨b44, 0, none⟩) 2 2)]) (cs' := [(.int .i64 10), (.slice (some ⟨b35, 0, none⟩) 1 1), (.slice (some ⟨b44, 0, none⟩) 2 2)]) sz25 rfl rfl rfl rfl (hB6.ext e48) rfl (oc_cons rfl (oc_cons h34.one1 (oc_cons h43.one1 oc_nil))) rfl ?_)
  intro wd51 hc52 hB53
  have h57 := (h34.ext he42).step (Stepp.chg_mem hc52 mem0)
  have h58 := h43.step (Stepp.chg_mem hc52 mem0)
  have e59 := chg_box e49 hc52 hbf7
  refine T0_nil ?_
  refine hK10 _ _ ?_
  refine WC_ret ?_
  replace h := some_out h
  subst h
  exact ⟨[(.agg (List.toArray [(.int .i64 10), (.slice (some ⟨b35, 0, none⟩) 1 1), (.slice (some ⟨b44, 0, none⟩) 2 2)]))], ⟨⟨_, rfl, run_loadVarA (cs := [(.int .i64 10), (.slice (some ⟨b35, 0, none⟩) 1 1), (.slice (some ⟨b44, 0, none⟩) 2 2)]) ag25 (Box.at hB53)⟩, trivial⟩, e59, [(.int .i64 10), (.slice (some ⟨b35, 0, none⟩) 1 1), (.slice (some ⟨b44, 0, none⟩) 2 2)], rfl, ⟨(.slice (some ⟨b35, 0, none⟩) 1 1), (.slice (some ⟨b44, 0, none⟩) 2 2), (h57.sub (sub_skip (sub_refl _))), (h58.sub (sub_skip (sub_refl _))), rfl⟩⟩

noncomputable def law02_Form_spec : Option (List (List Int)) :=
  some ([([1, 0] : List Int), ([0, 1] : List Int)] : List (List Int))
theorem law02_Form_ok (L : List Value) (w : World) (hL : LtL L w) (r : (List (List Int))) (h : law02_Form_spec = some r) :
    CallsTo Try.prog 34 [] w (fun v w' => Ext w w' ∧ ∃ (v0 : Value), v0 = v ∧ SlRd L w' v0 r) := by
  have e0 : Ext w w := Chg.refl _ _
  refine callsTo_of_WC (n := 4) (rs := [.tmp 0]) Try.func34 rfl rfl rfl rfl rfl ?_
  refine WC_seqK fun K1 hK1 => ?_
  refine WC_region ?_
  refine T0_q (v := (.slice none 0 0)) rfl (yl_assign rfl) ?_
  refine T0_nil ?_
  refine hK1 _ _ ?_
  refine WC_seqK fun K2 hK2 => ?_
  refine WC_region ?_
  refine T0_e rfl (eff_buildTC (xs := ([1, 0] : List Int)) (cells := [(.int .i64 1), (.int .i64 0)]) Try.underlying23 ei3 rfl (pc_cons rfl rfl (pc_cons rfl rfl pc_nil)) rfl (Elems.cons (cs := [(.int .i64 1)]) rfl (Elems.cons (cs := [(.int .i64 0)]) rfl Elems.nil)) rfl (hL.chg e0) ?_)
  intro b6 wd3 he4 h5
  have e7 := e0.trans he4
  refine T0_e rfl (eff_buildTC (xs := ([0, 1] : List Int)) (cells := [(.int .i64 0), (.int .i64 1)]) Try.underlying23 ei3 rfl (pc_cons rfl rfl (pc_cons rfl rfl pc_nil)) rfl (Elems.cons (cs := [(.int .i64 0)]) rfl (Elems.cons (cs := [(.int .i64 1)]) rfl Elems.nil)) rfl (hL.chg e7) ?_)
  intro b12 wd9 he10 h11
  have e13 := e7.trans he10
  refine T0_e rfl (eff_buildTC (xs := ([([1, 0] : List Int), ([0, 1] : List Int)] : List (List Int))) (cells := [(.slice (some ⟨b6, 0, none⟩) 2 2), (.slice (some ⟨b12, 0, none⟩) 2 2)]) Try.underlying47 ei23 rfl (pc_cons rfl (cells_one h5.one1) (pc_cons rfl (cells_one h11.one1) pc_nil)) rfl (Elems.cons (cs := [(.slice (some ⟨b6, 0, none⟩) 2 2)]) ⟨_, rfl, (h5.ext he10)⟩ (Elems.cons (cs := [(.slice (some ⟨b12, 0, none⟩) 2 2)]) ⟨_, rfl, h11⟩ Elems.nil)) rfl (hL.chg e13) ?_)
  intro b18 wd15 he16 h17
  have e20 := e13.trans he16
  refine T0_q (v := (.slice (some ⟨b18, 0, none⟩) 2 2)) rfl (yl_assign rfl) ?_
  refine T0_nil ?_
  refine hK2 _ _ ?_
  refine WC_ret ?_
  replace h := some_out h
  subst h
  exact ⟨[(.slice (some ⟨b18, 0, none⟩) 2 2)], ⟨rfl, trivial⟩, e20, (.slice (some ⟨b18, 0, none⟩) 2 2), rfl, h17⟩

noncomputable def levitate_within_spec (p_n : Int) (p_lo : Int) (p_hi : Int) : Option Bool :=
  some ((decide (p_lo ≤ p_n)) && (decide (p_n ≤ p_hi)))
theorem levitate_within_ok (L : List Value) (w : World) (hL : LtL L w) (p_n : Int) (p_lo : Int) (p_hi : Int) (r : Bool) (h : levitate_within_spec p_n p_lo p_hi = some r) :
    CallsTo Try.prog 38 [(.int .i64 p_n), (.int .i64 p_lo), (.int .i64 p_hi)] w (fun v w' => Ext w w' ∧ (.bool r) = v) := by
  have e0 : Ext w w := Chg.refl _ _
  refine callsTo_of_WC (n := 15) (rs := [.tmp 6]) Try.func38 rfl rfl rfl rfl rfl ?_
  refine WC_seqK fun K1 hK1 => ?_
  refine WC_region ?_
  refine T0_q (v := (.bool false)) rfl (yl_assign rfl) ?_
  refine T0_nil ?_
  refine hK1 _ _ ?_
  refine WC_seqK fun K2 hK2 => ?_
  refine WC_region ?_
  refine T0_q (v := (.int .i64 p_lo)) rfl (yl_move rfl) ?_
  refine T0_q (v := (.int .i64 p_n)) rfl (yl_move rfl) ?_
  refine T0_q (v := (.bool (decide (p_lo ≤ p_n)))) rfl (yl_leq rfl rfl) ?_
  refine T0_q (v := (.bool (decide (p_lo ≤ p_n)))) rfl (yl_move rfl) ?_
  refine T0_g (v := (.int .i64 p_n)) (decide (p_lo ≤ p_n)) (wanted_t rfl rfl rfl rfl) (fun hg => (yl_move rfl)) ?_
  refine T0_g (v := (.int .i64 p_hi)) (decide (p_lo ≤ p_n)) (wanted_t rfl rfl rfl rfl) (fun hg => (yl_move rfl)) ?_
  refine T0_g (v := (.bool (decide (p_n ≤ p_hi)))) (decide (p_lo ≤ p_n)) (wanted_t rfl rfl rfl rfl) (fun hg => (yl_leq (gd_true hg) (gd_true hg))) ?_
  refine T0_q (v := (.bool ((decide (p_lo ≤ p_n)) && (decide (p_n ≤ p_hi))))) rfl (yl_and rfl (fun hb => (gd_true hb)) rfl) ?_
  refine T0_q (v := (.bool ((decide (p_lo ≤ p_n)) && (decide (p_n ≤ p_hi))))) rfl (yl_assign rfl) ?_
  refine T0_nil ?_
  refine hK2 _ _ ?_
  refine WC_ret ?_
  replace h := some_out h
  subst h
  exact ⟨[(.bool ((decide (p_lo ≤ p_n)) && (decide (p_n ≤ p_hi))))], ⟨rfl, trivial⟩, e0, rfl⟩

noncomputable def levitate_first_s0 (p_l : (List Int)) : (Int) → Option ((Int) ⊕ (Int ⊕ (Unit))) := fun x72 =>
  (bif (decide (x72 < (p_l.length : Int))) then (
    (Option.bind (idx p_l x72) fun el89 =>
    (bif (!decide (el89 = 0)) then (
      some (.inr (.inl el89))
    ) else (
      some (.inl (w64 (x72 + 1)))
    ))
    )
  ) else (
    some (.inr (.inr ()))
  ))
noncomputable def levitate_first_spec (p_l : (List Int)) : Option Int :=
  (Option.bind (loop (levitate_first_s0 p_l) 0) fun o76 => jn0 o76 fun (_ : Unit) =>
  some 0
  )
theorem levitate_first_ok (L : List Value) (w : World) (hL : LtL L w) (v_p_l : Value) (p_l : (List Int)) (h_p_l : SlRd L w v_p_l p_l) (r : Int) (h : levitate_first_spec p_l = some r) :
    CallsTo Try.prog 39 [v_p_l] w (fun v w' => Ext w w' ∧ (.int .i64 r) = v) := by
  have e0 : Ext w w := Chg.refl _ _
  refine callsTo_of_WC (n := 15) (rs := [.tmp 2]) Try.func39 rfl rfl rfl rfl rfl ?_
  refine WC_seqK fun K2 hK2 => ?_
  refine WC_region ?_
  refine T0_q (v := (.int .i64 0)) rfl (yl_assign rfl) ?_
  refine T0_nil ?_
  refine hK2 _ _ ?_
  refine WC_seqK fun K3 hK3 => ?_
  refine WC_seqK fun K4 hK4 => ?_
  refine WC_region ?_
  refine T0_q (v := v_p_l) rfl (yl_move rfl) ?_
  refine T0_q (v := (.int .i64 (p_l.length : Int))) rfl (yl_lenR rfl Try.underlying108 h_p_l rfl) ?_
  refine T0_q (v := (.int .i64 0)) rfl (yl_move rfl) ?_
  refine T0_nil ?_
  refine hK4 _ _ ?_
  have hq := bind_elim h
  clear h
  obtain ⟨o76, hl77, hn78⟩ := hq
  refine WC_post (fun (ρ : Env) (wd74 : World) => .inr () = o76 ∧ Ext w wd74) ?_ ?_
  · clear hK2 hK3 hK4
    intro K82 hK82
    refine WC_block ?_
    refine WC_loopk (fun sv ρ wd67 => ∃ (x72 : Int), x72 = sv ∧ ρ 5 = v_p_l ∧ ρ 6 = (.int .i64 (p_l.length : Int)) ∧ ρ 7 = (.int .i64 x72) ∧ SlRd L wd67 v_p_l p_l ∧ Ext w wd67) hl77 ⟨0, rfl, rfl, rfl, rfl, h_p_l, e0⟩ ?_
    rintro _ ρ wd67 ⟨x72, rfl, hs70, hs71, hs73, h69, e68⟩ x79 h hx80 K81 hK81
    refine WC_seqK fun K84 hK84 => ?_
    refine WC_region ?_
    refine T0_q (v := (.bool (decide (x72 < (p_l.length : Int))))) rfl (yl_lss hs73 hs71) ?_
    refine T0_nil ?_
    refine hK84 _ _ ?_
    refine WC_seqK fun K85 hK85 => ?_
    refine WC_cond (b := (decide (x72 < (p_l.length : Int)))) rfl (fun hb86 => ?_) (fun hb86 => ?_)
    · clear hK82 hK84
      replace h := cond_t hb86 h
      refine WC_skip ?_
      refine hK85 _ _ ?_
      refine WC_seqK fun K87 hK87 => ?_
      refine WC_block ?_
      refine WC_seqK fun K88 hK88 => ?_
      refine WC_region ?_
      have hq := bind_elim h
      clear h
      obtain ⟨el89, hel90, h⟩ := hq
      have hq := SlRd.at h69 hel90
      obtain ⟨cs91, hat92, hrd93⟩ := hq
      have hrd93 : cs91 = [(.int .i64 el89)] := hrd93
      subst hrd93
      refine T0_q (v := (.pointer (some (elemAddr v_p_l (x72 : Int).toNat 1)))) rfl (yl_indexAddr Try.underlying108 sz30 h69 hel90 hs70 hs73) ?_
      refine T0_q (v := (.int .i64 el89)) rfl (yl_load sc30 rfl hat92) ?_
      refine T0_q (v := (.int .i64 el89)) rfl (yl_assign rfl) ?_
      refine T0_nil ?_
      refine hK88 _ _ ?_
      refine WC_seqK fun K95 hK95 => ?_
      refine WC_region ?_
      refine T0_q (v := (.int .i64 el89)) rfl (yl_move rfl) ?_
      refine T0_q (v := (.bool (!decide (el89 = 0)))) rfl (yl_neq rfl rfl) ?_
      refine T0_nil ?_
      refine hK95 _ _ ?_
      refine WC_cond (b := (!decide (el89 = 0))) rfl (fun hb96 => ?_) (fun hb96 => ?_)
      · clear hK81 hK85 hK87 hK88 hK95
        replace h := cond_t hb96 h
        refine WC_seqK fun K97 hK97 => ?_
        refine WC_region ?_
        refine T0_q (v := (.int .i64 el89)) rfl (yl_move rfl) ?_
        refine T0_q (v := (.int .i64 el89)) rfl (yl_assign rfl) ?_
        refine T0_nil ?_
        refine hK97 _ _ ?_
        refine WC_ret ?_
        replace h := some_out h
        subst h
        have ho := hx80 _ rfl
        subst ho
        replace h := jn0_inl hn78
        replace h := some_out h
        subst h
        exact ⟨[(.int .i64 el89)], ⟨rfl, trivial⟩, e68, rfl⟩
      · clear hK85 hK88 hK95
        replace h := cond_f hb96 h
        refine WC_skip ?_
        refine hK87 _ _ ?_
        refine WC_region ?_
        refine T0_q (v := (.int .i64 (w64 (x72 + 1)))) rfl (yl_add hs73 rfl) ?_
        refine T0_q (v := (.int .i64 (w64 (x72 + 1)))) rfl (yl_move rfl) ?_
        refine T0_nil ?_
        replace h := some_out h
        subst h
        refine hK81 _ _ _ rfl ?_
        exact ⟨w64 (x72 + 1), rfl, hs70, hs71, rfl, h69, e68⟩
    · clear hK81 hK84 hK85
      replace h := cond_f hb86 h
      refine WC_exit ?_
      replace h := some_out h
      subst h
      have ho := hx80 _ rfl
      subst ho
      refine hK82 _ _ ?_
      exact ⟨rfl, e68⟩
  · clear hK2 hK4
    rintro ρ wd74 ⟨rfl, e75⟩
    replace h := jn0_inr hn78
    refine hK3 _ _ ?_
    refine WC_seqK fun K98 hK98 => ?_
    refine WC_region ?_
    refine T0_q (v := (.int .i64 0)) rfl (yl_assign rfl) ?_
    refine T0_nil ?_
    refine hK98 _ _ ?_
    refine WC_ret ?_
    replace h := some_out h
    subst h
    exact ⟨[(.int .i64 0)], ⟨rfl, trivial⟩, e75, rfl⟩

noncomputable def levitate_unless_spec (p_is : Bool) (p_e : Int) : Option Int :=
  (bif p_is then (
    some 0
  ) else (
    some p_e
  ))
theorem levitate_unless_ok (L : List Value) (w : World) (hL : LtL L w) (p_is : Bool) (p_e : Int) (r : Int) (h : levitate_unless_spec p_is p_e = some r) :
    CallsTo Try.prog 40 [(.bool p_is), (.int .i64 p_e)] w (fun v w' => Ext w w' ∧ (.int .i64 r) = v) := by
  have e0 : Ext w w := Chg.refl _ _
  refine callsTo_of_WC (n := 7) (rs := [.tmp 4]) Try.func40 rfl rfl rfl rfl rfl ?_
  refine WC_seqK fun K1 hK1 => ?_
  refine WC_region ?_
  refine T0_q (v := (.int .i64 0)) rfl (yl_assign rfl) ?_
  refine T0_nil ?_
  refine hK1 _ _ ?_
  refine WC_seqK fun K2 hK2 => ?_
  refine WC_seqK fun K3 hK3 => ?_
  refine WC_region ?_
  refine T0_q (v := (.bool p_is)) rfl (yl_move rfl) ?_
  refine T0_nil ?_
  refine hK3 _ _ ?_
  refine WC_cond (b := p_is) rfl (fun hb4 => ?_) (fun hb4 => ?_)
  · clear hK1 hK2 hK3
    replace h := cond_t hb4 h
    refine WC_seqK fun K5 hK5 => ?_
    refine WC_region ?_
    refine T0_q (v := (.int .i64 0)) rfl (yl_assign rfl) ?_
    refine T0_nil ?_
    refine hK5 _ _ ?_
    refine WC_ret ?_
    replace h := some_out h
    subst h
    exact ⟨[(.int .i64 0)], ⟨rfl, trivial⟩, e0, rfl⟩
  · clear hK1 hK3
    replace h := cond_f hb4 h
    refine WC_skip ?_
    refine hK2 _ _ ?_
    refine WC_seqK fun K6 hK6 => ?_
    refine WC_region ?_
    refine T0_q (v := (.int .i64 p_e)) rfl (yl_move rfl) ?_
    refine T0_q (v := (.int .i64 p_e)) rfl (yl_assign rfl) ?_
    refine T0_nil ?_
    refine hK6 _ _ ?_
    refine WC_ret ?_
    replace h := some_out h
    subst h
    exact ⟨[(.int .i64 p_e)], ⟨rfl, trivial⟩, e0, rfl⟩

noncomputable def levitate_allSmall_spec (p_most : Int) : Option Int :=
  some p_most
theorem levitate_allSmall_ok (L : List Value) (w : World) (hL : LtL L w) (p_most : Int) (r : Int) (h : levitate_allSmall_spec p_most = some r) :
    CallsTo Try.prog 41 [(.int .i64 p_most)] w (fun v w' => Ext w w' ∧ ∃ (b11 : Nat), (.func (.func 69) #[] (List.toArray [(.pointer (some ⟨b11, 0, none⟩))])) = v ∧ Box w' b11 [(.int .i64 r)] 3 ∧ (w.heap.size ≤ b11)) := by
  have e0 : Ext w w := Chg.refl _ _
  refine callsTo_of_WC (n := 4) (rs := [.tmp 2]) Try.func41 rfl rfl rfl rfl rfl ?_
  refine WC_seqK fun K12 hK12 => ?_
  refine WC_region ?_
  refine T0_e rfl (eff_boxC (cs := [(.int .i64 p_most)]) rfl rfl ?_)
  intro b13 wd14 hb15 he16 hB17
  have hbf18 := bfresh e0 hb15
  have e19 := e0.trans he16
  refine T0_q (v := .nilFunc) rfl (yl_assign rfl) ?_
  refine T0_nil ?_
  refine hK12 _ _ ?_
  refine WC_seqK fun K21 hK21 => ?_
  refine WC_region ?_
  refine T0_q (v := (.func (.func 69) #[] (List.toArray [(.pointer (some ⟨b13, 0, none⟩))]))) rfl (yl_makeFunc (ev1 rfl)) ?_
  refine T0_q (v := (.func (.func 69) #[] (List.toArray [(.pointer (some ⟨b13, 0, none⟩))]))) rfl (yl_assign rfl) ?_
  refine T0_nil ?_
  refine hK21 _ _ ?_
  refine WC_ret ?_
  replace h := some_out h
  subst h
  exact ⟨[(.func (.func 69) #[] (List.toArray [(.pointer (some ⟨b13, 0, none⟩))]))], ⟨rfl, trivial⟩, e19, b13, rfl, hB17, hbf18⟩

noncomputable def base_Within_spec (p_n : Int) (p_lo : Int) (p_hi : Int) : Option Bool :=
  some ((decide (p_lo ≤ p_n)) && (decide (p_n ≤ p_hi)))
theorem base_Within_ok (L : List Value) (w : World) (hL : LtL L w) (p_n : Int) (p_lo : Int) (p_hi : Int) (r : Bool) (h : base_Within_spec p_n p_lo p_hi = some r) :
    CallsTo Try.prog 42 [(.int .i64 p_n), (.int .i64 p_lo), (.int .i64 p_hi)] w (fun v w' => Ext w w' ∧ (.bool r) = v) := by
  have e0 : Ext w w := Chg.refl _ _
  refine callsTo_of_WC (n := 15) (rs := [.tmp 6]) Try.func42 rfl rfl rfl rfl rfl ?_
  refine WC_seqK fun K1 hK1 => ?_
  refine WC_region ?_
  refine T0_q (v := (.bool false)) rfl (yl_assign rfl) ?_
  refine T0_nil ?_
  refine hK1 _ _ ?_
  refine WC_seqK fun K2 hK2 => ?_
  refine WC_region ?_
  refine T0_q (v := (.int .i64 p_lo)) rfl (yl_move rfl) ?_
  refine T0_q (v := (.int .i64 p_n)) rfl (yl_move rfl) ?_
  refine T0_q (v := (.bool (decide (p_lo ≤ p_n)))) rfl (yl_leq rfl rfl) ?_
  refine T0_q (v := (.bool (decide (p_lo ≤ p_n)))) rfl (yl_move rfl) ?_
  refine T0_g (v := (.int .i64 p_n)) (decide (p_lo ≤ p_n)) (wanted_t rfl rfl rfl rfl) (fun hg => (yl_move rfl)) ?_
  refine T0_g (v := (.int .i64 p_hi)) (decide (p_lo ≤ p_n)) (wanted_t rfl rfl rfl rfl) (fun hg => (yl_move rfl)) ?_
  refine T0_g (v := (.bool (decide (p_n ≤ p_hi)))) (decide (p_lo ≤ p_n)) (wanted_t rfl rfl rfl rfl) (fun hg => (yl_leq (gd_true hg) (gd_true hg))) ?_
  refine T0_q (v := (.bool ((decide (p_lo ≤ p_n)) && (decide (p_n ≤ p_hi))))) rfl (yl_and rfl (fun hb => (gd_true hb)) rfl) ?_
  refine T0_q (v := (.bool ((decide (p_lo ≤ p_n)) && (decide (p_n ≤ p_hi))))) rfl (yl_assign rfl) ?_
  refine T0_nil ?_
  refine hK2 _ _ ?_
  refine WC_ret ?_
  replace h := some_out h
  subst h
  exact ⟨[(.bool ((decide (p_lo ≤ p_n)) && (decide (p_n ≤ p_hi))))], ⟨rfl, trivial⟩, e0, rfl⟩

noncomputable def levitate_reading_whole_spec (p_r : Nat) : Option Bool :=
  (bif ((fGe p_r 1266679808) || (fLe p_r 3414163456)) then (
    (Option.bind (fSub p_r p_r) fun q6 =>
    some (fEq q6 0)
    )
  ) else (
    (Option.bind (fToI p_r) fun q9 =>
    some (fEq p_r (fOfI q9))
    )
  ))
theorem levitate_reading_whole_ok (L : List Value) (w : World) (hL : LtL L w) (p_r : Nat) (r : Bool) (h : levitate_reading_whole_spec p_r = some r) :
    CallsTo Try.prog 43 [(.float .f32 p_r)] w (fun v w' => Ext w w' ∧ (.bool r) = v) := by
  have e0 : Ext w w := Chg.refl _ _
  refine callsTo_of_WC (n := 18) (rs := [.tmp 2]) Try.func43 rfl rfl rfl rfl rfl ?_
  refine WC_seqK fun K1 hK1 => ?_
  refine WC_region ?_
  refine T0_q (v := (.bool false)) rfl (yl_assign rfl) ?_
  refine T0_nil ?_
  refine hK1 _ _ ?_
  refine WC_seqK fun K2 hK2 => ?_
  refine WC_seqK fun K3 hK3 => ?_
  refine WC_region ?_
  refine T0_q (v := (.float .f32 p_r)) rfl (yl_move rfl) ?_
  refine T0_q (v := (.bool (fGe p_r 1266679808))) rfl (yl_fgeq rfl rfl) ?_
  refine T0_q (v := (.bool (fGe p_r 1266679808))) rfl (yl_move rfl) ?_
  refine T0_g (v := (.float .f32 p_r)) (!(fGe p_r 1266679808)) (wanted_f rfl rfl rfl rfl) (fun hg => (yl_move rfl)) ?_
  refine T0_g (v := (.bool (fLe p_r 3414163456))) (!(fGe p_r 1266679808)) (wanted_f rfl rfl rfl rfl) (fun hg => (yl_fleq (gd_true hg) rfl)) ?_
  refine T0_q (v := (.bool ((fGe p_r 1266679808) || (fLe p_r 3414163456)))) rfl (yl_or rfl rfl (fun hb => (gd_true (not_t hb)))) ?_
  refine T0_nil ?_
  refine hK3 _ _ ?_
  refine WC_cond (b := ((fGe p_r 1266679808) || (fLe p_r 3414163456))) rfl (fun hb4 => ?_) (fun hb4 => ?_)
  · clear hK1 hK2 hK3
    replace h := cond_t hb4 h
    refine WC_seqK fun K5 hK5 => ?_
    refine WC_region ?_
    refine T0_q (v := (.float .f32 p_r)) rfl (yl_move rfl) ?_
    refine T0_q (v := (.float .f32 p_r)) rfl (yl_move rfl) ?_
    have hq := bind_elim h
    clear h
    obtain ⟨q6, hq7, h⟩ := hq
    refine T0_q (v := (.float .f32 q6)) rfl (yl_fsub hq7 rfl rfl) ?_
    refine T0_q (v := (.bool (fEq q6 0))) rfl (yl_feql rfl rfl) ?_
    refine T0_q (v := (.bool (fEq q6 0))) rfl (yl_assign rfl) ?_
    refine T0_nil ?_
    refine hK5 _ _ ?_
    refine WC_ret ?_
    replace h := some_out h
    subst h
    exact ⟨[(.bool (fEq q6 0))], ⟨rfl, trivial⟩, e0, rfl⟩
  · clear hK1 hK3
    replace h := cond_f hb4 h
    refine WC_skip ?_
    refine hK2 _ _ ?_
    refine WC_seqK fun K8 hK8 => ?_
    refine WC_region ?_
    refine T0_q (v := (.float .f32 p_r)) rfl (yl_move rfl) ?_
    refine T0_q (v := (.float .f32 p_r)) rfl (yl_move rfl) ?_
    have hq := bind_elim h
    clear h
    obtain ⟨q9, hq10, h⟩ := hq
    refine T0_q (v := (.int .i64 q9)) rfl (yl_ftoi hq10 Try.underlying84 Try.underlying3 rfl) ?_
    refine T0_q (v := (.float .f32 (fOfI q9))) rfl (yl_itof Try.underlying3 Try.underlying84 rfl) ?_
    refine T0_q (v := (.bool (fEq p_r (fOfI q9)))) rfl (yl_feql rfl rfl) ?_
    refine T0_q (v := (.bool (fEq p_r (fOfI q9)))) rfl (yl_assign rfl) ?_
    refine T0_nil ?_
    refine hK8 _ _ ?_
    refine WC_ret ?_
    replace h := some_out h
    subst h
    exact ⟨[(.bool (fEq p_r (fOfI q9)))], ⟨rfl, trivial⟩, e0, rfl⟩

noncomputable def base_Size_spec (p_n : Int) : Option Int :=
  some (if p_n < w64 (0 - p_n) then w64 (0 - p_n) else p_n)
theorem base_Size_ok (L : List Value) (w : World) (hL : LtL L w) (p_n : Int) (r : Int) (h : base_Size_spec p_n = some r) :
    CallsTo Try.prog 47 [(.int .i64 p_n)] w (fun v w' => Ext w w' ∧ (.int .i64 r) = v) := by
  have e0 : Ext w w := Chg.refl _ _
  refine callsTo_of_WC (n := 7) (rs := [.tmp 2]) Try.func47 rfl rfl rfl rfl rfl ?_
  refine WC_seqK fun K1 hK1 => ?_
  refine WC_region ?_
  refine T0_q (v := (.int .i64 0)) rfl (yl_assign rfl) ?_
  refine T0_nil ?_
  refine hK1 _ _ ?_
  refine WC_seqK fun K2 hK2 => ?_
  refine WC_region ?_
  refine T0_q (v := (.int .i64 p_n)) rfl (yl_move rfl) ?_
  refine T0_q (v := (.int .i64 p_n)) rfl (yl_move rfl) ?_
  refine T0_q (v := (.int .i64 (w64 (0 - p_n)))) rfl (yl_neg rfl) ?_
  refine T0_q (v := (.int .i64 (if p_n < w64 (0 - p_n) then w64 (0 - p_n) else p_n))) rfl (yl_max rfl rfl) ?_
  refine T0_q (v := (.int .i64 (if p_n < w64 (0 - p_n) then w64 (0 - p_n) else p_n))) rfl (yl_assign rfl) ?_
  refine T0_nil ?_
  refine hK2 _ _ ?_
  refine WC_ret ?_
  replace h := some_out h
  subst h
  exact ⟨[(.int .i64 (if p_n < w64 (0 - p_n) then w64 (0 - p_n) else p_n))], ⟨rfl, trivial⟩, e0, rfl⟩

noncomputable def slices_Clone_int_spec (p_s : (List Int)) : Option (List Int) :=
  (Option.bind (app ([] : List Int) p_s) fun zs18 =>
  some zs18
  )
theorem slices_Clone_int_ok (L : List Value) (w : World) (hL : LtL L w) (v_p_s : Value) (p_s : (List Int)) (h_p_s : SlRd L w v_p_s p_s) (r : (List Int)) (h : slices_Clone_int_spec p_s = some r) :
    CallsTo Try.prog 49 [v_p_s] w (fun v w' => Ext w w' ∧ ∃ (v0 : Value), v0 = v ∧ SlRd L w' v0 r) := by
  have e0 : Ext w w := Chg.refl _ _
  refine callsTo_of_WC (n := 8) (rs := [.tmp 2]) Try.func49 rfl rfl rfl rfl rfl ?_
  refine WC_seqK fun K2 hK2 => ?_
  refine WC_region ?_
  refine T0_q (v := (.slice none 0 0)) rfl (yl_assign rfl) ?_
  refine T0_nil ?_
  refine hK2 _ _ ?_
  refine WC_seqK fun K3 hK3 => ?_
  refine WC_seqK fun K4 hK4 => ?_
  refine WC_region ?_
  refine T0_q (v := v_p_s) rfl (yl_move rfl) ?_
  refine T0_q (v := (.bool (isnil v_p_s))) rfl (yl_eqlNil Try.underlying23 h_p_s rfl rfl) ?_
  refine T0_nil ?_
  refine hK4 _ _ ?_
  refine WC_cond (b := isnil v_p_s) rfl (fun hb5 => ?_) (fun hb5 => ?_)
  · clear hK2 hK3 hK4
    replace h := nilcase (f := fun (p_s : (List Int)) => (Option.bind (app ([] : List Int) p_s) fun zs18 => some zs18 )) (e := some ([] : (List Int))) (SlRd.isnil h_p_s hb5) h (by simp [app])
    refine WC_seqK fun K6 hK6 => ?_
    refine WC_region ?_
    refine T0_q (v := (.slice none 0 0)) rfl (yl_assign rfl) ?_
    refine T0_nil ?_
    refine hK6 _ _ ?_
    refine WC_ret ?_
    replace h := some_out h
    subst h
    exact ⟨[(.slice none 0 0)], ⟨rfl, trivial⟩, e0, (.slice none 0 0), rfl, (SlRd.nil _ _)⟩
  · clear hK2 hK4
    skip
    refine WC_skip ?_
    refine hK3 _ _ ?_
    refine WC_seqK fun K7 hK7 => ?_
    refine WC_region ?_
    refine T0_e rfl (eff_buildOC (L := L) (xs := ([] : List Int)) (cells := []) Try.underlying23 ei3 rfl pc_nil rfl Elems.nil rfl ?_)
    intro v11 wd8 he9 hf12 h10
    have h13 := h_p_s.step (Stepp.add v11 he9 hf12)
    have hf15 : ∀ b, blk v11 = some b → w.heap.size ≤ b := fun b hb => Nat.le_trans e0.size (hf12 b hb)
    have e16 := e0.trans he9
    refine T0_q (v := v_p_s) rfl (yl_move rfl) ?_
    have hq := bind_elim h
    clear h
    obtain ⟨zs18, hz19, h⟩ := hq
    refine T0_e rfl (eff_app Try.underlying23 ei3 rfl rfl rfl rfl h10 h13 hz19 ?_)
    intro v20 wd21 hc22 hbl23 h24
    have hf26 := fresh_swap hbl23 hf15 e16.size
    have e28 := chg_own e16 hc22 hf15
    refine T0_q (v := v20) rfl (yl_assign rfl) ?_
    refine T0_nil ?_
    refine hK7 _ _ ?_
    refine WC_ret ?_
    replace h := some_out h
    subst h
    exact ⟨[v20], ⟨rfl, trivial⟩, e28, v20, rfl, (h24.rdL (sub_skip (sub_refl _)) hL hf26)⟩
theorem slices_Clone_int_own (L : List Value) (w : World) (hL : LtL L w) (v_p_s : Value) (p_s : (List Int)) (h_p_s : SlRd L w v_p_s p_s) (r : (List Int)) (h : slices_Clone_int_spec p_s = some r) :
    CallsTo Try.prog 49 [v_p_s] w (fun v w' => Ext w w' ∧ ∃ (v0 : Value), v0 = v ∧ (∀ b, blk v0 = some b → w.heap.size ≤ b) ∧ Own 3 (v0 :: L) w' v0 r) := by
  have e0 : Ext w w := Chg.refl _ _
  refine callsTo_of_WC (n := 8) (rs := [.tmp 2]) Try.func49 rfl rfl rfl rfl rfl ?_
  refine WC_seqK fun K2 hK2 => ?_
  refine WC_region ?_
  refine T0_q (v := (.slice none 0 0)) rfl (yl_assign rfl) ?_
  refine T0_nil ?_
  refine hK2 _ _ ?_
  refine WC_seqK fun K3 hK3 => ?_
  refine WC_seqK fun K4 hK4 => ?_
  refine WC_region ?_
  refine T0_q (v := v_p_s) rfl (yl_move rfl) ?_
  refine T0_q (v := (.bool (isnil v_p_s))) rfl (yl_eqlNil Try.underlying23 h_p_s rfl rfl) ?_
  refine T0_nil ?_
  refine hK4 _ _ ?_
  refine WC_cond (b := isnil v_p_s) rfl (fun hb5 => ?_) (fun hb5 => ?_)
  · clear hK2 hK3 hK4
    replace h := nilcase (f := fun (p_s : (List Int)) => (Option.bind (app ([] : List Int) p_s) fun zs18 => some zs18 )) (e := some ([] : (List Int))) (SlRd.isnil h_p_s hb5) h (by simp [app])
    refine WC_seqK fun K6 hK6 => ?_
    refine WC_region ?_
    refine T0_q (v := (.slice none 0 0)) rfl (yl_assign rfl) ?_
    refine T0_nil ?_
    refine hK6 _ _ ?_
    refine WC_ret ?_
    replace h := some_out h
    subst h
    exact ⟨[(.slice none 0 0)], ⟨rfl, trivial⟩, e0, (.slice none 0 0), rfl, (fun b h => blk_nil b h), (Own.nil _ _ _)⟩
  · clear hK2 hK4
    skip
    refine WC_skip ?_
    refine hK3 _ _ ?_
    refine WC_seqK fun K7 hK7 => ?_
    refine WC_region ?_
    refine T0_e rfl (eff_buildOC (L := L) (xs := ([] : List Int)) (cells := []) Try.underlying23 ei3 rfl pc_nil rfl Elems.nil rfl ?_)
    intro v11 wd8 he9 hf12 h10
    have h13 := h_p_s.step (Stepp.add v11 he9 hf12)
    have hf15 : ∀ b, blk v11 = some b → w.heap.size ≤ b := fun b hb => Nat.le_trans e0.size (hf12 b hb)
    have e16 := e0.trans he9
    refine T0_q (v := v_p_s) rfl (yl_move rfl) ?_
    have hq := bind_elim h
    clear h
    obtain ⟨zs18, hz19, h⟩ := hq
    refine T0_e rfl (eff_app Try.underlying23 ei3 rfl rfl rfl rfl h10 h13 hz19 ?_)
    intro v20 wd21 hc22 hbl23 h24
    have hf26 := fresh_swap hbl23 hf15 e16.size
    have e28 := chg_own e16 hc22 hf15
    refine T0_q (v := v20) rfl (yl_assign rfl) ?_
    refine T0_nil ?_
    refine hK7 _ _ ?_
    refine WC_ret ?_
    replace h := some_out h
    subst h
    exact ⟨[v20], ⟨rfl, trivial⟩, e28, v20, rfl, hf26, (h24.sub (sub_cons mem0 (sub_skip (sub_refl _))))⟩

noncomputable def levitate_size_spec (p_n : Int) : Option Int :=
  some (if p_n < w64 (0 - p_n) then w64 (0 - p_n) else p_n)
theorem levitate_size_ok (L : List Value) (w : World) (hL : LtL L w) (p_n : Int) (r : Int) (h : levitate_size_spec p_n = some r) :
    CallsTo Try.prog 58 [(.int .i64 p_n)] w (fun v w' => Ext w w' ∧ (.int .i64 r) = v) := by
  have e0 : Ext w w := Chg.refl _ _
  refine callsTo_of_WC (n := 7) (rs := [.tmp 2]) Try.func58 rfl rfl rfl rfl rfl ?_
  refine WC_seqK fun K1 hK1 => ?_
  refine WC_region ?_
  refine T0_q (v := (.int .i64 0)) rfl (yl_assign rfl) ?_
  refine T0_nil ?_
  refine hK1 _ _ ?_
  refine WC_seqK fun K2 hK2 => ?_
  refine WC_region ?_
  refine T0_q (v := (.int .i64 p_n)) rfl (yl_move rfl) ?_
  refine T0_q (v := (.int .i64 p_n)) rfl (yl_move rfl) ?_
  refine T0_q (v := (.int .i64 (w64 (0 - p_n)))) rfl (yl_neg rfl) ?_
  refine T0_q (v := (.int .i64 (if p_n < w64 (0 - p_n) then w64 (0 - p_n) else p_n))) rfl (yl_max rfl rfl) ?_
  refine T0_q (v := (.int .i64 (if p_n < w64 (0 - p_n) then w64 (0 - p_n) else p_n))) rfl (yl_assign rfl) ?_
  refine T0_nil ?_
  refine hK2 _ _ ?_
  refine WC_ret ?_
  replace h := some_out h
  subst h
  exact ⟨[(.int .i64 (if p_n < w64 (0 - p_n) then w64 (0 - p_n) else p_n))], ⟨rfl, trivial⟩, e0, rfl⟩

noncomputable def levitate_isFactor_spec (p_n : Int) : Option Bool :=
  (Option.bind (levitate_within_spec p_n 1 1000000000) fun r3 =>
  some r3
  )
theorem levitate_isFactor_ok (L : List Value) (w : World) (hL : LtL L w) (p_n : Int) (r : Bool) (h : levitate_isFactor_spec p_n = some r) :
    CallsTo Try.prog 62 [(.int .i64 p_n)] w (fun v w' => Ext w w' ∧ (.bool r) = v) := by
  have e0 : Ext w w := Chg.refl _ _
  refine callsTo_of_WC (n := 5) (rs := [.tmp 2]) Try.func62 rfl rfl rfl rfl rfl ?_
  refine WC_seqK fun K1 hK1 => ?_
  refine WC_region ?_
  refine T0_q (v := (.bool false)) rfl (yl_assign rfl) ?_
  refine T0_nil ?_
  refine hK1 _ _ ?_
  refine WC_seqK fun K2 hK2 => ?_
  refine WC_region ?_
  refine T0_q (v := (.int .i64 p_n)) rfl (yl_move rfl) ?_
  have hq := bind_elim h
  clear h
  obtain ⟨r3, hr4, h⟩ := hq
  refine T0_e rfl (eff_call Try.func38 nm38 rfl (ev3 rfl rfl rfl) (levitate_within_ok [] _ (LtL.nil _) p_n 1 1000000000 r3 hr4) ?_)
  rintro _ wd5 ⟨he6, rfl⟩
  have e7 := e0.trans he6
  refine T0_q (v := (.bool r3)) rfl (yl_assign rfl) ?_
  refine T0_nil ?_
  refine hK2 _ _ ?_
  refine WC_ret ?_
  replace h := some_out h
  subst h
  exact ⟨[(.bool r3)], ⟨rfl, trivial⟩, e7, rfl⟩

noncomputable def levitate_isCurrent_spec (p_n : Int) : Option Bool :=
  (Option.bind (levitate_within_spec p_n 0 1000) fun r3 =>
  some r3
  )
theorem levitate_isCurrent_ok (L : List Value) (w : World) (hL : LtL L w) (p_n : Int) (r : Bool) (h : levitate_isCurrent_spec p_n = some r) :
    CallsTo Try.prog 64 [(.int .i64 p_n)] w (fun v w' => Ext w w' ∧ (.bool r) = v) := by
  have e0 : Ext w w := Chg.refl _ _
  refine callsTo_of_WC (n := 5) (rs := [.tmp 2]) Try.func64 rfl rfl rfl rfl rfl ?_
  refine WC_seqK fun K1 hK1 => ?_
  refine WC_region ?_
  refine T0_q (v := (.bool false)) rfl (yl_assign rfl) ?_
  refine T0_nil ?_
  refine hK1 _ _ ?_
  refine WC_seqK fun K2 hK2 => ?_
  refine WC_region ?_
  refine T0_q (v := (.int .i64 p_n)) rfl (yl_move rfl) ?_
  have hq := bind_elim h
  clear h
  obtain ⟨r3, hr4, h⟩ := hq
  refine T0_e rfl (eff_call Try.func38 nm38 rfl (ev3 rfl rfl rfl) (levitate_within_ok [] _ (LtL.nil _) p_n 0 1000 r3 hr4) ?_)
  rintro _ wd5 ⟨he6, rfl⟩
  have e7 := e0.trans he6
  refine T0_q (v := (.bool r3)) rfl (yl_assign rfl) ?_
  refine T0_nil ?_
  refine hK2 _ _ ?_
  refine WC_ret ?_
  replace h := some_out h
  subst h
  exact ⟨[(.bool r3)], ⟨rfl, trivial⟩, e7, rfl⟩

noncomputable def levitate_isGap_spec (p_n : Int) : Option Bool :=
  (Option.bind (levitate_within_spec p_n 1 3000) fun r3 =>
  some r3
  )
theorem levitate_isGap_ok (L : List Value) (w : World) (hL : LtL L w) (p_n : Int) (r : Bool) (h : levitate_isGap_spec p_n = some r) :
    CallsTo Try.prog 65 [(.int .i64 p_n)] w (fun v w' => Ext w w' ∧ (.bool r) = v) := by
  have e0 : Ext w w := Chg.refl _ _
  refine callsTo_of_WC (n := 5) (rs := [.tmp 2]) Try.func65 rfl rfl rfl rfl rfl ?_
  refine WC_seqK fun K1 hK1 => ?_
  refine WC_region ?_
  refine T0_q (v := (.bool false)) rfl (yl_assign rfl) ?_
  refine T0_nil ?_
  refine hK1 _ _ ?_
  refine WC_seqK fun K2 hK2 => ?_
  refine WC_region ?_
  refine T0_q (v := (.int .i64 p_n)) rfl (yl_move rfl) ?_
  have hq := bind_elim h
  clear h
  obtain ⟨r3, hr4, h⟩ := hq
  refine T0_e rfl (eff_call Try.func38 nm38 rfl (ev3 rfl rfl rfl) (levitate_within_ok [] _ (LtL.nil _) p_n 1 3000 r3 hr4) ?_)
  rintro _ wd5 ⟨he6, rfl⟩
  have e7 := e0.trans he6
  refine T0_q (v := (.bool r3)) rfl (yl_assign rfl) ?_
  refine T0_nil ?_
  refine hK2 _ _ ?_
  refine WC_ret ?_
  replace h := some_out h
  subst h
  exact ⟨[(.bool r3)], ⟨rfl, trivial⟩, e7, rfl⟩

noncomputable def levitate_small_spec (p_n : Int) (p_most : Int) : Option Bool :=
  (Option.bind (levitate_within_spec p_n (w64 (0 - p_most)) p_most) fun r3 =>
  some r3
  )
theorem levitate_small_ok (L : List Value) (w : World) (hL : LtL L w) (p_n : Int) (p_most : Int) (r : Bool) (h : levitate_small_spec p_n p_most = some r) :
    CallsTo Try.prog 71 [(.int .i64 p_n), (.int .i64 p_most)] w (fun v w' => Ext w w' ∧ (.bool r) = v) := by
  have e0 : Ext w w := Chg.refl _ _
  refine callsTo_of_WC (n := 10) (rs := [.tmp 4]) Try.func71 rfl rfl rfl rfl rfl ?_
  refine WC_seqK fun K1 hK1 => ?_
  refine WC_region ?_
  refine T0_q (v := (.bool false)) rfl (yl_assign rfl) ?_
  refine T0_nil ?_
  refine hK1 _ _ ?_
  refine WC_seqK fun K2 hK2 => ?_
  refine WC_region ?_
  refine T0_q (v := (.int .i64 p_n)) rfl (yl_move rfl) ?_
  refine T0_q (v := (.int .i64 p_most)) rfl (yl_move rfl) ?_
  refine T0_q (v := (.int .i64 (w64 (0 - p_most)))) rfl (yl_neg rfl) ?_
  refine T0_q (v := (.int .i64 p_most)) rfl (yl_move rfl) ?_
  have hq := bind_elim h
  clear h
  obtain ⟨r3, hr4, h⟩ := hq
  refine T0_e rfl (eff_call Try.func38 nm38 rfl (ev3 rfl rfl rfl) (levitate_within_ok [] _ (LtL.nil _) p_n (w64 (0 - p_most)) p_most r3 hr4) ?_)
  rintro _ wd5 ⟨he6, rfl⟩
  have e7 := e0.trans he6
  refine T0_q (v := (.bool r3)) rfl (yl_assign rfl) ?_
  refine T0_nil ?_
  refine hK2 _ _ ?_
  refine WC_ret ?_
  replace h := some_out h
  subst h
  exact ⟨[(.bool r3)], ⟨rfl, trivial⟩, e7, rfl⟩

noncomputable def levitate_wideOf_spec (p_n : Int) : Option Arr3_U64 :=
  (Option.bind (shrS .i64 p_n 63) fun q11 =>
  some (Arr3_U64.mk (IntKind.wrap .u64 p_n) (IntKind.wrap .u64 q11) (IntKind.wrap .u64 q11))
  )
theorem levitate_wideOf_ok (L : List Value) (w : World) (hL : LtL L w) (p_n : Int) (r : Arr3_U64) (h : levitate_wideOf_spec p_n = some r) :
    CallsTo Try.prog 79 [(.int .i64 p_n)] w (fun v w' => Ext w w' ∧ ∃ (cs0 : List Value), (.agg cs0.toArray) = v ∧ Rep.rd L w' cs0 r) := by
  have e0 : Ext w w := Chg.refl _ _
  refine callsTo_of_WC (n := 12) (rs := [.cell 2 120]) Try.func79 rfl rfl rfl rfl rfl ?_
  refine WC_seqK fun K1 hK1 => ?_
  refine WC_region ?_
  refine T0_e rfl (eff_allocZ zi120 ?_)
  intro b2 wd3 hb4 he5 hB6
  have hbf7 := bfresh e0 hb4
  have e8 := e0.trans he5
  refine T0_nil ?_
  refine hK1 _ _ ?_
  refine WC_seqK fun K10 hK10 => ?_
  refine WC_region ?_
  refine T0_q (v := (.int .i64 p_n)) rfl (yl_move rfl) ?_
  have hq := bind_elim h
  clear h
  obtain ⟨q11, hq12, h⟩ := hq
  refine T0_q (v := (.int .i64 q11)) rfl (yl_shr hq12 rfl rfl) ?_
  refine T0_q (v := (.int .u64 (IntKind.wrap .u64 q11))) rfl (yl_conv Try.underlying3 Try.underlying118 rfl) ?_
  refine T0_q (v := (.int .u64 (IntKind.wrap .u64 q11))) rfl (yl_assign rfl) ?_
  refine T0_nil ?_
  refine hK10 _ _ ?_
  refine WC_seqK fun K13 hK13 => ?_
  refine WC_region ?_
  refine T0_q (v := (.int .i64 p_n)) rfl (yl_move rfl) ?_
  refine T0_q (v := (.int .u64 (IntKind.wrap .u64 p_n))) rfl (yl_conv Try.underlying3 Try.underlying118 rfl) ?_
  refine T0_q (v := (.int .u64 (IntKind.wrap .u64 q11))) rfl (yl_move rfl) ?_
  refine T0_q (v := (.int .u64 (IntKind.wrap .u64 q11))) rfl (yl_move rfl) ?_
  refine T0_q (v := (.agg (List.toArray [(.int .u64 (IntKind.wrap .u64 p_n)), (.int .u64 (IntKind.wrap .u64 q11)), (.int .u64 (IntKind.wrap .u64 q11))]))) rfl (yl_buildA (cells := [(.int .u64 (IntKind.wrap .u64 p_n)), (.int .u64 (IntKind.wrap .u64 q11)), (.int .u64 (IntKind.wrap .u64 q11))]) Try.underlying120 sz118 zi120 (pc_cons rfl rfl (pc_cons rfl rfl (pc_cons rfl rfl pc_nil))) rfl) ?_
  refine T0_e rfl (eff_storeC (vs := [(.int .u64 (IntKind.wrap .u64 p_n)), (.int .u64 (IntKind.wrap .u64 q11)), (.int .u64 (IntKind.wrap .u64 q11))]) (cs' := [(.int .u64 (IntKind.wrap .u64 p_n)), (.int .u64 (IntKind.wrap .u64 q11)), (.int .u64 (IntKind.wrap .u64 q11))]) sz120 rfl rfl rfl rfl hB6 rfl (oc_cons rfl (oc_cons rfl (oc_cons rfl oc_nil))) rfl ?_)
  intro wd14 hc15 hB16
  have e17 := chg_box e8 hc15 hbf7
  refine T0_nil ?_
  refine hK13 _ _ ?_
  refine WC_ret ?_
  replace h := some_out h
  subst h
  exact ⟨[(.agg (List.toArray [(.int .u64 (IntKind.wrap .u64 p_n)), (.int .u64 (IntKind.wrap .u64 q11)), (.int .u64 (IntKind.wrap .u64 q11))]))], ⟨⟨_, rfl, run_loadVarA (cs := [(.int .u64 (IntKind.wrap .u64 p_n)), (.int .u64 (IntKind.wrap .u64 q11)), (.int .u64 (IntKind.wrap .u64 q11))]) ag120 (Box.at hB16)⟩, trivial⟩, e17, [(.int .u64 (IntKind.wrap .u64 p_n)), (.int .u64 (IntKind.wrap .u64 q11)), (.int .u64 (IntKind.wrap .u64 q11))], rfl, rfl⟩

noncomputable def levitate_wide_below_spec (p_a : Arr3_U64) : Option Bool :=
  (Option.bind (shrS .u64 p_a.e2 63) fun q11 =>
  some (decide (q11 = 1))
  )
theorem levitate_wide_below_ok (L : List Value) (w : World) (hL : LtL L w) (cs_p_a : List Value) (p_a : Arr3_U64) (h_p_a : Rep.rd L w cs_p_a p_a) (r : Bool) (h : levitate_wide_below_spec p_a = some r) :
    CallsTo Try.prog 82 [(.agg cs_p_a.toArray)] w (fun v w' => Ext w w' ∧ (.bool r) = v) := by
  have e0 : Ext w w := Chg.refl _ _
  have h_p_a : cs_p_a = [(.int .u64 p_a.e0), (.int .u64 p_a.e1), (.int .u64 p_a.e2)] := h_p_a
  subst h_p_a
  refine callsTo_of_WC (n := 7) (rs := [.tmp 2]) Try.func82 rfl rfl rfl rfl rfl ?_
  refine WC_seqK fun K1 hK1 => ?_
  refine WC_region ?_
  refine T0_e rfl (eff_boxC (cs := [(.int .u64 p_a.e0), (.int .u64 p_a.e1), (.int .u64 p_a.e2)]) rfl rfl ?_)
  intro b2 wd3 hb4 he5 hB6
  have e8 := e0.trans he5
  refine T0_q (v := (.bool false)) rfl (yl_assign rfl) ?_
  refine T0_nil ?_
  refine hK1 _ _ ?_
  refine WC_seqK fun K10 hK10 => ?_
  refine WC_region ?_
  refine T0_q (v := (.pointer (some ⟨b2, 2, none⟩))) rfl (yl_ixC (i := 2) Try.underlying120 sz118 (by decide) (by decide) rfl rfl rfl) ?_
  refine T0_q (v := (.int .u64 p_a.e2)) rfl (yl_load sc118 rfl (At.drop (Box.at hB6) 2)) ?_
  have hq := bind_elim h
  clear h
  obtain ⟨q11, hq12, h⟩ := hq
  refine T0_q (v := (.int .u64 q11)) rfl (yl_shr hq12 rfl rfl) ?_
  refine T0_q (v := (.bool (decide (q11 = 1)))) rfl (yl_eql rfl rfl) ?_
  refine T0_q (v := (.bool (decide (q11 = 1)))) rfl (yl_assign rfl) ?_
  refine T0_nil ?_
  refine hK10 _ _ ?_
  refine WC_ret ?_
  replace h := some_out h
  subst h
  exact ⟨[(.bool (decide (q11 = 1)))], ⟨rfl, trivial⟩, e8, rfl⟩

noncomputable def levitate_widened_s0 (el1061 : (List Int)) : ((List Arr3_U64) × Int) → Option (((List Arr3_U64) × Int) ⊕ ((List Arr3_U64))) := fun (x1278, x1290) =>
  (bif (decide (x1290 < (el1061.length : Int))) then (
    (Option.bind (idx el1061 x1290) fun el1329 =>
    (Option.bind (levitate_wideOf_spec el1329) fun r1335 =>
    (Option.bind (app x1278 ([r1335] : List Arr3_U64)) fun zs1354 =>
    some (.inl (zs1354, w64 (x1290 + 1)))
    )
    )
    )
  ) else (
    some (.inr x1278)
  ))
noncomputable def levitate_widened_s1 (p_f : (List (List Int))) : ((List (List Arr3_U64)) × Int) → Option (((List (List Arr3_U64)) × Int) ⊕ ((List (List Arr3_U64)))) := fun (x1025, x1033) =>
  (bif (decide (x1033 < (p_f.length : Int))) then (
    (Option.bind (idx p_f x1033) fun el1061 =>
    (Option.bind (loop (levitate_widened_s0 el1061) (([] : List Arr3_U64), 0)) fun (x1306 : (List Arr3_U64)) =>
    (Option.bind (app x1025 ([x1306] : List (List Arr3_U64))) fun zs1380 =>
    some (.inl (zs1380, w64 (x1033 + 1)))
    )
    )
    )
  ) else (
    some (.inr x1025)
  ))
noncomputable def levitate_widened_spec (p_f : (List (List Int))) : Option (List (List Arr3_U64)) :=
  (Option.bind (loop (levitate_widened_s1 p_f) (([] : List (List Arr3_U64)), 0)) fun (x1043 : (List (List Arr3_U64))) =>
  some x1043
  )
theorem levitate_widened_ok (L : List Value) (w : World) (hL : LtL L w) (v_p_f : Value) (p_f : (List (List Int))) (h_p_f : SlRd L w v_p_f p_f) (r : (List (List Arr3_U64))) (h : levitate_widened_spec p_f = some r) :
    CallsTo Try.prog 84 [v_p_f] w (fun v w' => Ext w w' ∧ ∃ (v0 : Value), v0 = v ∧ SlRd L w' v0 r) := by
  have e0 : Ext w w := Chg.refl _ _
  refine callsTo_of_WC (n := 33) (rs := [.tmp 2]) Try.func84 rfl rfl rfl rfl rfl ?_
  refine WC_seqK fun K2 hK2 => ?_
  refine WC_region ?_
  refine T0_q (v := (.slice none 0 0)) rfl (yl_assign rfl) ?_
  refine T0_nil ?_
  refine hK2 _ _ ?_
  refine WC_seqK fun K3 hK3 => ?_
  refine WC_region ?_
  refine T0_q (v := (.slice none 0 0)) rfl (yl_assign rfl) ?_
  refine T0_nil ?_
  refine hK3 _ _ ?_
  refine WC_seqK fun K4 hK4 => ?_
  refine WC_seqK fun K5 hK5 => ?_
  refine WC_region ?_
  refine T0_q (v := v_p_f) rfl (yl_move rfl) ?_
  refine T0_q (v := (.int .i64 (p_f.length : Int))) rfl (yl_lenR rfl Try.underlying47 h_p_f rfl) ?_
  refine T0_q (v := (.int .i64 0)) rfl (yl_move rfl) ?_
  refine T0_nil ?_
  refine hK5 _ _ ?_
  have h1035 := h_p_f.step (add_nil _)
  have h1037 : Own 146 ((.slice none 0 0) :: L) w (.slice none 0 0) ([] : List (List Arr3_U64)) := Own.nil _ _ _
  have hq := bind_elim h
  clear h
  obtain ⟨o1048, hl1049, hn1050⟩ := hq
  refine WC_post (fun (ρ : Env) (wd1039 : World) => ∃ (x1043 : (List (List Arr3_U64))) (v1042 : Value), x1043 = o1048 ∧ ρ 3 = v1042 ∧ Own 146 (v1042 :: L) wd1039 v1042 x1043 ∧ (∀ b, blk v1042 = some b → w.heap.size ≤ b) ∧ Ext w wd1039) ?_ ?_
  · clear hK2 hK3 hK4 hK5
    intro K1054 hK1054
    refine WC_block ?_
    refine WC_loopk (fun sv ρ wd1021 => ∃ (x1025 : (List (List Arr3_U64))) (x1033 : Int) (v1024 : Value), (x1025, x1033) = sv ∧ ρ 3 = v1024 ∧ ρ 9 = v_p_f ∧ ρ 10 = (.int .i64 (p_f.length : Int)) ∧ ρ 11 = (.int .i64 x1033) ∧ SlRd (v1024 :: L) wd1021 v_p_f p_f ∧ Own 146 (v1024 :: L) wd1021 v1024 x1025 ∧ (∀ b, blk v1024 = some b → w.heap.size ≤ b) ∧ Ext w wd1021) hl1049 ⟨([] : List (List Arr3_U64)), 0, (.slice none 0 0), rfl, rfl, rfl, rfl, rfl, h1035, h1037, (fun b h => blk_nil b h), e0⟩ ?_
    rintro _ ρ wd1021 ⟨x1025, x1033, v1024, rfl, hs1029, hs1031, hs1032, hs1034, h1030, h1027, hf1028, e1022⟩ x1051 h hx1052 K1053 hK1053
    refine WC_seqK fun K1056 hK1056 => ?_
    refine WC_region ?_
    refine T0_q (v := (.bool (decide (x1033 < (p_f.length : Int))))) rfl (yl_lss hs1034 hs1032) ?_
    refine T0_nil ?_
    refine hK1056 _ _ ?_
    refine WC_seqK fun K1057 hK1057 => ?_
    refine WC_cond (b := (decide (x1033 < (p_f.length : Int)))) rfl (fun hb1058 => ?_) (fun hb1058 => ?_)
    · clear hK1054 hK1056
      replace h := cond_t hb1058 h
      refine WC_skip ?_
      refine hK1057 _ _ ?_
      refine WC_seqK fun K1059 hK1059 => ?_
      refine WC_block ?_
      refine WC_seqK fun K1060 hK1060 => ?_
      refine WC_region ?_
      have hq := bind_elim h
      clear h
      obtain ⟨el1061, hel1062, h⟩ := hq
      have hq := SlRd.at h1030 hel1062
      obtain ⟨cs1065, hat1066, hrd1067⟩ := hq
      obtain ⟨v1063, rfl, h1064⟩ := hrd1067
      refine T0_q (v := (.pointer (some (elemAddr v_p_f (x1033 : Int).toNat 1)))) rfl (yl_indexAddr Try.underlying47 sz23 h1030 hel1062 hs1031 hs1034) ?_
      refine T0_q (v := v1063) rfl (yl_load sc23 rfl hat1066) ?_
      refine T0_q (v := v1063) rfl (yl_assign rfl) ?_
      refine T0_nil ?_
      refine hK1060 _ _ ?_
      refine WC_seqK fun K1070 hK1070 => ?_
      refine WC_region ?_
      refine T0_q (v := (.slice none 0 0)) rfl (yl_assign rfl) ?_
      refine T0_nil ?_
      refine hK1070 _ _ ?_
      refine WC_seqK fun K1071 hK1071 => ?_
      refine WC_seqK fun K1072 hK1072 => ?_
      refine WC_region ?_
      refine T0_q (v := v1063) rfl (yl_move rfl) ?_
      refine T0_q (v := (.int .i64 (el1061.length : Int))) rfl (yl_lenR rfl Try.underlying23 h1064 rfl) ?_
      refine T0_q (v := (.int .i64 0)) rfl (yl_move rfl) ?_
      refine T0_nil ?_
      refine hK1072 _ _ ?_
      have h1293 := h1027.step (add_nil _) (Chg.refl [] _) (fun _ _ => Avoids.nil _)
      have h1294 := h1030.step (add_nil _)
      have h1295 := h1064.step (add_nil _)
      have h1297 : Own 120 ((.slice none 0 0) :: v1024 :: L) wd1021 (.slice none 0 0) ([] : List Arr3_U64) := Own.nil _ _ _
      have hq := bind_elim h
      clear h
      obtain ⟨o1316, hl1317, hn1318⟩ := hq
      refine WC_post (fun (ρ : Env) (wd1299 : World) => ∃ (x1306 : (List Arr3_U64)) (v1305 : Value), x1306 = o1316 ∧ ρ 3 = v1024 ∧ ρ 6 = v1305 ∧ ρ 9 = v_p_f ∧ ρ 10 = (.int .i64 (p_f.length : Int)) ∧ ρ 11 = (.int .i64 x1033) ∧ SlRd (v1024 :: v1305 :: L) wd1299 v_p_f p_f ∧ Own 146 (v1024 :: v1305 :: L) wd1299 v1024 x1025 ∧ Own 120 (v1024 :: v1305 :: L) wd1299 v1305 x1306 ∧ (∀ b, blk v1305 = some b → w.heap.size ≤ b) ∧ (∀ b, blk v1024 = some b → blk v1305 ≠ some b) ∧ Ext w wd1299) ?_ ?_
      · clear hK1053 hK1057 hK1059 hK1060 hK1070 hK1071 hK1072
        intro K1322 hK1322
        refine WC_block ?_
        refine WC_loopk (fun sv ρ wd1271 => ∃ (x1278 : (List Arr3_U64)) (x1290 : Int) (v1277 : Value), (x1278, x1290) = sv ∧ ρ 3 = v1024 ∧ ρ 6 = v1277 ∧ ρ 9 = v_p_f ∧ ρ 10 = (.int .i64 (p_f.length : Int)) ∧ ρ 11 = (.int .i64 x1033) ∧ ρ 15 = v1063 ∧ ρ 16 = (.int .i64 (el1061.length : Int)) ∧ ρ 17 = (.int .i64 x1290) ∧ SlRd (v1024 :: v1277 :: L) wd1271 v_p_f p_f ∧ SlRd (v1024 :: v1277 :: L) wd1271 v1063 el1061 ∧ Own 146 (v1024 :: v1277 :: L) wd1271 v1024 x1025 ∧ Own 120 (v1024 :: v1277 :: L) wd1271 v1277 x1278 ∧ (∀ b, blk v1277 = some b → w.heap.size ≤ b) ∧ (∀ b, blk v1024 = some b → blk v1277 ≠ some b) ∧ Ext w wd1271) hl1317 ⟨([] : List Arr3_U64), 0, (.slice none 0 0), rfl, hs1029, rfl, hs1031, hs1032, hs1034, rfl, rfl, rfl, (h1294.sub (sub_cons (memS mem0) (sub_cons mem0 (sub_skip (sub_skip (sub_refl _)))))), (h1295.sub (sub_cons (memS mem0) (sub_cons mem0 (sub_skip (sub_skip (sub_refl _)))))), (h1293.sub (sub_cons (memS mem0) (sub_cons mem0 (sub_skip (sub_skip (sub_refl _)))))), (h1297.sub (sub_cons (memS mem0) (sub_cons mem0 (sub_skip (sub_skip (sub_refl _)))))), (fun b h => blk_nil b h), (fun _ _ h => by cases h), e1022⟩ ?_
        rintro _ ρ wd1271 ⟨x1278, x1290, v1277, rfl, hs1275, hs1282, hs1284, hs1285, hs1286, hs1288, hs1289, hs1291, h1283, h1287, h1274, h1280, hf1281, hn1292, e1272⟩ x1319 h hx1320 K1321 hK1321
        refine WC_seqK fun K1324 hK1324 => ?_
        refine WC_region ?_
        refine T0_q (v := (.bool (decide (x1290 < (el1061.length : Int))))) rfl (yl_lss hs1291 hs1289) ?_
        refine T0_nil ?_
        refine hK1324 _ _ ?_
        refine WC_seqK fun K1325 hK1325 => ?_
        refine WC_cond (b := (decide (x1290 < (el1061.length : Int)))) rfl (fun hb1326 => ?_) (fun hb1326 => ?_)
        · clear hK1322 hK1324
          replace h := cond_t hb1326 h
          refine WC_skip ?_
          refine hK1325 _ _ ?_
          refine WC_seqK fun K1327 hK1327 => ?_
          refine WC_block ?_
          refine WC_seqK fun K1328 hK1328 => ?_
          refine WC_region ?_
          have hq := bind_elim h
          clear h
          obtain ⟨el1329, hel1330, h⟩ := hq
          have hq := SlRd.at h1287 hel1330
          obtain ⟨cs1331, hat1332, hrd1333⟩ := hq
          have hrd1333 : cs1331 = [(.int .i64 el1329)] := hrd1333
          subst hrd1333
          refine T0_q (v := (.pointer (some (elemAddr v1063 (x1290 : Int).toNat 1)))) rfl (yl_indexAddr Try.underlying23 sz3 h1287 hel1330 hs1288 hs1291) ?_
          refine T0_q (v := (.int .i64 el1329)) rfl (yl_load sc3 rfl hat1332) ?_
          refine T0_q (v := (.int .i64 el1329)) rfl (yl_assign rfl) ?_
          refine T0_nil ?_
          refine hK1328 _ _ ?_
          refine WC_region ?_
          refine T0_q (v := v1277) rfl (yl_move hs1282) ?_
          refine T0_q (v := (.int .i64 el1329)) rfl (yl_move rfl) ?_
          have hq := bind_elim h
          clear h
          obtain ⟨r1335, hr1336, h⟩ := hq
          refine T0_e rfl (eff_call Try.func79 nm79 rfl (ev1 rfl) (levitate_wideOf_ok [] _ (LtL.nil _) el1329 r1335 hr1336) ?_)
          rintro _ wd1337 ⟨he1338, cs1339, rfl, hrd1340⟩
          have e1341 := e1272.trans he1338
          have hrd1340 : cs1339 = [(.int .u64 r1335.e0), (.int .u64 r1335.e1), (.int .u64 r1335.e2)] := hrd1340
          subst hrd1340
          refine T0_e rfl (eff_buildTC (xs := ([r1335] : List Arr3_U64)) (cells := [(.int .u64 r1335.e0), (.int .u64 r1335.e1), (.int .u64 r1335.e2)]) Try.underlying146 ei120 rfl (pc_cons rfl rfl pc_nil) rfl (Elems.cons (cs := [(.int .u64 r1335.e0), (.int .u64 r1335.e1), (.int .u64 r1335.e2)]) rfl Elems.nil) rfl (ltl_own (ltl_own (hL.chg e1341) (h1280.ext he1338)) (h1274.ext he1338)) ?_)
          intro b1345 wd1342 he1343 h1344
          have e1346 := he1338.trans he1343
          have e1347 := e1341.trans he1343
          have h1349 := (h1274.ext e1346).sub (sub_cons (memS mem0) (sub_cons mem0 (sub_skip (sub_skip (sub_refl _)))))
          have h1350 := (h1280.ext e1346).sub (sub_cons (memS mem0) (sub_cons mem0 (sub_skip (sub_skip (sub_refl _)))))
          have h1351 := (h1283.ext e1346).sub (sub_cons (memS mem0) (sub_cons mem0 (sub_skip (sub_skip (sub_refl _)))))
          have h1352 := (h1287.ext e1346).sub (sub_cons (memS mem0) (sub_cons mem0 (sub_skip (sub_skip (sub_refl _)))))
          have h1353 := h1344.sub (sub_cons (memS mem0) (sub_cons mem0 (sub_skip (sub_skip (sub_refl _)))))
          have hq := bind_elim h
          clear h
          obtain ⟨zs1354, hz1355, h⟩ := hq
          refine T0_e rfl (eff_app Try.underlying146 ei120 rfl rfl rfl rfl h1350 h1353 hz1355 ?_)
          intro v1356 wd1357 hc1358 hbl1359 h1360
          have hn1362 := dj_swap hbl1359 hn1292 h1349
          have hf1363 := fresh_swap hbl1359 hf1281 e1347.size
          have h1364 := h1349.step (Stepp.swap hc1358 hbl1359) hc1358 (av_own hn1292)
          have h1365 := h1351.step (Stepp.swap hc1358 hbl1359)
          have h1366 := h1352.step (Stepp.swap hc1358 hbl1359)
          have e1368 := chg_own e1347 hc1358 hf1281
          refine T0_q (v := v1356) rfl (yl_assign rfl) ?_
          refine T0_nil ?_
          refine hK1327 _ _ ?_
          refine WC_region ?_
          refine T0_q (v := (.int .i64 (w64 (x1290 + 1)))) rfl (yl_add hs1291 rfl) ?_
          refine T0_q (v := (.int .i64 (w64 (x1290 + 1)))) rfl (yl_move rfl) ?_
          refine T0_nil ?_
          replace h := some_out h
          subst h
          refine hK1321 _ _ _ rfl ?_
          exact ⟨zs1354, w64 (x1290 + 1), v1356, rfl, hs1275, rfl, hs1284, hs1285, hs1286, hs1288, hs1289, rfl, (h1365.sub (sub_cons (memS mem0) (sub_cons mem0 (sub_skip (sub_skip (sub_refl _)))))), (h1366.sub (sub_cons (memS mem0) (sub_cons mem0 (sub_skip (sub_skip (sub_refl _)))))), (h1364.sub (sub_cons (memS mem0) (sub_cons mem0 (sub_skip (sub_skip (sub_refl _)))))), (h1360.sub (sub_cons (memS mem0) (sub_cons mem0 (sub_skip (sub_skip (sub_refl _)))))), hf1363, hn1362, e1368⟩
        · clear hK1321 hK1324 hK1325
          replace h := cond_f hb1326 h
          refine WC_exit ?_
          replace h := some_out h
          subst h
          have ho := hx1320 _ rfl
          subst ho
          refine hK1322 _ _ ?_
          exact ⟨x1278, v1277, rfl, hs1275, hs1282, hs1284, hs1285, hs1286, h1283, h1274, h1280, hf1281, hn1292, e1272⟩
      · clear hK1057 hK1060 hK1070 hK1072
        rintro ρ wd1299 ⟨x1306, v1305, rfl, hs1303, hs1310, hs1312, hs1313, hs1314, h1311, h1302, h1308, hf1309, hn1315, e1300⟩
        replace h := hn1318
        refine hK1071 _ _ ?_
        refine WC_region ?_
        refine T0_q (v := v1024) rfl (yl_move hs1303) ?_
        refine T0_q (v := v1305) rfl (yl_move hs1310) ?_
        have h1370 := (h1308.sub (sub_cons mem0 (sub_skip (sub_skip (sub_refl _))))).rd (fun b hb => (Avoids.cons (fun x hx e => by have := hL x hx b e; have := hf1309 b hb; omega) ((dj_symm hn1315) b hb)))
        have h1371 := h1302.sub (sub_cons mem0 (sub_skip (sub_skip (sub_refl _))))
        have h1372 := h1311.sub (sub_cons mem0 (sub_skip (sub_skip (sub_refl _))))
        refine T0_e rfl (eff_buildTC (xs := ([x1306] : List (List Arr3_U64))) (cells := [v1305]) Try.underlying124 ei146 rfl (pc_cons rfl (cells_one h1370.one1) pc_nil) rfl (Elems.cons (cs := [v1305]) ⟨_, rfl, h1370⟩ Elems.nil) rfl (ltl_own (hL.chg e1300) h1371) ?_)
        intro b1377 wd1374 he1375 h1376
        have e1378 := e1300.trans he1375
        have hq := bind_elim h
        clear h
        obtain ⟨zs1380, hz1381, h⟩ := hq
        refine T0_e rfl (eff_app Try.underlying124 ei146 rfl rfl rfl rfl (h1371.ext he1375) h1376 hz1381 ?_)
        intro v1382 wd1383 hc1384 hbl1385 h1386
        have hf1388 := fresh_swap hbl1385 hf1028 e1378.size
        have h1389 := (h1372.ext he1375).step (Stepp.swap hc1384 hbl1385)
        have e1392 := chg_own e1378 hc1384 hf1028
        refine T0_q (v := v1382) rfl (yl_assign rfl) ?_
        refine T0_nil ?_
        refine hK1059 _ _ ?_
        refine WC_region ?_
        refine T0_q (v := (.int .i64 (w64 (x1033 + 1)))) rfl (yl_add hs1314 rfl) ?_
        refine T0_q (v := (.int .i64 (w64 (x1033 + 1)))) rfl (yl_move rfl) ?_
        refine T0_nil ?_
        replace h := some_out h
        subst h
        refine hK1053 _ _ _ rfl ?_
        exact ⟨zs1380, w64 (x1033 + 1), v1382, rfl, rfl, hs1312, hs1313, rfl, h1389, h1386, hf1388, e1392⟩
    · clear hK1053 hK1056 hK1057
      replace h := cond_f hb1058 h
      refine WC_exit ?_
      replace h := some_out h
      subst h
      have ho := hx1052 _ rfl
      subst ho
      refine hK1054 _ _ ?_
      exact ⟨x1025, v1024, rfl, hs1029, h1027, hf1028, e1022⟩
  · clear hK2 hK3 hK5
    rintro ρ wd1039 ⟨x1043, v1042, rfl, hs1047, h1045, hf1046, e1040⟩
    replace h := hn1050
    refine hK4 _ _ ?_
    refine WC_seqK fun K1394 hK1394 => ?_
    refine WC_region ?_
    refine T0_q (v := v1042) rfl (yl_move hs1047) ?_
    refine T0_q (v := v1042) rfl (yl_assign rfl) ?_
    refine T0_nil ?_
    refine hK1394 _ _ ?_
    refine WC_ret ?_
    replace h := some_out h
    subst h
    exact ⟨[v1042], ⟨rfl, trivial⟩, e1040, v1042, rfl, (h1045.rdL (sub_skip (sub_refl _)) hL hf1046)⟩

noncomputable def levitate_numbers_s0 (p_n : Int) : ((List Int) × Int) → Option (((List Int) × Int) ⊕ ((List Int))) := fun (x111, x117) =>
  (bif (decide (x117 < p_n)) then (
    (Option.bind (app x111 ([x117] : List Int)) fun zs150 =>
    some (.inl (zs150, w64 (x117 + 1)))
    )
  ) else (
    some (.inr x111)
  ))
noncomputable def levitate_numbers_spec (p_n : Int) : Option (List Int) :=
  (Option.bind (loop (levitate_numbers_s0 p_n) (([] : List Int), 0)) fun (x126 : (List Int)) =>
  some x126
  )
theorem levitate_numbers_ok (L : List Value) (w : World) (hL : LtL L w) (p_n : Int) (r : (List Int)) (h : levitate_numbers_spec p_n = some r) :
    CallsTo Try.prog 85 [(.int .i64 p_n)] w (fun v w' => Ext w w' ∧ ∃ (v0 : Value), v0 = v ∧ SlRd L w' v0 r) := by
  have e0 : Ext w w := Chg.refl _ _
  refine callsTo_of_WC (n := 15) (rs := [.tmp 2]) Try.func85 rfl rfl rfl rfl rfl ?_
  refine WC_seqK fun K1 hK1 => ?_
  refine WC_region ?_
  refine T0_q (v := (.slice none 0 0)) rfl (yl_assign rfl) ?_
  refine T0_nil ?_
  refine hK1 _ _ ?_
  refine WC_seqK fun K2 hK2 => ?_
  refine WC_region ?_
  refine T0_q (v := (.slice none 0 0)) rfl (yl_assign rfl) ?_
  refine T0_nil ?_
  refine hK2 _ _ ?_
  refine WC_seqK fun K3 hK3 => ?_
  refine WC_seqK fun K4 hK4 => ?_
  refine WC_region ?_
  refine T0_q (v := (.int .i64 p_n)) rfl (yl_move rfl) ?_
  refine T0_q (v := (.int .i64 0)) rfl (yl_move rfl) ?_
  refine T0_nil ?_
  refine hK4 _ _ ?_
  have h120 : Own 3 ((.slice none 0 0) :: L) w (.slice none 0 0) ([] : List Int) := Own.nil _ _ _
  have hq := bind_elim h
  clear h
  obtain ⟨o131, hl132, hn133⟩ := hq
  refine WC_post (fun (ρ : Env) (wd122 : World) => ∃ (x126 : (List Int)) (v125 : Value), x126 = o131 ∧ ρ 3 = v125 ∧ Own 3 (v125 :: L) wd122 v125 x126 ∧ (∀ b, blk v125 = some b → w.heap.size ≤ b) ∧ Ext w wd122) ?_ ?_
  · clear hK1 hK2 hK3 hK4
    intro K137 hK137
    refine WC_block ?_
    refine WC_loopk (fun sv ρ wd107 => ∃ (x111 : (List Int)) (x117 : Int) (v110 : Value), (x111, x117) = sv ∧ ρ 3 = v110 ∧ ρ 5 = (.int .i64 p_n) ∧ ρ 6 = (.int .i64 x117) ∧ Own 3 (v110 :: L) wd107 v110 x111 ∧ (∀ b, blk v110 = some b → w.heap.size ≤ b) ∧ Ext w wd107) hl132 ⟨([] : List Int), 0, (.slice none 0 0), rfl, rfl, rfl, rfl, h120, (fun b h => blk_nil b h), e0⟩ ?_
    rintro _ ρ wd107 ⟨x111, x117, v110, rfl, hs115, hs116, hs118, h113, hf114, e108⟩ x134 h hx135 K136 hK136
    refine WC_seqK fun K139 hK139 => ?_
    refine WC_region ?_
    refine T0_q (v := (.bool (decide (x117 < p_n)))) rfl (yl_lss hs118 hs116) ?_
    refine T0_nil ?_
    refine hK139 _ _ ?_
    refine WC_seqK fun K140 hK140 => ?_
    refine WC_cond (b := (decide (x117 < p_n))) rfl (fun hb141 => ?_) (fun hb141 => ?_)
    · clear hK137 hK139
      replace h := cond_t hb141 h
      refine WC_skip ?_
      refine hK140 _ _ ?_
      refine WC_seqK fun K142 hK142 => ?_
      refine WC_block ?_
      refine WC_seqK fun K143 hK143 => ?_
      refine WC_region ?_
      refine T0_q (v := (.int .i64 x117)) rfl (yl_move hs118) ?_
      refine T0_q (v := (.int .i64 x117)) rfl (yl_assign rfl) ?_
      refine T0_nil ?_
      refine hK143 _ _ ?_
      refine WC_region ?_
      refine T0_q (v := v110) rfl (yl_move hs115) ?_
      refine T0_q (v := (.int .i64 x117)) rfl (yl_move rfl) ?_
      refine T0_e rfl (eff_buildTC (xs := ([x117] : List Int)) (cells := [(.int .i64 x117)]) Try.underlying23 ei3 rfl (pc_cons rfl rfl pc_nil) rfl (Elems.cons (cs := [(.int .i64 x117)]) rfl Elems.nil) rfl (ltl_own (hL.chg e108) h113) ?_)
      intro b147 wd144 he145 h146
      have e148 := e108.trans he145
      have hq := bind_elim h
      clear h
      obtain ⟨zs150, hz151, h⟩ := hq
      refine T0_e rfl (eff_app Try.underlying23 ei3 rfl rfl rfl rfl (h113.ext he145) h146 hz151 ?_)
      intro v152 wd153 hc154 hbl155 h156
      have hf158 := fresh_swap hbl155 hf114 e148.size
      have e160 := chg_own e148 hc154 hf114
      refine T0_q (v := v152) rfl (yl_assign rfl) ?_
      refine T0_nil ?_
      refine hK142 _ _ ?_
      refine WC_region ?_
      refine T0_q (v := (.int .i64 (w64 (x117 + 1)))) rfl (yl_add hs118 rfl) ?_
      refine T0_q (v := (.int .i64 (w64 (x117 + 1)))) rfl (yl_move rfl) ?_
      refine T0_nil ?_
      replace h := some_out h
      subst h
      refine hK136 _ _ _ rfl ?_
      exact ⟨zs150, w64 (x117 + 1), v152, rfl, rfl, hs116, rfl, h156, hf158, e160⟩
    · clear hK136 hK139 hK140
      replace h := cond_f hb141 h
      refine WC_exit ?_
      replace h := some_out h
      subst h
      have ho := hx135 _ rfl
      subst ho
      refine hK137 _ _ ?_
      exact ⟨x111, v110, rfl, hs115, h113, hf114, e108⟩
  · clear hK1 hK2 hK4
    rintro ρ wd122 ⟨x126, v125, rfl, hs130, h128, hf129, e123⟩
    replace h := hn133
    refine hK3 _ _ ?_
    refine WC_seqK fun K162 hK162 => ?_
    refine WC_region ?_
    refine T0_q (v := v125) rfl (yl_move hs130) ?_
    refine T0_q (v := v125) rfl (yl_assign rfl) ?_
    refine T0_nil ?_
    refine hK162 _ _ ?_
    refine WC_ret ?_
    replace h := some_out h
    subst h
    exact ⟨[v125], ⟨rfl, trivial⟩, e123, v125, rfl, (h128.rdL (sub_skip (sub_refl _)) hL hf129)⟩
theorem levitate_numbers_own (L : List Value) (w : World) (hL : LtL L w) (p_n : Int) (r : (List Int)) (h : levitate_numbers_spec p_n = some r) :
    CallsTo Try.prog 85 [(.int .i64 p_n)] w (fun v w' => Ext w w' ∧ ∃ (v0 : Value), v0 = v ∧ (∀ b, blk v0 = some b → w.heap.size ≤ b) ∧ Own 3 (v0 :: L) w' v0 r) := by
  have e0 : Ext w w := Chg.refl _ _
  refine callsTo_of_WC (n := 15) (rs := [.tmp 2]) Try.func85 rfl rfl rfl rfl rfl ?_
  refine WC_seqK fun K1 hK1 => ?_
  refine WC_region ?_
  refine T0_q (v := (.slice none 0 0)) rfl (yl_assign rfl) ?_
  refine T0_nil ?_
  refine hK1 _ _ ?_
  refine WC_seqK fun K2 hK2 => ?_
  refine WC_region ?_
  refine T0_q (v := (.slice none 0 0)) rfl (yl_assign rfl) ?_
  refine T0_nil ?_
  refine hK2 _ _ ?_
  refine WC_seqK fun K3 hK3 => ?_
  refine WC_seqK fun K4 hK4 => ?_
  refine WC_region ?_
  refine T0_q (v := (.int .i64 p_n)) rfl (yl_move rfl) ?_
  refine T0_q (v := (.int .i64 0)) rfl (yl_move rfl) ?_
  refine T0_nil ?_
  refine hK4 _ _ ?_
  have h120 : Own 3 ((.slice none 0 0) :: L) w (.slice none 0 0) ([] : List Int) := Own.nil _ _ _
  have hq := bind_elim h
  clear h
  obtain ⟨o131, hl132, hn133⟩ := hq
  refine WC_post (fun (ρ : Env) (wd122 : World) => ∃ (x126 : (List Int)) (v125 : Value), x126 = o131 ∧ ρ 3 = v125 ∧ Own 3 (v125 :: L) wd122 v125 x126 ∧ (∀ b, blk v125 = some b → w.heap.size ≤ b) ∧ Ext w wd122) ?_ ?_
  · clear hK1 hK2 hK3 hK4
    intro K137 hK137
    refine WC_block ?_
    refine WC_loopk (fun sv ρ wd107 => ∃ (x111 : (List Int)) (x117 : Int) (v110 : Value), (x111, x117) = sv ∧ ρ 3 = v110 ∧ ρ 5 = (.int .i64 p_n) ∧ ρ 6 = (.int .i64 x117) ∧ Own 3 (v110 :: L) wd107 v110 x111 ∧ (∀ b, blk v110 = some b → w.heap.size ≤ b) ∧ Ext w wd107) hl132 ⟨([] : List Int), 0, (.slice none 0 0), rfl, rfl, rfl, rfl, h120, (fun b h => blk_nil b h), e0⟩ ?_
    rintro _ ρ wd107 ⟨x111, x117, v110, rfl, hs115, hs116, hs118, h113, hf114, e108⟩ x134 h hx135 K136 hK136
    refine WC_seqK fun K139 hK139 => ?_
    refine WC_region ?_
    refine T0_q (v := (.bool (decide (x117 < p_n)))) rfl (yl_lss hs118 hs116) ?_
    refine T0_nil ?_
    refine hK139 _ _ ?_
    refine WC_seqK fun K140 hK140 => ?_
    refine WC_cond (b := (decide (x117 < p_n))) rfl (fun hb141 => ?_) (fun hb141 => ?_)
    · clear hK137 hK139
      replace h := cond_t hb141 h
      refine WC_skip ?_
      refine hK140 _ _ ?_
      refine WC_seqK fun K142 hK142 => ?_
      refine WC_block ?_
      refine WC_seqK fun K143 hK143 => ?_
      refine WC_region ?_
      refine T0_q (v := (.int .i64 x117)) rfl (yl_move hs118) ?_
      refine T0_q (v := (.int .i64 x117)) rfl (yl_assign rfl) ?_
      refine T0_nil ?_
      refine hK143 _ _ ?_
      refine WC_region ?_
      refine T0_q (v := v110) rfl (yl_move hs115) ?_
      refine T0_q (v := (.int .i64 x117)) rfl (yl_move rfl) ?_
      refine T0_e rfl (eff_buildTC (xs := ([x117] : List Int)) (cells := [(.int .i64 x117)]) Try.underlying23 ei3 rfl (pc_cons rfl rfl pc_nil) rfl (Elems.cons (cs := [(.int .i64 x117)]) rfl Elems.nil) rfl (ltl_own (hL.chg e108) h113) ?_)
      intro b147 wd144 he145 h146
      have e148 := e108.trans he145
      have hq := bind_elim h
      clear h
      obtain ⟨zs150, hz151, h⟩ := hq
      refine T0_e rfl (eff_app Try.underlying23 ei3 rfl rfl rfl rfl (h113.ext he145) h146 hz151 ?_)
      intro v152 wd153 hc154 hbl155 h156
      have hf158 := fresh_swap hbl155 hf114 e148.size
      have e160 := chg_own e148 hc154 hf114
      refine T0_q (v := v152) rfl (yl_assign rfl) ?_
      refine T0_nil ?_
      refine hK142 _ _ ?_
      refine WC_region ?_
      refine T0_q (v := (.int .i64 (w64 (x117 + 1)))) rfl (yl_add hs118 rfl) ?_
      refine T0_q (v := (.int .i64 (w64 (x117 + 1)))) rfl (yl_move rfl) ?_
      refine T0_nil ?_
      replace h := some_out h
      subst h
      refine hK136 _ _ _ rfl ?_
      exact ⟨zs150, w64 (x117 + 1), v152, rfl, rfl, hs116, rfl, h156, hf158, e160⟩
    · clear hK136 hK139 hK140
      replace h := cond_f hb141 h
      refine WC_exit ?_
      replace h := some_out h
      subst h
      have ho := hx135 _ rfl
      subst ho
      refine hK137 _ _ ?_
      exact ⟨x111, v110, rfl, hs115, h113, hf114, e108⟩
  · clear hK1 hK2 hK4
    rintro ρ wd122 ⟨x126, v125, rfl, hs130, h128, hf129, e123⟩
    replace h := hn133
    refine hK3 _ _ ?_
    refine WC_seqK fun K162 hK162 => ?_
    refine WC_region ?_
    refine T0_q (v := v125) rfl (yl_move hs130) ?_
    refine T0_q (v := v125) rfl (yl_assign rfl) ?_
    refine T0_nil ?_
    refine hK162 _ _ ?_
    refine WC_ret ?_
    replace h := some_out h
    subst h
    exact ⟨[v125], ⟨rfl, trivial⟩, e123, v125, rfl, hf129, (h128.sub (sub_cons mem0 (sub_skip (sub_refl _))))⟩

noncomputable def levitate_plant_boxErr_1_spec (p_n : Int) : Option Bool :=
  some (decide (p_n < 0))
theorem levitate_plant_boxErr_1_ok (L : List Value) (w : World) (hL : LtL L w) (p_n : Int) (r : Bool) (h : levitate_plant_boxErr_1_spec p_n = some r) :
    CallsTo Try.prog 102 [(.int .i64 p_n)] w (fun v w' => Ext w w' ∧ (.bool r) = v) := by
  have e0 : Ext w w := Chg.refl _ _
  refine callsTo_of_WC (n := 5) (rs := [.tmp 2]) Try.func102 rfl rfl rfl rfl rfl ?_
  refine WC_seqK fun K1 hK1 => ?_
  refine WC_region ?_
  refine T0_q (v := (.bool false)) rfl (yl_assign rfl) ?_
  refine T0_nil ?_
  refine hK1 _ _ ?_
  refine WC_seqK fun K2 hK2 => ?_
  refine WC_region ?_
  refine T0_q (v := (.int .i64 p_n)) rfl (yl_move rfl) ?_
  refine T0_q (v := (.bool (decide (p_n < 0)))) rfl (yl_lss rfl rfl) ?_
  refine T0_q (v := (.bool (decide (p_n < 0)))) rfl (yl_assign rfl) ?_
  refine T0_nil ?_
  refine hK2 _ _ ?_
  refine WC_ret ?_
  replace h := some_out h
  subst h
  exact ⟨[(.bool (decide (p_n < 0)))], ⟨rfl, trivial⟩, e0, rfl⟩

noncomputable def levitate_dot_s0 (p_a : (List Int)) (p_b : (List Int)) : (Int × Int) → Option ((Int × Int) ⊕ (Int)) := fun (x93, x98) =>
  (bif (decide (x98 < (p_a.length : Int))) then (
    (Option.bind (idx p_a x98) fun el117 =>
    (Option.bind (idx p_b x98) fun el123 =>
    some (.inl (w64 (x93 + (w64 (el117 * el123))), w64 (x98 + 1)))
    )
    )
  ) else (
    some (.inr x93)
  ))
noncomputable def levitate_dot_spec (p_a : (List Int)) (p_b : (List Int)) : Option Int :=
  (Option.bind (loop (levitate_dot_s0 p_a p_b) (0, 0)) fun (x102 : Int) =>
  some x102
  )
theorem levitate_dot_ok (L : List Value) (w : World) (hL : LtL L w) (v_p_a : Value) (p_a : (List Int)) (h_p_a : SlRd L w v_p_a p_a) (v_p_b : Value) (p_b : (List Int)) (h_p_b : SlRd L w v_p_b p_b) (r : Int) (h : levitate_dot_spec p_a p_b = some r) :
    CallsTo Try.prog 106 [v_p_a, v_p_b] w (fun v w' => Ext w w' ∧ (.int .i64 r) = v) := by
  have e0 : Ext w w := Chg.refl _ _
  refine callsTo_of_WC (n := 25) (rs := [.tmp 4]) Try.func106 rfl rfl rfl rfl rfl ?_
  refine WC_seqK fun K3 hK3 => ?_
  refine WC_region ?_
  refine T0_q (v := (.int .i64 0)) rfl (yl_assign rfl) ?_
  refine T0_nil ?_
  refine hK3 _ _ ?_
  refine WC_seqK fun K4 hK4 => ?_
  refine WC_region ?_
  refine T0_q (v := (.int .i64 0)) rfl (yl_assign rfl) ?_
  refine T0_nil ?_
  refine hK4 _ _ ?_
  refine WC_seqK fun K5 hK5 => ?_
  refine WC_seqK fun K6 hK6 => ?_
  refine WC_region ?_
  refine T0_q (v := v_p_a) rfl (yl_move rfl) ?_
  refine T0_q (v := (.int .i64 (p_a.length : Int))) rfl (yl_lenR rfl Try.underlying23 h_p_a rfl) ?_
  refine T0_q (v := (.int .i64 0)) rfl (yl_move rfl) ?_
  refine T0_nil ?_
  refine hK6 _ _ ?_
  have hq := bind_elim h
  clear h
  obtain ⟨o104, hl105, hn106⟩ := hq
  refine WC_post (fun (ρ : Env) (wd100 : World) => ∃ (x102 : Int), x102 = o104 ∧ ρ 5 = (.int .i64 x102) ∧ Ext w wd100) ?_ ?_
  · clear hK3 hK4 hK5 hK6
    intro K110 hK110
    refine WC_block ?_
    refine WC_loopk (fun sv ρ wd89 => ∃ (x93 : Int) (x98 : Int), (x93, x98) = sv ∧ ρ 1 = v_p_b ∧ ρ 5 = (.int .i64 x93) ∧ ρ 8 = v_p_a ∧ ρ 9 = (.int .i64 (p_a.length : Int)) ∧ ρ 10 = (.int .i64 x98) ∧ SlRd L wd89 v_p_b p_b ∧ SlRd L wd89 v_p_a p_a ∧ Ext w wd89) hl105 ⟨0, 0, rfl, rfl, rfl, rfl, rfl, rfl, h_p_b, h_p_a, e0⟩ ?_
    rintro _ ρ wd89 ⟨x93, x98, rfl, hs92, hs94, hs96, hs97, hs99, h91, h95, e90⟩ x107 h hx108 K109 hK109
    refine WC_seqK fun K112 hK112 => ?_
    refine WC_region ?_
    refine T0_q (v := (.bool (decide (x98 < (p_a.length : Int))))) rfl (yl_lss hs99 hs97) ?_
    refine T0_nil ?_
    refine hK112 _ _ ?_
    refine WC_seqK fun K113 hK113 => ?_
    refine WC_cond (b := (decide (x98 < (p_a.length : Int)))) rfl (fun hb114 => ?_) (fun hb114 => ?_)
    · clear hK110 hK112
      replace h := cond_t hb114 h
      refine WC_skip ?_
      refine hK113 _ _ ?_
      refine WC_seqK fun K115 hK115 => ?_
      refine WC_block ?_
      refine WC_seqK fun K116 hK116 => ?_
      refine WC_region ?_
      refine T0_q (v := (.int .i64 x98)) rfl (yl_move hs99) ?_
      have hq := bind_elim h
      clear h
      obtain ⟨el117, hel118, h⟩ := hq
      have hq := SlRd.at h95 hel118
      obtain ⟨cs119, hat120, hrd121⟩ := hq
      have hrd121 : cs119 = [(.int .i64 el117)] := hrd121
      subst hrd121
      refine T0_q (v := (.pointer (some (elemAddr v_p_a (x98 : Int).toNat 1)))) rfl (yl_indexAddr Try.underlying23 sz3 h95 hel118 hs96 hs99) ?_
      refine T0_q (v := (.int .i64 el117)) rfl (yl_load sc3 rfl hat120) ?_
      refine T0_q (v := (.int .i64 x98)) rfl (yl_assign rfl) ?_
      refine T0_q (v := (.int .i64 el117)) rfl (yl_assign rfl) ?_
      refine T0_nil ?_
      refine hK116 _ _ ?_
      refine WC_region ?_
      refine T0_q (v := (.int .i64 x93)) rfl (yl_move hs94) ?_
      refine T0_q (v := (.int .i64 el117)) rfl (yl_move rfl) ?_
      refine T0_q (v := v_p_b) rfl (yl_move hs92) ?_
      refine T0_q (v := (.int .i64 x98)) rfl (yl_move rfl) ?_
      have hq := bind_elim h
      clear h
      obtain ⟨el123, hel124, h⟩ := hq
      have hq := SlRd.at h91 hel124
      obtain ⟨cs125, hat126, hrd127⟩ := hq
      have hrd127 : cs125 = [(.int .i64 el123)] := hrd127
      subst hrd127
      refine T0_q (v := (.pointer (some (elemAddr v_p_b (x98 : Int).toNat 1)))) rfl (yl_indexAddr Try.underlying23 sz3 h91 hel124 rfl rfl) ?_
      refine T0_q (v := (.int .i64 el123)) rfl (yl_load sc3 rfl hat126) ?_
      refine T0_q (v := (.int .i64 (w64 (el117 * el123)))) rfl (yl_mul rfl rfl) ?_
      refine T0_q (v := (.int .i64 (w64 (x93 + (w64 (el117 * el123)))))) rfl (yl_add rfl rfl) ?_
      refine T0_q (v := (.int .i64 (w64 (x93 + (w64 (el117 * el123)))))) rfl (yl_assign rfl) ?_
      refine T0_nil ?_
      refine hK115 _ _ ?_
      refine WC_region ?_
      refine T0_q (v := (.int .i64 (w64 (x98 + 1)))) rfl (yl_add hs99 rfl) ?_
      refine T0_q (v := (.int .i64 (w64 (x98 + 1)))) rfl (yl_move rfl) ?_
      refine T0_nil ?_
      replace h := some_out h
      subst h
      refine hK109 _ _ _ rfl ?_
      exact ⟨w64 (x93 + (w64 (el117 * el123))), w64 (x98 + 1), rfl, hs92, rfl, hs96, hs97, rfl, h91, h95, e90⟩
    · clear hK109 hK112 hK113
      replace h := cond_f hb114 h
      refine WC_exit ?_
      replace h := some_out h
      subst h
      have ho := hx108 _ rfl
      subst ho
      refine hK110 _ _ ?_
      exact ⟨x93, rfl, hs94, e90⟩
  · clear hK3 hK4 hK6
    rintro ρ wd100 ⟨x102, rfl, hs103, e101⟩
    replace h := hn106
    refine hK5 _ _ ?_
    refine WC_seqK fun K129 hK129 => ?_
    refine WC_region ?_
    refine T0_q (v := (.int .i64 x102)) rfl (yl_move hs103) ?_
    refine T0_q (v := (.int .i64 x102)) rfl (yl_assign rfl) ?_
    refine T0_nil ?_
    refine hK129 _ _ ?_
    refine WC_ret ?_
    replace h := some_out h
    subst h
    exact ⟨[(.int .i64 x102)], ⟨rfl, trivial⟩, e101, rfl⟩

noncomputable def math_bits_Mul64_spec (p_x : Int) (p_y : Int) : Option (Int × Int) :=
  (Option.bind (shrS .u64 p_x 32) fun q4 =>
  (Option.bind (shrS .u64 p_y 32) fun q8 =>
  (Option.bind (shrS .u64 (IntKind.wrap .u64 ((andS .u64 p_x 4294967295) * (andS .u64 p_y 4294967295))) 32) fun q12 =>
  (Option.bind (shrS .u64 (IntKind.wrap .u64 ((IntKind.wrap .u64 (q4 * (andS .u64 p_y 4294967295))) + q12)) 32) fun q16 =>
  (Option.bind (shrS .u64 (IntKind.wrap .u64 ((andS .u64 (IntKind.wrap .u64 ((IntKind.wrap .u64 (q4 * (andS .u64 p_y 4294967295))) + q12)) 4294967295) + (IntKind.wrap .u64 ((andS .u64 p_x 4294967295) * q8)))) 32) fun q20 =>
  some (IntKind.wrap .u64 ((IntKind.wrap .u64 ((IntKind.wrap .u64 (q4 * q8)) + q16)) + q20), IntKind.wrap .u64 (p_x * p_y))
  )
  )
  )
  )
  )
theorem math_bits_Mul64_ok (L : List Value) (w : World) (hL : LtL L w) (p_x : Int) (p_y : Int) (r : Int × Int) (h : math_bits_Mul64_spec p_x p_y = some r) :
    CallsTo Try.prog 108 [(.int .u64 p_x), (.int .u64 p_y)] w (fun v w' => Ext w w' ∧ (.tuple #[(.int .u64 r.1), (.int .u64 r.2)]) = v) := by
  have e0 : Ext w w := Chg.refl _ _
  refine callsTo_of_WC (n := 51) (rs := [.tmp 4, .tmp 5]) Try.func108 rfl rfl rfl rfl rfl ?_
  refine WC_seqK fun K1 hK1 => ?_
  refine WC_region ?_
  refine T0_q (v := (.int .u64 0)) rfl (yl_assign rfl) ?_
  refine T0_q (v := (.int .u64 0)) rfl (yl_assign rfl) ?_
  refine T0_nil ?_
  refine hK1 _ _ ?_
  refine WC_seqK fun K2 hK2 => ?_
  refine WC_region ?_
  refine T0_q (v := (.int .u64 p_x)) rfl (yl_move rfl) ?_
  refine T0_q (v := (.int .u64 (andS .u64 p_x 4294967295))) rfl (yl_and' rfl rfl) ?_
  refine T0_q (v := (.int .u64 (andS .u64 p_x 4294967295))) rfl (yl_assign rfl) ?_
  refine T0_nil ?_
  refine hK2 _ _ ?_
  refine WC_seqK fun K3 hK3 => ?_
  refine WC_region ?_
  refine T0_q (v := (.int .u64 p_x)) rfl (yl_move rfl) ?_
  have hq := bind_elim h
  clear h
  obtain ⟨q4, hq5, h⟩ := hq
  refine T0_q (v := (.int .u64 q4)) rfl (yl_shr hq5 rfl rfl) ?_
  refine T0_q (v := (.int .u64 q4)) rfl (yl_assign rfl) ?_
  refine T0_nil ?_
  refine hK3 _ _ ?_
  refine WC_seqK fun K6 hK6 => ?_
  refine WC_region ?_
  refine T0_q (v := (.int .u64 p_y)) rfl (yl_move rfl) ?_
  refine T0_q (v := (.int .u64 (andS .u64 p_y 4294967295))) rfl (yl_and' rfl rfl) ?_
  refine T0_q (v := (.int .u64 (andS .u64 p_y 4294967295))) rfl (yl_assign rfl) ?_
  refine T0_nil ?_
  refine hK6 _ _ ?_
  refine WC_seqK fun K7 hK7 => ?_
  refine WC_region ?_
  refine T0_q (v := (.int .u64 p_y)) rfl (yl_move rfl) ?_
  have hq := bind_elim h
  clear h
  obtain ⟨q8, hq9, h⟩ := hq
  refine T0_q (v := (.int .u64 q8)) rfl (yl_shr hq9 rfl rfl) ?_
  refine T0_q (v := (.int .u64 q8)) rfl (yl_assign rfl) ?_
  refine T0_nil ?_
  refine hK7 _ _ ?_
  refine WC_seqK fun K10 hK10 => ?_
  refine WC_region ?_
  refine T0_q (v := (.int .u64 (andS .u64 p_x 4294967295))) rfl (yl_move rfl) ?_
  refine T0_q (v := (.int .u64 (andS .u64 p_y 4294967295))) rfl (yl_move rfl) ?_
  refine T0_q (v := (.int .u64 (IntKind.wrap .u64 ((andS .u64 p_x 4294967295) * (andS .u64 p_y 4294967295))))) rfl (yl_mul rfl rfl) ?_
  refine T0_q (v := (.int .u64 (IntKind.wrap .u64 ((andS .u64 p_x 4294967295) * (andS .u64 p_y 4294967295))))) rfl (yl_assign rfl) ?_
  refine T0_nil ?_
  refine hK10 _ _ ?_
  refine WC_seqK fun K11 hK11 => ?_
  refine WC_region ?_
  refine T0_q (v := (.int .u64 q4)) rfl (yl_move rfl) ?_
  refine T0_q (v := (.int .u64 (andS .u64 p_y 4294967295))) rfl (yl_move rfl) ?_
  refine T0_q (v := (.int .u64 (IntKind.wrap .u64 (q4 * (andS .u64 p_y 4294967295))))) rfl (yl_mul rfl rfl) ?_
  refine T0_q (v := (.int .u64 (IntKind.wrap .u64 ((andS .u64 p_x 4294967295) * (andS .u64 p_y 4294967295))))) rfl (yl_move rfl) ?_
  have hq := bind_elim h
  clear h
  obtain ⟨q12, hq13, h⟩ := hq
  refine T0_q (v := (.int .u64 q12)) rfl (yl_shr hq13 rfl rfl) ?_
  refine T0_q (v := (.int .u64 (IntKind.wrap .u64 ((IntKind.wrap .u64 (q4 * (andS .u64 p_y 4294967295))) + q12)))) rfl (yl_add rfl rfl) ?_
  refine T0_q (v := (.int .u64 (IntKind.wrap .u64 ((IntKind.wrap .u64 (q4 * (andS .u64 p_y 4294967295))) + q12)))) rfl (yl_assign rfl) ?_
  refine T0_nil ?_
  refine hK11 _ _ ?_
  refine WC_seqK fun K14 hK14 => ?_
  refine WC_region ?_
  refine T0_q (v := (.int .u64 (IntKind.wrap .u64 ((IntKind.wrap .u64 (q4 * (andS .u64 p_y 4294967295))) + q12)))) rfl (yl_move rfl) ?_
  refine T0_q (v := (.int .u64 (andS .u64 (IntKind.wrap .u64 ((IntKind.wrap .u64 (q4 * (andS .u64 p_y 4294967295))) + q12)) 4294967295))) rfl (yl_and' rfl rfl) ?_
  refine T0_q (v := (.int .u64 (andS .u64 (IntKind.wrap .u64 ((IntKind.wrap .u64 (q4 * (andS .u64 p_y 4294967295))) + q12)) 4294967295))) rfl (yl_assign rfl) ?_
  refine T0_nil ?_
  refine hK14 _ _ ?_
  refine WC_seqK fun K15 hK15 => ?_
  refine WC_region ?_
  refine T0_q (v := (.int .u64 (IntKind.wrap .u64 ((IntKind.wrap .u64 (q4 * (andS .u64 p_y 4294967295))) + q12)))) rfl (yl_move rfl) ?_
  have hq := bind_elim h
  clear h
  obtain ⟨q16, hq17, h⟩ := hq
  refine T0_q (v := (.int .u64 q16)) rfl (yl_shr hq17 rfl rfl) ?_
  refine T0_q (v := (.int .u64 q16)) rfl (yl_assign rfl) ?_
  refine T0_nil ?_
  refine hK15 _ _ ?_
  refine WC_seqK fun K18 hK18 => ?_
  refine WC_region ?_
  refine T0_q (v := (.int .u64 (andS .u64 (IntKind.wrap .u64 ((IntKind.wrap .u64 (q4 * (andS .u64 p_y 4294967295))) + q12)) 4294967295))) rfl (yl_move rfl) ?_
  refine T0_q (v := (.int .u64 (andS .u64 p_x 4294967295))) rfl (yl_move rfl) ?_
  refine T0_q (v := (.int .u64 q8)) rfl (yl_move rfl) ?_
  refine T0_q (v := (.int .u64 (IntKind.wrap .u64 ((andS .u64 p_x 4294967295) * q8)))) rfl (yl_mul rfl rfl) ?_
  refine T0_q (v := (.int .u64 (IntKind.wrap .u64 ((andS .u64 (IntKind.wrap .u64 ((IntKind.wrap .u64 (q4 * (andS .u64 p_y 4294967295))) + q12)) 4294967295) + (IntKind.wrap .u64 ((andS .u64 p_x 4294967295) * q8)))))) rfl (yl_add rfl rfl) ?_
  refine T0_q (v := (.int .u64 (IntKind.wrap .u64 ((andS .u64 (IntKind.wrap .u64 ((IntKind.wrap .u64 (q4 * (andS .u64 p_y 4294967295))) + q12)) 4294967295) + (IntKind.wrap .u64 ((andS .u64 p_x 4294967295) * q8)))))) rfl (yl_assign rfl) ?_
  refine T0_nil ?_
  refine hK18 _ _ ?_
  refine WC_seqK fun K19 hK19 => ?_
  refine WC_region ?_
  refine T0_q (v := (.int .u64 q4)) rfl (yl_move rfl) ?_
  refine T0_q (v := (.int .u64 q8)) rfl (yl_move rfl) ?_
  refine T0_q (v := (.int .u64 (IntKind.wrap .u64 (q4 * q8)))) rfl (yl_mul rfl rfl) ?_
  refine T0_q (v := (.int .u64 q16)) rfl (yl_move rfl) ?_
  refine T0_q (v := (.int .u64 (IntKind.wrap .u64 ((IntKind.wrap .u64 (q4 * q8)) + q16)))) rfl (yl_add rfl rfl) ?_
  refine T0_q (v := (.int .u64 (IntKind.wrap .u64 ((andS .u64 (IntKind.wrap .u64 ((IntKind.wrap .u64 (q4 * (andS .u64 p_y 4294967295))) + q12)) 4294967295) + (IntKind.wrap .u64 ((andS .u64 p_x 4294967295) * q8)))))) rfl (yl_move rfl) ?_
  have hq := bind_elim h
  clear h
  obtain ⟨q20, hq21, h⟩ := hq
  refine T0_q (v := (.int .u64 q20)) rfl (yl_shr hq21 rfl rfl) ?_
  refine T0_q (v := (.int .u64 (IntKind.wrap .u64 ((IntKind.wrap .u64 ((IntKind.wrap .u64 (q4 * q8)) + q16)) + q20)))) rfl (yl_add rfl rfl) ?_
  refine T0_q (v := (.int .u64 (IntKind.wrap .u64 ((IntKind.wrap .u64 ((IntKind.wrap .u64 (q4 * q8)) + q16)) + q20)))) rfl (yl_assign rfl) ?_
  refine T0_nil ?_
  refine hK19 _ _ ?_
  refine WC_seqK fun K22 hK22 => ?_
  refine WC_region ?_
  refine T0_q (v := (.int .u64 p_x)) rfl (yl_move rfl) ?_
  refine T0_q (v := (.int .u64 p_y)) rfl (yl_move rfl) ?_
  refine T0_q (v := (.int .u64 (IntKind.wrap .u64 (p_x * p_y)))) rfl (yl_mul rfl rfl) ?_
  refine T0_q (v := (.int .u64 (IntKind.wrap .u64 (p_x * p_y)))) rfl (yl_assign rfl) ?_
  refine T0_nil ?_
  refine hK22 _ _ ?_
  refine WC_ret ?_
  replace h := some_out h
  subst h
  exact ⟨[(.int .u64 (IntKind.wrap .u64 ((IntKind.wrap .u64 ((IntKind.wrap .u64 (q4 * q8)) + q16)) + q20))), (.int .u64 (IntKind.wrap .u64 (p_x * p_y)))], ⟨rfl, rfl, trivial⟩, e0, rfl⟩

noncomputable def levitate_wide_plus_s0 (p_a : Arr3_U64) (p_b : Arr3_U64) : (Int × Int × Int × Int × Int) → Option ((Int × Int × Int × Int × Int) ⊕ (Int × Int × Int)) := fun (x216, x218, x226, x227, x228) =>
  (bif (decide (x218 < 3)) then (
    (Option.bind (idx [p_a.e0, p_a.e1, p_a.e2] x218) fun el258 =>
    (Option.bind (idx [p_b.e0, p_b.e1, p_b.e2] x218) fun el260 =>
    (Option.bind (addC el258 el260 x216) fun r262 =>
    (Option.bind (idx [x226, x227, x228] x218) fun el264 =>
    some (.inl (r262.2, w64 (x218 + 1), (bif Nat.beq (x218 : Int).toNat 0 then r262.1 else x226), (bif Nat.beq (x218 : Int).toNat 1 then r262.1 else x227), (bif Nat.beq (x218 : Int).toNat 2 then r262.1 else x228)))
    )
    )
    )
    )
  ) else (
    some (.inr (x226, x227, x228))
  ))
noncomputable def levitate_wide_plus_spec (p_a : Arr3_U64) (p_b : Arr3_U64) : Option Arr3_U64 :=
  (Option.bind (loop (levitate_wide_plus_s0 p_a p_b) (0, 0, 0, 0, 0)) fun ((x237, x238, x239) : Int × Int × Int) =>
  some (Arr3_U64.mk x237 x238 x239)
  )
theorem levitate_wide_plus_ok (L : List Value) (w : World) (hL : LtL L w) (cs_p_a : List Value) (p_a : Arr3_U64) (h_p_a : Rep.rd L w cs_p_a p_a) (cs_p_b : List Value) (p_b : Arr3_U64) (h_p_b : Rep.rd L w cs_p_b p_b) (r : Arr3_U64) (h : levitate_wide_plus_spec p_a p_b = some r) :
    CallsTo Try.prog 110 [(.agg cs_p_a.toArray), (.agg cs_p_b.toArray)] w (fun v w' => Ext w w' ∧ ∃ (cs0 : List Value), (.agg cs0.toArray) = v ∧ Rep.rd L w' cs0 r) := by
  have e0 : Ext w w := Chg.refl _ _
  have h_p_a : cs_p_a = [(.int .u64 p_a.e0), (.int .u64 p_a.e1), (.int .u64 p_a.e2)] := h_p_a
  subst h_p_a
  have h_p_b : cs_p_b = [(.int .u64 p_b.e0), (.int .u64 p_b.e1), (.int .u64 p_b.e2)] := h_p_b
  subst h_p_b
  refine callsTo_of_WC (n := 26) (rs := [.cell 4 120]) Try.func110 rfl rfl rfl rfl rfl ?_
  refine WC_seqK fun K1 hK1 => ?_
  refine WC_region ?_
  refine T0_e rfl (eff_boxC (cs := [(.int .u64 p_a.e0), (.int .u64 p_a.e1), (.int .u64 p_a.e2)]) rfl rfl ?_)
  intro b2 wd3 hb4 he5 hB6
  have e8 := e0.trans he5
  refine T0_e rfl (eff_boxC (cs := [(.int .u64 p_b.e0), (.int .u64 p_b.e1), (.int .u64 p_b.e2)]) rfl rfl ?_)
  intro b10 wd11 hb12 he13 hB14
  have e17 := e8.trans he13
  refine T0_e rfl (eff_allocZ zi120 ?_)
  intro b19 wd20 hb21 he22 hB23
  have hbf26 := bfresh e17 hb21
  have e27 := he13.trans he22
  have e28 := e17.trans he22
  refine T0_nil ?_
  refine hK1 _ _ ?_
  refine WC_seqK fun K30 hK30 => ?_
  refine WC_region ?_
  refine T0_e rfl (eff_allocZ zi120 ?_)
  intro b31 wd32 hb33 he34 hB35
  have hn36 : b31 ≠ b2 := box_ne (hB6.ext e27) hb33
  have hn37 : b31 ≠ b10 := box_ne (hB14.ext he22) hb33
  have hn38 : b31 ≠ b19 := box_ne hB23 hb33
  have hbf39 := bfresh e28 hb33
  have e40 := he22.trans he34
  have e41 := e27.trans he34
  have e42 := e28.trans he34
  refine T0_nil ?_
  refine hK30 _ _ ?_
  refine WC_seqK fun K44 hK44 => ?_
  refine WC_region ?_
  refine T0_q (v := (.int .u64 0)) rfl (yl_assign rfl) ?_
  refine T0_nil ?_
  refine hK44 _ _ ?_
  refine WC_seqK fun K45 hK45 => ?_
  refine WC_seqK fun K46 hK46 => ?_
  refine WC_region ?_
  refine T0_q (v := (.int .i64 0)) rfl (yl_move rfl) ?_
  refine T0_nil ?_
  refine hK46 _ _ ?_
  have hq := bind_elim h
  clear h
  obtain ⟨o242, hl243, hn244⟩ := hq
  refine WC_post (fun (ρ : Env) (wd231 : World) => ∃ (x237 : Int) (x238 : Int) (x239 : Int), (x237, x238, x239) = o242 ∧ ρ 4 = (.pointer (some ⟨b19, 0, none⟩)) ∧ ρ 5 = (.pointer (some ⟨b31, 0, none⟩)) ∧ Box wd231 b19 [(.int .u64 0), (.int .u64 0), (.int .u64 0)] 120 ∧ Box wd231 b31 [(.int .u64 x237), (.int .u64 x238), (.int .u64 x239)] 120 ∧ Ext w wd231) ?_ ?_
  · clear hK1 hK30 hK44 hK45 hK46
    intro K248 hK248
    refine WC_block ?_
    refine WC_loopk (fun sv ρ wd210 => ∃ (x216 : Int) (x218 : Int) (x226 : Int) (x227 : Int) (x228 : Int), (x216, x218, x226, x227, x228) = sv ∧ ρ 2 = (.pointer (some ⟨b2, 0, none⟩)) ∧ ρ 3 = (.pointer (some ⟨b10, 0, none⟩)) ∧ ρ 4 = (.pointer (some ⟨b19, 0, none⟩)) ∧ ρ 5 = (.pointer (some ⟨b31, 0, none⟩)) ∧ ρ 6 = (.int .u64 x216) ∧ ρ 8 = (.int .i64 x218) ∧ Box wd210 b10 [(.int .u64 p_b.e0), (.int .u64 p_b.e1), (.int .u64 p_b.e2)] 120 ∧ Box wd210 b19 [(.int .u64 0), (.int .u64 0), (.int .u64 0)] 120 ∧ Box wd210 b2 [(.int .u64 p_a.e0), (.int .u64 p_a.e1), (.int .u64 p_a.e2)] 120 ∧ Box wd210 b31 [(.int .u64 x226), (.int .u64 x227), (.int .u64 x228)] 120 ∧ Ext w wd210) hl243 ⟨0, 0, 0, 0, 0, rfl, rfl, rfl, rfl, rfl, rfl, rfl, (hB14.ext e40), (hB23.ext he34), (hB6.ext e41), hB35, e42⟩ ?_
    rintro _ ρ wd210 ⟨x216, x218, x226, x227, x228, rfl, hs212, hs213, hs214, hs215, hs217, hs219, hB221, hB223, hB225, hB230, e211⟩ x245 h hx246 K247 hK247
    refine WC_seqK fun K250 hK250 => ?_
    refine WC_region ?_
    refine T0_q (v := (.bool (decide (x218 < 3)))) rfl (yl_lss hs219 rfl) ?_
    refine T0_nil ?_
    refine hK250 _ _ ?_
    refine WC_seqK fun K251 hK251 => ?_
    refine WC_cond (b := (decide (x218 < 3))) rfl (fun hb252 => ?_) (fun hb252 => ?_)
    · clear hK248 hK250
      replace h := cond_t hb252 h
      refine WC_skip ?_
      refine hK251 _ _ ?_
      refine WC_seqK fun K253 hK253 => ?_
      refine WC_block ?_
      refine WC_seqK fun K254 hK254 => ?_
      refine WC_region ?_
      refine T0_q (v := (.int .i64 x218)) rfl (yl_move hs219) ?_
      refine T0_q (v := (.int .i64 x218)) rfl (yl_assign rfl) ?_
      refine T0_nil ?_
      refine hK254 _ _ ?_
      refine WC_planX mixed (.p 0 (.p 1 (.p 2 (.p 4 (.p 5 (.p 7 (.q 3 (.q 6 (.e 8 (.p 9 (.p 10 (.p 11 (.p 12 (.b 13 (.p 14 .done))))))))))))))) (by kernel_rfl) ?_
      intro wd255 he256
      have e257 := e211.trans he256
      refine TX_p (v := (.int .i64 x218)) rfl rfl (fun w' => (yl_move rfl)) ?_
      refine TX_p (v := (.int .i64 x218)) rfl rfl (fun w' => (yl_move rfl)) ?_
      have hq := bind_elim h
      clear h
      obtain ⟨el258, hel259, h⟩ := hq
      refine TX_p (v := (.pointer (some (Addr.add ⟨b2, 0, none⟩ ((x218 : Int).toNat * 1))))) rfl rfl (fun w' => (yl_indexAddrA Try.underlying120 sz118 (idx_some hel259).1 (glob_lt (xs := [p_a.e0, p_a.e1, p_a.e2]) hel259) hs212 rfl)) ?_
      refine TX_p (v := (.int .i64 x218)) rfl rfl (fun w' => (yl_move rfl)) ?_
      have hq := bind_elim h
      clear h
      obtain ⟨el260, hel261, h⟩ := hq
      refine TX_p (v := (.pointer (some (Addr.add ⟨b10, 0, none⟩ ((x218 : Int).toNat * 1))))) rfl rfl (fun w' => (yl_indexAddrA Try.underlying120 sz118 (idx_some hel261).1 (glob_lt (xs := [p_b.e0, p_b.e1, p_b.e2]) hel261) hs213 rfl)) ?_
      refine TX_p (v := (.int .u64 x216)) rfl rfl (fun w' => (yl_move hs217)) ?_
      refine TX_q (v := (.int .u64 el258)) rfl rfl (fun w' hS => (yl_load sc118 rfl (glob_atk (xs := [p_a.e0, p_a.e1, p_a.e2]) (Box.at (hB225.ext (he256.trans hS))) hel259))) ?_
      refine TX_q (v := (.int .u64 el260)) rfl rfl (fun w' hS => (yl_load sc118 rfl (glob_atk (xs := [p_b.e0, p_b.e1, p_b.e2]) (Box.at (hB221.ext (he256.trans hS))) hel261))) ?_
      have hq := bind_elim h
      clear h
      obtain ⟨r262, hr263, h⟩ := hq
      refine TX_e rfl rfl (eff_add64 Try.func109 nm109 fb109 fn109 fe109 (ev3 rfl rfl rfl) hr263 ?_)
      refine ⟨Chg.refl _ _, ?_⟩
      refine TX_p (v := (.tuple #[(.int .u64 r262.1), (.int .u64 r262.2)])) rfl rfl (fun w' => (yl_move rfl)) ?_
      refine TX_p (v := (.int .u64 r262.1)) rfl rfl (fun w' => (yl_extract rfl rfl)) ?_
      refine TX_p (v := (.int .u64 r262.2)) rfl rfl (fun w' => (yl_extract rfl rfl)) ?_
      have hq := bind_elim h
      clear h
      obtain ⟨el264, hel265, h⟩ := hq
      refine TX_p (v := (.pointer (some (Addr.add ⟨b31, 0, none⟩ ((x218 : Int).toNat * 1))))) rfl rfl (fun w' => (yl_indexAddrA Try.underlying120 sz118 (idx_some hel265).1 (glob_lt (xs := [x226, x227, x228]) hel265) hs215 rfl)) ?_
      refine TX_b rfl rfl (eff_storeI (xs := [x226, x227, x228]) (ys := [(bif Nat.beq (x218 : Int).toNat 0 then r262.1 else x226), (bif Nat.beq (x218 : Int).toNat 1 then r262.1 else x227), (bif Nat.beq (x218 : Int).toNat 2 then r262.1 else x228)]) sz118 rfl rfl hel265 rfl (hB230.ext he256) rfl ?_)
      intro wd266 hc267 hB268
      have h269 := (hB221.ext he256).chg hc267 (avoidb hn37)
      have h270 := (hB223.ext he256).chg hc267 (avoidb hn38)
      have h271 := (hB225.ext he256).chg hc267 (avoidb hn36)
      have e272 := chg_box e257 hc267 hbf39
      refine TX_p (v := (.int .u64 r262.2)) rfl rfl (fun w' => (yl_assign rfl)) ?_
      refine TX_done ?_
      refine hK253 _ _ ?_
      refine WC_region ?_
      refine T0_q (v := (.int .i64 (w64 (x218 + 1)))) rfl (yl_add hs219 rfl) ?_
      refine T0_q (v := (.int .i64 (w64 (x218 + 1)))) rfl (yl_move rfl) ?_
      refine T0_nil ?_
      replace h := some_out h
      subst h
      refine hK247 _ _ _ rfl ?_
      exact ⟨r262.2, w64 (x218 + 1), (bif Nat.beq (x218 : Int).toNat 0 then r262.1 else x226), (bif Nat.beq (x218 : Int).toNat 1 then r262.1 else x227), (bif Nat.beq (x218 : Int).toNat 2 then r262.1 else x228), rfl, hs212, hs213, hs214, hs215, rfl, rfl, h269, h270, h271, hB268, e272⟩
    · clear hK247 hK250 hK251
      replace h := cond_f hb252 h
      refine WC_exit ?_
      replace h := some_out h
      subst h
      have ho := hx246 _ rfl
      subst ho
      refine hK248 _ _ ?_
      exact ⟨x226, x227, x228, rfl, hs214, hs215, hB223, hB230, e211⟩
  · clear hK1 hK30 hK44 hK46
    rintro ρ wd231 ⟨x237, x238, x239, rfl, hs233, hs234, hB236, hB241, e232⟩
    replace h := hn244
    refine hK45 _ _ ?_
    refine WC_seqK fun K273 hK273 => ?_
    refine WC_region ?_
    refine T0_q (v := (.agg (List.toArray [(.int .u64 x237), (.int .u64 x238), (.int .u64 x239)]))) rfl (yl_loadA (cs := [(.int .u64 x237), (.int .u64 x238), (.int .u64 x239)]) ag120 hs234 (Box.at hB241)) ?_
    refine T0_e rfl (eff_storeC (vs := [(.int .u64 x237), (.int .u64 x238), (.int .u64 x239)]) (cs' := [(.int .u64 x237), (.int .u64 x238), (.int .u64 x239)]) sz120 rfl rfl hs233 rfl hB236 rfl (oc_cons rfl (oc_cons rfl (oc_cons rfl oc_nil))) rfl ?_)
    intro wd274 hc275 hB276
    have e278 := chg_box e232 hc275 hbf26
    refine T0_nil ?_
    refine hK273 _ _ ?_
    refine WC_ret ?_
    replace h := some_out h
    subst h
    exact ⟨[(.agg (List.toArray [(.int .u64 x237), (.int .u64 x238), (.int .u64 x239)]))], ⟨⟨_, hs233, run_loadVarA (cs := [(.int .u64 x237), (.int .u64 x238), (.int .u64 x239)]) ag120 (Box.at hB276)⟩, trivial⟩, e278, [(.int .u64 x237), (.int .u64 x238), (.int .u64 x239)], rfl, rfl⟩

noncomputable def levitate_plant_sampleErr_s0 (p_p : levitate_plant) (p_s : LevitateSample) : (Int) → Option ((Int) ⊕ (Int ⊕ (Unit))) := fun x198 =>
  (bif (decide (x198 < (p_s.Noise.length : Int))) then (
    (Option.bind (idx p_s.Noise x198) fun el219 =>
    (Option.bind (idx p_p.LevitatePlant.Noise x198) fun el226 =>
    (Option.bind (levitate_small_spec el219 el226) fun r232 =>
    (bif (!r232) then (
      some (.inr (.inl 2))
    ) else (
      some (.inl (w64 (x198 + 1)))
    ))
    )
    )
    )
  ) else (
    some (.inr (.inr ()))
  ))
noncomputable def levitate_plant_sampleErr_spec (p_p : levitate_plant) (p_s : LevitateSample) : Option Int :=
  (Option.bind (levitate_within_spec p_s.Map 0 (w64 ((p_p.LevitatePlant.Maps.length : Int) - 1))) fun r35 =>
  (Option.bind (levitate_unless_spec r35 6) fun r43 =>
  (Option.bind (levitate_unless_spec (decide ((p_s.Noise.length : Int) = (p_p.LevitatePlant.Noise.length : Int))) 10) fun r51 =>
  (Option.bind (levitate_first_spec ([r43, r51] : List Int)) fun r68 =>
  (bif (!decide (r68 = 0)) then (
    some r68
  ) else (
    (Option.bind (loop (levitate_plant_sampleErr_s0 p_p p_s) 0) fun o206 => jn0 o206 fun (_ : Unit) =>
    some 0
    )
  ))
  )
  )
  )
  )
theorem levitate_plant_sampleErr_ok (L : List Value) (w : World) (hL : LtL L w) (cs_p_p : List Value) (p_p : levitate_plant) (h_p_p : Rep.rd L w cs_p_p p_p) (cs_p_s : List Value) (p_s : LevitateSample) (h_p_s : Rep.rd L w cs_p_s p_s) (r : Int) (h : levitate_plant_sampleErr_spec p_p p_s = some r) :
    CallsTo Try.prog 112 [(.agg cs_p_p.toArray), (.agg cs_p_s.toArray)] w (fun v w' => Ext w w' ∧ (.int .i64 r) = v) := by
  have e0 : Ext w w := Chg.refl _ _
  obtain ⟨v1, v3, h2, h4, rfl⟩ := h_p_p
  obtain ⟨v7, h8, rfl⟩ := h_p_s
  refine callsTo_of_WC (n := 49) (rs := [.tmp 4]) Try.func112 rfl rfl rfl rfl rfl ?_
  refine WC_seqK fun K10 hK10 => ?_
  refine WC_region ?_
  refine T0_e rfl (eff_boxC (cs := [(.int .i64 p_p.LevitatePlant.Den), v1, v3]) rfl rfl ?_)
  intro b11 wd12 hb13 he14 hB15
  have e17 := e0.trans he14
  refine T0_e rfl (eff_boxC (cs := [(.int .i64 p_s.Map), v7]) rfl rfl ?_)
  intro b19 wd20 hb21 he22 hB23
  have e26 := he14.trans he22
  have e27 := e17.trans he22
  refine T0_q (v := (.int .i64 0)) rfl (yl_assign rfl) ?_
  refine T0_nil ?_
  refine hK10 _ _ ?_
  refine WC_seqK fun K29 hK29 => ?_
  refine WC_planX mixed (.p 0 (.p 2 (.p 3 (.p 9 (.p 12 (.p 13 (.q 1 (.q 4 (.p 5 (.p 6 (.q 10 (.p 11 (.q 14 (.p 15 (.p 16 (.e 7 (.e 8 (.e 17 (.e 18 (.e 19 (.p 20 .done))))))))))))))))))))) (by kernel_rfl) ?_
  intro wd30 he31
  have e32 := e26.trans he31
  have e33 := he22.trans he31
  have e34 := e27.trans he31
  refine TX_p (v := (.pointer (some ⟨b19, 0, none⟩))) rfl rfl (fun w' => (yl_fa 0 Try.underlying70 rfl rfl ⟨0, sz3⟩ rfl rfl)) ?_
  refine TX_p (v := (.pointer (some ⟨b11, 0, none⟩))) rfl rfl (fun w' => (yl_fa 0 Try.underlying89 rfl rfl ⟨2, sz25⟩ rfl rfl)) ?_
  refine TX_p (v := (.pointer (some ⟨b11, 1, none⟩))) rfl rfl (fun w' => (yl_fa 1 Try.underlying25 rfl rfl ⟨0, sz22⟩ rfl rfl)) ?_
  refine TX_p (v := (.pointer (some ⟨b19, 1, none⟩))) rfl rfl (fun w' => (yl_fa 1 Try.underlying70 rfl rfl ⟨0, sz23⟩ rfl rfl)) ?_
  refine TX_p (v := (.pointer (some ⟨b11, 0, none⟩))) rfl rfl (fun w' => (yl_fa 0 Try.underlying89 rfl rfl ⟨2, sz25⟩ rfl rfl)) ?_
  refine TX_p (v := (.pointer (some ⟨b11, 2, none⟩))) rfl rfl (fun w' => (yl_fa 2 Try.underlying25 rfl rfl ⟨0, sz23⟩ rfl rfl)) ?_
  refine TX_q (v := (.int .i64 p_s.Map)) rfl rfl (fun w' hS => (yl_load sc3 rfl (Box.at (hB23.ext (he31.trans hS))))) ?_
  refine TX_q (v := v1) rfl rfl (fun w' hS => (yl_load sc22 rfl (At.drop (Box.at (hB15.ext (e33.trans hS))) 1))) ?_
  refine TX_p (v := (.int .i64 (p_p.LevitatePlant.Maps.length : Int))) rfl rfl (fun w' => (yl_lenR rfl Try.underlying22 h2 rfl)) ?_
  refine TX_p (v := (.int .i64 (w64 ((p_p.LevitatePlant.Maps.length : Int) - 1)))) rfl rfl (fun w' => (yl_sub rfl rfl)) ?_
  refine TX_q (v := v7) rfl rfl (fun w' hS => (yl_load sc23 rfl (At.drop (Box.at (hB23.ext (he31.trans hS))) 1))) ?_
  refine TX_p (v := (.int .i64 (p_s.Noise.length : Int))) rfl rfl (fun w' => (yl_lenR rfl Try.underlying23 h8 rfl)) ?_
  refine TX_q (v := v3) rfl rfl (fun w' hS => (yl_load sc23 rfl (At.drop (Box.at (hB15.ext (e33.trans hS))) 2))) ?_
  refine TX_p (v := (.int .i64 (p_p.LevitatePlant.Noise.length : Int))) rfl rfl (fun w' => (yl_lenR rfl Try.underlying23 h4 rfl)) ?_
  refine TX_p (v := (.bool (decide ((p_s.Noise.length : Int) = (p_p.LevitatePlant.Noise.length : Int))))) rfl rfl (fun w' => (yl_eql rfl rfl)) ?_
  have hq := bind_elim h
  clear h
  obtain ⟨r35, hr36, h⟩ := hq
  refine TX_e rfl rfl (eff_call Try.func38 nm38 rfl (ev3 rfl rfl rfl) (levitate_within_ok [] _ (LtL.nil _) p_s.Map 0 (w64 ((p_p.LevitatePlant.Maps.length : Int) - 1)) r35 hr36) ?_)
  rintro _ wd37 ⟨he38, rfl⟩
  have e39 := e32.trans he38
  have e40 := e33.trans he38
  have e41 := he31.trans he38
  have e42 := e34.trans he38
  refine ⟨he38, ?_⟩
  have hq := bind_elim h
  clear h
  obtain ⟨r43, hr44, h⟩ := hq
  refine TX_e rfl rfl (eff_call Try.func40 nm40 rfl (ev2 rfl rfl) (levitate_unless_ok [] _ (LtL.nil _) r35 6 r43 hr44) ?_)
  rintro _ wd45 ⟨he46, rfl⟩
  have e47 := e39.trans he46
  have e48 := e40.trans he46
  have e49 := e41.trans he46
  have e50 := e42.trans he46
  refine ⟨he46, ?_⟩
  have hq := bind_elim h
  clear h
  obtain ⟨r51, hr52, h⟩ := hq
  refine TX_e rfl rfl (eff_call Try.func40 nm40 rfl (ev2 rfl rfl) (levitate_unless_ok [] _ (LtL.nil _) (decide ((p_s.Noise.length : Int) = (p_p.LevitatePlant.Noise.length : Int))) 10 r51 hr52) ?_)
  rintro _ wd53 ⟨he54, rfl⟩
  have e55 := e47.trans he54
  have e56 := e48.trans he54
  have e57 := e49.trans he54
  have e58 := e50.trans he54
  refine ⟨he54, ?_⟩
  refine TX_e rfl rfl (eff_buildTC (xs := ([r43, r51] : List Int)) (cells := [(.int .i64 r43), (.int .i64 r51)]) Try.underlying108 ei30 rfl (pc_cons rfl rfl (pc_cons rfl rfl pc_nil)) rfl (Elems.cons (cs := [(.int .i64 r43)]) rfl (Elems.cons (cs := [(.int .i64 r51)]) rfl Elems.nil)) rfl (hL.chg e58) ?_)
  intro b62 wd59 he60 h61
  have e63 := e55.trans he60
  have e64 := e56.trans he60
  have e65 := e57.trans he60
  have e66 := e58.trans he60
  refine ⟨he60, ?_⟩
  have hq := bind_elim h
  clear h
  obtain ⟨r68, hr69, h⟩ := hq
  refine TX_e rfl rfl (eff_call Try.func39 nm39 rfl (ev1 rfl) (levitate_first_ok [] _ (LtL.nil _) (.slice (some ⟨b62, 0, none⟩) 2 2) ([r43, r51] : List Int) (h61.sub (fun _ h => by cases h)) r68 hr69) ?_)
  rintro _ wd70 ⟨he71, rfl⟩
  have e72 := e63.trans he71
  have e73 := e64.trans he71
  have e74 := e65.trans he71
  have e75 := e66.trans he71
  refine ⟨he71, ?_⟩
  refine TX_p (v := (.int .i64 r68)) rfl rfl (fun w' => (yl_assign rfl)) ?_
  refine TX_done ?_
  refine hK29 _ _ ?_
  refine WC_seqK fun K76 hK76 => ?_
  refine WC_seqK fun K77 hK77 => ?_
  refine WC_region ?_
  refine T0_q (v := (.int .i64 r68)) rfl (yl_move rfl) ?_
  refine T0_q (v := (.bool (!decide (r68 = 0)))) rfl (yl_neq rfl rfl) ?_
  refine T0_nil ?_
  refine hK77 _ _ ?_
  refine WC_cond (b := (!decide (r68 = 0))) rfl (fun hb78 => ?_) (fun hb78 => ?_)
  · clear hK10 hK29 hK76 hK77
    replace h := cond_t hb78 h
    refine WC_seqK fun K79 hK79 => ?_
    refine WC_region ?_
    refine T0_q (v := (.int .i64 r68)) rfl (yl_move rfl) ?_
    refine T0_q (v := (.int .i64 r68)) rfl (yl_assign rfl) ?_
    refine T0_nil ?_
    refine hK79 _ _ ?_
    refine WC_ret ?_
    replace h := some_out h
    subst h
    exact ⟨[(.int .i64 r68)], ⟨rfl, trivial⟩, e75, rfl⟩
  · clear hK10 hK29 hK77
    replace h := cond_f hb78 h
    refine WC_skip ?_
    refine hK76 _ _ ?_
    refine WC_seqK fun K80 hK80 => ?_
    refine WC_seqK fun K81 hK81 => ?_
    refine WC_region ?_
    refine T0_q (v := (.pointer (some ⟨b19, 1, none⟩))) rfl (yl_fa 1 Try.underlying70 rfl rfl ⟨0, sz23⟩ rfl rfl) ?_
    refine T0_q (v := v7) rfl (yl_load sc23 rfl (At.drop (Box.at (hB23.ext e74)) 1)) ?_
    refine T0_q (v := (.int .i64 (p_s.Noise.length : Int))) rfl (yl_lenR rfl Try.underlying23 h8 rfl) ?_
    refine T0_q (v := (.int .i64 0)) rfl (yl_move rfl) ?_
    refine T0_nil ?_
    refine hK81 _ _ ?_
    have hq := bind_elim h
    clear h
    obtain ⟨o206, hl207, hn208⟩ := hq
    refine WC_post (fun (ρ : Env) (wd204 : World) => .inr () = o206 ∧ Ext w wd204) ?_ ?_
    · clear hK76 hK80 hK81
      intro K212 hK212
      refine WC_block ?_
      refine WC_loopk (fun sv ρ wd192 => ∃ (x198 : Int), x198 = sv ∧ ρ 2 = (.pointer (some ⟨b11, 0, none⟩)) ∧ ρ 32 = v7 ∧ ρ 33 = (.int .i64 (p_s.Noise.length : Int)) ∧ ρ 34 = (.int .i64 x198) ∧ SlRd L wd192 v7 p_s.Noise ∧ SlRd L wd192 v1 p_p.LevitatePlant.Maps ∧ SlRd L wd192 v3 p_p.LevitatePlant.Noise ∧ Box wd192 b11 [(.int .i64 p_p.LevitatePlant.Den), v1, v3] 89 ∧ Ext w wd192) hl207 ⟨0, rfl, rfl, rfl, rfl, rfl, (h8.ext e72), (h2.ext e72), (h4.ext e72), (hB15.ext e73), e75⟩ ?_
      rintro _ ρ wd192 ⟨x198, rfl, hs194, hs196, hs197, hs199, h195, h200, h201, hB203, e193⟩ x209 h hx210 K211 hK211
      refine WC_seqK fun K214 hK214 => ?_
      refine WC_region ?_
      refine T0_q (v := (.bool (decide (x198 < (p_s.Noise.length : Int))))) rfl (yl_lss hs199 hs197) ?_
      refine T0_nil ?_
      refine hK214 _ _ ?_
      refine WC_seqK fun K215 hK215 => ?_
      refine WC_cond (b := (decide (x198 < (p_s.Noise.length : Int)))) rfl (fun hb216 => ?_) (fun hb216 => ?_)
      · clear hK212 hK214
        replace h := cond_t hb216 h
        refine WC_skip ?_
        refine hK215 _ _ ?_
        refine WC_seqK fun K217 hK217 => ?_
        refine WC_block ?_
        refine WC_seqK fun K218 hK218 => ?_
        refine WC_region ?_
        refine T0_q (v := (.int .i64 x198)) rfl (yl_move hs199) ?_
        have hq := bind_elim h
        clear h
        obtain ⟨el219, hel220, h⟩ := hq
        have hq := SlRd.at h195 hel220
        obtain ⟨cs221, hat222, hrd223⟩ := hq
        have hrd223 : cs221 = [(.int .i64 el219)] := hrd223
        subst hrd223
        refine T0_q (v := (.pointer (some (elemAddr v7 (x198 : Int).toNat 1)))) rfl (yl_indexAddr Try.underlying23 sz3 h195 hel220 hs196 hs199) ?_
        refine T0_q (v := (.int .i64 el219)) rfl (yl_load sc3 rfl hat222) ?_
        refine T0_q (v := (.int .i64 x198)) rfl (yl_assign rfl) ?_
        refine T0_q (v := (.int .i64 el219)) rfl (yl_assign rfl) ?_
        refine T0_nil ?_
        refine hK218 _ _ ?_
        refine WC_seqK fun K225 hK225 => ?_
        refine WC_region ?_
        refine T0_q (v := (.int .i64 el219)) rfl (yl_move rfl) ?_
        refine T0_q (v := (.pointer (some ⟨b11, 0, none⟩))) rfl (yl_fa 0 Try.underlying89 rfl rfl ⟨2, sz25⟩ hs194 rfl) ?_
        refine T0_q (v := (.pointer (some ⟨b11, 2, none⟩))) rfl (yl_fa 2 Try.underlying25 rfl rfl ⟨0, sz23⟩ rfl rfl) ?_
        refine T0_q (v := v3) rfl (yl_load sc23 rfl (At.drop (Box.at hB203) 2)) ?_
        refine T0_q (v := (.int .i64 x198)) rfl (yl_move rfl) ?_
        have hq := bind_elim h
        clear h
        obtain ⟨el226, hel227, h⟩ := hq
        have hq := SlRd.at h201 hel227
        obtain ⟨cs228, hat229, hrd230⟩ := hq
        have hrd230 : cs228 = [(.int .i64 el226)] := hrd230
        subst hrd230
        refine T0_q (v := (.pointer (some (elemAddr v3 (x198 : Int).toNat 1)))) rfl (yl_indexAddr Try.underlying23 sz3 h201 hel227 rfl rfl) ?_
        refine T0_q (v := (.int .i64 el226)) rfl (yl_load sc3 rfl hat229) ?_
        have hq := bind_elim h
        clear h
        obtain ⟨r232, hr233, h⟩ := hq
        refine T0_e rfl (eff_call Try.func71 nm71 rfl (ev2 rfl rfl) (levitate_small_ok [] _ (LtL.nil _) el219 el226 r232 hr233) ?_)
        rintro _ wd234 ⟨he235, rfl⟩
        have e236 := e193.trans he235
        refine T0_q (v := (.bool (!r232))) rfl (yl_not rfl) ?_
        refine T0_nil ?_
        refine hK225 _ _ ?_
        refine WC_cond (b := (!r232)) rfl (fun hb237 => ?_) (fun hb237 => ?_)
        · clear hK211 hK215 hK217 hK218 hK225
          replace h := cond_t hb237 h
          refine WC_seqK fun K238 hK238 => ?_
          refine WC_region ?_
          refine T0_q (v := (.int .i64 2)) rfl (yl_assign rfl) ?_
          refine T0_nil ?_
          refine hK238 _ _ ?_
          refine WC_ret ?_
          replace h := some_out h
          subst h
          have ho := hx210 _ rfl
          subst ho
          replace h := jn0_inl hn208
          replace h := some_out h
          subst h
          exact ⟨[(.int .i64 2)], ⟨rfl, trivial⟩, e236, rfl⟩
        · clear hK215 hK218 hK225
          replace h := cond_f hb237 h
          refine WC_skip ?_
          refine hK217 _ _ ?_
          refine WC_region ?_
          refine T0_q (v := (.int .i64 (w64 (x198 + 1)))) rfl (yl_add hs199 rfl) ?_
          refine T0_q (v := (.int .i64 (w64 (x198 + 1)))) rfl (yl_move rfl) ?_
          refine T0_nil ?_
          replace h := some_out h
          subst h
          refine hK211 _ _ _ rfl ?_
          exact ⟨w64 (x198 + 1), rfl, hs194, hs196, hs197, rfl, (h195.ext he235), (h200.ext he235), (h201.ext he235), (hB203.ext he235), e236⟩
      · clear hK211 hK214 hK215
        replace h := cond_f hb216 h
        refine WC_exit ?_
        replace h := some_out h
        subst h
        have ho := hx210 _ rfl
        subst ho
        refine hK212 _ _ ?_
        exact ⟨rfl, e193⟩
    · clear hK76 hK81
      rintro ρ wd204 ⟨rfl, e205⟩
      replace h := jn0_inr hn208
      refine hK80 _ _ ?_
      refine WC_seqK fun K239 hK239 => ?_
      refine WC_region ?_
      refine T0_q (v := (.int .i64 0)) rfl (yl_assign rfl) ?_
      refine T0_nil ?_
      refine hK239 _ _ ?_
      refine WC_ret ?_
      replace h := some_out h
      subst h
      exact ⟨[(.int .i64 0)], ⟨rfl, trivial⟩, e205, rfl⟩

noncomputable def ref02_CopyPlant_s0 (p_p : LevitatePlant) : (Int × (List (List (List Int)))) → Option ((Int × (List (List (List Int)))) ⊕ ((List (List (List Int))))) := fun (x351, x357) =>
  (bif (decide (x351 < (p_p.Maps.length : Int))) then (
    (Option.bind (idx p_p.Maps x351) fun el409 =>
    (Option.bind (base_CopyLists_spec el409) fun r418 =>
    (Option.bind (app x357 ([r418] : List (List (List Int)))) fun zs434 =>
    some (.inl (w64 (x351 + 1), zs434))
    )
    )
    )
  ) else (
    some (.inr x357)
  ))
noncomputable def ref02_CopyPlant_s1 (p_p : LevitatePlant) : (Int × (List (List (List Int)))) → Option ((Int × (List (List (List Int)))) ⊕ ((List (List (List Int))))) := fun (x796, x802) =>
  (bif (decide (x796 < (p_p.Maps.length : Int))) then (
    (Option.bind (idx p_p.Maps x796) fun el854 =>
    (Option.bind (base_CopyLists_spec el854) fun r863 =>
    (Option.bind (app x802 ([r863] : List (List (List Int)))) fun zs879 =>
    some (.inl (w64 (x796 + 1), zs879))
    )
    )
    )
  ) else (
    some (.inr x802)
  ))
noncomputable def ref02_CopyPlant_spec (p_p : LevitatePlant) : Option LevitatePlant :=
  (Option.bind (base_CopyInts_spec p_p.Noise) fun r32 =>
  (Option.bind (loop (ref02_CopyPlant_s0 p_p) (0, ([] : List (List (List Int))))) fun (x385 : (List (List (List Int)))) =>
  some (LevitatePlant.mk p_p.Den x385 r32)
  )
  )
theorem ref02_CopyPlant_ok (L : List Value) (w : World) (hL : LtL L w) (cs_p_p : List Value) (p_p : LevitatePlant) (h_p_p : Rep.rd L w cs_p_p p_p) (r : LevitatePlant) (h : ref02_CopyPlant_spec p_p = some r) :
    CallsTo Try.prog 10 [(.agg cs_p_p.toArray)] w (fun v w' => Ext w w' ∧ ∃ (cs0 : List Value), (.agg cs0.toArray) = v ∧ Rep.rd L w' cs0 r) := by
  have e0 : Ext w w := Chg.refl _ _
  obtain ⟨v1, v3, h2, h4, rfl⟩ := h_p_p
  refine callsTo_of_WC (n := 30) (rs := [.cell 2 25]) Try.func10 rfl rfl rfl rfl rfl ?_
  refine WC_seqK fun K7 hK7 => ?_
  refine WC_region ?_
  refine T0_e rfl (eff_boxC (cs := [(.int .i64 p_p.Den), v1, v3]) rfl rfl ?_)
  intro b8 wd9 hb10 he11 hB12
  have e14 := e0.trans he11
  refine T0_e rfl (eff_allocZ zi25 ?_)
  intro b16 wd17 hb18 he19 hB20
  have hbf22 := bfresh e14 hb18
  have h23 := (h2.ext he11).step (add_box he19 hb18)
  have h24 := (h4.ext he11).step (add_box he19 hb18)
  have e25 := e14.trans he19
  refine T0_nil ?_
  refine hK7 _ _ ?_
  refine WC_seqK fun K27 hK27 => ?_
  refine WC_planX mixed (.p 0 (.p 2 (.q 1 (.q 3 (.f 4 (.p 5 (.e 6 (.b 7 .done))) 6 (.e 4 (.p 5 (.b 7 .done)))))))) (by kernel_rfl) ?_
  intro wd28 he29
  have e30 := he19.trans he29
  have e31 := e25.trans he29
  refine TX_p (v := (.pointer (some ⟨b8, 0, none⟩))) rfl rfl (fun w' => (yl_fa 0 Try.underlying25 rfl rfl ⟨0, sz3⟩ rfl rfl)) ?_
  refine TX_p (v := (.pointer (some ⟨b8, 2, none⟩))) rfl rfl (fun w' => (yl_fa 2 Try.underlying25 rfl rfl ⟨0, sz23⟩ rfl rfl)) ?_
  refine TX_q (v := (.int .i64 p_p.Den)) rfl rfl (fun w' hS => (yl_load sc3 rfl (Box.at (hB12.ext (e30.trans hS))))) ?_
  refine TX_q (v := v3) rfl rfl (fun w' hS => (yl_load sc23 rfl (At.drop (Box.at (hB12.ext (e30.trans hS))) 2))) ?_
  refine TX_f rfl rfl rfl rfl ?_ ?_
  · clear hK7
    skip
    have hq := bind_elim h
    clear h
    obtain ⟨r32, hr33, h⟩ := hq
    refine  (eff_call Try.func23 nm23 rfl (ev1 rfl) (base_CopyInts_ok ((.pointer (some ⟨b16, 0, none⟩)) :: L) _ (ltl_box (hL.chg e31) (hB20.ext he29)) v3 p_p.Noise (h24.ext he29) r32 hr33) ?_)
    rintro _ wd34 ⟨he35, v36, rfl, h37⟩
    have e38 := he29.trans he35
    have e39 := e30.trans he35
    have e40 := e31.trans he35
    refine ⟨he35, ?_⟩
    refine TX_p (v := (.agg (List.toArray [(.int .i64 p_p.Den), (.slice none 0 0), v36]))) rfl rfl (fun w' => (yl_buildC (cells := [(.int .i64 p_p.Den), (.slice none 0 0), v36]) bi25 (pc_cons rfl rfl (pc_cons rfl (cells_one h37.one1) pc_nil)) rfl)) ?_
    refine TX_e rfl rfl (eff_allocZ zi25 ?_)
    intro b42 wd43 hb44 he45 hB46
    have hn47 : b42 ≠ b8 := box_ne (hB12.ext e39) hb44
    have hn48 : b42 ≠ b16 := box_ne (hB20.ext e38) hb44
    have hbf49 := bfresh e40 hb44
    have h50 := (h23.ext e38).step (add_box he45 hb44)
    have h51 := (h24.ext e38).step (add_box he45 hb44)
    have h52 := h37.step (add_box he45 hb44)
    have e53 := e38.trans he45
    have e54 := e39.trans he45
    have e55 := e40.trans he45
    refine ⟨he45, ?_⟩
    refine TX_b rfl rfl (eff_storeC (vs := [(.int .i64 p_p.Den), (.slice none 0 0), v36]) (cs' := [(.int .i64 p_p.Den), (.slice none 0 0), v36]) sz25 rfl rfl rfl rfl hB46 rfl (oc_cons rfl (oc_cons rfl (oc_cons h52.one1 oc_nil))) rfl ?_)
    intro wd57 hc58 hB59
    have h60 := h50.step (Stepp.chg_mem hc58 mem0)
    have h61 := h51.step (Stepp.chg_mem hc58 mem0)
    have h62 := (hB12.ext e54).chg hc58 (avoidb hn47)
    have h63 := (hB20.ext e53).chg hc58 (avoidb hn48)
    have h64 := h52.step (Stepp.chg_mem hc58 mem0)
    have e65 := chg_box e55 hc58 hbf49
    refine TX_done ?_
    refine hK27 _ _ ?_
    refine WC_seqK fun K66 hK66 => ?_
    refine WC_seqK fun K67 hK67 => ?_
    refine WC_region ?_
    refine T0_q (v := (.int .i64 0)) rfl (yl_assign rfl) ?_
    refine T0_nil ?_
    refine hK67 _ _ ?_
    have h371 := h60.step (add_nil _)
    have h372 := h61.step (add_nil _)
    have h373 := h64.step (add_nil _)
    have h375 : Own 47 ((.slice none 0 0) :: (.pointer (some ⟨b42, 0, none⟩)) :: (.pointer (some ⟨b16, 0, none⟩)) :: L) wd57 (.slice none 0 0) ([] : List (List (List Int))) := Own.nil _ _ _
    have hq := bind_elim h
    clear h
    obtain ⟨o394, hl395, hn396⟩ := hq
    refine WC_post (fun (ρ : Env) (wd377 : World) => ∃ (x385 : (List (List (List Int)))) (v384 : Value), x385 = o394 ∧ ρ 2 = (.pointer (some ⟨b16, 0, none⟩)) ∧ ρ 3 = (.pointer (some ⟨b42, 0, none⟩)) ∧ SlRd (v384 :: (.pointer (some ⟨b42, 0, none⟩)) :: (.pointer (some ⟨b16, 0, none⟩)) :: L) wd377 v36 r32 ∧ Box wd377 b16 [(.int .i64 0), (.slice none 0 0), (.slice none 0 0)] 25 ∧ Box wd377 b42 [(.int .i64 p_p.Den), v384, v36] 25 ∧ Own 47 (v384 :: (.pointer (some ⟨b42, 0, none⟩)) :: (.pointer (some ⟨b16, 0, none⟩)) :: L) wd377 v384 x385 ∧ (∀ b, blk v384 = some b → w.heap.size ≤ b) ∧ (blk v384 ≠ some b16) ∧ (blk v384 ≠ some b42) ∧ Ext w wd377) ?_ ?_
    · clear hK27 hK66 hK67
      intro K400 hK400
      refine WC_block ?_
      refine WC_loopk (fun sv ρ wd346 => ∃ (x351 : Int) (x357 : (List (List (List Int)))) (v356 : Value), (x351, x357) = sv ∧ ρ 1 = (.pointer (some ⟨b8, 0, none⟩)) ∧ ρ 2 = (.pointer (some ⟨b16, 0, none⟩)) ∧ ρ 3 = (.pointer (some ⟨b42, 0, none⟩)) ∧ ρ 4 = (.int .i64 x351) ∧ SlRd (v356 :: (.pointer (some ⟨b42, 0, none⟩)) :: (.pointer (some ⟨b16, 0, none⟩)) :: L) wd346 v36 r32 ∧ SlRd (v356 :: (.pointer (some ⟨b42, 0, none⟩)) :: (.pointer (some ⟨b16, 0, none⟩)) :: L) wd346 v1 p_p.Maps ∧ SlRd (v356 :: (.pointer (some ⟨b42, 0, none⟩)) :: (.pointer (some ⟨b16, 0, none⟩)) :: L) wd346 v3 p_p.Noise ∧ Box wd346 b16 [(.int .i64 0), (.slice none 0 0), (.slice none 0 0)] 25 ∧ Box wd346 b42 [(.int .i64 p_p.Den), v356, v36] 25 ∧ Box wd346 b8 [(.int .i64 p_p.Den), v1, v3] 25 ∧ Own 47 (v356 :: (.pointer (some ⟨b42, 0, none⟩)) :: (.pointer (some ⟨b16, 0, none⟩)) :: L) wd346 v356 x357 ∧ (∀ b, blk v356 = some b → w.heap.size ≤ b) ∧ (blk v356 ≠ some b16) ∧ (blk v356 ≠ some b42) ∧ (blk v356 ≠ some b8) ∧ Ext w wd346) hl395 ⟨0, ([] : List (List (List Int))), (.slice none 0 0), rfl, rfl, rfl, rfl, rfl, h373, h371, h372, h63, hB59, h62, h375, (fun b h => blk_nil b h), (fun h => by cases h), (fun h => by cases h), (fun h => by cases h), e65⟩ ?_
      rintro _ ρ wd346 ⟨x351, x357, v356, rfl, hs348, hs349, hs350, hs352, h361, h364, h365, hB354, hB363, hB367, h359, hf360, hn368, hn369, hn370, e347⟩ x397 h hx398 K399 hK399
      refine WC_seqK fun K402 hK402 => ?_
      refine WC_seqK fun K403 hK403 => ?_
      refine WC_region ?_
      refine T0_q (v := (.int .i64 x351)) rfl (yl_move hs352) ?_
      refine T0_q (v := (.pointer (some ⟨b8, 1, none⟩))) rfl (yl_fa 1 Try.underlying25 rfl rfl ⟨0, sz22⟩ hs348 rfl) ?_
      refine T0_q (v := v1) rfl (yl_load sc22 rfl (At.drop (Box.at hB367) 1)) ?_
      refine T0_q (v := (.int .i64 (p_p.Maps.length : Int))) rfl (yl_lenR rfl Try.underlying22 h364 rfl) ?_
      refine T0_q (v := (.bool (decide (x351 < (p_p.Maps.length : Int))))) rfl (yl_lss rfl rfl) ?_
      refine T0_nil ?_
      refine hK403 _ _ ?_
      refine WC_cond (b := (decide (x351 < (p_p.Maps.length : Int)))) rfl (fun hb404 => ?_) (fun hb404 => ?_)
      · clear hK400 hK403
        replace h := cond_t hb404 h
        refine WC_skip ?_
        refine hK402 _ _ ?_
        refine WC_seqK fun K405 hK405 => ?_
        refine WC_block ?_
        refine WC_planX mixed (.p 0 (.p 2 (.p 4 (.q 1 (.q 3 (.p 5 (.q 6 (.e 7 (.e 8 (.b 9 (.p 10 (.b 11 .done)))))))))))) (by kernel_rfl) ?_
        intro wd406 he407
        have e408 := e347.trans he407
        refine TX_p (v := (.pointer (some ⟨b42, 1, none⟩))) rfl rfl (fun w' => (yl_fa 1 Try.underlying25 rfl rfl ⟨0, sz22⟩ hs350 rfl)) ?_
        refine TX_p (v := (.pointer (some ⟨b8, 1, none⟩))) rfl rfl (fun w' => (yl_fa 1 Try.underlying25 rfl rfl ⟨0, sz22⟩ hs348 rfl)) ?_
        refine TX_p (v := (.int .i64 x351)) rfl rfl (fun w' => (yl_move hs352)) ?_
        refine TX_q (v := v356) rfl rfl (fun w' hS => (yl_load sc22 rfl (At.drop (Box.at (hB363.ext (he407.trans hS))) 1))) ?_
        refine TX_q (v := v1) rfl rfl (fun w' hS => (yl_load sc22 rfl (At.drop (Box.at (hB367.ext (he407.trans hS))) 1))) ?_
        have hq := bind_elim h
        clear h
        obtain ⟨el409, hel410, h⟩ := hq
        have hq := SlRd.at h364 hel410
        obtain ⟨cs413, hat414, hrd415⟩ := hq
        obtain ⟨v411, rfl, h412⟩ := hrd415
        refine TX_p (v := (.pointer (some (elemAddr v1 (x351 : Int).toNat 1)))) rfl rfl (fun w' => (yl_indexAddr Try.underlying22 sz47 h364 hel410 rfl rfl)) ?_
        refine TX_q (v := v411) rfl rfl (fun w' hS => (yl_load sc47 rfl (hat414.ext' (he407.trans hS)))) ?_
        have hq := bind_elim h
        clear h
        obtain ⟨r418, hr419, h⟩ := hq
        refine TX_e rfl rfl (eff_call Try.func26 nm26 rfl (ev1 rfl) (base_CopyLists_ok (v356 :: (.pointer (some ⟨b42, 0, none⟩)) :: (.pointer (some ⟨b16, 0, none⟩)) :: L) _ (ltl_own (ltl_box (ltl_box (hL.chg e408) (hB354.ext he407)) (hB363.ext he407)) (h359.ext he407)) v411 el409 (h412.ext he407) r418 hr419) ?_)
        rintro _ wd420 ⟨he421, v422, rfl, h423⟩
        have e424 := he407.trans he421
        have e425 := e408.trans he421
        refine ⟨he421, ?_⟩
        refine TX_e rfl rfl (eff_buildTC (xs := ([r418] : List (List (List Int)))) (cells := [v422]) Try.underlying22 ei47 rfl (pc_cons rfl (cells_one h423.one1) pc_nil) rfl (Elems.cons (cs := [v422]) ⟨_, rfl, h423⟩ Elems.nil) rfl (ltl_own (ltl_box (ltl_box (hL.chg e425) (hB354.ext e424)) (hB363.ext e424)) (h359.ext e424)) ?_)
        intro b430 wd427 he428 h429
        have e431 := e424.trans he428
        have e432 := e425.trans he428
        refine ⟨he428, ?_⟩
        have hq := bind_elim h
        clear h
        obtain ⟨zs434, hz435, h⟩ := hq
        refine TX_b rfl rfl (eff_app Try.underlying22 ei47 rfl rfl rfl rfl (h359.ext e431) h429 hz435 ?_)
        intro v436 wd437 hc438 hbl439 h440
        have hn442 : blk v436 ≠ some b16 := ne_swap hbl439 hn368 (hB354.ext e431)
        have hn443 : blk v436 ≠ some b42 := ne_swap hbl439 hn369 (hB363.ext e431)
        have hn444 : blk v436 ≠ some b8 := ne_swap hbl439 hn370 (hB367.ext e431)
        have hf445 := fresh_swap hbl439 hf360 e432.size
        have h446 := (hB354.ext e431).chg hc438 (avoid1 hn368)
        have h447 := (h361.ext e431).step (Stepp.swap hc438 hbl439)
        have h448 := (hB363.ext e431).chg hc438 (avoid1 hn369)
        have h449 := (h364.ext e431).step (Stepp.swap hc438 hbl439)
        have h450 := (h365.ext e431).step (Stepp.swap hc438 hbl439)
        have h451 := (hB367.ext e431).chg hc438 (avoid1 hn370)
        have e455 := chg_own e432 hc438 hf360
        refine TX_p (v := (.pointer (some ⟨b42, 1, none⟩))) rfl rfl (fun w' => (yl_fa 1 Try.underlying25 rfl rfl ⟨0, sz22⟩ hs350 rfl)) ?_
        refine TX_b rfl rfl (eff_storeC (vs := [v436]) (cs' := [(.int .i64 p_p.Den), v436, v36]) sz22 (cells_one h440.one1) rfl rfl rfl h448 rfl (oc_cons h440.one1 oc_nil) rfl ?_)
        intro wd457 hc458 hB459
        have h460 := h446.chg hc458 (avoidb hn48)
        have h461 := h447.step (Stepp.chg_mem hc458 (memS mem0))
        have h462 := h449.step (Stepp.chg_mem hc458 (memS mem0))
        have h463 := h450.step (Stepp.chg_mem hc458 (memS mem0))
        have h464 := h451.chg hc458 (avoidb hn47)
        have h468 := h440.step (Stepp.chg_mem hc458 (memS mem0)) hc458 (av_box hn443)
        have e469 := chg_box e455 hc458 hbf49
        refine TX_done ?_
        refine hK405 _ _ ?_
        refine WC_region ?_
        refine T0_q (v := (.int .i64 x351)) rfl (yl_move hs352) ?_
        refine T0_q (v := (.int .i64 (w64 (x351 + 1)))) rfl (yl_add rfl rfl) ?_
        refine T0_q (v := (.int .i64 (w64 (x351 + 1)))) rfl (yl_assign rfl) ?_
        refine T0_nil ?_
        replace h := some_out h
        subst h
        refine hK399 _ _ _ rfl ?_
        exact ⟨w64 (x351 + 1), zs434, v436, rfl, hs348, hs349, hs350, rfl, h461, h462, h463, h460, hB459, h464, h468, hf445, hn442, hn443, hn444, e469⟩
      · clear hK399 hK402 hK403
        replace h := cond_f hb404 h
        refine WC_exit ?_
        replace h := some_out h
        subst h
        have ho := hx398 _ rfl
        subst ho
        refine hK400 _ _ ?_
        exact ⟨x357, v356, rfl, hs349, hs350, h361, hB354, hB363, h359, hf360, hn368, hn369, e347⟩
    · clear hK27 hK67
      rintro ρ wd377 ⟨x385, v384, rfl, hs379, hs380, h389, hB382, hB391, h387, hf388, hn392, hn393, e378⟩
      replace h := hn396
      refine hK66 _ _ ?_
      refine WC_seqK fun K470 hK470 => ?_
      refine WC_region ?_
      refine T0_q (v := (.agg (List.toArray [(.int .i64 p_p.Den), v384, v36]))) rfl (yl_loadA (cs := [(.int .i64 p_p.Den), v384, v36]) ag25 hs380 (Box.at hB391)) ?_
      refine T0_e rfl (eff_storeC (vs := [(.int .i64 p_p.Den), v384, v36]) (cs' := [(.int .i64 p_p.Den), v384, v36]) sz25 rfl rfl hs379 rfl hB382 rfl (oc_cons rfl (oc_cons h387.one1 (oc_cons h389.one1 oc_nil))) rfl ?_)
      intro wd471 hc472 hB473
      have h474 := h387.step (Stepp.chg_mem hc472 (memS (memS mem0))) hc472 (av_box hn392)
      have h475 := h389.step (Stepp.chg_mem hc472 (memS (memS mem0)))
      have e477 := chg_box e378 hc472 hbf22
      refine T0_nil ?_
      refine hK470 _ _ ?_
      refine WC_ret ?_
      replace h := some_out h
      subst h
      exact ⟨[(.agg (List.toArray [(.int .i64 p_p.Den), v384, v36]))], ⟨⟨_, hs379, run_loadVarA (cs := [(.int .i64 p_p.Den), v384, v36]) ag25 (Box.at hB473)⟩, trivial⟩, e477, [(.int .i64 p_p.Den), v384, v36], rfl, ⟨v384, v36, (h474.rdL (sub_skip (sub_skip (sub_skip (sub_refl _)))) hL hf388), (h475.sub (sub_skip (sub_skip (sub_skip (sub_refl _))))), rfl⟩⟩
  · clear hK7
    skip
    refine  (eff_allocZ zi25 ?_)
    intro b478 wd479 hb480 he481 hB482
    have hn483 : b478 ≠ b8 := box_ne (hB12.ext e30) hb480
    have hn484 : b478 ≠ b16 := box_ne (hB20.ext he29) hb480
    have hbf485 := bfresh e31 hb480
    have h486 := (h23.ext he29).step (add_box he481 hb480)
    have h487 := (h24.ext he29).step (add_box he481 hb480)
    have e488 := he29.trans he481
    have e489 := e30.trans he481
    have e490 := e31.trans he481
    refine ⟨he481, ?_⟩
    have hq := bind_elim h
    clear h
    obtain ⟨r492, hr493, h⟩ := hq
    refine TX_e rfl rfl (eff_call Try.func23 nm23 rfl (ev1 rfl) (base_CopyInts_ok ((.pointer (some ⟨b478, 0, none⟩)) :: (.pointer (some ⟨b16, 0, none⟩)) :: L) _ (ltl_box (ltl_box (hL.chg e490) (hB20.ext e488)) hB482) v3 p_p.Noise h487 r492 hr493) ?_)
    rintro _ wd494 ⟨he495, v496, rfl, h497⟩
    have e498 := e488.trans he495
    have e499 := e489.trans he495
    have e500 := e490.trans he495
    refine ⟨he495, ?_⟩
    refine TX_p (v := (.agg (List.toArray [(.int .i64 p_p.Den), (.slice none 0 0), v496]))) rfl rfl (fun w' => (yl_buildC (cells := [(.int .i64 p_p.Den), (.slice none 0 0), v496]) bi25 (pc_cons rfl rfl (pc_cons rfl (cells_one h497.one1) pc_nil)) rfl)) ?_
    refine TX_b rfl rfl (eff_storeC (vs := [(.int .i64 p_p.Den), (.slice none 0 0), v496]) (cs' := [(.int .i64 p_p.Den), (.slice none 0 0), v496]) sz25 rfl rfl rfl rfl (hB482.ext he495) rfl (oc_cons rfl (oc_cons rfl (oc_cons h497.one1 oc_nil))) rfl ?_)
    intro wd502 hc503 hB504
    have h505 := (h486.ext he495).step (Stepp.chg_mem hc503 mem0)
    have h506 := (h487.ext he495).step (Stepp.chg_mem hc503 mem0)
    have h507 := (hB12.ext e499).chg hc503 (avoidb hn483)
    have h508 := (hB20.ext e498).chg hc503 (avoidb hn484)
    have h509 := h497.step (Stepp.chg_mem hc503 mem0)
    have e510 := chg_box e500 hc503 hbf485
    refine TX_done ?_
    refine hK27 _ _ ?_
    refine WC_seqK fun K511 hK511 => ?_
    refine WC_seqK fun K512 hK512 => ?_
    refine WC_region ?_
    refine T0_q (v := (.int .i64 0)) rfl (yl_assign rfl) ?_
    refine T0_nil ?_
    refine hK512 _ _ ?_
    have h816 := h505.step (add_nil _)
    have h817 := h506.step (add_nil _)
    have h818 := h509.step (add_nil _)
    have h820 : Own 47 ((.slice none 0 0) :: (.pointer (some ⟨b478, 0, none⟩)) :: (.pointer (some ⟨b16, 0, none⟩)) :: L) wd502 (.slice none 0 0) ([] : List (List (List Int))) := Own.nil _ _ _
    have hq := bind_elim h
    clear h
    obtain ⟨o839, hl840, hn841⟩ := hq
    refine WC_post (fun (ρ : Env) (wd822 : World) => ∃ (x830 : (List (List (List Int)))) (v829 : Value), x830 = o839 ∧ ρ 2 = (.pointer (some ⟨b16, 0, none⟩)) ∧ ρ 3 = (.pointer (some ⟨b478, 0, none⟩)) ∧ SlRd (v829 :: (.pointer (some ⟨b478, 0, none⟩)) :: (.pointer (some ⟨b16, 0, none⟩)) :: L) wd822 v496 r492 ∧ Box wd822 b16 [(.int .i64 0), (.slice none 0 0), (.slice none 0 0)] 25 ∧ Box wd822 b478 [(.int .i64 p_p.Den), v829, v496] 25 ∧ Own 47 (v829 :: (.pointer (some ⟨b478, 0, none⟩)) :: (.pointer (some ⟨b16, 0, none⟩)) :: L) wd822 v829 x830 ∧ (∀ b, blk v829 = some b → w.heap.size ≤ b) ∧ (blk v829 ≠ some b16) ∧ (blk v829 ≠ some b478) ∧ Ext w wd822) ?_ ?_
    · clear hK27 hK511 hK512
      intro K845 hK845
      refine WC_block ?_
      refine WC_loopk (fun sv ρ wd791 => ∃ (x796 : Int) (x802 : (List (List (List Int)))) (v801 : Value), (x796, x802) = sv ∧ ρ 1 = (.pointer (some ⟨b8, 0, none⟩)) ∧ ρ 2 = (.pointer (some ⟨b16, 0, none⟩)) ∧ ρ 3 = (.pointer (some ⟨b478, 0, none⟩)) ∧ ρ 4 = (.int .i64 x796) ∧ SlRd (v801 :: (.pointer (some ⟨b478, 0, none⟩)) :: (.pointer (some ⟨b16, 0, none⟩)) :: L) wd791 v496 r492 ∧ SlRd (v801 :: (.pointer (some ⟨b478, 0, none⟩)) :: (.pointer (some ⟨b16, 0, none⟩)) :: L) wd791 v1 p_p.Maps ∧ SlRd (v801 :: (.pointer (some ⟨b478, 0, none⟩)) :: (.pointer (some ⟨b16, 0, none⟩)) :: L) wd791 v3 p_p.Noise ∧ Box wd791 b16 [(.int .i64 0), (.slice none 0 0), (.slice none 0 0)] 25 ∧ Box wd791 b478 [(.int .i64 p_p.Den), v801, v496] 25 ∧ Box wd791 b8 [(.int .i64 p_p.Den), v1, v3] 25 ∧ Own 47 (v801 :: (.pointer (some ⟨b478, 0, none⟩)) :: (.pointer (some ⟨b16, 0, none⟩)) :: L) wd791 v801 x802 ∧ (∀ b, blk v801 = some b → w.heap.size ≤ b) ∧ (blk v801 ≠ some b16) ∧ (blk v801 ≠ some b478) ∧ (blk v801 ≠ some b8) ∧ Ext w wd791) hl840 ⟨0, ([] : List (List (List Int))), (.slice none 0 0), rfl, rfl, rfl, rfl, rfl, h818, h816, h817, h508, hB504, h507, h820, (fun b h => blk_nil b h), (fun h => by cases h), (fun h => by cases h), (fun h => by cases h), e510⟩ ?_
      rintro _ ρ wd791 ⟨x796, x802, v801, rfl, hs793, hs794, hs795, hs797, h806, h809, h810, hB799, hB808, hB812, h804, hf805, hn813, hn814, hn815, e792⟩ x842 h hx843 K844 hK844
      refine WC_seqK fun K847 hK847 => ?_
      refine WC_seqK fun K848 hK848 => ?_
      refine WC_region ?_
      refine T0_q (v := (.int .i64 x796)) rfl (yl_move hs797) ?_
      refine T0_q (v := (.pointer (some ⟨b8, 1, none⟩))) rfl (yl_fa 1 Try.underlying25 rfl rfl ⟨0, sz22⟩ hs793 rfl) ?_
      refine T0_q (v := v1) rfl (yl_load sc22 rfl (At.drop (Box.at hB812) 1)) ?_
      refine T0_q (v := (.int .i64 (p_p.Maps.length : Int))) rfl (yl_lenR rfl Try.underlying22 h809 rfl) ?_
      refine T0_q (v := (.bool (decide (x796 < (p_p.Maps.length : Int))))) rfl (yl_lss rfl rfl) ?_
      refine T0_nil ?_
      refine hK848 _ _ ?_
      refine WC_cond (b := (decide (x796 < (p_p.Maps.length : Int)))) rfl (fun hb849 => ?_) (fun hb849 => ?_)
      · clear hK845 hK848
        replace h := cond_t hb849 h
        refine WC_skip ?_
        refine hK847 _ _ ?_
        refine WC_seqK fun K850 hK850 => ?_
        refine WC_block ?_
        refine WC_planX mixed (.p 0 (.p 2 (.p 4 (.q 1 (.q 3 (.p 5 (.q 6 (.e 7 (.e 8 (.b 9 (.p 10 (.b 11 .done)))))))))))) (by kernel_rfl) ?_
        intro wd851 he852
        have e853 := e792.trans he852
        refine TX_p (v := (.pointer (some ⟨b478, 1, none⟩))) rfl rfl (fun w' => (yl_fa 1 Try.underlying25 rfl rfl ⟨0, sz22⟩ hs795 rfl)) ?_
        refine TX_p (v := (.pointer (some ⟨b8, 1, none⟩))) rfl rfl (fun w' => (yl_fa 1 Try.underlying25 rfl rfl ⟨0, sz22⟩ hs793 rfl)) ?_
        refine TX_p (v := (.int .i64 x796)) rfl rfl (fun w' => (yl_move hs797)) ?_
        refine TX_q (v := v801) rfl rfl (fun w' hS => (yl_load sc22 rfl (At.drop (Box.at (hB808.ext (he852.trans hS))) 1))) ?_
        refine TX_q (v := v1) rfl rfl (fun w' hS => (yl_load sc22 rfl (At.drop (Box.at (hB812.ext (he852.trans hS))) 1))) ?_
        have hq := bind_elim h
        clear h
        obtain ⟨el854, hel855, h⟩ := hq
        have hq := SlRd.at h809 hel855
        obtain ⟨cs858, hat859, hrd860⟩ := hq
        obtain ⟨v856, rfl, h857⟩ := hrd860
        refine TX_p (v := (.pointer (some (elemAddr v1 (x796 : Int).toNat 1)))) rfl rfl (fun w' => (yl_indexAddr Try.underlying22 sz47 h809 hel855 rfl rfl)) ?_
        refine TX_q (v := v856) rfl rfl (fun w' hS => (yl_load sc47 rfl (hat859.ext' (he852.trans hS)))) ?_
        have hq := bind_elim h
        clear h
        obtain ⟨r863, hr864, h⟩ := hq
        refine TX_e rfl rfl (eff_call Try.func26 nm26 rfl (ev1 rfl) (base_CopyLists_ok (v801 :: (.pointer (some ⟨b478, 0, none⟩)) :: (.pointer (some ⟨b16, 0, none⟩)) :: L) _ (ltl_own (ltl_box (ltl_box (hL.chg e853) (hB799.ext he852)) (hB808.ext he852)) (h804.ext he852)) v856 el854 (h857.ext he852) r863 hr864) ?_)
        rintro _ wd865 ⟨he866, v867, rfl, h868⟩
        have e869 := he852.trans he866
        have e870 := e853.trans he866
        refine ⟨he866, ?_⟩
        refine TX_e rfl rfl (eff_buildTC (xs := ([r863] : List (List (List Int)))) (cells := [v867]) Try.underlying22 ei47 rfl (pc_cons rfl (cells_one h868.one1) pc_nil) rfl (Elems.cons (cs := [v867]) ⟨_, rfl, h868⟩ Elems.nil) rfl (ltl_own (ltl_box (ltl_box (hL.chg e870) (hB799.ext e869)) (hB808.ext e869)) (h804.ext e869)) ?_)
        intro b875 wd872 he873 h874
        have e876 := e869.trans he873
        have e877 := e870.trans he873
        refine ⟨he873, ?_⟩
        have hq := bind_elim h
        clear h
        obtain ⟨zs879, hz880, h⟩ := hq
        refine TX_b rfl rfl (eff_app Try.underlying22 ei47 rfl rfl rfl rfl (h804.ext e876) h874 hz880 ?_)
        intro v881 wd882 hc883 hbl884 h885
        have hn887 : blk v881 ≠ some b16 := ne_swap hbl884 hn813 (hB799.ext e876)
        have hn888 : blk v881 ≠ some b478 := ne_swap hbl884 hn814 (hB808.ext e876)
        have hn889 : blk v881 ≠ some b8 := ne_swap hbl884 hn815 (hB812.ext e876)
        have hf890 := fresh_swap hbl884 hf805 e877.size
        have h891 := (hB799.ext e876).chg hc883 (avoid1 hn813)
        have h892 := (h806.ext e876).step (Stepp.swap hc883 hbl884)
        have h893 := (hB808.ext e876).chg hc883 (avoid1 hn814)
        have h894 := (h809.ext e876).step (Stepp.swap hc883 hbl884)
        have h895 := (h810.ext e876).step (Stepp.swap hc883 hbl884)
        have h896 := (hB812.ext e876).chg hc883 (avoid1 hn815)
        have e900 := chg_own e877 hc883 hf805
        refine TX_p (v := (.pointer (some ⟨b478, 1, none⟩))) rfl rfl (fun w' => (yl_fa 1 Try.underlying25 rfl rfl ⟨0, sz22⟩ hs795 rfl)) ?_
        refine TX_b rfl rfl (eff_storeC (vs := [v881]) (cs' := [(.int .i64 p_p.Den), v881, v496]) sz22 (cells_one h885.one1) rfl rfl rfl h893 rfl (oc_cons h885.one1 oc_nil) rfl ?_)
        intro wd902 hc903 hB904
        have h905 := h891.chg hc903 (avoidb hn484)
        have h906 := h892.step (Stepp.chg_mem hc903 (memS mem0))
        have h907 := h894.step (Stepp.chg_mem hc903 (memS mem0))
        have h908 := h895.step (Stepp.chg_mem hc903 (memS mem0))
        have h909 := h896.chg hc903 (avoidb hn483)
        have h913 := h885.step (Stepp.chg_mem hc903 (memS mem0)) hc903 (av_box hn888)
        have e914 := chg_box e900 hc903 hbf485
        refine TX_done ?_
        refine hK850 _ _ ?_
        refine WC_region ?_
        refine T0_q (v := (.int .i64 x796)) rfl (yl_move hs797) ?_
        refine T0_q (v := (.int .i64 (w64 (x796 + 1)))) rfl (yl_add rfl rfl) ?_
        refine T0_q (v := (.int .i64 (w64 (x796 + 1)))) rfl (yl_assign rfl) ?_
        refine T0_nil ?_
        replace h := some_out h
        subst h
        refine hK844 _ _ _ rfl ?_
        exact ⟨w64 (x796 + 1), zs879, v881, rfl, hs793, hs794, hs795, rfl, h906, h907, h908, h905, hB904, h909, h913, hf890, hn887, hn888, hn889, e914⟩
      · clear hK844 hK847 hK848
        replace h := cond_f hb849 h
        refine WC_exit ?_
        replace h := some_out h
        subst h
        have ho := hx843 _ rfl
        subst ho
        refine hK845 _ _ ?_
        exact ⟨x802, v801, rfl, hs794, hs795, h806, hB799, hB808, h804, hf805, hn813, hn814, e792⟩
    · clear hK27 hK512
      rintro ρ wd822 ⟨x830, v829, rfl, hs824, hs825, h834, hB827, hB836, h832, hf833, hn837, hn838, e823⟩
      replace h := hn841
      refine hK511 _ _ ?_
      refine WC_seqK fun K915 hK915 => ?_
      refine WC_region ?_
      refine T0_q (v := (.agg (List.toArray [(.int .i64 p_p.Den), v829, v496]))) rfl (yl_loadA (cs := [(.int .i64 p_p.Den), v829, v496]) ag25 hs825 (Box.at hB836)) ?_
      refine T0_e rfl (eff_storeC (vs := [(.int .i64 p_p.Den), v829, v496]) (cs' := [(.int .i64 p_p.Den), v829, v496]) sz25 rfl rfl hs824 rfl hB827 rfl (oc_cons rfl (oc_cons h832.one1 (oc_cons h834.one1 oc_nil))) rfl ?_)
      intro wd916 hc917 hB918
      have h919 := h832.step (Stepp.chg_mem hc917 (memS (memS mem0))) hc917 (av_box hn837)
      have h920 := h834.step (Stepp.chg_mem hc917 (memS (memS mem0)))
      have e922 := chg_box e823 hc917 hbf22
      refine T0_nil ?_
      refine hK915 _ _ ?_
      refine WC_ret ?_
      replace h := some_out h
      subst h
      exact ⟨[(.agg (List.toArray [(.int .i64 p_p.Den), v829, v496]))], ⟨⟨_, hs824, run_loadVarA (cs := [(.int .i64 p_p.Den), v829, v496]) ag25 (Box.at hB918)⟩, trivial⟩, e922, [(.int .i64 p_p.Den), v829, v496], rfl, ⟨v829, v496, (h919.rdL (sub_skip (sub_skip (sub_skip (sub_refl _)))) hL hf833), (h920.sub (sub_skip (sub_skip (sub_skip (sub_refl _))))), rfl⟩⟩

noncomputable def ref02_CheckPlant_s0 (p_Listappend : LevitatePlant) : (Int) → Option ((Int) ⊕ ((LevitateMark × Int) ⊕ (Unit))) := fun x219 =>
  (bif (decide (x219 < (p_Listappend.Noise.length : Int))) then (
    (Option.bind (idx p_Listappend.Noise x219) fun el255 =>
    (Option.bind (base_Within_spec el255 0 10000) fun r261 =>
    (bif (!r261) then (
      some (.inr (.inl ((LevitateMark.mk 0 0), 2)))
    ) else (
      some (.inl (w64 (x219 + 1)))
    ))
    )
    )
  ) else (
    some (.inr (.inr ()))
  ))
noncomputable def ref02_CheckPlant_s1 (el4670 : (List Int)) (x3744 : Int) (x4615 : Int) : (Int) → Option ((Int) ⊕ (((Int) ⊕ (((Int) ⊕ ((LevitateMark × Int) ⊕ (Unit))) ⊕ (Unit))) ⊕ (Unit))) := fun x4841 =>
  (bif (decide (x4841 < (el4670.length : Int))) then (
    (Option.bind (idx el4670 x4841) fun el4879 =>
    (Option.bind (base_Within_spec el4879 (-1000) 1000) fun r4885 =>
    (bif (!r4885) then (
      some (.inr (.inl (.inr (.inl (.inr (.inl ((LevitateMark.mk x3744 x4615), 2)))))))
    ) else (
      some (.inl (w64 (x4841 + 1)))
    ))
    )
    )
  ) else (
    some (.inr (.inr ()))
  ))
noncomputable def ref02_CheckPlant_s2 (p_Listappend : LevitatePlant) (x3744 : Int) : (Int) → Option ((Int) ⊕ (((Int) ⊕ ((LevitateMark × Int) ⊕ (Unit))) ⊕ (Unit))) := fun x4615 =>
  (Option.bind (idx p_Listappend.Maps x3744) fun el4649 =>
  (bif (decide (x4615 < (el4649.length : Int))) then (
    (Option.bind (idx p_Listappend.Maps x3744) fun el4661 =>
    (Option.bind (idx el4661 x4615) fun el4670 =>
    (bif (!decide ((el4670.length : Int) = (p_Listappend.Noise.length : Int))) then (
      some (.inr (.inl (.inr (.inl ((LevitateMark.mk x3744 x4615), 10)))))
    ) else (
      (Option.bind (loop (ref02_CheckPlant_s1 el4670 x3744 x4615) 0) fun o4866 => jn0 o4866 fun (_ : Unit) =>
      some (.inl (w64 (x4615 + 1)))
      )
    ))
    )
    )
  ) else (
    some (.inr (.inr ()))
  ))
  )
noncomputable def ref02_CheckPlant_s3 (p_Listappend : LevitatePlant) : (Int) → Option ((Int) ⊕ ((LevitateMark × Int) ⊕ (Unit))) := fun x3744 =>
  (bif (decide (x3744 < (p_Listappend.Maps.length : Int))) then (
    (Option.bind (idx p_Listappend.Maps x3744) fun el3779 =>
    (bif (!decide ((el3779.length : Int) = (p_Listappend.Noise.length : Int))) then (
      some (.inr (.inl ((LevitateMark.mk x3744 0), 10)))
    ) else (
      (Option.bind (loop (ref02_CheckPlant_s2 p_Listappend x3744) 0) fun o4639 => jn0 o4639 fun (_ : Unit) =>
      some (.inl (w64 (x3744 + 1)))
      )
    ))
    )
  ) else (
    some (.inr (.inr ()))
  ))
noncomputable def ref02_CheckPlant_spec (p_Listappend : LevitatePlant) : Option (LevitateMark × Int) :=
  (Option.bind (base_Within_spec p_Listappend.Den 1 1000) fun r51 =>
  (bif (!r51) then (
    some ((LevitateMark.mk 0 0), 2)
  ) else (
    (bif (decide ((p_Listappend.Noise.length : Int) = 0)) then (
      some ((LevitateMark.mk 0 0), 10)
    ) else (
      (bif (decide (3 < (p_Listappend.Noise.length : Int))) then (
        some ((LevitateMark.mk 0 0), 8)
      ) else (
        (Option.bind (loop (ref02_CheckPlant_s0 p_Listappend) 0) fun o242 => jn0 o242 fun (_ : Unit) =>
        (bif (decide ((p_Listappend.Maps.length : Int) = 0)) then (
          some ((LevitateMark.mk 0 0), 10)
        ) else (
          (bif (decide (4 < (p_Listappend.Maps.length : Int))) then (
            some ((LevitateMark.mk 0 0), 8)
          ) else (
            (Option.bind (loop (ref02_CheckPlant_s3 p_Listappend) 0) fun o3762 => jn0 o3762 fun (_ : Unit) =>
            some ((LevitateMark.mk 0 0), 0)
            )
          ))
        ))
        )
      ))
    ))
  ))
  )
theorem ref02_CheckPlant_ok (L : List Value) (w : World) (hL : LtL L w) (cs_p_Listappend : List Value) (p_Listappend : LevitatePlant) (h_p_Listappend : Rep.rd L w cs_p_Listappend p_Listappend) (r : LevitateMark × Int) (h : ref02_CheckPlant_spec p_Listappend = some r) :
    CallsTo Try.prog 11 [(.agg cs_p_Listappend.toArray)] w (fun v w' => Ext w w' ∧ ∃ (cs0 : List Value), (.tuple #[(.agg cs0.toArray), (.int .i64 r.2)]) = v ∧ Rep.rd L w' cs0 r.1) := by
  have e0 : Ext w w := Chg.refl _ _
  obtain ⟨v1, v3, h2, h4, rfl⟩ := h_p_Listappend
  refine callsTo_of_WC (n := 113) (rs := [.cell 2 29, .tmp 3]) Try.func11 rfl rfl rfl rfl rfl ?_
  refine WC_seqK fun K7 hK7 => ?_
  refine WC_region ?_
  refine T0_e rfl (eff_boxC (cs := [(.int .i64 p_Listappend.Den), v1, v3]) rfl rfl ?_)
  intro b8 wd9 hb10 he11 hB12
  have e14 := e0.trans he11
  refine T0_e rfl (eff_allocZ zi29 ?_)
  intro b16 wd17 hb18 he19 hB20
  have hbf22 := bfresh e14 hb18
  have h23 := (h2.ext he11).step (add_box he19 hb18)
  have h24 := (h4.ext he11).step (add_box he19 hb18)
  have e25 := e14.trans he19
  refine T0_q (v := (.int .i64 0)) rfl (yl_assign rfl) ?_
  refine T0_nil ?_
  refine hK7 _ _ ?_
  refine WC_seqK fun K27 hK27 => ?_
  refine WC_region ?_
  refine T0_q (v := (.agg (List.toArray [(.int .i64 0), (.int .i64 0)]))) rfl (yl_buildC (cells := [(.int .i64 0), (.int .i64 0)]) bi29 pc_nil rfl) ?_
  refine T0_e rfl (eff_allocZ zi29 ?_)
  intro b28 wd29 hb30 he31 hB32
  have hn33 : b28 ≠ b8 := box_ne (hB12.ext he19) hb30
  have hn34 : b28 ≠ b16 := box_ne hB20 hb30
  have hbf35 := bfresh e25 hb30
  have h36 := h23.step (add_box he31 hb30)
  have h37 := h24.step (add_box he31 hb30)
  have e38 := he19.trans he31
  have e39 := e25.trans he31
  refine T0_e rfl (eff_storeC (vs := [(.int .i64 0), (.int .i64 0)]) (cs' := [(.int .i64 0), (.int .i64 0)]) sz29 rfl rfl rfl rfl hB32 rfl (oc_cons rfl (oc_cons rfl oc_nil)) rfl ?_)
  intro wd41 hc42 hB43
  have h44 := h36.step (Stepp.chg_mem hc42 mem0)
  have h45 := h37.step (Stepp.chg_mem hc42 mem0)
  have h46 := (hB12.ext e38).chg hc42 (avoidb hn33)
  have h47 := (hB20.ext he31).chg hc42 (avoidb hn34)
  have e48 := chg_box e39 hc42 hbf35
  refine T0_nil ?_
  refine hK27 _ _ ?_
  refine WC_seqK fun K49 hK49 => ?_
  refine WC_seqK fun K50 hK50 => ?_
  refine WC_region ?_
  refine T0_q (v := (.pointer (some ⟨b8, 0, none⟩))) rfl (yl_fa 0 Try.underlying25 rfl rfl ⟨0, sz3⟩ rfl rfl) ?_
  refine T0_q (v := (.int .i64 p_Listappend.Den)) rfl (yl_load sc3 rfl (Box.at h46)) ?_
  have hq := bind_elim h
  clear h
  obtain ⟨r51, hr52, h⟩ := hq
  refine T0_e rfl (eff_call Try.func42 nm42 rfl (ev3 rfl rfl rfl) (base_Within_ok [] _ (LtL.nil _) p_Listappend.Den 1 1000 r51 hr52) ?_)
  rintro _ wd53 ⟨he54, rfl⟩
  have e55 := e48.trans he54
  refine T0_q (v := (.bool (!r51))) rfl (yl_not rfl) ?_
  refine T0_nil ?_
  refine hK50 _ _ ?_
  refine WC_cond (b := (!r51)) rfl (fun hb56 => ?_) (fun hb56 => ?_)
  · clear hK27 hK49 hK50 hK7
    replace h := cond_t hb56 h
    refine WC_seqK fun K57 hK57 => ?_
    refine WC_region ?_
    refine T0_q (v := (.agg (List.toArray [(.int .i64 0), (.int .i64 0)]))) rfl (yl_loadA (cs := [(.int .i64 0), (.int .i64 0)]) ag29 rfl (Box.at (hB43.ext he54))) ?_
    refine T0_e rfl (eff_storeC (vs := [(.int .i64 0), (.int .i64 0)]) (cs' := [(.int .i64 0), (.int .i64 0)]) sz29 rfl rfl rfl rfl (h47.ext he54) rfl (oc_cons rfl (oc_cons rfl oc_nil)) rfl ?_)
    intro wd58 hc59 hB60
    have e65 := chg_box e55 hc59 hbf22
    refine T0_q (v := (.int .i64 2)) rfl (yl_assign rfl) ?_
    refine T0_nil ?_
    refine hK57 _ _ ?_
    refine WC_ret ?_
    replace h := some_out h
    subst h
    exact ⟨[(.agg (List.toArray [(.int .i64 0), (.int .i64 0)])), (.int .i64 2)], ⟨⟨_, rfl, run_loadVarA (cs := [(.int .i64 0), (.int .i64 0)]) ag29 (Box.at hB60)⟩, rfl, trivial⟩, e65, [(.int .i64 0), (.int .i64 0)], rfl, rfl⟩
  · clear hK27 hK50 hK7
    replace h := cond_f hb56 h
    refine WC_skip ?_
    refine hK49 _ _ ?_
    refine WC_seqK fun K66 hK66 => ?_
    refine WC_seqK fun K67 hK67 => ?_
    refine WC_region ?_
    refine T0_q (v := (.pointer (some ⟨b8, 2, none⟩))) rfl (yl_fa 2 Try.underlying25 rfl rfl ⟨0, sz23⟩ rfl rfl) ?_
    refine T0_q (v := v3) rfl (yl_load sc23 rfl (At.drop (Box.at (h46.ext he54)) 2)) ?_
    refine T0_q (v := (.int .i64 (p_Listappend.Noise.length : Int))) rfl (yl_lenR rfl Try.underlying23 h45 rfl) ?_
    refine T0_q (v := (.bool (decide ((p_Listappend.Noise.length : Int) = 0)))) rfl (yl_eql rfl rfl) ?_
    refine T0_nil ?_
    refine hK67 _ _ ?_
    refine WC_cond (b := (decide ((p_Listappend.Noise.length : Int) = 0))) rfl (fun hb68 => ?_) (fun hb68 => ?_)
    · clear hK49 hK66 hK67
      replace h := cond_t hb68 h
      refine WC_seqK fun K69 hK69 => ?_
      refine WC_region ?_
      refine T0_q (v := (.agg (List.toArray [(.int .i64 0), (.int .i64 0)]))) rfl (yl_loadA (cs := [(.int .i64 0), (.int .i64 0)]) ag29 rfl (Box.at (hB43.ext he54))) ?_
      refine T0_e rfl (eff_storeC (vs := [(.int .i64 0), (.int .i64 0)]) (cs' := [(.int .i64 0), (.int .i64 0)]) sz29 rfl rfl rfl rfl (h47.ext he54) rfl (oc_cons rfl (oc_cons rfl oc_nil)) rfl ?_)
      intro wd70 hc71 hB72
      have e77 := chg_box e55 hc71 hbf22
      refine T0_q (v := (.int .i64 10)) rfl (yl_assign rfl) ?_
      refine T0_nil ?_
      refine hK69 _ _ ?_
      refine WC_ret ?_
      replace h := some_out h
      subst h
      exact ⟨[(.agg (List.toArray [(.int .i64 0), (.int .i64 0)])), (.int .i64 10)], ⟨⟨_, rfl, run_loadVarA (cs := [(.int .i64 0), (.int .i64 0)]) ag29 (Box.at hB72)⟩, rfl, trivial⟩, e77, [(.int .i64 0), (.int .i64 0)], rfl, rfl⟩
    · clear hK49 hK67
      replace h := cond_f hb68 h
      refine WC_skip ?_
      refine hK66 _ _ ?_
      refine WC_seqK fun K78 hK78 => ?_
      refine WC_seqK fun K79 hK79 => ?_
      refine WC_region ?_
      refine T0_q (v := (.pointer (some ⟨b8, 2, none⟩))) rfl (yl_fa 2 Try.underlying25 rfl rfl ⟨0, sz23⟩ rfl rfl) ?_
      refine T0_q (v := v3) rfl (yl_load sc23 rfl (At.drop (Box.at (h46.ext he54)) 2)) ?_
      refine T0_q (v := (.int .i64 (p_Listappend.Noise.length : Int))) rfl (yl_lenR rfl Try.underlying23 h45 rfl) ?_
      refine T0_q (v := (.bool (decide (3 < (p_Listappend.Noise.length : Int))))) rfl (yl_gtr rfl rfl) ?_
      refine T0_nil ?_
      refine hK79 _ _ ?_
      refine WC_cond (b := (decide (3 < (p_Listappend.Noise.length : Int)))) rfl (fun hb80 => ?_) (fun hb80 => ?_)
      · clear hK66 hK78 hK79
        replace h := cond_t hb80 h
        refine WC_seqK fun K81 hK81 => ?_
        refine WC_region ?_
        refine T0_q (v := (.agg (List.toArray [(.int .i64 0), (.int .i64 0)]))) rfl (yl_loadA (cs := [(.int .i64 0), (.int .i64 0)]) ag29 rfl (Box.at (hB43.ext he54))) ?_
        refine T0_e rfl (eff_storeC (vs := [(.int .i64 0), (.int .i64 0)]) (cs' := [(.int .i64 0), (.int .i64 0)]) sz29 rfl rfl rfl rfl (h47.ext he54) rfl (oc_cons rfl (oc_cons rfl oc_nil)) rfl ?_)
        intro wd82 hc83 hB84
        have e89 := chg_box e55 hc83 hbf22
        refine T0_q (v := (.int .i64 8)) rfl (yl_assign rfl) ?_
        refine T0_nil ?_
        refine hK81 _ _ ?_
        refine WC_ret ?_
        replace h := some_out h
        subst h
        exact ⟨[(.agg (List.toArray [(.int .i64 0), (.int .i64 0)])), (.int .i64 8)], ⟨⟨_, rfl, run_loadVarA (cs := [(.int .i64 0), (.int .i64 0)]) ag29 (Box.at hB84)⟩, rfl, trivial⟩, e89, [(.int .i64 0), (.int .i64 0)], rfl, rfl⟩
      · clear hK66 hK79
        replace h := cond_f hb80 h
        refine WC_skip ?_
        refine hK78 _ _ ?_
        refine WC_seqK fun K90 hK90 => ?_
        refine WC_seqK fun K91 hK91 => ?_
        refine WC_region ?_
        refine T0_q (v := (.int .i64 0)) rfl (yl_assign rfl) ?_
        refine T0_nil ?_
        refine hK91 _ _ ?_
        have hq := bind_elim h
        clear h
        obtain ⟨o242, hl243, hn244⟩ := hq
        refine WC_post (fun (ρ : Env) (wd229 : World) => .inr () = o242 ∧ ρ 1 = (.pointer (some ⟨b8, 0, none⟩)) ∧ ρ 2 = (.pointer (some ⟨b16, 0, none⟩)) ∧ ρ 4 = (.pointer (some ⟨b28, 0, none⟩)) ∧ SlRd ((.pointer (some ⟨b28, 0, none⟩)) :: (.pointer (some ⟨b16, 0, none⟩)) :: L) wd229 v1 p_Listappend.Maps ∧ SlRd ((.pointer (some ⟨b28, 0, none⟩)) :: (.pointer (some ⟨b16, 0, none⟩)) :: L) wd229 v3 p_Listappend.Noise ∧ Box wd229 b16 [(.int .i64 0), (.int .i64 0)] 29 ∧ Box wd229 b28 [(.int .i64 0), (.int .i64 0)] 29 ∧ Box wd229 b8 [(.int .i64 p_Listappend.Den), v1, v3] 25 ∧ Ext w wd229) ?_ ?_
        · clear hK78 hK90 hK91
          intro K248 hK248
          refine WC_block ?_
          refine WC_loopk (fun sv ρ wd214 => ∃ (x219 : Int), x219 = sv ∧ ρ 1 = (.pointer (some ⟨b8, 0, none⟩)) ∧ ρ 2 = (.pointer (some ⟨b16, 0, none⟩)) ∧ ρ 4 = (.pointer (some ⟨b28, 0, none⟩)) ∧ ρ 5 = (.int .i64 x219) ∧ SlRd ((.pointer (some ⟨b28, 0, none⟩)) :: (.pointer (some ⟨b16, 0, none⟩)) :: L) wd214 v1 p_Listappend.Maps ∧ SlRd ((.pointer (some ⟨b28, 0, none⟩)) :: (.pointer (some ⟨b16, 0, none⟩)) :: L) wd214 v3 p_Listappend.Noise ∧ Box wd214 b16 [(.int .i64 0), (.int .i64 0)] 29 ∧ Box wd214 b28 [(.int .i64 0), (.int .i64 0)] 29 ∧ Box wd214 b8 [(.int .i64 p_Listappend.Den), v1, v3] 25 ∧ Ext w wd214) hl243 ⟨0, rfl, rfl, rfl, rfl, rfl, (h44.ext he54), (h45.ext he54), (h47.ext he54), (hB43.ext he54), (h46.ext he54), e55⟩ ?_
          rintro _ ρ wd214 ⟨x219, rfl, hs216, hs217, hs218, hs220, h225, h226, hB222, hB224, hB228, e215⟩ x245 h hx246 K247 hK247
          refine WC_seqK fun K250 hK250 => ?_
          refine WC_seqK fun K251 hK251 => ?_
          refine WC_region ?_
          refine T0_q (v := (.int .i64 x219)) rfl (yl_move hs220) ?_
          refine T0_q (v := (.pointer (some ⟨b8, 2, none⟩))) rfl (yl_fa 2 Try.underlying25 rfl rfl ⟨0, sz23⟩ hs216 rfl) ?_
          refine T0_q (v := v3) rfl (yl_load sc23 rfl (At.drop (Box.at hB228) 2)) ?_
          refine T0_q (v := (.int .i64 (p_Listappend.Noise.length : Int))) rfl (yl_lenR rfl Try.underlying23 h226 rfl) ?_
          refine T0_q (v := (.bool (decide (x219 < (p_Listappend.Noise.length : Int))))) rfl (yl_lss rfl rfl) ?_
          refine T0_nil ?_
          refine hK251 _ _ ?_
          refine WC_cond (b := (decide (x219 < (p_Listappend.Noise.length : Int)))) rfl (fun hb252 => ?_) (fun hb252 => ?_)
          · clear hK248 hK251
            replace h := cond_t hb252 h
            refine WC_skip ?_
            refine hK250 _ _ ?_
            refine WC_seqK fun K253 hK253 => ?_
            refine WC_block ?_
            refine WC_seqK fun K254 hK254 => ?_
            refine WC_region ?_
            refine T0_q (v := (.pointer (some ⟨b8, 2, none⟩))) rfl (yl_fa 2 Try.underlying25 rfl rfl ⟨0, sz23⟩ hs216 rfl) ?_
            refine T0_q (v := v3) rfl (yl_load sc23 rfl (At.drop (Box.at hB228) 2)) ?_
            refine T0_q (v := (.int .i64 x219)) rfl (yl_move hs220) ?_
            have hq := bind_elim h
            clear h
            obtain ⟨el255, hel256, h⟩ := hq
            have hq := SlRd.at h226 hel256
            obtain ⟨cs257, hat258, hrd259⟩ := hq
            have hrd259 : cs257 = [(.int .i64 el255)] := hrd259
            subst hrd259
            refine T0_q (v := (.pointer (some (elemAddr v3 (x219 : Int).toNat 1)))) rfl (yl_indexAddr Try.underlying23 sz3 h226 hel256 rfl rfl) ?_
            refine T0_q (v := (.int .i64 el255)) rfl (yl_load sc3 rfl hat258) ?_
            have hq := bind_elim h
            clear h
            obtain ⟨r261, hr262, h⟩ := hq
            refine T0_e rfl (eff_call Try.func42 nm42 rfl (ev3 rfl rfl rfl) (base_Within_ok [] _ (LtL.nil _) el255 0 10000 r261 hr262) ?_)
            rintro _ wd263 ⟨he264, rfl⟩
            have e265 := e215.trans he264
            refine T0_q (v := (.bool (!r261))) rfl (yl_not rfl) ?_
            refine T0_nil ?_
            refine hK254 _ _ ?_
            refine WC_cond (b := (!r261)) rfl (fun hb266 => ?_) (fun hb266 => ?_)
            · clear hK247 hK250 hK253 hK254
              replace h := cond_t hb266 h
              refine WC_seqK fun K267 hK267 => ?_
              refine WC_region ?_
              refine T0_q (v := (.agg (List.toArray [(.int .i64 0), (.int .i64 0)]))) rfl (yl_loadA (cs := [(.int .i64 0), (.int .i64 0)]) ag29 hs218 (Box.at (hB224.ext he264))) ?_
              refine T0_e rfl (eff_storeC (vs := [(.int .i64 0), (.int .i64 0)]) (cs' := [(.int .i64 0), (.int .i64 0)]) sz29 rfl rfl hs217 rfl (hB222.ext he264) rfl (oc_cons rfl (oc_cons rfl oc_nil)) rfl ?_)
              intro wd268 hc269 hB270
              have e275 := chg_box e265 hc269 hbf22
              refine T0_q (v := (.int .i64 2)) rfl (yl_assign rfl) ?_
              refine T0_nil ?_
              refine hK267 _ _ ?_
              refine WC_ret ?_
              replace h := some_out h
              subst h
              have ho := hx246 _ rfl
              subst ho
              replace h := jn0_inl hn244
              replace h := some_out h
              subst h
              exact ⟨[(.agg (List.toArray [(.int .i64 0), (.int .i64 0)])), (.int .i64 2)], ⟨⟨_, hs217, run_loadVarA (cs := [(.int .i64 0), (.int .i64 0)]) ag29 (Box.at hB270)⟩, rfl, trivial⟩, e275, [(.int .i64 0), (.int .i64 0)], rfl, rfl⟩
            · clear hK250 hK254
              replace h := cond_f hb266 h
              refine WC_skip ?_
              refine hK253 _ _ ?_
              refine WC_region ?_
              refine T0_q (v := (.int .i64 x219)) rfl (yl_move hs220) ?_
              refine T0_q (v := (.int .i64 (w64 (x219 + 1)))) rfl (yl_add rfl rfl) ?_
              refine T0_q (v := (.int .i64 (w64 (x219 + 1)))) rfl (yl_assign rfl) ?_
              refine T0_nil ?_
              replace h := some_out h
              subst h
              refine hK247 _ _ _ rfl ?_
              exact ⟨w64 (x219 + 1), rfl, hs216, hs217, hs218, rfl, (h225.ext he264), (h226.ext he264), (hB222.ext he264), (hB224.ext he264), (hB228.ext he264), e265⟩
          · clear hK247 hK250 hK251
            replace h := cond_f hb252 h
            refine WC_exit ?_
            replace h := some_out h
            subst h
            have ho := hx246 _ rfl
            subst ho
            refine hK248 _ _ ?_
            exact ⟨rfl, hs216, hs217, hs218, h225, h226, hB222, hB224, hB228, e215⟩
        · clear hK78 hK91
          rintro ρ wd229 ⟨rfl, hs231, hs232, hs233, h238, h239, hB235, hB237, hB241, e230⟩
          replace h := jn0_inr hn244
          refine hK90 _ _ ?_
          refine WC_seqK fun K276 hK276 => ?_
          refine WC_seqK fun K277 hK277 => ?_
          refine WC_region ?_
          refine T0_q (v := (.pointer (some ⟨b8, 1, none⟩))) rfl (yl_fa 1 Try.underlying25 rfl rfl ⟨0, sz22⟩ hs231 rfl) ?_
          refine T0_q (v := v1) rfl (yl_load sc22 rfl (At.drop (Box.at hB241) 1)) ?_
          refine T0_q (v := (.int .i64 (p_Listappend.Maps.length : Int))) rfl (yl_lenR rfl Try.underlying22 h238 rfl) ?_
          refine T0_q (v := (.bool (decide ((p_Listappend.Maps.length : Int) = 0)))) rfl (yl_eql rfl rfl) ?_
          refine T0_nil ?_
          refine hK277 _ _ ?_
          refine WC_cond (b := (decide ((p_Listappend.Maps.length : Int) = 0))) rfl (fun hb278 => ?_) (fun hb278 => ?_)
          · clear hK276 hK277 hK90
            replace h := cond_t hb278 h
            refine WC_seqK fun K279 hK279 => ?_
            refine WC_region ?_
            refine T0_q (v := (.agg (List.toArray [(.int .i64 0), (.int .i64 0)]))) rfl (yl_loadA (cs := [(.int .i64 0), (.int .i64 0)]) ag29 hs233 (Box.at hB237)) ?_
            refine T0_e rfl (eff_storeC (vs := [(.int .i64 0), (.int .i64 0)]) (cs' := [(.int .i64 0), (.int .i64 0)]) sz29 rfl rfl hs232 rfl hB235 rfl (oc_cons rfl (oc_cons rfl oc_nil)) rfl ?_)
            intro wd280 hc281 hB282
            have e287 := chg_box e230 hc281 hbf22
            refine T0_q (v := (.int .i64 10)) rfl (yl_assign rfl) ?_
            refine T0_nil ?_
            refine hK279 _ _ ?_
            refine WC_ret ?_
            replace h := some_out h
            subst h
            exact ⟨[(.agg (List.toArray [(.int .i64 0), (.int .i64 0)])), (.int .i64 10)], ⟨⟨_, hs232, run_loadVarA (cs := [(.int .i64 0), (.int .i64 0)]) ag29 (Box.at hB282)⟩, rfl, trivial⟩, e287, [(.int .i64 0), (.int .i64 0)], rfl, rfl⟩
          · clear hK277 hK90
            replace h := cond_f hb278 h
            refine WC_skip ?_
            refine hK276 _ _ ?_
            refine WC_seqK fun K288 hK288 => ?_
            refine WC_seqK fun K289 hK289 => ?_
            refine WC_region ?_
            refine T0_q (v := (.pointer (some ⟨b8, 1, none⟩))) rfl (yl_fa 1 Try.underlying25 rfl rfl ⟨0, sz22⟩ hs231 rfl) ?_
            refine T0_q (v := v1) rfl (yl_load sc22 rfl (At.drop (Box.at hB241) 1)) ?_
            refine T0_q (v := (.int .i64 (p_Listappend.Maps.length : Int))) rfl (yl_lenR rfl Try.underlying22 h238 rfl) ?_
            refine T0_q (v := (.bool (decide (4 < (p_Listappend.Maps.length : Int))))) rfl (yl_gtr rfl rfl) ?_
            refine T0_nil ?_
            refine hK289 _ _ ?_
            refine WC_cond (b := (decide (4 < (p_Listappend.Maps.length : Int)))) rfl (fun hb290 => ?_) (fun hb290 => ?_)
            · clear hK276 hK288 hK289
              replace h := cond_t hb290 h
              refine WC_seqK fun K291 hK291 => ?_
              refine WC_region ?_
              refine T0_q (v := (.agg (List.toArray [(.int .i64 0), (.int .i64 0)]))) rfl (yl_loadA (cs := [(.int .i64 0), (.int .i64 0)]) ag29 hs233 (Box.at hB237)) ?_
              refine T0_e rfl (eff_storeC (vs := [(.int .i64 0), (.int .i64 0)]) (cs' := [(.int .i64 0), (.int .i64 0)]) sz29 rfl rfl hs232 rfl hB235 rfl (oc_cons rfl (oc_cons rfl oc_nil)) rfl ?_)
              intro wd292 hc293 hB294
              have e299 := chg_box e230 hc293 hbf22
              refine T0_q (v := (.int .i64 8)) rfl (yl_assign rfl) ?_
              refine T0_nil ?_
              refine hK291 _ _ ?_
              refine WC_ret ?_
              replace h := some_out h
              subst h
              exact ⟨[(.agg (List.toArray [(.int .i64 0), (.int .i64 0)])), (.int .i64 8)], ⟨⟨_, hs232, run_loadVarA (cs := [(.int .i64 0), (.int .i64 0)]) ag29 (Box.at hB294)⟩, rfl, trivial⟩, e299, [(.int .i64 0), (.int .i64 0)], rfl, rfl⟩
            · clear hK276 hK289
              replace h := cond_f hb290 h
              refine WC_skip ?_
              refine hK288 _ _ ?_
              refine WC_seqK fun K300 hK300 => ?_
              refine WC_seqK fun K301 hK301 => ?_
              refine WC_region ?_
              refine T0_q (v := (.int .i64 0)) rfl (yl_assign rfl) ?_
              refine T0_nil ?_
              refine hK301 _ _ ?_
              have hq := bind_elim h
              clear h
              obtain ⟨o3762, hl3763, hn3764⟩ := hq
              refine WC_post (fun (ρ : Env) (wd3754 : World) => .inr () = o3762 ∧ ρ 2 = (.pointer (some ⟨b16, 0, none⟩)) ∧ ρ 4 = (.pointer (some ⟨b28, 0, none⟩)) ∧ Box wd3754 b16 [(.int .i64 0), (.int .i64 0)] 29 ∧ Box wd3754 b28 [(.int .i64 0), (.int .i64 0)] 29 ∧ Ext w wd3754) ?_ ?_
              · clear hK288 hK300 hK301
                intro K3768 hK3768
                refine WC_block ?_
                refine WC_loopk (fun sv ρ wd3739 => ∃ (x3744 : Int), x3744 = sv ∧ ρ 1 = (.pointer (some ⟨b8, 0, none⟩)) ∧ ρ 2 = (.pointer (some ⟨b16, 0, none⟩)) ∧ ρ 4 = (.pointer (some ⟨b28, 0, none⟩)) ∧ ρ 6 = (.int .i64 x3744) ∧ SlRd ((.pointer (some ⟨b28, 0, none⟩)) :: (.pointer (some ⟨b16, 0, none⟩)) :: L) wd3739 v1 p_Listappend.Maps ∧ SlRd ((.pointer (some ⟨b28, 0, none⟩)) :: (.pointer (some ⟨b16, 0, none⟩)) :: L) wd3739 v3 p_Listappend.Noise ∧ Box wd3739 b16 [(.int .i64 0), (.int .i64 0)] 29 ∧ Box wd3739 b28 [(.int .i64 0), (.int .i64 0)] 29 ∧ Box wd3739 b8 [(.int .i64 p_Listappend.Den), v1, v3] 25 ∧ Ext w wd3739) hl3763 ⟨0, rfl, hs231, hs232, hs233, rfl, h238, h239, hB235, hB237, hB241, e230⟩ ?_
                rintro _ ρ wd3739 ⟨x3744, rfl, hs3741, hs3742, hs3743, hs3745, h3750, h3751, hB3747, hB3749, hB3753, e3740⟩ x3765 h hx3766 K3767 hK3767
                refine WC_seqK fun K3770 hK3770 => ?_
                refine WC_seqK fun K3771 hK3771 => ?_
                refine WC_region ?_
                refine T0_q (v := (.int .i64 x3744)) rfl (yl_move hs3745) ?_
                refine T0_q (v := (.pointer (some ⟨b8, 1, none⟩))) rfl (yl_fa 1 Try.underlying25 rfl rfl ⟨0, sz22⟩ hs3741 rfl) ?_
                refine T0_q (v := v1) rfl (yl_load sc22 rfl (At.drop (Box.at hB3753) 1)) ?_
                refine T0_q (v := (.int .i64 (p_Listappend.Maps.length : Int))) rfl (yl_lenR rfl Try.underlying22 h3750 rfl) ?_
                refine T0_q (v := (.bool (decide (x3744 < (p_Listappend.Maps.length : Int))))) rfl (yl_lss rfl rfl) ?_
                refine T0_nil ?_
                refine hK3771 _ _ ?_
                refine WC_cond (b := (decide (x3744 < (p_Listappend.Maps.length : Int)))) rfl (fun hb3772 => ?_) (fun hb3772 => ?_)
                · clear hK3768 hK3771
                  replace h := cond_t hb3772 h
                  refine WC_skip ?_
                  refine hK3770 _ _ ?_
                  refine WC_seqK fun K3773 hK3773 => ?_
                  refine WC_block ?_
                  refine WC_seqK fun K3774 hK3774 => ?_
                  refine WC_seqK fun K3775 hK3775 => ?_
                  refine WC_planX mixed (.p 0 (.p 2 (.p 6 (.q 1 (.p 3 (.q 4 (.p 5 (.q 7 (.p 8 (.p 9 .done)))))))))) (by kernel_rfl) ?_
                  intro wd3776 he3777
                  have e3778 := e3740.trans he3777
                  refine TX_p (v := (.pointer (some ⟨b8, 1, none⟩))) rfl rfl (fun w' => (yl_fa 1 Try.underlying25 rfl rfl ⟨0, sz22⟩ hs3741 rfl)) ?_
                  refine TX_p (v := (.int .i64 x3744)) rfl rfl (fun w' => (yl_move hs3745)) ?_
                  refine TX_p (v := (.pointer (some ⟨b8, 2, none⟩))) rfl rfl (fun w' => (yl_fa 2 Try.underlying25 rfl rfl ⟨0, sz23⟩ hs3741 rfl)) ?_
                  refine TX_q (v := v1) rfl rfl (fun w' hS => (yl_load sc22 rfl (At.drop (Box.at (hB3753.ext (he3777.trans hS))) 1))) ?_
                  have hq := bind_elim h
                  clear h
                  obtain ⟨el3779, hel3780, h⟩ := hq
                  have hq := SlRd.at h3750 hel3780
                  obtain ⟨cs3783, hat3784, hrd3785⟩ := hq
                  obtain ⟨v3781, rfl, h3782⟩ := hrd3785
                  refine TX_p (v := (.pointer (some (elemAddr v1 (x3744 : Int).toNat 1)))) rfl rfl (fun w' => (yl_indexAddr Try.underlying22 sz47 h3750 hel3780 rfl rfl)) ?_
                  refine TX_q (v := v3781) rfl rfl (fun w' hS => (yl_load sc47 rfl (hat3784.ext' (he3777.trans hS)))) ?_
                  refine TX_p (v := (.int .i64 (el3779.length : Int))) rfl rfl (fun w' => (yl_lenR rfl Try.underlying47 h3782 rfl)) ?_
                  refine TX_q (v := v3) rfl rfl (fun w' hS => (yl_load sc23 rfl (At.drop (Box.at (hB3753.ext (he3777.trans hS))) 2))) ?_
                  refine TX_p (v := (.int .i64 (p_Listappend.Noise.length : Int))) rfl rfl (fun w' => (yl_lenR rfl Try.underlying23 h3751 rfl)) ?_
                  refine TX_p (v := (.bool (!decide ((el3779.length : Int) = (p_Listappend.Noise.length : Int))))) rfl rfl (fun w' => (yl_neq rfl rfl)) ?_
                  refine TX_done ?_
                  refine hK3775 _ _ ?_
                  refine WC_cond (b := (!decide ((el3779.length : Int) = (p_Listappend.Noise.length : Int)))) rfl (fun hb3788 => ?_) (fun hb3788 => ?_)
                  · clear hK3767 hK3770 hK3773 hK3774 hK3775
                    replace h := cond_t hb3788 h
                    refine WC_seqK fun K3789 hK3789 => ?_
                    refine WC_region ?_
                    refine T0_q (v := (.int .i64 x3744)) rfl (yl_move hs3745) ?_
                    refine T0_q (v := (.agg (List.toArray [(.int .i64 x3744), (.int .i64 0)]))) rfl (yl_buildC (cells := [(.int .i64 x3744), (.int .i64 0)]) bi29 (pc_cons rfl rfl pc_nil) rfl) ?_
                    refine T0_e rfl (eff_storeC (vs := [(.int .i64 x3744), (.int .i64 0)]) (cs' := [(.int .i64 x3744), (.int .i64 0)]) sz29 rfl rfl hs3742 rfl (hB3747.ext he3777) rfl (oc_cons rfl (oc_cons rfl oc_nil)) rfl ?_)
                    intro wd3790 hc3791 hB3792
                    have e3798 := chg_box e3778 hc3791 hbf22
                    refine T0_q (v := (.int .i64 10)) rfl (yl_assign rfl) ?_
                    refine T0_nil ?_
                    refine hK3789 _ _ ?_
                    refine WC_ret ?_
                    replace h := some_out h
                    subst h
                    have ho := hx3766 _ rfl
                    subst ho
                    replace h := jn0_inl hn3764
                    replace h := some_out h
                    subst h
                    exact ⟨[(.agg (List.toArray [(.int .i64 x3744), (.int .i64 0)])), (.int .i64 10)], ⟨⟨_, hs3742, run_loadVarA (cs := [(.int .i64 x3744), (.int .i64 0)]) ag29 (Box.at hB3792)⟩, rfl, trivial⟩, e3798, [(.int .i64 x3744), (.int .i64 0)], rfl, rfl⟩
                  · clear hK3770 hK3775
                    replace h := cond_f hb3788 h
                    refine WC_skip ?_
                    refine hK3774 _ _ ?_
                    refine WC_seqK fun K3799 hK3799 => ?_
                    refine WC_region ?_
                    refine T0_q (v := (.int .i64 0)) rfl (yl_assign rfl) ?_
                    refine T0_nil ?_
                    refine hK3799 _ _ ?_
                    have hq := bind_elim h
                    clear h
                    obtain ⟨o4639, hl4640, hn4641⟩ := hq
                    refine WC_post (fun (ρ : Env) (wd4625 : World) => .inr () = o4639 ∧ ρ 1 = (.pointer (some ⟨b8, 0, none⟩)) ∧ ρ 2 = (.pointer (some ⟨b16, 0, none⟩)) ∧ ρ 4 = (.pointer (some ⟨b28, 0, none⟩)) ∧ ρ 6 = (.int .i64 x3744) ∧ SlRd ((.pointer (some ⟨b28, 0, none⟩)) :: (.pointer (some ⟨b16, 0, none⟩)) :: L) wd4625 v1 p_Listappend.Maps ∧ SlRd ((.pointer (some ⟨b28, 0, none⟩)) :: (.pointer (some ⟨b16, 0, none⟩)) :: L) wd4625 v3 p_Listappend.Noise ∧ Box wd4625 b16 [(.int .i64 0), (.int .i64 0)] 29 ∧ Box wd4625 b28 [(.int .i64 0), (.int .i64 0)] 29 ∧ Box wd4625 b8 [(.int .i64 p_Listappend.Den), v1, v3] 25 ∧ Ext w wd4625) ?_ ?_
                    · clear hK3767 hK3773 hK3774 hK3799
                      intro K4645 hK4645
                      refine WC_block ?_
                      refine WC_loopk (fun sv ρ wd4609 => ∃ (x4615 : Int), x4615 = sv ∧ ρ 1 = (.pointer (some ⟨b8, 0, none⟩)) ∧ ρ 2 = (.pointer (some ⟨b16, 0, none⟩)) ∧ ρ 4 = (.pointer (some ⟨b28, 0, none⟩)) ∧ ρ 6 = (.int .i64 x3744) ∧ ρ 7 = (.int .i64 x4615) ∧ SlRd ((.pointer (some ⟨b28, 0, none⟩)) :: (.pointer (some ⟨b16, 0, none⟩)) :: L) wd4609 v1 p_Listappend.Maps ∧ SlRd ((.pointer (some ⟨b28, 0, none⟩)) :: (.pointer (some ⟨b16, 0, none⟩)) :: L) wd4609 v3 p_Listappend.Noise ∧ Box wd4609 b16 [(.int .i64 0), (.int .i64 0)] 29 ∧ Box wd4609 b28 [(.int .i64 0), (.int .i64 0)] 29 ∧ Box wd4609 b8 [(.int .i64 p_Listappend.Den), v1, v3] 25 ∧ Ext w wd4609) hl4640 ⟨0, rfl, hs3741, hs3742, hs3743, hs3745, rfl, (h3750.ext he3777), (h3751.ext he3777), (hB3747.ext he3777), (hB3749.ext he3777), (hB3753.ext he3777), e3778⟩ ?_
                      rintro _ ρ wd4609 ⟨x4615, rfl, hs4611, hs4612, hs4613, hs4614, hs4616, h4621, h4622, hB4618, hB4620, hB4624, e4610⟩ x4642 h hx4643 K4644 hK4644
                      refine WC_seqK fun K4647 hK4647 => ?_
                      refine WC_seqK fun K4648 hK4648 => ?_
                      refine WC_region ?_
                      refine T0_q (v := (.int .i64 x4615)) rfl (yl_move hs4616) ?_
                      refine T0_q (v := (.pointer (some ⟨b8, 1, none⟩))) rfl (yl_fa 1 Try.underlying25 rfl rfl ⟨0, sz22⟩ hs4611 rfl) ?_
                      refine T0_q (v := v1) rfl (yl_load sc22 rfl (At.drop (Box.at hB4624) 1)) ?_
                      refine T0_q (v := (.int .i64 x3744)) rfl (yl_move hs4614) ?_
                      have hq := bind_elim h
                      clear h
                      obtain ⟨el4649, hel4650, h⟩ := hq
                      have hq := SlRd.at h4621 hel4650
                      obtain ⟨cs4653, hat4654, hrd4655⟩ := hq
                      obtain ⟨v4651, rfl, h4652⟩ := hrd4655
                      refine T0_q (v := (.pointer (some (elemAddr v1 (x3744 : Int).toNat 1)))) rfl (yl_indexAddr Try.underlying22 sz47 h4621 hel4650 rfl rfl) ?_
                      refine T0_q (v := v4651) rfl (yl_load sc47 rfl hat4654) ?_
                      refine T0_q (v := (.int .i64 (el4649.length : Int))) rfl (yl_lenR rfl Try.underlying47 h4652 rfl) ?_
                      refine T0_q (v := (.bool (decide (x4615 < (el4649.length : Int))))) rfl (yl_lss rfl rfl) ?_
                      refine T0_nil ?_
                      refine hK4648 _ _ ?_
                      refine WC_cond (b := (decide (x4615 < (el4649.length : Int)))) rfl (fun hb4658 => ?_) (fun hb4658 => ?_)
                      · clear hK4645 hK4648
                        replace h := cond_t hb4658 h
                        refine WC_skip ?_
                        refine hK4647 _ _ ?_
                        refine WC_seqK fun K4659 hK4659 => ?_
                        refine WC_block ?_
                        refine WC_seqK fun K4660 hK4660 => ?_
                        refine WC_region ?_
                        refine T0_q (v := (.pointer (some ⟨b8, 1, none⟩))) rfl (yl_fa 1 Try.underlying25 rfl rfl ⟨0, sz22⟩ hs4611 rfl) ?_
                        refine T0_q (v := v1) rfl (yl_load sc22 rfl (At.drop (Box.at hB4624) 1)) ?_
                        refine T0_q (v := (.int .i64 x3744)) rfl (yl_move hs4614) ?_
                        have hq := bind_elim h
                        clear h
                        obtain ⟨el4661, hel4662, h⟩ := hq
                        have hq := SlRd.at h4621 hel4662
                        obtain ⟨cs4665, hat4666, hrd4667⟩ := hq
                        obtain ⟨v4663, rfl, h4664⟩ := hrd4667
                        refine T0_q (v := (.pointer (some (elemAddr v1 (x3744 : Int).toNat 1)))) rfl (yl_indexAddr Try.underlying22 sz47 h4621 hel4662 rfl rfl) ?_
                        refine T0_q (v := v4663) rfl (yl_load sc47 rfl hat4666) ?_
                        refine T0_q (v := (.int .i64 x4615)) rfl (yl_move hs4616) ?_
                        have hq := bind_elim h
                        clear h
                        obtain ⟨el4670, hel4671, h⟩ := hq
                        have hq := SlRd.at h4664 hel4671
                        obtain ⟨cs4674, hat4675, hrd4676⟩ := hq
                        obtain ⟨v4672, rfl, h4673⟩ := hrd4676
                        refine T0_q (v := (.pointer (some (elemAddr v4663 (x4615 : Int).toNat 1)))) rfl (yl_indexAddr Try.underlying47 sz23 h4664 hel4671 rfl rfl) ?_
                        refine T0_q (v := v4672) rfl (yl_load sc23 rfl hat4675) ?_
                        refine T0_q (v := v4672) rfl (yl_assign rfl) ?_
                        refine T0_nil ?_
                        refine hK4660 _ _ ?_
                        refine WC_seqK fun K4679 hK4679 => ?_
                        refine WC_seqK fun K4680 hK4680 => ?_
                        refine WC_region ?_
                        refine T0_q (v := v4672) rfl (yl_move rfl) ?_
                        refine T0_q (v := (.int .i64 (el4670.length : Int))) rfl (yl_lenR rfl Try.underlying23 h4673 rfl) ?_
                        refine T0_q (v := (.pointer (some ⟨b8, 2, none⟩))) rfl (yl_fa 2 Try.underlying25 rfl rfl ⟨0, sz23⟩ hs4611 rfl) ?_
                        refine T0_q (v := v3) rfl (yl_load sc23 rfl (At.drop (Box.at hB4624) 2)) ?_
                        refine T0_q (v := (.int .i64 (p_Listappend.Noise.length : Int))) rfl (yl_lenR rfl Try.underlying23 h4622 rfl) ?_
                        refine T0_q (v := (.bool (!decide ((el4670.length : Int) = (p_Listappend.Noise.length : Int))))) rfl (yl_neq rfl rfl) ?_
                        refine T0_nil ?_
                        refine hK4680 _ _ ?_
                        refine WC_cond (b := (!decide ((el4670.length : Int) = (p_Listappend.Noise.length : Int)))) rfl (fun hb4681 => ?_) (fun hb4681 => ?_)
                        · clear hK4644 hK4647 hK4659 hK4660 hK4679 hK4680
                          replace h := cond_t hb4681 h
                          refine WC_seqK fun K4682 hK4682 => ?_
                          refine WC_region ?_
                          refine T0_q (v := (.int .i64 x3744)) rfl (yl_move hs4614) ?_
                          refine T0_q (v := (.int .i64 x4615)) rfl (yl_move hs4616) ?_
                          refine T0_q (v := (.agg (List.toArray [(.int .i64 x3744), (.int .i64 x4615)]))) rfl (yl_buildC (cells := [(.int .i64 x3744), (.int .i64 x4615)]) bi29 (pc_cons rfl rfl (pc_cons rfl rfl pc_nil)) rfl) ?_
                          refine T0_e rfl (eff_storeC (vs := [(.int .i64 x3744), (.int .i64 x4615)]) (cs' := [(.int .i64 x3744), (.int .i64 x4615)]) sz29 rfl rfl hs4612 rfl hB4618 rfl (oc_cons rfl (oc_cons rfl oc_nil)) rfl ?_)
                          intro wd4683 hc4684 hB4685
                          have e4693 := chg_box e4610 hc4684 hbf22
                          refine T0_q (v := (.int .i64 10)) rfl (yl_assign rfl) ?_
                          refine T0_nil ?_
                          refine hK4682 _ _ ?_
                          refine WC_ret ?_
                          replace h := some_out h
                          subst h
                          have ho := hx4643 _ rfl
                          subst ho
                          replace h := jn0_inl hn4641
                          replace h := some_out h
                          subst h
                          have ho := hx3766 _ rfl
                          subst ho
                          replace h := jn0_inl hn3764
                          replace h := some_out h
                          subst h
                          exact ⟨[(.agg (List.toArray [(.int .i64 x3744), (.int .i64 x4615)])), (.int .i64 10)], ⟨⟨_, hs4612, run_loadVarA (cs := [(.int .i64 x3744), (.int .i64 x4615)]) ag29 (Box.at hB4685)⟩, rfl, trivial⟩, e4693, [(.int .i64 x3744), (.int .i64 x4615)], rfl, rfl⟩
                        · clear hK4647 hK4660 hK4680
                          replace h := cond_f hb4681 h
                          refine WC_skip ?_
                          refine hK4679 _ _ ?_
                          refine WC_seqK fun K4694 hK4694 => ?_
                          refine WC_region ?_
                          refine T0_q (v := (.int .i64 0)) rfl (yl_assign rfl) ?_
                          refine T0_nil ?_
                          refine hK4694 _ _ ?_
                          have hq := bind_elim h
                          clear h
                          obtain ⟨o4866, hl4867, hn4868⟩ := hq
                          refine WC_post (fun (ρ : Env) (wd4851 : World) => .inr () = o4866 ∧ ρ 1 = (.pointer (some ⟨b8, 0, none⟩)) ∧ ρ 2 = (.pointer (some ⟨b16, 0, none⟩)) ∧ ρ 4 = (.pointer (some ⟨b28, 0, none⟩)) ∧ ρ 6 = (.int .i64 x3744) ∧ ρ 7 = (.int .i64 x4615) ∧ SlRd ((.pointer (some ⟨b28, 0, none⟩)) :: (.pointer (some ⟨b16, 0, none⟩)) :: L) wd4851 v1 p_Listappend.Maps ∧ SlRd ((.pointer (some ⟨b28, 0, none⟩)) :: (.pointer (some ⟨b16, 0, none⟩)) :: L) wd4851 v3 p_Listappend.Noise ∧ Box wd4851 b16 [(.int .i64 0), (.int .i64 0)] 29 ∧ Box wd4851 b28 [(.int .i64 0), (.int .i64 0)] 29 ∧ Box wd4851 b8 [(.int .i64 p_Listappend.Den), v1, v3] 25 ∧ Ext w wd4851) ?_ ?_
                          · clear hK4644 hK4659 hK4679 hK4694
                            intro K4872 hK4872
                            refine WC_block ?_
                            refine WC_loopk (fun sv ρ wd4832 => ∃ (x4841 : Int), x4841 = sv ∧ ρ 1 = (.pointer (some ⟨b8, 0, none⟩)) ∧ ρ 2 = (.pointer (some ⟨b16, 0, none⟩)) ∧ ρ 4 = (.pointer (some ⟨b28, 0, none⟩)) ∧ ρ 6 = (.int .i64 x3744) ∧ ρ 7 = (.int .i64 x4615) ∧ ρ 8 = v4672 ∧ ρ 9 = (.int .i64 x4841) ∧ SlRd ((.pointer (some ⟨b28, 0, none⟩)) :: (.pointer (some ⟨b16, 0, none⟩)) :: L) wd4832 v4672 el4670 ∧ SlRd ((.pointer (some ⟨b28, 0, none⟩)) :: (.pointer (some ⟨b16, 0, none⟩)) :: L) wd4832 v1 p_Listappend.Maps ∧ SlRd ((.pointer (some ⟨b28, 0, none⟩)) :: (.pointer (some ⟨b16, 0, none⟩)) :: L) wd4832 v3 p_Listappend.Noise ∧ Box wd4832 b16 [(.int .i64 0), (.int .i64 0)] 29 ∧ Box wd4832 b28 [(.int .i64 0), (.int .i64 0)] 29 ∧ Box wd4832 b8 [(.int .i64 p_Listappend.Den), v1, v3] 25 ∧ Ext w wd4832) hl4867 ⟨0, rfl, hs4611, hs4612, hs4613, hs4614, hs4616, rfl, rfl, h4673, h4621, h4622, hB4618, hB4620, hB4624, e4610⟩ ?_
                            rintro _ ρ wd4832 ⟨x4841, rfl, hs4834, hs4835, hs4836, hs4837, hs4838, hs4840, hs4842, h4839, h4847, h4848, hB4844, hB4846, hB4850, e4833⟩ x4869 h hx4870 K4871 hK4871
                            refine WC_seqK fun K4874 hK4874 => ?_
                            refine WC_seqK fun K4875 hK4875 => ?_
                            refine WC_region ?_
                            refine T0_q (v := (.int .i64 x4841)) rfl (yl_move hs4842) ?_
                            refine T0_q (v := v4672) rfl (yl_move hs4840) ?_
                            refine T0_q (v := (.int .i64 (el4670.length : Int))) rfl (yl_lenR rfl Try.underlying23 h4839 rfl) ?_
                            refine T0_q (v := (.bool (decide (x4841 < (el4670.length : Int))))) rfl (yl_lss rfl rfl) ?_
                            refine T0_nil ?_
                            refine hK4875 _ _ ?_
                            refine WC_cond (b := (decide (x4841 < (el4670.length : Int)))) rfl (fun hb4876 => ?_) (fun hb4876 => ?_)
                            · clear hK4872 hK4875
                              replace h := cond_t hb4876 h
                              refine WC_skip ?_
                              refine hK4874 _ _ ?_
                              refine WC_seqK fun K4877 hK4877 => ?_
                              refine WC_block ?_
                              refine WC_seqK fun K4878 hK4878 => ?_
                              refine WC_region ?_
                              refine T0_q (v := v4672) rfl (yl_move hs4840) ?_
                              refine T0_q (v := (.int .i64 x4841)) rfl (yl_move hs4842) ?_
                              have hq := bind_elim h
                              clear h
                              obtain ⟨el4879, hel4880, h⟩ := hq
                              have hq := SlRd.at h4839 hel4880
                              obtain ⟨cs4881, hat4882, hrd4883⟩ := hq
                              have hrd4883 : cs4881 = [(.int .i64 el4879)] := hrd4883
                              subst hrd4883
                              refine T0_q (v := (.pointer (some (elemAddr v4672 (x4841 : Int).toNat 1)))) rfl (yl_indexAddr Try.underlying23 sz3 h4839 hel4880 rfl rfl) ?_
                              refine T0_q (v := (.int .i64 el4879)) rfl (yl_load sc3 rfl hat4882) ?_
                              have hq := bind_elim h
                              clear h
                              obtain ⟨r4885, hr4886, h⟩ := hq
                              refine T0_e rfl (eff_call Try.func42 nm42 rfl (ev3 rfl rfl rfl) (base_Within_ok [] _ (LtL.nil _) el4879 (-1000) 1000 r4885 hr4886) ?_)
                              rintro _ wd4887 ⟨he4888, rfl⟩
                              have e4889 := e4833.trans he4888
                              refine T0_q (v := (.bool (!r4885))) rfl (yl_not rfl) ?_
                              refine T0_nil ?_
                              refine hK4878 _ _ ?_
                              refine WC_cond (b := (!r4885)) rfl (fun hb4890 => ?_) (fun hb4890 => ?_)
                              · clear hK4871 hK4874 hK4877 hK4878
                                replace h := cond_t hb4890 h
                                refine WC_seqK fun K4891 hK4891 => ?_
                                refine WC_region ?_
                                refine T0_q (v := (.int .i64 x3744)) rfl (yl_move hs4837) ?_
                                refine T0_q (v := (.int .i64 x4615)) rfl (yl_move hs4838) ?_
                                refine T0_q (v := (.agg (List.toArray [(.int .i64 x3744), (.int .i64 x4615)]))) rfl (yl_buildC (cells := [(.int .i64 x3744), (.int .i64 x4615)]) bi29 (pc_cons rfl rfl (pc_cons rfl rfl pc_nil)) rfl) ?_
                                refine T0_e rfl (eff_storeC (vs := [(.int .i64 x3744), (.int .i64 x4615)]) (cs' := [(.int .i64 x3744), (.int .i64 x4615)]) sz29 rfl rfl hs4835 rfl (hB4844.ext he4888) rfl (oc_cons rfl (oc_cons rfl oc_nil)) rfl ?_)
                                intro wd4892 hc4893 hB4894
                                have e4900 := chg_box e4889 hc4893 hbf22
                                refine T0_q (v := (.int .i64 2)) rfl (yl_assign rfl) ?_
                                refine T0_nil ?_
                                refine hK4891 _ _ ?_
                                refine WC_ret ?_
                                replace h := some_out h
                                subst h
                                have ho := hx4870 _ rfl
                                subst ho
                                replace h := jn0_inl hn4868
                                replace h := some_out h
                                subst h
                                have ho := hx4643 _ rfl
                                subst ho
                                replace h := jn0_inl hn4641
                                replace h := some_out h
                                subst h
                                have ho := hx3766 _ rfl
                                subst ho
                                replace h := jn0_inl hn3764
                                replace h := some_out h
                                subst h
                                exact ⟨[(.agg (List.toArray [(.int .i64 x3744), (.int .i64 x4615)])), (.int .i64 2)], ⟨⟨_, hs4835, run_loadVarA (cs := [(.int .i64 x3744), (.int .i64 x4615)]) ag29 (Box.at hB4894)⟩, rfl, trivial⟩, e4900, [(.int .i64 x3744), (.int .i64 x4615)], rfl, rfl⟩
                              · clear hK4874 hK4878
                                replace h := cond_f hb4890 h
                                refine WC_skip ?_
                                refine hK4877 _ _ ?_
                                refine WC_region ?_
                                refine T0_q (v := (.int .i64 x4841)) rfl (yl_move hs4842) ?_
                                refine T0_q (v := (.int .i64 (w64 (x4841 + 1)))) rfl (yl_add rfl rfl) ?_
                                refine T0_q (v := (.int .i64 (w64 (x4841 + 1)))) rfl (yl_assign rfl) ?_
                                refine T0_nil ?_
                                replace h := some_out h
                                subst h
                                refine hK4871 _ _ _ rfl ?_
                                exact ⟨w64 (x4841 + 1), rfl, hs4834, hs4835, hs4836, hs4837, hs4838, hs4840, rfl, (h4839.ext he4888), (h4847.ext he4888), (h4848.ext he4888), (hB4844.ext he4888), (hB4846.ext he4888), (hB4850.ext he4888), e4889⟩
                            · clear hK4871 hK4874 hK4875
                              replace h := cond_f hb4876 h
                              refine WC_exit ?_
                              replace h := some_out h
                              subst h
                              have ho := hx4870 _ rfl
                              subst ho
                              refine hK4872 _ _ ?_
                              exact ⟨rfl, hs4834, hs4835, hs4836, hs4837, hs4838, h4847, h4848, hB4844, hB4846, hB4850, e4833⟩
                          · clear hK4679 hK4694
                            rintro ρ wd4851 ⟨rfl, hs4853, hs4854, hs4855, hs4856, hs4857, h4862, h4863, hB4859, hB4861, hB4865, e4852⟩
                            replace h := jn0_inr hn4868
                            refine hK4659 _ _ ?_
                            refine WC_region ?_
                            refine T0_q (v := (.int .i64 x4615)) rfl (yl_move hs4857) ?_
                            refine T0_q (v := (.int .i64 (w64 (x4615 + 1)))) rfl (yl_add rfl rfl) ?_
                            refine T0_q (v := (.int .i64 (w64 (x4615 + 1)))) rfl (yl_assign rfl) ?_
                            refine T0_nil ?_
                            replace h := some_out h
                            subst h
                            refine hK4644 _ _ _ rfl ?_
                            exact ⟨w64 (x4615 + 1), rfl, hs4853, hs4854, hs4855, hs4856, rfl, h4862, h4863, hB4859, hB4861, hB4865, e4852⟩
                      · clear hK4644 hK4647 hK4648
                        replace h := cond_f hb4658 h
                        refine WC_exit ?_
                        replace h := some_out h
                        subst h
                        have ho := hx4643 _ rfl
                        subst ho
                        refine hK4645 _ _ ?_
                        exact ⟨rfl, hs4611, hs4612, hs4613, hs4614, h4621, h4622, hB4618, hB4620, hB4624, e4610⟩
                    · clear hK3774 hK3799
                      rintro ρ wd4625 ⟨rfl, hs4627, hs4628, hs4629, hs4630, h4635, h4636, hB4632, hB4634, hB4638, e4626⟩
                      replace h := jn0_inr hn4641
                      refine hK3773 _ _ ?_
                      refine WC_region ?_
                      refine T0_q (v := (.int .i64 x3744)) rfl (yl_move hs4630) ?_
                      refine T0_q (v := (.int .i64 (w64 (x3744 + 1)))) rfl (yl_add rfl rfl) ?_
                      refine T0_q (v := (.int .i64 (w64 (x3744 + 1)))) rfl (yl_assign rfl) ?_
                      refine T0_nil ?_
                      replace h := some_out h
                      subst h
                      refine hK3767 _ _ _ rfl ?_
                      exact ⟨w64 (x3744 + 1), rfl, hs4627, hs4628, hs4629, rfl, h4635, h4636, hB4632, hB4634, hB4638, e4626⟩
                · clear hK3767 hK3770 hK3771
                  replace h := cond_f hb3772 h
                  refine WC_exit ?_
                  replace h := some_out h
                  subst h
                  have ho := hx3766 _ rfl
                  subst ho
                  refine hK3768 _ _ ?_
                  exact ⟨rfl, hs3742, hs3743, hB3747, hB3749, e3740⟩
              · clear hK288 hK301
                rintro ρ wd3754 ⟨rfl, hs3756, hs3757, hB3759, hB3761, e3755⟩
                replace h := jn0_inr hn3764
                refine hK300 _ _ ?_
                refine WC_seqK fun K4901 hK4901 => ?_
                refine WC_region ?_
                refine T0_q (v := (.agg (List.toArray [(.int .i64 0), (.int .i64 0)]))) rfl (yl_loadA (cs := [(.int .i64 0), (.int .i64 0)]) ag29 hs3757 (Box.at hB3761)) ?_
                refine T0_e rfl (eff_storeC (vs := [(.int .i64 0), (.int .i64 0)]) (cs' := [(.int .i64 0), (.int .i64 0)]) sz29 rfl rfl hs3756 rfl hB3759 rfl (oc_cons rfl (oc_cons rfl oc_nil)) rfl ?_)
                intro wd4902 hc4903 hB4904
                have e4906 := chg_box e3755 hc4903 hbf22
                refine T0_q (v := (.int .i64 0)) rfl (yl_assign rfl) ?_
                refine T0_nil ?_
                refine hK4901 _ _ ?_
                refine WC_ret ?_
                replace h := some_out h
                subst h
                exact ⟨[(.agg (List.toArray [(.int .i64 0), (.int .i64 0)])), (.int .i64 0)], ⟨⟨_, hs3756, run_loadVarA (cs := [(.int .i64 0), (.int .i64 0)]) ag29 (Box.at hB4904)⟩, rfl, trivial⟩, e4906, [(.int .i64 0), (.int .i64 0)], rfl, rfl⟩

noncomputable def levitate_MiddleOf_s0 (p_Listappend : LevitateSensors) : ((List Int) × Int) → Option (((List Int) × Int) ⊕ ((Int × Int) ⊕ ((List Int)))) := fun (x267, x273) =>
  (bif (decide (x273 < 3)) then (
    (Option.bind (idx [p_Listappend.Values.e0, p_Listappend.Values.e1, p_Listappend.Values.e2] x273) fun el307 =>
    (Option.bind (levitate_reading_whole_spec el307) fun r312 =>
    (Option.bind (levitate_unless_spec r312 3) fun r317 =>
    (Option.bind (levitate_unless_spec ((fGe el307 0) && (fLe el307 1161527296)) 2) fun r323 =>
    (Option.bind (levitate_first_spec ([r317, r323] : List Int)) fun r336 =>
    (bif (!decide (r336 = 0)) then (
      some (.inr (.inl (0, r336)))
    ) else (
      (Option.bind (fToI el307) fun q345 =>
      (Option.bind (app x267 ([q345] : List Int)) fun zs355 =>
      some (.inl (zs355, w64 (x273 + 1)))
      )
      )
    ))
    )
    )
    )
    )
    )
  ) else (
    some (.inr (.inr x267))
  ))
noncomputable def levitate_MiddleOf_spec (p_Listappend : LevitateSensors) : Option (Int × Int) :=
  (Option.bind (loop (levitate_MiddleOf_s0 p_Listappend) (([] : List Int), 0)) fun o294 => jn0 o294 fun (x286 : (List Int)) =>
  (Option.bind (srtI x286) fun zs371 =>
  (Option.bind (levitate_within_spec p_Listappend.Slack 0 3000) fun r380 =>
  (bif (!r380) then (
    some (0, 2)
  ) else (
    (Option.bind (idx zs371 1) fun el393 =>
    (Option.bind (idx zs371 0) fun el399 =>
    (Option.bind ((bif (decide (p_Listappend.Slack < w64 (el393 - el399))) then idx zs371 2 else some default)) fun el405 =>
    (Option.bind ((bif (decide (p_Listappend.Slack < w64 (el393 - el399))) then idx zs371 1 else some default)) fun el410 =>
    (bif ((decide (p_Listappend.Slack < w64 (el393 - el399))) && (decide (p_Listappend.Slack < w64 (el405 - el410)))) then (
      some (0, 13)
    ) else (
      (Option.bind (idx zs371 1) fun el418 =>
      some (el418, 0)
      )
    ))
    )
    )
    )
    )
  ))
  )
  )
  )
theorem levitate_MiddleOf_ok (L : List Value) (w : World) (hL : LtL L w) (cs_p_Listappend : List Value) (p_Listappend : LevitateSensors) (h_p_Listappend : Rep.rd L w cs_p_Listappend p_Listappend) (r : Int × Int) (h : levitate_MiddleOf_spec p_Listappend = some r) :
    CallsTo Try.prog 13 [(.agg cs_p_Listappend.toArray)] w (fun v w' => Ext w w' ∧ (.tuple #[(.int .i64 r.1), (.int .i64 r.2)]) = v) := by
  have e0 : Ext w w := Chg.refl _ _
  have h_p_Listappend : cs_p_Listappend = [(.float .f32 p_Listappend.Values.e0), (.float .f32 p_Listappend.Values.e1), (.float .f32 p_Listappend.Values.e2), (.int .i64 p_Listappend.Slack)] := h_p_Listappend
  subst h_p_Listappend
  refine callsTo_of_WC (n := 67) (rs := [.tmp 2, .tmp 3]) Try.func13 rfl rfl rfl rfl rfl ?_
  refine WC_seqK fun K1 hK1 => ?_
  refine WC_region ?_
  refine T0_e rfl (eff_boxC (cs := [(.float .f32 p_Listappend.Values.e0), (.float .f32 p_Listappend.Values.e1), (.float .f32 p_Listappend.Values.e2), (.int .i64 p_Listappend.Slack)]) rfl rfl ?_)
  intro b2 wd3 hb4 he5 hB6
  have e8 := e0.trans he5
  refine T0_q (v := (.int .i64 0)) rfl (yl_assign rfl) ?_
  refine T0_q (v := (.int .i64 0)) rfl (yl_assign rfl) ?_
  refine T0_nil ?_
  refine hK1 _ _ ?_
  refine WC_seqK fun K10 hK10 => ?_
  refine WC_region ?_
  refine T0_q (v := (.slice none 0 0)) rfl (yl_assign rfl) ?_
  refine T0_nil ?_
  refine hK10 _ _ ?_
  refine WC_seqK fun K11 hK11 => ?_
  refine WC_seqK fun K12 hK12 => ?_
  refine WC_region ?_
  refine T0_q (v := (.pointer (some ⟨b2, 0, none⟩))) rfl (yl_fa 0 Try.underlying40 rfl rfl ⟨2, sz38⟩ rfl rfl) ?_
  refine T0_q (v := (.agg (List.toArray [(.float .f32 p_Listappend.Values.e0), (.float .f32 p_Listappend.Values.e1), (.float .f32 p_Listappend.Values.e2)]))) rfl (yl_loadA (cs := [(.float .f32 p_Listappend.Values.e0), (.float .f32 p_Listappend.Values.e1), (.float .f32 p_Listappend.Values.e2)]) ag38 rfl (At.take (Box.at hB6) 3)) ?_
  refine T0_q (v := (.int .i64 0)) rfl (yl_move rfl) ?_
  refine T0_nil ?_
  refine hK12 _ _ ?_
  have h279 : Own 3 ((.slice none 0 0) :: L) wd3 (.slice none 0 0) ([] : List Int) := Own.nil _ _ _
  have hq := bind_elim h
  clear h
  obtain ⟨o294, hl295, hn296⟩ := hq
  refine WC_post (fun (ρ : Env) (wd281 : World) => ∃ (x286 : (List Int)) (v285 : Value), .inr x286 = o294 ∧ ρ 1 = (.pointer (some ⟨b2, 0, none⟩)) ∧ ρ 4 = v285 ∧ Box wd281 b2 [(.float .f32 p_Listappend.Values.e0), (.float .f32 p_Listappend.Values.e1), (.float .f32 p_Listappend.Values.e2), (.int .i64 p_Listappend.Slack)] 40 ∧ Own 3 (v285 :: L) wd281 v285 x286 ∧ (∀ b, blk v285 = some b → w.heap.size ≤ b) ∧ (blk v285 ≠ some b2) ∧ Ext w wd281) ?_ ?_
  · clear hK1 hK10 hK11 hK12
    intro K300 hK300
    refine WC_block ?_
    refine WC_loopk (fun sv ρ wd262 => ∃ (x267 : (List Int)) (x273 : Int) (v266 : Value), (x267, x273) = sv ∧ ρ 1 = (.pointer (some ⟨b2, 0, none⟩)) ∧ ρ 4 = v266 ∧ ρ 10 = (.agg (List.toArray [(.float .f32 p_Listappend.Values.e0), (.float .f32 p_Listappend.Values.e1), (.float .f32 p_Listappend.Values.e2)])) ∧ ρ 11 = (.int .i64 x273) ∧ Box wd262 b2 [(.float .f32 p_Listappend.Values.e0), (.float .f32 p_Listappend.Values.e1), (.float .f32 p_Listappend.Values.e2), (.int .i64 p_Listappend.Slack)] 40 ∧ Own 3 (v266 :: L) wd262 v266 x267 ∧ (∀ b, blk v266 = some b → w.heap.size ≤ b) ∧ (blk v266 ≠ some b2) ∧ Ext w wd262) hl295 ⟨([] : List Int), 0, (.slice none 0 0), rfl, rfl, rfl, rfl, rfl, hB6, h279, (fun b h => blk_nil b h), (fun h => by cases h), e8⟩ ?_
    rintro _ ρ wd262 ⟨x267, x273, v266, rfl, hs264, hs271, hs272, hs274, hB276, h269, hf270, hn277, e263⟩ x297 h hx298 K299 hK299
    refine WC_seqK fun K302 hK302 => ?_
    refine WC_region ?_
    refine T0_q (v := (.bool (decide (x273 < 3)))) rfl (yl_lss hs274 rfl) ?_
    refine T0_nil ?_
    refine hK302 _ _ ?_
    refine WC_seqK fun K303 hK303 => ?_
    refine WC_cond (b := (decide (x273 < 3))) rfl (fun hb304 => ?_) (fun hb304 => ?_)
    · clear hK300 hK302
      replace h := cond_t hb304 h
      refine WC_skip ?_
      refine hK303 _ _ ?_
      refine WC_seqK fun K305 hK305 => ?_
      refine WC_block ?_
      refine WC_seqK fun K306 hK306 => ?_
      refine WC_region ?_
      have hq := bind_elim h
      clear h
      obtain ⟨el307, hel308, h⟩ := hq
      refine T0_q (v := (.float .f32 el307)) rfl (yl_index1F (xs := [p_Listappend.Values.e0, p_Listappend.Values.e1, p_Listappend.Values.e2]) Try.underlying38 sc37 sz37 rfl hs272 hs274 hel308) ?_
      refine T0_q (v := (.float .f32 el307)) rfl (yl_assign rfl) ?_
      refine T0_nil ?_
      refine hK306 _ _ ?_
      refine WC_seqK fun K309 hK309 => ?_
      refine WC_region ?_
      refine T0_q (v := (.float .f32 el307)) rfl (yl_move rfl) ?_
      refine T0_q (v := (.float .f32 el307)) rfl (yl_assign rfl) ?_
      refine T0_nil ?_
      refine hK309 _ _ ?_
      refine WC_seqK fun K310 hK310 => ?_
      refine WC_seqK fun K311 hK311 => ?_
      refine WC_region ?_
      refine T0_q (v := (.float .f32 el307)) rfl (yl_move rfl) ?_
      have hq := bind_elim h
      clear h
      obtain ⟨r312, hr313, h⟩ := hq
      refine T0_e rfl (eff_call Try.func43 nm43 rfl (ev1 rfl) (levitate_reading_whole_ok [] _ (LtL.nil _) el307 r312 hr313) ?_)
      rintro _ wd314 ⟨he315, rfl⟩
      have e316 := e263.trans he315
      have hq := bind_elim h
      clear h
      obtain ⟨r317, hr318, h⟩ := hq
      refine T0_e rfl (eff_call Try.func40 nm40 rfl (ev2 rfl rfl) (levitate_unless_ok [] _ (LtL.nil _) r312 3 r317 hr318) ?_)
      rintro _ wd319 ⟨he320, rfl⟩
      have e321 := he315.trans he320
      have e322 := e316.trans he320
      refine T0_q (v := (.float .f32 el307)) rfl (yl_move rfl) ?_
      refine T0_q (v := (.bool (fGe el307 0))) rfl (yl_fgeq rfl rfl) ?_
      refine T0_q (v := (.bool (fGe el307 0))) rfl (yl_move rfl) ?_
      refine T0_g (v := (.float .f32 el307)) (fGe el307 0) (wanted_t rfl rfl rfl rfl) (fun hg => (yl_move rfl)) ?_
      refine T0_g (v := (.bool (fLe el307 1161527296))) (fGe el307 0) (wanted_t rfl rfl rfl rfl) (fun hg => (yl_fleq (gd_true hg) rfl)) ?_
      refine T0_q (v := (.bool ((fGe el307 0) && (fLe el307 1161527296)))) rfl (yl_and rfl (fun hb => (gd_true hb)) rfl) ?_
      have hq := bind_elim h
      clear h
      obtain ⟨r323, hr324, h⟩ := hq
      refine T0_e rfl (eff_call Try.func40 nm40 rfl (ev2 rfl rfl) (levitate_unless_ok [] _ (LtL.nil _) ((fGe el307 0) && (fLe el307 1161527296)) 2 r323 hr324) ?_)
      rintro _ wd325 ⟨he326, rfl⟩
      have e327 := e321.trans he326
      have e328 := e322.trans he326
      refine T0_e rfl (eff_buildTC (xs := ([r317, r323] : List Int)) (cells := [(.int .i64 r317), (.int .i64 r323)]) Try.underlying108 ei30 rfl (pc_cons rfl rfl (pc_cons rfl rfl pc_nil)) rfl (Elems.cons (cs := [(.int .i64 r317)]) rfl (Elems.cons (cs := [(.int .i64 r323)]) rfl Elems.nil)) rfl (ltl_own (hL.chg e328) (h269.ext e327)) ?_)
      intro b332 wd329 he330 h331
      have e333 := e327.trans he330
      have e334 := e328.trans he330
      have hq := bind_elim h
      clear h
      obtain ⟨r336, hr337, h⟩ := hq
      refine T0_e rfl (eff_call Try.func39 nm39 rfl (ev1 rfl) (levitate_first_ok [] _ (LtL.nil _) (.slice (some ⟨b332, 0, none⟩) 2 2) ([r317, r323] : List Int) (h331.sub (fun _ h => by cases h)) r336 hr337) ?_)
      rintro _ wd338 ⟨he339, rfl⟩
      have e340 := e333.trans he339
      have e341 := e334.trans he339
      refine T0_q (v := (.int .i64 r336)) rfl (yl_assign rfl) ?_
      refine T0_nil ?_
      refine hK311 _ _ ?_
      refine WC_seqK fun K342 hK342 => ?_
      refine WC_region ?_
      refine T0_q (v := (.int .i64 r336)) rfl (yl_move rfl) ?_
      refine T0_q (v := (.bool (!decide (r336 = 0)))) rfl (yl_neq rfl rfl) ?_
      refine T0_nil ?_
      refine hK342 _ _ ?_
      refine WC_cond (b := (!decide (r336 = 0))) rfl (fun hb343 => ?_) (fun hb343 => ?_)
      · clear hK299 hK303 hK305 hK306 hK309 hK310 hK311 hK342
        replace h := cond_t hb343 h
        refine WC_seqK fun K344 hK344 => ?_
        refine WC_region ?_
        refine T0_q (v := (.int .i64 r336)) rfl (yl_move rfl) ?_
        refine T0_q (v := (.int .i64 0)) rfl (yl_assign rfl) ?_
        refine T0_q (v := (.int .i64 r336)) rfl (yl_assign rfl) ?_
        refine T0_nil ?_
        refine hK344 _ _ ?_
        refine WC_ret ?_
        replace h := some_out h
        subst h
        have ho := hx298 _ rfl
        subst ho
        replace h := jn0_inl hn296
        replace h := some_out h
        subst h
        exact ⟨[(.int .i64 0), (.int .i64 r336)], ⟨rfl, rfl, trivial⟩, e341, rfl⟩
      · clear hK303 hK306 hK309 hK311 hK342
        replace h := cond_f hb343 h
        refine WC_skip ?_
        refine hK310 _ _ ?_
        refine WC_region ?_
        refine T0_q (v := v266) rfl (yl_move hs271) ?_
        refine T0_q (v := (.float .f32 el307)) rfl (yl_move rfl) ?_
        have hq := bind_elim h
        clear h
        obtain ⟨q345, hq346, h⟩ := hq
        refine T0_q (v := (.int .i64 q345)) rfl (yl_ftoi hq346 Try.underlying84 Try.underlying3 rfl) ?_
        refine T0_e rfl (eff_buildTC (xs := ([q345] : List Int)) (cells := [(.int .i64 q345)]) Try.underlying23 ei3 rfl (pc_cons rfl rfl pc_nil) rfl (Elems.cons (cs := [(.int .i64 q345)]) rfl Elems.nil) rfl (ltl_own (hL.chg e341) (h269.ext e340)) ?_)
        intro b350 wd347 he348 h349
        have e351 := e340.trans he348
        have e353 := e341.trans he348
        have hq := bind_elim h
        clear h
        obtain ⟨zs355, hz356, h⟩ := hq
        refine T0_e rfl (eff_app Try.underlying23 ei3 rfl rfl rfl rfl (h269.ext e351) h349 hz356 ?_)
        intro v357 wd358 hc359 hbl360 h361
        have hn363 : blk v357 ≠ some b2 := ne_swap hbl360 hn277 (hB276.ext e351)
        have hf364 := fresh_swap hbl360 hf270 e353.size
        have h365 := (hB276.ext e351).chg hc359 (avoid1 hn277)
        have e368 := chg_own e353 hc359 hf270
        refine T0_q (v := v357) rfl (yl_assign rfl) ?_
        refine T0_nil ?_
        refine hK305 _ _ ?_
        refine WC_region ?_
        refine T0_q (v := (.int .i64 (w64 (x273 + 1)))) rfl (yl_add hs274 rfl) ?_
        refine T0_q (v := (.int .i64 (w64 (x273 + 1)))) rfl (yl_move rfl) ?_
        refine T0_nil ?_
        replace h := some_out h
        subst h
        refine hK299 _ _ _ rfl ?_
        exact ⟨zs355, w64 (x273 + 1), v357, rfl, hs264, rfl, hs272, rfl, h365, h361, hf364, hn363, e368⟩
    · clear hK299 hK302 hK303
      replace h := cond_f hb304 h
      refine WC_exit ?_
      replace h := some_out h
      subst h
      have ho := hx298 _ rfl
      subst ho
      refine hK300 _ _ ?_
      exact ⟨x267, v266, rfl, hs264, hs271, hB276, h269, hf270, hn277, e263⟩
  · clear hK1 hK10 hK12
    rintro ρ wd281 ⟨x286, v285, rfl, hs283, hs290, hB292, h288, hf289, hn293, e282⟩
    replace h := jn0_inr hn296
    refine hK11 _ _ ?_
    refine WC_seqK fun K370 hK370 => ?_
    refine WC_region ?_
    refine T0_q (v := v285) rfl (yl_move hs290) ?_
    have hq := bind_elim h
    clear h
    obtain ⟨zs371, hz372, h⟩ := hq
    refine T0_e rfl (eff_call Try.func44 nm44 rfl (ev1 rfl) (srtI_ok h288 hz372) ?_)
    rintro _ wd373 ⟨hc374, rfl, h375⟩
    have h376 := hB292.chg hc374 (avoid1 hn293)
    have e377 := chg_own e282 hc374 hf289
    refine T0_nil ?_
    refine hK370 _ _ ?_
    refine WC_seqK fun K378 hK378 => ?_
    refine WC_seqK fun K379 hK379 => ?_
    refine WC_region ?_
    refine T0_q (v := (.pointer (some ⟨b2, 3, none⟩))) rfl (yl_fa 3 Try.underlying40 rfl rfl ⟨0, sz3⟩ hs283 rfl) ?_
    refine T0_q (v := (.int .i64 p_Listappend.Slack)) rfl (yl_load sc3 rfl (At.drop (Box.at h376) 3)) ?_
    have hq := bind_elim h
    clear h
    obtain ⟨r380, hr381, h⟩ := hq
    refine T0_e rfl (eff_call Try.func38 nm38 rfl (ev3 rfl rfl rfl) (levitate_within_ok [] _ (LtL.nil _) p_Listappend.Slack 0 3000 r380 hr381) ?_)
    rintro _ wd382 ⟨he383, rfl⟩
    have e384 := e377.trans he383
    refine T0_q (v := (.bool (!r380))) rfl (yl_not rfl) ?_
    refine T0_nil ?_
    refine hK379 _ _ ?_
    refine WC_cond (b := (!r380)) rfl (fun hb385 => ?_) (fun hb385 => ?_)
    · clear hK11 hK370 hK378 hK379
      replace h := cond_t hb385 h
      refine WC_seqK fun K386 hK386 => ?_
      refine WC_region ?_
      refine T0_q (v := (.int .i64 0)) rfl (yl_assign rfl) ?_
      refine T0_q (v := (.int .i64 2)) rfl (yl_assign rfl) ?_
      refine T0_nil ?_
      refine hK386 _ _ ?_
      refine WC_ret ?_
      replace h := some_out h
      subst h
      exact ⟨[(.int .i64 0), (.int .i64 2)], ⟨rfl, rfl, trivial⟩, e384, rfl⟩
    · clear hK11 hK370 hK379
      replace h := cond_f hb385 h
      refine WC_skip ?_
      refine hK378 _ _ ?_
      refine WC_seqK fun K387 hK387 => ?_
      refine WC_seqK fun K388 hK388 => ?_
      refine WC_planX mixed (.p 0 (.p 1 (.p 3 (.p 4 (.p 7 (.q 2 (.q 5 (.p 6 (.q 8 (.p 9 (.p 10 (.p 11 (.p 12 (.p 14 (.p 15 (.p 18 (.q 13 (.q 16 (.p 17 (.q 19 (.p 20 (.p 21 .done)))))))))))))))))))))) (by kernel_rfl) ?_
      intro wd389 he390
      have e391 := he383.trans he390
      have e392 := e384.trans he390
      refine TX_p (v := v285) rfl rfl (fun w' => (yl_move hs290)) ?_
      have hq := bind_elim h
      clear h
      obtain ⟨el393, hel394, h⟩ := hq
      have hq := Own.at h375 hel394
      obtain ⟨cs395, hat396, hrd397⟩ := hq
      have hrd397 : cs395 = [(.int .i64 el393)] := hrd397
      subst hrd397
      refine TX_p (v := (.pointer (some (elemAddr v285 (1 : Int).toNat 1)))) rfl rfl (fun w' => (yl_indexAddrO Try.underlying23 sz3 h375 hel394 rfl rfl)) ?_
      refine TX_p (v := v285) rfl rfl (fun w' => (yl_move hs290)) ?_
      have hq := bind_elim h
      clear h
      obtain ⟨el399, hel400, h⟩ := hq
      have hq := Own.at h375 hel400
      obtain ⟨cs401, hat402, hrd403⟩ := hq
      have hrd403 : cs401 = [(.int .i64 el399)] := hrd403
      subst hrd403
      refine TX_p (v := (.pointer (some (elemAddr v285 (0 : Int).toNat 1)))) rfl rfl (fun w' => (yl_indexAddrO Try.underlying23 sz3 h375 hel400 rfl rfl)) ?_
      refine TX_p (v := (.pointer (some ⟨b2, 3, none⟩))) rfl rfl (fun w' => (yl_fa 3 Try.underlying40 rfl rfl ⟨0, sz3⟩ hs283 rfl)) ?_
      refine TX_q (v := (.int .i64 el393)) rfl rfl (fun w' hS => (yl_load sc3 rfl (hat396.ext' (e391.trans hS)))) ?_
      refine TX_q (v := (.int .i64 el399)) rfl rfl (fun w' hS => (yl_load sc3 rfl (hat402.ext' (e391.trans hS)))) ?_
      refine TX_p (v := (.int .i64 (w64 (el393 - el399)))) rfl rfl (fun w' => (yl_sub rfl rfl)) ?_
      refine TX_q (v := (.int .i64 p_Listappend.Slack)) rfl rfl (fun w' hS => (yl_load sc3 rfl (At.drop (Box.at (h376.ext (e391.trans hS))) 3))) ?_
      refine TX_p (v := (.bool (decide (p_Listappend.Slack < w64 (el393 - el399))))) rfl rfl (fun w' => (yl_gtr rfl rfl)) ?_
      refine TX_p (v := (.bool (decide (p_Listappend.Slack < w64 (el393 - el399))))) rfl rfl (fun w' => (yl_move rfl)) ?_
      refine TX_gp (v := v285) (decide (p_Listappend.Slack < w64 (el393 - el399))) rfl (wanted_t rfl rfl rfl rfl) (fun w' hg => (yl_move hs290)) ?_
      have hq := bind_elim h
      clear h
      obtain ⟨el405, hel406, h⟩ := hq
      have hat408 : (decide (p_Listappend.Slack < w64 (el393 - el399))) = true → At wd373 (elemAddr v285 (2 : Int).toNat 1) [(.int .i64 el405)] := fun hg => by obtain ⟨cs, hat, hrd⟩ := Own.at h375 (cond_t hg hel406); have hrd : cs = [(.int .i64 el405)] := hrd; subst hrd; exact hat
      refine TX_gp (v := (.pointer (some (elemAddr v285 (2 : Int).toNat 1)))) (decide (p_Listappend.Slack < w64 (el393 - el399))) rfl (wanted_t rfl rfl rfl rfl) (fun w' hg => (yl_indexAddrO Try.underlying23 sz3 h375 (cond_t hg hel406) (gd_true hg) rfl)) ?_
      refine TX_gp (v := v285) (decide (p_Listappend.Slack < w64 (el393 - el399))) rfl (wanted_t rfl rfl rfl rfl) (fun w' hg => (yl_move hs290)) ?_
      have hq := bind_elim h
      clear h
      obtain ⟨el410, hel411, h⟩ := hq
      have hat413 : (decide (p_Listappend.Slack < w64 (el393 - el399))) = true → At wd373 (elemAddr v285 (1 : Int).toNat 1) [(.int .i64 el410)] := fun hg => by obtain ⟨cs, hat, hrd⟩ := Own.at h375 (cond_t hg hel411); have hrd : cs = [(.int .i64 el410)] := hrd; subst hrd; exact hat
      refine TX_gp (v := (.pointer (some (elemAddr v285 (1 : Int).toNat 1)))) (decide (p_Listappend.Slack < w64 (el393 - el399))) rfl (wanted_t rfl rfl rfl rfl) (fun w' hg => (yl_indexAddrO Try.underlying23 sz3 h375 (cond_t hg hel411) (gd_true hg) rfl)) ?_
      refine TX_gp (v := (.pointer (some ⟨b2, 3, none⟩))) (decide (p_Listappend.Slack < w64 (el393 - el399))) rfl (wanted_t rfl rfl rfl rfl) (fun w' hg => (yl_fa 3 Try.underlying40 rfl rfl ⟨0, sz3⟩ hs283 rfl)) ?_
      refine TX_gq (v := (.int .i64 el405)) (decide (p_Listappend.Slack < w64 (el393 - el399))) rfl (wanted_t rfl rfl rfl rfl) (fun w' hS hg => (yl_load sc3 (gd_true hg) ((hat408 hg).ext' (e391.trans hS)))) ?_
      refine TX_gq (v := (.int .i64 el410)) (decide (p_Listappend.Slack < w64 (el393 - el399))) rfl (wanted_t rfl rfl rfl rfl) (fun w' hS hg => (yl_load sc3 (gd_true hg) ((hat413 hg).ext' (e391.trans hS)))) ?_
      refine TX_gp (v := (.int .i64 (w64 (el405 - el410)))) (decide (p_Listappend.Slack < w64 (el393 - el399))) rfl (wanted_t rfl rfl rfl rfl) (fun w' hg => (yl_sub (gd_true hg) (gd_true hg))) ?_
      refine TX_gq (v := (.int .i64 p_Listappend.Slack)) (decide (p_Listappend.Slack < w64 (el393 - el399))) rfl (wanted_t rfl rfl rfl rfl) (fun w' hS hg => (yl_load sc3 (gd_true hg) (At.drop (Box.at (h376.ext (e391.trans hS))) 3))) ?_
      refine TX_gp (v := (.bool (decide (p_Listappend.Slack < w64 (el405 - el410))))) (decide (p_Listappend.Slack < w64 (el393 - el399))) rfl (wanted_t rfl rfl rfl rfl) (fun w' hg => (yl_gtr (gd_true hg) (gd_true hg))) ?_
      refine TX_p (v := (.bool ((decide (p_Listappend.Slack < w64 (el393 - el399))) && (decide (p_Listappend.Slack < w64 (el405 - el410)))))) rfl rfl (fun w' => (yl_and rfl (fun hb => (gd_true hb)) rfl)) ?_
      refine TX_done ?_
      refine hK388 _ _ ?_
      refine WC_cond (b := ((decide (p_Listappend.Slack < w64 (el393 - el399))) && (decide (p_Listappend.Slack < w64 (el405 - el410))))) rfl (fun hb415 => ?_) (fun hb415 => ?_)
      · clear hK378 hK387 hK388
        replace h := cond_t hb415 h
        refine WC_seqK fun K416 hK416 => ?_
        refine WC_region ?_
        refine T0_q (v := (.int .i64 0)) rfl (yl_assign rfl) ?_
        refine T0_q (v := (.int .i64 13)) rfl (yl_assign rfl) ?_
        refine T0_nil ?_
        refine hK416 _ _ ?_
        refine WC_ret ?_
        replace h := some_out h
        subst h
        exact ⟨[(.int .i64 0), (.int .i64 13)], ⟨rfl, rfl, trivial⟩, e392, rfl⟩
      · clear hK378 hK388
        replace h := cond_f hb415 h
        refine WC_skip ?_
        refine hK387 _ _ ?_
        refine WC_seqK fun K417 hK417 => ?_
        refine WC_region ?_
        refine T0_q (v := v285) rfl (yl_move hs290) ?_
        have hq := bind_elim h
        clear h
        obtain ⟨el418, hel419, h⟩ := hq
        have hq := Own.at h375 hel419
        obtain ⟨cs420, hat421, hrd422⟩ := hq
        have hrd422 : cs420 = [(.int .i64 el418)] := hrd422
        subst hrd422
        refine T0_q (v := (.pointer (some (elemAddr v285 (1 : Int).toNat 1)))) rfl (yl_indexAddrO Try.underlying23 sz3 h375 hel419 rfl rfl) ?_
        refine T0_q (v := (.int .i64 el418)) rfl (yl_load sc3 rfl (hat421.ext' e391)) ?_
        refine T0_q (v := (.int .i64 el418)) rfl (yl_assign rfl) ?_
        refine T0_q (v := (.int .i64 0)) rfl (yl_assign rfl) ?_
        refine T0_nil ?_
        refine hK417 _ _ ?_
        refine WC_ret ?_
        replace h := some_out h
        subst h
        exact ⟨[(.int .i64 el418), (.int .i64 0)], ⟨rfl, rfl, trivial⟩, e392, rfl⟩

noncomputable def levitate_CheckPlant_1_spec (p_n : Int) : Option Bool :=
  (Option.bind (levitate_within_spec p_n 0 10000) fun r3 =>
  some (!r3)
  )
theorem levitate_CheckPlant_1_ok (L : List Value) (w : World) (hL : LtL L w) (p_n : Int) (r : Bool) (h : levitate_CheckPlant_1_spec p_n = some r) :
    CallsTo Try.prog 37 [(.int .i64 p_n)] w (fun v w' => Ext w w' ∧ (.bool r) = v) := by
  have e0 : Ext w w := Chg.refl _ _
  refine callsTo_of_WC (n := 6) (rs := [.tmp 2]) Try.func37 rfl rfl rfl rfl rfl ?_
  refine WC_seqK fun K1 hK1 => ?_
  refine WC_region ?_
  refine T0_q (v := (.bool false)) rfl (yl_assign rfl) ?_
  refine T0_nil ?_
  refine hK1 _ _ ?_
  refine WC_seqK fun K2 hK2 => ?_
  refine WC_region ?_
  refine T0_q (v := (.int .i64 p_n)) rfl (yl_move rfl) ?_
  have hq := bind_elim h
  clear h
  obtain ⟨r3, hr4, h⟩ := hq
  refine T0_e rfl (eff_call Try.func38 nm38 rfl (ev3 rfl rfl rfl) (levitate_within_ok [] _ (LtL.nil _) p_n 0 10000 r3 hr4) ?_)
  rintro _ wd5 ⟨he6, rfl⟩
  have e7 := e0.trans he6
  refine T0_q (v := (.bool (!r3))) rfl (yl_not rfl) ?_
  refine T0_q (v := (.bool (!r3))) rfl (yl_assign rfl) ?_
  refine T0_nil ?_
  refine hK2 _ _ ?_
  refine WC_ret ?_
  replace h := some_out h
  subst h
  exact ⟨[(.bool (!r3))], ⟨rfl, trivial⟩, e7, rfl⟩

noncomputable def levitate_wide_times_s0 (el812 : Int) (p_b : Arr3_U64) (x777 : Int) : (Int × Int × Int × Int × Int) → Option ((Int × Int × Int × Int × Int) ⊕ (Int × Int × Int)) := fun (x966, x968, x976, x977, x978) =>
  (bif (decide (w64 (x777 + x968) < 3)) then (
    (Option.bind (idx [p_b.e0, p_b.e1, p_b.e2] x968) fun el1010 =>
    (Option.bind (math_bits_Mul64_spec el812 el1010) fun r1012 =>
    (Option.bind (idx [x976, x977, x978] (w64 (x777 + x968))) fun el1018 =>
    (Option.bind (addC el1018 r1012.2 0) fun r1020 =>
    (Option.bind (addC r1020.1 x966 0) fun r1023 =>
    (Option.bind (idx [x976, x977, x978] (w64 (x777 + x968))) fun el1025 =>
    some (.inl (IntKind.wrap .u64 ((IntKind.wrap .u64 (r1012.1 + r1020.2)) + r1023.2), w64 (x968 + 1), (bif Nat.beq (w64 (x777 + x968) : Int).toNat 0 then r1023.1 else x976), (bif Nat.beq (w64 (x777 + x968) : Int).toNat 1 then r1023.1 else x977), (bif Nat.beq (w64 (x777 + x968) : Int).toNat 2 then r1023.1 else x978)))
    )
    )
    )
    )
    )
    )
  ) else (
    some (.inr (x976, x977, x978))
  ))
noncomputable def levitate_wide_times_s1 (p_a : Arr3_U64) (p_b : Arr3_U64) : (Int × Int × Int × Int) → Option ((Int × Int × Int × Int) ⊕ (Int × Int × Int)) := fun (x777, x783, x784, x785) =>
  (bif (decide (x777 < 3)) then (
    (Option.bind (idx [p_a.e0, p_a.e1, p_a.e2] x777) fun el812 =>
    (Option.bind (loop (levitate_wide_times_s0 el812 p_b x777) (0, 0, x783, x784, x785)) fun ((x992, x993, x994) : Int × Int × Int) =>
    some (.inl (w64 (x777 + 1), x992, x993, x994))
    )
    )
  ) else (
    some (.inr (x783, x784, x785))
  ))
noncomputable def levitate_wide_times_spec (p_a : Arr3_U64) (p_b : Arr3_U64) : Option Arr3_U64 :=
  (Option.bind (loop (levitate_wide_times_s1 p_a p_b) (0, 0, 0, 0)) fun ((x794, x795, x796) : Int × Int × Int) =>
  some (Arr3_U64.mk x794 x795 x796)
  )
theorem levitate_wide_times_ok (L : List Value) (w : World) (hL : LtL L w) (cs_p_a : List Value) (p_a : Arr3_U64) (h_p_a : Rep.rd L w cs_p_a p_a) (cs_p_b : List Value) (p_b : Arr3_U64) (h_p_b : Rep.rd L w cs_p_b p_b) (r : Arr3_U64) (h : levitate_wide_times_spec p_a p_b = some r) :
    CallsTo Try.prog 80 [(.agg cs_p_a.toArray), (.agg cs_p_b.toArray)] w (fun v w' => Ext w w' ∧ ∃ (cs0 : List Value), (.agg cs0.toArray) = v ∧ Rep.rd L w' cs0 r) := by
  have e0 : Ext w w := Chg.refl _ _
  have h_p_a : cs_p_a = [(.int .u64 p_a.e0), (.int .u64 p_a.e1), (.int .u64 p_a.e2)] := h_p_a
  subst h_p_a
  have h_p_b : cs_p_b = [(.int .u64 p_b.e0), (.int .u64 p_b.e1), (.int .u64 p_b.e2)] := h_p_b
  subst h_p_b
  refine callsTo_of_WC (n := 62) (rs := [.cell 4 120]) Try.func80 rfl rfl rfl rfl rfl ?_
  refine WC_seqK fun K1 hK1 => ?_
  refine WC_region ?_
  refine T0_e rfl (eff_boxC (cs := [(.int .u64 p_a.e0), (.int .u64 p_a.e1), (.int .u64 p_a.e2)]) rfl rfl ?_)
  intro b2 wd3 hb4 he5 hB6
  have e8 := e0.trans he5
  refine T0_e rfl (eff_boxC (cs := [(.int .u64 p_b.e0), (.int .u64 p_b.e1), (.int .u64 p_b.e2)]) rfl rfl ?_)
  intro b10 wd11 hb12 he13 hB14
  have e17 := e8.trans he13
  refine T0_e rfl (eff_allocZ zi120 ?_)
  intro b19 wd20 hb21 he22 hB23
  have hbf26 := bfresh e17 hb21
  have e27 := he13.trans he22
  have e28 := e17.trans he22
  refine T0_nil ?_
  refine hK1 _ _ ?_
  refine WC_seqK fun K30 hK30 => ?_
  refine WC_region ?_
  refine T0_e rfl (eff_allocZ zi120 ?_)
  intro b31 wd32 hb33 he34 hB35
  have hn37 : b31 ≠ b10 := box_ne (hB14.ext he22) hb33
  have hn38 : b31 ≠ b19 := box_ne hB23 hb33
  have hbf39 := bfresh e28 hb33
  have e40 := he22.trans he34
  have e41 := e27.trans he34
  have e42 := e28.trans he34
  refine T0_nil ?_
  refine hK30 _ _ ?_
  refine WC_seqK fun K44 hK44 => ?_
  refine WC_seqK fun K45 hK45 => ?_
  refine WC_region ?_
  refine T0_q (v := (.agg (List.toArray [(.int .u64 p_a.e0), (.int .u64 p_a.e1), (.int .u64 p_a.e2)]))) rfl (yl_loadA (cs := [(.int .u64 p_a.e0), (.int .u64 p_a.e1), (.int .u64 p_a.e2)]) ag120 rfl (Box.at (hB6.ext e41))) ?_
  refine T0_q (v := (.int .i64 0)) rfl (yl_move rfl) ?_
  refine T0_nil ?_
  refine hK45 _ _ ?_
  have hq := bind_elim h
  clear h
  obtain ⟨o799, hl800, hn801⟩ := hq
  refine WC_post (fun (ρ : Env) (wd788 : World) => ∃ (x794 : Int) (x795 : Int) (x796 : Int), (x794, x795, x796) = o799 ∧ ρ 4 = (.pointer (some ⟨b19, 0, none⟩)) ∧ ρ 5 = (.pointer (some ⟨b31, 0, none⟩)) ∧ Box wd788 b19 [(.int .u64 0), (.int .u64 0), (.int .u64 0)] 120 ∧ Box wd788 b31 [(.int .u64 x794), (.int .u64 x795), (.int .u64 x796)] 120 ∧ Ext w wd788) ?_ ?_
  · clear hK1 hK30 hK44 hK45
    intro K805 hK805
    refine WC_block ?_
    refine WC_loopk (fun sv ρ wd771 => ∃ (x777 : Int) (x783 : Int) (x784 : Int) (x785 : Int), (x777, x783, x784, x785) = sv ∧ ρ 3 = (.pointer (some ⟨b10, 0, none⟩)) ∧ ρ 4 = (.pointer (some ⟨b19, 0, none⟩)) ∧ ρ 5 = (.pointer (some ⟨b31, 0, none⟩)) ∧ ρ 15 = (.agg (List.toArray [(.int .u64 p_a.e0), (.int .u64 p_a.e1), (.int .u64 p_a.e2)])) ∧ ρ 16 = (.int .i64 x777) ∧ Box wd771 b10 [(.int .u64 p_b.e0), (.int .u64 p_b.e1), (.int .u64 p_b.e2)] 120 ∧ Box wd771 b19 [(.int .u64 0), (.int .u64 0), (.int .u64 0)] 120 ∧ Box wd771 b31 [(.int .u64 x783), (.int .u64 x784), (.int .u64 x785)] 120 ∧ Ext w wd771) hl800 ⟨0, 0, 0, 0, rfl, rfl, rfl, rfl, rfl, rfl, (hB14.ext e40), (hB23.ext he34), hB35, e42⟩ ?_
    rintro _ ρ wd771 ⟨x777, x783, x784, x785, rfl, hs773, hs774, hs775, hs776, hs778, hB780, hB782, hB787, e772⟩ x802 h hx803 K804 hK804
    refine WC_seqK fun K807 hK807 => ?_
    refine WC_region ?_
    refine T0_q (v := (.bool (decide (x777 < 3)))) rfl (yl_lss hs778 rfl) ?_
    refine T0_nil ?_
    refine hK807 _ _ ?_
    refine WC_seqK fun K808 hK808 => ?_
    refine WC_cond (b := (decide (x777 < 3))) rfl (fun hb809 => ?_) (fun hb809 => ?_)
    · clear hK805 hK807
      replace h := cond_t hb809 h
      refine WC_skip ?_
      refine hK808 _ _ ?_
      refine WC_seqK fun K810 hK810 => ?_
      refine WC_block ?_
      refine WC_seqK fun K811 hK811 => ?_
      refine WC_region ?_
      refine T0_q (v := (.int .i64 x777)) rfl (yl_move hs778) ?_
      have hq := bind_elim h
      clear h
      obtain ⟨el812, hel813, h⟩ := hq
      refine T0_q (v := (.int .u64 el812)) rfl (yl_index1 (xs := [p_a.e0, p_a.e1, p_a.e2]) Try.underlying120 sc118 sz118 rfl hs776 hs778 hel813) ?_
      refine T0_q (v := (.int .i64 x777)) rfl (yl_assign rfl) ?_
      refine T0_q (v := (.int .u64 el812)) rfl (yl_assign rfl) ?_
      refine T0_nil ?_
      refine hK811 _ _ ?_
      refine WC_seqK fun K814 hK814 => ?_
      refine WC_region ?_
      refine T0_q (v := (.int .u64 0)) rfl (yl_assign rfl) ?_
      refine T0_nil ?_
      refine hK814 _ _ ?_
      refine WC_seqK fun K815 hK815 => ?_
      refine WC_region ?_
      refine T0_q (v := (.int .i64 0)) rfl (yl_assign rfl) ?_
      refine T0_nil ?_
      refine hK815 _ _ ?_
      have hq := bind_elim h
      clear h
      obtain ⟨o997, hl998, hn999⟩ := hq
      refine WC_post (fun (ρ : Env) (wd981 : World) => ∃ (x992 : Int) (x993 : Int) (x994 : Int), (x992, x993, x994) = o997 ∧ ρ 3 = (.pointer (some ⟨b10, 0, none⟩)) ∧ ρ 4 = (.pointer (some ⟨b19, 0, none⟩)) ∧ ρ 5 = (.pointer (some ⟨b31, 0, none⟩)) ∧ ρ 15 = (.agg (List.toArray [(.int .u64 p_a.e0), (.int .u64 p_a.e1), (.int .u64 p_a.e2)])) ∧ ρ 16 = (.int .i64 x777) ∧ Box wd981 b10 [(.int .u64 p_b.e0), (.int .u64 p_b.e1), (.int .u64 p_b.e2)] 120 ∧ Box wd981 b19 [(.int .u64 0), (.int .u64 0), (.int .u64 0)] 120 ∧ Box wd981 b31 [(.int .u64 x992), (.int .u64 x993), (.int .u64 x994)] 120 ∧ Ext w wd981) ?_ ?_
      · clear hK804 hK808 hK810 hK811 hK814 hK815
        intro K1003 hK1003
        refine WC_block ?_
        refine WC_loopk (fun sv ρ wd959 => ∃ (x966 : Int) (x968 : Int) (x976 : Int) (x977 : Int) (x978 : Int), (x966, x968, x976, x977, x978) = sv ∧ ρ 3 = (.pointer (some ⟨b10, 0, none⟩)) ∧ ρ 4 = (.pointer (some ⟨b19, 0, none⟩)) ∧ ρ 5 = (.pointer (some ⟨b31, 0, none⟩)) ∧ ρ 6 = (.int .i64 x777) ∧ ρ 7 = (.int .u64 el812) ∧ ρ 8 = (.int .u64 x966) ∧ ρ 9 = (.int .i64 x968) ∧ ρ 15 = (.agg (List.toArray [(.int .u64 p_a.e0), (.int .u64 p_a.e1), (.int .u64 p_a.e2)])) ∧ ρ 16 = (.int .i64 x777) ∧ Box wd959 b10 [(.int .u64 p_b.e0), (.int .u64 p_b.e1), (.int .u64 p_b.e2)] 120 ∧ Box wd959 b19 [(.int .u64 0), (.int .u64 0), (.int .u64 0)] 120 ∧ Box wd959 b31 [(.int .u64 x976), (.int .u64 x977), (.int .u64 x978)] 120 ∧ Ext w wd959) hl998 ⟨0, 0, x783, x784, x785, rfl, hs773, hs774, hs775, rfl, rfl, rfl, rfl, hs776, hs778, hB780, hB782, hB787, e772⟩ ?_
        rintro _ ρ wd959 ⟨x966, x968, x976, x977, x978, rfl, hs961, hs962, hs963, hs964, hs965, hs967, hs969, hs970, hs971, hB973, hB975, hB980, e960⟩ x1000 h hx1001 K1002 hK1002
        refine WC_seqK fun K1005 hK1005 => ?_
        refine WC_seqK fun K1006 hK1006 => ?_
        refine WC_region ?_
        refine T0_q (v := (.int .i64 x777)) rfl (yl_move hs964) ?_
        refine T0_q (v := (.int .i64 x968)) rfl (yl_move hs969) ?_
        refine T0_q (v := (.int .i64 (w64 (x777 + x968)))) rfl (yl_add rfl rfl) ?_
        refine T0_q (v := (.bool (decide (w64 (x777 + x968) < 3)))) rfl (yl_lss rfl rfl) ?_
        refine T0_nil ?_
        refine hK1006 _ _ ?_
        refine WC_cond (b := (decide (w64 (x777 + x968) < 3))) rfl (fun hb1007 => ?_) (fun hb1007 => ?_)
        · clear hK1003 hK1006
          replace h := cond_t hb1007 h
          refine WC_skip ?_
          refine hK1005 _ _ ?_
          refine WC_seqK fun K1008 hK1008 => ?_
          refine WC_block ?_
          refine WC_seqK fun K1009 hK1009 => ?_
          refine WC_region ?_
          refine T0_q (v := (.int .u64 el812)) rfl (yl_move hs965) ?_
          refine T0_q (v := (.int .i64 x968)) rfl (yl_move hs969) ?_
          have hq := bind_elim h
          clear h
          obtain ⟨el1010, hel1011, h⟩ := hq
          refine T0_q (v := (.pointer (some (Addr.add ⟨b10, 0, none⟩ ((x968 : Int).toNat * 1))))) rfl (yl_indexAddrA Try.underlying120 sz118 (idx_some hel1011).1 (glob_lt (xs := [p_b.e0, p_b.e1, p_b.e2]) hel1011) hs961 rfl) ?_
          refine T0_q (v := (.int .u64 el1010)) rfl (yl_load sc118 rfl (glob_atk (xs := [p_b.e0, p_b.e1, p_b.e2]) (Box.at hB973) hel1011)) ?_
          have hq := bind_elim h
          clear h
          obtain ⟨r1012, hr1013, h⟩ := hq
          refine T0_e rfl (eff_call Try.func108 nm108 rfl (ev2 rfl rfl) (math_bits_Mul64_ok [] _ (LtL.nil _) el812 el1010 r1012 hr1013) ?_)
          rintro _ wd1014 ⟨he1015, rfl⟩
          have e1016 := e960.trans he1015
          refine T0_q (v := (.tuple #[(.int .u64 r1012.1), (.int .u64 r1012.2)])) rfl (yl_move rfl) ?_
          refine T0_q (v := (.int .u64 r1012.1)) rfl (yl_extract rfl rfl) ?_
          refine T0_q (v := (.int .u64 r1012.2)) rfl (yl_extract rfl rfl) ?_
          refine T0_q (v := (.int .u64 r1012.1)) rfl (yl_assign rfl) ?_
          refine T0_q (v := (.int .u64 r1012.2)) rfl (yl_assign rfl) ?_
          refine T0_nil ?_
          refine hK1009 _ _ ?_
          refine WC_seqK fun K1017 hK1017 => ?_
          refine WC_region ?_
          refine T0_q (v := (.int .i64 x777)) rfl (yl_move hs964) ?_
          refine T0_q (v := (.int .i64 x968)) rfl (yl_move hs969) ?_
          refine T0_q (v := (.int .i64 (w64 (x777 + x968)))) rfl (yl_add rfl rfl) ?_
          have hq := bind_elim h
          clear h
          obtain ⟨el1018, hel1019, h⟩ := hq
          refine T0_q (v := (.pointer (some (Addr.add ⟨b31, 0, none⟩ ((w64 (x777 + x968) : Int).toNat * 1))))) rfl (yl_indexAddrA Try.underlying120 sz118 (idx_some hel1019).1 (glob_lt (xs := [x976, x977, x978]) hel1019) hs963 rfl) ?_
          refine T0_q (v := (.int .u64 el1018)) rfl (yl_load sc118 rfl (glob_atk (xs := [x976, x977, x978]) (Box.at (hB980.ext he1015)) hel1019)) ?_
          refine T0_q (v := (.int .u64 r1012.2)) rfl (yl_move rfl) ?_
          have hq := bind_elim h
          clear h
          obtain ⟨r1020, hr1021, h⟩ := hq
          refine T0_e rfl (eff_add64 Try.func109 nm109 fb109 fn109 fe109 (ev3 rfl rfl rfl) hr1021 ?_)
          refine T0_q (v := (.tuple #[(.int .u64 r1020.1), (.int .u64 r1020.2)])) rfl (yl_move rfl) ?_
          refine T0_q (v := (.int .u64 r1020.1)) rfl (yl_extract rfl rfl) ?_
          refine T0_q (v := (.int .u64 r1020.2)) rfl (yl_extract rfl rfl) ?_
          refine T0_q (v := (.int .u64 r1020.1)) rfl (yl_assign rfl) ?_
          refine T0_q (v := (.int .u64 r1020.2)) rfl (yl_assign rfl) ?_
          refine T0_nil ?_
          refine hK1017 _ _ ?_
          refine WC_seqK fun K1022 hK1022 => ?_
          refine WC_region ?_
          refine T0_q (v := (.int .u64 r1020.1)) rfl (yl_move rfl) ?_
          refine T0_q (v := (.int .u64 x966)) rfl (yl_move hs967) ?_
          have hq := bind_elim h
          clear h
          obtain ⟨r1023, hr1024, h⟩ := hq
          refine T0_e rfl (eff_add64 Try.func109 nm109 fb109 fn109 fe109 (ev3 rfl rfl rfl) hr1024 ?_)
          refine T0_q (v := (.tuple #[(.int .u64 r1023.1), (.int .u64 r1023.2)])) rfl (yl_move rfl) ?_
          refine T0_q (v := (.int .u64 r1023.1)) rfl (yl_extract rfl rfl) ?_
          refine T0_q (v := (.int .u64 r1023.2)) rfl (yl_extract rfl rfl) ?_
          refine T0_q (v := (.int .u64 r1023.1)) rfl (yl_assign rfl) ?_
          refine T0_q (v := (.int .u64 r1023.2)) rfl (yl_assign rfl) ?_
          refine T0_nil ?_
          refine hK1022 _ _ ?_
          refine WC_region ?_
          refine T0_q (v := (.int .i64 x777)) rfl (yl_move hs964) ?_
          refine T0_q (v := (.int .i64 x968)) rfl (yl_move hs969) ?_
          refine T0_q (v := (.int .i64 (w64 (x777 + x968)))) rfl (yl_add rfl rfl) ?_
          refine T0_q (v := (.int .u64 r1023.1)) rfl (yl_move rfl) ?_
          refine T0_q (v := (.int .u64 r1012.1)) rfl (yl_move rfl) ?_
          refine T0_q (v := (.int .u64 r1020.2)) rfl (yl_move rfl) ?_
          refine T0_q (v := (.int .u64 (IntKind.wrap .u64 (r1012.1 + r1020.2)))) rfl (yl_add rfl rfl) ?_
          refine T0_q (v := (.int .u64 r1023.2)) rfl (yl_move rfl) ?_
          refine T0_q (v := (.int .u64 (IntKind.wrap .u64 ((IntKind.wrap .u64 (r1012.1 + r1020.2)) + r1023.2)))) rfl (yl_add rfl rfl) ?_
          have hq := bind_elim h
          clear h
          obtain ⟨el1025, hel1026, h⟩ := hq
          refine T0_q (v := (.pointer (some (Addr.add ⟨b31, 0, none⟩ ((w64 (x777 + x968) : Int).toNat * 1))))) rfl (yl_indexAddrA Try.underlying120 sz118 (idx_some hel1026).1 (glob_lt (xs := [x976, x977, x978]) hel1026) hs963 rfl) ?_
          refine T0_e rfl (eff_storeI (xs := [x976, x977, x978]) (ys := [(bif Nat.beq (w64 (x777 + x968) : Int).toNat 0 then r1023.1 else x976), (bif Nat.beq (w64 (x777 + x968) : Int).toNat 1 then r1023.1 else x977), (bif Nat.beq (w64 (x777 + x968) : Int).toNat 2 then r1023.1 else x978)]) sz118 rfl rfl hel1026 rfl (hB980.ext he1015) rfl ?_)
          intro wd1027 hc1028 hB1029
          have h1030 := (hB973.ext he1015).chg hc1028 (avoidb hn37)
          have h1031 := (hB975.ext he1015).chg hc1028 (avoidb hn38)
          have e1032 := chg_box e1016 hc1028 hbf39
          refine T0_q (v := (.int .u64 (IntKind.wrap .u64 ((IntKind.wrap .u64 (r1012.1 + r1020.2)) + r1023.2)))) rfl (yl_assign rfl) ?_
          refine T0_nil ?_
          refine hK1008 _ _ ?_
          refine WC_region ?_
          refine T0_q (v := (.int .i64 x968)) rfl (yl_move hs969) ?_
          refine T0_q (v := (.int .i64 (w64 (x968 + 1)))) rfl (yl_add rfl rfl) ?_
          refine T0_q (v := (.int .i64 (w64 (x968 + 1)))) rfl (yl_assign rfl) ?_
          refine T0_nil ?_
          replace h := some_out h
          subst h
          refine hK1002 _ _ _ rfl ?_
          exact ⟨IntKind.wrap .u64 ((IntKind.wrap .u64 (r1012.1 + r1020.2)) + r1023.2), w64 (x968 + 1), (bif Nat.beq (w64 (x777 + x968) : Int).toNat 0 then r1023.1 else x976), (bif Nat.beq (w64 (x777 + x968) : Int).toNat 1 then r1023.1 else x977), (bif Nat.beq (w64 (x777 + x968) : Int).toNat 2 then r1023.1 else x978), rfl, hs961, hs962, hs963, hs964, hs965, rfl, rfl, hs970, hs971, h1030, h1031, hB1029, e1032⟩
        · clear hK1002 hK1005 hK1006
          replace h := cond_f hb1007 h
          refine WC_exit ?_
          replace h := some_out h
          subst h
          have ho := hx1001 _ rfl
          subst ho
          refine hK1003 _ _ ?_
          exact ⟨x976, x977, x978, rfl, hs961, hs962, hs963, hs970, hs971, hB973, hB975, hB980, e960⟩
      · clear hK808 hK811 hK814 hK815
        rintro ρ wd981 ⟨x992, x993, x994, rfl, hs983, hs984, hs985, hs986, hs987, hB989, hB991, hB996, e982⟩
        replace h := hn999
        refine hK810 _ _ ?_
        refine WC_region ?_
        refine T0_q (v := (.int .i64 (w64 (x777 + 1)))) rfl (yl_add hs987 rfl) ?_
        refine T0_q (v := (.int .i64 (w64 (x777 + 1)))) rfl (yl_move rfl) ?_
        refine T0_nil ?_
        replace h := some_out h
        subst h
        refine hK804 _ _ _ rfl ?_
        exact ⟨w64 (x777 + 1), x992, x993, x994, rfl, hs983, hs984, hs985, hs986, rfl, hB989, hB991, hB996, e982⟩
    · clear hK804 hK807 hK808
      replace h := cond_f hb809 h
      refine WC_exit ?_
      replace h := some_out h
      subst h
      have ho := hx803 _ rfl
      subst ho
      refine hK805 _ _ ?_
      exact ⟨x783, x784, x785, rfl, hs774, hs775, hB782, hB787, e772⟩
  · clear hK1 hK30 hK45
    rintro ρ wd788 ⟨x794, x795, x796, rfl, hs790, hs791, hB793, hB798, e789⟩
    replace h := hn801
    refine hK44 _ _ ?_
    refine WC_seqK fun K1033 hK1033 => ?_
    refine WC_region ?_
    refine T0_q (v := (.agg (List.toArray [(.int .u64 x794), (.int .u64 x795), (.int .u64 x796)]))) rfl (yl_loadA (cs := [(.int .u64 x794), (.int .u64 x795), (.int .u64 x796)]) ag120 hs791 (Box.at hB798)) ?_
    refine T0_e rfl (eff_storeC (vs := [(.int .u64 x794), (.int .u64 x795), (.int .u64 x796)]) (cs' := [(.int .u64 x794), (.int .u64 x795), (.int .u64 x796)]) sz120 rfl rfl hs790 rfl hB793 rfl (oc_cons rfl (oc_cons rfl (oc_cons rfl oc_nil))) rfl ?_)
    intro wd1034 hc1035 hB1036
    have e1038 := chg_box e789 hc1035 hbf26
    refine T0_nil ?_
    refine hK1033 _ _ ?_
    refine WC_ret ?_
    replace h := some_out h
    subst h
    exact ⟨[(.agg (List.toArray [(.int .u64 x794), (.int .u64 x795), (.int .u64 x796)]))], ⟨⟨_, hs790, run_loadVarA (cs := [(.int .u64 x794), (.int .u64 x795), (.int .u64 x796)]) ag120 (Box.at hB1036)⟩, trivial⟩, e1038, [(.int .u64 x794), (.int .u64 x795), (.int .u64 x796)], rfl, rfl⟩

noncomputable def levitate_wide_less_spec (p_a : Arr3_U64) (p_b : Arr3_U64) : Option Arr3_U64 :=
  (Option.bind (levitate_wideOf_spec (-1)) fun r36 =>
  (Option.bind (levitate_wide_times_spec p_b r36) fun r46 =>
  (Option.bind (levitate_wide_plus_spec p_a r46) fun r56 =>
  some r56
  )
  )
  )
theorem levitate_wide_less_ok (L : List Value) (w : World) (hL : LtL L w) (cs_p_a : List Value) (p_a : Arr3_U64) (h_p_a : Rep.rd L w cs_p_a p_a) (cs_p_b : List Value) (p_b : Arr3_U64) (h_p_b : Rep.rd L w cs_p_b p_b) (r : Arr3_U64) (h : levitate_wide_less_spec p_a p_b = some r) :
    CallsTo Try.prog 81 [(.agg cs_p_a.toArray), (.agg cs_p_b.toArray)] w (fun v w' => Ext w w' ∧ ∃ (cs0 : List Value), (.agg cs0.toArray) = v ∧ Rep.rd L w' cs0 r) := by
  have e0 : Ext w w := Chg.refl _ _
  have h_p_a : cs_p_a = [(.int .u64 p_a.e0), (.int .u64 p_a.e1), (.int .u64 p_a.e2)] := h_p_a
  subst h_p_a
  have h_p_b : cs_p_b = [(.int .u64 p_b.e0), (.int .u64 p_b.e1), (.int .u64 p_b.e2)] := h_p_b
  subst h_p_b
  refine callsTo_of_WC (n := 10) (rs := [.cell 4 120]) Try.func81 rfl rfl rfl rfl rfl ?_
  refine WC_seqK fun K1 hK1 => ?_
  refine WC_region ?_
  refine T0_e rfl (eff_boxC (cs := [(.int .u64 p_a.e0), (.int .u64 p_a.e1), (.int .u64 p_a.e2)]) rfl rfl ?_)
  intro b2 wd3 hb4 he5 hB6
  have e8 := e0.trans he5
  refine T0_e rfl (eff_boxC (cs := [(.int .u64 p_b.e0), (.int .u64 p_b.e1), (.int .u64 p_b.e2)]) rfl rfl ?_)
  intro b10 wd11 hb12 he13 hB14
  have e17 := e8.trans he13
  refine T0_e rfl (eff_allocZ zi120 ?_)
  intro b19 wd20 hb21 he22 hB23
  have hbf26 := bfresh e17 hb21
  have e27 := he13.trans he22
  have e28 := e17.trans he22
  refine T0_nil ?_
  refine hK1 _ _ ?_
  refine WC_seqK fun K30 hK30 => ?_
  refine WC_planX mixed (.q 0 (.q 1 (.e 2 (.e 3 (.e 4 (.b 5 .done)))))) (by kernel_rfl) ?_
  intro wd31 he32
  have e33 := he22.trans he32
  have e34 := e27.trans he32
  have e35 := e28.trans he32
  refine TX_q (v := (.agg (List.toArray [(.int .u64 p_a.e0), (.int .u64 p_a.e1), (.int .u64 p_a.e2)]))) rfl rfl (fun w' hS => (yl_loadA (cs := [(.int .u64 p_a.e0), (.int .u64 p_a.e1), (.int .u64 p_a.e2)]) ag120 rfl (Box.at (hB6.ext (e34.trans hS))))) ?_
  refine TX_q (v := (.agg (List.toArray [(.int .u64 p_b.e0), (.int .u64 p_b.e1), (.int .u64 p_b.e2)]))) rfl rfl (fun w' hS => (yl_loadA (cs := [(.int .u64 p_b.e0), (.int .u64 p_b.e1), (.int .u64 p_b.e2)]) ag120 rfl (Box.at (hB14.ext (e33.trans hS))))) ?_
  have hq := bind_elim h
  clear h
  obtain ⟨r36, hr37, h⟩ := hq
  refine TX_e rfl rfl (eff_call Try.func79 nm79 rfl (ev1 rfl) (levitate_wideOf_ok [] _ (LtL.nil _) (-1) r36 hr37) ?_)
  rintro _ wd38 ⟨he39, cs40, rfl, hrd41⟩
  have e43 := he32.trans he39
  have e45 := e35.trans he39
  have hrd41 : cs40 = [(.int .u64 r36.e0), (.int .u64 r36.e1), (.int .u64 r36.e2)] := hrd41
  subst hrd41
  refine ⟨he39, ?_⟩
  have hq := bind_elim h
  clear h
  obtain ⟨r46, hr47, h⟩ := hq
  refine TX_e rfl rfl (eff_call Try.func80 nm80 rfl (ev2 rfl rfl) (levitate_wide_times_ok [] _ (LtL.nil _) [(.int .u64 p_b.e0), (.int .u64 p_b.e1), (.int .u64 p_b.e2)] p_b rfl [(.int .u64 r36.e0), (.int .u64 r36.e1), (.int .u64 r36.e2)] r36 rfl r46 hr47) ?_)
  rintro _ wd48 ⟨he49, cs50, rfl, hrd51⟩
  have e53 := e43.trans he49
  have e55 := e45.trans he49
  have hrd51 : cs50 = [(.int .u64 r46.e0), (.int .u64 r46.e1), (.int .u64 r46.e2)] := hrd51
  subst hrd51
  refine ⟨he49, ?_⟩
  have hq := bind_elim h
  clear h
  obtain ⟨r56, hr57, h⟩ := hq
  refine TX_e rfl rfl (eff_call Try.func110 nm110 rfl (ev2 rfl rfl) (levitate_wide_plus_ok [] _ (LtL.nil _) [(.int .u64 p_a.e0), (.int .u64 p_a.e1), (.int .u64 p_a.e2)] p_a rfl [(.int .u64 r46.e0), (.int .u64 r46.e1), (.int .u64 r46.e2)] r46 rfl r56 hr57) ?_)
  rintro _ wd58 ⟨he59, cs60, rfl, hrd61⟩
  have e63 := e53.trans he59
  have e65 := e55.trans he59
  have hrd61 : cs60 = [(.int .u64 r56.e0), (.int .u64 r56.e1), (.int .u64 r56.e2)] := hrd61
  subst hrd61
  refine ⟨he59, ?_⟩
  refine TX_b rfl rfl (eff_storeC (vs := [(.int .u64 r56.e0), (.int .u64 r56.e1), (.int .u64 r56.e2)]) (cs' := [(.int .u64 r56.e0), (.int .u64 r56.e1), (.int .u64 r56.e2)]) sz120 rfl rfl rfl rfl (hB23.ext e63) rfl (oc_cons rfl (oc_cons rfl (oc_cons rfl oc_nil))) rfl ?_)
  intro wd66 hc67 hB68
  have e71 := chg_box e65 hc67 hbf26
  refine TX_done ?_
  refine hK30 _ _ ?_
  refine WC_ret ?_
  replace h := some_out h
  subst h
  exact ⟨[(.agg (List.toArray [(.int .u64 r56.e0), (.int .u64 r56.e1), (.int .u64 r56.e2)]))], ⟨⟨_, rfl, run_loadVarA (cs := [(.int .u64 r56.e0), (.int .u64 r56.e1), (.int .u64 r56.e2)]) ag120 (Box.at hB68)⟩, trivial⟩, e71, [(.int .u64 r56.e0), (.int .u64 r56.e1), (.int .u64 r56.e2)], rfl, rfl⟩

noncomputable def levitate_value_s0 (p_f : (List (List Int))) (p_x : (List Int)) : (Int × Int) → Option ((Int × Int) ⊕ (Int)) := fun (x129, x134) =>
  (bif (decide (x134 < (p_f.length : Int))) then (
    (Option.bind (idx p_f x134) fun el153 =>
    (Option.bind (idx p_x x134) fun el165 =>
    (Option.bind (levitate_dot_spec el153 p_x) fun r171 =>
    some (.inl (w64 (x129 + (w64 (el165 * r171))), w64 (x134 + 1)))
    )
    )
    )
  ) else (
    some (.inr x129)
  ))
noncomputable def levitate_value_spec (p_f : (List (List Int))) (p_x : (List Int)) : Option Int :=
  (Option.bind (loop (levitate_value_s0 p_f p_x) (0, 0)) fun (x138 : Int) =>
  some x138
  )
theorem levitate_value_ok (L : List Value) (w : World) (hL : LtL L w) (v_p_f : Value) (p_f : (List (List Int))) (h_p_f : SlRd L w v_p_f p_f) (v_p_x : Value) (p_x : (List Int)) (h_p_x : SlRd L w v_p_x p_x) (r : Int) (h : levitate_value_spec p_f p_x = some r) :
    CallsTo Try.prog 83 [v_p_f, v_p_x] w (fun v w' => Ext w w' ∧ (.int .i64 r) = v) := by
  have e0 : Ext w w := Chg.refl _ _
  refine callsTo_of_WC (n := 27) (rs := [.tmp 4]) Try.func83 rfl rfl rfl rfl rfl ?_
  refine WC_seqK fun K3 hK3 => ?_
  refine WC_region ?_
  refine T0_q (v := (.int .i64 0)) rfl (yl_assign rfl) ?_
  refine T0_nil ?_
  refine hK3 _ _ ?_
  refine WC_seqK fun K4 hK4 => ?_
  refine WC_region ?_
  refine T0_q (v := (.int .i64 0)) rfl (yl_assign rfl) ?_
  refine T0_nil ?_
  refine hK4 _ _ ?_
  refine WC_seqK fun K5 hK5 => ?_
  refine WC_seqK fun K6 hK6 => ?_
  refine WC_region ?_
  refine T0_q (v := v_p_f) rfl (yl_move rfl) ?_
  refine T0_q (v := (.int .i64 (p_f.length : Int))) rfl (yl_lenR rfl Try.underlying47 h_p_f rfl) ?_
  refine T0_q (v := (.int .i64 0)) rfl (yl_move rfl) ?_
  refine T0_nil ?_
  refine hK6 _ _ ?_
  have hq := bind_elim h
  clear h
  obtain ⟨o140, hl141, hn142⟩ := hq
  refine WC_post (fun (ρ : Env) (wd136 : World) => ∃ (x138 : Int), x138 = o140 ∧ ρ 5 = (.int .i64 x138) ∧ Ext w wd136) ?_ ?_
  · clear hK3 hK4 hK5 hK6
    intro K146 hK146
    refine WC_block ?_
    refine WC_loopk (fun sv ρ wd125 => ∃ (x129 : Int) (x134 : Int), (x129, x134) = sv ∧ ρ 1 = v_p_x ∧ ρ 5 = (.int .i64 x129) ∧ ρ 8 = v_p_f ∧ ρ 9 = (.int .i64 (p_f.length : Int)) ∧ ρ 10 = (.int .i64 x134) ∧ SlRd L wd125 v_p_x p_x ∧ SlRd L wd125 v_p_f p_f ∧ Ext w wd125) hl141 ⟨0, 0, rfl, rfl, rfl, rfl, rfl, rfl, h_p_x, h_p_f, e0⟩ ?_
    rintro _ ρ wd125 ⟨x129, x134, rfl, hs128, hs130, hs132, hs133, hs135, h127, h131, e126⟩ x143 h hx144 K145 hK145
    refine WC_seqK fun K148 hK148 => ?_
    refine WC_region ?_
    refine T0_q (v := (.bool (decide (x134 < (p_f.length : Int))))) rfl (yl_lss hs135 hs133) ?_
    refine T0_nil ?_
    refine hK148 _ _ ?_
    refine WC_seqK fun K149 hK149 => ?_
    refine WC_cond (b := (decide (x134 < (p_f.length : Int)))) rfl (fun hb150 => ?_) (fun hb150 => ?_)
    · clear hK146 hK148
      replace h := cond_t hb150 h
      refine WC_skip ?_
      refine hK149 _ _ ?_
      refine WC_seqK fun K151 hK151 => ?_
      refine WC_block ?_
      refine WC_seqK fun K152 hK152 => ?_
      refine WC_region ?_
      refine T0_q (v := (.int .i64 x134)) rfl (yl_move hs135) ?_
      have hq := bind_elim h
      clear h
      obtain ⟨el153, hel154, h⟩ := hq
      have hq := SlRd.at h131 hel154
      obtain ⟨cs157, hat158, hrd159⟩ := hq
      obtain ⟨v155, rfl, h156⟩ := hrd159
      refine T0_q (v := (.pointer (some (elemAddr v_p_f (x134 : Int).toNat 1)))) rfl (yl_indexAddr Try.underlying47 sz23 h131 hel154 hs132 hs135) ?_
      refine T0_q (v := v155) rfl (yl_load sc23 rfl hat158) ?_
      refine T0_q (v := (.int .i64 x134)) rfl (yl_assign rfl) ?_
      refine T0_q (v := v155) rfl (yl_assign rfl) ?_
      refine T0_nil ?_
      refine hK152 _ _ ?_
      refine WC_planX mixed (.p 0 (.p 1 (.p 2 (.p 3 (.p 5 (.p 6 (.q 4 (.e 7 (.p 8 (.p 9 (.p 10 .done))))))))))) (by kernel_rfl) ?_
      intro wd162 he163
      have e164 := e126.trans he163
      refine TX_p (v := (.int .i64 x129)) rfl rfl (fun w' => (yl_move hs130)) ?_
      refine TX_p (v := v_p_x) rfl rfl (fun w' => (yl_move hs128)) ?_
      refine TX_p (v := (.int .i64 x134)) rfl rfl (fun w' => (yl_move rfl)) ?_
      have hq := bind_elim h
      clear h
      obtain ⟨el165, hel166, h⟩ := hq
      have hq := SlRd.at h127 hel166
      obtain ⟨cs167, hat168, hrd169⟩ := hq
      have hrd169 : cs167 = [(.int .i64 el165)] := hrd169
      subst hrd169
      refine TX_p (v := (.pointer (some (elemAddr v_p_x (x134 : Int).toNat 1)))) rfl rfl (fun w' => (yl_indexAddr Try.underlying23 sz3 h127 hel166 rfl rfl)) ?_
      refine TX_p (v := v155) rfl rfl (fun w' => (yl_move rfl)) ?_
      refine TX_p (v := v_p_x) rfl rfl (fun w' => (yl_move hs128)) ?_
      refine TX_q (v := (.int .i64 el165)) rfl rfl (fun w' hS => (yl_load sc3 rfl (hat168.ext' (he163.trans hS)))) ?_
      have hq := bind_elim h
      clear h
      obtain ⟨r171, hr172, h⟩ := hq
      refine TX_e rfl rfl (eff_call Try.func106 nm106 rfl (ev2 rfl rfl) (levitate_dot_ok [] _ (LtL.nil _) v155 el153 ((h156.ext he163).sub (fun _ h => by cases h)) v_p_x p_x ((h127.ext he163).sub (fun _ h => by cases h)) r171 hr172) ?_)
      rintro _ wd173 ⟨he174, rfl⟩
      have e175 := he163.trans he174
      have e176 := e164.trans he174
      refine ⟨he174, ?_⟩
      refine TX_p (v := (.int .i64 (w64 (el165 * r171)))) rfl rfl (fun w' => (yl_mul rfl rfl)) ?_
      refine TX_p (v := (.int .i64 (w64 (x129 + (w64 (el165 * r171)))))) rfl rfl (fun w' => (yl_add rfl rfl)) ?_
      refine TX_p (v := (.int .i64 (w64 (x129 + (w64 (el165 * r171)))))) rfl rfl (fun w' => (yl_assign rfl)) ?_
      refine TX_done ?_
      refine hK151 _ _ ?_
      refine WC_region ?_
      refine T0_q (v := (.int .i64 (w64 (x134 + 1)))) rfl (yl_add hs135 rfl) ?_
      refine T0_q (v := (.int .i64 (w64 (x134 + 1)))) rfl (yl_move rfl) ?_
      refine T0_nil ?_
      replace h := some_out h
      subst h
      refine hK145 _ _ _ rfl ?_
      exact ⟨w64 (x129 + (w64 (el165 * r171))), w64 (x134 + 1), rfl, hs128, rfl, hs132, hs133, rfl, (h127.ext e175), (h131.ext e175), e176⟩
    · clear hK145 hK148 hK149
      replace h := cond_f hb150 h
      refine WC_exit ?_
      replace h := some_out h
      subst h
      have ho := hx144 _ rfl
      subst ho
      refine hK146 _ _ ?_
      exact ⟨x129, rfl, hs130, e126⟩
  · clear hK3 hK4 hK6
    rintro ρ wd136 ⟨x138, rfl, hs139, e137⟩
    replace h := hn142
    refine hK5 _ _ ?_
    refine WC_seqK fun K177 hK177 => ?_
    refine WC_region ?_
    refine T0_q (v := (.int .i64 x138)) rfl (yl_move hs139) ?_
    refine T0_q (v := (.int .i64 x138)) rfl (yl_assign rfl) ?_
    refine T0_nil ?_
    refine hK177 _ _ ?_
    refine WC_ret ?_
    replace h := some_out h
    subst h
    exact ⟨[(.int .i64 x138)], ⟨rfl, trivial⟩, e137, rfl⟩

noncomputable def levitate_floor_part_spec (p_n : Int) (p_by : Int) : Option Int :=
  (bif (decide (p_n < 0)) then (
    none
  ) else (
    (Option.bind (quo p_n p_by) fun q7 =>
    some q7
    )
  ))
theorem levitate_floor_part_ok (L : List Value) (w : World) (hL : LtL L w) (p_n : Int) (p_by : Int) (r : Int) (h : levitate_floor_part_spec p_n p_by = some r) :
    CallsTo Try.prog 66 [(.int .i64 p_n), (.int .i64 p_by)] w (fun v w' => Ext w w' ∧ (.int .i64 r) = v) := by
  have e0 : Ext w w := Chg.refl _ _
  refine callsTo_of_WC (n := 15) (rs := [.tmp 4]) Try.func66 rfl rfl rfl rfl rfl ?_
  refine WC_seqK fun K1 hK1 => ?_
  refine WC_region ?_
  refine T0_q (v := (.int .i64 0)) rfl (yl_assign rfl) ?_
  refine T0_nil ?_
  refine hK1 _ _ ?_
  refine WC_seqK fun K2 hK2 => ?_
  refine WC_seqK fun K3 hK3 => ?_
  refine WC_region ?_
  refine T0_q (v := (.int .i64 p_n)) rfl (yl_move rfl) ?_
  refine T0_q (v := (.bool (decide (p_n < 0)))) rfl (yl_lss rfl rfl) ?_
  refine T0_nil ?_
  refine hK3 _ _ ?_
  refine WC_cond (b := (decide (p_n < 0))) rfl (fun hb4 => ?_) (fun hb4 => ?_)
  · clear hK1 hK2 hK3
    replace h := cond_t hb4 h
    refine WC_seqK fun K5 hK5 => ?_
    refine WC_region ?_
    refine T0_q (v := (.int .i64 p_n)) rfl (yl_move rfl) ?_
    refine T0_q (v := (.int .i64 (w64 (0 - p_n)))) rfl (yl_neg rfl) ?_
    refine T0_q (v := (.int .i64 p_by)) rfl (yl_move rfl) ?_
    cases h
  · clear hK1 hK3
    replace h := cond_f hb4 h
    refine WC_skip ?_
    refine hK2 _ _ ?_
    refine WC_seqK fun K6 hK6 => ?_
    refine WC_region ?_
    refine T0_q (v := (.int .i64 p_n)) rfl (yl_move rfl) ?_
    refine T0_q (v := (.int .i64 p_by)) rfl (yl_move rfl) ?_
    have hq := bind_elim h
    clear h
    obtain ⟨q7, hq8, h⟩ := hq
    refine T0_q (v := (.int .i64 q7)) rfl (yl_quo' hq8 rfl rfl) ?_
    refine T0_q (v := (.int .i64 q7)) rfl (yl_assign rfl) ?_
    refine T0_nil ?_
    refine hK6 _ _ ?_
    refine WC_ret ?_
    replace h := some_out h
    subst h
    exact ⟨[(.int .i64 q7)], ⟨rfl, trivial⟩, e0, rfl⟩

noncomputable def levitate_ceil_part_spec (p_n : Int) (p_by : Int) : Option Int :=
  (bif (decide (p_n < 0)) then (
    none
  ) else (
    (Option.bind (quo (w64 ((w64 (p_n + p_by)) - 1)) p_by) fun q7 =>
    some q7
    )
  ))
theorem levitate_ceil_part_ok (L : List Value) (w : World) (hL : LtL L w) (p_n : Int) (p_by : Int) (r : Int) (h : levitate_ceil_part_spec p_n p_by = some r) :
    CallsTo Try.prog 67 [(.int .i64 p_n), (.int .i64 p_by)] w (fun v w' => Ext w w' ∧ (.int .i64 r) = v) := by
  have e0 : Ext w w := Chg.refl _ _
  refine callsTo_of_WC (n := 18) (rs := [.tmp 4]) Try.func67 rfl rfl rfl rfl rfl ?_
  refine WC_seqK fun K1 hK1 => ?_
  refine WC_region ?_
  refine T0_q (v := (.int .i64 0)) rfl (yl_assign rfl) ?_
  refine T0_nil ?_
  refine hK1 _ _ ?_
  refine WC_seqK fun K2 hK2 => ?_
  refine WC_seqK fun K3 hK3 => ?_
  refine WC_region ?_
  refine T0_q (v := (.int .i64 p_n)) rfl (yl_move rfl) ?_
  refine T0_q (v := (.bool (decide (p_n < 0)))) rfl (yl_lss rfl rfl) ?_
  refine T0_nil ?_
  refine hK3 _ _ ?_
  refine WC_cond (b := (decide (p_n < 0))) rfl (fun hb4 => ?_) (fun hb4 => ?_)
  · clear hK1 hK2 hK3
    replace h := cond_t hb4 h
    refine WC_seqK fun K5 hK5 => ?_
    refine WC_region ?_
    refine T0_q (v := (.int .i64 p_n)) rfl (yl_move rfl) ?_
    refine T0_q (v := (.int .i64 (w64 (0 - p_n)))) rfl (yl_neg rfl) ?_
    refine T0_q (v := (.int .i64 p_by)) rfl (yl_move rfl) ?_
    cases h
  · clear hK1 hK3
    replace h := cond_f hb4 h
    refine WC_skip ?_
    refine hK2 _ _ ?_
    refine WC_seqK fun K6 hK6 => ?_
    refine WC_region ?_
    refine T0_q (v := (.int .i64 p_n)) rfl (yl_move rfl) ?_
    refine T0_q (v := (.int .i64 p_by)) rfl (yl_move rfl) ?_
    refine T0_q (v := (.int .i64 (w64 (p_n + p_by)))) rfl (yl_add rfl rfl) ?_
    refine T0_q (v := (.int .i64 (w64 ((w64 (p_n + p_by)) - 1)))) rfl (yl_sub rfl rfl) ?_
    refine T0_q (v := (.int .i64 p_by)) rfl (yl_move rfl) ?_
    have hq := bind_elim h
    clear h
    obtain ⟨q7, hq8, h⟩ := hq
    refine T0_q (v := (.int .i64 q7)) rfl (yl_quo' hq8 rfl rfl) ?_
    refine T0_q (v := (.int .i64 q7)) rfl (yl_assign rfl) ?_
    refine T0_nil ?_
    refine hK6 _ _ ?_
    refine WC_ret ?_
    replace h := some_out h
    subst h
    exact ⟨[(.int .i64 q7)], ⟨rfl, trivial⟩, e0, rfl⟩

end Go.Gw
