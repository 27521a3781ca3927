/- What functions come to, printed by a program of this work. No condition. -/
import Derived.Test.YtglaeocolbnpdaaGwFnB
import Derived.Test.YtglaeocolbnpdaaGwPlan2
import Derived.Test.YtglaeocolbnpdaaGwLib12
import Derived.Test.YtglaeocolbnpdaaGwLib15
import Derived.Test.YtglaeocolbnpdaaGwFacts2
set_option maxRecDepth 4096
set_option maxHeartbeats 8000000
set_option linter.unusedVariables false
namespace Go.Gw
open Go Go.Proofs
attribute [local irreducible] T0 TS TT TP TX Eff Stp WC Quiet gd
noncomputable def levitate_plant_broken_s0 (p_box : (List Int)) (p_p : levitate_plant) (x715 : Int) : (Int) → Option ((Int) ⊕ (((Int) ⊕ ((LevitateMark × Bool) ⊕ (Unit))) ⊕ (Unit))) := fun x890 =>
  (bif (decide (x890 < (p_box.length : Int))) then (
    (Option.bind (idx p_box x890) fun el925 =>
    (Option.bind (levitate_plant_need_spec p_p x715 x890 p_box) fun r932 =>
    (bif (decide (el925 < r932)) then (
      some (.inr (.inl (.inr (.inl ((LevitateMark.mk x715 x890), true)))))
    ) else (
      some (.inl (w64 (x890 + 1)))
    ))
    )
    )
  ) else (
    some (.inr (.inr ()))
  ))
noncomputable def levitate_plant_broken_s1 (p_box : (List Int)) (p_p : levitate_plant) : (Int) → Option ((Int) ⊕ ((LevitateMark × Bool) ⊕ (Unit))) := fun x715 =>
  (bif (decide (x715 < (p_p.LevitatePlant.Maps.length : Int))) then (
    (Option.bind (loop (levitate_plant_broken_s0 p_box p_p x715) 0) fun o912 => jn0 o912 fun (_ : Unit) =>
    some (.inl (w64 (x715 + 1)))
    )
  ) else (
    some (.inr (.inr ()))
  ))
noncomputable def levitate_plant_broken_spec (p_p : levitate_plant) (p_box : (List Int)) : Option (LevitateMark × Bool) :=
  (Option.bind (loop (levitate_plant_broken_s1 p_box p_p) 0) fun o728 => jn0 o728 fun (_ : Unit) =>
  some ((LevitateMark.mk 0 0), false)
  )
theorem levitate_plant_broken_ok (L : List Value) (w : World) (hL : LtL L w) (cs_p_p : List Value) (p_p : levitate_plant) (h_p_p : Rep.rd L w cs_p_p p_p) (v_p_box : Value) (p_box : (List Int)) (h_p_box : SlRd L w v_p_box p_box) (r : LevitateMark × Bool) (h : levitate_plant_broken_spec p_p p_box = some r) :
    CallsTo Try.prog 50 [(.agg cs_p_p.toArray), v_p_box] w (fun v w' => Ext w w' ∧ ∃ (cs0 : List Value), (.tuple #[(.agg cs0.toArray), (.bool r.2)]) = v ∧ Rep.rd L w' cs0 r.1) := by
  have e0 : Ext w w := Chg.refl _ _
  obtain ⟨v1, v3, h2, h4, rfl⟩ := h_p_p
  refine callsTo_of_WC (n := 36) (rs := [.cell 4 29, .tmp 5]) Try.func50 rfl rfl rfl rfl rfl ?_
  refine WC_seqK fun K8 hK8 => ?_
  refine WC_region ?_
  refine T0_e rfl (eff_boxC (cs := [(.int .i64 p_p.LevitatePlant.Den), v1, v3]) rfl rfl ?_)
  intro b9 wd10 hb11 he12 hB13
  have e15 := e0.trans he12
  refine T0_e rfl (eff_allocZ zi29 ?_)
  intro b17 wd18 hb19 he20 hB21
  have hbf23 := bfresh e15 hb19
  have h24 := (h2.ext he12).step (add_box he20 hb19)
  have h25 := (h4.ext he12).step (add_box he20 hb19)
  have h26 := (h_p_box.ext he12).step (add_box he20 hb19)
  have e27 := e15.trans he20
  refine T0_q (v := (.bool false)) rfl (yl_assign rfl) ?_
  refine T0_nil ?_
  refine hK8 _ _ ?_
  refine WC_seqK fun K29 hK29 => ?_
  refine WC_seqK fun K30 hK30 => ?_
  refine WC_region ?_
  refine T0_q (v := (.pointer (some ⟨b9, 0, none⟩))) rfl (yl_fa 0 Try.underlying89 rfl rfl ⟨2, sz25⟩ rfl rfl) ?_
  refine T0_q (v := (.pointer (some ⟨b9, 1, none⟩))) rfl (yl_fa 1 Try.underlying25 rfl rfl ⟨0, sz22⟩ rfl rfl) ?_
  refine T0_q (v := v1) rfl (yl_load sc22 rfl (At.drop (Box.at (hB13.ext he20)) 1)) ?_
  refine T0_q (v := (.int .i64 (p_p.LevitatePlant.Maps.length : Int))) rfl (yl_lenR rfl Try.underlying22 h24 rfl) ?_
  refine T0_q (v := (.int .i64 0)) rfl (yl_move rfl) ?_
  refine T0_nil ?_
  refine hK30 _ _ ?_
  have hq := bind_elim h
  clear h
  obtain ⟨o728, hl729, hn730⟩ := hq
  refine WC_post (fun (ρ : Env) (wd723 : World) => .inr () = o728 ∧ ρ 4 = (.pointer (some ⟨b17, 0, none⟩)) ∧ Box wd723 b17 [(.int .i64 0), (.int .i64 0)] 29 ∧ Ext w wd723) ?_ ?_
  · clear hK29 hK30 hK8
    intro K734 hK734
    refine WC_block ?_
    refine WC_loopk (fun sv ρ wd708 => ∃ (x715 : Int), x715 = sv ∧ ρ 1 = v_p_box ∧ ρ 2 = (.pointer (some ⟨b9, 0, none⟩)) ∧ ρ 4 = (.pointer (some ⟨b17, 0, none⟩)) ∧ ρ 12 = (.int .i64 (p_p.LevitatePlant.Maps.length : Int)) ∧ ρ 13 = (.int .i64 x715) ∧ SlRd ((.pointer (some ⟨b17, 0, none⟩)) :: L) wd708 v_p_box p_box ∧ SlRd ((.pointer (some ⟨b17, 0, none⟩)) :: L) wd708 v1 p_p.LevitatePlant.Maps ∧ SlRd ((.pointer (some ⟨b17, 0, none⟩)) :: L) wd708 v3 p_p.LevitatePlant.Noise ∧ Box wd708 b17 [(.int .i64 0), (.int .i64 0)] 29 ∧ Box wd708 b9 [(.int .i64 p_p.LevitatePlant.Den), v1, v3] 89 ∧ Ext w wd708) hl729 ⟨0, rfl, rfl, rfl, rfl, rfl, rfl, h26, h24, h25, hB21, (hB13.ext he20), e27⟩ ?_
    rintro _ ρ wd708 ⟨x715, rfl, hs711, hs712, hs713, hs714, hs716, h710, h719, h720, hB718, hB722, e709⟩ x731 h hx732 K733 hK733
    refine WC_seqK fun K736 hK736 => ?_
    refine WC_region ?_
    refine T0_q (v := (.bool (decide (x715 < (p_p.LevitatePlant.Maps.length : Int))))) rfl (yl_lss hs716 hs714) ?_
    refine T0_nil ?_
    refine hK736 _ _ ?_
    refine WC_seqK fun K737 hK737 => ?_
    refine WC_cond (b := (decide (x715 < (p_p.LevitatePlant.Maps.length : Int)))) rfl (fun hb738 => ?_) (fun hb738 => ?_)
    · clear hK734 hK736
      replace h := cond_t hb738 h
      refine WC_skip ?_
      refine hK737 _ _ ?_
      refine WC_seqK fun K739 hK739 => ?_
      refine WC_block ?_
      refine WC_seqK fun K740 hK740 => ?_
      refine WC_region ?_
      refine T0_q (v := (.int .i64 x715)) rfl (yl_move hs716) ?_
      refine T0_q (v := (.int .i64 x715)) rfl (yl_assign rfl) ?_
      refine T0_nil ?_
      refine hK740 _ _ ?_
      refine WC_seqK fun K741 hK741 => ?_
      refine WC_region ?_
      refine T0_q (v := v_p_box) rfl (yl_move hs711) ?_
      refine T0_q (v := (.int .i64 (p_box.length : Int))) rfl (yl_lenR rfl Try.underlying23 h710 rfl) ?_
      refine T0_q (v := (.int .i64 0)) rfl (yl_move rfl) ?_
      refine T0_nil ?_
      refine hK741 _ _ ?_
      have hq := bind_elim h
      clear h
      obtain ⟨o912, hl913, hn914⟩ := hq
      refine WC_post (fun (ρ : Env) (wd898 : World) => .inr () = o912 ∧ ρ 1 = v_p_box ∧ ρ 2 = (.pointer (some ⟨b9, 0, none⟩)) ∧ ρ 4 = (.pointer (some ⟨b17, 0, none⟩)) ∧ ρ 12 = (.int .i64 (p_p.LevitatePlant.Maps.length : Int)) ∧ ρ 13 = (.int .i64 x715) ∧ SlRd ((.pointer (some ⟨b17, 0, none⟩)) :: L) wd898 v_p_box p_box ∧ SlRd ((.pointer (some ⟨b17, 0, none⟩)) :: L) wd898 v1 p_p.LevitatePlant.Maps ∧ SlRd ((.pointer (some ⟨b17, 0, none⟩)) :: L) wd898 v3 p_p.LevitatePlant.Noise ∧ Box wd898 b17 [(.int .i64 0), (.int .i64 0)] 29 ∧ Box wd898 b9 [(.int .i64 p_p.LevitatePlant.Den), v1, v3] 89 ∧ Ext w wd898) ?_ ?_
      · clear hK733 hK737 hK739 hK740 hK741
        intro K918 hK918
        refine WC_block ?_
        refine WC_loopk (fun sv ρ wd879 => ∃ (x890 : Int), x890 = sv ∧ ρ 1 = v_p_box ∧ ρ 2 = (.pointer (some ⟨b9, 0, none⟩)) ∧ ρ 4 = (.pointer (some ⟨b17, 0, none⟩)) ∧ ρ 6 = (.int .i64 x715) ∧ ρ 12 = (.int .i64 (p_p.LevitatePlant.Maps.length : Int)) ∧ ρ 13 = (.int .i64 x715) ∧ ρ 16 = v_p_box ∧ ρ 17 = (.int .i64 (p_box.length : Int)) ∧ ρ 18 = (.int .i64 x890) ∧ SlRd ((.pointer (some ⟨b17, 0, none⟩)) :: L) wd879 v_p_box p_box ∧ SlRd ((.pointer (some ⟨b17, 0, none⟩)) :: L) wd879 v1 p_p.LevitatePlant.Maps ∧ SlRd ((.pointer (some ⟨b17, 0, none⟩)) :: L) wd879 v3 p_p.LevitatePlant.Noise ∧ Box wd879 b17 [(.int .i64 0), (.int .i64 0)] 29 ∧ Box wd879 b9 [(.int .i64 p_p.LevitatePlant.Den), v1, v3] 89 ∧ Ext w wd879) hl913 ⟨0, rfl, hs711, hs712, hs713, rfl, hs714, hs716, rfl, rfl, rfl, h710, h719, h720, hB718, hB722, e709⟩ ?_
        rintro _ ρ wd879 ⟨x890, rfl, hs882, hs883, hs884, hs885, hs886, hs887, hs888, hs889, hs891, h881, h894, h895, hB893, hB897, e880⟩ x915 h hx916 K917 hK917
        refine WC_seqK fun K920 hK920 => ?_
        refine WC_region ?_
        refine T0_q (v := (.bool (decide (x890 < (p_box.length : Int))))) rfl (yl_lss hs891 hs889) ?_
        refine T0_nil ?_
        refine hK920 _ _ ?_
        refine WC_seqK fun K921 hK921 => ?_
        refine WC_cond (b := (decide (x890 < (p_box.length : Int)))) rfl (fun hb922 => ?_) (fun hb922 => ?_)
        · clear hK918 hK920
          replace h := cond_t hb922 h
          refine WC_skip ?_
          refine hK921 _ _ ?_
          refine WC_seqK fun K923 hK923 => ?_
          refine WC_block ?_
          refine WC_seqK fun K924 hK924 => ?_
          refine WC_region ?_
          refine T0_q (v := (.int .i64 x890)) rfl (yl_move hs891) ?_
          have hq := bind_elim h
          clear h
          obtain ⟨el925, hel926, h⟩ := hq
          have hq := SlRd.at h881 hel926
          obtain ⟨cs927, hat928, hrd929⟩ := hq
          have hrd929 : cs927 = [(.int .i64 el925)] := hrd929
          subst hrd929
          refine T0_q (v := (.pointer (some (elemAddr v_p_box (x890 : Int).toNat 1)))) rfl (yl_indexAddr Try.underlying23 sz3 h881 hel926 hs888 hs891) ?_
          refine T0_q (v := (.int .i64 el925)) rfl (yl_load sc3 rfl hat928) ?_
          refine T0_q (v := (.int .i64 x890)) rfl (yl_assign rfl) ?_
          refine T0_q (v := (.int .i64 el925)) rfl (yl_assign rfl) ?_
          refine T0_nil ?_
          refine hK924 _ _ ?_
          refine WC_seqK fun K931 hK931 => ?_
          refine WC_region ?_
          refine T0_q (v := (.agg (List.toArray [(.int .i64 p_p.LevitatePlant.Den), v1, v3]))) rfl (yl_loadA (cs := [(.int .i64 p_p.LevitatePlant.Den), v1, v3]) ag89 hs883 (Box.at hB897)) ?_
          refine T0_q (v := (.int .i64 x715)) rfl (yl_move hs885) ?_
          refine T0_q (v := (.int .i64 x890)) rfl (yl_move rfl) ?_
          refine T0_q (v := v_p_box) rfl (yl_move hs882) ?_
          have hq := bind_elim h
          clear h
          obtain ⟨r932, hr933, h⟩ := hq
          refine T0_e rfl (eff_call Try.func51 nm51 rfl (ev4 rfl rfl rfl rfl) (levitate_plant_need_ok [] _ (LtL.nil _) [(.int .i64 p_p.LevitatePlant.Den), v1, v3] p_p ⟨v1, v3, (h894.sub (fun _ h => by cases h)), (h895.sub (fun _ h => by cases h)), rfl⟩ x715 x890 v_p_box p_box (h881.sub (fun _ h => by cases h)) r932 hr933) ?_)
          rintro _ wd934 ⟨he935, rfl⟩
          have e936 := e880.trans he935
          refine T0_q (v := (.int .i64 el925)) rfl (yl_move rfl) ?_
          refine T0_q (v := (.bool (decide (el925 < r932)))) rfl (yl_gtr rfl rfl) ?_
          refine T0_nil ?_
          refine hK931 _ _ ?_
          refine WC_cond (b := (decide (el925 < r932))) rfl (fun hb937 => ?_) (fun hb937 => ?_)
          · clear hK917 hK921 hK923 hK924 hK931
            replace h := cond_t hb937 h
            refine WC_seqK fun K938 hK938 => ?_
            refine WC_region ?_
            refine T0_q (v := (.int .i64 x715)) rfl (yl_move hs885) ?_
            refine T0_q (v := (.int .i64 x890)) rfl (yl_move rfl) ?_
            refine T0_q (v := (.agg (List.toArray [(.int .i64 x715), (.int .i64 x890)]))) rfl (yl_buildC (cells := [(.int .i64 x715), (.int .i64 x890)]) bi29 (pc_cons rfl rfl (pc_cons rfl rfl pc_nil)) rfl) ?_
            refine T0_e rfl (eff_storeC (vs := [(.int .i64 x715), (.int .i64 x890)]) (cs' := [(.int .i64 x715), (.int .i64 x890)]) sz29 rfl rfl hs884 rfl (hB893.ext he935) rfl (oc_cons rfl (oc_cons rfl oc_nil)) rfl ?_)
            intro wd939 hc940 hB941
            have e946 := chg_box e936 hc940 hbf23
            refine T0_q (v := (.bool true)) rfl (yl_assign rfl) ?_
            refine T0_nil ?_
            refine hK938 _ _ ?_
            refine WC_ret ?_
            replace h := some_out h
            subst h
            have ho := hx916 _ rfl
            subst ho
            replace h := jn0_inl hn914
            replace h := some_out h
            subst h
            have ho := hx732 _ rfl
            subst ho
            replace h := jn0_inl hn730
            replace h := some_out h
            subst h
            exact ⟨[(.agg (List.toArray [(.int .i64 x715), (.int .i64 x890)])), (.bool true)], ⟨⟨_, hs884, run_loadVarA (cs := [(.int .i64 x715), (.int .i64 x890)]) ag29 (Box.at hB941)⟩, rfl, trivial⟩, e946, [(.int .i64 x715), (.int .i64 x890)], rfl, rfl⟩
          · clear hK921 hK924 hK931
            replace h := cond_f hb937 h
            refine WC_skip ?_
            refine hK923 _ _ ?_
            refine WC_region ?_
            refine T0_q (v := (.int .i64 (w64 (x890 + 1)))) rfl (yl_add hs891 rfl) ?_
            refine T0_q (v := (.int .i64 (w64 (x890 + 1)))) rfl (yl_move rfl) ?_
            refine T0_nil ?_
            replace h := some_out h
            subst h
            refine hK917 _ _ _ rfl ?_
            exact ⟨w64 (x890 + 1), rfl, hs882, hs883, hs884, hs885, hs886, hs887, hs888, hs889, rfl, (h881.ext he935), (h894.ext he935), (h895.ext he935), (hB893.ext he935), (hB897.ext he935), e936⟩
        · clear hK917 hK920 hK921
          replace h := cond_f hb922 h
          refine WC_exit ?_
          replace h := some_out h
          subst h
          have ho := hx916 _ rfl
          subst ho
          refine hK918 _ _ ?_
          exact ⟨rfl, hs882, hs883, hs884, hs886, hs887, h881, h894, h895, hB893, hB897, e880⟩
      · clear hK737 hK740 hK741
        rintro ρ wd898 ⟨rfl, hs901, hs902, hs903, hs904, hs905, h900, h908, h909, hB907, hB911, e899⟩
        replace h := jn0_inr hn914
        refine hK739 _ _ ?_
        refine WC_region ?_
        refine T0_q (v := (.int .i64 (w64 (x715 + 1)))) rfl (yl_add hs905 rfl) ?_
        refine T0_q (v := (.int .i64 (w64 (x715 + 1)))) rfl (yl_move rfl) ?_
        refine T0_nil ?_
        replace h := some_out h
        subst h
        refine hK733 _ _ _ rfl ?_
        exact ⟨w64 (x715 + 1), rfl, hs901, hs902, hs903, hs904, rfl, h900, h908, h909, hB907, hB911, e899⟩
    · clear hK733 hK736 hK737
      replace h := cond_f hb738 h
      refine WC_exit ?_
      replace h := some_out h
      subst h
      have ho := hx732 _ rfl
      subst ho
      refine hK734 _ _ ?_
      exact ⟨rfl, hs713, hB718, e709⟩
  · clear hK30 hK8
    rintro ρ wd723 ⟨rfl, hs725, hB727, e724⟩
    replace h := jn0_inr hn730
    refine hK29 _ _ ?_
    refine WC_seqK fun K947 hK947 => ?_
    refine WC_region ?_
    refine T0_q (v := (.agg (List.toArray [(.int .i64 0), (.int .i64 0)]))) rfl (yl_buildC (cells := [(.int .i64 0), (.int .i64 0)]) bi29 pc_nil rfl) ?_
    refine T0_e rfl (eff_storeC (vs := [(.int .i64 0), (.int .i64 0)]) (cs' := [(.int .i64 0), (.int .i64 0)]) sz29 rfl rfl hs725 rfl hB727 rfl (oc_cons rfl (oc_cons rfl oc_nil)) rfl ?_)
    intro wd948 hc949 hB950
    have e951 := chg_box e724 hc949 hbf23
    refine T0_q (v := (.bool false)) rfl (yl_assign rfl) ?_
    refine T0_nil ?_
    refine hK947 _ _ ?_
    refine WC_ret ?_
    replace h := some_out h
    subst h
    exact ⟨[(.agg (List.toArray [(.int .i64 0), (.int .i64 0)])), (.bool false)], ⟨⟨_, hs725, run_loadVarA (cs := [(.int .i64 0), (.int .i64 0)]) ag29 (Box.at hB950)⟩, rfl, trivial⟩, e951, [(.int .i64 0), (.int .i64 0)], rfl, rfl⟩

noncomputable def slices_IndexFunc_int_121_s0 (c5 : (List (List Int))) (p_s : (List (List Int))) : (Int) → Option ((Int) ⊕ (Int ⊕ (Unit))) := fun x116 =>
  (bif (decide (x116 < (p_s.length : Int))) then (
    (Option.bind (idx p_s x116) fun el137 =>
    (Option.bind (levitate_formErr_1_spec el137 c5) fun r146 =>
    (bif r146 then (
      some (.inr (.inl x116))
    ) else (
      some (.inl (w64 (x116 + 1)))
    ))
    )
    )
  ) else (
    some (.inr (.inr ()))
  ))
noncomputable def slices_IndexFunc_int_121_spec (p_s : (List (List Int))) (c5 : (List (List Int))) : Option Int :=
  (Option.bind (loop (slices_IndexFunc_int_121_s0 c5 p_s) 0) fun o123 => jn0 o123 fun (_ : Unit) =>
  some (-1)
  )
theorem slices_IndexFunc_int_121_ok (L : List Value) (w : World) (hL : LtL L w) (v_p_s : Value) (p_s : (List (List Int))) (h_p_s : SlRd L w v_p_s p_s) (b2 : Nat) (v6 : Value) (c5 : (List (List Int))) (h7 : SlRd L w v6 c5) (hB3 : Box w b2 [v6] 47) (r : Int) (h : slices_IndexFunc_int_121_spec p_s c5 = some r) :
    CallsTo Try.prog 126 [v_p_s, (.func (.func 121) #[] (List.toArray [(.pointer (some ⟨b2, 0, none⟩))]))] w (fun v w' => Ext w w' ∧ (.int .i64 r) = v) := by
  have e0 : Ext w w := Chg.refl _ _
  refine callsTo_of_WC (n := 19) (rs := [.tmp 4]) Try.func126 rfl rfl rfl rfl rfl ?_
  refine WC_seqK fun K9 hK9 => ?_
  refine WC_region ?_
  refine T0_q (v := (.int .i64 0)) rfl (yl_assign rfl) ?_
  refine T0_nil ?_
  refine hK9 _ _ ?_
  refine WC_seqK fun K10 hK10 => ?_
  refine WC_seqK fun K11 hK11 => ?_
  refine WC_region ?_
  refine T0_q (v := v_p_s) rfl (yl_move rfl) ?_
  refine T0_q (v := (.int .i64 (p_s.length : Int))) rfl (yl_lenR rfl Try.underlying47 h_p_s rfl) ?_
  refine T0_q (v := (.int .i64 0)) rfl (yl_move rfl) ?_
  refine T0_nil ?_
  refine hK11 _ _ ?_
  have hq := bind_elim h
  clear h
  obtain ⟨o123, hl124, hn125⟩ := hq
  refine WC_post (fun (ρ : Env) (wd121 : World) => .inr () = o123 ∧ Ext w wd121) ?_ ?_
  · clear hK10 hK11 hK9
    intro K129 hK129
    refine WC_block ?_
    refine WC_loopk (fun sv ρ wd110 => ∃ (x116 : Int), x116 = sv ∧ ρ 0 = v_p_s ∧ ρ 1 = (.func (.func 121) #[] (List.toArray [(.pointer (some ⟨b2, 0, none⟩))])) ∧ ρ 7 = (.int .i64 (p_s.length : Int)) ∧ ρ 8 = (.int .i64 x116) ∧ SlRd L wd110 v_p_s p_s ∧ SlRd L wd110 v6 c5 ∧ Box wd110 b2 [v6] 47 ∧ Ext w wd110) hl124 ⟨0, rfl, rfl, rfl, rfl, rfl, h_p_s, h7, hB3, e0⟩ ?_
    rintro _ ρ wd110 ⟨x116, rfl, hs113, hs114, hs115, hs117, h112, h118, hB120, e111⟩ x126 h hx127 K128 hK128
    refine WC_seqK fun K131 hK131 => ?_
    refine WC_region ?_
    refine T0_q (v := (.bool (decide (x116 < (p_s.length : Int))))) rfl (yl_lss hs117 hs115) ?_
    refine T0_nil ?_
    refine hK131 _ _ ?_
    refine WC_seqK fun K132 hK132 => ?_
    refine WC_cond (b := (decide (x116 < (p_s.length : Int)))) rfl (fun hb133 => ?_) (fun hb133 => ?_)
    · clear hK129 hK131
      replace h := cond_t hb133 h
      refine WC_skip ?_
      refine hK132 _ _ ?_
      refine WC_seqK fun K134 hK134 => ?_
      refine WC_block ?_
      refine WC_seqK fun K135 hK135 => ?_
      refine WC_region ?_
      refine T0_q (v := (.int .i64 x116)) rfl (yl_move hs117) ?_
      refine T0_q (v := (.int .i64 x116)) rfl (yl_assign rfl) ?_
      refine T0_nil ?_
      refine hK135 _ _ ?_
      refine WC_seqK fun K136 hK136 => ?_
      refine WC_region ?_
      refine T0_q (v := (.func (.func 121) #[] (List.toArray [(.pointer (some ⟨b2, 0, none⟩))]))) rfl (yl_move hs114) ?_
      refine T0_q (v := v_p_s) rfl (yl_move hs113) ?_
      refine T0_q (v := (.int .i64 x116)) rfl (yl_move rfl) ?_
      have hq := bind_elim h
      clear h
      obtain ⟨el137, hel138, h⟩ := hq
      have hq := SlRd.at h112 hel138
      obtain ⟨cs141, hat142, hrd143⟩ := hq
      obtain ⟨v139, rfl, h140⟩ := hrd143
      refine T0_q (v := (.pointer (some (elemAddr v_p_s (x116 : Int).toNat 1)))) rfl (yl_indexAddr Try.underlying47 sz23 h112 hel138 rfl rfl) ?_
      refine T0_q (v := v139) rfl (yl_load sc23 rfl hat142) ?_
      have hq := bind_elim h
      clear h
      obtain ⟨r146, hr147, h⟩ := hq
      refine T0_e rfl (eff_callC rfl Try.func121 nm121 rfl (ev1 rfl) rfl (levitate_formErr_1_ok [] _ (LtL.nil _) v139 el137 (h140.sub (fun _ h => by cases h)) b2 v6 c5 (h118.sub (fun _ h => by cases h)) hB120 r146 hr147) ?_)
      rintro _ wd148 ⟨he149, rfl⟩
      have e150 := e111.trans he149
      refine T0_nil ?_
      refine hK136 _ _ ?_
      refine WC_cond (b := r146) rfl (fun hb151 => ?_) (fun hb151 => ?_)
      · clear hK128 hK132 hK134 hK135 hK136
        replace h := cond_t hb151 h
        refine WC_seqK fun K152 hK152 => ?_
        refine WC_region ?_
        refine T0_q (v := (.int .i64 x116)) rfl (yl_move rfl) ?_
        refine T0_q (v := (.int .i64 x116)) rfl (yl_assign rfl) ?_
        refine T0_nil ?_
        refine hK152 _ _ ?_
        refine WC_ret ?_
        replace h := some_out h
        subst h
        have ho := hx127 _ rfl
        subst ho
        replace h := jn0_inl hn125
        replace h := some_out h
        subst h
        exact ⟨[(.int .i64 x116)], ⟨rfl, trivial⟩, e150, rfl⟩
      · clear hK132 hK135 hK136
        replace h := cond_f hb151 h
        refine WC_skip ?_
        refine hK134 _ _ ?_
        refine WC_region ?_
        refine T0_q (v := (.int .i64 (w64 (x116 + 1)))) rfl (yl_add hs117 rfl) ?_
        refine T0_q (v := (.int .i64 (w64 (x116 + 1)))) rfl (yl_move rfl) ?_
        refine T0_nil ?_
        replace h := some_out h
        subst h
        refine hK128 _ _ _ rfl ?_
        exact ⟨w64 (x116 + 1), rfl, hs113, hs114, hs115, rfl, (h112.ext he149), (h118.ext he149), (hB120.ext he149), e150⟩
    · clear hK128 hK131 hK132
      replace h := cond_f hb133 h
      refine WC_exit ?_
      replace h := some_out h
      subst h
      have ho := hx127 _ rfl
      subst ho
      refine hK129 _ _ ?_
      exact ⟨rfl, e111⟩
  · clear hK11 hK9
    rintro ρ wd121 ⟨rfl, e122⟩
    replace h := jn0_inr hn125
    refine hK10 _ _ ?_
    refine WC_seqK fun K153 hK153 => ?_
    refine WC_region ?_
    refine T0_q (v := (.int .i64 (-1))) rfl (yl_assign rfl) ?_
    refine T0_nil ?_
    refine hK153 _ _ ?_
    refine WC_ret ?_
    replace h := some_out h
    subst h
    exact ⟨[(.int .i64 (-1))], ⟨rfl, trivial⟩, e122, rfl⟩

noncomputable def levitate_ends_65_spec (p_r : Range) : Option Bool :=
  (Option.bind (levitate_isGap_spec p_r.Lo) fun r11 =>
  (Option.bind (bif r11 then levitate_isGap_spec p_r.Hi else some default) fun r16 =>
  some (r11 && r16)
  )
  )
theorem levitate_ends_65_ok (L : List Value) (w : World) (hL : LtL L w) (cs_p_r : List Value) (p_r : Range) (h_p_r : Rep.rd L w cs_p_r p_r) (r : Bool) (h : levitate_ends_65_spec p_r = some r) :
    CallsTo Try.prog 63 [(.agg cs_p_r.toArray), (.func (.func 65) #[] #[])] w (fun v w' => Ext w w' ∧ (.bool r) = v) := by
  have e0 : Ext w w := Chg.refl _ _
  have h_p_r : cs_p_r = [(.int .i64 p_r.Lo), (.int .i64 p_r.Hi)] := h_p_r
  subst h_p_r
  refine callsTo_of_WC (n := 15) (rs := [.tmp 4]) Try.func63 rfl rfl rfl rfl rfl ?_
  refine WC_seqK fun K1 hK1 => ?_
  refine WC_region ?_
  refine T0_e rfl (eff_boxC (cs := [(.int .i64 p_r.Lo), (.int .i64 p_r.Hi)]) rfl rfl ?_)
  intro b2 wd3 hb4 he5 hB6
  have e8 := e0.trans he5
  refine T0_q (v := (.bool false)) rfl (yl_assign rfl) ?_
  refine T0_nil ?_
  refine hK1 _ _ ?_
  refine WC_seqK fun K10 hK10 => ?_
  refine WC_region ?_
  refine T0_q (v := (.func (.func 65) #[] #[])) rfl (yl_move rfl) ?_
  refine T0_q (v := (.pointer (some ⟨b2, 0, none⟩))) rfl (yl_fa 0 Try.underlying74 rfl rfl ⟨0, sz3⟩ rfl rfl) ?_
  refine T0_q (v := (.int .i64 p_r.Lo)) rfl (yl_load sc3 rfl (Box.at hB6)) ?_
  have hq := bind_elim h
  clear h
  obtain ⟨r11, hr12, h⟩ := hq
  refine T0_e rfl (eff_callV rfl Try.func65 nm65 rfl (ev1 rfl) (levitate_isGap_ok [] _ (LtL.nil _) p_r.Lo r11 hr12) ?_)
  rintro _ wd13 ⟨he14, rfl⟩
  have e15 := e8.trans he14
  refine T0_q (v := (.bool r11)) rfl (yl_move rfl) ?_
  refine T0_g (v := (.func (.func 65) #[] #[])) r11 (wanted_t rfl rfl rfl rfl) (fun hg => (yl_move rfl)) ?_
  refine T0_g (v := (.pointer (some ⟨b2, 1, none⟩))) r11 (wanted_t rfl rfl rfl rfl) (fun hg => (yl_fa 1 Try.underlying74 rfl rfl ⟨0, sz3⟩ rfl rfl)) ?_
  refine T0_g (v := (.int .i64 p_r.Hi)) r11 (wanted_t rfl rfl rfl rfl) (fun hg => (yl_load sc3 (gd_true hg) (At.drop (Box.at (hB6.ext he14)) 1))) ?_
  have hq := bind_elim h
  clear h
  obtain ⟨r16, hr17, h⟩ := hq
  refine T0_ges r11 (.bool r16) (wanted_t rfl rfl rfl rfl) (fun hg => eff_callV (gd_true hg) Try.func65 nm65 rfl (ev1 (gd_true hg)) (levitate_isGap_ok [] _ (LtL.nil _) p_r.Hi r16 (cond_t hg hr17)) (by rintro _ wd18 ⟨he19, rfl⟩; exact ⟨rfl, he19⟩)) ?_
  intro wd18 he19
  have e21 := e15.trans he19
  refine T0_q (v := (.bool (r11 && r16))) rfl (yl_and rfl (fun hb => (gd_true hb)) rfl) ?_
  refine T0_q (v := (.bool (r11 && r16))) rfl (yl_assign rfl) ?_
  refine T0_nil ?_
  refine hK10 _ _ ?_
  refine WC_ret ?_
  replace h := some_out h
  subst h
  exact ⟨[(.bool (r11 && r16))], ⟨rfl, trivial⟩, e21, rfl⟩

noncomputable def levitate_allSmall_1_1_spec (p_n : Int) (c4 : Int) : Option Bool :=
  (Option.bind (levitate_small_spec p_n c4) fun r7 =>
  some (!r7)
  )
theorem levitate_allSmall_1_1_ok (L : List Value) (w : World) (hL : LtL L w) (p_n : Int) (b1 : Nat) (c4 : Int) (hB2 : Box w b1 [(.int .i64 c4)] 3) (r : Bool) (h : levitate_allSmall_1_1_spec p_n c4 = some r) :
    CallsTo Try.prog 70 [(.int .i64 p_n), (.pointer (some ⟨b1, 0, none⟩))] w (fun v w' => Ext w w' ∧ (.bool r) = v) := by
  have e0 : Ext w w := Chg.refl _ _
  refine callsTo_of_WC (n := 8) (rs := [.tmp 3]) Try.func70 rfl rfl rfl rfl rfl ?_
  refine WC_seqK fun K5 hK5 => ?_
  refine WC_region ?_
  refine T0_q (v := (.bool false)) rfl (yl_assign rfl) ?_
  refine T0_nil ?_
  refine hK5 _ _ ?_
  refine WC_seqK fun K6 hK6 => ?_
  refine WC_region ?_
  refine T0_q (v := (.int .i64 p_n)) rfl (yl_move rfl) ?_
  refine T0_q (v := (.int .i64 c4)) rfl (yl_load sc3 rfl (Box.at hB2)) ?_
  have hq := bind_elim h
  clear h
  obtain ⟨r7, hr8, h⟩ := hq
  refine T0_e rfl (eff_call Try.func71 nm71 rfl (ev2 rfl rfl) (levitate_small_ok [] _ (LtL.nil _) p_n c4 r7 hr8) ?_)
  rintro _ wd9 ⟨he10, rfl⟩
  have e11 := e0.trans he10
  refine T0_q (v := (.bool (!r7))) rfl (yl_not rfl) ?_
  refine T0_q (v := (.bool (!r7))) rfl (yl_assign rfl) ?_
  refine T0_nil ?_
  refine hK6 _ _ ?_
  refine WC_ret ?_
  replace h := some_out h
  subst h
  exact ⟨[(.bool (!r7))], ⟨rfl, trivial⟩, e11, rfl⟩

noncomputable def levitate_ForceOf_spec (p_Listappend : Int) (p_String : Range) (p_factorcurrentgapfactorcurrentgaprighte : Range) : Option (Range × Int) :=
  (Option.bind (levitate_isFactor_spec p_Listappend) fun r31 =>
  (Option.bind (bif r31 then levitate_ends_64_spec p_String else some default) fun r38 =>
  (Option.bind (bif (r31 && r38) then levitate_ends_65_spec p_factorcurrentgapfactorcurrentgaprighte else some default) fun r46 =>
  (Option.bind (levitate_unless_spec ((r31 && r38) && r46) 2) fun r62 =>
  (Option.bind (levitate_unless_spec ((decide (p_String.Lo ≤ p_String.Hi)) && (decide (p_factorcurrentgapfactorcurrentgaprighte.Lo ≤ p_factorcurrentgapfactorcurrentgaprighte.Hi))) 9) fun r70 =>
  (Option.bind (levitate_first_spec ([r62, r70] : List Int)) fun r87 =>
  (bif (!decide (r87 = 0)) then (
    some ((Range.mk 0 0), r87)
  ) else (
    (Option.bind (levitate_floor_spec (w64 ((w64 (p_Listappend * p_String.Lo)) * p_String.Lo)) (w64 (p_factorcurrentgapfactorcurrentgaprighte.Hi * p_factorcurrentgapfactorcurrentgaprighte.Hi))) fun r113 =>
    (Option.bind (levitate_ceil_spec (w64 ((w64 (p_Listappend * p_String.Hi)) * p_String.Hi)) (w64 (p_factorcurrentgapfactorcurrentgaprighte.Lo * p_factorcurrentgapfactorcurrentgaprighte.Lo))) fun r122 =>
    some ((Range.mk r113 r122), 0)
    )
    )
  ))
  )
  )
  )
  )
  )
  )
theorem levitate_ForceOf_ok (L : List Value) (w : World) (hL : LtL L w) (p_Listappend : Int) (cs_p_String : List Value) (p_String : Range) (h_p_String : Rep.rd L w cs_p_String p_String) (cs_p_factorcurrentgapfactorcurrentgaprighte : List Value) (p_factorcurrentgapfactorcurrentgaprighte : Range) (h_p_factorcurrentgapfactorcurrentgaprighte : Rep.rd L w cs_p_factorcurrentgapfactorcurrentgaprighte p_factorcurrentgapfactorcurrentgaprighte) (r : Range × Int) (h : levitate_ForceOf_spec p_Listappend p_String p_factorcurrentgapfactorcurrentgaprighte = some r) :
    CallsTo Try.prog 35 [(.int .i64 p_Listappend), (.agg cs_p_String.toArray), (.agg cs_p_factorcurrentgapfactorcurrentgaprighte.toArray)] w (fun v w' => Ext w w' ∧ ∃ (cs0 : List Value), (.tuple #[(.agg cs0.toArray), (.int .i64 r.2)]) = v ∧ Rep.rd L w' cs0 r.1) := by
  have e0 : Ext w w := Chg.refl _ _
  have h_p_String : cs_p_String = [(.int .i64 p_String.Lo), (.int .i64 p_String.Hi)] := h_p_String
  subst h_p_String
  have h_p_factorcurrentgapfactorcurrentgaprighte : cs_p_factorcurrentgapfactorcurrentgaprighte = [(.int .i64 p_factorcurrentgapfactorcurrentgaprighte.Lo), (.int .i64 p_factorcurrentgapfactorcurrentgaprighte.Hi)] := h_p_factorcurrentgapfactorcurrentgaprighte
  subst h_p_factorcurrentgapfactorcurrentgaprighte
  refine callsTo_of_WC (n := 68) (rs := [.cell 6 74, .tmp 7]) Try.func35 rfl rfl rfl rfl rfl ?_
  refine WC_seqK fun K1 hK1 => ?_
  refine WC_region ?_
  refine T0_e rfl (eff_boxC (cs := [(.int .i64 p_String.Lo), (.int .i64 p_String.Hi)]) rfl rfl ?_)
  intro b2 wd3 hb4 he5 hB6
  have e8 := e0.trans he5
  refine T0_e rfl (eff_boxC (cs := [(.int .i64 p_factorcurrentgapfactorcurrentgaprighte.Lo), (.int .i64 p_factorcurrentgapfactorcurrentgaprighte.Hi)]) rfl rfl ?_)
  intro b10 wd11 hb12 he13 hB14
  have e17 := e8.trans he13
  refine T0_e rfl (eff_allocZ zi74 ?_)
  intro b19 wd20 hb21 he22 hB23
  have hbf26 := bfresh e17 hb21
  have e27 := he13.trans he22
  have e28 := e17.trans he22
  refine T0_q (v := (.int .i64 0)) rfl (yl_assign rfl) ?_
  refine T0_nil ?_
  refine hK1 _ _ ?_
  refine WC_seqK fun K30 hK30 => ?_
  refine WC_region ?_
  refine T0_q (v := (.int .i64 p_Listappend)) rfl (yl_move rfl) ?_
  have hq := bind_elim h
  clear h
  obtain ⟨r31, hr32, h⟩ := hq
  refine T0_e rfl (eff_call Try.func62 nm62 rfl (ev1 rfl) (levitate_isFactor_ok [] _ (LtL.nil _) p_Listappend r31 hr32) ?_)
  rintro _ wd33 ⟨he34, rfl⟩
  have e35 := he22.trans he34
  have e36 := e27.trans he34
  have e37 := e28.trans he34
  refine T0_q (v := (.bool r31)) rfl (yl_move rfl) ?_
  refine T0_g (v := (.agg (List.toArray [(.int .i64 p_String.Lo), (.int .i64 p_String.Hi)]))) r31 (wanted_t rfl rfl rfl rfl) (fun hg => (yl_loadA (cs := [(.int .i64 p_String.Lo), (.int .i64 p_String.Hi)]) ag74 rfl (Box.at (hB6.ext e36)))) ?_
  have hq := bind_elim h
  clear h
  obtain ⟨r38, hr39, h⟩ := hq
  refine T0_ges r31 (.bool r38) (wanted_t rfl rfl rfl rfl) (fun hg => eff_call Try.func63 nm63 rfl (ev2 (gd_true hg) rfl) (levitate_ends_64_ok [] _ (LtL.nil _) [(.int .i64 p_String.Lo), (.int .i64 p_String.Hi)] p_String rfl r38 (cond_t hg hr39)) (by rintro _ wd40 ⟨he41, rfl⟩; exact ⟨rfl, he41⟩)) ?_
  intro wd40 he41
  have e42 := e35.trans he41
  have e43 := he34.trans he41
  have e44 := e36.trans he41
  have e45 := e37.trans he41
  refine T0_q (v := (.bool (r31 && r38))) rfl (yl_and rfl (fun hb => (gd_true hb)) rfl) ?_
  refine T0_q (v := (.bool (r31 && r38))) rfl (yl_move rfl) ?_
  refine T0_g (v := (.agg (List.toArray [(.int .i64 p_factorcurrentgapfactorcurrentgaprighte.Lo), (.int .i64 p_factorcurrentgapfactorcurrentgaprighte.Hi)]))) (r31 && r38) (wanted_t rfl rfl rfl rfl) (fun hg => (yl_loadA (cs := [(.int .i64 p_factorcurrentgapfactorcurrentgaprighte.Lo), (.int .i64 p_factorcurrentgapfactorcurrentgaprighte.Hi)]) ag74 rfl (Box.at (hB14.ext e42)))) ?_
  have hq := bind_elim h
  clear h
  obtain ⟨r46, hr47, h⟩ := hq
  refine T0_ges (r31 && r38) (.bool r46) (wanted_t rfl rfl rfl rfl) (fun hg => eff_call Try.func63 nm63 rfl (ev2 (gd_true hg) rfl) (levitate_ends_65_ok [] _ (LtL.nil _) [(.int .i64 p_factorcurrentgapfactorcurrentgaprighte.Lo), (.int .i64 p_factorcurrentgapfactorcurrentgaprighte.Hi)] p_factorcurrentgapfactorcurrentgaprighte rfl r46 (cond_t hg hr47)) (by rintro _ wd48 ⟨he49, rfl⟩; exact ⟨rfl, he49⟩)) ?_
  intro wd48 he49
  have e50 := e42.trans he49
  have e51 := e43.trans he49
  have e52 := e44.trans he49
  have e53 := e45.trans he49
  refine T0_q (v := (.bool ((r31 && r38) && r46))) rfl (yl_and rfl (fun hb => (gd_true hb)) rfl) ?_
  refine T0_q (v := (.bool ((r31 && r38) && r46))) rfl (yl_assign rfl) ?_
  refine T0_nil ?_
  refine hK30 _ _ ?_
  refine WC_seqK fun K54 hK54 => ?_
  refine WC_seqK fun K55 hK55 => ?_
  refine WC_planX mixed (.p 0 (.p 2 (.p 4 (.q 3 (.q 5 (.p 6 (.e 1 (.p 7 (.p 8 (.p 10 (.q 9 (.q 11 (.p 12 (.p 13 (.e 14 (.e 15 (.e 16 (.p 17 .done)))))))))))))))))) (by kernel_rfl) ?_
  intro wd56 he57
  have e58 := e50.trans he57
  have e59 := e51.trans he57
  have e60 := e52.trans he57
  have e61 := e53.trans he57
  refine TX_p (v := (.bool ((r31 && r38) && r46))) rfl rfl (fun w' => (yl_move rfl)) ?_
  refine TX_p (v := (.pointer (some ⟨b2, 0, none⟩))) rfl rfl (fun w' => (yl_fa 0 Try.underlying74 rfl rfl ⟨0, sz3⟩ rfl rfl)) ?_
  refine TX_p (v := (.pointer (some ⟨b2, 1, none⟩))) rfl rfl (fun w' => (yl_fa 1 Try.underlying74 rfl rfl ⟨0, sz3⟩ rfl rfl)) ?_
  refine TX_q (v := (.int .i64 p_String.Lo)) rfl rfl (fun w' hS => (yl_load sc3 rfl (Box.at (hB6.ext (e60.trans hS))))) ?_
  refine TX_q (v := (.int .i64 p_String.Hi)) rfl rfl (fun w' hS => (yl_load sc3 rfl (At.drop (Box.at (hB6.ext (e60.trans hS))) 1))) ?_
  refine TX_p (v := (.bool (decide (p_String.Lo ≤ p_String.Hi)))) rfl rfl (fun w' => (yl_leq rfl rfl)) ?_
  have hq := bind_elim h
  clear h
  obtain ⟨r62, hr63, h⟩ := hq
  refine TX_e rfl rfl (eff_call Try.func40 nm40 rfl (ev2 rfl rfl) (levitate_unless_ok [] _ (LtL.nil _) ((r31 && r38) && r46) 2 r62 hr63) ?_)
  rintro _ wd64 ⟨he65, rfl⟩
  have e66 := e58.trans he65
  have e67 := e59.trans he65
  have e68 := e60.trans he65
  have e69 := e61.trans he65
  refine ⟨he65, ?_⟩
  refine TX_p (v := (.bool (decide (p_String.Lo ≤ p_String.Hi)))) rfl rfl (fun w' => (yl_move rfl)) ?_
  refine TX_gp (v := (.pointer (some ⟨b10, 0, none⟩))) (decide (p_String.Lo ≤ p_String.Hi)) rfl (wanted_t rfl rfl rfl rfl) (fun w' hg => (yl_fa 0 Try.underlying74 rfl rfl ⟨0, sz3⟩ rfl rfl)) ?_
  refine TX_gp (v := (.pointer (some ⟨b10, 1, none⟩))) (decide (p_String.Lo ≤ p_String.Hi)) rfl (wanted_t rfl rfl rfl rfl) (fun w' hg => (yl_fa 1 Try.underlying74 rfl rfl ⟨0, sz3⟩ rfl rfl)) ?_
  refine TX_gq (v := (.int .i64 p_factorcurrentgapfactorcurrentgaprighte.Lo)) (decide (p_String.Lo ≤ p_String.Hi)) rfl (wanted_t rfl rfl rfl rfl) (fun w' hS hg => (yl_load sc3 (gd_true hg) (Box.at (hB14.ext (e66.trans hS))))) ?_
  refine TX_gq (v := (.int .i64 p_factorcurrentgapfactorcurrentgaprighte.Hi)) (decide (p_String.Lo ≤ p_String.Hi)) rfl (wanted_t rfl rfl rfl rfl) (fun w' hS hg => (yl_load sc3 (gd_true hg) (At.drop (Box.at (hB14.ext (e66.trans hS))) 1))) ?_
  refine TX_gp (v := (.bool (decide (p_factorcurrentgapfactorcurrentgaprighte.Lo ≤ p_factorcurrentgapfactorcurrentgaprighte.Hi)))) (decide (p_String.Lo ≤ p_String.Hi)) rfl (wanted_t rfl rfl rfl rfl) (fun w' hg => (yl_leq (gd_true hg) (gd_true hg))) ?_
  refine TX_p (v := (.bool ((decide (p_String.Lo ≤ p_String.Hi)) && (decide (p_factorcurrentgapfactorcurrentgaprighte.Lo ≤ p_factorcurrentgapfactorcurrentgaprighte.Hi))))) rfl rfl (fun w' => (yl_and rfl (fun hb => (gd_true hb)) rfl)) ?_
  have hq := bind_elim h
  clear h
  obtain ⟨r70, hr71, h⟩ := hq
  refine TX_e rfl rfl (eff_call Try.func40 nm40 rfl (ev2 rfl rfl) (levitate_unless_ok [] _ (LtL.nil _) ((decide (p_String.Lo ≤ p_String.Hi)) && (decide (p_factorcurrentgapfactorcurrentgaprighte.Lo ≤ p_factorcurrentgapfactorcurrentgaprighte.Hi))) 9 r70 hr71) ?_)
  rintro _ wd72 ⟨he73, rfl⟩
  have e74 := e66.trans he73
  have e75 := e67.trans he73
  have e76 := e68.trans he73
  have e77 := e69.trans he73
  refine ⟨he73, ?_⟩
  refine TX_e rfl rfl (eff_buildTC (xs := ([r62, r70] : List Int)) (cells := [(.int .i64 r62), (.int .i64 r70)]) Try.underlying108 ei30 rfl (pc_cons rfl rfl (pc_cons rfl rfl pc_nil)) rfl (Elems.cons (cs := [(.int .i64 r62)]) rfl (Elems.cons (cs := [(.int .i64 r70)]) rfl Elems.nil)) rfl (ltl_box (hL.chg e77) (hB23.ext e75)) ?_)
  intro b81 wd78 he79 h80
  have e82 := e74.trans he79
  have e83 := e75.trans he79
  have e84 := e76.trans he79
  have e85 := e77.trans he79
  refine ⟨he79, ?_⟩
  have hq := bind_elim h
  clear h
  obtain ⟨r87, hr88, h⟩ := hq
  refine TX_e rfl rfl (eff_call Try.func39 nm39 rfl (ev1 rfl) (levitate_first_ok [] _ (LtL.nil _) (.slice (some ⟨b81, 0, none⟩) 2 2) ([r62, r70] : List Int) (h80.sub (fun _ h => by cases h)) r87 hr88) ?_)
  rintro _ wd89 ⟨he90, rfl⟩
  have e91 := e82.trans he90
  have e92 := e83.trans he90
  have e93 := e84.trans he90
  have e94 := e85.trans he90
  refine ⟨he90, ?_⟩
  refine TX_p (v := (.int .i64 r87)) rfl rfl (fun w' => (yl_assign rfl)) ?_
  refine TX_done ?_
  refine hK55 _ _ ?_
  refine WC_seqK fun K95 hK95 => ?_
  refine WC_region ?_
  refine T0_q (v := (.int .i64 r87)) rfl (yl_move rfl) ?_
  refine T0_q (v := (.bool (!decide (r87 = 0)))) rfl (yl_neq rfl rfl) ?_
  refine T0_nil ?_
  refine hK95 _ _ ?_
  refine WC_cond (b := (!decide (r87 = 0))) rfl (fun hb96 => ?_) (fun hb96 => ?_)
  · clear hK1 hK30 hK54 hK55 hK95
    replace h := cond_t hb96 h
    refine WC_seqK fun K97 hK97 => ?_
    refine WC_region ?_
    refine T0_q (v := (.agg (List.toArray [(.int .i64 0), (.int .i64 0)]))) rfl (yl_buildC (cells := [(.int .i64 0), (.int .i64 0)]) bi74 pc_nil rfl) ?_
    refine T0_q (v := (.int .i64 r87)) rfl (yl_move rfl) ?_
    refine T0_e rfl (eff_storeC (vs := [(.int .i64 0), (.int .i64 0)]) (cs' := [(.int .i64 0), (.int .i64 0)]) sz74 rfl rfl rfl rfl (hB23.ext e92) rfl (oc_cons rfl (oc_cons rfl oc_nil)) rfl ?_)
    intro wd98 hc99 hB100
    have e104 := chg_box e94 hc99 hbf26
    refine T0_q (v := (.int .i64 r87)) rfl (yl_assign rfl) ?_
    refine T0_nil ?_
    refine hK97 _ _ ?_
    refine WC_ret ?_
    replace h := some_out h
    subst h
    exact ⟨[(.agg (List.toArray [(.int .i64 0), (.int .i64 0)])), (.int .i64 r87)], ⟨⟨_, rfl, run_loadVarA (cs := [(.int .i64 0), (.int .i64 0)]) ag74 (Box.at hB100)⟩, rfl, trivial⟩, e104, [(.int .i64 0), (.int .i64 0)], rfl, rfl⟩
  · clear hK1 hK30 hK55 hK95
    replace h := cond_f hb96 h
    refine WC_skip ?_
    refine hK54 _ _ ?_
    refine WC_seqK fun K105 hK105 => ?_
    refine WC_planX mixed (.p 0 (.p 1 (.p 4 (.p 7 (.p 9 (.p 13 (.p 14 (.p 17 (.p 20 (.p 22 (.q 2 (.p 3 (.q 5 (.p 6 (.q 8 (.q 10 (.p 11 (.q 15 (.p 16 (.q 18 (.p 19 (.q 21 (.q 23 (.p 24 (.e 12 (.e 25 (.p 26 (.b 27 (.p 28 .done))))))))))))))))))))))))))))) (by kernel_rfl) ?_
    intro wd106 he107
    have e108 := e91.trans he107
    have e109 := e92.trans he107
    have e110 := e93.trans he107
    have e112 := e94.trans he107
    refine TX_p (v := (.int .i64 p_Listappend)) rfl rfl (fun w' => (yl_move rfl)) ?_
    refine TX_p (v := (.pointer (some ⟨b2, 0, none⟩))) rfl rfl (fun w' => (yl_fa 0 Try.underlying74 rfl rfl ⟨0, sz3⟩ rfl rfl)) ?_
    refine TX_p (v := (.pointer (some ⟨b2, 0, none⟩))) rfl rfl (fun w' => (yl_fa 0 Try.underlying74 rfl rfl ⟨0, sz3⟩ rfl rfl)) ?_
    refine TX_p (v := (.pointer (some ⟨b10, 1, none⟩))) rfl rfl (fun w' => (yl_fa 1 Try.underlying74 rfl rfl ⟨0, sz3⟩ rfl rfl)) ?_
    refine TX_p (v := (.pointer (some ⟨b10, 1, none⟩))) rfl rfl (fun w' => (yl_fa 1 Try.underlying74 rfl rfl ⟨0, sz3⟩ rfl rfl)) ?_
    refine TX_p (v := (.int .i64 p_Listappend)) rfl rfl (fun w' => (yl_move rfl)) ?_
    refine TX_p (v := (.pointer (some ⟨b2, 1, none⟩))) rfl rfl (fun w' => (yl_fa 1 Try.underlying74 rfl rfl ⟨0, sz3⟩ rfl rfl)) ?_
    refine TX_p (v := (.pointer (some ⟨b2, 1, none⟩))) rfl rfl (fun w' => (yl_fa 1 Try.underlying74 rfl rfl ⟨0, sz3⟩ rfl rfl)) ?_
    refine TX_p (v := (.pointer (some ⟨b10, 0, none⟩))) rfl rfl (fun w' => (yl_fa 0 Try.underlying74 rfl rfl ⟨0, sz3⟩ rfl rfl)) ?_
    refine TX_p (v := (.pointer (some ⟨b10, 0, none⟩))) rfl rfl (fun w' => (yl_fa 0 Try.underlying74 rfl rfl ⟨0, sz3⟩ rfl rfl)) ?_
    refine TX_q (v := (.int .i64 p_String.Lo)) rfl rfl (fun w' hS => (yl_load sc3 rfl (Box.at (hB6.ext (e110.trans hS))))) ?_
    refine TX_p (v := (.int .i64 (w64 (p_Listappend * p_String.Lo)))) rfl rfl (fun w' => (yl_mul rfl rfl)) ?_
    refine TX_q (v := (.int .i64 p_String.Lo)) rfl rfl (fun w' hS => (yl_load sc3 rfl (Box.at (hB6.ext (e110.trans hS))))) ?_
    refine TX_p (v := (.int .i64 (w64 ((w64 (p_Listappend * p_String.Lo)) * p_String.Lo)))) rfl rfl (fun w' => (yl_mul rfl rfl)) ?_
    refine TX_q (v := (.int .i64 p_factorcurrentgapfactorcurrentgaprighte.Hi)) rfl rfl (fun w' hS => (yl_load sc3 rfl (At.drop (Box.at (hB14.ext (e108.trans hS))) 1))) ?_
    refine TX_q (v := (.int .i64 p_factorcurrentgapfactorcurrentgaprighte.Hi)) rfl rfl (fun w' hS => (yl_load sc3 rfl (At.drop (Box.at (hB14.ext (e108.trans hS))) 1))) ?_
    refine TX_p (v := (.int .i64 (w64 (p_factorcurrentgapfactorcurrentgaprighte.Hi * p_factorcurrentgapfactorcurrentgaprighte.Hi)))) rfl rfl (fun w' => (yl_mul rfl rfl)) ?_
    refine TX_q (v := (.int .i64 p_String.Hi)) rfl rfl (fun w' hS => (yl_load sc3 rfl (At.drop (Box.at (hB6.ext (e110.trans hS))) 1))) ?_
    refine TX_p (v := (.int .i64 (w64 (p_Listappend * p_String.Hi)))) rfl rfl (fun w' => (yl_mul rfl rfl)) ?_
    refine TX_q (v := (.int .i64 p_String.Hi)) rfl rfl (fun w' hS => (yl_load sc3 rfl (At.drop (Box.at (hB6.ext (e110.trans hS))) 1))) ?_
    refine TX_p (v := (.int .i64 (w64 ((w64 (p_Listappend * p_String.Hi)) * p_String.Hi)))) rfl rfl (fun w' => (yl_mul rfl rfl)) ?_
    refine TX_q (v := (.int .i64 p_factorcurrentgapfactorcurrentgaprighte.Lo)) rfl rfl (fun w' hS => (yl_load sc3 rfl (Box.at (hB14.ext (e108.trans hS))))) ?_
    refine TX_q (v := (.int .i64 p_factorcurrentgapfactorcurrentgaprighte.Lo)) rfl rfl (fun w' hS => (yl_load sc3 rfl (Box.at (hB14.ext (e108.trans hS))))) ?_
    refine TX_p (v := (.int .i64 (w64 (p_factorcurrentgapfactorcurrentgaprighte.Lo * p_factorcurrentgapfactorcurrentgaprighte.Lo)))) rfl rfl (fun w' => (yl_mul rfl rfl)) ?_
    have hq := bind_elim h
    clear h
    obtain ⟨r113, hr114, h⟩ := hq
    refine TX_e rfl rfl (eff_call Try.func66 nm66 rfl (ev2 rfl rfl) (levitate_floor_ok [] _ (LtL.nil _) (w64 ((w64 (p_Listappend * p_String.Lo)) * p_String.Lo)) (w64 (p_factorcurrentgapfactorcurrentgaprighte.Hi * p_factorcurrentgapfactorcurrentgaprighte.Hi)) r113 hr114) ?_)
    rintro _ wd115 ⟨he116, rfl⟩
    have e118 := e109.trans he116
    have e121 := e112.trans he116
    refine ⟨he116, ?_⟩
    have hq := bind_elim h
    clear h
    obtain ⟨r122, hr123, h⟩ := hq
    refine TX_e rfl rfl (eff_call Try.func67 nm67 rfl (ev2 rfl rfl) (levitate_ceil_ok [] _ (LtL.nil _) (w64 ((w64 (p_Listappend * p_String.Hi)) * p_String.Hi)) (w64 (p_factorcurrentgapfactorcurrentgaprighte.Lo * p_factorcurrentgapfactorcurrentgaprighte.Lo)) r122 hr123) ?_)
    rintro _ wd124 ⟨he125, rfl⟩
    have e127 := e118.trans he125
    have e130 := e121.trans he125
    refine ⟨he125, ?_⟩
    refine TX_p (v := (.agg (List.toArray [(.int .i64 r113), (.int .i64 r122)]))) rfl rfl (fun w' => (yl_buildC (cells := [(.int .i64 r113), (.int .i64 r122)]) bi74 (pc_cons rfl rfl (pc_cons rfl rfl pc_nil)) rfl)) ?_
    refine TX_b rfl rfl (eff_storeC (vs := [(.int .i64 r113), (.int .i64 r122)]) (cs' := [(.int .i64 r113), (.int .i64 r122)]) sz74 rfl rfl rfl rfl (hB23.ext e127) rfl (oc_cons rfl (oc_cons rfl oc_nil)) rfl ?_)
    intro wd131 hc132 hB133
    have e137 := chg_box e130 hc132 hbf26
    refine TX_p (v := (.int .i64 0)) rfl rfl (fun w' => (yl_assign rfl)) ?_
    refine TX_done ?_
    refine hK105 _ _ ?_
    refine WC_ret ?_
    replace h := some_out h
    subst h
    exact ⟨[(.agg (List.toArray [(.int .i64 r113), (.int .i64 r122)])), (.int .i64 0)], ⟨⟨_, rfl, run_loadVarA (cs := [(.int .i64 r113), (.int .i64 r122)]) ag74 (Box.at hB133)⟩, rfl, trivial⟩, e137, [(.int .i64 r113), (.int .i64 r122)], rfl, rfl⟩

noncomputable def slices_ContainsFunc_int_121_spec (p_s : (List (List Int))) (c5 : (List (List Int))) : Option Bool :=
  (Option.bind (slices_IndexFunc_int_121_spec p_s c5) fun r11 =>
  some (decide (0 ≤ r11))
  )
theorem slices_ContainsFunc_int_121_ok (L : List Value) (w : World) (hL : LtL L w) (v_p_s : Value) (p_s : (List (List Int))) (h_p_s : SlRd L w v_p_s p_s) (b2 : Nat) (v6 : Value) (c5 : (List (List Int))) (h7 : SlRd L w v6 c5) (hB3 : Box w b2 [v6] 47) (r : Bool) (h : slices_ContainsFunc_int_121_spec p_s c5 = some r) :
    CallsTo Try.prog 120 [v_p_s, (.func (.func 121) #[] (List.toArray [(.pointer (some ⟨b2, 0, none⟩))]))] w (fun v w' => Ext w w' ∧ (.bool r) = v) := by
  have e0 : Ext w w := Chg.refl _ _
  refine callsTo_of_WC (n := 9) (rs := [.tmp 4]) Try.func120 rfl rfl rfl rfl rfl ?_
  refine WC_seqK fun K9 hK9 => ?_
  refine WC_region ?_
  refine T0_q (v := (.bool false)) rfl (yl_assign rfl) ?_
  refine T0_nil ?_
  refine hK9 _ _ ?_
  refine WC_seqK fun K10 hK10 => ?_
  refine WC_region ?_
  refine T0_q (v := v_p_s) rfl (yl_move rfl) ?_
  refine T0_q (v := (.func (.func 121) #[] (List.toArray [(.pointer (some ⟨b2, 0, none⟩))]))) rfl (yl_move rfl) ?_
  have hq := bind_elim h
  clear h
  obtain ⟨r11, hr12, h⟩ := hq
  refine T0_e rfl (eff_call Try.func126 nm126 rfl (ev2 rfl rfl) (slices_IndexFunc_int_121_ok [] _ (LtL.nil _) v_p_s p_s (h_p_s.sub (fun _ h => by cases h)) b2 v6 c5 (h7.sub (fun _ h => by cases h)) hB3 r11 hr12) ?_)
  rintro _ wd13 ⟨he14, rfl⟩
  have e15 := e0.trans he14
  refine T0_q (v := (.bool (decide (0 ≤ r11)))) rfl (yl_geq rfl rfl) ?_
  refine T0_q (v := (.bool (decide (0 ≤ r11)))) rfl (yl_assign rfl) ?_
  refine T0_nil ?_
  refine hK10 _ _ ?_
  refine WC_ret ?_
  replace h := some_out h
  subst h
  exact ⟨[(.bool (decide (0 ≤ r11)))], ⟨rfl, trivial⟩, e15, rfl⟩

noncomputable def slices_IndexFunc_int_70_s0 (c5 : Int) (p_s : (List Int)) : (Int) → Option ((Int) ⊕ (Int ⊕ (Unit))) := fun x101 =>
  (bif (decide (x101 < (p_s.length : Int))) then (
    (Option.bind (idx p_s x101) fun el121 =>
    (Option.bind (levitate_allSmall_1_1_spec el121 c5) fun r127 =>
    (bif r127 then (
      some (.inr (.inl x101))
    ) else (
      some (.inl (w64 (x101 + 1)))
    ))
    )
    )
  ) else (
    some (.inr (.inr ()))
  ))
noncomputable def slices_IndexFunc_int_70_spec (p_s : (List Int)) (c5 : Int) : Option Int :=
  (Option.bind (loop (slices_IndexFunc_int_70_s0 c5 p_s) 0) fun o107 => jn0 o107 fun (_ : Unit) =>
  some (-1)
  )
theorem slices_IndexFunc_int_70_ok (L : List Value) (w : World) (hL : LtL L w) (v_p_s : Value) (p_s : (List Int)) (h_p_s : SlRd L w v_p_s p_s) (b2 : Nat) (c5 : Int) (hB3 : Box w b2 [(.int .i64 c5)] 3) (r : Int) (h : slices_IndexFunc_int_70_spec p_s c5 = some r) :
    CallsTo Try.prog 68 [v_p_s, (.func (.func 70) #[] (List.toArray [(.pointer (some ⟨b2, 0, none⟩))]))] w (fun v w' => Ext w w' ∧ (.int .i64 r) = v) := by
  have e0 : Ext w w := Chg.refl _ _
  refine callsTo_of_WC (n := 19) (rs := [.tmp 4]) Try.func68 rfl rfl rfl rfl rfl ?_
  refine WC_seqK fun K6 hK6 => ?_
  refine WC_region ?_
  refine T0_q (v := (.int .i64 0)) rfl (yl_assign rfl) ?_
  refine T0_nil ?_
  refine hK6 _ _ ?_
  refine WC_seqK fun K7 hK7 => ?_
  refine WC_seqK fun K8 hK8 => ?_
  refine WC_region ?_
  refine T0_q (v := v_p_s) rfl (yl_move rfl) ?_
  refine T0_q (v := (.int .i64 (p_s.length : Int))) rfl (yl_lenR rfl Try.underlying23 h_p_s rfl) ?_
  refine T0_q (v := (.int .i64 0)) rfl (yl_move rfl) ?_
  refine T0_nil ?_
  refine hK8 _ _ ?_
  have hq := bind_elim h
  clear h
  obtain ⟨o107, hl108, hn109⟩ := hq
  refine WC_post (fun (ρ : Env) (wd105 : World) => .inr () = o107 ∧ Ext w wd105) ?_ ?_
  · clear hK6 hK7 hK8
    intro K113 hK113
    refine WC_block ?_
    refine WC_loopk (fun sv ρ wd95 => ∃ (x101 : Int), x101 = sv ∧ ρ 0 = v_p_s ∧ ρ 1 = (.func (.func 70) #[] (List.toArray [(.pointer (some ⟨b2, 0, none⟩))])) ∧ ρ 7 = (.int .i64 (p_s.length : Int)) ∧ ρ 8 = (.int .i64 x101) ∧ SlRd L wd95 v_p_s p_s ∧ Box wd95 b2 [(.int .i64 c5)] 3 ∧ Ext w wd95) hl108 ⟨0, rfl, rfl, rfl, rfl, rfl, h_p_s, hB3, e0⟩ ?_
    rintro _ ρ wd95 ⟨x101, rfl, hs98, hs99, hs100, hs102, h97, hB104, e96⟩ x110 h hx111 K112 hK112
    refine WC_seqK fun K115 hK115 => ?_
    refine WC_region ?_
    refine T0_q (v := (.bool (decide (x101 < (p_s.length : Int))))) rfl (yl_lss hs102 hs100) ?_
    refine T0_nil ?_
    refine hK115 _ _ ?_
    refine WC_seqK fun K116 hK116 => ?_
    refine WC_cond (b := (decide (x101 < (p_s.length : Int)))) rfl (fun hb117 => ?_) (fun hb117 => ?_)
    · clear hK113 hK115
      replace h := cond_t hb117 h
      refine WC_skip ?_
      refine hK116 _ _ ?_
      refine WC_seqK fun K118 hK118 => ?_
      refine WC_block ?_
      refine WC_seqK fun K119 hK119 => ?_
      refine WC_region ?_
      refine T0_q (v := (.int .i64 x101)) rfl (yl_move hs102) ?_
      refine T0_q (v := (.int .i64 x101)) rfl (yl_assign rfl) ?_
      refine T0_nil ?_
      refine hK119 _ _ ?_
      refine WC_seqK fun K120 hK120 => ?_
      refine WC_region ?_
      refine T0_q (v := (.func (.func 70) #[] (List.toArray [(.pointer (some ⟨b2, 0, none⟩))]))) rfl (yl_move hs99) ?_
      refine T0_q (v := v_p_s) rfl (yl_move hs98) ?_
      refine T0_q (v := (.int .i64 x101)) rfl (yl_move rfl) ?_
      have hq := bind_elim h
      clear h
      obtain ⟨el121, hel122, h⟩ := hq
      have hq := SlRd.at h97 hel122
      obtain ⟨cs123, hat124, hrd125⟩ := hq
      have hrd125 : cs123 = [(.int .i64 el121)] := hrd125
      subst hrd125
      refine T0_q (v := (.pointer (some (elemAddr v_p_s (x101 : Int).toNat 1)))) rfl (yl_indexAddr Try.underlying23 sz3 h97 hel122 rfl rfl) ?_
      refine T0_q (v := (.int .i64 el121)) rfl (yl_load sc3 rfl hat124) ?_
      have hq := bind_elim h
      clear h
      obtain ⟨r127, hr128, h⟩ := hq
      refine T0_e rfl (eff_callC rfl Try.func70 nm70 rfl (ev1 rfl) rfl (levitate_allSmall_1_1_ok [] _ (LtL.nil _) el121 b2 c5 hB104 r127 hr128) ?_)
      rintro _ wd129 ⟨he130, rfl⟩
      have e131 := e96.trans he130
      refine T0_nil ?_
      refine hK120 _ _ ?_
      refine WC_cond (b := r127) rfl (fun hb132 => ?_) (fun hb132 => ?_)
      · clear hK112 hK116 hK118 hK119 hK120
        replace h := cond_t hb132 h
        refine WC_seqK fun K133 hK133 => ?_
        refine WC_region ?_
        refine T0_q (v := (.int .i64 x101)) rfl (yl_move rfl) ?_
        refine T0_q (v := (.int .i64 x101)) rfl (yl_assign rfl) ?_
        refine T0_nil ?_
        refine hK133 _ _ ?_
        refine WC_ret ?_
        replace h := some_out h
        subst h
        have ho := hx111 _ rfl
        subst ho
        replace h := jn0_inl hn109
        replace h := some_out h
        subst h
        exact ⟨[(.int .i64 x101)], ⟨rfl, trivial⟩, e131, rfl⟩
      · clear hK116 hK119 hK120
        replace h := cond_f hb132 h
        refine WC_skip ?_
        refine hK118 _ _ ?_
        refine WC_region ?_
        refine T0_q (v := (.int .i64 (w64 (x101 + 1)))) rfl (yl_add hs102 rfl) ?_
        refine T0_q (v := (.int .i64 (w64 (x101 + 1)))) rfl (yl_move rfl) ?_
        refine T0_nil ?_
        replace h := some_out h
        subst h
        refine hK112 _ _ _ rfl ?_
        exact ⟨w64 (x101 + 1), rfl, hs98, hs99, hs100, rfl, (h97.ext he130), (hB104.ext he130), e131⟩
    · clear hK112 hK115 hK116
      replace h := cond_f hb117 h
      refine WC_exit ?_
      replace h := some_out h
      subst h
      have ho := hx111 _ rfl
      subst ho
      refine hK113 _ _ ?_
      exact ⟨rfl, e96⟩
  · clear hK6 hK8
    rintro ρ wd105 ⟨rfl, e106⟩
    replace h := jn0_inr hn109
    refine hK7 _ _ ?_
    refine WC_seqK fun K134 hK134 => ?_
    refine WC_region ?_
    refine T0_q (v := (.int .i64 (-1))) rfl (yl_assign rfl) ?_
    refine T0_nil ?_
    refine hK134 _ _ ?_
    refine WC_ret ?_
    replace h := some_out h
    subst h
    exact ⟨[(.int .i64 (-1))], ⟨rfl, trivial⟩, e106, rfl⟩

noncomputable def levitate_formErr_s0 (el1158 : (List Int)) (p_f : (List (List Int))) (x1139 : Int) : (Int) → Option ((Int) ⊕ (((Int) ⊕ (Int ⊕ (Unit))) ⊕ (Unit))) := fun x1415 =>
  (bif (decide (x1415 < (el1158.length : Int))) then (
    (Option.bind (idx el1158 x1415) fun el1441 =>
    (Option.bind (idx p_f x1415) fun el1451 =>
    (Option.bind (idx el1451 x1139) fun el1460 =>
    (Option.bind (levitate_small_spec el1441 10000) fun r1466 =>
    (Option.bind (levitate_unless_spec r1466 2) fun r1472 =>
    (Option.bind (levitate_unless_spec (decide (el1460 = el1441)) 3) fun r1478 =>
    (Option.bind (levitate_first_spec ([r1472, r1478] : List Int)) fun r1491 =>
    (bif (!decide (r1491 = 0)) then (
      some (.inr (.inl (.inr (.inl r1491))))
    ) else (
      some (.inl (w64 (x1415 + 1)))
    ))
    )
    )
    )
    )
    )
    )
    )
  ) else (
    some (.inr (.inr ()))
  ))
noncomputable def levitate_formErr_s1 (p_f : (List (List Int))) : (Int) → Option ((Int) ⊕ (Int ⊕ (Unit))) := fun x1139 =>
  (bif (decide (x1139 < (p_f.length : Int))) then (
    (Option.bind (idx p_f x1139) fun el1158 =>
    (Option.bind (loop (levitate_formErr_s0 el1158 p_f x1139) 0) fun o1428 => jn0 o1428 fun (_ : Unit) =>
    some (.inl (w64 (x1139 + 1)))
    )
    )
  ) else (
    some (.inr (.inr ()))
  ))
noncomputable def levitate_formErr_spec (p_f : (List (List Int))) : Option Int :=
  (Option.bind (levitate_unless_spec (decide (0 < (p_f.length : Int))) 10) fun r17 =>
  (Option.bind (levitate_unless_spec (decide ((p_f.length : Int) ≤ 3)) 8) fun r24 =>
  (Option.bind (levitate_first_spec ([r17, r24] : List Int)) fun r39 =>
  (bif (!decide (r39 = 0)) then (
    some r39
  ) else (
    (Option.bind (slices_ContainsFunc_int_121_spec p_f p_f) fun r51 =>
    (bif r51 then (
      some 10
    ) else (
      (Option.bind (loop (levitate_formErr_s1 p_f) 0) fun o1145 => jn0 o1145 fun (_ : Unit) =>
      some 0
      )
    ))
    )
  ))
  )
  )
  )
theorem levitate_formErr_ok (L : List Value) (w : World) (hL : LtL L w) (v_p_f : Value) (p_f : (List (List Int))) (h_p_f : SlRd L w v_p_f p_f) (r : Int) (h : levitate_formErr_spec p_f = some r) :
    CallsTo Try.prog 104 [v_p_f] w (fun v w' => Ext w w' ∧ (.int .i64 r) = v) := by
  have e0 : Ext w w := Chg.refl _ _
  refine callsTo_of_WC (n := 59) (rs := [.tmp 2]) Try.func104 rfl rfl rfl rfl rfl ?_
  refine WC_seqK fun K2 hK2 => ?_
  refine WC_region ?_
  refine T0_e rfl (eff_boxC (cs := [v_p_f]) rfl (cells_one h_p_f.one1) ?_)
  intro b3 wd4 hb5 he6 hB7
  have e9 := e0.trans he6
  refine T0_q (v := (.int .i64 0)) rfl (yl_assign rfl) ?_
  refine T0_nil ?_
  refine hK2 _ _ ?_
  refine WC_seqK fun K11 hK11 => ?_
  refine WC_seqK fun K12 hK12 => ?_
  refine WC_planX mixed (.q 0 (.p 1 (.p 2 (.q 4 (.p 5 (.p 6 (.e 3 (.e 7 (.e 8 (.e 9 (.p 10 .done))))))))))) (by kernel_rfl) ?_
  intro wd13 he14
  have e15 := he6.trans he14
  have e16 := e9.trans he14
  refine TX_q (v := v_p_f) rfl rfl (fun w' hS => (yl_load sc47 rfl (Box.at (hB7.ext (he14.trans hS))))) ?_
  refine TX_p (v := (.int .i64 (p_f.length : Int))) rfl rfl (fun w' => (yl_lenR rfl Try.underlying47 h_p_f rfl)) ?_
  refine TX_p (v := (.bool (decide (0 < (p_f.length : Int))))) rfl rfl (fun w' => (yl_gtr rfl rfl)) ?_
  refine TX_q (v := v_p_f) rfl rfl (fun w' hS => (yl_load sc47 rfl (Box.at (hB7.ext (he14.trans hS))))) ?_
  refine TX_p (v := (.int .i64 (p_f.length : Int))) rfl rfl (fun w' => (yl_lenR rfl Try.underlying47 h_p_f rfl)) ?_
  refine TX_p (v := (.bool (decide ((p_f.length : Int) ≤ 3)))) rfl rfl (fun w' => (yl_leq rfl rfl)) ?_
  have hq := bind_elim h
  clear h
  obtain ⟨r17, hr18, h⟩ := hq
  refine TX_e rfl rfl (eff_call Try.func40 nm40 rfl (ev2 rfl rfl) (levitate_unless_ok [] _ (LtL.nil _) (decide (0 < (p_f.length : Int))) 10 r17 hr18) ?_)
  rintro _ wd19 ⟨he20, rfl⟩
  have e21 := e15.trans he20
  have e22 := he14.trans he20
  have e23 := e16.trans he20
  refine ⟨he20, ?_⟩
  have hq := bind_elim h
  clear h
  obtain ⟨r24, hr25, h⟩ := hq
  refine TX_e rfl rfl (eff_call Try.func40 nm40 rfl (ev2 rfl rfl) (levitate_unless_ok [] _ (LtL.nil _) (decide ((p_f.length : Int) ≤ 3)) 8 r24 hr25) ?_)
  rintro _ wd26 ⟨he27, rfl⟩
  have e28 := e21.trans he27
  have e29 := e22.trans he27
  have e30 := e23.trans he27
  refine ⟨he27, ?_⟩
  refine TX_e rfl rfl (eff_buildTC (xs := ([r17, r24] : List Int)) (cells := [(.int .i64 r17), (.int .i64 r24)]) Try.underlying108 ei30 rfl (pc_cons rfl rfl (pc_cons rfl rfl pc_nil)) rfl (Elems.cons (cs := [(.int .i64 r17)]) rfl (Elems.cons (cs := [(.int .i64 r24)]) rfl Elems.nil)) rfl (hL.chg e30) ?_)
  intro b34 wd31 he32 h33
  have e35 := e28.trans he32
  have e36 := e29.trans he32
  have e37 := e30.trans he32
  refine ⟨he32, ?_⟩
  have hq := bind_elim h
  clear h
  obtain ⟨r39, hr40, h⟩ := hq
  refine TX_e rfl rfl (eff_call Try.func39 nm39 rfl (ev1 rfl) (levitate_first_ok [] _ (LtL.nil _) (.slice (some ⟨b34, 0, none⟩) 2 2) ([r17, r24] : List Int) (h33.sub (fun _ h => by cases h)) r39 hr40) ?_)
  rintro _ wd41 ⟨he42, rfl⟩
  have e43 := e35.trans he42
  have e44 := e36.trans he42
  have e45 := e37.trans he42
  refine ⟨he42, ?_⟩
  refine TX_p (v := (.int .i64 r39)) rfl rfl (fun w' => (yl_assign rfl)) ?_
  refine TX_done ?_
  refine hK12 _ _ ?_
  refine WC_seqK fun K46 hK46 => ?_
  refine WC_region ?_
  refine T0_q (v := (.int .i64 r39)) rfl (yl_move rfl) ?_
  refine T0_q (v := (.bool (!decide (r39 = 0)))) rfl (yl_neq rfl rfl) ?_
  refine T0_nil ?_
  refine hK46 _ _ ?_
  refine WC_cond (b := (!decide (r39 = 0))) rfl (fun hb47 => ?_) (fun hb47 => ?_)
  · clear hK11 hK12 hK2 hK46
    replace h := cond_t hb47 h
    refine WC_seqK fun K48 hK48 => ?_
    refine WC_region ?_
    refine T0_q (v := (.int .i64 r39)) rfl (yl_move rfl) ?_
    refine T0_q (v := (.int .i64 r39)) rfl (yl_assign rfl) ?_
    refine T0_nil ?_
    refine hK48 _ _ ?_
    refine WC_ret ?_
    replace h := some_out h
    subst h
    exact ⟨[(.int .i64 r39)], ⟨rfl, trivial⟩, e45, rfl⟩
  · clear hK12 hK2 hK46
    replace h := cond_f hb47 h
    refine WC_skip ?_
    refine hK11 _ _ ?_
    refine WC_seqK fun K49 hK49 => ?_
    refine WC_seqK fun K50 hK50 => ?_
    refine WC_region ?_
    refine T0_q (v := v_p_f) rfl (yl_load sc47 rfl (Box.at (hB7.ext e44))) ?_
    refine T0_q (v := (.func (.func 121) #[] (List.toArray [(.pointer (some ⟨b3, 0, none⟩))]))) rfl (yl_makeFunc (ev1 rfl)) ?_
    have hq := bind_elim h
    clear h
    obtain ⟨r51, hr52, h⟩ := hq
    refine T0_e rfl (eff_call Try.func120 nm120 rfl (ev2 rfl rfl) (slices_ContainsFunc_int_121_ok [] _ (LtL.nil _) v_p_f p_f ((h_p_f.ext e43).sub (fun _ h => by cases h)) b3 v_p_f p_f ((h_p_f.ext e43).sub (fun _ h => by cases h)) (hB7.ext e44) r51 hr52) ?_)
    rintro _ wd53 ⟨he54, rfl⟩
    have e55 := e43.trans he54
    have e57 := e44.trans he54
    have e58 := e45.trans he54
    refine T0_nil ?_
    refine hK50 _ _ ?_
    refine WC_cond (b := r51) rfl (fun hb59 => ?_) (fun hb59 => ?_)
    · clear hK11 hK49 hK50
      replace h := cond_t hb59 h
      refine WC_seqK fun K60 hK60 => ?_
      refine WC_region ?_
      refine T0_q (v := (.int .i64 10)) rfl (yl_assign rfl) ?_
      refine T0_nil ?_
      refine hK60 _ _ ?_
      refine WC_ret ?_
      replace h := some_out h
      subst h
      exact ⟨[(.int .i64 10)], ⟨rfl, trivial⟩, e58, rfl⟩
    · clear hK11 hK50
      replace h := cond_f hb59 h
      refine WC_skip ?_
      refine hK49 _ _ ?_
      refine WC_seqK fun K61 hK61 => ?_
      refine WC_seqK fun K62 hK62 => ?_
      refine WC_region ?_
      refine T0_q (v := v_p_f) rfl (yl_load sc47 rfl (Box.at (hB7.ext e57))) ?_
      refine T0_q (v := (.int .i64 (p_f.length : Int))) rfl (yl_lenR rfl Try.underlying47 h_p_f rfl) ?_
      refine T0_q (v := (.int .i64 0)) rfl (yl_move rfl) ?_
      refine T0_nil ?_
      refine hK62 _ _ ?_
      have hq := bind_elim h
      clear h
      obtain ⟨o1145, hl1146, hn1147⟩ := hq
      refine WC_post (fun (ρ : Env) (wd1143 : World) => .inr () = o1145 ∧ Ext w wd1143) ?_ ?_
      · clear hK49 hK61 hK62
        intro K1151 hK1151
        refine WC_block ?_
        refine WC_loopk (fun sv ρ wd1133 => ∃ (x1139 : Int), x1139 = sv ∧ ρ 1 = (.pointer (some ⟨b3, 0, none⟩)) ∧ ρ 25 = v_p_f ∧ ρ 26 = (.int .i64 (p_f.length : Int)) ∧ ρ 27 = (.int .i64 x1139) ∧ SlRd L wd1133 v_p_f p_f ∧ Box wd1133 b3 [v_p_f] 47 ∧ Ext w wd1133) hl1146 ⟨0, rfl, rfl, rfl, rfl, rfl, (h_p_f.ext e55), (hB7.ext e57), e58⟩ ?_
        rintro _ ρ wd1133 ⟨x1139, rfl, hs1135, hs1137, hs1138, hs1140, h1136, hB1142, e1134⟩ x1148 h hx1149 K1150 hK1150
        refine WC_seqK fun K1153 hK1153 => ?_
        refine WC_region ?_
        refine T0_q (v := (.bool (decide (x1139 < (p_f.length : Int))))) rfl (yl_lss hs1140 hs1138) ?_
        refine T0_nil ?_
        refine hK1153 _ _ ?_
        refine WC_seqK fun K1154 hK1154 => ?_
        refine WC_cond (b := (decide (x1139 < (p_f.length : Int)))) rfl (fun hb1155 => ?_) (fun hb1155 => ?_)
        · clear hK1151 hK1153
          replace h := cond_t hb1155 h
          refine WC_skip ?_
          refine hK1154 _ _ ?_
          refine WC_seqK fun K1156 hK1156 => ?_
          refine WC_block ?_
          refine WC_seqK fun K1157 hK1157 => ?_
          refine WC_region ?_
          refine T0_q (v := (.int .i64 x1139)) rfl (yl_move hs1140) ?_
          have hq := bind_elim h
          clear h
          obtain ⟨el1158, hel1159, h⟩ := hq
          have hq := SlRd.at h1136 hel1159
          obtain ⟨cs1162, hat1163, hrd1164⟩ := hq
          obtain ⟨v1160, rfl, h1161⟩ := hrd1164
          refine T0_q (v := (.pointer (some (elemAddr v_p_f (x1139 : Int).toNat 1)))) rfl (yl_indexAddr Try.underlying47 sz23 h1136 hel1159 hs1137 hs1140) ?_
          refine T0_q (v := v1160) rfl (yl_load sc23 rfl hat1163) ?_
          refine T0_q (v := (.int .i64 x1139)) rfl (yl_assign rfl) ?_
          refine T0_q (v := v1160) rfl (yl_assign rfl) ?_
          refine T0_nil ?_
          refine hK1157 _ _ ?_
          refine WC_seqK fun K1167 hK1167 => ?_
          refine WC_region ?_
          refine T0_q (v := v1160) rfl (yl_move rfl) ?_
          refine T0_q (v := (.int .i64 (el1158.length : Int))) rfl (yl_lenR rfl Try.underlying23 h1161 rfl) ?_
          refine T0_q (v := (.int .i64 0)) rfl (yl_move rfl) ?_
          refine T0_nil ?_
          refine hK1167 _ _ ?_
          have hq := bind_elim h
          clear h
          obtain ⟨o1428, hl1429, hn1430⟩ := hq
          refine WC_post (fun (ρ : Env) (wd1419 : World) => .inr () = o1428 ∧ ρ 1 = (.pointer (some ⟨b3, 0, none⟩)) ∧ ρ 25 = v_p_f ∧ ρ 26 = (.int .i64 (p_f.length : Int)) ∧ ρ 27 = (.int .i64 x1139) ∧ SlRd L wd1419 v_p_f p_f ∧ Box wd1419 b3 [v_p_f] 47 ∧ Ext w wd1419) ?_ ?_
          · clear hK1150 hK1154 hK1156 hK1157 hK1167
            intro K1434 hK1434
            refine WC_block ?_
            refine WC_loopk (fun sv ρ wd1404 => ∃ (x1415 : Int), x1415 = sv ∧ ρ 1 = (.pointer (some ⟨b3, 0, none⟩)) ∧ ρ 4 = (.int .i64 x1139) ∧ ρ 25 = v_p_f ∧ ρ 26 = (.int .i64 (p_f.length : Int)) ∧ ρ 27 = (.int .i64 x1139) ∧ ρ 32 = v1160 ∧ ρ 33 = (.int .i64 (el1158.length : Int)) ∧ ρ 34 = (.int .i64 x1415) ∧ SlRd L wd1404 v_p_f p_f ∧ SlRd L wd1404 v1160 el1158 ∧ Box wd1404 b3 [v_p_f] 47 ∧ Ext w wd1404) hl1429 ⟨0, rfl, hs1135, rfl, hs1137, hs1138, hs1140, rfl, rfl, rfl, h1136, h1161, hB1142, e1134⟩ ?_
            rintro _ ρ wd1404 ⟨x1415, rfl, hs1406, hs1407, hs1409, hs1410, hs1411, hs1413, hs1414, hs1416, h1408, h1412, hB1418, e1405⟩ x1431 h hx1432 K1433 hK1433
            refine WC_seqK fun K1436 hK1436 => ?_
            refine WC_region ?_
            refine T0_q (v := (.bool (decide (x1415 < (el1158.length : Int))))) rfl (yl_lss hs1416 hs1414) ?_
            refine T0_nil ?_
            refine hK1436 _ _ ?_
            refine WC_seqK fun K1437 hK1437 => ?_
            refine WC_cond (b := (decide (x1415 < (el1158.length : Int)))) rfl (fun hb1438 => ?_) (fun hb1438 => ?_)
            · clear hK1434 hK1436
              replace h := cond_t hb1438 h
              refine WC_skip ?_
              refine hK1437 _ _ ?_
              refine WC_seqK fun K1439 hK1439 => ?_
              refine WC_block ?_
              refine WC_seqK fun K1440 hK1440 => ?_
              refine WC_region ?_
              refine T0_q (v := (.int .i64 x1415)) rfl (yl_move hs1416) ?_
              have hq := bind_elim h
              clear h
              obtain ⟨el1441, hel1442, h⟩ := hq
              have hq := SlRd.at h1412 hel1442
              obtain ⟨cs1443, hat1444, hrd1445⟩ := hq
              have hrd1445 : cs1443 = [(.int .i64 el1441)] := hrd1445
              subst hrd1445
              refine T0_q (v := (.pointer (some (elemAddr v1160 (x1415 : Int).toNat 1)))) rfl (yl_indexAddr Try.underlying23 sz3 h1412 hel1442 hs1413 hs1416) ?_
              refine T0_q (v := (.int .i64 el1441)) rfl (yl_load sc3 rfl hat1444) ?_
              refine T0_q (v := (.int .i64 x1415)) rfl (yl_assign rfl) ?_
              refine T0_q (v := (.int .i64 el1441)) rfl (yl_assign rfl) ?_
              refine T0_nil ?_
              refine hK1440 _ _ ?_
              refine WC_seqK fun K1447 hK1447 => ?_
              refine WC_planX mixed (.p 0 (.p 4 (.p 7 (.p 10 (.q 3 (.p 5 (.q 6 (.p 8 (.q 9 (.p 11 (.e 1 (.e 2 (.e 12 (.e 13 (.e 14 (.p 15 .done)))))))))))))))) (by kernel_rfl) ?_
              intro wd1448 he1449
              have e1450 := e1405.trans he1449
              refine TX_p (v := (.int .i64 el1441)) rfl rfl (fun w' => (yl_move rfl)) ?_
              refine TX_p (v := (.int .i64 x1415)) rfl rfl (fun w' => (yl_move rfl)) ?_
              refine TX_p (v := (.int .i64 x1139)) rfl rfl (fun w' => (yl_move hs1407)) ?_
              refine TX_p (v := (.int .i64 el1441)) rfl rfl (fun w' => (yl_move rfl)) ?_
              refine TX_q (v := v_p_f) rfl rfl (fun w' hS => (yl_load sc47 hs1406 (Box.at (hB1418.ext (he1449.trans hS))))) ?_
              have hq := bind_elim h
              clear h
              obtain ⟨el1451, hel1452, h⟩ := hq
              have hq := SlRd.at h1408 hel1452
              obtain ⟨cs1455, hat1456, hrd1457⟩ := hq
              obtain ⟨v1453, rfl, h1454⟩ := hrd1457
              refine TX_p (v := (.pointer (some (elemAddr v_p_f (x1415 : Int).toNat 1)))) rfl rfl (fun w' => (yl_indexAddr Try.underlying47 sz23 h1408 hel1452 rfl rfl)) ?_
              refine TX_q (v := v1453) rfl rfl (fun w' hS => (yl_load sc23 rfl (hat1456.ext' (he1449.trans hS)))) ?_
              have hq := bind_elim h
              clear h
              obtain ⟨el1460, hel1461, h⟩ := hq
              have hq := SlRd.at h1454 hel1461
              obtain ⟨cs1462, hat1463, hrd1464⟩ := hq
              have hrd1464 : cs1462 = [(.int .i64 el1460)] := hrd1464
              subst hrd1464
              refine TX_p (v := (.pointer (some (elemAddr v1453 (x1139 : Int).toNat 1)))) rfl rfl (fun w' => (yl_indexAddr Try.underlying23 sz3 h1454 hel1461 rfl rfl)) ?_
              refine TX_q (v := (.int .i64 el1460)) rfl rfl (fun w' hS => (yl_load sc3 rfl (hat1463.ext' (he1449.trans hS)))) ?_
              refine TX_p (v := (.bool (decide (el1460 = el1441)))) rfl rfl (fun w' => (yl_eql rfl rfl)) ?_
              have hq := bind_elim h
              clear h
              obtain ⟨r1466, hr1467, h⟩ := hq
              refine TX_e rfl rfl (eff_call Try.func71 nm71 rfl (ev2 rfl rfl) (levitate_small_ok [] _ (LtL.nil _) el1441 10000 r1466 hr1467) ?_)
              rintro _ wd1468 ⟨he1469, rfl⟩
              have e1470 := he1449.trans he1469
              have e1471 := e1450.trans he1469
              refine ⟨he1469, ?_⟩
              have hq := bind_elim h
              clear h
              obtain ⟨r1472, hr1473, h⟩ := hq
              refine TX_e rfl rfl (eff_call Try.func40 nm40 rfl (ev2 rfl rfl) (levitate_unless_ok [] _ (LtL.nil _) r1466 2 r1472 hr1473) ?_)
              rintro _ wd1474 ⟨he1475, rfl⟩
              have e1476 := e1470.trans he1475
              have e1477 := e1471.trans he1475
              refine ⟨he1475, ?_⟩
              have hq := bind_elim h
              clear h
              obtain ⟨r1478, hr1479, h⟩ := hq
              refine TX_e rfl rfl (eff_call Try.func40 nm40 rfl (ev2 rfl rfl) (levitate_unless_ok [] _ (LtL.nil _) (decide (el1460 = el1441)) 3 r1478 hr1479) ?_)
              rintro _ wd1480 ⟨he1481, rfl⟩
              have e1482 := e1476.trans he1481
              have e1483 := e1477.trans he1481
              refine ⟨he1481, ?_⟩
              refine TX_e rfl rfl (eff_buildTC (xs := ([r1472, r1478] : List Int)) (cells := [(.int .i64 r1472), (.int .i64 r1478)]) Try.underlying108 ei30 rfl (pc_cons rfl rfl (pc_cons rfl rfl pc_nil)) rfl (Elems.cons (cs := [(.int .i64 r1472)]) rfl (Elems.cons (cs := [(.int .i64 r1478)]) rfl Elems.nil)) rfl (hL.chg e1483) ?_)
              intro b1487 wd1484 he1485 h1486
              have e1488 := e1482.trans he1485
              have e1489 := e1483.trans he1485
              refine ⟨he1485, ?_⟩
              have hq := bind_elim h
              clear h
              obtain ⟨r1491, hr1492, h⟩ := hq
              refine TX_e rfl rfl (eff_call Try.func39 nm39 rfl (ev1 rfl) (levitate_first_ok [] _ (LtL.nil _) (.slice (some ⟨b1487, 0, none⟩) 2 2) ([r1472, r1478] : List Int) (h1486.sub (fun _ h => by cases h)) r1491 hr1492) ?_)
              rintro _ wd1493 ⟨he1494, rfl⟩
              have e1495 := e1488.trans he1494
              have e1496 := e1489.trans he1494
              refine ⟨he1494, ?_⟩
              refine TX_p (v := (.int .i64 r1491)) rfl rfl (fun w' => (yl_assign rfl)) ?_
              refine TX_done ?_
              refine hK1447 _ _ ?_
              refine WC_seqK fun K1497 hK1497 => ?_
              refine WC_region ?_
              refine T0_q (v := (.int .i64 r1491)) rfl (yl_move rfl) ?_
              refine T0_q (v := (.bool (!decide (r1491 = 0)))) rfl (yl_neq rfl rfl) ?_
              refine T0_nil ?_
              refine hK1497 _ _ ?_
              refine WC_cond (b := (!decide (r1491 = 0))) rfl (fun hb1498 => ?_) (fun hb1498 => ?_)
              · clear hK1433 hK1437 hK1439 hK1440 hK1447 hK1497
                replace h := cond_t hb1498 h
                refine WC_seqK fun K1499 hK1499 => ?_
                refine WC_region ?_
                refine T0_q (v := (.int .i64 r1491)) rfl (yl_move rfl) ?_
                refine T0_q (v := (.int .i64 r1491)) rfl (yl_assign rfl) ?_
                refine T0_nil ?_
                refine hK1499 _ _ ?_
                refine WC_ret ?_
                replace h := some_out h
                subst h
                have ho := hx1432 _ rfl
                subst ho
                replace h := jn0_inl hn1430
                replace h := some_out h
                subst h
                have ho := hx1149 _ rfl
                subst ho
                replace h := jn0_inl hn1147
                replace h := some_out h
                subst h
                exact ⟨[(.int .i64 r1491)], ⟨rfl, trivial⟩, e1496, rfl⟩
              · clear hK1437 hK1440 hK1447 hK1497
                replace h := cond_f hb1498 h
                refine WC_skip ?_
                refine hK1439 _ _ ?_
                refine WC_region ?_
                refine T0_q (v := (.int .i64 (w64 (x1415 + 1)))) rfl (yl_add hs1416 rfl) ?_
                refine T0_q (v := (.int .i64 (w64 (x1415 + 1)))) rfl (yl_move rfl) ?_
                refine T0_nil ?_
                replace h := some_out h
                subst h
                refine hK1433 _ _ _ rfl ?_
                exact ⟨w64 (x1415 + 1), rfl, hs1406, hs1407, hs1409, hs1410, hs1411, hs1413, hs1414, rfl, (h1408.ext e1495), (h1412.ext e1495), (hB1418.ext e1495), e1496⟩
            · clear hK1433 hK1436 hK1437
              replace h := cond_f hb1438 h
              refine WC_exit ?_
              replace h := some_out h
              subst h
              have ho := hx1432 _ rfl
              subst ho
              refine hK1434 _ _ ?_
              exact ⟨rfl, hs1406, hs1409, hs1410, hs1411, h1408, hB1418, e1405⟩
          · clear hK1154 hK1157 hK1167
            rintro ρ wd1419 ⟨rfl, hs1421, hs1423, hs1424, hs1425, h1422, hB1427, e1420⟩
            replace h := jn0_inr hn1430
            refine hK1156 _ _ ?_
            refine WC_region ?_
            refine T0_q (v := (.int .i64 (w64 (x1139 + 1)))) rfl (yl_add hs1425 rfl) ?_
            refine T0_q (v := (.int .i64 (w64 (x1139 + 1)))) rfl (yl_move rfl) ?_
            refine T0_nil ?_
            replace h := some_out h
            subst h
            refine hK1150 _ _ _ rfl ?_
            exact ⟨w64 (x1139 + 1), rfl, hs1421, hs1423, hs1424, rfl, h1422, hB1427, e1420⟩
        · clear hK1150 hK1153 hK1154
          replace h := cond_f hb1155 h
          refine WC_exit ?_
          replace h := some_out h
          subst h
          have ho := hx1149 _ rfl
          subst ho
          refine hK1151 _ _ ?_
          exact ⟨rfl, e1134⟩
      · clear hK49 hK62
        rintro ρ wd1143 ⟨rfl, e1144⟩
        replace h := jn0_inr hn1147
        refine hK61 _ _ ?_
        refine WC_seqK fun K1500 hK1500 => ?_
        refine WC_region ?_
        refine T0_q (v := (.int .i64 0)) rfl (yl_assign rfl) ?_
        refine T0_nil ?_
        refine hK1500 _ _ ?_
        refine WC_ret ?_
        replace h := some_out h
        subst h
        exact ⟨[(.int .i64 0)], ⟨rfl, trivial⟩, e1144, rfl⟩

noncomputable def slices_ContainsFunc_int_70_spec (p_s : (List Int)) (c5 : Int) : Option Bool :=
  (Option.bind (slices_IndexFunc_int_70_spec p_s c5) fun r8 =>
  some (decide (0 ≤ r8))
  )
theorem slices_ContainsFunc_int_70_ok (L : List Value) (w : World) (hL : LtL L w) (v_p_s : Value) (p_s : (List Int)) (h_p_s : SlRd L w v_p_s p_s) (b2 : Nat) (c5 : Int) (hB3 : Box w b2 [(.int .i64 c5)] 3) (r : Bool) (h : slices_ContainsFunc_int_70_spec p_s c5 = some r) :
    CallsTo Try.prog 36 [v_p_s, (.func (.func 70) #[] (List.toArray [(.pointer (some ⟨b2, 0, none⟩))]))] w (fun v w' => Ext w w' ∧ (.bool r) = v) := by
  have e0 : Ext w w := Chg.refl _ _
  refine callsTo_of_WC (n := 9) (rs := [.tmp 4]) Try.func36 rfl rfl rfl rfl rfl ?_
  refine WC_seqK fun K6 hK6 => ?_
  refine WC_region ?_
  refine T0_q (v := (.bool false)) rfl (yl_assign rfl) ?_
  refine T0_nil ?_
  refine hK6 _ _ ?_
  refine WC_seqK fun K7 hK7 => ?_
  refine WC_region ?_
  refine T0_q (v := v_p_s) rfl (yl_move rfl) ?_
  refine T0_q (v := (.func (.func 70) #[] (List.toArray [(.pointer (some ⟨b2, 0, none⟩))]))) rfl (yl_move rfl) ?_
  have hq := bind_elim h
  clear h
  obtain ⟨r8, hr9, h⟩ := hq
  refine T0_e rfl (eff_call Try.func68 nm68 rfl (ev2 rfl rfl) (slices_IndexFunc_int_70_ok [] _ (LtL.nil _) v_p_s p_s (h_p_s.sub (fun _ h => by cases h)) b2 c5 hB3 r8 hr9) ?_)
  rintro _ wd10 ⟨he11, rfl⟩
  have e12 := e0.trans he11
  refine T0_q (v := (.bool (decide (0 ≤ r8)))) rfl (yl_geq rfl rfl) ?_
  refine T0_q (v := (.bool (decide (0 ≤ r8)))) rfl (yl_assign rfl) ?_
  refine T0_nil ?_
  refine hK7 _ _ ?_
  refine WC_ret ?_
  replace h := some_out h
  subst h
  exact ⟨[(.bool (decide (0 ≤ r8)))], ⟨rfl, trivial⟩, e12, rfl⟩

noncomputable def levitate_allSmall_1_spec (p_l : (List Int)) (c5 : Int) : Option Bool :=
  (Option.bind (slices_ContainsFunc_int_70_spec p_l c5) fun r8 =>
  some (!r8)
  )
theorem levitate_allSmall_1_ok (L : List Value) (w : World) (hL : LtL L w) (v_p_l : Value) (p_l : (List Int)) (h_p_l : SlRd L w v_p_l p_l) (b2 : Nat) (c5 : Int) (hB3 : Box w b2 [(.int .i64 c5)] 3) (r : Bool) (h : levitate_allSmall_1_spec p_l c5 = some r) :
    CallsTo Try.prog 69 [v_p_l, (.pointer (some ⟨b2, 0, none⟩))] w (fun v w' => Ext w w' ∧ (.bool r) = v) := by
  have e0 : Ext w w := Chg.refl _ _
  refine callsTo_of_WC (n := 8) (rs := [.tmp 3]) Try.func69 rfl rfl rfl rfl rfl ?_
  refine WC_seqK fun K6 hK6 => ?_
  refine WC_region ?_
  refine T0_q (v := (.bool false)) rfl (yl_assign rfl) ?_
  refine T0_nil ?_
  refine hK6 _ _ ?_
  refine WC_seqK fun K7 hK7 => ?_
  refine WC_region ?_
  refine T0_q (v := v_p_l) rfl (yl_move rfl) ?_
  refine T0_q (v := (.func (.func 70) #[] (List.toArray [(.pointer (some ⟨b2, 0, none⟩))]))) rfl (yl_makeFunc (ev1 rfl)) ?_
  have hq := bind_elim h
  clear h
  obtain ⟨r8, hr9, h⟩ := hq
  refine T0_e rfl (eff_call Try.func36 nm36 rfl (ev2 rfl rfl) (slices_ContainsFunc_int_70_ok [] _ (LtL.nil _) v_p_l p_l (h_p_l.sub (fun _ h => by cases h)) b2 c5 hB3 r8 hr9) ?_)
  rintro _ wd10 ⟨he11, rfl⟩
  have e12 := e0.trans he11
  refine T0_q (v := (.bool (!r8))) rfl (yl_not rfl) ?_
  refine T0_q (v := (.bool (!r8))) rfl (yl_assign rfl) ?_
  refine T0_nil ?_
  refine hK7 _ _ ?_
  refine WC_ret ?_
  replace h := some_out h
  subst h
  exact ⟨[(.bool (!r8))], ⟨rfl, trivial⟩, e12, rfl⟩

noncomputable def levitate_CheckPlant_s0 (el1344 : (List (List Int))) (p_Listappend : LevitatePlant) (r117 : Int) (x1317 : Int) : (Int) → Option ((Int) ⊕ (((Int) ⊕ ((LevitateMark × Int) ⊕ (Unit))) ⊕ (Unit))) := fun x1622 =>
  (bif (decide (x1622 < (el1344.length : Int))) then (
    (Option.bind (idx el1344 x1622) fun el1660 =>
    (Option.bind (levitate_unless_spec (decide ((el1660.length : Int) = (p_Listappend.Noise.length : Int))) 10) fun r1670 =>
    (Option.bind (levitate_allSmall_1_spec el1660 r117) fun r1675 =>
    (Option.bind (levitate_unless_spec r1675 2) fun r1681 =>
    (Option.bind (levitate_first_spec ([r1670, r1681] : List Int)) fun r1694 =>
    (bif (!decide (r1694 = 0)) then (
      some (.inr (.inl (.inr (.inl ((LevitateMark.mk x1317 x1622), r1694)))))
    ) else (
      some (.inl (w64 (x1622 + 1)))
    ))
    )
    )
    )
    )
    )
  ) else (
    some (.inr (.inr ()))
  ))
noncomputable def levitate_CheckPlant_s1 (p_Listappend : LevitatePlant) (r117 : Int) : (Int) → Option ((Int) ⊕ ((LevitateMark × Int) ⊕ (Unit))) := fun x1317 =>
  (bif (decide (x1317 < (p_Listappend.Maps.length : Int))) then (
    (Option.bind (idx p_Listappend.Maps x1317) fun el1344 =>
    (bif (!decide ((el1344.length : Int) = (p_Listappend.Noise.length : Int))) then (
      some (.inr (.inl ((LevitateMark.mk x1317 0), 10)))
    ) else (
      (Option.bind (loop (levitate_CheckPlant_s0 el1344 p_Listappend r117 x1317) 0) fun o1647 => jn0 o1647 fun (_ : Unit) =>
      some (.inl (w64 (x1317 + 1)))
      )
    ))
    )
  ) else (
    some (.inr (.inr ()))
  ))
noncomputable def levitate_CheckPlant_spec (p_Listappend : LevitatePlant) : Option (LevitateMark × Int) :=
  (Option.bind (slices_ContainsFunc_int_37_spec p_Listappend.Noise) fun r28 =>
  (Option.bind (levitate_within_spec p_Listappend.Den 1 1000) fun r40 =>
  (Option.bind (levitate_unless_spec r40 2) fun r47 =>
  (Option.bind (levitate_unless_spec (decide (0 < (p_Listappend.Noise.length : Int))) 10) fun r54 =>
  (Option.bind (levitate_unless_spec (decide ((p_Listappend.Noise.length : Int) ≤ 3)) 8) fun r61 =>
  (Option.bind (levitate_unless_spec (!r28) 2) fun r68 =>
  (Option.bind (levitate_unless_spec (decide (0 < (p_Listappend.Maps.length : Int))) 10) fun r75 =>
  (Option.bind (levitate_unless_spec (decide ((p_Listappend.Maps.length : Int) ≤ 4)) 8) fun r82 =>
  (Option.bind (levitate_first_spec ([r47, r54, r61, r68, r75, r82] : List Int)) fun r97 =>
  (bif (!decide (r97 = 0)) then (
    some ((LevitateMark.mk 0 0), r97)
  ) else (
    (Option.bind (levitate_allSmall_spec 1000) fun r117 =>
    (Option.bind (loop (levitate_CheckPlant_s1 p_Listappend r117) 0) fun o1331 => jn0 o1331 fun (_ : Unit) =>
    some ((LevitateMark.mk 0 0), 0)
    )
    )
  ))
  )
  )
  )
  )
  )
  )
  )
  )
  )
theorem levitate_CheckPlant_ok (L : List Value) (w : World) (hL : LtL L w) (cs_p_Listappend : List Value) (p_Listappend : LevitatePlant) (h_p_Listappend : Rep.rd L w cs_p_Listappend p_Listappend) (r : LevitateMark × Int) (h : levitate_CheckPlant_spec p_Listappend = some r) :
    CallsTo Try.prog 9 [(.agg cs_p_Listappend.toArray)] w (fun v w' => Ext w w' ∧ ∃ (cs0 : List Value), (.tuple #[(.agg cs0.toArray), (.int .i64 r.2)]) = v ∧ Rep.rd L w' cs0 r.1) := by
  have e0 : Ext w w := Chg.refl _ _
  obtain ⟨v1, v3, h2, h4, rfl⟩ := h_p_Listappend
  refine callsTo_of_WC (n := 94) (rs := [.cell 2 29, .tmp 3]) Try.func9 rfl rfl rfl rfl rfl ?_
  refine WC_seqK fun K7 hK7 => ?_
  refine WC_region ?_
  refine T0_e rfl (eff_boxC (cs := [(.int .i64 p_Listappend.Den), v1, v3]) rfl rfl ?_)
  intro b8 wd9 hb10 he11 hB12
  have e14 := e0.trans he11
  refine T0_e rfl (eff_allocZ zi29 ?_)
  intro b16 wd17 hb18 he19 hB20
  have hbf22 := bfresh e14 hb18
  have h23 := (h2.ext he11).step (add_box he19 hb18)
  have h24 := (h4.ext he11).step (add_box he19 hb18)
  have e25 := e14.trans he19
  refine T0_q (v := (.int .i64 0)) rfl (yl_assign rfl) ?_
  refine T0_nil ?_
  refine hK7 _ _ ?_
  refine WC_seqK fun K27 hK27 => ?_
  refine WC_region ?_
  refine T0_q (v := (.pointer (some ⟨b8, 2, none⟩))) rfl (yl_fa 2 Try.underlying25 rfl rfl ⟨0, sz23⟩ rfl rfl) ?_
  refine T0_q (v := v3) rfl (yl_load sc23 rfl (At.drop (Box.at (hB12.ext he19)) 2)) ?_
  have hq := bind_elim h
  clear h
  obtain ⟨r28, hr29, h⟩ := hq
  refine T0_e rfl (eff_call Try.func36 nm36 rfl (ev2 rfl rfl) (slices_ContainsFunc_int_37_ok [] _ (LtL.nil _) v3 p_Listappend.Noise (h24.sub (fun _ h => by cases h)) r28 hr29) ?_)
  rintro _ wd30 ⟨he31, rfl⟩
  have e32 := he19.trans he31
  have e33 := e25.trans he31
  refine T0_q (v := (.bool r28)) rfl (yl_assign rfl) ?_
  refine T0_nil ?_
  refine hK27 _ _ ?_
  refine WC_seqK fun K34 hK34 => ?_
  refine WC_planX mixed (.p 0 (.p 4 (.p 9 (.p 14 (.p 15 (.p 17 (.p 22 (.q 1 (.q 5 (.p 6 (.p 7 (.q 10 (.p 11 (.p 12 (.q 18 (.p 19 (.p 20 (.q 23 (.p 24 (.p 25 (.e 2 (.e 3 (.e 8 (.e 13 (.e 16 (.e 21 (.e 26 (.e 27 (.e 28 (.p 29 .done)))))))))))))))))))))))))))))) (by kernel_rfl) ?_
  intro wd35 he36
  have e37 := he31.trans he36
  have e38 := e32.trans he36
  have e39 := e33.trans he36
  refine TX_p (v := (.pointer (some ⟨b8, 0, none⟩))) rfl rfl (fun w' => (yl_fa 0 Try.underlying25 rfl rfl ⟨0, sz3⟩ rfl rfl)) ?_
  refine TX_p (v := (.pointer (some ⟨b8, 2, none⟩))) rfl rfl (fun w' => (yl_fa 2 Try.underlying25 rfl rfl ⟨0, sz23⟩ rfl rfl)) ?_
  refine TX_p (v := (.pointer (some ⟨b8, 2, none⟩))) rfl rfl (fun w' => (yl_fa 2 Try.underlying25 rfl rfl ⟨0, sz23⟩ rfl rfl)) ?_
  refine TX_p (v := (.bool r28)) rfl rfl (fun w' => (yl_move rfl)) ?_
  refine TX_p (v := (.bool (!r28))) rfl rfl (fun w' => (yl_not rfl)) ?_
  refine TX_p (v := (.pointer (some ⟨b8, 1, none⟩))) rfl rfl (fun w' => (yl_fa 1 Try.underlying25 rfl rfl ⟨0, sz22⟩ rfl rfl)) ?_
  refine TX_p (v := (.pointer (some ⟨b8, 1, none⟩))) rfl rfl (fun w' => (yl_fa 1 Try.underlying25 rfl rfl ⟨0, sz22⟩ rfl rfl)) ?_
  refine TX_q (v := (.int .i64 p_Listappend.Den)) rfl rfl (fun w' hS => (yl_load sc3 rfl (Box.at (hB12.ext (e38.trans hS))))) ?_
  refine TX_q (v := v3) rfl rfl (fun w' hS => (yl_load sc23 rfl (At.drop (Box.at (hB12.ext (e38.trans hS))) 2))) ?_
  refine TX_p (v := (.int .i64 (p_Listappend.Noise.length : Int))) rfl rfl (fun w' => (yl_lenR rfl Try.underlying23 h24 rfl)) ?_
  refine TX_p (v := (.bool (decide (0 < (p_Listappend.Noise.length : Int))))) rfl rfl (fun w' => (yl_gtr rfl rfl)) ?_
  refine TX_q (v := v3) rfl rfl (fun w' hS => (yl_load sc23 rfl (At.drop (Box.at (hB12.ext (e38.trans hS))) 2))) ?_
  refine TX_p (v := (.int .i64 (p_Listappend.Noise.length : Int))) rfl rfl (fun w' => (yl_lenR rfl Try.underlying23 h24 rfl)) ?_
  refine TX_p (v := (.bool (decide ((p_Listappend.Noise.length : Int) ≤ 3)))) rfl rfl (fun w' => (yl_leq rfl rfl)) ?_
  refine TX_q (v := v1) rfl rfl (fun w' hS => (yl_load sc22 rfl (At.drop (Box.at (hB12.ext (e38.trans hS))) 1))) ?_
  refine TX_p (v := (.int .i64 (p_Listappend.Maps.length : Int))) rfl rfl (fun w' => (yl_lenR rfl Try.underlying22 h23 rfl)) ?_
  refine TX_p (v := (.bool (decide (0 < (p_Listappend.Maps.length : Int))))) rfl rfl (fun w' => (yl_gtr rfl rfl)) ?_
  refine TX_q (v := v1) rfl rfl (fun w' hS => (yl_load sc22 rfl (At.drop (Box.at (hB12.ext (e38.trans hS))) 1))) ?_
  refine TX_p (v := (.int .i64 (p_Listappend.Maps.length : Int))) rfl rfl (fun w' => (yl_lenR rfl Try.underlying22 h23 rfl)) ?_
  refine TX_p (v := (.bool (decide ((p_Listappend.Maps.length : Int) ≤ 4)))) rfl rfl (fun w' => (yl_leq rfl rfl)) ?_
  have hq := bind_elim h
  clear h
  obtain ⟨r40, hr41, h⟩ := hq
  refine TX_e rfl rfl (eff_call Try.func38 nm38 rfl (ev3 rfl rfl rfl) (levitate_within_ok [] _ (LtL.nil _) p_Listappend.Den 1 1000 r40 hr41) ?_)
  rintro _ wd42 ⟨he43, rfl⟩
  have e44 := e37.trans he43
  have e45 := e38.trans he43
  have e46 := e39.trans he43
  refine ⟨he43, ?_⟩
  have hq := bind_elim h
  clear h
  obtain ⟨r47, hr48, h⟩ := hq
  refine TX_e rfl rfl (eff_call Try.func40 nm40 rfl (ev2 rfl rfl) (levitate_unless_ok [] _ (LtL.nil _) r40 2 r47 hr48) ?_)
  rintro _ wd49 ⟨he50, rfl⟩
  have e51 := e44.trans he50
  have e52 := e45.trans he50
  have e53 := e46.trans he50
  refine ⟨he50, ?_⟩
  have hq := bind_elim h
  clear h
  obtain ⟨r54, hr55, h⟩ := hq
  refine TX_e rfl rfl (eff_call Try.func40 nm40 rfl (ev2 rfl rfl) (levitate_unless_ok [] _ (LtL.nil _) (decide (0 < (p_Listappend.Noise.length : Int))) 10 r54 hr55) ?_)
  rintro _ wd56 ⟨he57, rfl⟩
  have e58 := e51.trans he57
  have e59 := e52.trans he57
  have e60 := e53.trans he57
  refine ⟨he57, ?_⟩
  have hq := bind_elim h
  clear h
  obtain ⟨r61, hr62, h⟩ := hq
  refine TX_e rfl rfl (eff_call Try.func40 nm40 rfl (ev2 rfl rfl) (levitate_unless_ok [] _ (LtL.nil _) (decide ((p_Listappend.Noise.length : Int) ≤ 3)) 8 r61 hr62) ?_)
  rintro _ wd63 ⟨he64, rfl⟩
  have e65 := e58.trans he64
  have e66 := e59.trans he64
  have e67 := e60.trans he64
  refine ⟨he64, ?_⟩
  have hq := bind_elim h
  clear h
  obtain ⟨r68, hr69, h⟩ := hq
  refine TX_e rfl rfl (eff_call Try.func40 nm40 rfl (ev2 rfl rfl) (levitate_unless_ok [] _ (LtL.nil _) (!r28) 2 r68 hr69) ?_)
  rintro _ wd70 ⟨he71, rfl⟩
  have e72 := e65.trans he71
  have e73 := e66.trans he71
  have e74 := e67.trans he71
  refine ⟨he71, ?_⟩
  have hq := bind_elim h
  clear h
  obtain ⟨r75, hr76, h⟩ := hq
  refine TX_e rfl rfl (eff_call Try.func40 nm40 rfl (ev2 rfl rfl) (levitate_unless_ok [] _ (LtL.nil _) (decide (0 < (p_Listappend.Maps.length : Int))) 10 r75 hr76) ?_)
  rintro _ wd77 ⟨he78, rfl⟩
  have e79 := e72.trans he78
  have e80 := e73.trans he78
  have e81 := e74.trans he78
  refine ⟨he78, ?_⟩
  have hq := bind_elim h
  clear h
  obtain ⟨r82, hr83, h⟩ := hq
  refine TX_e rfl rfl (eff_call Try.func40 nm40 rfl (ev2 rfl rfl) (levitate_unless_ok [] _ (LtL.nil _) (decide ((p_Listappend.Maps.length : Int) ≤ 4)) 8 r82 hr83) ?_)
  rintro _ wd84 ⟨he85, rfl⟩
  have e86 := e79.trans he85
  have e87 := e80.trans he85
  have e88 := e81.trans he85
  refine ⟨he85, ?_⟩
  refine TX_e rfl rfl (eff_buildTC (xs := ([r47, r54, r61, r68, r75, r82] : List Int)) (cells := [(.int .i64 r47), (.int .i64 r54), (.int .i64 r61), (.int .i64 r68), (.int .i64 r75), (.int .i64 r82)]) Try.underlying108 ei30 rfl (pc_cons rfl rfl (pc_cons rfl rfl (pc_cons rfl rfl (pc_cons rfl rfl (pc_cons rfl rfl (pc_cons rfl rfl pc_nil)))))) rfl (Elems.cons (cs := [(.int .i64 r47)]) rfl (Elems.cons (cs := [(.int .i64 r54)]) rfl (Elems.cons (cs := [(.int .i64 r61)]) rfl (Elems.cons (cs := [(.int .i64 r68)]) rfl (Elems.cons (cs := [(.int .i64 r75)]) rfl (Elems.cons (cs := [(.int .i64 r82)]) rfl Elems.nil)))))) rfl (ltl_box (hL.chg e88) (hB20.ext e86)) ?_)
  intro b92 wd89 he90 h91
  have e93 := e86.trans he90
  have e94 := e87.trans he90
  have e95 := e88.trans he90
  refine ⟨he90, ?_⟩
  have hq := bind_elim h
  clear h
  obtain ⟨r97, hr98, h⟩ := hq
  refine TX_e rfl rfl (eff_call Try.func39 nm39 rfl (ev1 rfl) (levitate_first_ok [] _ (LtL.nil _) (.slice (some ⟨b92, 0, none⟩) 6 6) ([r47, r54, r61, r68, r75, r82] : List Int) (h91.sub (fun _ h => by cases h)) r97 hr98) ?_)
  rintro _ wd99 ⟨he100, rfl⟩
  have e101 := e93.trans he100
  have e102 := e94.trans he100
  have e103 := e95.trans he100
  refine ⟨he100, ?_⟩
  refine TX_p (v := (.int .i64 r97)) rfl rfl (fun w' => (yl_assign rfl)) ?_
  refine TX_done ?_
  refine hK34 _ _ ?_
  refine WC_seqK fun K104 hK104 => ?_
  refine WC_seqK fun K105 hK105 => ?_
  refine WC_region ?_
  refine T0_q (v := (.int .i64 r97)) rfl (yl_move rfl) ?_
  refine T0_q (v := (.bool (!decide (r97 = 0)))) rfl (yl_neq rfl rfl) ?_
  refine T0_nil ?_
  refine hK105 _ _ ?_
  refine WC_cond (b := (!decide (r97 = 0))) rfl (fun hb106 => ?_) (fun hb106 => ?_)
  · clear hK104 hK105 hK27 hK34 hK7
    replace h := cond_t hb106 h
    refine WC_seqK fun K107 hK107 => ?_
    refine WC_region ?_
    refine T0_q (v := (.agg (List.toArray [(.int .i64 0), (.int .i64 0)]))) rfl (yl_buildC (cells := [(.int .i64 0), (.int .i64 0)]) bi29 pc_nil rfl) ?_
    refine T0_q (v := (.int .i64 r97)) rfl (yl_move rfl) ?_
    refine T0_e rfl (eff_storeC (vs := [(.int .i64 0), (.int .i64 0)]) (cs' := [(.int .i64 0), (.int .i64 0)]) sz29 rfl rfl rfl rfl (hB20.ext e101) rfl (oc_cons rfl (oc_cons rfl oc_nil)) rfl ?_)
    intro wd108 hc109 hB110
    have e115 := chg_box e103 hc109 hbf22
    refine T0_q (v := (.int .i64 r97)) rfl (yl_assign rfl) ?_
    refine T0_nil ?_
    refine hK107 _ _ ?_
    refine WC_ret ?_
    replace h := some_out h
    subst h
    exact ⟨[(.agg (List.toArray [(.int .i64 0), (.int .i64 0)])), (.int .i64 r97)], ⟨⟨_, rfl, run_loadVarA (cs := [(.int .i64 0), (.int .i64 0)]) ag29 (Box.at hB110)⟩, rfl, trivial⟩, e115, [(.int .i64 0), (.int .i64 0)], rfl, rfl⟩
  · clear hK105 hK27 hK34 hK7
    replace h := cond_f hb106 h
    refine WC_skip ?_
    refine hK104 _ _ ?_
    refine WC_seqK fun K116 hK116 => ?_
    refine WC_region ?_
    have hq := bind_elim h
    clear h
    obtain ⟨r117, hr118, h⟩ := hq
    refine T0_e rfl (eff_call Try.func41 nm41 rfl (ev1 rfl) (levitate_allSmall_ok [] _ (LtL.nil _) 1000 r117 hr118) ?_)
    rintro _ wd119 ⟨he120, b121, rfl, h122, h123⟩
    have e127 := e101.trans he120
    have e129 := e102.trans he120
    have e130 := e103.trans he120
    refine T0_q (v := (.func (.func 69) #[] (List.toArray [(.pointer (some ⟨b121, 0, none⟩))]))) rfl (yl_assign rfl) ?_
    refine T0_nil ?_
    refine hK116 _ _ ?_
    refine WC_seqK fun K132 hK132 => ?_
    refine WC_seqK fun K133 hK133 => ?_
    refine WC_region ?_
    refine T0_q (v := (.pointer (some ⟨b8, 1, none⟩))) rfl (yl_fa 1 Try.underlying25 rfl rfl ⟨0, sz22⟩ rfl rfl) ?_
    refine T0_q (v := v1) rfl (yl_load sc22 rfl (At.drop (Box.at (hB12.ext e129)) 1)) ?_
    refine T0_q (v := (.int .i64 (p_Listappend.Maps.length : Int))) rfl (yl_lenR rfl Try.underlying22 h23 rfl) ?_
    refine T0_q (v := (.int .i64 0)) rfl (yl_move rfl) ?_
    refine T0_nil ?_
    refine hK133 _ _ ?_
    have hq := bind_elim h
    clear h
    obtain ⟨o1331, hl1332, hn1333⟩ := hq
    refine WC_post (fun (ρ : Env) (wd1326 : World) => .inr () = o1331 ∧ ρ 2 = (.pointer (some ⟨b16, 0, none⟩)) ∧ Box wd1326 b16 [(.int .i64 0), (.int .i64 0)] 29 ∧ Ext w wd1326) ?_ ?_
    · clear hK104 hK116 hK132 hK133
      intro K1337 hK1337
      refine WC_block ?_
      refine WC_loopk (fun sv ρ wd1309 => ∃ (x1317 : Int), x1317 = sv ∧ ρ 1 = (.pointer (some ⟨b8, 0, none⟩)) ∧ ρ 2 = (.pointer (some ⟨b16, 0, none⟩)) ∧ ρ 6 = (.func (.func 69) #[] (List.toArray [(.pointer (some ⟨b121, 0, none⟩))])) ∧ ρ 50 = v1 ∧ ρ 51 = (.int .i64 (p_Listappend.Maps.length : Int)) ∧ ρ 52 = (.int .i64 x1317) ∧ SlRd ((.pointer (some ⟨b16, 0, none⟩)) :: L) wd1309 v1 p_Listappend.Maps ∧ SlRd ((.pointer (some ⟨b16, 0, none⟩)) :: L) wd1309 v3 p_Listappend.Noise ∧ Box wd1309 b121 [(.int .i64 r117)] 3 ∧ Box wd1309 b16 [(.int .i64 0), (.int .i64 0)] 29 ∧ Box wd1309 b8 [(.int .i64 p_Listappend.Den), v1, v3] 25 ∧ Ext w wd1309) hl1332 ⟨0, rfl, rfl, rfl, rfl, rfl, rfl, rfl, (h23.ext e127), (h24.ext e127), h122, (hB20.ext e127), (hB12.ext e129), e130⟩ ?_
      rintro _ ρ wd1309 ⟨x1317, rfl, hs1311, hs1312, hs1313, hs1315, hs1316, hs1318, h1314, h1323, hB1320, hB1322, hB1325, e1310⟩ x1334 h hx1335 K1336 hK1336
      refine WC_seqK fun K1339 hK1339 => ?_
      refine WC_region ?_
      refine T0_q (v := (.bool (decide (x1317 < (p_Listappend.Maps.length : Int))))) rfl (yl_lss hs1318 hs1316) ?_
      refine T0_nil ?_
      refine hK1339 _ _ ?_
      refine WC_seqK fun K1340 hK1340 => ?_
      refine WC_cond (b := (decide (x1317 < (p_Listappend.Maps.length : Int)))) rfl (fun hb1341 => ?_) (fun hb1341 => ?_)
      · clear hK1337 hK1339
        replace h := cond_t hb1341 h
        refine WC_skip ?_
        refine hK1340 _ _ ?_
        refine WC_seqK fun K1342 hK1342 => ?_
        refine WC_block ?_
        refine WC_seqK fun K1343 hK1343 => ?_
        refine WC_region ?_
        refine T0_q (v := (.int .i64 x1317)) rfl (yl_move hs1318) ?_
        have hq := bind_elim h
        clear h
        obtain ⟨el1344, hel1345, h⟩ := hq
        have hq := SlRd.at h1314 hel1345
        obtain ⟨cs1348, hat1349, hrd1350⟩ := hq
        obtain ⟨v1346, rfl, h1347⟩ := hrd1350
        refine T0_q (v := (.pointer (some (elemAddr v1 (x1317 : Int).toNat 1)))) rfl (yl_indexAddr Try.underlying22 sz47 h1314 hel1345 hs1315 hs1318) ?_
        refine T0_q (v := v1346) rfl (yl_load sc47 rfl hat1349) ?_
        refine T0_q (v := (.int .i64 x1317)) rfl (yl_assign rfl) ?_
        refine T0_q (v := v1346) rfl (yl_assign rfl) ?_
        refine T0_nil ?_
        refine hK1343 _ _ ?_
        refine WC_seqK fun K1353 hK1353 => ?_
        refine WC_seqK fun K1354 hK1354 => ?_
        refine WC_region ?_
        refine T0_q (v := v1346) rfl (yl_move rfl) ?_
        refine T0_q (v := (.int .i64 (el1344.length : Int))) rfl (yl_lenR rfl Try.underlying47 h1347 rfl) ?_
        refine T0_q (v := (.pointer (some ⟨b8, 2, none⟩))) rfl (yl_fa 2 Try.underlying25 rfl rfl ⟨0, sz23⟩ hs1311 rfl) ?_
        refine T0_q (v := v3) rfl (yl_load sc23 rfl (At.drop (Box.at hB1325) 2)) ?_
        refine T0_q (v := (.int .i64 (p_Listappend.Noise.length : Int))) rfl (yl_lenR rfl Try.underlying23 h1323 rfl) ?_
        refine T0_q (v := (.bool (!decide ((el1344.length : Int) = (p_Listappend.Noise.length : Int))))) rfl (yl_neq rfl rfl) ?_
        refine T0_nil ?_
        refine hK1354 _ _ ?_
        refine WC_cond (b := (!decide ((el1344.length : Int) = (p_Listappend.Noise.length : Int)))) rfl (fun hb1355 => ?_) (fun hb1355 => ?_)
        · clear hK1336 hK1340 hK1342 hK1343 hK1353 hK1354
          replace h := cond_t hb1355 h
          refine WC_seqK fun K1356 hK1356 => ?_
          refine WC_region ?_
          refine T0_q (v := (.int .i64 x1317)) rfl (yl_move rfl) ?_
          refine T0_q (v := (.agg (List.toArray [(.int .i64 x1317), (.int .i64 0)]))) rfl (yl_buildC (cells := [(.int .i64 x1317), (.int .i64 0)]) bi29 (pc_cons rfl rfl pc_nil) rfl) ?_
          refine T0_e rfl (eff_storeC (vs := [(.int .i64 x1317), (.int .i64 0)]) (cs' := [(.int .i64 x1317), (.int .i64 0)]) sz29 rfl rfl hs1312 rfl hB1322 rfl (oc_cons rfl (oc_cons rfl oc_nil)) rfl ?_)
          intro wd1357 hc1358 hB1359
          have e1365 := chg_box e1310 hc1358 hbf22
          refine T0_q (v := (.int .i64 10)) rfl (yl_assign rfl) ?_
          refine T0_nil ?_
          refine hK1356 _ _ ?_
          refine WC_ret ?_
          replace h := some_out h
          subst h
          have ho := hx1335 _ rfl
          subst ho
          replace h := jn0_inl hn1333
          replace h := some_out h
          subst h
          exact ⟨[(.agg (List.toArray [(.int .i64 x1317), (.int .i64 0)])), (.int .i64 10)], ⟨⟨_, hs1312, run_loadVarA (cs := [(.int .i64 x1317), (.int .i64 0)]) ag29 (Box.at hB1359)⟩, rfl, trivial⟩, e1365, [(.int .i64 x1317), (.int .i64 0)], rfl, rfl⟩
        · clear hK1340 hK1343 hK1354
          replace h := cond_f hb1355 h
          refine WC_skip ?_
          refine hK1353 _ _ ?_
          refine WC_seqK fun K1366 hK1366 => ?_
          refine WC_region ?_
          refine T0_q (v := v1346) rfl (yl_move rfl) ?_
          refine T0_q (v := (.int .i64 (el1344.length : Int))) rfl (yl_lenR rfl Try.underlying47 h1347 rfl) ?_
          refine T0_q (v := (.int .i64 0)) rfl (yl_move rfl) ?_
          refine T0_nil ?_
          refine hK1366 _ _ ?_
          have hq := bind_elim h
          clear h
          obtain ⟨o1647, hl1648, hn1649⟩ := hq
          refine WC_post (fun (ρ : Env) (wd1631 : World) => .inr () = o1647 ∧ ρ 1 = (.pointer (some ⟨b8, 0, none⟩)) ∧ ρ 2 = (.pointer (some ⟨b16, 0, none⟩)) ∧ ρ 6 = (.func (.func 69) #[] (List.toArray [(.pointer (some ⟨b121, 0, none⟩))])) ∧ ρ 50 = v1 ∧ ρ 51 = (.int .i64 (p_Listappend.Maps.length : Int)) ∧ ρ 52 = (.int .i64 x1317) ∧ SlRd ((.pointer (some ⟨b16, 0, none⟩)) :: L) wd1631 v1 p_Listappend.Maps ∧ SlRd ((.pointer (some ⟨b16, 0, none⟩)) :: L) wd1631 v3 p_Listappend.Noise ∧ Box wd1631 b121 [(.int .i64 r117)] 3 ∧ Box wd1631 b16 [(.int .i64 0), (.int .i64 0)] 29 ∧ Box wd1631 b8 [(.int .i64 p_Listappend.Den), v1, v3] 25 ∧ Ext w wd1631) ?_ ?_
          · clear hK1336 hK1342 hK1353 hK1366
            intro K1653 hK1653
            refine WC_block ?_
            refine WC_loopk (fun sv ρ wd1609 => ∃ (x1622 : Int), x1622 = sv ∧ ρ 1 = (.pointer (some ⟨b8, 0, none⟩)) ∧ ρ 2 = (.pointer (some ⟨b16, 0, none⟩)) ∧ ρ 6 = (.func (.func 69) #[] (List.toArray [(.pointer (some ⟨b121, 0, none⟩))])) ∧ ρ 7 = (.int .i64 x1317) ∧ ρ 50 = v1 ∧ ρ 51 = (.int .i64 (p_Listappend.Maps.length : Int)) ∧ ρ 52 = (.int .i64 x1317) ∧ ρ 65 = v1346 ∧ ρ 66 = (.int .i64 (el1344.length : Int)) ∧ ρ 67 = (.int .i64 x1622) ∧ SlRd ((.pointer (some ⟨b16, 0, none⟩)) :: L) wd1609 v1 p_Listappend.Maps ∧ SlRd ((.pointer (some ⟨b16, 0, none⟩)) :: L) wd1609 v1346 el1344 ∧ SlRd ((.pointer (some ⟨b16, 0, none⟩)) :: L) wd1609 v3 p_Listappend.Noise ∧ Box wd1609 b121 [(.int .i64 r117)] 3 ∧ Box wd1609 b16 [(.int .i64 0), (.int .i64 0)] 29 ∧ Box wd1609 b8 [(.int .i64 p_Listappend.Den), v1, v3] 25 ∧ Ext w wd1609) hl1648 ⟨0, rfl, hs1311, hs1312, hs1313, rfl, hs1315, hs1316, hs1318, rfl, rfl, rfl, h1314, h1347, h1323, hB1320, hB1322, hB1325, e1310⟩ ?_
            rintro _ ρ wd1609 ⟨x1622, rfl, hs1611, hs1612, hs1613, hs1614, hs1616, hs1617, hs1618, hs1620, hs1621, hs1623, h1615, h1619, h1628, hB1625, hB1627, hB1630, e1610⟩ x1650 h hx1651 K1652 hK1652
            refine WC_seqK fun K1655 hK1655 => ?_
            refine WC_region ?_
            refine T0_q (v := (.bool (decide (x1622 < (el1344.length : Int))))) rfl (yl_lss hs1623 hs1621) ?_
            refine T0_nil ?_
            refine hK1655 _ _ ?_
            refine WC_seqK fun K1656 hK1656 => ?_
            refine WC_cond (b := (decide (x1622 < (el1344.length : Int)))) rfl (fun hb1657 => ?_) (fun hb1657 => ?_)
            · clear hK1653 hK1655
              replace h := cond_t hb1657 h
              refine WC_skip ?_
              refine hK1656 _ _ ?_
              refine WC_seqK fun K1658 hK1658 => ?_
              refine WC_block ?_
              refine WC_seqK fun K1659 hK1659 => ?_
              refine WC_region ?_
              refine T0_q (v := (.int .i64 x1622)) rfl (yl_move hs1623) ?_
              have hq := bind_elim h
              clear h
              obtain ⟨el1660, hel1661, h⟩ := hq
              have hq := SlRd.at h1619 hel1661
              obtain ⟨cs1664, hat1665, hrd1666⟩ := hq
              obtain ⟨v1662, rfl, h1663⟩ := hrd1666
              refine T0_q (v := (.pointer (some (elemAddr v1346 (x1622 : Int).toNat 1)))) rfl (yl_indexAddr Try.underlying47 sz23 h1619 hel1661 hs1620 hs1623) ?_
              refine T0_q (v := v1662) rfl (yl_load sc23 rfl hat1665) ?_
              refine T0_q (v := (.int .i64 x1622)) rfl (yl_assign rfl) ?_
              refine T0_q (v := v1662) rfl (yl_assign rfl) ?_
              refine T0_nil ?_
              refine hK1659 _ _ ?_
              refine WC_seqK fun K1669 hK1669 => ?_
              refine WC_region ?_
              refine T0_q (v := v1662) rfl (yl_move rfl) ?_
              refine T0_q (v := (.int .i64 (el1660.length : Int))) rfl (yl_lenR rfl Try.underlying23 h1663 rfl) ?_
              refine T0_q (v := (.pointer (some ⟨b8, 2, none⟩))) rfl (yl_fa 2 Try.underlying25 rfl rfl ⟨0, sz23⟩ hs1611 rfl) ?_
              refine T0_q (v := v3) rfl (yl_load sc23 rfl (At.drop (Box.at hB1630) 2)) ?_
              refine T0_q (v := (.int .i64 (p_Listappend.Noise.length : Int))) rfl (yl_lenR rfl Try.underlying23 h1628 rfl) ?_
              refine T0_q (v := (.bool (decide ((el1660.length : Int) = (p_Listappend.Noise.length : Int))))) rfl (yl_eql rfl rfl) ?_
              have hq := bind_elim h
              clear h
              obtain ⟨r1670, hr1671, h⟩ := hq
              refine T0_e rfl (eff_call Try.func40 nm40 rfl (ev2 rfl rfl) (levitate_unless_ok [] _ (LtL.nil _) (decide ((el1660.length : Int) = (p_Listappend.Noise.length : Int))) 10 r1670 hr1671) ?_)
              rintro _ wd1672 ⟨he1673, rfl⟩
              have e1674 := e1610.trans he1673
              refine T0_q (v := (.func (.func 69) #[] (List.toArray [(.pointer (some ⟨b121, 0, none⟩))]))) rfl (yl_move hs1613) ?_
              refine T0_q (v := v1662) rfl (yl_move rfl) ?_
              have hq := bind_elim h
              clear h
              obtain ⟨r1675, hr1676, h⟩ := hq
              refine T0_e rfl (eff_callC rfl Try.func69 nm69 rfl (ev1 rfl) rfl (levitate_allSmall_1_ok [] _ (LtL.nil _) v1662 el1660 ((h1663.ext he1673).sub (fun _ h => by cases h)) b121 r117 (hB1625.ext he1673) r1675 hr1676) ?_)
              rintro _ wd1677 ⟨he1678, rfl⟩
              have e1679 := he1673.trans he1678
              have e1680 := e1674.trans he1678
              have hq := bind_elim h
              clear h
              obtain ⟨r1681, hr1682, h⟩ := hq
              refine T0_e rfl (eff_call Try.func40 nm40 rfl (ev2 rfl rfl) (levitate_unless_ok [] _ (LtL.nil _) r1675 2 r1681 hr1682) ?_)
              rintro _ wd1683 ⟨he1684, rfl⟩
              have e1685 := e1679.trans he1684
              have e1686 := e1680.trans he1684
              refine T0_e rfl (eff_buildTC (xs := ([r1670, r1681] : List Int)) (cells := [(.int .i64 r1670), (.int .i64 r1681)]) Try.underlying108 ei30 rfl (pc_cons rfl rfl (pc_cons rfl rfl pc_nil)) rfl (Elems.cons (cs := [(.int .i64 r1670)]) rfl (Elems.cons (cs := [(.int .i64 r1681)]) rfl Elems.nil)) rfl (ltl_box (hL.chg e1686) (hB1627.ext e1685)) ?_)
              intro b1690 wd1687 he1688 h1689
              have e1691 := e1685.trans he1688
              have e1692 := e1686.trans he1688
              have hq := bind_elim h
              clear h
              obtain ⟨r1694, hr1695, h⟩ := hq
              refine T0_e rfl (eff_call Try.func39 nm39 rfl (ev1 rfl) (levitate_first_ok [] _ (LtL.nil _) (.slice (some ⟨b1690, 0, none⟩) 2 2) ([r1670, r1681] : List Int) (h1689.sub (fun _ h => by cases h)) r1694 hr1695) ?_)
              rintro _ wd1696 ⟨he1697, rfl⟩
              have e1698 := e1691.trans he1697
              have e1699 := e1692.trans he1697
              refine T0_q (v := (.int .i64 r1694)) rfl (yl_assign rfl) ?_
              refine T0_nil ?_
              refine hK1669 _ _ ?_
              refine WC_seqK fun K1700 hK1700 => ?_
              refine WC_region ?_
              refine T0_q (v := (.int .i64 r1694)) rfl (yl_move rfl) ?_
              refine T0_q (v := (.bool (!decide (r1694 = 0)))) rfl (yl_neq rfl rfl) ?_
              refine T0_nil ?_
              refine hK1700 _ _ ?_
              refine WC_cond (b := (!decide (r1694 = 0))) rfl (fun hb1701 => ?_) (fun hb1701 => ?_)
              · clear hK1652 hK1656 hK1658 hK1659 hK1669 hK1700
                replace h := cond_t hb1701 h
                refine WC_seqK fun K1702 hK1702 => ?_
                refine WC_region ?_
                refine T0_q (v := (.int .i64 x1317)) rfl (yl_move hs1614) ?_
                refine T0_q (v := (.int .i64 x1622)) rfl (yl_move rfl) ?_
                refine T0_q (v := (.agg (List.toArray [(.int .i64 x1317), (.int .i64 x1622)]))) rfl (yl_buildC (cells := [(.int .i64 x1317), (.int .i64 x1622)]) bi29 (pc_cons rfl rfl (pc_cons rfl rfl pc_nil)) rfl) ?_
                refine T0_q (v := (.int .i64 r1694)) rfl (yl_move rfl) ?_
                refine T0_e rfl (eff_storeC (vs := [(.int .i64 x1317), (.int .i64 x1622)]) (cs' := [(.int .i64 x1317), (.int .i64 x1622)]) sz29 rfl rfl hs1612 rfl (hB1627.ext e1698) rfl (oc_cons rfl (oc_cons rfl oc_nil)) rfl ?_)
                intro wd1703 hc1704 hB1705
                have e1713 := chg_box e1699 hc1704 hbf22
                refine T0_q (v := (.int .i64 r1694)) rfl (yl_assign rfl) ?_
                refine T0_nil ?_
                refine hK1702 _ _ ?_
                refine WC_ret ?_
                replace h := some_out h
                subst h
                have ho := hx1651 _ rfl
                subst ho
                replace h := jn0_inl hn1649
                replace h := some_out h
                subst h
                have ho := hx1335 _ rfl
                subst ho
                replace h := jn0_inl hn1333
                replace h := some_out h
                subst h
                exact ⟨[(.agg (List.toArray [(.int .i64 x1317), (.int .i64 x1622)])), (.int .i64 r1694)], ⟨⟨_, hs1612, run_loadVarA (cs := [(.int .i64 x1317), (.int .i64 x1622)]) ag29 (Box.at hB1705)⟩, rfl, trivial⟩, e1713, [(.int .i64 x1317), (.int .i64 x1622)], rfl, rfl⟩
              · clear hK1656 hK1659 hK1669 hK1700
                replace h := cond_f hb1701 h
                refine WC_skip ?_
                refine hK1658 _ _ ?_
                refine WC_region ?_
                refine T0_q (v := (.int .i64 (w64 (x1622 + 1)))) rfl (yl_add hs1623 rfl) ?_
                refine T0_q (v := (.int .i64 (w64 (x1622 + 1)))) rfl (yl_move rfl) ?_
                refine T0_nil ?_
                replace h := some_out h
                subst h
                refine hK1652 _ _ _ rfl ?_
                exact ⟨w64 (x1622 + 1), rfl, hs1611, hs1612, hs1613, hs1614, hs1616, hs1617, hs1618, hs1620, hs1621, rfl, (h1615.ext e1698), (h1619.ext e1698), (h1628.ext e1698), (hB1625.ext e1698), (hB1627.ext e1698), (hB1630.ext e1698), e1699⟩
            · clear hK1652 hK1655 hK1656
              replace h := cond_f hb1657 h
              refine WC_exit ?_
              replace h := some_out h
              subst h
              have ho := hx1651 _ rfl
              subst ho
              refine hK1653 _ _ ?_
              exact ⟨rfl, hs1611, hs1612, hs1613, hs1616, hs1617, hs1618, h1615, h1628, hB1625, hB1627, hB1630, e1610⟩
          · clear hK1353 hK1366
            rintro ρ wd1631 ⟨rfl, hs1633, hs1634, hs1635, hs1637, hs1638, hs1639, h1636, h1644, hB1641, hB1643, hB1646, e1632⟩
            replace h := jn0_inr hn1649
            refine hK1342 _ _ ?_
            refine WC_region ?_
            refine T0_q (v := (.int .i64 (w64 (x1317 + 1)))) rfl (yl_add hs1639 rfl) ?_
            refine T0_q (v := (.int .i64 (w64 (x1317 + 1)))) rfl (yl_move rfl) ?_
            refine T0_nil ?_
            replace h := some_out h
            subst h
            refine hK1336 _ _ _ rfl ?_
            exact ⟨w64 (x1317 + 1), rfl, hs1633, hs1634, hs1635, hs1637, hs1638, rfl, h1636, h1644, hB1641, hB1643, hB1646, e1632⟩
      · clear hK1336 hK1339 hK1340
        replace h := cond_f hb1341 h
        refine WC_exit ?_
        replace h := some_out h
        subst h
        have ho := hx1335 _ rfl
        subst ho
        refine hK1337 _ _ ?_
        exact ⟨rfl, hs1312, hB1322, e1310⟩
    · clear hK104 hK116 hK133
      rintro ρ wd1326 ⟨rfl, hs1328, hB1330, e1327⟩
      replace h := jn0_inr hn1333
      refine hK132 _ _ ?_
      refine WC_seqK fun K1714 hK1714 => ?_
      refine WC_region ?_
      refine T0_q (v := (.agg (List.toArray [(.int .i64 0), (.int .i64 0)]))) rfl (yl_buildC (cells := [(.int .i64 0), (.int .i64 0)]) bi29 pc_nil rfl) ?_
      refine T0_e rfl (eff_storeC (vs := [(.int .i64 0), (.int .i64 0)]) (cs' := [(.int .i64 0), (.int .i64 0)]) sz29 rfl rfl hs1328 rfl hB1330 rfl (oc_cons rfl (oc_cons rfl oc_nil)) rfl ?_)
      intro wd1715 hc1716 hB1717
      have e1718 := chg_box e1327 hc1716 hbf22
      refine T0_q (v := (.int .i64 0)) rfl (yl_assign rfl) ?_
      refine T0_nil ?_
      refine hK1714 _ _ ?_
      refine WC_ret ?_
      replace h := some_out h
      subst h
      exact ⟨[(.agg (List.toArray [(.int .i64 0), (.int .i64 0)])), (.int .i64 0)], ⟨⟨_, hs1328, run_loadVarA (cs := [(.int .i64 0), (.int .i64 0)]) ag29 (Box.at hB1717)⟩, rfl, trivial⟩, e1718, [(.int .i64 0), (.int .i64 0)], rfl, rfl⟩

noncomputable def levitate_open_spec (p_p : LevitatePlant) : Option (levitate_plant × Int) :=
  (Option.bind (levitate_CheckPlant_spec p_p) fun r28 =>
  some ((levitate_plant.mk p_p), r28.2)
  )
theorem levitate_open_ok (L : List Value) (w : World) (hL : LtL L w) (cs_p_p : List Value) (p_p : LevitatePlant) (h_p_p : Rep.rd L w cs_p_p p_p) (r : levitate_plant × Int) (h : levitate_open_spec p_p = some r) :
    CallsTo Try.prog 74 [(.agg cs_p_p.toArray)] w (fun v w' => Ext w w' ∧ ∃ (cs0 : List Value), (.tuple #[(.agg cs0.toArray), (.int .i64 r.2)]) = v ∧ Rep.rd L w' cs0 r.1) := by
  have e0 : Ext w w := Chg.refl _ _
  obtain ⟨v1, v3, h2, h4, rfl⟩ := h_p_p
  refine callsTo_of_WC (n := 14) (rs := [.cell 2 89, .tmp 3]) Try.func74 rfl rfl rfl rfl rfl ?_
  refine WC_seqK fun K7 hK7 => ?_
  refine WC_region ?_
  refine T0_e rfl (eff_boxC (cs := [(.int .i64 p_p.Den), v1, v3]) rfl rfl ?_)
  intro b8 wd9 hb10 he11 hB12
  have e14 := e0.trans he11
  refine T0_e rfl (eff_allocZ zi89 ?_)
  intro b16 wd17 hb18 he19 hB20
  have hbf22 := bfresh e14 hb18
  have h23 := (h2.ext he11).step (add_box he19 hb18)
  have h24 := (h4.ext he11).step (add_box he19 hb18)
  have e25 := e14.trans he19
  refine T0_q (v := (.int .i64 0)) rfl (yl_assign rfl) ?_
  refine T0_nil ?_
  refine hK7 _ _ ?_
  refine WC_seqK fun K27 hK27 => ?_
  refine WC_region ?_
  refine T0_q (v := (.agg (List.toArray [(.int .i64 p_p.Den), v1, v3]))) rfl (yl_loadA (cs := [(.int .i64 p_p.Den), v1, v3]) ag25 rfl (Box.at (hB12.ext he19))) ?_
  have hq := bind_elim h
  clear h
  obtain ⟨r28, hr29, h⟩ := hq
  refine T0_e rfl (eff_call Try.func9 nm9 rfl (ev1 rfl) (levitate_CheckPlant_ok [] _ (LtL.nil _) [(.int .i64 p_p.Den), v1, v3] p_p ⟨v1, v3, (h23.sub (fun _ h => by cases h)), (h24.sub (fun _ h => by cases h)), rfl⟩ r28 hr29) ?_)
  rintro _ wd30 ⟨he31, cs32, rfl, hrd33⟩
  have e34 := he19.trans he31
  have e35 := e25.trans he31
  have hrd33 : cs32 = [(.int .i64 r28.1.Map), (.int .i64 r28.1.Row)] := hrd33
  subst hrd33
  refine T0_q (v := (.tuple #[(.agg (List.toArray [(.int .i64 r28.1.Map), (.int .i64 r28.1.Row)])), (.int .i64 r28.2)])) rfl (yl_move rfl) ?_
  refine T0_q (v := (.agg (List.toArray [(.int .i64 r28.1.Map), (.int .i64 r28.1.Row)]))) rfl (yl_extract rfl rfl) ?_
  refine T0_q (v := (.int .i64 r28.2)) rfl (yl_extract rfl rfl) ?_
  refine T0_e rfl (eff_allocZ zi29 ?_)
  intro b36 wd37 hb38 he39 hB40
  have hn41 : b36 ≠ b8 := box_ne (hB12.ext e34) hb38
  have hn42 : b36 ≠ b16 := box_ne (hB20.ext he31) hb38
  have hbf43 := bfresh e35 hb38
  have h44 := (h23.ext he31).step (add_box he39 hb38)
  have h45 := (h24.ext he31).step (add_box he39 hb38)
  have e46 := he31.trans he39
  have e47 := e34.trans he39
  have e48 := e35.trans he39
  refine T0_e rfl (eff_storeC (vs := [(.int .i64 r28.1.Map), (.int .i64 r28.1.Row)]) (cs' := [(.int .i64 r28.1.Map), (.int .i64 r28.1.Row)]) sz29 rfl rfl rfl rfl hB40 rfl (oc_cons rfl (oc_cons rfl oc_nil)) rfl ?_)
  intro wd50 hc51 hB52
  have h53 := h44.step (Stepp.chg_mem hc51 mem0)
  have h54 := h45.step (Stepp.chg_mem hc51 mem0)
  have h55 := (hB12.ext e47).chg hc51 (avoidb hn41)
  have h56 := (hB20.ext e46).chg hc51 (avoidb hn42)
  have e57 := chg_box e48 hc51 hbf43
  refine T0_q (v := (.int .i64 r28.2)) rfl (yl_assign rfl) ?_
  refine T0_nil ?_
  refine hK27 _ _ ?_
  refine WC_seqK fun K58 hK58 => ?_
  refine WC_region ?_
  refine T0_q (v := (.agg (List.toArray [(.int .i64 p_p.Den), v1, v3]))) rfl (yl_loadA (cs := [(.int .i64 p_p.Den), v1, v3]) ag25 rfl (Box.at h55)) ?_
  refine T0_q (v := (.agg (List.toArray [(.int .i64 p_p.Den), v1, v3]))) rfl (yl_buildC (cells := [(.int .i64 p_p.Den), v1, v3]) bi89 (pc_cons rfl rfl pc_nil) rfl) ?_
  refine T0_q (v := (.int .i64 r28.2)) rfl (yl_move rfl) ?_
  refine T0_e rfl (eff_storeC (vs := [(.int .i64 p_p.Den), v1, v3]) (cs' := [(.int .i64 p_p.Den), v1, v3]) sz89 rfl rfl rfl rfl h56 rfl (oc_cons rfl (oc_cons h53.one1 (oc_cons h54.one1 oc_nil))) rfl ?_)
  intro wd59 hc60 hB61
  have h62 := h53.step (Stepp.chg_mem hc60 (memS mem0))
  have h63 := h54.step (Stepp.chg_mem hc60 (memS mem0))
  have e66 := chg_box e57 hc60 hbf22
  refine T0_q (v := (.int .i64 r28.2)) rfl (yl_assign rfl) ?_
  refine T0_nil ?_
  refine hK58 _ _ ?_
  refine WC_ret ?_
  replace h := some_out h
  subst h
  exact ⟨[(.agg (List.toArray [(.int .i64 p_p.Den), v1, v3])), (.int .i64 r28.2)], ⟨⟨_, rfl, run_loadVarA (cs := [(.int .i64 p_p.Den), v1, v3]) ag89 (Box.at hB61)⟩, rfl, trivial⟩, e66, [(.int .i64 p_p.Den), v1, v3], rfl, ⟨v1, v3, (h62.sub (sub_skip (sub_skip (sub_refl _)))), (h63.sub (sub_skip (sub_skip (sub_refl _)))), rfl⟩⟩

noncomputable def levitate_openForm_spec (p_p : LevitatePlant) (p_form : (List (List Int))) : Option (levitate_plant × Int) :=
  (Option.bind (levitate_open_spec p_p) fun r30 =>
  (Option.bind (levitate_formErr_spec p_form) fun r76 =>
  (Option.bind (levitate_unless_spec (decide ((p_form.length : Int) = (p_p.Noise.length : Int))) 13) fun r82 =>
  (Option.bind (levitate_first_spec ([r30.2, r76, r82] : List Int)) fun r95 =>
  some ((levitate_plant.mk (LevitatePlant.mk r30.1.LevitatePlant.Den r30.1.LevitatePlant.Maps r30.1.LevitatePlant.Noise)), r95)
  )
  )
  )
  )
theorem levitate_openForm_ok (L : List Value) (w : World) (hL : LtL L w) (cs_p_p : List Value) (p_p : LevitatePlant) (h_p_p : Rep.rd L w cs_p_p p_p) (v_p_form : Value) (p_form : (List (List Int))) (h_p_form : SlRd L w v_p_form p_form) (r : levitate_plant × Int) (h : levitate_openForm_spec p_p p_form = some r) :
    CallsTo Try.prog 76 [(.agg cs_p_p.toArray), v_p_form] w (fun v w' => Ext w w' ∧ ∃ (cs0 : List Value), (.tuple #[(.agg cs0.toArray), (.int .i64 r.2)]) = v ∧ Rep.rd L w' cs0 r.1) := by
  have e0 : Ext w w := Chg.refl _ _
  obtain ⟨v1, v3, h2, h4, rfl⟩ := h_p_p
  refine callsTo_of_WC (n := 26) (rs := [.cell 4 89, .tmp 5]) Try.func76 rfl rfl rfl rfl rfl ?_
  refine WC_seqK fun K8 hK8 => ?_
  refine WC_region ?_
  refine T0_e rfl (eff_boxC (cs := [(.int .i64 p_p.Den), v1, v3]) rfl rfl ?_)
  intro b9 wd10 hb11 he12 hB13
  have e15 := e0.trans he12
  refine T0_e rfl (eff_allocZ zi89 ?_)
  intro b17 wd18 hb19 he20 hB21
  have hbf23 := bfresh e15 hb19
  have h24 := (h2.ext he12).step (add_box he20 hb19)
  have h25 := (h4.ext he12).step (add_box he20 hb19)
  have h26 := (h_p_form.ext he12).step (add_box he20 hb19)
  have e27 := e15.trans he20
  refine T0_q (v := (.int .i64 0)) rfl (yl_assign rfl) ?_
  refine T0_nil ?_
  refine hK8 _ _ ?_
  refine WC_seqK fun K29 hK29 => ?_
  refine WC_region ?_
  refine T0_q (v := (.agg (List.toArray [(.int .i64 p_p.Den), v1, v3]))) rfl (yl_loadA (cs := [(.int .i64 p_p.Den), v1, v3]) ag25 rfl (Box.at (hB13.ext he20))) ?_
  have hq := bind_elim h
  clear h
  obtain ⟨r30, hr31, h⟩ := hq
  refine T0_e rfl (eff_call Try.func74 nm74 rfl (ev1 rfl) (levitate_open_ok ((.pointer (some ⟨b17, 0, none⟩)) :: L) _ (ltl_box (hL.chg e27) hB21) [(.int .i64 p_p.Den), v1, v3] p_p ⟨v1, v3, h24, h25, rfl⟩ r30 hr31) ?_)
  rintro _ wd32 ⟨he33, cs38, rfl, hrd39⟩
  have e40 := he20.trans he33
  have e41 := e27.trans he33
  obtain ⟨v34, v36, h35, h37, rfl⟩ := hrd39
  refine T0_q (v := (.tuple #[(.agg (List.toArray [(.int .i64 r30.1.LevitatePlant.Den), v34, v36])), (.int .i64 r30.2)])) rfl (yl_move rfl) ?_
  refine T0_q (v := (.agg (List.toArray [(.int .i64 r30.1.LevitatePlant.Den), v34, v36]))) rfl (yl_extract rfl rfl) ?_
  refine T0_q (v := (.int .i64 r30.2)) rfl (yl_extract rfl rfl) ?_
  refine T0_e rfl (eff_allocZ zi89 ?_)
  intro b44 wd45 hb46 he47 hB48
  have hn49 : b44 ≠ b9 := box_ne (hB13.ext e40) hb46
  have hn50 : b44 ≠ b17 := box_ne (hB21.ext he33) hb46
  have hbf51 := bfresh e41 hb46
  have h53 := (h25.ext he33).step (add_box he47 hb46)
  have h54 := (h26.ext he33).step (add_box he47 hb46)
  have h55 := h35.step (add_box he47 hb46)
  have h56 := h37.step (add_box he47 hb46)
  have e57 := e40.trans he47
  have e58 := he33.trans he47
  have e59 := e41.trans he47
  refine T0_e rfl (eff_storeC (vs := [(.int .i64 r30.1.LevitatePlant.Den), v34, v36]) (cs' := [(.int .i64 r30.1.LevitatePlant.Den), v34, v36]) sz89 rfl rfl rfl rfl hB48 rfl (oc_cons rfl (oc_cons h55.one1 (oc_cons h56.one1 oc_nil))) rfl ?_)
  intro wd61 hc62 hB63
  have h65 := h53.step (Stepp.chg_mem hc62 mem0)
  have h66 := h54.step (Stepp.chg_mem hc62 mem0)
  have h67 := (hB13.ext e57).chg hc62 (avoidb hn49)
  have h68 := (hB21.ext e58).chg hc62 (avoidb hn50)
  have h69 := h55.step (Stepp.chg_mem hc62 mem0)
  have h70 := h56.step (Stepp.chg_mem hc62 mem0)
  have e71 := chg_box e59 hc62 hbf51
  refine T0_q (v := (.int .i64 r30.2)) rfl (yl_assign rfl) ?_
  refine T0_nil ?_
  refine hK29 _ _ ?_
  refine WC_seqK fun K72 hK72 => ?_
  refine WC_planX mixed (.p 1 (.p 2 (.p 4 (.p 5 (.p 6 (.q 0 (.q 7 (.p 8 (.p 9 (.e 3 (.e 10 (.e 11 (.e 12 (.b 13 (.p 14 .done))))))))))))))) (by kernel_rfl) ?_
  intro wd73 he74
  have e75 := e71.trans he74
  refine TX_p (v := (.int .i64 r30.2)) rfl rfl (fun w' => (yl_move rfl)) ?_
  refine TX_p (v := v_p_form) rfl rfl (fun w' => (yl_move rfl)) ?_
  refine TX_p (v := v_p_form) rfl rfl (fun w' => (yl_move rfl)) ?_
  refine TX_p (v := (.int .i64 (p_form.length : Int))) rfl rfl (fun w' => (yl_lenR rfl Try.underlying47 h66 rfl)) ?_
  refine TX_p (v := (.pointer (some ⟨b9, 2, none⟩))) rfl rfl (fun w' => (yl_fa 2 Try.underlying25 rfl rfl ⟨0, sz23⟩ rfl rfl)) ?_
  refine TX_q (v := (.agg (List.toArray [(.int .i64 r30.1.LevitatePlant.Den), v34, v36]))) rfl rfl (fun w' hS => (yl_loadA (cs := [(.int .i64 r30.1.LevitatePlant.Den), v34, v36]) ag89 rfl (Box.at (hB63.ext (he74.trans hS))))) ?_
  refine TX_q (v := v3) rfl rfl (fun w' hS => (yl_load sc23 rfl (At.drop (Box.at (h67.ext (he74.trans hS))) 2))) ?_
  refine TX_p (v := (.int .i64 (p_p.Noise.length : Int))) rfl rfl (fun w' => (yl_lenR rfl Try.underlying23 h65 rfl)) ?_
  refine TX_p (v := (.bool (decide ((p_form.length : Int) = (p_p.Noise.length : Int))))) rfl rfl (fun w' => (yl_eql rfl rfl)) ?_
  have hq := bind_elim h
  clear h
  obtain ⟨r76, hr77, h⟩ := hq
  refine TX_e rfl rfl (eff_call Try.func104 nm104 rfl (ev1 rfl) (levitate_formErr_ok [] _ (LtL.nil _) v_p_form p_form ((h66.ext he74).sub (fun _ h => by cases h)) r76 hr77) ?_)
  rintro _ wd78 ⟨he79, rfl⟩
  have e80 := he74.trans he79
  have e81 := e75.trans he79
  refine ⟨he79, ?_⟩
  have hq := bind_elim h
  clear h
  obtain ⟨r82, hr83, h⟩ := hq
  refine TX_e rfl rfl (eff_call Try.func40 nm40 rfl (ev2 rfl rfl) (levitate_unless_ok [] _ (LtL.nil _) (decide ((p_form.length : Int) = (p_p.Noise.length : Int))) 13 r82 hr83) ?_)
  rintro _ wd84 ⟨he85, rfl⟩
  have e86 := e80.trans he85
  have e87 := e81.trans he85
  refine ⟨he85, ?_⟩
  refine TX_e rfl rfl (eff_buildTC (xs := ([r30.2, r76, r82] : List Int)) (cells := [(.int .i64 r30.2), (.int .i64 r76), (.int .i64 r82)]) Try.underlying108 ei30 rfl (pc_cons rfl rfl (pc_cons rfl rfl (pc_cons rfl rfl pc_nil))) rfl (Elems.cons (cs := [(.int .i64 r30.2)]) rfl (Elems.cons (cs := [(.int .i64 r76)]) rfl (Elems.cons (cs := [(.int .i64 r82)]) rfl Elems.nil))) rfl (ltl_box (ltl_box (hL.chg e87) (h68.ext e86)) (hB63.ext e86)) ?_)
  intro b91 wd88 he89 h90
  have e92 := e86.trans he89
  have e93 := e87.trans he89
  refine ⟨he89, ?_⟩
  have hq := bind_elim h
  clear h
  obtain ⟨r95, hr96, h⟩ := hq
  refine TX_e rfl rfl (eff_call Try.func39 nm39 rfl (ev1 rfl) (levitate_first_ok [] _ (LtL.nil _) (.slice (some ⟨b91, 0, none⟩) 3 3) ([r30.2, r76, r82] : List Int) (h90.sub (fun _ h => by cases h)) r95 hr96) ?_)
  rintro _ wd97 ⟨he98, rfl⟩
  have e99 := e92.trans he98
  have e100 := e93.trans he98
  refine ⟨he98, ?_⟩
  refine TX_b rfl rfl (eff_storeC (vs := [(.int .i64 r30.1.LevitatePlant.Den), v34, v36]) (cs' := [(.int .i64 r30.1.LevitatePlant.Den), v34, v36]) sz89 rfl rfl rfl rfl (h68.ext e99) rfl (oc_cons rfl (oc_cons h69.one1 (oc_cons h70.one1 oc_nil))) rfl ?_)
  intro wd101 hc102 hB103
  have h108 := (h69.ext e99).step (Stepp.chg_mem hc102 (memS mem0))
  have h109 := (h70.ext e99).step (Stepp.chg_mem hc102 (memS mem0))
  have e112 := chg_box e100 hc102 hbf23
  refine TX_p (v := (.int .i64 r95)) rfl rfl (fun w' => (yl_assign rfl)) ?_
  refine TX_done ?_
  refine hK72 _ _ ?_
  refine WC_ret ?_
  replace h := some_out h
  subst h
  exact ⟨[(.agg (List.toArray [(.int .i64 r30.1.LevitatePlant.Den), v34, v36])), (.int .i64 r95)], ⟨⟨_, rfl, run_loadVarA (cs := [(.int .i64 r30.1.LevitatePlant.Den), v34, v36]) ag89 (Box.at hB103)⟩, rfl, trivial⟩, e112, [(.int .i64 r30.1.LevitatePlant.Den), v34, v36], rfl, ⟨v34, v36, (h108.sub (sub_skip (sub_skip (sub_refl _)))), (h109.sub (sub_skip (sub_skip (sub_refl _)))), rfl⟩⟩

noncomputable def levitate_plant_run_s0 (el3121 : LevitateSample) (el3174 : (List (List Int))) (p_p : levitate_plant) (x3055 : (List Int)) : ((List Int) × Int) → Option (((List Int) × Int) ⊕ ((List Int))) := fun (x3597, x3609) =>
  (bif (decide (x3609 < (el3174.length : Int))) then (
    (Option.bind (idx el3174 x3609) fun el3714 =>
    (Option.bind (idx el3121.Noise x3609) fun el3726 =>
    (Option.bind (levitate_dot_spec el3714 x3055) fun r3732 =>
    (Option.bind (levitate_floor_spec r3732 p_p.LevitatePlant.Den) fun r3738 =>
    (Option.bind (app x3597 ([w64 (r3738 + el3726)] : List Int)) fun zs3751 =>
    some (.inl (zs3751, w64 (x3609 + 1)))
    )
    )
    )
    )
    )
  ) else (
    some (.inr x3597)
  ))
noncomputable def levitate_plant_run_s1 (p_l : (List LevitateSample)) (p_p : levitate_plant) : (Int × (List (List Int)) × (List Int)) → Option ((Int × (List (List Int)) × (List Int)) ⊕ (((List (List Int)) × Int) ⊕ ((List (List Int))))) := fun (x3035, x3047, x3055) =>
  (bif (decide (x3035 < (p_l.length : Int))) then (
    (Option.bind (idx p_l x3035) fun el3121 =>
    (Option.bind (idx p_p.LevitatePlant.Maps el3121.Map) fun el3174 =>
    (Option.bind (loop (levitate_plant_run_s0 el3121 el3174 p_p x3055) (([] : List Int), 0)) fun (x3662 : (List Int)) =>
    (Option.bind (levitate_allSmall_spec 100000) fun r3842 =>
    (Option.bind (levitate_allSmall_1_spec x3662 r3842) fun r3861 =>
    (bif (!r3861) then (
      some (.inr (.inl (([] : (List (List Int))), 24)))
    ) else (
      (Option.bind (app x3047 ([x3662] : List (List Int))) fun zs3969 =>
      (Option.bind (levitate_allSmall_spec 100000) fun r4045 =>
      (Option.bind (levitate_allSmall_1_spec x3662 r4045) fun r4065 =>
      (bif (!r4065) then (
        some (.inr (.inl (zs3969, 0)))
      ) else (
        some (.inl (w64 (x3035 + 1), zs3969, x3662))
      ))
      )
      )
      )
    ))
    )
    )
    )
    )
    )
  ) else (
    some (.inr (.inr x3047))
  ))
noncomputable def levitate_plant_run_spec (p_p : levitate_plant) (p_x : (List Int)) (p_l : (List LevitateSample)) : Option ((List (List Int)) × Int) :=
  (Option.bind (loop (levitate_plant_run_s1 p_l p_p) (0, ([] : List (List Int)), p_x)) fun o3108 => jn0 o3108 fun (x3092 : (List (List Int))) =>
  some (x3092, 0)
  )
theorem levitate_plant_run_ok (L : List Value) (w : World) (hL : LtL L w) (cs_p_p : List Value) (p_p : levitate_plant) (h_p_p : Rep.rd L w cs_p_p p_p) (v_p_x : Value) (p_x : (List Int)) (h_p_x : SlRd L w v_p_x p_x) (v_p_l : Value) (p_l : (List LevitateSample)) (h_p_l : SlRd L w v_p_l p_l) (r : (List (List Int)) × Int) (h : levitate_plant_run_spec p_p p_x p_l = some r) :
    CallsTo Try.prog 90 [(.agg cs_p_p.toArray), v_p_x, v_p_l] w (fun v w' => Ext w w' ∧ ∃ (v0 : Value), (.tuple #[v0, (.int .i64 r.2)]) = v ∧ SlRd L w' v0 r.1) := by
  have e0 : Ext w w := Chg.refl _ _
  obtain ⟨v1, v3, h2, h4, rfl⟩ := h_p_p
  refine callsTo_of_WD (n := 24) (rs := [.cell 6 47, .cell 7 30]) Try.func90 rfl rfl rfl rfl rfl ?_
  refine WD_seqK fun K9 hK9 => ?_
  refine WD_region rfl ?_
  refine T0_e rfl (eff_boxC (cs := [(.int .i64 p_p.LevitatePlant.Den), v1, v3]) rfl rfl ?_)
  intro b10 wd11 hb12 he13 hB14
  have e16 := e0.trans he13
  refine T0_e rfl (eff_allocZ zi47 ?_)
  intro b18 wd19 hb20 he21 hB22
  have hbf24 := bfresh e16 hb20
  have h25 := (h2.ext he13).step (add_box he21 hb20)
  have h26 := (h4.ext he13).step (add_box he21 hb20)
  have h27 := (h_p_x.ext he13).step (add_box he21 hb20)
  have h28 := (h_p_l.ext he13).step (add_box he21 hb20)
  have e29 := e16.trans he21
  refine T0_e rfl (eff_allocZ zi30 ?_)
  intro b31 wd32 hb33 he34 hB35
  have hn37 : b31 ≠ b18 := box_ne hB22 hb33
  have hbf38 := bfresh e29 hb33
  have h39 := h25.step (add_box he34 hb33)
  have h40 := h26.step (add_box he34 hb33)
  have h41 := h27.step (add_box he34 hb33)
  have h42 := h28.step (add_box he34 hb33)
  have e43 := he21.trans he34
  have e44 := e29.trans he34
  refine T0_nil ?_
  refine hK9 _ _ _ ?_
  refine WD_seqK fun K46 hK46 => ?_
  refine WD_region rfl ?_
  refine T0_e rfl (eff_allocZ zi47 ?_)
  intro b47 wd48 hb49 he50 hB51
  have hn52 : b47 ≠ b10 := box_ne (hB14.ext e43) hb49
  have hn53 : b47 ≠ b18 := box_ne (hB22.ext he34) hb49
  have hn54 : b47 ≠ b31 := box_ne hB35 hb49
  have hbf55 := bfresh e44 hb49
  have h56 := h39.step (add_box he50 hb49)
  have h57 := h40.step (add_box he50 hb49)
  have h58 := h41.step (add_box he50 hb49)
  have h59 := h42.step (add_box he50 hb49)
  have e60 := e43.trans he50
  have e61 := he34.trans he50
  have e62 := e44.trans he50
  refine T0_nil ?_
  refine hK46 _ _ _ ?_
  refine WD_seqK fun K64 hK64 => ?_
  refine WD_seqK fun K65 hK65 => ?_
  refine WD_region rfl ?_
  refine T0_q (v := (.agg (List.toArray [(.int .i64 p_p.LevitatePlant.Den), v1, v3]))) rfl (yl_loadA (cs := [(.int .i64 p_p.LevitatePlant.Den), v1, v3]) ag89 rfl (Box.at (hB14.ext e60))) ?_
  refine T0_q (v := v_p_x) rfl (yl_move rfl) ?_
  refine T0_q (v := v_p_l) rfl (yl_move rfl) ?_
  refine T0_e rfl (eff_inl (nf := 8) (rs := [.tmp 6]) Try.func113 nm113 rfl (ev3 rfl rfl rfl) rfl rfl rfl rfl ?_)
  refine WC_seqK fun K66 hK66 => ?_
  refine WC_region ?_
  refine T0_e rfl (eff_boxC (cs := [(.int .i64 p_p.LevitatePlant.Den), v1, v3]) rfl rfl ?_)
  intro b67 wd68 hb69 he70 hB71
  have hn75 : b67 ≠ b47 := box_ne hB51 hb69
  have e77 := e60.trans he70
  have e78 := e61.trans he70
  have e79 := he50.trans he70
  have e80 := e62.trans he70
  refine T0_e rfl (eff_boxC (cs := [v_p_x]) rfl (cells_one h58.one1) ?_)
  intro b82 wd83 hb84 he85 hB86
  have hn87 : b82 ≠ b10 := box_ne (hB14.ext e77) hb84
  have hn88 : b82 ≠ b18 := box_ne (hB22.ext e78) hb84
  have hn89 : b82 ≠ b31 := box_ne (hB35.ext e79) hb84
  have hn90 : b82 ≠ b47 := box_ne (hB51.ext he70) hb84
  have hn91 : b82 ≠ b67 := box_ne hB71 hb84
  have hbf92 := bfresh e80 hb84
  have h93 := (h56.ext he70).step (add_box he85 hb84)
  have h94 := (h57.ext he70).step (add_box he85 hb84)
  have h95 := (h58.ext he70).step (add_box he85 hb84)
  have h96 := (h59.ext he70).step (add_box he85 hb84)
  have e97 := e77.trans he85
  have e98 := e78.trans he85
  have e99 := e79.trans he85
  have e100 := he70.trans he85
  have e101 := e80.trans he85
  refine T0_e rfl (eff_boxC (cs := [v_p_l]) rfl (cells_one h96.one1) ?_)
  intro b103 wd104 hb105 he106 hB107
  have e115 := e97.trans he106
  have e116 := e98.trans he106
  have e117 := e99.trans he106
  have e118 := e100.trans he106
  have e119 := he85.trans he106
  have e120 := e101.trans he106
  refine T0_q (v := .nilFunc) rfl (yl_assign rfl) ?_
  refine T0_nil ?_
  refine hK66 _ _ ?_
  refine WC_seqK fun K122 hK122 => ?_
  refine WC_region ?_
  refine T0_q (v := (.func (.func 124) #[] (List.toArray [(.pointer (some ⟨b103, 0, none⟩)), (.pointer (some ⟨b67, 0, none⟩)), (.pointer (some ⟨b82, 0, none⟩))]))) rfl (yl_makeFunc (ev3 rfl rfl rfl)) ?_
  refine T0_q (v := (.func (.func 124) #[] (List.toArray [(.pointer (some ⟨b103, 0, none⟩)), (.pointer (some ⟨b67, 0, none⟩)), (.pointer (some ⟨b82, 0, none⟩))]))) rfl (yl_assign rfl) ?_
  refine T0_nil ?_
  refine hK122 _ _ ?_
  refine WC_ret ?_
  refine ⟨[(.func (.func 124) #[] (List.toArray [(.pointer (some ⟨b103, 0, none⟩)), (.pointer (some ⟨b67, 0, none⟩)), (.pointer (some ⟨b82, 0, none⟩))]))], ⟨rfl, trivial⟩, ?_⟩
  refine T0_nil ?_
  refine hK65 _ _ _ ?_
  refine WD_block ?_
  refine WD_rangeFunc (nf := 58) (caps := [(.pointer (some ⟨b103, 0, none⟩)), (.pointer (some ⟨b67, 0, none⟩)), (.pointer (some ⟨b82, 0, none⟩))]) rfl Try.func124 nm124 rfl rfl rfl rfl ?_
  intro fid123 wd124 bl125 bD126 hD127 hl128 he129 h130 h131
  have hq := rec_name h130
  obtain ⟨rc132, hrc133, h134⟩ := hq
  clear h130
  have hn135 : bl125 ≠ b10 := fun e => by have := (hB14.ext e115).lt; omega
  have hn137 : bl125 ≠ b18 := fun e => by have := (hB22.ext e116).lt; omega
  have hn138 : bD126 ≠ b18 := fun e => by have := (hB22.ext e116).lt; omega
  have hn139 : bl125 ≠ b31 := fun e => by have := (hB35.ext e117).lt; omega
  have hn140 : bD126 ≠ b31 := fun e => by have := (hB35.ext e117).lt; omega
  have hn141 : bl125 ≠ b47 := fun e => by have := (hB51.ext e118).lt; omega
  have hn142 : bD126 ≠ b47 := fun e => by have := (hB51.ext e118).lt; omega
  have hn143 : bl125 ≠ b67 := fun e => by have := (hB71.ext e119).lt; omega
  have hn145 : bl125 ≠ b82 := fun e => by have := (hB86.ext he106).lt; omega
  have hn146 : bD126 ≠ b82 := fun e => by have := (hB86.ext he106).lt; omega
  have hn149 : bl125 ≠ bD126 := by omega
  have hbf150 : w.heap.size ≤ bl125 := Nat.le_trans e120.size (by omega)
  have hbf151 : w.heap.size ≤ bD126 := Nat.le_trans e120.size (by omega)
  have h152 := (h93.ext he106).step (add_two he129 hD127 hl128)
  have h153 := (h94.ext he106).step (add_two he129 hD127 hl128)
  have h154 := (h95.ext he106).step (add_two he129 hD127 hl128)
  have h155 := (h96.ext he106).step (add_two he129 hD127 hl128)
  have e156 := e115.trans he129
  have e157 := e116.trans he129
  have e158 := e117.trans he129
  have e159 := e118.trans he129
  have e160 := e119.trans he129
  have e161 := he106.trans he129
  have e162 := e120.trans he129
  refine WC_seqK fun K165 hK165 => ?_
  refine WC_region ?_
  refine T0_q (v := v_p_l) rfl (yl_load sc61 rfl (Box.at (hB107.ext he129))) ?_
  refine T0_q (v := (.int .i64 (p_l.length : Int))) rfl (yl_lenR rfl Try.underlying61 h155 rfl) ?_
  refine T0_q (v := (.int .i64 0)) rfl (yl_move rfl) ?_
  refine T0_nil ?_
  refine hK165 _ _ ?_
  have h3073 := h152.step (add_nil _)
  have h3074 := h153.step (add_nil _)
  have h3075 := h154.step (add_nil _)
  have h3076 := h155.step (add_nil _)
  have h3078 : Own 23 ((.slice none 0 0) :: (.pointer (some ⟨bl125, 0, none⟩)) :: (.pointer (some ⟨bD126, 0, none⟩)) :: (.pointer (some ⟨b82, 0, none⟩)) :: (.pointer (some ⟨b47, 0, none⟩)) :: (.pointer (some ⟨b31, 0, none⟩)) :: (.pointer (some ⟨b18, 0, none⟩)) :: L) wd124 (.slice none 0 0) ([] : List (List Int)) := Own.nil _ _ _
  have hq := bind_elim h
  clear h
  obtain ⟨o3108, hl3109, hn3110⟩ := hq
  refine WC_post (fun (ρ : Env) (wd3080 : World) => ∃ (x3092 : (List (List Int))) (v3091 : Value), .inr x3092 = o3108 ∧ SlRd (v3091 :: (.pointer (some ⟨bl125, 0, none⟩)) :: (.pointer (some ⟨bD126, 0, none⟩)) :: (.pointer (some ⟨b47, 0, none⟩)) :: (.pointer (some ⟨b31, 0, none⟩)) :: (.pointer (some ⟨b18, 0, none⟩)) :: L) wd3080 v1 p_p.LevitatePlant.Maps ∧ SlRd (v3091 :: (.pointer (some ⟨bl125, 0, none⟩)) :: (.pointer (some ⟨bD126, 0, none⟩)) :: (.pointer (some ⟨b47, 0, none⟩)) :: (.pointer (some ⟨b31, 0, none⟩)) :: (.pointer (some ⟨b18, 0, none⟩)) :: L) wd3080 v3 p_p.LevitatePlant.Noise ∧ Box wd3080 b10 [(.int .i64 p_p.LevitatePlant.Den), v1, v3] 89 ∧ Box wd3080 b18 [(.slice none 0 0)] 47 ∧ Box wd3080 b31 [(.int .i64 0)] 30 ∧ Box wd3080 b47 [v3091] 47 ∧ DefAt wd3080 bD126 ∧ RecAt wd3080 bl125 (rc132 .ready none) ∧ Own 23 (v3091 :: (.pointer (some ⟨bl125, 0, none⟩)) :: (.pointer (some ⟨bD126, 0, none⟩)) :: (.pointer (some ⟨b47, 0, none⟩)) :: (.pointer (some ⟨b31, 0, none⟩)) :: (.pointer (some ⟨b18, 0, none⟩)) :: L) wd3080 v3091 x3092 ∧ (∀ b, blk v3091 = some b → w.heap.size ≤ b) ∧ (blk v3091 ≠ some b10) ∧ (blk v3091 ≠ some b18) ∧ (blk v3091 ≠ some b31) ∧ (blk v3091 ≠ some b47) ∧ (blk v3091 ≠ some bD126) ∧ (blk v3091 ≠ some bl125) ∧ Ext w wd3080) ?_ ?_
  · clear hK122 hK165 hK46 hK65 hK66 hK9
    intro K3114 hK3114
    refine WC_block ?_
    refine WC_loopk (fun sv ρ wd3027 => ∃ (x3035 : Int) (x3047 : (List (List Int))) (x3055 : (List Int)) (v3046 : Value) (v3056 : Value), (x3035, x3047, x3055) = sv ∧ ρ 0 = (.func (.yield bl125) #[] #[]) ∧ ρ 2 = (.pointer (some ⟨b67, 0, none⟩)) ∧ ρ 3 = (.pointer (some ⟨b82, 0, none⟩)) ∧ ρ 10 = v_p_l ∧ ρ 11 = (.int .i64 (p_l.length : Int)) ∧ ρ 12 = (.int .i64 x3035) ∧ SlRd (v3046 :: (.pointer (some ⟨bl125, 0, none⟩)) :: (.pointer (some ⟨bD126, 0, none⟩)) :: (.pointer (some ⟨b82, 0, none⟩)) :: (.pointer (some ⟨b47, 0, none⟩)) :: (.pointer (some ⟨b31, 0, none⟩)) :: (.pointer (some ⟨b18, 0, none⟩)) :: L) wd3027 v_p_l p_l ∧ SlRd (v3046 :: (.pointer (some ⟨bl125, 0, none⟩)) :: (.pointer (some ⟨bD126, 0, none⟩)) :: (.pointer (some ⟨b82, 0, none⟩)) :: (.pointer (some ⟨b47, 0, none⟩)) :: (.pointer (some ⟨b31, 0, none⟩)) :: (.pointer (some ⟨b18, 0, none⟩)) :: L) wd3027 v1 p_p.LevitatePlant.Maps ∧ SlRd (v3046 :: (.pointer (some ⟨bl125, 0, none⟩)) :: (.pointer (some ⟨bD126, 0, none⟩)) :: (.pointer (some ⟨b82, 0, none⟩)) :: (.pointer (some ⟨b47, 0, none⟩)) :: (.pointer (some ⟨b31, 0, none⟩)) :: (.pointer (some ⟨b18, 0, none⟩)) :: L) wd3027 v3 p_p.LevitatePlant.Noise ∧ SlRd (v3046 :: (.pointer (some ⟨bl125, 0, none⟩)) :: (.pointer (some ⟨bD126, 0, none⟩)) :: (.pointer (some ⟨b82, 0, none⟩)) :: (.pointer (some ⟨b47, 0, none⟩)) :: (.pointer (some ⟨b31, 0, none⟩)) :: (.pointer (some ⟨b18, 0, none⟩)) :: L) wd3027 v3056 x3055 ∧ Box wd3027 b10 [(.int .i64 p_p.LevitatePlant.Den), v1, v3] 89 ∧ Box wd3027 b18 [(.slice none 0 0)] 47 ∧ Box wd3027 b31 [(.int .i64 0)] 30 ∧ Box wd3027 b47 [v3046] 47 ∧ Box wd3027 b67 [(.int .i64 p_p.LevitatePlant.Den), v1, v3] 89 ∧ Box wd3027 b82 [v3056] 23 ∧ DefAt wd3027 bD126 ∧ RecAt wd3027 bl125 (rc132 .ready none) ∧ Own 23 (v3046 :: (.pointer (some ⟨bl125, 0, none⟩)) :: (.pointer (some ⟨bD126, 0, none⟩)) :: (.pointer (some ⟨b82, 0, none⟩)) :: (.pointer (some ⟨b47, 0, none⟩)) :: (.pointer (some ⟨b31, 0, none⟩)) :: (.pointer (some ⟨b18, 0, none⟩)) :: L) wd3027 v3046 x3047 ∧ (∀ b, blk v3046 = some b → w.heap.size ≤ b) ∧ (blk v3046 ≠ some b10) ∧ (blk v3046 ≠ some b18) ∧ (blk v3046 ≠ some b31) ∧ (blk v3046 ≠ some b47) ∧ (blk v3046 ≠ some b67) ∧ (blk v3046 ≠ some b82) ∧ (blk v3046 ≠ some bD126) ∧ (blk v3046 ≠ some bl125) ∧ Ext w wd3027) hl3109 ⟨0, ([] : List (List Int)), p_x, (.slice none 0 0), v_p_x, rfl, rfl, rfl, rfl, rfl, rfl, rfl, h3076, h3073, h3074, h3075, (hB14.ext e156), (hB22.ext e157), (hB35.ext e158), (hB51.ext e159), (hB71.ext e160), (hB86.ext e161), h131, h134, h3078, (fun b h => blk_nil b h), (fun h => by cases h), (fun h => by cases h), (fun h => by cases h), (fun h => by cases h), (fun h => by cases h), (fun h => by cases h), (fun h => by cases h), (fun h => by cases h), e162⟩ ?_
    rintro _ ρ wd3027 ⟨x3035, x3047, x3055, v3046, v3056, rfl, hs3029, hs3030, hs3031, hs3033, hs3034, hs3036, h3032, h3037, h3038, h3058, hB3040, hB3042, hB3044, hB3052, hB3054, hB3060, hB3062, hB3064, h3049, hf3050, hn3065, hn3066, hn3067, hn3068, hn3069, hn3070, hn3071, hn3072, e3028⟩ x3111 h hx3112 K3113 hK3113
    refine WC_seqK fun K3116 hK3116 => ?_
    refine WC_region ?_
    refine T0_q (v := (.bool (decide (x3035 < (p_l.length : Int))))) rfl (yl_lss hs3036 hs3034) ?_
    refine T0_nil ?_
    refine hK3116 _ _ ?_
    refine WC_seqK fun K3117 hK3117 => ?_
    refine WC_cond (b := (decide (x3035 < (p_l.length : Int)))) rfl (fun hb3118 => ?_) (fun hb3118 => ?_)
    · clear hK3114 hK3116
      replace h := cond_t hb3118 h
      refine WC_skip ?_
      refine hK3117 _ _ ?_
      refine WC_seqK fun K3119 hK3119 => ?_
      refine WC_block ?_
      refine WC_seqK fun K3120 hK3120 => ?_
      refine WC_region ?_
      have hq := bind_elim h
      clear h
      obtain ⟨el3121, hel3122, h⟩ := hq
      have hq := SlRd.at h3032 hel3122
      obtain ⟨cs3125, hat3126, hrd3127⟩ := hq
      obtain ⟨v3123, h3124, rfl⟩ := hrd3127
      refine T0_q (v := (.pointer (some (elemAddr v_p_l (x3035 : Int).toNat 2)))) rfl (yl_indexAddr Try.underlying61 sz70 h3032 hel3122 hs3033 hs3036) ?_
      refine T0_q (v := (.agg (List.toArray [(.int .i64 el3121.Map), v3123]))) rfl (yl_loadA (cs := [(.int .i64 el3121.Map), v3123]) ag70 rfl hat3126) ?_
      refine T0_e rfl (eff_allocZ zi70 ?_)
      intro b3130 wd3131 hb3132 he3133 hB3134
      have hn3135 : b3130 ≠ b10 := box_ne hB3040 hb3132
      have hn3136 : b3130 ≠ b18 := box_ne hB3042 hb3132
      have hn3137 : b3130 ≠ b31 := box_ne hB3044 hb3132
      have hn3138 : b3130 ≠ b47 := box_ne hB3052 hb3132
      have hn3139 : b3130 ≠ b67 := box_ne hB3054 hb3132
      have hn3140 : b3130 ≠ b82 := box_ne hB3060 hb3132
      have hn3141 : b3130 ≠ bD126 := lt_ne hB3062.lt hb3132
      have hn3142 : b3130 ≠ bl125 := lt_ne hB3064.lt hb3132
      have hn3143 : blk v3046 ≠ some b3130 := ne_new_box h3049 hb3132
      have hbf3144 := bfresh e3028 hb3132
      have h3145 := h3032.step (add_box he3133 hb3132)
      have h3146 := h3037.step (add_box he3133 hb3132)
      have h3147 := h3038.step (add_box he3133 hb3132)
      have h3148 := h3049.step (add_box he3133 hb3132) he3133 (fun _ _ => Avoids.nil _)
      have h3149 := h3058.step (add_box he3133 hb3132)
      have h3150 := h3124.step (add_box he3133 hb3132)
      have e3151 := e3028.trans he3133
      refine T0_e rfl (eff_storeC (vs := [(.int .i64 el3121.Map), v3123]) (cs' := [(.int .i64 el3121.Map), v3123]) sz70 rfl rfl rfl rfl hB3134 rfl (oc_cons rfl (oc_cons h3150.one1 oc_nil)) rfl ?_)
      intro wd3153 hc3154 hB3155
      have h3156 := h3145.step (Stepp.chg_mem hc3154 mem0)
      have h3157 := h3146.step (Stepp.chg_mem hc3154 mem0)
      have h3158 := h3147.step (Stepp.chg_mem hc3154 mem0)
      have h3159 := (hB3040.ext he3133).chg hc3154 (avoidb hn3135)
      have h3160 := (hB3042.ext he3133).chg hc3154 (avoidb hn3136)
      have h3161 := (hB3044.ext he3133).chg hc3154 (avoidb hn3137)
      have h3162 := h3148.step (Stepp.chg_mem hc3154 mem0) hc3154 (av_box hn3143)
      have h3163 := (hB3052.ext he3133).chg hc3154 (avoidb hn3138)
      have h3164 := (hB3054.ext he3133).chg hc3154 (avoidb hn3139)
      have h3165 := h3149.step (Stepp.chg_mem hc3154 mem0)
      have h3166 := (hB3060.ext he3133).chg hc3154 (avoidb hn3140)
      have h3167 := (hB3062.ext he3133).chg hc3154 (avoidb hn3141)
      have h3168 := (hB3064.ext he3133).chg hc3154 (avoidb hn3142)
      have h3169 := h3150.step (Stepp.chg_mem hc3154 mem0)
      have e3170 := chg_box e3151 hc3154 hbf3144
      refine T0_nil ?_
      refine hK3120 _ _ ?_
      refine WC_seqK fun K3171 hK3171 => ?_
      refine WC_region ?_
      refine T0_q (v := (.slice none 0 0)) rfl (yl_assign rfl) ?_
      refine T0_nil ?_
      refine hK3171 _ _ ?_
      refine WC_seqK fun K3172 hK3172 => ?_
      refine WC_seqK fun K3173 hK3173 => ?_
      refine WC_region ?_
      refine T0_q (v := (.pointer (some ⟨b67, 0, none⟩))) rfl (yl_fa 0 Try.underlying89 rfl rfl ⟨2, sz25⟩ hs3030 rfl) ?_
      refine T0_q (v := (.pointer (some ⟨b67, 1, none⟩))) rfl (yl_fa 1 Try.underlying25 rfl rfl ⟨0, sz22⟩ rfl rfl) ?_
      refine T0_q (v := v1) rfl (yl_load sc22 rfl (At.drop (Box.at h3164) 1)) ?_
      refine T0_q (v := (.pointer (some ⟨b3130, 0, none⟩))) rfl (yl_fa 0 Try.underlying70 rfl rfl ⟨0, sz3⟩ rfl rfl) ?_
      refine T0_q (v := (.int .i64 el3121.Map)) rfl (yl_load sc3 rfl (Box.at hB3155)) ?_
      have hq := bind_elim h
      clear h
      obtain ⟨el3174, hel3175, h⟩ := hq
      have hq := SlRd.at h3157 hel3175
      obtain ⟨cs3178, hat3179, hrd3180⟩ := hq
      obtain ⟨v3176, rfl, h3177⟩ := hrd3180
      refine T0_q (v := (.pointer (some (elemAddr v1 (el3121.Map : Int).toNat 1)))) rfl (yl_indexAddr Try.underlying22 sz47 h3157 hel3175 rfl rfl) ?_
      refine T0_q (v := v3176) rfl (yl_load sc47 rfl hat3179) ?_
      refine T0_q (v := (.int .i64 (el3174.length : Int))) rfl (yl_lenR rfl Try.underlying47 h3177 rfl) ?_
      refine T0_q (v := (.int .i64 0)) rfl (yl_move rfl) ?_
      refine T0_nil ?_
      refine hK3173 _ _ ?_
      have h3645 := h3156.step (add_nil _)
      have h3646 := h3157.step (add_nil _)
      have h3647 := h3158.step (add_nil _)
      have h3648 := h3162.step (add_nil _) (Chg.refl [] _) (fun _ _ => Avoids.nil _)
      have h3649 := h3165.step (add_nil _)
      have h3650 := h3169.step (add_nil _)
      have h3651 := h3177.step (add_nil _)
      have h3653 : Own 3 ((.slice none 0 0) :: (.pointer (some ⟨b3130, 0, none⟩)) :: v3046 :: (.pointer (some ⟨bl125, 0, none⟩)) :: (.pointer (some ⟨bD126, 0, none⟩)) :: (.pointer (some ⟨b82, 0, none⟩)) :: (.pointer (some ⟨b47, 0, none⟩)) :: (.pointer (some ⟨b31, 0, none⟩)) :: (.pointer (some ⟨b18, 0, none⟩)) :: L) wd3153 (.slice none 0 0) ([] : List Int) := Own.nil _ _ _
      have hq := bind_elim h
      clear h
      obtain ⟨o3701, hl3702, hn3703⟩ := hq
      refine WC_post (fun (ρ : Env) (wd3655 : World) => ∃ (x3662 : (List Int)) (v3661 : Value), x3662 = o3701 ∧ ρ 0 = (.func (.yield bl125) #[] #[]) ∧ ρ 2 = (.pointer (some ⟨b67, 0, none⟩)) ∧ ρ 3 = (.pointer (some ⟨b82, 0, none⟩)) ∧ ρ 7 = v3661 ∧ ρ 10 = v_p_l ∧ ρ 11 = (.int .i64 (p_l.length : Int)) ∧ ρ 12 = (.int .i64 x3035) ∧ SlRd (v3661 :: v3046 :: (.pointer (some ⟨bl125, 0, none⟩)) :: (.pointer (some ⟨bD126, 0, none⟩)) :: (.pointer (some ⟨b82, 0, none⟩)) :: (.pointer (some ⟨b47, 0, none⟩)) :: (.pointer (some ⟨b31, 0, none⟩)) :: (.pointer (some ⟨b18, 0, none⟩)) :: L) wd3655 v_p_l p_l ∧ SlRd (v3661 :: v3046 :: (.pointer (some ⟨bl125, 0, none⟩)) :: (.pointer (some ⟨bD126, 0, none⟩)) :: (.pointer (some ⟨b82, 0, none⟩)) :: (.pointer (some ⟨b47, 0, none⟩)) :: (.pointer (some ⟨b31, 0, none⟩)) :: (.pointer (some ⟨b18, 0, none⟩)) :: L) wd3655 v1 p_p.LevitatePlant.Maps ∧ SlRd (v3661 :: v3046 :: (.pointer (some ⟨bl125, 0, none⟩)) :: (.pointer (some ⟨bD126, 0, none⟩)) :: (.pointer (some ⟨b82, 0, none⟩)) :: (.pointer (some ⟨b47, 0, none⟩)) :: (.pointer (some ⟨b31, 0, none⟩)) :: (.pointer (some ⟨b18, 0, none⟩)) :: L) wd3655 v3 p_p.LevitatePlant.Noise ∧ SlRd (v3661 :: v3046 :: (.pointer (some ⟨bl125, 0, none⟩)) :: (.pointer (some ⟨bD126, 0, none⟩)) :: (.pointer (some ⟨b82, 0, none⟩)) :: (.pointer (some ⟨b47, 0, none⟩)) :: (.pointer (some ⟨b31, 0, none⟩)) :: (.pointer (some ⟨b18, 0, none⟩)) :: L) wd3655 v3056 x3055 ∧ Box wd3655 b10 [(.int .i64 p_p.LevitatePlant.Den), v1, v3] 89 ∧ Box wd3655 b18 [(.slice none 0 0)] 47 ∧ Box wd3655 b31 [(.int .i64 0)] 30 ∧ Box wd3655 b47 [v3046] 47 ∧ Box wd3655 b67 [(.int .i64 p_p.LevitatePlant.Den), v1, v3] 89 ∧ Box wd3655 b82 [v3056] 23 ∧ DefAt wd3655 bD126 ∧ RecAt wd3655 bl125 (rc132 .ready none) ∧ Own 3 (v3661 :: v3046 :: (.pointer (some ⟨bl125, 0, none⟩)) :: (.pointer (some ⟨bD126, 0, none⟩)) :: (.pointer (some ⟨b82, 0, none⟩)) :: (.pointer (some ⟨b47, 0, none⟩)) :: (.pointer (some ⟨b31, 0, none⟩)) :: (.pointer (some ⟨b18, 0, none⟩)) :: L) wd3655 v3661 x3662 ∧ Own 23 (v3661 :: v3046 :: (.pointer (some ⟨bl125, 0, none⟩)) :: (.pointer (some ⟨bD126, 0, none⟩)) :: (.pointer (some ⟨b82, 0, none⟩)) :: (.pointer (some ⟨b47, 0, none⟩)) :: (.pointer (some ⟨b31, 0, none⟩)) :: (.pointer (some ⟨b18, 0, none⟩)) :: L) wd3655 v3046 x3047 ∧ (∀ b, blk v3661 = some b → w.heap.size ≤ b) ∧ (blk v3661 ≠ some b10) ∧ (blk v3661 ≠ some b18) ∧ (blk v3661 ≠ some b31) ∧ (blk v3661 ≠ some b47) ∧ (blk v3661 ≠ some b67) ∧ (blk v3661 ≠ some b82) ∧ (blk v3661 ≠ some bD126) ∧ (blk v3661 ≠ some bl125) ∧ (∀ b, blk v3661 = some b → blk v3046 ≠ some b) ∧ Ext w wd3655) ?_ ?_
      · clear hK3113 hK3117 hK3119 hK3120 hK3171 hK3172 hK3173 hK64
        intro K3707 hK3707
        refine WC_block ?_
        refine WC_loopk (fun sv ρ wd3589 => ∃ (x3597 : (List Int)) (x3609 : Int) (v3596 : Value), (x3597, x3609) = sv ∧ ρ 0 = (.func (.yield bl125) #[] #[]) ∧ ρ 2 = (.pointer (some ⟨b67, 0, none⟩)) ∧ ρ 3 = (.pointer (some ⟨b82, 0, none⟩)) ∧ ρ 6 = (.pointer (some ⟨b3130, 0, none⟩)) ∧ ρ 7 = v3596 ∧ ρ 10 = v_p_l ∧ ρ 11 = (.int .i64 (p_l.length : Int)) ∧ ρ 12 = (.int .i64 x3035) ∧ ρ 22 = v3176 ∧ ρ 23 = (.int .i64 (el3174.length : Int)) ∧ ρ 24 = (.int .i64 x3609) ∧ SlRd (v3596 :: v3046 :: (.pointer (some ⟨b3130, 0, none⟩)) :: (.pointer (some ⟨bl125, 0, none⟩)) :: (.pointer (some ⟨bD126, 0, none⟩)) :: (.pointer (some ⟨b82, 0, none⟩)) :: (.pointer (some ⟨b47, 0, none⟩)) :: (.pointer (some ⟨b31, 0, none⟩)) :: (.pointer (some ⟨b18, 0, none⟩)) :: L) wd3589 v_p_l p_l ∧ SlRd (v3596 :: v3046 :: (.pointer (some ⟨b3130, 0, none⟩)) :: (.pointer (some ⟨bl125, 0, none⟩)) :: (.pointer (some ⟨bD126, 0, none⟩)) :: (.pointer (some ⟨b82, 0, none⟩)) :: (.pointer (some ⟨b47, 0, none⟩)) :: (.pointer (some ⟨b31, 0, none⟩)) :: (.pointer (some ⟨b18, 0, none⟩)) :: L) wd3589 v3176 el3174 ∧ SlRd (v3596 :: v3046 :: (.pointer (some ⟨b3130, 0, none⟩)) :: (.pointer (some ⟨bl125, 0, none⟩)) :: (.pointer (some ⟨bD126, 0, none⟩)) :: (.pointer (some ⟨b82, 0, none⟩)) :: (.pointer (some ⟨b47, 0, none⟩)) :: (.pointer (some ⟨b31, 0, none⟩)) :: (.pointer (some ⟨b18, 0, none⟩)) :: L) wd3589 v1 p_p.LevitatePlant.Maps ∧ SlRd (v3596 :: v3046 :: (.pointer (some ⟨b3130, 0, none⟩)) :: (.pointer (some ⟨bl125, 0, none⟩)) :: (.pointer (some ⟨bD126, 0, none⟩)) :: (.pointer (some ⟨b82, 0, none⟩)) :: (.pointer (some ⟨b47, 0, none⟩)) :: (.pointer (some ⟨b31, 0, none⟩)) :: (.pointer (some ⟨b18, 0, none⟩)) :: L) wd3589 v3 p_p.LevitatePlant.Noise ∧ SlRd (v3596 :: v3046 :: (.pointer (some ⟨b3130, 0, none⟩)) :: (.pointer (some ⟨bl125, 0, none⟩)) :: (.pointer (some ⟨bD126, 0, none⟩)) :: (.pointer (some ⟨b82, 0, none⟩)) :: (.pointer (some ⟨b47, 0, none⟩)) :: (.pointer (some ⟨b31, 0, none⟩)) :: (.pointer (some ⟨b18, 0, none⟩)) :: L) wd3589 v3123 el3121.Noise ∧ SlRd (v3596 :: v3046 :: (.pointer (some ⟨b3130, 0, none⟩)) :: (.pointer (some ⟨bl125, 0, none⟩)) :: (.pointer (some ⟨bD126, 0, none⟩)) :: (.pointer (some ⟨b82, 0, none⟩)) :: (.pointer (some ⟨b47, 0, none⟩)) :: (.pointer (some ⟨b31, 0, none⟩)) :: (.pointer (some ⟨b18, 0, none⟩)) :: L) wd3589 v3056 x3055 ∧ Box wd3589 b10 [(.int .i64 p_p.LevitatePlant.Den), v1, v3] 89 ∧ Box wd3589 b18 [(.slice none 0 0)] 47 ∧ Box wd3589 b31 [(.int .i64 0)] 30 ∧ Box wd3589 b3130 [(.int .i64 el3121.Map), v3123] 70 ∧ Box wd3589 b47 [v3046] 47 ∧ Box wd3589 b67 [(.int .i64 p_p.LevitatePlant.Den), v1, v3] 89 ∧ Box wd3589 b82 [v3056] 23 ∧ DefAt wd3589 bD126 ∧ RecAt wd3589 bl125 (rc132 .ready none) ∧ Own 3 (v3596 :: v3046 :: (.pointer (some ⟨b3130, 0, none⟩)) :: (.pointer (some ⟨bl125, 0, none⟩)) :: (.pointer (some ⟨bD126, 0, none⟩)) :: (.pointer (some ⟨b82, 0, none⟩)) :: (.pointer (some ⟨b47, 0, none⟩)) :: (.pointer (some ⟨b31, 0, none⟩)) :: (.pointer (some ⟨b18, 0, none⟩)) :: L) wd3589 v3596 x3597 ∧ Own 23 (v3596 :: v3046 :: (.pointer (some ⟨b3130, 0, none⟩)) :: (.pointer (some ⟨bl125, 0, none⟩)) :: (.pointer (some ⟨bD126, 0, none⟩)) :: (.pointer (some ⟨b82, 0, none⟩)) :: (.pointer (some ⟨b47, 0, none⟩)) :: (.pointer (some ⟨b31, 0, none⟩)) :: (.pointer (some ⟨b18, 0, none⟩)) :: L) wd3589 v3046 x3047 ∧ (∀ b, blk v3596 = some b → w.heap.size ≤ b) ∧ (blk v3596 ≠ some b10) ∧ (blk v3596 ≠ some b18) ∧ (blk v3596 ≠ some b31) ∧ (blk v3596 ≠ some b3130) ∧ (blk v3596 ≠ some b47) ∧ (blk v3596 ≠ some b67) ∧ (blk v3596 ≠ some b82) ∧ (blk v3596 ≠ some bD126) ∧ (blk v3596 ≠ some bl125) ∧ (∀ b, blk v3596 = some b → blk v3046 ≠ some b) ∧ Ext w wd3589) hl3702 ⟨([] : List Int), 0, (.slice none 0 0), rfl, hs3029, hs3030, hs3031, rfl, rfl, hs3033, hs3034, hs3036, rfl, rfl, rfl, (h3645.sub (sub_cons mem0 (sub_cons (memS (memS mem0)) (sub_cons (memS mem0) (sub_cons (memS (memS (memS mem0))) (sub_cons (memS (memS (memS (memS mem0)))) (sub_cons (memS (memS (memS (memS (memS mem0))))) (sub_cons (memS (memS (memS (memS (memS (memS mem0)))))) (sub_cons (memS (memS (memS (memS (memS (memS (memS mem0))))))) (sub_cons (memS (memS (memS (memS (memS (memS (memS (memS mem0)))))))) (sub_skip (sub_skip (sub_skip (sub_skip (sub_skip (sub_skip (sub_skip (sub_skip (sub_skip (sub_refl _)))))))))))))))))))), (h3651.sub (sub_cons mem0 (sub_cons (memS (memS mem0)) (sub_cons (memS mem0) (sub_cons (memS (memS (memS mem0))) (sub_cons (memS (memS (memS (memS mem0)))) (sub_cons (memS (memS (memS (memS (memS mem0))))) (sub_cons (memS (memS (memS (memS (memS (memS mem0)))))) (sub_cons (memS (memS (memS (memS (memS (memS (memS mem0))))))) (sub_cons (memS (memS (memS (memS (memS (memS (memS (memS mem0)))))))) (sub_skip (sub_skip (sub_skip (sub_skip (sub_skip (sub_skip (sub_skip (sub_skip (sub_skip (sub_refl _)))))))))))))))))))), (h3646.sub (sub_cons mem0 (sub_cons (memS (memS mem0)) (sub_cons (memS mem0) (sub_cons (memS (memS (memS mem0))) (sub_cons (memS (memS (memS (memS mem0)))) (sub_cons (memS (memS (memS (memS (memS mem0))))) (sub_cons (memS (memS (memS (memS (memS (memS mem0)))))) (sub_cons (memS (memS (memS (memS (memS (memS (memS mem0))))))) (sub_cons (memS (memS (memS (memS (memS (memS (memS (memS mem0)))))))) (sub_skip (sub_skip (sub_skip (sub_skip (sub_skip (sub_skip (sub_skip (sub_skip (sub_skip (sub_refl _)))))))))))))))))))), (h3647.sub (sub_cons mem0 (sub_cons (memS (memS mem0)) (sub_cons (memS mem0) (sub_cons (memS (memS (memS mem0))) (sub_cons (memS (memS (memS (memS mem0)))) (sub_cons (memS (memS (memS (memS (memS mem0))))) (sub_cons (memS (memS (memS (memS (memS (memS mem0)))))) (sub_cons (memS (memS (memS (memS (memS (memS (memS mem0))))))) (sub_cons (memS (memS (memS (memS (memS (memS (memS (memS mem0)))))))) (sub_skip (sub_skip (sub_skip (sub_skip (sub_skip (sub_skip (sub_skip (sub_skip (sub_skip (sub_refl _)))))))))))))))))))), (h3650.sub (sub_cons mem0 (sub_cons (memS (memS mem0)) (sub_cons (memS mem0) (sub_cons (memS (memS (memS mem0))) (sub_cons (memS (memS (memS (memS mem0)))) (sub_cons (memS (memS (memS (memS (memS mem0))))) (sub_cons (memS (memS (memS (memS (memS (memS mem0)))))) (sub_cons (memS (memS (memS (memS (memS (memS (memS mem0))))))) (sub_cons (memS (memS (memS (memS (memS (memS (memS (memS mem0)))))))) (sub_skip (sub_skip (sub_skip (sub_skip (sub_skip (sub_skip (sub_skip (sub_skip (sub_skip (sub_refl _)))))))))))))))))))), (h3649.sub (sub_cons mem0 (sub_cons (memS (memS mem0)) (sub_cons (memS mem0) (sub_cons (memS (memS (memS mem0))) (sub_cons (memS (memS (memS (memS mem0)))) (sub_cons (memS (memS (memS (memS (memS mem0))))) (sub_cons (memS (memS (memS (memS (memS (memS mem0)))))) (sub_cons (memS (memS (memS (memS (memS (memS (memS mem0))))))) (sub_cons (memS (memS (memS (memS (memS (memS (memS (memS mem0)))))))) (sub_skip (sub_skip (sub_skip (sub_skip (sub_skip (sub_skip (sub_skip (sub_skip (sub_skip (sub_refl _)))))))))))))))))))), h3159, h3160, h3161, hB3155, h3163, h3164, h3166, h3167, h3168, (h3653.sub (sub_cons mem0 (sub_cons (memS (memS mem0)) (sub_cons (memS mem0) (sub_cons (memS (memS (memS mem0))) (sub_cons (memS (memS (memS (memS mem0)))) (sub_cons (memS (memS (memS (memS (memS mem0))))) (sub_cons (memS (memS (memS (memS (memS (memS mem0)))))) (sub_cons (memS (memS (memS (memS (memS (memS (memS mem0))))))) (sub_cons (memS (memS (memS (memS (memS (memS (memS (memS mem0)))))))) (sub_skip (sub_skip (sub_skip (sub_skip (sub_skip (sub_skip (sub_skip (sub_skip (sub_skip (sub_refl _)))))))))))))))))))), (h3648.sub (sub_cons mem0 (sub_cons (memS (memS mem0)) (sub_cons (memS mem0) (sub_cons (memS (memS (memS mem0))) (sub_cons (memS (memS (memS (memS mem0)))) (sub_cons (memS (memS (memS (memS (memS mem0))))) (sub_cons (memS (memS (memS (memS (memS (memS mem0)))))) (sub_cons (memS (memS (memS (memS (memS (memS (memS mem0))))))) (sub_cons (memS (memS (memS (memS (memS (memS (memS (memS mem0)))))))) (sub_skip (sub_skip (sub_skip (sub_skip (sub_skip (sub_skip (sub_skip (sub_skip (sub_skip (sub_refl _)))))))))))))))))))), (fun b h => blk_nil b h), (fun h => by cases h), (fun h => by cases h), (fun h => by cases h), (fun h => by cases h), (fun h => by cases h), (fun h => by cases h), (fun h => by cases h), (fun h => by cases h), (fun h => by cases h), (fun b h => blk_nil b h), e3170⟩ ?_
        rintro _ ρ wd3589 ⟨x3597, x3609, v3596, rfl, hs3591, hs3592, hs3593, hs3594, hs3601, hs3603, hs3604, hs3605, hs3607, hs3608, hs3610, h3602, h3606, h3611, h3612, h3619, h3628, hB3614, hB3616, hB3618, hB3621, hB3625, hB3627, hB3630, hB3632, hB3634, h3599, h3623, hf3600, hn3635, hn3636, hn3637, hn3638, hn3639, hn3640, hn3641, hn3642, hn3643, hn3644, e3590⟩ x3704 h hx3705 K3706 hK3706
        refine WC_seqK fun K3709 hK3709 => ?_
        refine WC_region ?_
        refine T0_q (v := (.bool (decide (x3609 < (el3174.length : Int))))) rfl (yl_lss hs3610 hs3608) ?_
        refine T0_nil ?_
        refine hK3709 _ _ ?_
        refine WC_seqK fun K3710 hK3710 => ?_
        refine WC_cond (b := (decide (x3609 < (el3174.length : Int)))) rfl (fun hb3711 => ?_) (fun hb3711 => ?_)
        · clear hK3707 hK3709
          replace h := cond_t hb3711 h
          refine WC_skip ?_
          refine hK3710 _ _ ?_
          refine WC_seqK fun K3712 hK3712 => ?_
          refine WC_block ?_
          refine WC_seqK fun K3713 hK3713 => ?_
          refine WC_region ?_
          refine T0_q (v := (.int .i64 x3609)) rfl (yl_move hs3610) ?_
          have hq := bind_elim h
          clear h
          obtain ⟨el3714, hel3715, h⟩ := hq
          have hq := SlRd.at h3606 hel3715
          obtain ⟨cs3718, hat3719, hrd3720⟩ := hq
          obtain ⟨v3716, rfl, h3717⟩ := hrd3720
          refine T0_q (v := (.pointer (some (elemAddr v3176 (x3609 : Int).toNat 1)))) rfl (yl_indexAddr Try.underlying47 sz23 h3606 hel3715 hs3607 hs3610) ?_
          refine T0_q (v := v3716) rfl (yl_load sc23 rfl hat3719) ?_
          refine T0_q (v := (.int .i64 x3609)) rfl (yl_assign rfl) ?_
          refine T0_q (v := v3716) rfl (yl_assign rfl) ?_
          refine T0_nil ?_
          refine hK3713 _ _ ?_
          refine WC_planX mixed (.p 0 (.p 1 (.p 4 (.p 5 (.p 8 (.p 10 (.q 2 (.q 6 (.q 9 (.p 11 (.q 12 (.e 3 (.e 7 (.p 13 (.e 14 (.b 15 (.p 16 .done))))))))))))))))) (by kernel_rfl) ?_
          intro wd3723 he3724
          have e3725 := e3590.trans he3724
          refine TX_p (v := v3596) rfl rfl (fun w' => (yl_move hs3601)) ?_
          refine TX_p (v := v3716) rfl rfl (fun w' => (yl_move rfl)) ?_
          refine TX_p (v := (.pointer (some ⟨b67, 0, none⟩))) rfl rfl (fun w' => (yl_fa 0 Try.underlying89 rfl rfl ⟨2, sz25⟩ hs3592 rfl)) ?_
          refine TX_p (v := (.pointer (some ⟨b67, 0, none⟩))) rfl rfl (fun w' => (yl_fa 0 Try.underlying25 rfl rfl ⟨0, sz3⟩ rfl rfl)) ?_
          refine TX_p (v := (.pointer (some ⟨b3130, 1, none⟩))) rfl rfl (fun w' => (yl_fa 1 Try.underlying70 rfl rfl ⟨0, sz23⟩ hs3594 rfl)) ?_
          refine TX_p (v := (.int .i64 x3609)) rfl rfl (fun w' => (yl_move rfl)) ?_
          refine TX_q (v := v3056) rfl rfl (fun w' hS => (yl_load sc23 hs3593 (Box.at (hB3630.ext (he3724.trans hS))))) ?_
          refine TX_q (v := (.int .i64 p_p.LevitatePlant.Den)) rfl rfl (fun w' hS => (yl_load sc3 rfl (Box.at (hB3627.ext (he3724.trans hS))))) ?_
          refine TX_q (v := v3123) rfl rfl (fun w' hS => (yl_load sc23 rfl (At.drop (Box.at (hB3621.ext (he3724.trans hS))) 1))) ?_
          have hq := bind_elim h
          clear h
          obtain ⟨el3726, hel3727, h⟩ := hq
          have hq := SlRd.at h3619 hel3727
          obtain ⟨cs3728, hat3729, hrd3730⟩ := hq
          have hrd3730 : cs3728 = [(.int .i64 el3726)] := hrd3730
          subst hrd3730
          refine TX_p (v := (.pointer (some (elemAddr v3123 (x3609 : Int).toNat 1)))) rfl rfl (fun w' => (yl_indexAddr Try.underlying23 sz3 h3619 hel3727 rfl rfl)) ?_
          refine TX_q (v := (.int .i64 el3726)) rfl rfl (fun w' hS => (yl_load sc3 rfl (hat3729.ext' (he3724.trans hS)))) ?_
          have hq := bind_elim h
          clear h
          obtain ⟨r3732, hr3733, h⟩ := hq
          refine TX_e rfl rfl (eff_call Try.func106 nm106 rfl (ev2 rfl rfl) (levitate_dot_ok [] _ (LtL.nil _) v3716 el3714 ((h3717.ext he3724).sub (fun _ h => by cases h)) v3056 x3055 ((h3628.ext he3724).sub (fun _ h => by cases h)) r3732 hr3733) ?_)
          rintro _ wd3734 ⟨he3735, rfl⟩
          have e3736 := he3724.trans he3735
          have e3737 := e3725.trans he3735
          refine ⟨he3735, ?_⟩
          have hq := bind_elim h
          clear h
          obtain ⟨r3738, hr3739, h⟩ := hq
          refine TX_e rfl rfl (eff_call Try.func66 nm66 rfl (ev2 rfl rfl) (levitate_floor_ok [] _ (LtL.nil _) r3732 p_p.LevitatePlant.Den r3738 hr3739) ?_)
          rintro _ wd3740 ⟨he3741, rfl⟩
          have e3742 := e3736.trans he3741
          have e3743 := e3737.trans he3741
          refine ⟨he3741, ?_⟩
          refine TX_p (v := (.int .i64 (w64 (r3738 + el3726)))) rfl rfl (fun w' => (yl_add rfl rfl)) ?_
          refine TX_e rfl rfl (eff_buildTC (xs := ([w64 (r3738 + el3726)] : List Int)) (cells := [(.int .i64 (w64 (r3738 + el3726)))]) Try.underlying23 ei3 rfl (pc_cons rfl rfl pc_nil) rfl (Elems.cons (cs := [(.int .i64 (w64 (r3738 + el3726)))]) rfl Elems.nil) rfl (ltl_own (ltl_own (ltl_box (ltl_lt (ltl_lt (ltl_box (ltl_box (ltl_box (ltl_box (hL.chg e3743) (hB3616.ext e3742)) (hB3618.ext e3742)) (hB3625.ext e3742)) (hB3630.ext e3742)) (hB3632.ext e3742).lt) (hB3634.ext e3742).lt) (hB3621.ext e3742)) (h3623.ext e3742)) (h3599.ext e3742)) ?_)
          intro b3747 wd3744 he3745 h3746
          have e3748 := e3742.trans he3745
          have e3749 := e3743.trans he3745
          refine ⟨he3745, ?_⟩
          have hq := bind_elim h
          clear h
          obtain ⟨zs3751, hz3752, h⟩ := hq
          refine TX_b rfl rfl (eff_app Try.underlying23 ei3 rfl rfl rfl rfl (h3599.ext e3748) h3746 hz3752 ?_)
          intro v3753 wd3754 hc3755 hbl3756 h3757
          have hn3759 : blk v3753 ≠ some b10 := ne_swap hbl3756 hn3635 (hB3614.ext e3748)
          have hn3760 : blk v3753 ≠ some b18 := ne_swap hbl3756 hn3636 (hB3616.ext e3748)
          have hn3761 : blk v3753 ≠ some b31 := ne_swap hbl3756 hn3637 (hB3618.ext e3748)
          have hn3762 : blk v3753 ≠ some b3130 := ne_swap hbl3756 hn3638 (hB3621.ext e3748)
          have hn3763 : blk v3753 ≠ some b47 := ne_swap hbl3756 hn3639 (hB3625.ext e3748)
          have hn3764 : blk v3753 ≠ some b67 := ne_swap hbl3756 hn3640 (hB3627.ext e3748)
          have hn3765 : blk v3753 ≠ some b82 := ne_swap hbl3756 hn3641 (hB3630.ext e3748)
          have hn3766 : blk v3753 ≠ some bD126 := ne_swapL hbl3756 hn3642 (hB3632.ext e3748).lt
          have hn3767 : blk v3753 ≠ some bl125 := ne_swapL hbl3756 hn3643 (hB3634.ext e3748).lt
          have hn3768 := dj_swap hbl3756 (dj_symm hn3644) (h3623.ext e3748)
          have hf3769 := fresh_swap hbl3756 hf3600 e3749.size
          have h3770 := (h3602.ext e3748).step (Stepp.swap hc3755 hbl3756)
          have h3771 := (h3606.ext e3748).step (Stepp.swap hc3755 hbl3756)
          have h3772 := (h3611.ext e3748).step (Stepp.swap hc3755 hbl3756)
          have h3773 := (h3612.ext e3748).step (Stepp.swap hc3755 hbl3756)
          have h3774 := (hB3614.ext e3748).chg hc3755 (avoid1 hn3635)
          have h3775 := (hB3616.ext e3748).chg hc3755 (avoid1 hn3636)
          have h3776 := (hB3618.ext e3748).chg hc3755 (avoid1 hn3637)
          have h3777 := (h3619.ext e3748).step (Stepp.swap hc3755 hbl3756)
          have h3778 := (hB3621.ext e3748).chg hc3755 (avoid1 hn3638)
          have h3779 := (h3623.ext e3748).step (Stepp.swap hc3755 hbl3756) hc3755 (av_own (dj_symm hn3644))
          have h3780 := (hB3625.ext e3748).chg hc3755 (avoid1 hn3639)
          have h3781 := (hB3627.ext e3748).chg hc3755 (avoid1 hn3640)
          have h3782 := (h3628.ext e3748).step (Stepp.swap hc3755 hbl3756)
          have h3783 := (hB3630.ext e3748).chg hc3755 (avoid1 hn3641)
          have h3784 := (hB3632.ext e3748).chg hc3755 (avoid1 hn3642)
          have h3785 := (hB3634.ext e3748).chg hc3755 (avoid1 hn3643)
          have e3788 := chg_own e3749 hc3755 hf3600
          refine TX_p (v := v3753) rfl rfl (fun w' => (yl_assign rfl)) ?_
          refine TX_done ?_
          refine hK3712 _ _ ?_
          refine WC_region ?_
          refine T0_q (v := (.int .i64 (w64 (x3609 + 1)))) rfl (yl_add hs3610 rfl) ?_
          refine T0_q (v := (.int .i64 (w64 (x3609 + 1)))) rfl (yl_move rfl) ?_
          refine T0_nil ?_
          replace h := some_out h
          subst h
          refine hK3706 _ _ _ rfl ?_
          exact ⟨zs3751, w64 (x3609 + 1), v3753, rfl, hs3591, hs3592, hs3593, hs3594, rfl, hs3603, hs3604, hs3605, hs3607, hs3608, rfl, h3770, h3771, h3772, h3773, h3777, h3782, h3774, h3775, h3776, h3778, h3780, h3781, h3783, h3784, h3785, h3757, h3779, hf3769, hn3759, hn3760, hn3761, hn3762, hn3763, hn3764, hn3765, hn3766, hn3767, (dj_symm hn3768), e3788⟩
        · clear hK3706 hK3709 hK3710
          replace h := cond_f hb3711 h
          refine WC_exit ?_
          replace h := some_out h
          subst h
          have ho := hx3705 _ rfl
          subst ho
          refine hK3707 _ _ ?_
          exact ⟨x3597, v3596, rfl, hs3591, hs3592, hs3593, hs3601, hs3603, hs3604, hs3605, (h3602.sub (sub_cons mem0 (sub_cons (memS mem0) (sub_cons (memS (memS (memS mem0))) (sub_cons (memS (memS (memS (memS mem0)))) (sub_cons (memS (memS (memS (memS (memS mem0))))) (sub_cons (memS (memS (memS (memS (memS (memS mem0)))))) (sub_cons (memS (memS (memS (memS (memS (memS (memS mem0))))))) (sub_cons (memS (memS (memS (memS (memS (memS (memS (memS mem0)))))))) (sub_skip (sub_skip (sub_skip (sub_skip (sub_skip (sub_skip (sub_skip (sub_skip (sub_skip (sub_refl _))))))))))))))))))), (h3611.sub (sub_cons mem0 (sub_cons (memS mem0) (sub_cons (memS (memS (memS mem0))) (sub_cons (memS (memS (memS (memS mem0)))) (sub_cons (memS (memS (memS (memS (memS mem0))))) (sub_cons (memS (memS (memS (memS (memS (memS mem0)))))) (sub_cons (memS (memS (memS (memS (memS (memS (memS mem0))))))) (sub_cons (memS (memS (memS (memS (memS (memS (memS (memS mem0)))))))) (sub_skip (sub_skip (sub_skip (sub_skip (sub_skip (sub_skip (sub_skip (sub_skip (sub_skip (sub_refl _))))))))))))))))))), (h3612.sub (sub_cons mem0 (sub_cons (memS mem0) (sub_cons (memS (memS (memS mem0))) (sub_cons (memS (memS (memS (memS mem0)))) (sub_cons (memS (memS (memS (memS (memS mem0))))) (sub_cons (memS (memS (memS (memS (memS (memS mem0)))))) (sub_cons (memS (memS (memS (memS (memS (memS (memS mem0))))))) (sub_cons (memS (memS (memS (memS (memS (memS (memS (memS mem0)))))))) (sub_skip (sub_skip (sub_skip (sub_skip (sub_skip (sub_skip (sub_skip (sub_skip (sub_skip (sub_refl _))))))))))))))))))), (h3628.sub (sub_cons mem0 (sub_cons (memS mem0) (sub_cons (memS (memS (memS mem0))) (sub_cons (memS (memS (memS (memS mem0)))) (sub_cons (memS (memS (memS (memS (memS mem0))))) (sub_cons (memS (memS (memS (memS (memS (memS mem0)))))) (sub_cons (memS (memS (memS (memS (memS (memS (memS mem0))))))) (sub_cons (memS (memS (memS (memS (memS (memS (memS (memS mem0)))))))) (sub_skip (sub_skip (sub_skip (sub_skip (sub_skip (sub_skip (sub_skip (sub_skip (sub_skip (sub_refl _))))))))))))))))))), hB3614, hB3616, hB3618, hB3625, hB3627, hB3630, hB3632, hB3634, (h3599.sub (sub_cons mem0 (sub_cons (memS mem0) (sub_cons (memS (memS (memS mem0))) (sub_cons (memS (memS (memS (memS mem0)))) (sub_cons (memS (memS (memS (memS (memS mem0))))) (sub_cons (memS (memS (memS (memS (memS (memS mem0)))))) (sub_cons (memS (memS (memS (memS (memS (memS (memS mem0))))))) (sub_cons (memS (memS (memS (memS (memS (memS (memS (memS mem0)))))))) (sub_skip (sub_skip (sub_skip (sub_skip (sub_skip (sub_skip (sub_skip (sub_skip (sub_skip (sub_refl _))))))))))))))))))), (h3623.sub (sub_cons mem0 (sub_cons (memS mem0) (sub_cons (memS (memS (memS mem0))) (sub_cons (memS (memS (memS (memS mem0)))) (sub_cons (memS (memS (memS (memS (memS mem0))))) (sub_cons (memS (memS (memS (memS (memS (memS mem0)))))) (sub_cons (memS (memS (memS (memS (memS (memS (memS mem0))))))) (sub_cons (memS (memS (memS (memS (memS (memS (memS (memS mem0)))))))) (sub_skip (sub_skip (sub_skip (sub_skip (sub_skip (sub_skip (sub_skip (sub_skip (sub_skip (sub_refl _))))))))))))))))))), hf3600, hn3635, hn3636, hn3637, hn3639, hn3640, hn3641, hn3642, hn3643, hn3644, e3590⟩
      · clear hK3117 hK3120 hK3171 hK3173
        rintro ρ wd3655 ⟨x3662, v3661, rfl, hs3657, hs3658, hs3659, hs3666, hs3668, hs3669, hs3670, h3667, h3671, h3672, h3685, hB3674, hB3676, hB3678, hB3682, hB3684, hB3687, hB3689, hB3691, h3664, h3680, hf3665, hn3692, hn3693, hn3694, hn3695, hn3696, hn3697, hn3698, hn3699, hn3700, e3656⟩
        replace h := hn3703
        refine hK3172 _ _ ?_
        refine WC_seqK fun K3790 hK3790 => ?_
        refine WC_region ?_
        refine T0_q (v := v3661) rfl (yl_move hs3666) ?_
        refine T0_e rfl (eff_storeC (vs := [v3661]) (cs' := [v3661]) sz23 (cells_one h3664.one1) rfl hs3659 rfl hB3687 rfl (oc_cons h3664.one1 oc_nil) rfl ?_)
        intro wd3791 hc3792 hB3793
        have h3794 := h3664.step (Stepp.chg_mem hc3792 (memS (memS (memS (memS mem0))))) hc3792 (av_box hn3697)
        have h3795 := h3667.step (Stepp.chg_mem hc3792 (memS (memS (memS (memS mem0)))))
        have h3796 := h3671.step (Stepp.chg_mem hc3792 (memS (memS (memS (memS mem0)))))
        have h3797 := h3672.step (Stepp.chg_mem hc3792 (memS (memS (memS (memS mem0)))))
        have h3798 := hB3674.chg hc3792 (avoidb hn87)
        have h3799 := hB3676.chg hc3792 (avoidb hn88)
        have h3800 := hB3678.chg hc3792 (avoidb hn89)
        have h3801 := h3680.step (Stepp.chg_mem hc3792 (memS (memS (memS (memS mem0))))) hc3792 (av_box hn3070)
        have h3802 := hB3682.chg hc3792 (avoidb hn90)
        have h3803 := hB3684.chg hc3792 (avoidb hn91)
        have h3805 := hB3689.chg hc3792 (avoidb hn146.symm)
        have h3806 := hB3691.chg hc3792 (avoidb hn145.symm)
        have e3807 := chg_box e3656 hc3792 hbf92
        refine T0_nil ?_
        refine hK3790 _ _ ?_
        refine WC_seqK fun K3808 hK3808 => ?_
        refine WC_all mixed rfl ?_
        intro wd3809 he3810
        have e3811 := e3807.trans he3810
        refine TA_two (i := 0) (j := 1) (v := (.func (.yield bl125) #[] #[])) (u := v3661) (by kernel_rfl) (by kernel_rfl) (by kernel_rfl) rfl rfl rfl rfl (by decide) (by decide) (.inl ⟨rfl, (yl_move hs3657)⟩) (.inl ⟨rfl, (yl_load sc23 hs3659 (Box.at (hB3793.ext he3810)))⟩) (.inl ⟨rfl, (yl_load sc23 hs3659 (Box.at (hB3793.ext he3810)))⟩) (.inl ⟨rfl, (yl_move hs3657)⟩) ?_
        have h3812 := ((h3794.ext he3810).sub (sub_cons (memS mem0) (sub_cons (memS (memS mem0)) (sub_cons (memS (memS (memS mem0))) (sub_cons (memS (memS (memS (memS mem0)))) (sub_cons (memS (memS (memS (memS (memS mem0))))) (sub_cons (memS (memS (memS (memS (memS (memS mem0)))))) (sub_cons (memS (memS (memS (memS (memS (memS (memS mem0))))))) (sub_skip (sub_skip (sub_skip (sub_skip (sub_skip (sub_skip (sub_skip (sub_skip (sub_refl _))))))))))))))))).rd (fun b hb => (Avoids.cons (Avoids.cons (Avoids.cons (Avoids.cons (Avoids.cons (Avoids.cons (Avoids.cons (fun x hx e => by have := hL x hx b e; have := hf3665 b hb; omega) (fun e => hn3693 (hb.trans e.symm))) (fun e => hn3694 (hb.trans e.symm))) (fun e => hn3695 (hb.trans e.symm))) (fun e => hn3697 (hb.trans e.symm))) (fun e => hn3698 (hb.trans e.symm))) (fun e => hn3699 (hb.trans e.symm))) (hn3700 b hb)))
        have h3813 := (h3795.ext he3810).sub (sub_cons (memS mem0) (sub_cons (memS (memS mem0)) (sub_cons (memS (memS (memS mem0))) (sub_cons (memS (memS (memS (memS mem0)))) (sub_cons (memS (memS (memS (memS (memS mem0))))) (sub_cons (memS (memS (memS (memS (memS (memS mem0)))))) (sub_cons (memS (memS (memS (memS (memS (memS (memS mem0))))))) (sub_skip (sub_skip (sub_skip (sub_skip (sub_skip (sub_skip (sub_skip (sub_skip (sub_refl _))))))))))))))))
        have h3814 := (h3796.ext he3810).sub (sub_cons (memS mem0) (sub_cons (memS (memS mem0)) (sub_cons (memS (memS (memS mem0))) (sub_cons (memS (memS (memS (memS mem0)))) (sub_cons (memS (memS (memS (memS (memS mem0))))) (sub_cons (memS (memS (memS (memS (memS (memS mem0)))))) (sub_cons (memS (memS (memS (memS (memS (memS (memS mem0))))))) (sub_skip (sub_skip (sub_skip (sub_skip (sub_skip (sub_skip (sub_skip (sub_skip (sub_refl _))))))))))))))))
        have h3815 := (h3797.ext he3810).sub (sub_cons (memS mem0) (sub_cons (memS (memS mem0)) (sub_cons (memS (memS (memS mem0))) (sub_cons (memS (memS (memS (memS mem0)))) (sub_cons (memS (memS (memS (memS (memS mem0))))) (sub_cons (memS (memS (memS (memS (memS (memS mem0)))))) (sub_cons (memS (memS (memS (memS (memS (memS (memS mem0))))))) (sub_skip (sub_skip (sub_skip (sub_skip (sub_skip (sub_skip (sub_skip (sub_skip (sub_refl _))))))))))))))))
        have h3816 := (h3801.ext he3810).sub (sub_cons (memS mem0) (sub_cons (memS (memS mem0)) (sub_cons (memS (memS (memS mem0))) (sub_cons (memS (memS (memS (memS mem0)))) (sub_cons (memS (memS (memS (memS (memS mem0))))) (sub_cons (memS (memS (memS (memS (memS (memS mem0)))))) (sub_cons (memS (memS (memS (memS (memS (memS (memS mem0))))))) (sub_skip (sub_skip (sub_skip (sub_skip (sub_skip (sub_skip (sub_skip (sub_skip (sub_refl _))))))))))))))))
        have hR3819 := (h3806.ext he3810)
        rw [hrc133] at hR3819
        refine TA_e (i := 2) (by kernel_rfl) rfl rfl (effI_yield rfl rfl hR3819 ?_)
        refine WD_region rfl ?_
        refine T0_q (v := v3661) rfl (yl_assign rfl) ?_
        refine T0_nil ?_
        have hR3820 := (h3806.ext he3810)
        rw [hrc133] at hR3820
        refine ⟨hR3820, ?_⟩
        intro wd3821 hc3822 hr3823
        have h3825 := h3813.step (Stepp.chg_mem hc3822 (memS mem0))
        have h3826 := h3814.step (Stepp.chg_mem hc3822 (memS mem0))
        have h3827 := h3815.step (Stepp.chg_mem hc3822 (memS mem0))
        have h3828 := (h3798.ext he3810).chg hc3822 (avoidb hn135)
        have h3829 := (h3799.ext he3810).chg hc3822 (avoidb hn137)
        have h3830 := (h3800.ext he3810).chg hc3822 (avoidb hn139)
        have h3831 := h3816.step (Stepp.chg_mem hc3822 (memS mem0)) hc3822 (av_box hn3072)
        have h3832 := (h3802.ext he3810).chg hc3822 (avoidb hn141)
        have h3833 := (h3803.ext he3810).chg hc3822 (avoidb hn143)
        have h3835 := (hB3793.ext he3810).chg hc3822 (avoidb hn145)
        have h3836 := (h3805.ext he3810).chg hc3822 (avoidb hn149)
        have h3837 := h3812.step (Stepp.chg_mem hc3822 (memS mem0))
        have e3838 := chg_box e3811 hc3822 hbf150
        have h3824 : RecAt wd3821 bl125 (rc132 .busy none) := by rw [hrc133]; exact hr3823
        refine WD_block ?_
        refine WD_seqK fun K3840 hK3840 => ?_
        refine WD_seqK fun K3841 hK3841 => ?_
        refine WD_region rfl ?_
        have hq := bind_elim h
        clear h
        obtain ⟨r3842, hr3843, h⟩ := hq
        refine T0_e rfl (eff_call Try.func41 nm41 rfl (ev1 rfl) (levitate_allSmall_ok [] _ (LtL.nil _) 100000 r3842 hr3843) ?_)
        rintro _ wd3844 ⟨he3845, b3846, rfl, h3847, h3848⟩
        have e3859 := e3838.trans he3845
        refine T0_q (v := v3661) rfl (yl_move rfl) ?_
        have hq := bind_elim h
        clear h
        obtain ⟨r3861, hr3862, h⟩ := hq
        refine T0_e rfl (eff_callC rfl Try.func69 nm69 rfl (ev1 rfl) rfl (levitate_allSmall_1_ok [] _ (LtL.nil _) v3661 x3662 ((h3837.ext he3845).sub (fun _ h => by cases h)) b3846 r3842 h3847 r3861 hr3862) ?_)
        rintro _ wd3863 ⟨he3864, rfl⟩
        have e3865 := he3845.trans he3864
        have e3866 := e3859.trans he3864
        refine T0_q (v := (.bool (!r3861))) rfl (yl_not rfl) ?_
        refine T0_nil ?_
        refine hK3841 _ _ _ ?_
        refine WD_cond (b := (!r3861)) rfl (fun hb3867 => ?_) (fun hb3867 => ?_)
        · clear hK3113 hK3119 hK3172 hK3790 hK3840 hK3841 hK64
          replace h := cond_t hb3867 h
          refine WD_seqK fun K3868 hK3868 => ?_
          refine WD_region rfl ?_
          refine T0_e rfl (eff_storeC (vs := [(.slice none 0 0)]) (cs' := [(.slice none 0 0)]) sz47 rfl rfl rfl rfl (h3829.ext e3865) rfl (oc_cons rfl oc_nil) rfl ?_)
          intro wd3869 hc3870 hB3871
          have h3876 := (h3830.ext e3865).chg hc3870 (avoidb hn37.symm)
          have h3882 := (h3836.ext e3865).chg hc3870 (avoidb hn138.symm)
          have h3884 := (h3824.ext e3865).chg hc3870 (avoidb hn137.symm)
          have e3886 := chg_box e3866 hc3870 hbf24
          refine T0_e rfl (eff_storeC (vs := [(.int .i64 24)]) (cs' := [(.int .i64 24)]) sz30 rfl rfl rfl rfl h3876 rfl (oc_cons rfl oc_nil) rfl ?_)
          intro wd3887 hc3888 hB3889
          have h3894 := hB3871.chg hc3888 (avoidb hn37)
          have h3900 := h3882.chg hc3888 (avoidb hn140.symm)
          have h3902 := h3884.chg hc3888 (avoidb hn139.symm)
          have e3904 := chg_box e3886 hc3888 hbf38
          refine T0_nil ?_
          refine hK3868 _ _ _ ?_
          refine WD_ret ?_
          have hR3905 := h3902
          rw [hrc133] at hR3905
          refine ⟨hR3905, ?_⟩
          intro wd3906 hc3907 hr3908
          have h3914 := h3894.chg hc3907 (avoidb hn137)
          have h3915 := hB3889.chg hc3907 (avoidb hn139)
          have h3921 := h3900.chg hc3907 (avoidb hn149)
          have e3924 := chg_box e3904 hc3907 hbf150
          have h3909 : RecAt wd3906 bl125 (rc132 .done (some .ret)) := by rw [hrc133]; exact hr3908
          refine TA_q (i := 3) (v := (.bool (!false))) (by kernel_rfl) rfl rfl (yl_not rfl) ?_
          refine TA_q (i := 4) (v := (.bool true)) (by kernel_rfl) rfl rfl (yl_move rfl) ?_
          refine TA_two (i := 5) (j := 6) (v := undef) (u := undef) (by kernel_rfl) (by kernel_rfl) (by kernel_rfl) rfl rfl rfl rfl (by decide) (by decide) (.inr ⟨(wanted_f (b := true) rfl rfl rfl rfl), rfl⟩) (.inr ⟨(wanted_f (b := true) rfl rfl rfl rfl), rfl⟩) (.inr ⟨(wanted_f (b := true) rfl rfl rfl rfl), rfl⟩) (.inr ⟨(wanted_f (b := true) rfl rfl rfl rfl), rfl⟩) ?_
          refine TA_u (i := 7) (by kernel_rfl) rfl (wanted_f (b := true) rfl rfl rfl rfl) ?_
          refine TA_u (i := 8) (by kernel_rfl) rfl (wanted_f (b := true) rfl rfl rfl rfl) ?_
          refine TA_q (i := 9) (v := (.bool true)) (by kernel_rfl) rfl rfl (yl_pick (b := true) rfl (fun _ => rfl) (fun h => by cases h)) ?_
          refine TA_done (by kernel_rfl) ?_
          refine hK3808 _ _ ?_
          refine WC_cond (b := true) rfl (fun hb3926 => ?_) (fun hb3926 => ?_)
          rotate_left
          · clear hK3808 hK3868
            cases hb3926
          refine WC_ret ?_
          replace h := some_out h
          subst h
          have ho := hx3112 _ rfl
          subst ho
          replace h := jn0_inl hn3110
          have hR3927 := h3909
          rw [hrc133] at hR3927
          refine ⟨_, hR3927, nofun, ?_⟩
          intro wd3928 hc3929
          have h3934 := h3914.chg hc3929 (avoidb hn137)
          have h3935 := h3915.chg hc3929 (avoidb hn139)
          have h3941 := h3921.chg hc3929 (avoidb hn149)
          have e3944 := chg_box e3924 hc3929 hbf150
          refine ⟨_, rfl, h3941, ?_⟩
          intro wd3945 hc3946
          have h3951 := h3934.chg hc3946 (avoidb hn138)
          have h3952 := h3935.chg hc3946 (avoidb hn140)
          have e3960 := chg_box e3944 hc3946 hbf151
          replace h := some_out h
          subst h
          exact ⟨[(.slice none 0 0), (.int .i64 24)], ⟨⟨_, rfl, run_loadVarS sc47 (Box.at h3951)⟩, ⟨_, rfl, run_loadVarS sc30 (Box.at h3952)⟩, trivial⟩, e3960, (.slice none 0 0), rfl, (SlRd.nil _ _)⟩
        · clear hK3172 hK3790 hK3841
          replace h := cond_f hb3867 h
          refine WD_skip ?_
          refine hK3840 _ _ _ ?_
          refine WD_region rfl ?_
          refine T0_q (v := v3046) rfl (yl_load sc47 rfl (Box.at (h3832.ext e3865))) ?_
          refine T0_q (v := v3661) rfl (yl_move rfl) ?_
          refine T0_e rfl (eff_buildTC (xs := ([x3662] : List (List Int))) (cells := [v3661]) Try.underlying47 ei23 rfl (pc_cons rfl (cells_one h3837.one1) pc_nil) rfl (Elems.cons (cs := [v3661]) ⟨_, rfl, (h3837.ext e3865)⟩ Elems.nil) rfl (ltl_own (ltl_lt (ltl_lt (ltl_box (ltl_box (ltl_box (ltl_box (hL.chg e3866) (h3829.ext e3865)) (h3830.ext e3865)) (h3832.ext e3865)) (h3835.ext e3865)) (h3836.ext e3865).lt) (h3824.ext e3865).lt) (h3831.ext e3865)) ?_)
          intro b3964 wd3961 he3962 h3963
          have e3965 := e3865.trans he3962
          have e3967 := e3866.trans he3962
          have hq := bind_elim h
          clear h
          obtain ⟨zs3969, hz3970, h⟩ := hq
          refine T0_e rfl (eff_app Try.underlying47 ei23 rfl rfl rfl rfl (h3831.ext e3965) h3963 hz3970 ?_)
          intro v3971 wd3972 hc3973 hbl3974 h3975
          have hn3977 : blk v3971 ≠ some b10 := ne_swap hbl3974 hn3065 (h3828.ext e3965)
          have hn3978 : blk v3971 ≠ some b18 := ne_swap hbl3974 hn3066 (h3829.ext e3965)
          have hn3979 : blk v3971 ≠ some b31 := ne_swap hbl3974 hn3067 (h3830.ext e3965)
          have hn3980 : blk v3971 ≠ some b47 := ne_swap hbl3974 hn3068 (h3832.ext e3965)
          have hn3981 : blk v3971 ≠ some b67 := ne_swap hbl3974 hn3069 (h3833.ext e3965)
          have hn3982 : blk v3971 ≠ some b82 := ne_swap hbl3974 hn3070 (h3835.ext e3965)
          have hn3983 : blk v3971 ≠ some bD126 := ne_swapL hbl3974 hn3071 (h3836.ext e3965).lt
          have hn3984 : blk v3971 ≠ some bl125 := ne_swapL hbl3974 hn3072 (h3824.ext e3965).lt
          have hf3986 := fresh_swap hbl3974 hf3050 e3967.size
          have h3987 := (h3825.ext e3965).step (Stepp.swap hc3973 hbl3974)
          have h3988 := (h3826.ext e3965).step (Stepp.swap hc3973 hbl3974)
          have h3989 := (h3827.ext e3965).step (Stepp.swap hc3973 hbl3974)
          have h3990 := (h3828.ext e3965).chg hc3973 (avoid1 hn3065)
          have h3991 := (h3829.ext e3965).chg hc3973 (avoid1 hn3066)
          have h3992 := (h3830.ext e3965).chg hc3973 (avoid1 hn3067)
          have h3993 := (h3832.ext e3965).chg hc3973 (avoid1 hn3068)
          have h3994 := (h3833.ext e3965).chg hc3973 (avoid1 hn3069)
          have h3996 := (h3835.ext e3965).chg hc3973 (avoid1 hn3070)
          have h3997 := (h3836.ext e3965).chg hc3973 (avoid1 hn3071)
          have h3998 := (h3837.ext e3965).step (Stepp.swap hc3973 hbl3974)
          have h3999 := (h3824.ext e3965).chg hc3973 (avoid1 hn3072)
          have e4002 := chg_own e3967 hc3973 hf3050
          refine T0_e rfl (eff_storeC (vs := [v3971]) (cs' := [v3971]) sz47 (cells_one h3975.one1) rfl rfl rfl h3993 rfl (oc_cons h3975.one1 oc_nil) rfl ?_)
          intro wd4004 hc4005 hB4006
          have h4007 := h3987.step (Stepp.chg_mem hc4005 (memS (memS (memS (memS mem0)))))
          have h4008 := h3988.step (Stepp.chg_mem hc4005 (memS (memS (memS (memS mem0)))))
          have h4009 := h3989.step (Stepp.chg_mem hc4005 (memS (memS (memS (memS mem0)))))
          have h4010 := h3990.chg hc4005 (avoidb hn52)
          have h4011 := h3991.chg hc4005 (avoidb hn53)
          have h4012 := h3992.chg hc4005 (avoidb hn54)
          have h4013 := h3994.chg hc4005 (avoidb hn75.symm)
          have h4015 := h3996.chg hc4005 (avoidb hn90.symm)
          have h4016 := h3997.chg hc4005 (avoidb hn142.symm)
          have h4017 := h3998.step (Stepp.chg_mem hc4005 (memS (memS (memS (memS mem0)))))
          have h4018 := h3999.chg hc4005 (avoidb hn141.symm)
          have h4021 := h3975.step (Stepp.chg_mem hc4005 (memS (memS (memS (memS mem0))))) hc4005 (av_box hn3980)
          have e4022 := chg_box e4002 hc4005 hbf55
          refine T0_nil ?_
          have hR4023 := h4018
          rw [hrc133] at hR4023
          refine ⟨hR4023, ?_⟩
          intro wd4024 hc4025 hr4026
          have h4028 := h4007.step (Stepp.chg_mem hc4025 (memS mem0))
          have h4029 := h4008.step (Stepp.chg_mem hc4025 (memS mem0))
          have h4030 := h4009.step (Stepp.chg_mem hc4025 (memS mem0))
          have h4031 := h4010.chg hc4025 (avoidb hn135)
          have h4032 := h4011.chg hc4025 (avoidb hn137)
          have h4033 := h4012.chg hc4025 (avoidb hn139)
          have h4034 := hB4006.chg hc4025 (avoidb hn141)
          have h4035 := h4013.chg hc4025 (avoidb hn143)
          have h4037 := h4015.chg hc4025 (avoidb hn145)
          have h4038 := h4016.chg hc4025 (avoidb hn149)
          have h4039 := h4017.step (Stepp.chg_mem hc4025 (memS mem0))
          have h4042 := h4021.step (Stepp.chg_mem hc4025 (memS mem0)) hc4025 (av_box hn3984)
          have e4043 := chg_box e4022 hc4025 hbf150
          have h4027 : RecAt wd4024 bl125 (rc132 .ready none) := by rw [hrc133]; exact hr4026
          refine TA_q (i := 3) (v := (.bool (!true))) (by kernel_rfl) rfl rfl (yl_not rfl) ?_
          refine TA_q (i := 4) (v := (.bool false)) (by kernel_rfl) rfl rfl (yl_move rfl) ?_
          have hq := bind_elim h
          clear h
          obtain ⟨r4045, hr4046, h⟩ := hq
          refine TA_eq2 (i := 5) (j := 6) (u := v3661) (by kernel_rfl) (by kernel_rfl) (by kernel_rfl) rfl rfl rfl rfl (by decide) (by decide) (wanted_f (b := false) rfl rfl rfl rfl) (wanted_f (b := false) rfl rfl rfl rfl) (eff_call Try.func41 nm41 rfl (ev1 rfl) (levitate_allSmall_ok [] _ (LtL.nil _) 100000 r4045 hr4046) (fun _ _ h => h)) (eff_call Try.func41 nm41 rfl (ev1 rfl) (levitate_allSmall_ok [] _ (LtL.nil _) 100000 r4045 hr4046) (fun _ _ h => h)) (.inl ⟨(wanted_f (b := false) rfl rfl rfl rfl), (yl_load sc23 hs3659 (Box.at h4037))⟩) ?_
          rintro _ wd4047 ⟨he4048, b4049, rfl, h4050, h4051⟩
          have e4063 := e4043.trans he4048
          refine ⟨.inl ⟨(wanted_f (b := false) rfl rfl rfl rfl), (yl_load sc23 hs3659 (Box.at (h4037.ext he4048)))⟩, ?_⟩
          have hq := bind_elim h
          clear h
          obtain ⟨r4065, hr4066, h⟩ := hq
          refine TA_E (i := 7) (by kernel_rfl) rfl (wanted_f (b := false) rfl rfl rfl rfl) (eff_callC rfl Try.func69 nm69 rfl (ev1 rfl) rfl (levitate_allSmall_1_ok [] _ (LtL.nil _) v3661 x3662 ((h4039.ext he4048).sub (fun _ h => by cases h)) b4049 r4045 h4050 r4065 hr4066) ?_)
          rintro _ wd4067 ⟨he4068, rfl⟩
          have e4069 := he4048.trans he4068
          have e4070 := e4063.trans he4068
          refine TA_q (i := 8) (v := (.bool (!r4065))) (by kernel_rfl) rfl (wanted_f (b := false) rfl rfl rfl rfl) (yl_not rfl) ?_
          refine TA_q (i := 9) (v := (.bool (!r4065))) (by kernel_rfl) rfl rfl (yl_pick (b := false) rfl (fun h => by cases h) (fun _ => rfl)) ?_
          refine TA_done (by kernel_rfl) ?_
          refine hK3808 _ _ ?_
          refine WC_cond (b := (!r4065)) rfl (fun hb4071 => ?_) (fun hb4071 => ?_)
          · clear hK3113 hK3119 hK3808 hK3840
            replace h := cond_t hb4071 h
            refine WC_ret ?_
            replace h := some_out h
            subst h
            have ho := hx3112 _ rfl
            subst ho
            replace h := jn0_inl hn3110
            have hR4072 := (h4027.ext e4069)
            rw [hrc133] at hR4072
            refine ⟨_, hR4072, nofun, ?_⟩
            intro wd4073 hc4074
            have h4079 := (h4032.ext e4069).chg hc4074 (avoidb hn137)
            have h4080 := (h4033.ext e4069).chg hc4074 (avoidb hn139)
            have h4081 := (h4034.ext e4069).chg hc4074 (avoidb hn141)
            have h4085 := (h4038.ext e4069).chg hc4074 (avoidb hn149)
            have h4089 := (h4042.ext e4069).step (Stepp.chg_mem hc4074 (memS mem0)) hc4074 (av_box hn3984)
            have e4091 := chg_box e4070 hc4074 hbf150
            refine hK64 _ _ _ ?_
            refine WD_seqK fun K4092 hK4092 => ?_
            refine WD_region rfl ?_
            refine T0_q (v := v3971) rfl (yl_load sc47 rfl (Box.at h4081)) ?_
            refine T0_e rfl (eff_storeC (vs := [v3971]) (cs' := [v3971]) sz47 (cells_one h4089.one1) rfl rfl rfl h4079 rfl (oc_cons h4089.one1 oc_nil) rfl ?_)
            intro wd4093 hc4094 hB4095
            have h4100 := h4080.chg hc4094 (avoidb hn37.symm)
            have h4105 := h4085.chg hc4094 (avoidb hn138.symm)
            have h4109 := h4089.step (Stepp.chg_mem hc4094 (memS (memS (memS (memS (memS (memS mem0))))))) hc4094 (av_box hn3978)
            have e4111 := chg_box e4091 hc4094 hbf24
            refine T0_e rfl (eff_storeC (vs := [(.int .i64 0)]) (cs' := [(.int .i64 0)]) sz30 rfl rfl rfl rfl h4100 rfl (oc_cons rfl oc_nil) rfl ?_)
            intro wd4112 hc4113 hB4114
            have h4119 := hB4095.chg hc4113 (avoidb hn37)
            have h4124 := h4105.chg hc4113 (avoidb hn140.symm)
            have h4128 := h4109.step (Stepp.chg_mem hc4113 (memS (memS (memS (memS (memS mem0)))))) hc4113 (av_box hn3979)
            have e4130 := chg_box e4111 hc4113 hbf38
            refine T0_nil ?_
            refine hK4092 _ _ _ ?_
            refine WD_ret ?_
            refine ⟨_, rfl, h4124, ?_⟩
            intro wd4131 hc4132
            have h4137 := h4119.chg hc4132 (avoidb hn138)
            have h4138 := hB4114.chg hc4132 (avoidb hn140)
            have h4146 := h4128.step (Stepp.chg_mem hc4132 (memS (memS mem0))) hc4132 (av_box hn3983)
            have e4148 := chg_box e4130 hc4132 hbf151
            replace h := some_out h
            subst h
            exact ⟨[v3971, (.int .i64 0)], ⟨⟨_, rfl, run_loadVarS sc47 (Box.at h4137)⟩, ⟨_, rfl, run_loadVarS sc30 (Box.at h4138)⟩, trivial⟩, e4148, v3971, rfl, (h4146.rdL (sub_skip (sub_skip (sub_skip (sub_skip (sub_skip (sub_skip (sub_skip (sub_refl _)))))))) hL hf3986)⟩
          · clear hK3808 hK3840 hK64
            replace h := cond_f hb4071 h
            refine WC_skip ?_
            refine hK3119 _ _ ?_
            refine WC_region ?_
            refine T0_q (v := (.int .i64 (w64 (x3035 + 1)))) rfl (yl_add hs3670 rfl) ?_
            refine T0_q (v := (.int .i64 (w64 (x3035 + 1)))) rfl (yl_move rfl) ?_
            refine T0_nil ?_
            replace h := some_out h
            subst h
            refine hK3113 _ _ _ rfl ?_
            exact ⟨w64 (x3035 + 1), zs3969, x3662, v3971, v3661, rfl, hs3657, hs3658, hs3659, hs3668, hs3669, rfl, (h4028.ext e4069), (h4029.ext e4069), (h4030.ext e4069), (h4039.ext e4069), (h4031.ext e4069), (h4032.ext e4069), (h4033.ext e4069), (h4034.ext e4069), (h4035.ext e4069), (h4037.ext e4069), (h4038.ext e4069), (h4027.ext e4069), (h4042.ext e4069), hf3986, hn3977, hn3978, hn3979, hn3980, hn3981, hn3982, hn3983, hn3984, e4070⟩
    · clear hK3113 hK3116 hK3117 hK64
      replace h := cond_f hb3118 h
      refine WC_exit ?_
      replace h := some_out h
      subst h
      have ho := hx3112 _ rfl
      subst ho
      refine hK3114 _ _ ?_
      exact ⟨x3047, v3046, rfl, (h3037.sub (sub_cons mem0 (sub_cons (memS mem0) (sub_cons (memS (memS mem0)) (sub_cons (memS (memS (memS (memS mem0)))) (sub_cons (memS (memS (memS (memS (memS mem0))))) (sub_cons (memS (memS (memS (memS (memS (memS mem0)))))) (sub_skip (sub_skip (sub_skip (sub_skip (sub_skip (sub_skip (sub_skip (sub_refl _))))))))))))))), (h3038.sub (sub_cons mem0 (sub_cons (memS mem0) (sub_cons (memS (memS mem0)) (sub_cons (memS (memS (memS (memS mem0)))) (sub_cons (memS (memS (memS (memS (memS mem0))))) (sub_cons (memS (memS (memS (memS (memS (memS mem0)))))) (sub_skip (sub_skip (sub_skip (sub_skip (sub_skip (sub_skip (sub_skip (sub_refl _))))))))))))))), hB3040, hB3042, hB3044, hB3052, hB3062, hB3064, (h3049.sub (sub_cons mem0 (sub_cons (memS mem0) (sub_cons (memS (memS mem0)) (sub_cons (memS (memS (memS (memS mem0)))) (sub_cons (memS (memS (memS (memS (memS mem0))))) (sub_cons (memS (memS (memS (memS (memS (memS mem0)))))) (sub_skip (sub_skip (sub_skip (sub_skip (sub_skip (sub_skip (sub_skip (sub_refl _))))))))))))))), hf3050, hn3065, hn3066, hn3067, hn3068, hn3071, hn3072, e3028⟩
  · clear hK122 hK165 hK46 hK65 hK66 hK9
    rintro ρ wd3080 ⟨x3092, v3091, rfl, h3082, h3083, hB3085, hB3087, hB3089, hB3097, hB3099, hB3101, h3094, hf3095, hn3102, hn3103, hn3104, hn3105, hn3106, hn3107, e3081⟩
    replace h := jn0_inr hn3110
    have hR4149 := hB3101
    rw [hrc133] at hR4149
    refine ⟨_, hR4149, nofun, ?_⟩
    intro wd4150 hc4151
    have h4155 := hB3087.chg hc4151 (avoidb hn137)
    have h4156 := hB3089.chg hc4151 (avoidb hn139)
    have h4157 := h3094.step (Stepp.chg_mem hc4151 (memS mem0)) hc4151 (av_box hn3107)
    have h4158 := hB3097.chg hc4151 (avoidb hn141)
    have h4159 := hB3099.chg hc4151 (avoidb hn149)
    have e4160 := chg_box e3081 hc4151 hbf150
    refine hK64 _ _ _ ?_
    refine WD_seqK fun K4161 hK4161 => ?_
    refine WD_region rfl ?_
    refine T0_q (v := v3091) rfl (yl_load sc47 rfl (Box.at h4158)) ?_
    refine T0_e rfl (eff_storeC (vs := [v3091]) (cs' := [v3091]) sz47 (cells_one h4157.one1) rfl rfl rfl h4155 rfl (oc_cons h4157.one1 oc_nil) rfl ?_)
    intro wd4162 hc4163 hB4164
    have h4168 := h4156.chg hc4163 (avoidb hn37.symm)
    have h4169 := h4157.step (Stepp.chg_mem hc4163 (memS (memS (memS (memS (memS mem0)))))) hc4163 (av_box hn3103)
    have h4171 := h4159.chg hc4163 (avoidb hn138.symm)
    have e4172 := chg_box e4160 hc4163 hbf24
    refine T0_e rfl (eff_storeC (vs := [(.int .i64 0)]) (cs' := [(.int .i64 0)]) sz30 rfl rfl rfl rfl h4168 rfl (oc_cons rfl oc_nil) rfl ?_)
    intro wd4173 hc4174 hB4175
    have h4179 := hB4164.chg hc4174 (avoidb hn37)
    have h4180 := h4169.step (Stepp.chg_mem hc4174 (memS (memS (memS (memS mem0))))) hc4174 (av_box hn3104)
    have h4182 := h4171.chg hc4174 (avoidb hn140.symm)
    have e4183 := chg_box e4172 hc4174 hbf38
    refine T0_nil ?_
    refine hK4161 _ _ _ ?_
    refine WD_ret ?_
    refine ⟨_, rfl, h4182, ?_⟩
    intro wd4184 hc4185
    have h4189 := h4179.chg hc4185 (avoidb hn138)
    have h4190 := hB4175.chg hc4185 (avoidb hn140)
    have h4191 := h4180.step (Stepp.chg_mem hc4185 (memS (memS mem0))) hc4185 (av_box hn3106)
    have e4193 := chg_box e4183 hc4185 hbf151
    replace h := some_out h
    subst h
    exact ⟨[v3091, (.int .i64 0)], ⟨⟨_, rfl, run_loadVarS sc47 (Box.at h4189)⟩, ⟨_, rfl, run_loadVarS sc30 (Box.at h4190)⟩, trivial⟩, e4193, v3091, rfl, (h4191.rdL (sub_skip (sub_skip (sub_skip (sub_skip (sub_skip (sub_skip (sub_refl _))))))) hL hf3095)⟩

noncomputable def levitate_plant_stateErr_spec (p_p : levitate_plant) (p_x : (List Int)) : Option Int :=
  (Option.bind (levitate_unless_spec (decide ((p_x.length : Int) = (p_p.LevitatePlant.Noise.length : Int))) 10) fun r18 =>
  (Option.bind (levitate_allSmall_spec 100000) fun r24 =>
  (Option.bind (levitate_allSmall_1_spec p_x r24) fun r37 =>
  (Option.bind (levitate_unless_spec r37 2) fun r44 =>
  (Option.bind (levitate_first_spec ([r18, r44] : List Int)) fun r61 =>
  some r61
  )
  )
  )
  )
  )
theorem levitate_plant_stateErr_ok (L : List Value) (w : World) (hL : LtL L w) (cs_p_p : List Value) (p_p : levitate_plant) (h_p_p : Rep.rd L w cs_p_p p_p) (v_p_x : Value) (p_x : (List Int)) (h_p_x : SlRd L w v_p_x p_x) (r : Int) (h : levitate_plant_stateErr_spec p_p p_x = some r) :
    CallsTo Try.prog 103 [(.agg cs_p_p.toArray), v_p_x] w (fun v w' => Ext w w' ∧ (.int .i64 r) = v) := by
  have e0 : Ext w w := Chg.refl _ _
  obtain ⟨v1, v3, h2, h4, rfl⟩ := h_p_p
  refine callsTo_of_WC (n := 19) (rs := [.tmp 4]) Try.func103 rfl rfl rfl rfl rfl ?_
  refine WC_seqK fun K8 hK8 => ?_
  refine WC_region ?_
  refine T0_e rfl (eff_boxC (cs := [(.int .i64 p_p.LevitatePlant.Den), v1, v3]) rfl rfl ?_)
  intro b9 wd10 hb11 he12 hB13
  have e15 := e0.trans he12
  refine T0_q (v := (.int .i64 0)) rfl (yl_assign rfl) ?_
  refine T0_nil ?_
  refine hK8 _ _ ?_
  refine WC_seqK fun K17 hK17 => ?_
  refine WC_region ?_
  refine T0_q (v := v_p_x) rfl (yl_move rfl) ?_
  refine T0_q (v := (.int .i64 (p_x.length : Int))) rfl (yl_lenR rfl Try.underlying23 h_p_x rfl) ?_
  refine T0_q (v := (.pointer (some ⟨b9, 0, none⟩))) rfl (yl_fa 0 Try.underlying89 rfl rfl ⟨2, sz25⟩ rfl rfl) ?_
  refine T0_q (v := (.pointer (some ⟨b9, 2, none⟩))) rfl (yl_fa 2 Try.underlying25 rfl rfl ⟨0, sz23⟩ rfl rfl) ?_
  refine T0_q (v := v3) rfl (yl_load sc23 rfl (At.drop (Box.at hB13) 2)) ?_
  refine T0_q (v := (.int .i64 (p_p.LevitatePlant.Noise.length : Int))) rfl (yl_lenR rfl Try.underlying23 h4 rfl) ?_
  refine T0_q (v := (.bool (decide ((p_x.length : Int) = (p_p.LevitatePlant.Noise.length : Int))))) rfl (yl_eql rfl rfl) ?_
  have hq := bind_elim h
  clear h
  obtain ⟨r18, hr19, h⟩ := hq
  refine T0_e rfl (eff_call Try.func40 nm40 rfl (ev2 rfl rfl) (levitate_unless_ok [] _ (LtL.nil _) (decide ((p_x.length : Int) = (p_p.LevitatePlant.Noise.length : Int))) 10 r18 hr19) ?_)
  rintro _ wd20 ⟨he21, rfl⟩
  have e22 := he12.trans he21
  have e23 := e15.trans he21
  have hq := bind_elim h
  clear h
  obtain ⟨r24, hr25, h⟩ := hq
  refine T0_e rfl (eff_call Try.func41 nm41 rfl (ev1 rfl) (levitate_allSmall_ok [] _ (LtL.nil _) 100000 r24 hr25) ?_)
  rintro _ wd26 ⟨he27, b28, rfl, h29, h30⟩
  have e33 := e22.trans he27
  have e35 := e23.trans he27
  refine T0_q (v := v_p_x) rfl (yl_move rfl) ?_
  have hq := bind_elim h
  clear h
  obtain ⟨r37, hr38, h⟩ := hq
  refine T0_e rfl (eff_callC rfl Try.func69 nm69 rfl (ev1 rfl) rfl (levitate_allSmall_1_ok [] _ (LtL.nil _) v_p_x p_x ((h_p_x.ext e33).sub (fun _ h => by cases h)) b28 r24 h29 r37 hr38) ?_)
  rintro _ wd39 ⟨he40, rfl⟩
  have e43 := e35.trans he40
  have hq := bind_elim h
  clear h
  obtain ⟨r44, hr45, h⟩ := hq
  refine T0_e rfl (eff_call Try.func40 nm40 rfl (ev2 rfl rfl) (levitate_unless_ok [] _ (LtL.nil _) r37 2 r44 hr45) ?_)
  rintro _ wd46 ⟨he47, rfl⟩
  have e51 := e43.trans he47
  refine T0_e rfl (eff_buildTC (xs := ([r18, r44] : List Int)) (cells := [(.int .i64 r18), (.int .i64 r44)]) Try.underlying108 ei30 rfl (pc_cons rfl rfl (pc_cons rfl rfl pc_nil)) rfl (Elems.cons (cs := [(.int .i64 r18)]) rfl (Elems.cons (cs := [(.int .i64 r44)]) rfl Elems.nil)) rfl (hL.chg e51) ?_)
  intro b55 wd52 he53 h54
  have e59 := e51.trans he53
  have hq := bind_elim h
  clear h
  obtain ⟨r61, hr62, h⟩ := hq
  refine T0_e rfl (eff_call Try.func39 nm39 rfl (ev1 rfl) (levitate_first_ok [] _ (LtL.nil _) (.slice (some ⟨b55, 0, none⟩) 2 2) ([r18, r44] : List Int) (h54.sub (fun _ h => by cases h)) r61 hr62) ?_)
  rintro _ wd63 ⟨he64, rfl⟩
  have e68 := e59.trans he64
  refine T0_q (v := (.int .i64 r61)) rfl (yl_assign rfl) ?_
  refine T0_nil ?_
  refine hK17 _ _ ?_
  refine WC_ret ?_
  replace h := some_out h
  subst h
  exact ⟨[(.int .i64 r61)], ⟨rfl, trivial⟩, e68, rfl⟩

noncomputable def levitate_proves_s0 (p_form : (List (List Int))) (p_p : LevitatePlant) (p_rate : Arr2_Int) (r42 : (levitate_plant × Int)) : (Int) → Option ((Int) ⊕ ((levitate_plant × Int × Int) ⊕ (Unit))) := fun x322 =>
  (bif (decide (x322 < (p_p.Maps.length : Int))) then (
    (Option.bind (levitate_plant_lessens_spec (levitate_plant.mk (LevitatePlant.mk r42.1.LevitatePlant.Den r42.1.LevitatePlant.Maps r42.1.LevitatePlant.Noise)) x322 p_form p_rate) fun r356 =>
    (bif (!r356) then (
      some (.inr (.inl ((levitate_plant.mk (LevitatePlant.mk r42.1.LevitatePlant.Den r42.1.LevitatePlant.Maps r42.1.LevitatePlant.Noise)), x322, 24)))
    ) else (
      some (.inl (w64 (x322 + 1)))
    ))
    )
  ) else (
    some (.inr (.inr ()))
  ))
noncomputable def levitate_proves_spec (p_p : LevitatePlant) (p_form : (List (List Int))) (p_rate : Arr2_Int) : Option (levitate_plant × Int × Int) :=
  (Option.bind (levitate_openForm_spec p_p p_form) fun r42 =>
  (Option.bind (levitate_within_spec p_rate.e1 1 1000) fun r89 =>
  (Option.bind (bif r89 then levitate_within_spec p_rate.e0 0 p_rate.e1 else some default) fun r94 =>
  (Option.bind (levitate_unless_spec (r89 && r94) 2) fun r100 =>
  (Option.bind (levitate_first_spec ([r42.2, r100] : List Int)) fun r113 =>
  (Option.bind (α := (Int)) (
    (bif (decide (r113 = 0)) then (
      (Option.bind (levitate_positive_spec p_form) fun r163 =>
      (Option.bind (levitate_unless_spec r163 20) fun r170 =>
      some r170
      )
      )
    ) else (
      some r113
    ))
  ) fun (x144 : Int) =>
  (bif (!decide (x144 = 0)) then (
    some ((levitate_plant.mk (LevitatePlant.mk r42.1.LevitatePlant.Den r42.1.LevitatePlant.Maps r42.1.LevitatePlant.Noise)), 0, x144)
  ) else (
    (Option.bind (loop (levitate_proves_s0 p_form p_p p_rate r42) 0) fun o342 => jn0 o342 fun (_ : Unit) =>
    some ((levitate_plant.mk (LevitatePlant.mk r42.1.LevitatePlant.Den r42.1.LevitatePlant.Maps r42.1.LevitatePlant.Noise)), 0, 0)
    )
  ))
  )
  )
  )
  )
  )
  )
theorem levitate_proves_ok (L : List Value) (w : World) (hL : LtL L w) (cs_p_p : List Value) (p_p : LevitatePlant) (h_p_p : Rep.rd L w cs_p_p p_p) (v_p_form : Value) (p_form : (List (List Int))) (h_p_form : SlRd L w v_p_form p_form) (cs_p_rate : List Value) (p_rate : Arr2_Int) (h_p_rate : Rep.rd L w cs_p_rate p_rate) (r : levitate_plant × Int × Int) (h : levitate_proves_spec p_p p_form p_rate = some r) :
    CallsTo Try.prog 52 [(.agg cs_p_p.toArray), v_p_form, (.agg cs_p_rate.toArray)] w (fun v w' => Ext w w' ∧ ∃ (cs0 : List Value), (.tuple #[(.agg cs0.toArray), (.int .i64 r.2.1), (.int .i64 r.2.2)]) = v ∧ Rep.rd L w' cs0 r.1) := by
  have e0 : Ext w w := Chg.refl _ _
  obtain ⟨v1, v3, h2, h4, rfl⟩ := h_p_p
  have h_p_rate : cs_p_rate = [(.int .i64 p_rate.e0), (.int .i64 p_rate.e1)] := h_p_rate
  subst h_p_rate
  refine callsTo_of_WC (n := 57) (rs := [.cell 6 89, .tmp 7, .tmp 8]) Try.func52 rfl rfl rfl rfl rfl ?_
  refine WC_seqK fun K8 hK8 => ?_
  refine WC_region ?_
  refine T0_e rfl (eff_boxC (cs := [(.int .i64 p_p.Den), v1, v3]) rfl rfl ?_)
  intro b9 wd10 hb11 he12 hB13
  have e15 := e0.trans he12
  refine T0_e rfl (eff_boxC (cs := [(.int .i64 p_rate.e0), (.int .i64 p_rate.e1)]) rfl rfl ?_)
  intro b17 wd18 hb19 he20 hB21
  have e24 := he12.trans he20
  have e25 := e15.trans he20
  refine T0_e rfl (eff_allocZ zi89 ?_)
  intro b27 wd28 hb29 he30 hB31
  have hbf34 := bfresh e25 hb29
  have h35 := (h2.ext e24).step (add_box he30 hb29)
  have h36 := (h4.ext e24).step (add_box he30 hb29)
  have h37 := (h_p_form.ext e24).step (add_box he30 hb29)
  have e38 := he20.trans he30
  have e39 := e25.trans he30
  refine T0_q (v := (.int .i64 0)) rfl (yl_assign rfl) ?_
  refine T0_q (v := (.int .i64 0)) rfl (yl_assign rfl) ?_
  refine T0_nil ?_
  refine hK8 _ _ ?_
  refine WC_seqK fun K41 hK41 => ?_
  refine WC_region ?_
  refine T0_q (v := (.agg (List.toArray [(.int .i64 p_p.Den), v1, v3]))) rfl (yl_loadA (cs := [(.int .i64 p_p.Den), v1, v3]) ag25 rfl (Box.at (hB13.ext e38))) ?_
  refine T0_q (v := v_p_form) rfl (yl_move rfl) ?_
  have hq := bind_elim h
  clear h
  obtain ⟨r42, hr43, h⟩ := hq
  refine T0_e rfl (eff_call Try.func76 nm76 rfl (ev2 rfl rfl) (levitate_openForm_ok ((.pointer (some ⟨b27, 0, none⟩)) :: L) _ (ltl_box (hL.chg e39) hB31) [(.int .i64 p_p.Den), v1, v3] p_p ⟨v1, v3, h35, h36, rfl⟩ v_p_form p_form h37 r42 hr43) ?_)
  rintro _ wd44 ⟨he45, cs50, rfl, hrd51⟩
  have e52 := e38.trans he45
  have e53 := he30.trans he45
  have e54 := e39.trans he45
  obtain ⟨v46, v48, h47, h49, rfl⟩ := hrd51
  refine T0_q (v := (.tuple #[(.agg (List.toArray [(.int .i64 r42.1.LevitatePlant.Den), v46, v48])), (.int .i64 r42.2)])) rfl (yl_move rfl) ?_
  refine T0_q (v := (.agg (List.toArray [(.int .i64 r42.1.LevitatePlant.Den), v46, v48]))) rfl (yl_extract rfl rfl) ?_
  refine T0_q (v := (.int .i64 r42.2)) rfl (yl_extract rfl rfl) ?_
  refine T0_e rfl (eff_allocZ zi89 ?_)
  intro b57 wd58 hb59 he60 hB61
  have hn62 : b57 ≠ b9 := box_ne (hB13.ext e52) hb59
  have hn63 : b57 ≠ b17 := box_ne (hB21.ext e53) hb59
  have hn64 : b57 ≠ b27 := box_ne (hB31.ext he45) hb59
  have hbf65 := bfresh e54 hb59
  have h66 := (h35.ext he45).step (add_box he60 hb59)
  have h67 := (h36.ext he45).step (add_box he60 hb59)
  have h68 := (h37.ext he45).step (add_box he60 hb59)
  have h69 := h47.step (add_box he60 hb59)
  have h70 := h49.step (add_box he60 hb59)
  have e71 := e52.trans he60
  have e72 := e53.trans he60
  have e73 := he45.trans he60
  have e74 := e54.trans he60
  refine T0_e rfl (eff_storeC (vs := [(.int .i64 r42.1.LevitatePlant.Den), v46, v48]) (cs' := [(.int .i64 r42.1.LevitatePlant.Den), v46, v48]) sz89 rfl rfl rfl rfl hB61 rfl (oc_cons rfl (oc_cons h69.one1 (oc_cons h70.one1 oc_nil))) rfl ?_)
  intro wd76 hc77 hB78
  have h79 := h66.step (Stepp.chg_mem hc77 mem0)
  have h80 := h67.step (Stepp.chg_mem hc77 mem0)
  have h81 := h68.step (Stepp.chg_mem hc77 mem0)
  have h82 := (hB13.ext e71).chg hc77 (avoidb hn62)
  have h83 := (hB21.ext e72).chg hc77 (avoidb hn63)
  have h84 := (hB31.ext e73).chg hc77 (avoidb hn64)
  have h85 := h69.step (Stepp.chg_mem hc77 mem0)
  have h86 := h70.step (Stepp.chg_mem hc77 mem0)
  have e87 := chg_box e74 hc77 hbf65
  refine T0_q (v := (.int .i64 r42.2)) rfl (yl_assign rfl) ?_
  refine T0_nil ?_
  refine hK41 _ _ ?_
  refine WC_seqK fun K88 hK88 => ?_
  refine WC_region ?_
  refine T0_q (v := (.int .i64 r42.2)) rfl (yl_move rfl) ?_
  refine T0_q (v := (.pointer (some ⟨b17, 1, none⟩))) rfl (yl_ixC (i := 1) Try.underlying48 sz3 (by decide) (by decide) rfl rfl rfl) ?_
  refine T0_q (v := (.int .i64 p_rate.e1)) rfl (yl_load sc3 rfl (At.drop (Box.at h83) 1)) ?_
  have hq := bind_elim h
  clear h
  obtain ⟨r89, hr90, h⟩ := hq
  refine T0_e rfl (eff_call Try.func38 nm38 rfl (ev3 rfl rfl rfl) (levitate_within_ok [] _ (LtL.nil _) p_rate.e1 1 1000 r89 hr90) ?_)
  rintro _ wd91 ⟨he92, rfl⟩
  have e93 := e87.trans he92
  refine T0_q (v := (.bool r89)) rfl (yl_move rfl) ?_
  refine T0_g (v := (.pointer (some ⟨b17, 0, none⟩))) r89 (wanted_t rfl rfl rfl rfl) (fun hg => (yl_ixC (i := 0) Try.underlying48 sz3 (by decide) (by decide) rfl rfl rfl)) ?_
  refine T0_g (v := (.int .i64 p_rate.e0)) r89 (wanted_t rfl rfl rfl rfl) (fun hg => (yl_load sc3 (gd_true hg) (Box.at (h83.ext he92)))) ?_
  refine T0_g (v := (.pointer (some ⟨b17, 1, none⟩))) r89 (wanted_t rfl rfl rfl rfl) (fun hg => (yl_ixC (i := 1) Try.underlying48 sz3 (by decide) (by decide) rfl rfl rfl)) ?_
  refine T0_g (v := (.int .i64 p_rate.e1)) r89 (wanted_t rfl rfl rfl rfl) (fun hg => (yl_load sc3 (gd_true hg) (At.drop (Box.at (h83.ext he92)) 1))) ?_
  have hq := bind_elim h
  clear h
  obtain ⟨r94, hr95, h⟩ := hq
  refine T0_ges r89 (.bool r94) (wanted_t rfl rfl rfl rfl) (fun hg => eff_call Try.func38 nm38 rfl (ev3 (gd_true hg) rfl (gd_true hg)) (levitate_within_ok [] _ (LtL.nil _) p_rate.e0 0 p_rate.e1 r94 (cond_t hg hr95)) (by rintro _ wd96 ⟨he97, rfl⟩; exact ⟨rfl, he97⟩)) ?_
  intro wd96 he97
  have e98 := he92.trans he97
  have e99 := e93.trans he97
  refine T0_q (v := (.bool (r89 && r94))) rfl (yl_and rfl (fun hb => (gd_true hb)) rfl) ?_
  have hq := bind_elim h
  clear h
  obtain ⟨r100, hr101, h⟩ := hq
  refine T0_e rfl (eff_call Try.func40 nm40 rfl (ev2 rfl rfl) (levitate_unless_ok [] _ (LtL.nil _) (r89 && r94) 2 r100 hr101) ?_)
  rintro _ wd102 ⟨he103, rfl⟩
  have e104 := e98.trans he103
  have e105 := e99.trans he103
  refine T0_e rfl (eff_buildTC (xs := ([r42.2, r100] : List Int)) (cells := [(.int .i64 r42.2), (.int .i64 r100)]) Try.underlying108 ei30 rfl (pc_cons rfl rfl (pc_cons rfl rfl pc_nil)) rfl (Elems.cons (cs := [(.int .i64 r42.2)]) rfl (Elems.cons (cs := [(.int .i64 r100)]) rfl Elems.nil)) rfl (ltl_box (ltl_box (hL.chg e105) (h84.ext e104)) (hB78.ext e104)) ?_)
  intro b109 wd106 he107 h108
  have e110 := e104.trans he107
  have e111 := e105.trans he107
  have hq := bind_elim h
  clear h
  obtain ⟨r113, hr114, h⟩ := hq
  refine T0_e rfl (eff_call Try.func39 nm39 rfl (ev1 rfl) (levitate_first_ok [] _ (LtL.nil _) (.slice (some ⟨b109, 0, none⟩) 2 2) ([r42.2, r100] : List Int) (h108.sub (fun _ h => by cases h)) r113 hr114) ?_)
  rintro _ wd115 ⟨he116, rfl⟩
  have e117 := e110.trans he116
  have e118 := e111.trans he116
  refine T0_q (v := (.int .i64 r113)) rfl (yl_assign rfl) ?_
  refine T0_nil ?_
  refine hK88 _ _ ?_
  refine WC_seqK fun K119 hK119 => ?_
  refine WC_seqK fun K120 hK120 => ?_
  refine WC_region ?_
  refine T0_q (v := (.int .i64 r113)) rfl (yl_move rfl) ?_
  refine T0_q (v := (.bool (decide (r113 = 0)))) rfl (yl_eql rfl rfl) ?_
  refine T0_nil ?_
  refine hK120 _ _ ?_
  have hq := bind_elim h
  clear h
  obtain ⟨o158, ho159, hn160⟩ := hq
  refine WC_post (fun (ρ : Env) (wd136 : World) => ∃ (x144 : Int), x144 = o158 ∧ ρ 1 = v_p_form ∧ ρ 3 = (.pointer (some ⟨b9, 0, none⟩)) ∧ ρ 5 = (.pointer (some ⟨b17, 0, none⟩)) ∧ ρ 6 = (.pointer (some ⟨b27, 0, none⟩)) ∧ ρ 9 = (.pointer (some ⟨b57, 0, none⟩)) ∧ ρ 10 = (.int .i64 x144) ∧ SlRd ((.pointer (some ⟨b57, 0, none⟩)) :: (.pointer (some ⟨b27, 0, none⟩)) :: L) wd136 v_p_form p_form ∧ SlRd ((.pointer (some ⟨b57, 0, none⟩)) :: (.pointer (some ⟨b27, 0, none⟩)) :: L) wd136 v46 r42.1.LevitatePlant.Maps ∧ SlRd ((.pointer (some ⟨b57, 0, none⟩)) :: (.pointer (some ⟨b27, 0, none⟩)) :: L) wd136 v48 r42.1.LevitatePlant.Noise ∧ SlRd ((.pointer (some ⟨b57, 0, none⟩)) :: (.pointer (some ⟨b27, 0, none⟩)) :: L) wd136 v1 p_p.Maps ∧ SlRd ((.pointer (some ⟨b57, 0, none⟩)) :: (.pointer (some ⟨b27, 0, none⟩)) :: L) wd136 v3 p_p.Noise ∧ Box wd136 b17 [(.int .i64 p_rate.e0), (.int .i64 p_rate.e1)] 48 ∧ Box wd136 b27 [(.int .i64 0), (.slice none 0 0), (.slice none 0 0)] 89 ∧ Box wd136 b57 [(.int .i64 r42.1.LevitatePlant.Den), v46, v48] 89 ∧ Box wd136 b9 [(.int .i64 p_p.Den), v1, v3] 25 ∧ Ext w wd136) ?_ ?_
  · clear hK119 hK120 hK41 hK8 hK88
    intro K161 hK161
    replace h := ho159
    clear ho159
    refine WC_cond (b := (decide (r113 = 0))) rfl (fun hb162 => ?_) (fun hb162 => ?_)
    · replace h := cond_t hb162 h
      refine WC_region ?_
      refine T0_q (v := v_p_form) rfl (yl_move rfl) ?_
      have hq := bind_elim h
      clear h
      obtain ⟨r163, hr164, h⟩ := hq
      refine T0_e rfl (eff_call Try.func77 nm77 rfl (ev1 rfl) (levitate_positive_ok [] _ (LtL.nil _) v_p_form p_form ((h81.ext e117).sub (fun _ h => by cases h)) r163 hr164) ?_)
      rintro _ wd165 ⟨he166, rfl⟩
      have e168 := e117.trans he166
      have e169 := e118.trans he166
      have hq := bind_elim h
      clear h
      obtain ⟨r170, hr171, h⟩ := hq
      refine T0_e rfl (eff_call Try.func40 nm40 rfl (ev2 rfl rfl) (levitate_unless_ok [] _ (LtL.nil _) r163 20 r170 hr171) ?_)
      rintro _ wd172 ⟨he173, rfl⟩
      have e175 := e168.trans he173
      have e176 := e169.trans he173
      refine T0_q (v := (.int .i64 r170)) rfl (yl_assign rfl) ?_
      refine T0_nil ?_
      replace h := some_out h
      subst h
      refine hK161 _ _ ?_
      exact ⟨r170, rfl, rfl, rfl, rfl, rfl, rfl, rfl, (h81.ext e175), (h85.ext e175), (h86.ext e175), (h79.ext e175), (h80.ext e175), (h83.ext e175), (h84.ext e175), (hB78.ext e175), (h82.ext e175), e176⟩
    · replace h := cond_f hb162 h
      refine WC_skip ?_
      replace h := some_out h
      subst h
      refine hK161 _ _ ?_
      exact ⟨r113, rfl, rfl, rfl, rfl, rfl, rfl, rfl, (h81.ext e117), (h85.ext e117), (h86.ext e117), (h79.ext e117), (h80.ext e117), (h83.ext e117), (h84.ext e117), (hB78.ext e117), (h82.ext e117), e118⟩
  · clear hK120 hK41 hK8 hK88
    rintro ρ wd136 ⟨x144, rfl, hs139, hs140, hs141, hs142, hs143, hs145, h138, h150, h151, h154, h155, hB147, hB149, hB153, hB157, e137⟩
    replace h := hn160
    refine hK119 _ _ ?_
    refine WC_seqK fun K177 hK177 => ?_
    refine WC_seqK fun K178 hK178 => ?_
    refine WC_region ?_
    refine T0_q (v := (.int .i64 x144)) rfl (yl_move hs145) ?_
    refine T0_q (v := (.bool (!decide (x144 = 0)))) rfl (yl_neq rfl rfl) ?_
    refine T0_nil ?_
    refine hK178 _ _ ?_
    refine WC_cond (b := (!decide (x144 = 0))) rfl (fun hb179 => ?_) (fun hb179 => ?_)
    · clear hK119 hK177 hK178
      replace h := cond_t hb179 h
      refine WC_seqK fun K180 hK180 => ?_
      refine WC_region ?_
      refine T0_q (v := (.agg (List.toArray [(.int .i64 r42.1.LevitatePlant.Den), v46, v48]))) rfl (yl_loadA (cs := [(.int .i64 r42.1.LevitatePlant.Den), v46, v48]) ag89 hs143 (Box.at hB153)) ?_
      refine T0_q (v := (.int .i64 x144)) rfl (yl_move hs145) ?_
      refine T0_e rfl (eff_storeC (vs := [(.int .i64 r42.1.LevitatePlant.Den), v46, v48]) (cs' := [(.int .i64 r42.1.LevitatePlant.Den), v46, v48]) sz89 rfl rfl hs142 rfl hB149 rfl (oc_cons rfl (oc_cons h150.one1 (oc_cons h151.one1 oc_nil))) rfl ?_)
      intro wd181 hc182 hB183
      have h186 := h150.step (Stepp.chg_mem hc182 (memS mem0))
      have h187 := h151.step (Stepp.chg_mem hc182 (memS mem0))
      have e192 := chg_box e137 hc182 hbf34
      refine T0_q (v := (.int .i64 0)) rfl (yl_assign rfl) ?_
      refine T0_q (v := (.int .i64 x144)) rfl (yl_assign rfl) ?_
      refine T0_nil ?_
      refine hK180 _ _ ?_
      refine WC_ret ?_
      replace h := some_out h
      subst h
      exact ⟨[(.agg (List.toArray [(.int .i64 r42.1.LevitatePlant.Den), v46, v48])), (.int .i64 0), (.int .i64 x144)], ⟨⟨_, hs142, run_loadVarA (cs := [(.int .i64 r42.1.LevitatePlant.Den), v46, v48]) ag89 (Box.at hB183)⟩, rfl, rfl, trivial⟩, e192, [(.int .i64 r42.1.LevitatePlant.Den), v46, v48], rfl, ⟨v46, v48, (h186.sub (sub_skip (sub_skip (sub_refl _)))), (h187.sub (sub_skip (sub_skip (sub_refl _)))), rfl⟩⟩
    · clear hK119 hK178
      replace h := cond_f hb179 h
      refine WC_skip ?_
      refine hK177 _ _ ?_
      refine WC_seqK fun K193 hK193 => ?_
      refine WC_seqK fun K194 hK194 => ?_
      refine WC_region ?_
      refine T0_q (v := (.pointer (some ⟨b9, 1, none⟩))) rfl (yl_fa 1 Try.underlying25 rfl rfl ⟨0, sz22⟩ hs140 rfl) ?_
      refine T0_q (v := v1) rfl (yl_load sc22 rfl (At.drop (Box.at hB157) 1)) ?_
      refine T0_q (v := (.int .i64 (p_p.Maps.length : Int))) rfl (yl_lenR rfl Try.underlying22 h154 rfl) ?_
      refine T0_q (v := (.int .i64 0)) rfl (yl_move rfl) ?_
      refine T0_nil ?_
      refine hK194 _ _ ?_
      have hq := bind_elim h
      clear h
      obtain ⟨o342, hl343, hn344⟩ := hq
      refine WC_post (fun (ρ : Env) (wd332 : World) => .inr () = o342 ∧ ρ 6 = (.pointer (some ⟨b27, 0, none⟩)) ∧ ρ 9 = (.pointer (some ⟨b57, 0, none⟩)) ∧ SlRd ((.pointer (some ⟨b57, 0, none⟩)) :: (.pointer (some ⟨b27, 0, none⟩)) :: L) wd332 v46 r42.1.LevitatePlant.Maps ∧ SlRd ((.pointer (some ⟨b57, 0, none⟩)) :: (.pointer (some ⟨b27, 0, none⟩)) :: L) wd332 v48 r42.1.LevitatePlant.Noise ∧ Box wd332 b27 [(.int .i64 0), (.slice none 0 0), (.slice none 0 0)] 89 ∧ Box wd332 b57 [(.int .i64 r42.1.LevitatePlant.Den), v46, v48] 89 ∧ Ext w wd332) ?_ ?_
      · clear hK177 hK193 hK194
        intro K348 hK348
        refine WC_block ?_
        refine WC_loopk (fun sv ρ wd314 => ∃ (x322 : Int), x322 = sv ∧ ρ 1 = v_p_form ∧ ρ 5 = (.pointer (some ⟨b17, 0, none⟩)) ∧ ρ 6 = (.pointer (some ⟨b27, 0, none⟩)) ∧ ρ 9 = (.pointer (some ⟨b57, 0, none⟩)) ∧ ρ 43 = (.int .i64 (p_p.Maps.length : Int)) ∧ ρ 44 = (.int .i64 x322) ∧ SlRd ((.pointer (some ⟨b57, 0, none⟩)) :: (.pointer (some ⟨b27, 0, none⟩)) :: L) wd314 v_p_form p_form ∧ SlRd ((.pointer (some ⟨b57, 0, none⟩)) :: (.pointer (some ⟨b27, 0, none⟩)) :: L) wd314 v46 r42.1.LevitatePlant.Maps ∧ SlRd ((.pointer (some ⟨b57, 0, none⟩)) :: (.pointer (some ⟨b27, 0, none⟩)) :: L) wd314 v48 r42.1.LevitatePlant.Noise ∧ Box wd314 b17 [(.int .i64 p_rate.e0), (.int .i64 p_rate.e1)] 48 ∧ Box wd314 b27 [(.int .i64 0), (.slice none 0 0), (.slice none 0 0)] 89 ∧ Box wd314 b57 [(.int .i64 r42.1.LevitatePlant.Den), v46, v48] 89 ∧ Ext w wd314) hl343 ⟨0, rfl, hs139, hs141, hs142, hs143, rfl, rfl, h138, h150, h151, hB147, hB149, hB153, e137⟩ ?_
        rintro _ ρ wd314 ⟨x322, rfl, hs317, hs318, hs319, hs320, hs321, hs323, h316, h328, h329, hB325, hB327, hB331, e315⟩ x345 h hx346 K347 hK347
        refine WC_seqK fun K350 hK350 => ?_
        refine WC_region ?_
        refine T0_q (v := (.bool (decide (x322 < (p_p.Maps.length : Int))))) rfl (yl_lss hs323 hs321) ?_
        refine T0_nil ?_
        refine hK350 _ _ ?_
        refine WC_seqK fun K351 hK351 => ?_
        refine WC_cond (b := (decide (x322 < (p_p.Maps.length : Int)))) rfl (fun hb352 => ?_) (fun hb352 => ?_)
        · clear hK348 hK350
          replace h := cond_t hb352 h
          refine WC_skip ?_
          refine hK351 _ _ ?_
          refine WC_seqK fun K353 hK353 => ?_
          refine WC_block ?_
          refine WC_seqK fun K354 hK354 => ?_
          refine WC_region ?_
          refine T0_q (v := (.int .i64 x322)) rfl (yl_move hs323) ?_
          refine T0_q (v := (.int .i64 x322)) rfl (yl_assign rfl) ?_
          refine T0_nil ?_
          refine hK354 _ _ ?_
          refine WC_seqK fun K355 hK355 => ?_
          refine WC_region ?_
          refine T0_q (v := (.agg (List.toArray [(.int .i64 r42.1.LevitatePlant.Den), v46, v48]))) rfl (yl_loadA (cs := [(.int .i64 r42.1.LevitatePlant.Den), v46, v48]) ag89 hs320 (Box.at hB331)) ?_
          refine T0_q (v := (.int .i64 x322)) rfl (yl_move rfl) ?_
          refine T0_q (v := v_p_form) rfl (yl_move hs317) ?_
          refine T0_q (v := (.agg (List.toArray [(.int .i64 p_rate.e0), (.int .i64 p_rate.e1)]))) rfl (yl_loadA (cs := [(.int .i64 p_rate.e0), (.int .i64 p_rate.e1)]) ag48 hs318 (Box.at hB325)) ?_
          have hq := bind_elim h
          clear h
          obtain ⟨r356, hr357, h⟩ := hq
          refine T0_e rfl (eff_call Try.func78 nm78 rfl (ev4 rfl rfl rfl rfl) (levitate_plant_lessens_ok [] _ (LtL.nil _) [(.int .i64 r42.1.LevitatePlant.Den), v46, v48] (levitate_plant.mk (LevitatePlant.mk r42.1.LevitatePlant.Den r42.1.LevitatePlant.Maps r42.1.LevitatePlant.Noise)) ⟨v46, v48, (h328.sub (fun _ h => by cases h)), (h329.sub (fun _ h => by cases h)), rfl⟩ x322 v_p_form p_form (h316.sub (fun _ h => by cases h)) [(.int .i64 p_rate.e0), (.int .i64 p_rate.e1)] p_rate rfl r356 hr357) ?_)
          rintro _ wd358 ⟨he359, rfl⟩
          have e360 := e315.trans he359
          refine T0_q (v := (.bool (!r356))) rfl (yl_not rfl) ?_
          refine T0_nil ?_
          refine hK355 _ _ ?_
          refine WC_cond (b := (!r356)) rfl (fun hb361 => ?_) (fun hb361 => ?_)
          · clear hK347 hK351 hK353 hK354 hK355
            replace h := cond_t hb361 h
            refine WC_seqK fun K362 hK362 => ?_
            refine WC_region ?_
            refine T0_q (v := (.agg (List.toArray [(.int .i64 r42.1.LevitatePlant.Den), v46, v48]))) rfl (yl_loadA (cs := [(.int .i64 r42.1.LevitatePlant.Den), v46, v48]) ag89 hs320 (Box.at (hB331.ext he359))) ?_
            refine T0_q (v := (.int .i64 x322)) rfl (yl_move rfl) ?_
            refine T0_e rfl (eff_storeC (vs := [(.int .i64 r42.1.LevitatePlant.Den), v46, v48]) (cs' := [(.int .i64 r42.1.LevitatePlant.Den), v46, v48]) sz89 rfl rfl hs319 rfl (hB327.ext he359) rfl (oc_cons rfl (oc_cons h328.one1 (oc_cons h329.one1 oc_nil))) rfl ?_)
            intro wd363 hc364 hB365
            have h368 := (h328.ext he359).step (Stepp.chg_mem hc364 (memS mem0))
            have h369 := (h329.ext he359).step (Stepp.chg_mem hc364 (memS mem0))
            have e371 := chg_box e360 hc364 hbf34
            refine T0_q (v := (.int .i64 x322)) rfl (yl_assign rfl) ?_
            refine T0_q (v := (.int .i64 24)) rfl (yl_assign rfl) ?_
            refine T0_nil ?_
            refine hK362 _ _ ?_
            refine WC_ret ?_
            replace h := some_out h
            subst h
            have ho := hx346 _ rfl
            subst ho
            replace h := jn0_inl hn344
            replace h := some_out h
            subst h
            exact ⟨[(.agg (List.toArray [(.int .i64 r42.1.LevitatePlant.Den), v46, v48])), (.int .i64 x322), (.int .i64 24)], ⟨⟨_, hs319, run_loadVarA (cs := [(.int .i64 r42.1.LevitatePlant.Den), v46, v48]) ag89 (Box.at hB365)⟩, rfl, rfl, trivial⟩, e371, [(.int .i64 r42.1.LevitatePlant.Den), v46, v48], rfl, ⟨v46, v48, (h368.sub (sub_skip (sub_skip (sub_refl _)))), (h369.sub (sub_skip (sub_skip (sub_refl _)))), rfl⟩⟩
          · clear hK351 hK354 hK355
            replace h := cond_f hb361 h
            refine WC_skip ?_
            refine hK353 _ _ ?_
            refine WC_region ?_
            refine T0_q (v := (.int .i64 (w64 (x322 + 1)))) rfl (yl_add hs323 rfl) ?_
            refine T0_q (v := (.int .i64 (w64 (x322 + 1)))) rfl (yl_move rfl) ?_
            refine T0_nil ?_
            replace h := some_out h
            subst h
            refine hK347 _ _ _ rfl ?_
            exact ⟨w64 (x322 + 1), rfl, hs317, hs318, hs319, hs320, hs321, rfl, (h316.ext he359), (h328.ext he359), (h329.ext he359), (hB325.ext he359), (hB327.ext he359), (hB331.ext he359), e360⟩
        · clear hK347 hK350 hK351
          replace h := cond_f hb352 h
          refine WC_exit ?_
          replace h := some_out h
          subst h
          have ho := hx346 _ rfl
          subst ho
          refine hK348 _ _ ?_
          exact ⟨rfl, hs319, hs320, h328, h329, hB327, hB331, e315⟩
      · clear hK177 hK194
        rintro ρ wd332 ⟨rfl, hs334, hs335, h338, h339, hB337, hB341, e333⟩
        replace h := jn0_inr hn344
        refine hK193 _ _ ?_
        refine WC_seqK fun K372 hK372 => ?_
        refine WC_region ?_
        refine T0_q (v := (.agg (List.toArray [(.int .i64 r42.1.LevitatePlant.Den), v46, v48]))) rfl (yl_loadA (cs := [(.int .i64 r42.1.LevitatePlant.Den), v46, v48]) ag89 hs335 (Box.at hB341)) ?_
        refine T0_e rfl (eff_storeC (vs := [(.int .i64 r42.1.LevitatePlant.Den), v46, v48]) (cs' := [(.int .i64 r42.1.LevitatePlant.Den), v46, v48]) sz89 rfl rfl hs334 rfl hB337 rfl (oc_cons rfl (oc_cons h338.one1 (oc_cons h339.one1 oc_nil))) rfl ?_)
        intro wd373 hc374 hB375
        have h376 := h338.step (Stepp.chg_mem hc374 (memS mem0))
        have h377 := h339.step (Stepp.chg_mem hc374 (memS mem0))
        have e379 := chg_box e333 hc374 hbf34
        refine T0_q (v := (.int .i64 0)) rfl (yl_assign rfl) ?_
        refine T0_q (v := (.int .i64 0)) rfl (yl_assign rfl) ?_
        refine T0_nil ?_
        refine hK372 _ _ ?_
        refine WC_ret ?_
        replace h := some_out h
        subst h
        exact ⟨[(.agg (List.toArray [(.int .i64 r42.1.LevitatePlant.Den), v46, v48])), (.int .i64 0), (.int .i64 0)], ⟨⟨_, hs334, run_loadVarA (cs := [(.int .i64 r42.1.LevitatePlant.Den), v46, v48]) ag89 (Box.at hB375)⟩, rfl, rfl, trivial⟩, e379, [(.int .i64 r42.1.LevitatePlant.Den), v46, v48], rfl, ⟨v46, v48, (h376.sub (sub_skip (sub_skip (sub_refl _)))), (h377.sub (sub_skip (sub_skip (sub_refl _)))), rfl⟩⟩

noncomputable def levitate_plant_boxErr_spec (p_p : levitate_plant) (p_box : (List Int)) : Option Int :=
  (Option.bind (slices_ContainsFunc_int_102_spec p_box) fun r18 =>
  (Option.bind (levitate_plant_stateErr_spec p_p p_box) fun r25 =>
  (Option.bind (levitate_unless_spec (!r18) 2) fun r32 =>
  (Option.bind (levitate_first_spec ([r25, r32] : List Int)) fun r47 =>
  some r47
  )
  )
  )
  )
theorem levitate_plant_boxErr_ok (L : List Value) (w : World) (hL : LtL L w) (cs_p_p : List Value) (p_p : levitate_plant) (h_p_p : Rep.rd L w cs_p_p p_p) (v_p_box : Value) (p_box : (List Int)) (h_p_box : SlRd L w v_p_box p_box) (r : Int) (h : levitate_plant_boxErr_spec p_p p_box = some r) :
    CallsTo Try.prog 75 [(.agg cs_p_p.toArray), v_p_box] w (fun v w' => Ext w w' ∧ (.int .i64 r) = v) := by
  have e0 : Ext w w := Chg.refl _ _
  obtain ⟨v1, v3, h2, h4, rfl⟩ := h_p_p
  refine callsTo_of_WC (n := 16) (rs := [.tmp 4]) Try.func75 rfl rfl rfl rfl rfl ?_
  refine WC_seqK fun K8 hK8 => ?_
  refine WC_region ?_
  refine T0_e rfl (eff_boxC (cs := [(.int .i64 p_p.LevitatePlant.Den), v1, v3]) rfl rfl ?_)
  intro b9 wd10 hb11 he12 hB13
  have e15 := e0.trans he12
  refine T0_q (v := (.int .i64 0)) rfl (yl_assign rfl) ?_
  refine T0_nil ?_
  refine hK8 _ _ ?_
  refine WC_seqK fun K17 hK17 => ?_
  refine WC_region ?_
  refine T0_q (v := v_p_box) rfl (yl_move rfl) ?_
  have hq := bind_elim h
  clear h
  obtain ⟨r18, hr19, h⟩ := hq
  refine T0_e rfl (eff_call Try.func36 nm36 rfl (ev2 rfl rfl) (slices_ContainsFunc_int_102_ok [] _ (LtL.nil _) v_p_box p_box ((h_p_box.ext he12).sub (fun _ h => by cases h)) r18 hr19) ?_)
  rintro _ wd20 ⟨he21, rfl⟩
  have e22 := he12.trans he21
  have e23 := e15.trans he21
  refine T0_q (v := (.bool r18)) rfl (yl_assign rfl) ?_
  refine T0_nil ?_
  refine hK17 _ _ ?_
  refine WC_seqK fun K24 hK24 => ?_
  refine WC_region ?_
  refine T0_q (v := (.agg (List.toArray [(.int .i64 p_p.LevitatePlant.Den), v1, v3]))) rfl (yl_loadA (cs := [(.int .i64 p_p.LevitatePlant.Den), v1, v3]) ag89 rfl (Box.at (hB13.ext he21))) ?_
  refine T0_q (v := v_p_box) rfl (yl_move rfl) ?_
  have hq := bind_elim h
  clear h
  obtain ⟨r25, hr26, h⟩ := hq
  refine T0_e rfl (eff_call Try.func103 nm103 rfl (ev2 rfl rfl) (levitate_plant_stateErr_ok [] _ (LtL.nil _) [(.int .i64 p_p.LevitatePlant.Den), v1, v3] p_p ⟨v1, v3, ((h2.ext e22).sub (fun _ h => by cases h)), ((h4.ext e22).sub (fun _ h => by cases h)), rfl⟩ v_p_box p_box ((h_p_box.ext e22).sub (fun _ h => by cases h)) r25 hr26) ?_)
  rintro _ wd27 ⟨he28, rfl⟩
  have e31 := e23.trans he28
  refine T0_q (v := (.bool r18)) rfl (yl_move rfl) ?_
  refine T0_q (v := (.bool (!r18))) rfl (yl_not rfl) ?_
  have hq := bind_elim h
  clear h
  obtain ⟨r32, hr33, h⟩ := hq
  refine T0_e rfl (eff_call Try.func40 nm40 rfl (ev2 rfl rfl) (levitate_unless_ok [] _ (LtL.nil _) (!r18) 2 r32 hr33) ?_)
  rintro _ wd34 ⟨he35, rfl⟩
  have e38 := e31.trans he35
  refine T0_e rfl (eff_buildTC (xs := ([r25, r32] : List Int)) (cells := [(.int .i64 r25), (.int .i64 r32)]) Try.underlying108 ei30 rfl (pc_cons rfl rfl (pc_cons rfl rfl pc_nil)) rfl (Elems.cons (cs := [(.int .i64 r25)]) rfl (Elems.cons (cs := [(.int .i64 r32)]) rfl Elems.nil)) rfl (hL.chg e38) ?_)
  intro b42 wd39 he40 h41
  have e45 := e38.trans he40
  have hq := bind_elim h
  clear h
  obtain ⟨r47, hr48, h⟩ := hq
  refine T0_e rfl (eff_call Try.func39 nm39 rfl (ev1 rfl) (levitate_first_ok [] _ (LtL.nil _) (.slice (some ⟨b42, 0, none⟩) 2 2) ([r25, r32] : List Int) (h41.sub (fun _ h => by cases h)) r47 hr48) ?_)
  rintro _ wd49 ⟨he50, rfl⟩
  have e53 := e45.trans he50
  refine T0_q (v := (.int .i64 r47)) rfl (yl_assign rfl) ?_
  refine T0_nil ?_
  refine hK24 _ _ ?_
  refine WC_ret ?_
  replace h := some_out h
  subst h
  exact ⟨[(.int .i64 r47)], ⟨rfl, trivial⟩, e53, rfl⟩

noncomputable def levitate_openRun_s0 (p_l : (List LevitateSample)) (r32 : (levitate_plant × Int)) : (Int) → Option ((Int) ⊕ ((levitate_plant × Int) ⊕ (Unit))) := fun x358 =>
  (bif (decide (x358 < (p_l.length : Int))) then (
    (Option.bind (idx p_l x358) fun el389 =>
    (Option.bind (levitate_plant_sampleErr_spec (levitate_plant.mk (LevitatePlant.mk r32.1.LevitatePlant.Den r32.1.LevitatePlant.Maps r32.1.LevitatePlant.Noise)) el389) fun r423 =>
    (bif (!decide (r423 = 0)) then (
      some (.inr (.inl ((levitate_plant.mk (LevitatePlant.mk r32.1.LevitatePlant.Den r32.1.LevitatePlant.Maps r32.1.LevitatePlant.Noise)), r423)))
    ) else (
      some (.inl (w64 (x358 + 1)))
    ))
    )
    )
  ) else (
    some (.inr (.inr ()))
  ))
noncomputable def levitate_openRun_spec (p_p : LevitatePlant) (p_x : (List Int)) (p_l : (List LevitateSample)) : Option (levitate_plant × Int) :=
  (Option.bind (levitate_open_spec p_p) fun r32 =>
  (bif (!decide (r32.2 = 0)) then (
    some ((levitate_plant.mk (LevitatePlant.mk r32.1.LevitatePlant.Den r32.1.LevitatePlant.Maps r32.1.LevitatePlant.Noise)), r32.2)
  ) else (
    (Option.bind (levitate_plant_stateErr_spec (levitate_plant.mk (LevitatePlant.mk r32.1.LevitatePlant.Den r32.1.LevitatePlant.Maps r32.1.LevitatePlant.Noise)) p_x) fun r94 =>
    (Option.bind (levitate_unless_spec (decide ((p_l.length : Int) ≤ 60)) 8) fun r99 =>
    (Option.bind (levitate_first_spec ([r94, r99] : List Int)) fun r112 =>
    (bif (!decide (r112 = 0)) then (
      some ((levitate_plant.mk (LevitatePlant.mk r32.1.LevitatePlant.Den r32.1.LevitatePlant.Maps r32.1.LevitatePlant.Noise)), r112)
    ) else (
      (Option.bind (loop (levitate_openRun_s0 p_l r32) 0) fun o376 => jn0 o376 fun (_ : Unit) =>
      some ((levitate_plant.mk (LevitatePlant.mk r32.1.LevitatePlant.Den r32.1.LevitatePlant.Maps r32.1.LevitatePlant.Noise)), 0)
      )
    ))
    )
    )
    )
  ))
  )
theorem levitate_openRun_ok (L : List Value) (w : World) (hL : LtL L w) (cs_p_p : List Value) (p_p : LevitatePlant) (h_p_p : Rep.rd L w cs_p_p p_p) (v_p_x : Value) (p_x : (List Int)) (h_p_x : SlRd L w v_p_x p_x) (v_p_l : Value) (p_l : (List LevitateSample)) (h_p_l : SlRd L w v_p_l p_l) (r : levitate_plant × Int) (h : levitate_openRun_spec p_p p_x p_l = some r) :
    CallsTo Try.prog 89 [(.agg cs_p_p.toArray), v_p_x, v_p_l] w (fun v w' => Ext w w' ∧ ∃ (cs0 : List Value), (.tuple #[(.agg cs0.toArray), (.int .i64 r.2)]) = v ∧ Rep.rd L w' cs0 r.1) := by
  have e0 : Ext w w := Chg.refl _ _
  obtain ⟨v1, v3, h2, h4, rfl⟩ := h_p_p
  refine callsTo_of_WC (n := 51) (rs := [.cell 6 89, .tmp 7]) Try.func89 rfl rfl rfl rfl rfl ?_
  refine WC_seqK fun K9 hK9 => ?_
  refine WC_region ?_
  refine T0_e rfl (eff_boxC (cs := [(.int .i64 p_p.Den), v1, v3]) rfl rfl ?_)
  intro b10 wd11 hb12 he13 hB14
  have e16 := e0.trans he13
  refine T0_e rfl (eff_allocZ zi89 ?_)
  intro b18 wd19 hb20 he21 hB22
  have hbf24 := bfresh e16 hb20
  have h25 := (h2.ext he13).step (add_box he21 hb20)
  have h26 := (h4.ext he13).step (add_box he21 hb20)
  have h27 := (h_p_x.ext he13).step (add_box he21 hb20)
  have h28 := (h_p_l.ext he13).step (add_box he21 hb20)
  have e29 := e16.trans he21
  refine T0_q (v := (.int .i64 0)) rfl (yl_assign rfl) ?_
  refine T0_nil ?_
  refine hK9 _ _ ?_
  refine WC_seqK fun K31 hK31 => ?_
  refine WC_region ?_
  refine T0_q (v := (.agg (List.toArray [(.int .i64 p_p.Den), v1, v3]))) rfl (yl_loadA (cs := [(.int .i64 p_p.Den), v1, v3]) ag25 rfl (Box.at (hB14.ext he21))) ?_
  have hq := bind_elim h
  clear h
  obtain ⟨r32, hr33, h⟩ := hq
  refine T0_e rfl (eff_call Try.func74 nm74 rfl (ev1 rfl) (levitate_open_ok ((.pointer (some ⟨b18, 0, none⟩)) :: L) _ (ltl_box (hL.chg e29) hB22) [(.int .i64 p_p.Den), v1, v3] p_p ⟨v1, v3, h25, h26, rfl⟩ r32 hr33) ?_)
  rintro _ wd34 ⟨he35, cs40, rfl, hrd41⟩
  have e43 := e29.trans he35
  obtain ⟨v36, v38, h37, h39, rfl⟩ := hrd41
  refine T0_q (v := (.tuple #[(.agg (List.toArray [(.int .i64 r32.1.LevitatePlant.Den), v36, v38])), (.int .i64 r32.2)])) rfl (yl_move rfl) ?_
  refine T0_q (v := (.agg (List.toArray [(.int .i64 r32.1.LevitatePlant.Den), v36, v38]))) rfl (yl_extract rfl rfl) ?_
  refine T0_q (v := (.int .i64 r32.2)) rfl (yl_extract rfl rfl) ?_
  refine T0_e rfl (eff_allocZ zi89 ?_)
  intro b46 wd47 hb48 he49 hB50
  have hn52 : b46 ≠ b18 := box_ne (hB22.ext he35) hb48
  have hbf53 := bfresh e43 hb48
  have h56 := (h27.ext he35).step (add_box he49 hb48)
  have h57 := (h28.ext he35).step (add_box he49 hb48)
  have h58 := h37.step (add_box he49 hb48)
  have h59 := h39.step (add_box he49 hb48)
  have e61 := he35.trans he49
  have e62 := e43.trans he49
  refine T0_e rfl (eff_storeC (vs := [(.int .i64 r32.1.LevitatePlant.Den), v36, v38]) (cs' := [(.int .i64 r32.1.LevitatePlant.Den), v36, v38]) sz89 rfl rfl rfl rfl hB50 rfl (oc_cons rfl (oc_cons h58.one1 (oc_cons h59.one1 oc_nil))) rfl ?_)
  intro wd64 hc65 hB66
  have h69 := h56.step (Stepp.chg_mem hc65 mem0)
  have h70 := h57.step (Stepp.chg_mem hc65 mem0)
  have h72 := (hB22.ext e61).chg hc65 (avoidb hn52)
  have h73 := h58.step (Stepp.chg_mem hc65 mem0)
  have h74 := h59.step (Stepp.chg_mem hc65 mem0)
  have e75 := chg_box e62 hc65 hbf53
  refine T0_q (v := (.int .i64 r32.2)) rfl (yl_assign rfl) ?_
  refine T0_nil ?_
  refine hK31 _ _ ?_
  refine WC_seqK fun K76 hK76 => ?_
  refine WC_seqK fun K77 hK77 => ?_
  refine WC_region ?_
  refine T0_q (v := (.int .i64 r32.2)) rfl (yl_move rfl) ?_
  refine T0_q (v := (.bool (!decide (r32.2 = 0)))) rfl (yl_neq rfl rfl) ?_
  refine T0_nil ?_
  refine hK77 _ _ ?_
  refine WC_cond (b := (!decide (r32.2 = 0))) rfl (fun hb78 => ?_) (fun hb78 => ?_)
  · clear hK31 hK76 hK77 hK9
    replace h := cond_t hb78 h
    refine WC_seqK fun K79 hK79 => ?_
    refine WC_region ?_
    refine T0_q (v := (.agg (List.toArray [(.int .i64 r32.1.LevitatePlant.Den), v36, v38]))) rfl (yl_loadA (cs := [(.int .i64 r32.1.LevitatePlant.Den), v36, v38]) ag89 rfl (Box.at hB66)) ?_
    refine T0_q (v := (.int .i64 r32.2)) rfl (yl_move rfl) ?_
    refine T0_e rfl (eff_storeC (vs := [(.int .i64 r32.1.LevitatePlant.Den), v36, v38]) (cs' := [(.int .i64 r32.1.LevitatePlant.Den), v36, v38]) sz89 rfl rfl rfl rfl h72 rfl (oc_cons rfl (oc_cons h73.one1 (oc_cons h74.one1 oc_nil))) rfl ?_)
    intro wd80 hc81 hB82
    have h88 := h73.step (Stepp.chg_mem hc81 (memS mem0))
    have h89 := h74.step (Stepp.chg_mem hc81 (memS mem0))
    have e91 := chg_box e75 hc81 hbf24
    refine T0_q (v := (.int .i64 r32.2)) rfl (yl_assign rfl) ?_
    refine T0_nil ?_
    refine hK79 _ _ ?_
    refine WC_ret ?_
    replace h := some_out h
    subst h
    exact ⟨[(.agg (List.toArray [(.int .i64 r32.1.LevitatePlant.Den), v36, v38])), (.int .i64 r32.2)], ⟨⟨_, rfl, run_loadVarA (cs := [(.int .i64 r32.1.LevitatePlant.Den), v36, v38]) ag89 (Box.at hB82)⟩, rfl, trivial⟩, e91, [(.int .i64 r32.1.LevitatePlant.Den), v36, v38], rfl, ⟨v36, v38, (h88.sub (sub_skip (sub_skip (sub_refl _)))), (h89.sub (sub_skip (sub_skip (sub_refl _)))), rfl⟩⟩
  · clear hK31 hK77 hK9
    replace h := cond_f hb78 h
    refine WC_skip ?_
    refine hK76 _ _ ?_
    refine WC_seqK fun K92 hK92 => ?_
    refine WC_seqK fun K93 hK93 => ?_
    refine WC_region ?_
    refine T0_q (v := (.agg (List.toArray [(.int .i64 r32.1.LevitatePlant.Den), v36, v38]))) rfl (yl_loadA (cs := [(.int .i64 r32.1.LevitatePlant.Den), v36, v38]) ag89 rfl (Box.at hB66)) ?_
    refine T0_q (v := v_p_x) rfl (yl_move rfl) ?_
    have hq := bind_elim h
    clear h
    obtain ⟨r94, hr95, h⟩ := hq
    refine T0_e rfl (eff_call Try.func103 nm103 rfl (ev2 rfl rfl) (levitate_plant_stateErr_ok [] _ (LtL.nil _) [(.int .i64 r32.1.LevitatePlant.Den), v36, v38] (levitate_plant.mk (LevitatePlant.mk r32.1.LevitatePlant.Den r32.1.LevitatePlant.Maps r32.1.LevitatePlant.Noise)) ⟨v36, v38, (h73.sub (fun _ h => by cases h)), (h74.sub (fun _ h => by cases h)), rfl⟩ v_p_x p_x (h69.sub (fun _ h => by cases h)) r94 hr95) ?_)
    rintro _ wd96 ⟨he97, rfl⟩
    have e98 := e75.trans he97
    refine T0_q (v := v_p_l) rfl (yl_move rfl) ?_
    refine T0_q (v := (.int .i64 (p_l.length : Int))) rfl (yl_lenR rfl Try.underlying61 h70 rfl) ?_
    refine T0_q (v := (.bool (decide ((p_l.length : Int) ≤ 60)))) rfl (yl_leq rfl rfl) ?_
    have hq := bind_elim h
    clear h
    obtain ⟨r99, hr100, h⟩ := hq
    refine T0_e rfl (eff_call Try.func40 nm40 rfl (ev2 rfl rfl) (levitate_unless_ok [] _ (LtL.nil _) (decide ((p_l.length : Int) ≤ 60)) 8 r99 hr100) ?_)
    rintro _ wd101 ⟨he102, rfl⟩
    have e103 := he97.trans he102
    have e104 := e98.trans he102
    refine T0_e rfl (eff_buildTC (xs := ([r94, r99] : List Int)) (cells := [(.int .i64 r94), (.int .i64 r99)]) Try.underlying108 ei30 rfl (pc_cons rfl rfl (pc_cons rfl rfl pc_nil)) rfl (Elems.cons (cs := [(.int .i64 r94)]) rfl (Elems.cons (cs := [(.int .i64 r99)]) rfl Elems.nil)) rfl (ltl_box (ltl_box (hL.chg e104) (h72.ext e103)) (hB66.ext e103)) ?_)
    intro b108 wd105 he106 h107
    have e109 := e103.trans he106
    have e110 := e104.trans he106
    have hq := bind_elim h
    clear h
    obtain ⟨r112, hr113, h⟩ := hq
    refine T0_e rfl (eff_call Try.func39 nm39 rfl (ev1 rfl) (levitate_first_ok [] _ (LtL.nil _) (.slice (some ⟨b108, 0, none⟩) 2 2) ([r94, r99] : List Int) (h107.sub (fun _ h => by cases h)) r112 hr113) ?_)
    rintro _ wd114 ⟨he115, rfl⟩
    have e116 := e109.trans he115
    have e117 := e110.trans he115
    refine T0_q (v := (.int .i64 r112)) rfl (yl_assign rfl) ?_
    refine T0_nil ?_
    refine hK93 _ _ ?_
    refine WC_seqK fun K118 hK118 => ?_
    refine WC_region ?_
    refine T0_q (v := (.int .i64 r112)) rfl (yl_move rfl) ?_
    refine T0_q (v := (.bool (!decide (r112 = 0)))) rfl (yl_neq rfl rfl) ?_
    refine T0_nil ?_
    refine hK118 _ _ ?_
    refine WC_cond (b := (!decide (r112 = 0))) rfl (fun hb119 => ?_) (fun hb119 => ?_)
    · clear hK118 hK76 hK92 hK93
      replace h := cond_t hb119 h
      refine WC_seqK fun K120 hK120 => ?_
      refine WC_region ?_
      refine T0_q (v := (.agg (List.toArray [(.int .i64 r32.1.LevitatePlant.Den), v36, v38]))) rfl (yl_loadA (cs := [(.int .i64 r32.1.LevitatePlant.Den), v36, v38]) ag89 rfl (Box.at (hB66.ext e116))) ?_
      refine T0_q (v := (.int .i64 r112)) rfl (yl_move rfl) ?_
      refine T0_e rfl (eff_storeC (vs := [(.int .i64 r32.1.LevitatePlant.Den), v36, v38]) (cs' := [(.int .i64 r32.1.LevitatePlant.Den), v36, v38]) sz89 rfl rfl rfl rfl (h72.ext e116) rfl (oc_cons rfl (oc_cons h73.one1 (oc_cons h74.one1 oc_nil))) rfl ?_)
      intro wd121 hc122 hB123
      have h129 := (h73.ext e116).step (Stepp.chg_mem hc122 (memS mem0))
      have h130 := (h74.ext e116).step (Stepp.chg_mem hc122 (memS mem0))
      have e133 := chg_box e117 hc122 hbf24
      refine T0_q (v := (.int .i64 r112)) rfl (yl_assign rfl) ?_
      refine T0_nil ?_
      refine hK120 _ _ ?_
      refine WC_ret ?_
      replace h := some_out h
      subst h
      exact ⟨[(.agg (List.toArray [(.int .i64 r32.1.LevitatePlant.Den), v36, v38])), (.int .i64 r112)], ⟨⟨_, rfl, run_loadVarA (cs := [(.int .i64 r32.1.LevitatePlant.Den), v36, v38]) ag89 (Box.at hB123)⟩, rfl, trivial⟩, e133, [(.int .i64 r32.1.LevitatePlant.Den), v36, v38], rfl, ⟨v36, v38, (h129.sub (sub_skip (sub_skip (sub_refl _)))), (h130.sub (sub_skip (sub_skip (sub_refl _)))), rfl⟩⟩
    · clear hK118 hK76 hK93
      replace h := cond_f hb119 h
      refine WC_skip ?_
      refine hK92 _ _ ?_
      refine WC_seqK fun K134 hK134 => ?_
      refine WC_seqK fun K135 hK135 => ?_
      refine WC_region ?_
      refine T0_q (v := v_p_l) rfl (yl_move rfl) ?_
      refine T0_q (v := (.int .i64 (p_l.length : Int))) rfl (yl_lenR rfl Try.underlying61 h70 rfl) ?_
      refine T0_q (v := (.int .i64 0)) rfl (yl_move rfl) ?_
      refine T0_nil ?_
      refine hK135 _ _ ?_
      have hq := bind_elim h
      clear h
      obtain ⟨o376, hl377, hn378⟩ := hq
      refine WC_post (fun (ρ : Env) (wd366 : World) => .inr () = o376 ∧ ρ 6 = (.pointer (some ⟨b18, 0, none⟩)) ∧ ρ 8 = (.pointer (some ⟨b46, 0, none⟩)) ∧ SlRd ((.pointer (some ⟨b46, 0, none⟩)) :: (.pointer (some ⟨b18, 0, none⟩)) :: L) wd366 v36 r32.1.LevitatePlant.Maps ∧ SlRd ((.pointer (some ⟨b46, 0, none⟩)) :: (.pointer (some ⟨b18, 0, none⟩)) :: L) wd366 v38 r32.1.LevitatePlant.Noise ∧ Box wd366 b18 [(.int .i64 0), (.slice none 0 0), (.slice none 0 0)] 89 ∧ Box wd366 b46 [(.int .i64 r32.1.LevitatePlant.Den), v36, v38] 89 ∧ Ext w wd366) ?_ ?_
      · clear hK134 hK135 hK92
        intro K382 hK382
        refine WC_block ?_
        refine WC_loopk (fun sv ρ wd351 => ∃ (x358 : Int), x358 = sv ∧ ρ 6 = (.pointer (some ⟨b18, 0, none⟩)) ∧ ρ 8 = (.pointer (some ⟨b46, 0, none⟩)) ∧ ρ 36 = v_p_l ∧ ρ 37 = (.int .i64 (p_l.length : Int)) ∧ ρ 38 = (.int .i64 x358) ∧ SlRd ((.pointer (some ⟨b46, 0, none⟩)) :: (.pointer (some ⟨b18, 0, none⟩)) :: L) wd351 v_p_l p_l ∧ SlRd ((.pointer (some ⟨b46, 0, none⟩)) :: (.pointer (some ⟨b18, 0, none⟩)) :: L) wd351 v36 r32.1.LevitatePlant.Maps ∧ SlRd ((.pointer (some ⟨b46, 0, none⟩)) :: (.pointer (some ⟨b18, 0, none⟩)) :: L) wd351 v38 r32.1.LevitatePlant.Noise ∧ Box wd351 b18 [(.int .i64 0), (.slice none 0 0), (.slice none 0 0)] 89 ∧ Box wd351 b46 [(.int .i64 r32.1.LevitatePlant.Den), v36, v38] 89 ∧ Ext w wd351) hl377 ⟨0, rfl, rfl, rfl, rfl, rfl, rfl, (h70.ext e116), (h73.ext e116), (h74.ext e116), (h72.ext e116), (hB66.ext e116), e117⟩ ?_
        rintro _ ρ wd351 ⟨x358, rfl, hs353, hs354, hs356, hs357, hs359, h355, h362, h363, hB361, hB365, e352⟩ x379 h hx380 K381 hK381
        refine WC_seqK fun K384 hK384 => ?_
        refine WC_region ?_
        refine T0_q (v := (.bool (decide (x358 < (p_l.length : Int))))) rfl (yl_lss hs359 hs357) ?_
        refine T0_nil ?_
        refine hK384 _ _ ?_
        refine WC_seqK fun K385 hK385 => ?_
        refine WC_cond (b := (decide (x358 < (p_l.length : Int)))) rfl (fun hb386 => ?_) (fun hb386 => ?_)
        · clear hK382 hK384
          replace h := cond_t hb386 h
          refine WC_skip ?_
          refine hK385 _ _ ?_
          refine WC_seqK fun K387 hK387 => ?_
          refine WC_block ?_
          refine WC_seqK fun K388 hK388 => ?_
          refine WC_region ?_
          have hq := bind_elim h
          clear h
          obtain ⟨el389, hel390, h⟩ := hq
          have hq := SlRd.at h355 hel390
          obtain ⟨cs393, hat394, hrd395⟩ := hq
          obtain ⟨v391, h392, rfl⟩ := hrd395
          refine T0_q (v := (.pointer (some (elemAddr v_p_l (x358 : Int).toNat 2)))) rfl (yl_indexAddr Try.underlying61 sz70 h355 hel390 hs356 hs359) ?_
          refine T0_q (v := (.agg (List.toArray [(.int .i64 el389.Map), v391]))) rfl (yl_loadA (cs := [(.int .i64 el389.Map), v391]) ag70 rfl hat394) ?_
          refine T0_e rfl (eff_allocZ zi70 ?_)
          intro b398 wd399 hb400 he401 hB402
          have hn403 : b398 ≠ b18 := box_ne hB361 hb400
          have hn404 : b398 ≠ b46 := box_ne hB365 hb400
          have hbf405 := bfresh e352 hb400
          have h406 := h355.step (add_box he401 hb400)
          have h407 := h362.step (add_box he401 hb400)
          have h408 := h363.step (add_box he401 hb400)
          have h409 := h392.step (add_box he401 hb400)
          have e410 := e352.trans he401
          refine T0_e rfl (eff_storeC (vs := [(.int .i64 el389.Map), v391]) (cs' := [(.int .i64 el389.Map), v391]) sz70 rfl rfl rfl rfl hB402 rfl (oc_cons rfl (oc_cons h409.one1 oc_nil)) rfl ?_)
          intro wd412 hc413 hB414
          have h415 := h406.step (Stepp.chg_mem hc413 mem0)
          have h416 := (hB361.ext he401).chg hc413 (avoidb hn403)
          have h417 := h407.step (Stepp.chg_mem hc413 mem0)
          have h418 := h408.step (Stepp.chg_mem hc413 mem0)
          have h419 := (hB365.ext he401).chg hc413 (avoidb hn404)
          have h420 := h409.step (Stepp.chg_mem hc413 mem0)
          have e421 := chg_box e410 hc413 hbf405
          refine T0_nil ?_
          refine hK388 _ _ ?_
          refine WC_seqK fun K422 hK422 => ?_
          refine WC_region ?_
          refine T0_q (v := (.agg (List.toArray [(.int .i64 r32.1.LevitatePlant.Den), v36, v38]))) rfl (yl_loadA (cs := [(.int .i64 r32.1.LevitatePlant.Den), v36, v38]) ag89 hs354 (Box.at h419)) ?_
          refine T0_q (v := (.agg (List.toArray [(.int .i64 el389.Map), v391]))) rfl (yl_loadA (cs := [(.int .i64 el389.Map), v391]) ag70 rfl (Box.at hB414)) ?_
          have hq := bind_elim h
          clear h
          obtain ⟨r423, hr424, h⟩ := hq
          refine T0_e rfl (eff_call Try.func112 nm112 rfl (ev2 rfl rfl) (levitate_plant_sampleErr_ok [] _ (LtL.nil _) [(.int .i64 r32.1.LevitatePlant.Den), v36, v38] (levitate_plant.mk (LevitatePlant.mk r32.1.LevitatePlant.Den r32.1.LevitatePlant.Maps r32.1.LevitatePlant.Noise)) ⟨v36, v38, (h417.sub (fun _ h => by cases h)), (h418.sub (fun _ h => by cases h)), rfl⟩ [(.int .i64 el389.Map), v391] el389 ⟨v391, (h420.sub (fun _ h => by cases h)), rfl⟩ r423 hr424) ?_)
          rintro _ wd425 ⟨he426, rfl⟩
          have e427 := e421.trans he426
          refine T0_q (v := (.int .i64 r423)) rfl (yl_assign rfl) ?_
          refine T0_nil ?_
          refine hK422 _ _ ?_
          refine WC_seqK fun K428 hK428 => ?_
          refine WC_region ?_
          refine T0_q (v := (.int .i64 r423)) rfl (yl_move rfl) ?_
          refine T0_q (v := (.bool (!decide (r423 = 0)))) rfl (yl_neq rfl rfl) ?_
          refine T0_nil ?_
          refine hK428 _ _ ?_
          refine WC_cond (b := (!decide (r423 = 0))) rfl (fun hb429 => ?_) (fun hb429 => ?_)
          · clear hK381 hK385 hK387 hK388 hK422 hK428
            replace h := cond_t hb429 h
            refine WC_seqK fun K430 hK430 => ?_
            refine WC_region ?_
            refine T0_q (v := (.agg (List.toArray [(.int .i64 r32.1.LevitatePlant.Den), v36, v38]))) rfl (yl_loadA (cs := [(.int .i64 r32.1.LevitatePlant.Den), v36, v38]) ag89 hs354 (Box.at (h419.ext he426))) ?_
            refine T0_q (v := (.int .i64 r423)) rfl (yl_move rfl) ?_
            refine T0_e rfl (eff_storeC (vs := [(.int .i64 r32.1.LevitatePlant.Den), v36, v38]) (cs' := [(.int .i64 r32.1.LevitatePlant.Den), v36, v38]) sz89 rfl rfl hs353 rfl (h416.ext he426) rfl (oc_cons rfl (oc_cons h417.one1 (oc_cons h418.one1 oc_nil))) rfl ?_)
            intro wd431 hc432 hB433
            have h435 := (h417.ext he426).step (Stepp.chg_mem hc432 (memS (memS mem0)))
            have h436 := (h418.ext he426).step (Stepp.chg_mem hc432 (memS (memS mem0)))
            have e440 := chg_box e427 hc432 hbf24
            refine T0_q (v := (.int .i64 r423)) rfl (yl_assign rfl) ?_
            refine T0_nil ?_
            refine hK430 _ _ ?_
            refine WC_ret ?_
            replace h := some_out h
            subst h
            have ho := hx380 _ rfl
            subst ho
            replace h := jn0_inl hn378
            replace h := some_out h
            subst h
            exact ⟨[(.agg (List.toArray [(.int .i64 r32.1.LevitatePlant.Den), v36, v38])), (.int .i64 r423)], ⟨⟨_, hs353, run_loadVarA (cs := [(.int .i64 r32.1.LevitatePlant.Den), v36, v38]) ag89 (Box.at hB433)⟩, rfl, trivial⟩, e440, [(.int .i64 r32.1.LevitatePlant.Den), v36, v38], rfl, ⟨v36, v38, (h435.sub (sub_skip (sub_skip (sub_skip (sub_refl _))))), (h436.sub (sub_skip (sub_skip (sub_skip (sub_refl _))))), rfl⟩⟩
          · clear hK385 hK388 hK422 hK428
            replace h := cond_f hb429 h
            refine WC_skip ?_
            refine hK387 _ _ ?_
            refine WC_region ?_
            refine T0_q (v := (.int .i64 (w64 (x358 + 1)))) rfl (yl_add hs359 rfl) ?_
            refine T0_q (v := (.int .i64 (w64 (x358 + 1)))) rfl (yl_move rfl) ?_
            refine T0_nil ?_
            replace h := some_out h
            subst h
            refine hK381 _ _ _ rfl ?_
            exact ⟨w64 (x358 + 1), rfl, hs353, hs354, hs356, hs357, rfl, ((h415.ext he426).sub (sub_cons (memS mem0) (sub_cons (memS (memS mem0)) (sub_skip (sub_skip (sub_skip (sub_refl _))))))), ((h417.ext he426).sub (sub_cons (memS mem0) (sub_cons (memS (memS mem0)) (sub_skip (sub_skip (sub_skip (sub_refl _))))))), ((h418.ext he426).sub (sub_cons (memS mem0) (sub_cons (memS (memS mem0)) (sub_skip (sub_skip (sub_skip (sub_refl _))))))), (h416.ext he426), (h419.ext he426), e427⟩
        · clear hK381 hK384 hK385
          replace h := cond_f hb386 h
          refine WC_exit ?_
          replace h := some_out h
          subst h
          have ho := hx380 _ rfl
          subst ho
          refine hK382 _ _ ?_
          exact ⟨rfl, hs353, hs354, h362, h363, hB361, hB365, e352⟩
      · clear hK135 hK92
        rintro ρ wd366 ⟨rfl, hs368, hs369, h372, h373, hB371, hB375, e367⟩
        replace h := jn0_inr hn378
        refine hK134 _ _ ?_
        refine WC_seqK fun K441 hK441 => ?_
        refine WC_region ?_
        refine T0_q (v := (.agg (List.toArray [(.int .i64 r32.1.LevitatePlant.Den), v36, v38]))) rfl (yl_loadA (cs := [(.int .i64 r32.1.LevitatePlant.Den), v36, v38]) ag89 hs369 (Box.at hB375)) ?_
        refine T0_e rfl (eff_storeC (vs := [(.int .i64 r32.1.LevitatePlant.Den), v36, v38]) (cs' := [(.int .i64 r32.1.LevitatePlant.Den), v36, v38]) sz89 rfl rfl hs368 rfl hB371 rfl (oc_cons rfl (oc_cons h372.one1 (oc_cons h373.one1 oc_nil))) rfl ?_)
        intro wd442 hc443 hB444
        have h445 := h372.step (Stepp.chg_mem hc443 (memS mem0))
        have h446 := h373.step (Stepp.chg_mem hc443 (memS mem0))
        have e448 := chg_box e367 hc443 hbf24
        refine T0_q (v := (.int .i64 0)) rfl (yl_assign rfl) ?_
        refine T0_nil ?_
        refine hK441 _ _ ?_
        refine WC_ret ?_
        replace h := some_out h
        subst h
        exact ⟨[(.agg (List.toArray [(.int .i64 r32.1.LevitatePlant.Den), v36, v38])), (.int .i64 0)], ⟨⟨_, hs368, run_loadVarA (cs := [(.int .i64 r32.1.LevitatePlant.Den), v36, v38]) ag89 (Box.at hB444)⟩, rfl, trivial⟩, e448, [(.int .i64 r32.1.LevitatePlant.Den), v36, v38], rfl, ⟨v36, v38, (h445.sub (sub_skip (sub_skip (sub_refl _)))), (h446.sub (sub_skip (sub_skip (sub_refl _)))), rfl⟩⟩

noncomputable def levitate_openBox_spec (p_p : LevitatePlant) (p_box : (List Int)) : Option (levitate_plant × Int) :=
  (Option.bind (levitate_open_spec p_p) fun r30 =>
  (bif (!decide (r30.2 = 0)) then (
    some ((levitate_plant.mk (LevitatePlant.mk r30.1.LevitatePlant.Den r30.1.LevitatePlant.Maps r30.1.LevitatePlant.Noise)), r30.2)
  ) else (
    (Option.bind (levitate_plant_boxErr_spec (levitate_plant.mk (LevitatePlant.mk r30.1.LevitatePlant.Den r30.1.LevitatePlant.Maps r30.1.LevitatePlant.Noise)) p_box) fun r91 =>
    some ((levitate_plant.mk (LevitatePlant.mk r30.1.LevitatePlant.Den r30.1.LevitatePlant.Maps r30.1.LevitatePlant.Noise)), r91)
    )
  ))
  )
theorem levitate_openBox_ok (L : List Value) (w : World) (hL : LtL L w) (cs_p_p : List Value) (p_p : LevitatePlant) (h_p_p : Rep.rd L w cs_p_p p_p) (v_p_box : Value) (p_box : (List Int)) (h_p_box : SlRd L w v_p_box p_box) (r : levitate_plant × Int) (h : levitate_openBox_spec p_p p_box = some r) :
    CallsTo Try.prog 48 [(.agg cs_p_p.toArray), v_p_box] w (fun v w' => Ext w w' ∧ ∃ (cs0 : List Value), (.tuple #[(.agg cs0.toArray), (.int .i64 r.2)]) = v ∧ Rep.rd L w' cs0 r.1) := by
  have e0 : Ext w w := Chg.refl _ _
  obtain ⟨v1, v3, h2, h4, rfl⟩ := h_p_p
  refine callsTo_of_WC (n := 21) (rs := [.cell 4 89, .tmp 5]) Try.func48 rfl rfl rfl rfl rfl ?_
  refine WC_seqK fun K8 hK8 => ?_
  refine WC_region ?_
  refine T0_e rfl (eff_boxC (cs := [(.int .i64 p_p.Den), v1, v3]) rfl rfl ?_)
  intro b9 wd10 hb11 he12 hB13
  have e15 := e0.trans he12
  refine T0_e rfl (eff_allocZ zi89 ?_)
  intro b17 wd18 hb19 he20 hB21
  have hbf23 := bfresh e15 hb19
  have h24 := (h2.ext he12).step (add_box he20 hb19)
  have h25 := (h4.ext he12).step (add_box he20 hb19)
  have h26 := (h_p_box.ext he12).step (add_box he20 hb19)
  have e27 := e15.trans he20
  refine T0_q (v := (.int .i64 0)) rfl (yl_assign rfl) ?_
  refine T0_nil ?_
  refine hK8 _ _ ?_
  refine WC_seqK fun K29 hK29 => ?_
  refine WC_region ?_
  refine T0_q (v := (.agg (List.toArray [(.int .i64 p_p.Den), v1, v3]))) rfl (yl_loadA (cs := [(.int .i64 p_p.Den), v1, v3]) ag25 rfl (Box.at (hB13.ext he20))) ?_
  have hq := bind_elim h
  clear h
  obtain ⟨r30, hr31, h⟩ := hq
  refine T0_e rfl (eff_call Try.func74 nm74 rfl (ev1 rfl) (levitate_open_ok ((.pointer (some ⟨b17, 0, none⟩)) :: L) _ (ltl_box (hL.chg e27) hB21) [(.int .i64 p_p.Den), v1, v3] p_p ⟨v1, v3, h24, h25, rfl⟩ r30 hr31) ?_)
  rintro _ wd32 ⟨he33, cs38, rfl, hrd39⟩
  have e41 := e27.trans he33
  obtain ⟨v34, v36, h35, h37, rfl⟩ := hrd39
  refine T0_q (v := (.tuple #[(.agg (List.toArray [(.int .i64 r30.1.LevitatePlant.Den), v34, v36])), (.int .i64 r30.2)])) rfl (yl_move rfl) ?_
  refine T0_q (v := (.agg (List.toArray [(.int .i64 r30.1.LevitatePlant.Den), v34, v36]))) rfl (yl_extract rfl rfl) ?_
  refine T0_q (v := (.int .i64 r30.2)) rfl (yl_extract rfl rfl) ?_
  refine T0_e rfl (eff_allocZ zi89 ?_)
  intro b44 wd45 hb46 he47 hB48
  have hn50 : b44 ≠ b17 := box_ne (hB21.ext he33) hb46
  have hbf51 := bfresh e41 hb46
  have h54 := (h26.ext he33).step (add_box he47 hb46)
  have h55 := h35.step (add_box he47 hb46)
  have h56 := h37.step (add_box he47 hb46)
  have e58 := he33.trans he47
  have e59 := e41.trans he47
  refine T0_e rfl (eff_storeC (vs := [(.int .i64 r30.1.LevitatePlant.Den), v34, v36]) (cs' := [(.int .i64 r30.1.LevitatePlant.Den), v34, v36]) sz89 rfl rfl rfl rfl hB48 rfl (oc_cons rfl (oc_cons h55.one1 (oc_cons h56.one1 oc_nil))) rfl ?_)
  intro wd61 hc62 hB63
  have h66 := h54.step (Stepp.chg_mem hc62 mem0)
  have h68 := (hB21.ext e58).chg hc62 (avoidb hn50)
  have h69 := h55.step (Stepp.chg_mem hc62 mem0)
  have h70 := h56.step (Stepp.chg_mem hc62 mem0)
  have e71 := chg_box e59 hc62 hbf51
  refine T0_q (v := (.int .i64 r30.2)) rfl (yl_assign rfl) ?_
  refine T0_nil ?_
  refine hK29 _ _ ?_
  refine WC_seqK fun K72 hK72 => ?_
  refine WC_seqK fun K73 hK73 => ?_
  refine WC_region ?_
  refine T0_q (v := (.int .i64 r30.2)) rfl (yl_move rfl) ?_
  refine T0_q (v := (.bool (!decide (r30.2 = 0)))) rfl (yl_neq rfl rfl) ?_
  refine T0_nil ?_
  refine hK73 _ _ ?_
  refine WC_cond (b := (!decide (r30.2 = 0))) rfl (fun hb74 => ?_) (fun hb74 => ?_)
  · clear hK29 hK72 hK73 hK8
    replace h := cond_t hb74 h
    refine WC_seqK fun K75 hK75 => ?_
    refine WC_region ?_
    refine T0_q (v := (.agg (List.toArray [(.int .i64 r30.1.LevitatePlant.Den), v34, v36]))) rfl (yl_loadA (cs := [(.int .i64 r30.1.LevitatePlant.Den), v34, v36]) ag89 rfl (Box.at hB63)) ?_
    refine T0_q (v := (.int .i64 r30.2)) rfl (yl_move rfl) ?_
    refine T0_e rfl (eff_storeC (vs := [(.int .i64 r30.1.LevitatePlant.Den), v34, v36]) (cs' := [(.int .i64 r30.1.LevitatePlant.Den), v34, v36]) sz89 rfl rfl rfl rfl h68 rfl (oc_cons rfl (oc_cons h69.one1 (oc_cons h70.one1 oc_nil))) rfl ?_)
    intro wd76 hc77 hB78
    have h83 := h69.step (Stepp.chg_mem hc77 (memS mem0))
    have h84 := h70.step (Stepp.chg_mem hc77 (memS mem0))
    have e86 := chg_box e71 hc77 hbf23
    refine T0_q (v := (.int .i64 r30.2)) rfl (yl_assign rfl) ?_
    refine T0_nil ?_
    refine hK75 _ _ ?_
    refine WC_ret ?_
    replace h := some_out h
    subst h
    exact ⟨[(.agg (List.toArray [(.int .i64 r30.1.LevitatePlant.Den), v34, v36])), (.int .i64 r30.2)], ⟨⟨_, rfl, run_loadVarA (cs := [(.int .i64 r30.1.LevitatePlant.Den), v34, v36]) ag89 (Box.at hB78)⟩, rfl, trivial⟩, e86, [(.int .i64 r30.1.LevitatePlant.Den), v34, v36], rfl, ⟨v34, v36, (h83.sub (sub_skip (sub_skip (sub_refl _)))), (h84.sub (sub_skip (sub_skip (sub_refl _)))), rfl⟩⟩
  · clear hK29 hK73 hK8
    replace h := cond_f hb74 h
    refine WC_skip ?_
    refine hK72 _ _ ?_
    refine WC_seqK fun K87 hK87 => ?_
    refine WC_planX mixed (.p 2 (.q 0 (.q 1 (.e 3 (.b 4 (.p 5 .done)))))) (by kernel_rfl) ?_
    intro wd88 he89
    have e90 := e71.trans he89
    refine TX_p (v := v_p_box) rfl rfl (fun w' => (yl_move rfl)) ?_
    refine TX_q (v := (.agg (List.toArray [(.int .i64 r30.1.LevitatePlant.Den), v34, v36]))) rfl rfl (fun w' hS => (yl_loadA (cs := [(.int .i64 r30.1.LevitatePlant.Den), v34, v36]) ag89 rfl (Box.at (hB63.ext (he89.trans hS))))) ?_
    refine TX_q (v := (.agg (List.toArray [(.int .i64 r30.1.LevitatePlant.Den), v34, v36]))) rfl rfl (fun w' hS => (yl_loadA (cs := [(.int .i64 r30.1.LevitatePlant.Den), v34, v36]) ag89 rfl (Box.at (hB63.ext (he89.trans hS))))) ?_
    have hq := bind_elim h
    clear h
    obtain ⟨r91, hr92, h⟩ := hq
    refine TX_e rfl rfl (eff_call Try.func75 nm75 rfl (ev2 rfl rfl) (levitate_plant_boxErr_ok [] _ (LtL.nil _) [(.int .i64 r30.1.LevitatePlant.Den), v34, v36] (levitate_plant.mk (LevitatePlant.mk r30.1.LevitatePlant.Den r30.1.LevitatePlant.Maps r30.1.LevitatePlant.Noise)) ⟨v34, v36, ((h69.ext he89).sub (fun _ h => by cases h)), ((h70.ext he89).sub (fun _ h => by cases h)), rfl⟩ v_p_box p_box ((h66.ext he89).sub (fun _ h => by cases h)) r91 hr92) ?_)
    rintro _ wd93 ⟨he94, rfl⟩
    have e95 := he89.trans he94
    have e96 := e90.trans he94
    refine ⟨he94, ?_⟩
    refine TX_b rfl rfl (eff_storeC (vs := [(.int .i64 r30.1.LevitatePlant.Den), v34, v36]) (cs' := [(.int .i64 r30.1.LevitatePlant.Den), v34, v36]) sz89 rfl rfl rfl rfl (h68.ext e95) rfl (oc_cons rfl (oc_cons h69.one1 (oc_cons h70.one1 oc_nil))) rfl ?_)
    intro wd97 hc98 hB99
    have h104 := (h69.ext e95).step (Stepp.chg_mem hc98 (memS mem0))
    have h105 := (h70.ext e95).step (Stepp.chg_mem hc98 (memS mem0))
    have e107 := chg_box e96 hc98 hbf23
    refine TX_p (v := (.int .i64 r91)) rfl rfl (fun w' => (yl_assign rfl)) ?_
    refine TX_done ?_
    refine hK87 _ _ ?_
    refine WC_ret ?_
    replace h := some_out h
    subst h
    exact ⟨[(.agg (List.toArray [(.int .i64 r30.1.LevitatePlant.Den), v34, v36])), (.int .i64 r91)], ⟨⟨_, rfl, run_loadVarA (cs := [(.int .i64 r30.1.LevitatePlant.Den), v34, v36]) ag89 (Box.at hB99)⟩, rfl, trivial⟩, e107, [(.int .i64 r30.1.LevitatePlant.Den), v34, v36], rfl, ⟨v34, v36, (h104.sub (sub_skip (sub_skip (sub_refl _)))), (h105.sub (sub_skip (sub_skip (sub_refl _)))), rfl⟩⟩

noncomputable def levitate_RunOf_spec (p_p : LevitatePlant) (p_x : (List Int)) (p_l : (List LevitateSample)) : Option ((List (List Int)) × Int) :=
  (Option.bind (levitate_openRun_spec p_p p_x p_l) fun r19 =>
  (bif (!decide (r19.2 = 0)) then (
    some (([] : (List (List Int))), r19.2)
  ) else (
    (Option.bind (levitate_plant_run_spec (levitate_plant.mk (LevitatePlant.mk r19.1.LevitatePlant.Den r19.1.LevitatePlant.Maps r19.1.LevitatePlant.Noise)) p_x p_l) fun r65 =>
    some (r65.1, r65.2)
    )
  ))
  )
theorem levitate_RunOf_ok (L : List Value) (w : World) (hL : LtL L w) (cs_p_p : List Value) (p_p : LevitatePlant) (h_p_p : Rep.rd L w cs_p_p p_p) (v_p_x : Value) (p_x : (List Int)) (h_p_x : SlRd L w v_p_x p_x) (v_p_l : Value) (p_l : (List LevitateSample)) (h_p_l : SlRd L w v_p_l p_l) (r : (List (List Int)) × Int) (h : levitate_RunOf_spec p_p p_x p_l = some r) :
    CallsTo Try.prog 57 [(.agg cs_p_p.toArray), v_p_x, v_p_l] w (fun v w' => Ext w w' ∧ ∃ (v0 : Value), (.tuple #[v0, (.int .i64 r.2)]) = v ∧ SlRd L w' v0 r.1) := by
  have e0 : Ext w w := Chg.refl _ _
  obtain ⟨v1, v3, h2, h4, rfl⟩ := h_p_p
  refine callsTo_of_WC (n := 26) (rs := [.tmp 6, .tmp 7]) Try.func57 rfl rfl rfl rfl rfl ?_
  refine WC_seqK fun K9 hK9 => ?_
  refine WC_region ?_
  refine T0_e rfl (eff_boxC (cs := [(.int .i64 p_p.Den), v1, v3]) rfl rfl ?_)
  intro b10 wd11 hb12 he13 hB14
  have e16 := e0.trans he13
  refine T0_q (v := (.slice none 0 0)) rfl (yl_assign rfl) ?_
  refine T0_q (v := (.int .i64 0)) rfl (yl_assign rfl) ?_
  refine T0_nil ?_
  refine hK9 _ _ ?_
  refine WC_seqK fun K18 hK18 => ?_
  refine WC_region ?_
  refine T0_q (v := (.agg (List.toArray [(.int .i64 p_p.Den), v1, v3]))) rfl (yl_loadA (cs := [(.int .i64 p_p.Den), v1, v3]) ag25 rfl (Box.at hB14)) ?_
  refine T0_q (v := v_p_x) rfl (yl_move rfl) ?_
  refine T0_q (v := v_p_l) rfl (yl_move rfl) ?_
  have hq := bind_elim h
  clear h
  obtain ⟨r19, hr20, h⟩ := hq
  refine T0_e rfl (eff_call Try.func89 nm89 rfl (ev3 rfl rfl rfl) (levitate_openRun_ok L _ (hL.chg e16) [(.int .i64 p_p.Den), v1, v3] p_p ⟨v1, v3, (h2.ext he13), (h4.ext he13), rfl⟩ v_p_x p_x (h_p_x.ext he13) v_p_l p_l (h_p_l.ext he13) r19 hr20) ?_)
  rintro _ wd21 ⟨he22, cs27, rfl, hrd28⟩
  have e29 := he13.trans he22
  have e30 := e16.trans he22
  obtain ⟨v23, v25, h24, h26, rfl⟩ := hrd28
  refine T0_q (v := (.tuple #[(.agg (List.toArray [(.int .i64 r19.1.LevitatePlant.Den), v23, v25])), (.int .i64 r19.2)])) rfl (yl_move rfl) ?_
  refine T0_q (v := (.agg (List.toArray [(.int .i64 r19.1.LevitatePlant.Den), v23, v25]))) rfl (yl_extract rfl rfl) ?_
  refine T0_q (v := (.int .i64 r19.2)) rfl (yl_extract rfl rfl) ?_
  refine T0_e rfl (eff_allocZ zi89 ?_)
  intro b33 wd34 hb35 he36 hB37
  have hbf39 := bfresh e30 hb35
  have h42 := (h_p_x.ext e29).step (add_box he36 hb35)
  have h43 := (h_p_l.ext e29).step (add_box he36 hb35)
  have h44 := h24.step (add_box he36 hb35)
  have h45 := h26.step (add_box he36 hb35)
  have e47 := e30.trans he36
  refine T0_e rfl (eff_storeC (vs := [(.int .i64 r19.1.LevitatePlant.Den), v23, v25]) (cs' := [(.int .i64 r19.1.LevitatePlant.Den), v23, v25]) sz89 rfl rfl rfl rfl hB37 rfl (oc_cons rfl (oc_cons h44.one1 (oc_cons h45.one1 oc_nil))) rfl ?_)
  intro wd49 hc50 hB51
  have h54 := h42.step (Stepp.chg_mem hc50 mem0)
  have h55 := h43.step (Stepp.chg_mem hc50 mem0)
  have h57 := h44.step (Stepp.chg_mem hc50 mem0)
  have h58 := h45.step (Stepp.chg_mem hc50 mem0)
  have e59 := chg_box e47 hc50 hbf39
  refine T0_q (v := (.int .i64 r19.2)) rfl (yl_assign rfl) ?_
  refine T0_nil ?_
  refine hK18 _ _ ?_
  refine WC_seqK fun K60 hK60 => ?_
  refine WC_seqK fun K61 hK61 => ?_
  refine WC_region ?_
  refine T0_q (v := (.int .i64 r19.2)) rfl (yl_move rfl) ?_
  refine T0_q (v := (.bool (!decide (r19.2 = 0)))) rfl (yl_neq rfl rfl) ?_
  refine T0_nil ?_
  refine hK61 _ _ ?_
  refine WC_cond (b := (!decide (r19.2 = 0))) rfl (fun hb62 => ?_) (fun hb62 => ?_)
  · clear hK18 hK60 hK61 hK9
    replace h := cond_t hb62 h
    refine WC_seqK fun K63 hK63 => ?_
    refine WC_region ?_
    refine T0_q (v := (.int .i64 r19.2)) rfl (yl_move rfl) ?_
    refine T0_q (v := (.slice none 0 0)) rfl (yl_assign rfl) ?_
    refine T0_q (v := (.int .i64 r19.2)) rfl (yl_assign rfl) ?_
    refine T0_nil ?_
    refine hK63 _ _ ?_
    refine WC_ret ?_
    replace h := some_out h
    subst h
    exact ⟨[(.slice none 0 0), (.int .i64 r19.2)], ⟨rfl, rfl, trivial⟩, e59, (.slice none 0 0), rfl, (SlRd.nil _ _)⟩
  · clear hK18 hK61 hK9
    replace h := cond_f hb62 h
    refine WC_skip ?_
    refine hK60 _ _ ?_
    refine WC_seqK fun K64 hK64 => ?_
    refine WC_region ?_
    refine T0_q (v := (.agg (List.toArray [(.int .i64 r19.1.LevitatePlant.Den), v23, v25]))) rfl (yl_loadA (cs := [(.int .i64 r19.1.LevitatePlant.Den), v23, v25]) ag89 rfl (Box.at hB51)) ?_
    refine T0_q (v := v_p_x) rfl (yl_move rfl) ?_
    refine T0_q (v := v_p_l) rfl (yl_move rfl) ?_
    have hq := bind_elim h
    clear h
    obtain ⟨r65, hr66, h⟩ := hq
    refine T0_e rfl (eff_call Try.func90 nm90 rfl (ev3 rfl rfl rfl) (levitate_plant_run_ok ((.pointer (some ⟨b33, 0, none⟩)) :: L) _ (ltl_box (hL.chg e59) hB51) [(.int .i64 r19.1.LevitatePlant.Den), v23, v25] (levitate_plant.mk (LevitatePlant.mk r19.1.LevitatePlant.Den r19.1.LevitatePlant.Maps r19.1.LevitatePlant.Noise)) ⟨v23, v25, h57, h58, rfl⟩ v_p_x p_x h54 v_p_l p_l h55 r65 hr66) ?_)
    rintro _ wd67 ⟨he68, v69, rfl, h70⟩
    have e71 := e59.trans he68
    refine T0_q (v := v69) rfl (yl_extract rfl rfl) ?_
    refine T0_q (v := (.int .i64 r65.2)) rfl (yl_extract rfl rfl) ?_
    refine T0_q (v := v69) rfl (yl_assign rfl) ?_
    refine T0_q (v := (.int .i64 r65.2)) rfl (yl_assign rfl) ?_
    refine T0_nil ?_
    refine hK64 _ _ ?_
    refine WC_ret ?_
    replace h := some_out h
    subst h
    exact ⟨[v69, (.int .i64 r65.2)], ⟨rfl, rfl, trivial⟩, e71, v69, rfl, (h70.sub (sub_skip (sub_refl _)))⟩

end Go.Gw
