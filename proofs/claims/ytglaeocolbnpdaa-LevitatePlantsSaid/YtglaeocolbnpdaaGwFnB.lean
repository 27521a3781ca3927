/- What functions come to, printed by a program of this work. No condition. -/
import Derived.Test.YtglaeocolbnpdaaGwFnA
import Derived.Test.YtglaeocolbnpdaaGwPlan2
import Derived.Test.YtglaeocolbnpdaaGwLib12
import Derived.Test.YtglaeocolbnpdaaGwLib13
import Derived.Test.YtglaeocolbnpdaaGwDelE
import Derived.Test.YtglaeocolbnpdaaGwFacts2
set_option maxRecDepth 4096
set_option maxHeartbeats 8000000
set_option linter.unusedVariables false
namespace Go.Gw
open Go Go.Proofs
attribute [local irreducible] T0 TS TT TP TX Eff Stp WC Quiet gd
noncomputable def levitate_plant_lessens_1_s0 (c4 : (List (List Int))) (p_k : Int) : ((List Int) × Int) → Option (((List Int) × Int) ⊕ ((List Int))) := fun (x181, x189) =>
  (bif (decide (x189 < (c4.length : Int))) then (
    (Option.bind (idx c4 x189) fun el217 =>
    (Option.bind (idx el217 p_k) fun el226 =>
    (Option.bind (app x181 ([el226] : List Int)) fun zs238 =>
    some (.inl (zs238, w64 (x189 + 1)))
    )
    )
    )
  ) else (
    some (.inr x181)
  ))
noncomputable def levitate_plant_lessens_1_spec (p_k : Int) (c4 : (List (List Int))) : Option (List Int) :=
  (Option.bind (loop (levitate_plant_lessens_1_s0 c4 p_k) (([] : List Int), 0)) fun (x199 : (List Int)) =>
  some x199
  )
theorem levitate_plant_lessens_1_ok (L : List Value) (w : World) (hL : LtL L w) (p_k : Int) (b1 : Nat) (v5 : Value) (c4 : (List (List Int))) (h6 : SlRd L w v5 c4) (hB2 : Box w b1 [v5] 47) (r : (List Int)) (h : levitate_plant_lessens_1_spec p_k c4 = some r) :
    CallsTo Try.prog 105 [(.int .i64 p_k), (.pointer (some ⟨b1, 0, none⟩))] w (fun v w' => Ext w w' ∧ ∃ (v0 : Value), v0 = v ∧ SlRd L w' v0 r) := by
  have e0 : Ext w w := Chg.refl _ _
  refine callsTo_of_WC (n := 22) (rs := [.tmp 3]) Try.func105 rfl rfl rfl rfl rfl ?_
  refine WC_seqK fun K8 hK8 => ?_
  refine WC_region ?_
  refine T0_q (v := (.slice none 0 0)) rfl (yl_assign rfl) ?_
  refine T0_nil ?_
  refine hK8 _ _ ?_
  refine WC_seqK fun K9 hK9 => ?_
  refine WC_region ?_
  refine T0_q (v := (.slice none 0 0)) rfl (yl_assign rfl) ?_
  refine T0_nil ?_
  refine hK9 _ _ ?_
  refine WC_seqK fun K10 hK10 => ?_
  refine WC_seqK fun K11 hK11 => ?_
  refine WC_region ?_
  refine T0_q (v := v5) rfl (yl_load sc47 rfl (Box.at hB2)) ?_
  refine T0_q (v := (.int .i64 (c4.length : Int))) rfl (yl_lenR rfl Try.underlying47 h6 rfl) ?_
  refine T0_q (v := (.int .i64 0)) rfl (yl_move rfl) ?_
  refine T0_nil ?_
  refine hK11 _ _ ?_
  have h191 := h6.step (add_nil _)
  have h193 : Own 3 ((.slice none 0 0) :: L) w (.slice none 0 0) ([] : List Int) := Own.nil _ _ _
  have hq := bind_elim h
  clear h
  obtain ⟨o204, hl205, hn206⟩ := hq
  refine WC_post (fun (ρ : Env) (wd195 : World) => ∃ (x199 : (List Int)) (v198 : Value), x199 = o204 ∧ ρ 4 = v198 ∧ Own 3 (v198 :: L) wd195 v198 x199 ∧ (∀ b, blk v198 = some b → w.heap.size ≤ b) ∧ Ext w wd195) ?_ ?_
  · clear hK10 hK11 hK8 hK9
    intro K210 hK210
    refine WC_block ?_
    refine WC_loopk (fun sv ρ wd176 => ∃ (x181 : (List Int)) (x189 : Int) (v180 : Value), (x181, x189) = sv ∧ ρ 0 = (.int .i64 p_k) ∧ ρ 4 = v180 ∧ ρ 7 = v5 ∧ ρ 8 = (.int .i64 (c4.length : Int)) ∧ ρ 9 = (.int .i64 x189) ∧ SlRd (v180 :: L) wd176 v5 c4 ∧ Own 3 (v180 :: L) wd176 v180 x181 ∧ (∀ b, blk v180 = some b → w.heap.size ≤ b) ∧ Ext w wd176) hl205 ⟨([] : List Int), 0, (.slice none 0 0), rfl, rfl, rfl, rfl, rfl, rfl, h191, h193, (fun b h => blk_nil b h), e0⟩ ?_
    rintro _ ρ wd176 ⟨x181, x189, v180, rfl, hs178, hs185, hs187, hs188, hs190, h186, h183, hf184, e177⟩ x207 h hx208 K209 hK209
    refine WC_seqK fun K212 hK212 => ?_
    refine WC_region ?_
    refine T0_q (v := (.bool (decide (x189 < (c4.length : Int))))) rfl (yl_lss hs190 hs188) ?_
    refine T0_nil ?_
    refine hK212 _ _ ?_
    refine WC_seqK fun K213 hK213 => ?_
    refine WC_cond (b := (decide (x189 < (c4.length : Int)))) rfl (fun hb214 => ?_) (fun hb214 => ?_)
    · clear hK210 hK212
      replace h := cond_t hb214 h
      refine WC_skip ?_
      refine hK213 _ _ ?_
      refine WC_seqK fun K215 hK215 => ?_
      refine WC_block ?_
      refine WC_seqK fun K216 hK216 => ?_
      refine WC_region ?_
      have hq := bind_elim h
      clear h
      obtain ⟨el217, hel218, h⟩ := hq
      have hq := SlRd.at h186 hel218
      obtain ⟨cs221, hat222, hrd223⟩ := hq
      obtain ⟨v219, rfl, h220⟩ := hrd223
      refine T0_q (v := (.pointer (some (elemAddr v5 (x189 : Int).toNat 1)))) rfl (yl_indexAddr Try.underlying47 sz23 h186 hel218 hs187 hs190) ?_
      refine T0_q (v := v219) rfl (yl_load sc23 rfl hat222) ?_
      refine T0_q (v := v219) rfl (yl_assign rfl) ?_
      refine T0_nil ?_
      refine hK216 _ _ ?_
      refine WC_region ?_
      refine T0_q (v := v180) rfl (yl_move hs185) ?_
      refine T0_q (v := v219) rfl (yl_move rfl) ?_
      refine T0_q (v := (.int .i64 p_k)) rfl (yl_move hs178) ?_
      have hq := bind_elim h
      clear h
      obtain ⟨el226, hel227, h⟩ := hq
      have hq := SlRd.at h220 hel227
      obtain ⟨cs228, hat229, hrd230⟩ := hq
      have hrd230 : cs228 = [(.int .i64 el226)] := hrd230
      subst hrd230
      refine T0_q (v := (.pointer (some (elemAddr v219 (p_k : Int).toNat 1)))) rfl (yl_indexAddr Try.underlying23 sz3 h220 hel227 rfl rfl) ?_
      refine T0_q (v := (.int .i64 el226)) rfl (yl_load sc3 rfl hat229) ?_
      refine T0_e rfl (eff_buildTC (xs := ([el226] : List Int)) (cells := [(.int .i64 el226)]) Try.underlying23 ei3 rfl (pc_cons rfl rfl pc_nil) rfl (Elems.cons (cs := [(.int .i64 el226)]) rfl Elems.nil) rfl (ltl_own (hL.chg e177) h183) ?_)
      intro b235 wd232 he233 h234
      have e236 := e177.trans he233
      have hq := bind_elim h
      clear h
      obtain ⟨zs238, hz239, h⟩ := hq
      refine T0_e rfl (eff_app Try.underlying23 ei3 rfl rfl rfl rfl (h183.ext he233) h234 hz239 ?_)
      intro v240 wd241 hc242 hbl243 h244
      have hf246 := fresh_swap hbl243 hf184 e236.size
      have h247 := (h186.ext he233).step (Stepp.swap hc242 hbl243)
      have e250 := chg_own e236 hc242 hf184
      refine T0_q (v := v240) rfl (yl_assign rfl) ?_
      refine T0_nil ?_
      refine hK215 _ _ ?_
      refine WC_region ?_
      refine T0_q (v := (.int .i64 (w64 (x189 + 1)))) rfl (yl_add hs190 rfl) ?_
      refine T0_q (v := (.int .i64 (w64 (x189 + 1)))) rfl (yl_move rfl) ?_
      refine T0_nil ?_
      replace h := some_out h
      subst h
      refine hK209 _ _ _ rfl ?_
      exact ⟨zs238, w64 (x189 + 1), v240, rfl, hs178, rfl, hs187, hs188, rfl, h247, h244, hf246, e250⟩
    · clear hK209 hK212 hK213
      replace h := cond_f hb214 h
      refine WC_exit ?_
      replace h := some_out h
      subst h
      have ho := hx208 _ rfl
      subst ho
      refine hK210 _ _ ?_
      exact ⟨x181, v180, rfl, hs185, h183, hf184, e177⟩
  · clear hK11 hK8 hK9
    rintro ρ wd195 ⟨x199, v198, rfl, hs203, h201, hf202, e196⟩
    replace h := hn206
    refine hK10 _ _ ?_
    refine WC_seqK fun K252 hK252 => ?_
    refine WC_region ?_
    refine T0_q (v := v198) rfl (yl_move hs203) ?_
    refine T0_q (v := v198) rfl (yl_assign rfl) ?_
    refine T0_nil ?_
    refine hK252 _ _ ?_
    refine WC_ret ?_
    replace h := some_out h
    subst h
    exact ⟨[v198], ⟨rfl, trivial⟩, e196, v198, rfl, (h201.rdL (sub_skip (sub_refl _)) hL hf202)⟩

noncomputable def levitate_minor_1_spec (p_i : Int) (p_k : Int) (c5 : (List (List Arr3_U64))) (c11 : (List Int)) : Option Arr3_U64 :=
  (Option.bind (idx c11 p_i) fun el33 =>
  (Option.bind (idx c5 el33) fun el39 =>
  (Option.bind (idx c11 p_k) fun el48 =>
  (Option.bind (idx el39 el48) fun el54 =>
  some el54
  )
  )
  )
  )
theorem levitate_minor_1_ok (L : List Value) (w : World) (hL : LtL L w) (p_i : Int) (p_k : Int) (b1 : Nat) (b2 : Nat) (v6 : Value) (c5 : (List (List Arr3_U64))) (h7 : SlRd L w v6 c5) (hB3 : Box w b1 [v6] 124) (v12 : Value) (c11 : (List Int)) (h13 : SlRd L w v12 c11) (hB9 : Box w b2 [v12] 23) (r : Arr3_U64) (h : levitate_minor_1_spec p_i p_k c5 c11 = some r) :
    CallsTo Try.prog 111 [(.int .i64 p_i), (.int .i64 p_k), (.pointer (some ⟨b1, 0, none⟩)), (.pointer (some ⟨b2, 0, none⟩))] w (fun v w' => Ext w w' ∧ ∃ (cs0 : List Value), (.agg cs0.toArray) = v ∧ Rep.rd L w' cs0 r) := by
  have e0 : Ext w w := Chg.refl _ _
  refine callsTo_of_WC (n := 20) (rs := [.cell 6 120]) Try.func111 rfl rfl rfl rfl rfl ?_
  refine WC_seqK fun K15 hK15 => ?_
  refine WC_region ?_
  refine T0_e rfl (eff_allocZ zi120 ?_)
  intro b16 wd17 hb18 he19 hB20
  have hbf23 := bfresh e0 hb18
  have h24 := h7.step (add_box he19 hb18)
  have h25 := h13.step (add_box he19 hb18)
  have e26 := e0.trans he19
  refine T0_nil ?_
  refine hK15 _ _ ?_
  refine WC_seqK fun K28 hK28 => ?_
  refine WC_planX mixed (.p 2 (.p 8 (.q 0 (.q 1 (.p 3 (.q 4 (.p 5 (.q 6 (.q 7 (.p 9 (.q 10 (.p 11 (.q 12 (.b 13 .done)))))))))))))) (by kernel_rfl) ?_
  intro wd29 he30
  have e31 := he19.trans he30
  have e32 := e26.trans he30
  refine TX_p (v := (.int .i64 p_i)) rfl rfl (fun w' => (yl_move rfl)) ?_
  refine TX_p (v := (.int .i64 p_k)) rfl rfl (fun w' => (yl_move rfl)) ?_
  refine TX_q (v := v6) rfl rfl (fun w' hS => (yl_load sc124 rfl (Box.at (hB3.ext (e31.trans hS))))) ?_
  refine TX_q (v := v12) rfl rfl (fun w' hS => (yl_load sc23 rfl (Box.at (hB9.ext (e31.trans hS))))) ?_
  have hq := bind_elim h
  clear h
  obtain ⟨el33, hel34, h⟩ := hq
  have hq := SlRd.at h25 hel34
  obtain ⟨cs35, hat36, hrd37⟩ := hq
  have hrd37 : cs35 = [(.int .i64 el33)] := hrd37
  subst hrd37
  refine TX_p (v := (.pointer (some (elemAddr v12 (p_i : Int).toNat 1)))) rfl rfl (fun w' => (yl_indexAddr Try.underlying23 sz3 h25 hel34 rfl rfl)) ?_
  refine TX_q (v := (.int .i64 el33)) rfl rfl (fun w' hS => (yl_load sc3 rfl (hat36.ext' (he30.trans hS)))) ?_
  have hq := bind_elim h
  clear h
  obtain ⟨el39, hel40, h⟩ := hq
  have hq := SlRd.at h24 hel40
  obtain ⟨cs43, hat44, hrd45⟩ := hq
  obtain ⟨v41, rfl, h42⟩ := hrd45
  refine TX_p (v := (.pointer (some (elemAddr v6 (el33 : Int).toNat 1)))) rfl rfl (fun w' => (yl_indexAddr Try.underlying124 sz146 h24 hel40 rfl rfl)) ?_
  refine TX_q (v := v41) rfl rfl (fun w' hS => (yl_load sc146 rfl (hat44.ext' (he30.trans hS)))) ?_
  refine TX_q (v := v12) rfl rfl (fun w' hS => (yl_load sc23 rfl (Box.at (hB9.ext (e31.trans hS))))) ?_
  have hq := bind_elim h
  clear h
  obtain ⟨el48, hel49, h⟩ := hq
  have hq := SlRd.at h25 hel49
  obtain ⟨cs50, hat51, hrd52⟩ := hq
  have hrd52 : cs50 = [(.int .i64 el48)] := hrd52
  subst hrd52
  refine TX_p (v := (.pointer (some (elemAddr v12 (p_k : Int).toNat 1)))) rfl rfl (fun w' => (yl_indexAddr Try.underlying23 sz3 h25 hel49 rfl rfl)) ?_
  refine TX_q (v := (.int .i64 el48)) rfl rfl (fun w' hS => (yl_load sc3 rfl (hat51.ext' (he30.trans hS)))) ?_
  have hq := bind_elim h
  clear h
  obtain ⟨el54, hel55, h⟩ := hq
  have hq := SlRd.at h42 hel55
  obtain ⟨cs56, hat57, hrd58⟩ := hq
  have hrd58 : cs56 = [(.int .u64 el54.e0), (.int .u64 el54.e1), (.int .u64 el54.e2)] := hrd58
  subst hrd58
  refine TX_p (v := (.pointer (some (elemAddr v41 (el48 : Int).toNat 3)))) rfl rfl (fun w' => (yl_indexAddr Try.underlying146 sz120 h42 hel55 rfl rfl)) ?_
  refine TX_q (v := (.agg (List.toArray [(.int .u64 el54.e0), (.int .u64 el54.e1), (.int .u64 el54.e2)]))) rfl rfl (fun w' hS => (yl_loadA (cs := [(.int .u64 el54.e0), (.int .u64 el54.e1), (.int .u64 el54.e2)]) ag120 rfl (hat57.ext' (he30.trans hS)))) ?_
  refine TX_b rfl rfl (eff_storeC (vs := [(.int .u64 el54.e0), (.int .u64 el54.e1), (.int .u64 el54.e2)]) (cs' := [(.int .u64 el54.e0), (.int .u64 el54.e1), (.int .u64 el54.e2)]) sz120 rfl rfl rfl rfl (hB20.ext he30) rfl (oc_cons rfl (oc_cons rfl (oc_cons rfl oc_nil))) rfl ?_)
  intro wd60 hc61 hB62
  have e68 := chg_box e32 hc61 hbf23
  refine TX_done ?_
  refine hK28 _ _ ?_
  refine WC_ret ?_
  replace h := some_out h
  subst h
  exact ⟨[(.agg (List.toArray [(.int .u64 el54.e0), (.int .u64 el54.e1), (.int .u64 el54.e2)]))], ⟨⟨_, rfl, run_loadVarA (cs := [(.int .u64 el54.e0), (.int .u64 el54.e1), (.int .u64 el54.e2)]) ag120 (Box.at hB62)⟩, trivial⟩, e68, [(.int .u64 el54.e0), (.int .u64 el54.e1), (.int .u64 el54.e2)], rfl, rfl⟩

noncomputable def levitate_kept_spec (p_level : Int) (p_worst : Int) (p_rate : Arr2_Int) : Option Bool :=
  (Option.bind (levitate_wideOf_spec (w64 (p_rate.e1 - p_rate.e0))) fun r14 =>
  (Option.bind (levitate_wideOf_spec p_level) fun r22 =>
  (Option.bind (levitate_wide_times_spec r14 r22) fun r30 =>
  (Option.bind (levitate_wideOf_spec p_rate.e1) fun r38 =>
  (Option.bind (levitate_wideOf_spec p_worst) fun r46 =>
  (Option.bind (levitate_wide_times_spec r38 r46) fun r54 =>
  (Option.bind (levitate_wide_less_spec r30 r54) fun r62 =>
  (Option.bind (levitate_wide_below_spec r62) fun r87 =>
  (bif r87 then (
    some false
  ) else (
    (Option.bind (levitate_wideOf_spec (w64 ((w64 (4 * p_rate.e0)) * p_rate.e1))) fun r95 =>
    (Option.bind (levitate_wideOf_spec p_level) fun r103 =>
    (Option.bind (levitate_wide_times_spec r95 r103) fun r111 =>
    (Option.bind (levitate_wideOf_spec p_worst) fun r119 =>
    (Option.bind (levitate_wide_times_spec r111 r119) fun r127 =>
    (Option.bind (levitate_wide_times_spec r62 r62) fun r156 =>
    (Option.bind (levitate_wide_less_spec r156 r127) fun r164 =>
    (Option.bind (levitate_wide_below_spec r164) fun r172 =>
    some (!r172)
    )
    )
    )
    )
    )
    )
    )
    )
  ))
  )
  )
  )
  )
  )
  )
  )
  )
theorem levitate_kept_ok (L : List Value) (w : World) (hL : LtL L w) (p_level : Int) (p_worst : Int) (cs_p_rate : List Value) (p_rate : Arr2_Int) (h_p_rate : Rep.rd L w cs_p_rate p_rate) (r : Bool) (h : levitate_kept_spec p_level p_worst p_rate = some r) :
    CallsTo Try.prog 53 [(.int .i64 p_level), (.int .i64 p_worst), (.agg cs_p_rate.toArray)] w (fun v w' => Ext w w' ∧ (.bool r) = v) := by
  have e0 : Ext w w := Chg.refl _ _
  have h_p_rate : cs_p_rate = [(.int .i64 p_rate.e0), (.int .i64 p_rate.e1)] := h_p_rate
  subst h_p_rate
  refine callsTo_of_WC (n := 47) (rs := [.tmp 6]) Try.func53 rfl rfl rfl rfl rfl ?_
  refine WC_seqK fun K1 hK1 => ?_
  refine WC_region ?_
  refine T0_e rfl (eff_boxC (cs := [(.int .i64 p_rate.e0), (.int .i64 p_rate.e1)]) rfl rfl ?_)
  intro b2 wd3 hb4 he5 hB6
  have e8 := e0.trans he5
  refine T0_q (v := (.bool false)) rfl (yl_assign rfl) ?_
  refine T0_nil ?_
  refine hK1 _ _ ?_
  refine WC_seqK fun K10 hK10 => ?_
  refine WC_planX mixed (.p 0 (.p 2 (.p 6 (.p 9 (.p 12 (.q 1 (.q 3 (.p 4 (.q 10 (.f 5 (.f 7 (.f 8 (.f 11 (.f 13 (.f 14 (.f 15 (.e 16 (.b 17 .done)) 16 (.e 15 (.b 17 .done))) 16 (.e 14 (.e 15 (.b 17 .done)))) 16 (.e 13 (.e 14 (.e 15 (.b 17 .done))))) 16 (.e 11 (.e 13 (.e 14 (.e 15 (.b 17 .done)))))) 16 (.e 8 (.e 11 (.e 13 (.e 14 (.e 15 (.b 17 .done))))))) 16 (.e 7 (.e 8 (.e 11 (.e 13 (.e 14 (.e 15 (.b 17 .done)))))))) 16 (.e 5 (.e 7 (.e 8 (.e 11 (.e 13 (.e 14 (.e 15 (.b 17 .done)))))))))))))))))) (by kernel_rfl) ?_
  intro wd11 he12
  have e13 := e8.trans he12
  refine TX_p (v := (.pointer (some ⟨b2, 1, none⟩))) rfl rfl (fun w' => (yl_ixC (i := 1) Try.underlying48 sz3 (by decide) (by decide) rfl rfl rfl)) ?_
  refine TX_p (v := (.pointer (some ⟨b2, 0, none⟩))) rfl rfl (fun w' => (yl_ixC (i := 0) Try.underlying48 sz3 (by decide) (by decide) rfl rfl rfl)) ?_
  refine TX_p (v := (.int .i64 p_level)) rfl rfl (fun w' => (yl_move rfl)) ?_
  refine TX_p (v := (.pointer (some ⟨b2, 1, none⟩))) rfl rfl (fun w' => (yl_ixC (i := 1) Try.underlying48 sz3 (by decide) (by decide) rfl rfl rfl)) ?_
  refine TX_p (v := (.int .i64 p_worst)) rfl rfl (fun w' => (yl_move rfl)) ?_
  refine TX_q (v := (.int .i64 p_rate.e1)) rfl rfl (fun w' hS => (yl_load sc3 rfl (At.drop (Box.at (hB6.ext (he12.trans hS))) 1))) ?_
  refine TX_q (v := (.int .i64 p_rate.e0)) rfl rfl (fun w' hS => (yl_load sc3 rfl (Box.at (hB6.ext (he12.trans hS))))) ?_
  refine TX_p (v := (.int .i64 (w64 (p_rate.e1 - p_rate.e0)))) rfl rfl (fun w' => (yl_sub rfl rfl)) ?_
  refine TX_q (v := (.int .i64 p_rate.e1)) rfl rfl (fun w' hS => (yl_load sc3 rfl (At.drop (Box.at (hB6.ext (he12.trans hS))) 1))) ?_
  refine TX_f rfl rfl rfl rfl ?_ ?_
  · clear hK1
    skip
    have hq := bind_elim h
    clear h
    obtain ⟨r14, hr15, h⟩ := hq
    refine  (eff_call Try.func79 nm79 rfl (ev1 rfl) (levitate_wideOf_ok [] _ (LtL.nil _) (w64 (p_rate.e1 - p_rate.e0)) r14 hr15) ?_)
    rintro _ wd16 ⟨he17, cs18, rfl, hrd19⟩
    have e20 := he12.trans he17
    have e21 := e13.trans he17
    have hrd19 : cs18 = [(.int .u64 r14.e0), (.int .u64 r14.e1), (.int .u64 r14.e2)] := hrd19
    subst hrd19
    refine ⟨he17, ?_⟩
    refine TX_f rfl rfl rfl rfl ?_ ?_
    · skip
      have hq := bind_elim h
      clear h
      obtain ⟨r22, hr23, h⟩ := hq
      refine  (eff_call Try.func79 nm79 rfl (ev1 rfl) (levitate_wideOf_ok [] _ (LtL.nil _) p_level r22 hr23) ?_)
      rintro _ wd24 ⟨he25, cs26, rfl, hrd27⟩
      have e28 := e20.trans he25
      have e29 := e21.trans he25
      have hrd27 : cs26 = [(.int .u64 r22.e0), (.int .u64 r22.e1), (.int .u64 r22.e2)] := hrd27
      subst hrd27
      refine ⟨he25, ?_⟩
      refine TX_f rfl rfl rfl rfl ?_ ?_
      · skip
        have hq := bind_elim h
        clear h
        obtain ⟨r30, hr31, h⟩ := hq
        refine  (eff_call Try.func80 nm80 rfl (ev2 rfl rfl) (levitate_wide_times_ok [] _ (LtL.nil _) [(.int .u64 r14.e0), (.int .u64 r14.e1), (.int .u64 r14.e2)] r14 rfl [(.int .u64 r22.e0), (.int .u64 r22.e1), (.int .u64 r22.e2)] r22 rfl r30 hr31) ?_)
        rintro _ wd32 ⟨he33, cs34, rfl, hrd35⟩
        have e36 := e28.trans he33
        have e37 := e29.trans he33
        have hrd35 : cs34 = [(.int .u64 r30.e0), (.int .u64 r30.e1), (.int .u64 r30.e2)] := hrd35
        subst hrd35
        refine ⟨he33, ?_⟩
        refine TX_f rfl rfl rfl rfl ?_ ?_
        · skip
          have hq := bind_elim h
          clear h
          obtain ⟨r38, hr39, h⟩ := hq
          refine  (eff_call Try.func79 nm79 rfl (ev1 rfl) (levitate_wideOf_ok [] _ (LtL.nil _) p_rate.e1 r38 hr39) ?_)
          rintro _ wd40 ⟨he41, cs42, rfl, hrd43⟩
          have e44 := e36.trans he41
          have e45 := e37.trans he41
          have hrd43 : cs42 = [(.int .u64 r38.e0), (.int .u64 r38.e1), (.int .u64 r38.e2)] := hrd43
          subst hrd43
          refine ⟨he41, ?_⟩
          refine TX_f rfl rfl rfl rfl ?_ ?_
          · skip
            have hq := bind_elim h
            clear h
            obtain ⟨r46, hr47, h⟩ := hq
            refine  (eff_call Try.func79 nm79 rfl (ev1 rfl) (levitate_wideOf_ok [] _ (LtL.nil _) p_worst r46 hr47) ?_)
            rintro _ wd48 ⟨he49, cs50, rfl, hrd51⟩
            have e52 := e44.trans he49
            have e53 := e45.trans he49
            have hrd51 : cs50 = [(.int .u64 r46.e0), (.int .u64 r46.e1), (.int .u64 r46.e2)] := hrd51
            subst hrd51
            refine ⟨he49, ?_⟩
            refine TX_f rfl rfl rfl rfl ?_ ?_
            · skip
              have hq := bind_elim h
              clear h
              obtain ⟨r54, hr55, h⟩ := hq
              refine  (eff_call Try.func80 nm80 rfl (ev2 rfl rfl) (levitate_wide_times_ok [] _ (LtL.nil _) [(.int .u64 r38.e0), (.int .u64 r38.e1), (.int .u64 r38.e2)] r38 rfl [(.int .u64 r46.e0), (.int .u64 r46.e1), (.int .u64 r46.e2)] r46 rfl r54 hr55) ?_)
              rintro _ wd56 ⟨he57, cs58, rfl, hrd59⟩
              have e60 := e52.trans he57
              have e61 := e53.trans he57
              have hrd59 : cs58 = [(.int .u64 r54.e0), (.int .u64 r54.e1), (.int .u64 r54.e2)] := hrd59
              subst hrd59
              refine ⟨he57, ?_⟩
              refine TX_f rfl rfl rfl rfl ?_ ?_
              · skip
                have hq := bind_elim h
                clear h
                obtain ⟨r62, hr63, h⟩ := hq
                refine  (eff_call Try.func81 nm81 rfl (ev2 rfl rfl) (levitate_wide_less_ok [] _ (LtL.nil _) [(.int .u64 r30.e0), (.int .u64 r30.e1), (.int .u64 r30.e2)] r30 rfl [(.int .u64 r54.e0), (.int .u64 r54.e1), (.int .u64 r54.e2)] r54 rfl r62 hr63) ?_)
                rintro _ wd64 ⟨he65, cs66, rfl, hrd67⟩
                have e68 := e60.trans he65
                have e69 := e61.trans he65
                have hrd67 : cs66 = [(.int .u64 r62.e0), (.int .u64 r62.e1), (.int .u64 r62.e2)] := hrd67
                subst hrd67
                refine ⟨he65, ?_⟩
                refine TX_e rfl rfl (eff_allocZ zi120 ?_)
                intro b70 wd71 hb72 he73 hB74
                have hn75 : b70 ≠ b2 := box_ne (hB6.ext e68) hb72
                have hbf76 := bfresh e69 hb72
                have e77 := e68.trans he73
                have e78 := e69.trans he73
                refine ⟨he73, ?_⟩
                refine TX_b rfl rfl (eff_storeC (vs := [(.int .u64 r62.e0), (.int .u64 r62.e1), (.int .u64 r62.e2)]) (cs' := [(.int .u64 r62.e0), (.int .u64 r62.e1), (.int .u64 r62.e2)]) sz120 rfl rfl rfl rfl hB74 rfl (oc_cons rfl (oc_cons rfl (oc_cons rfl oc_nil))) rfl ?_)
                intro wd80 hc81 hB82
                have h83 := (hB6.ext e77).chg hc81 (avoidb hn75)
                have e84 := chg_box e78 hc81 hbf76
                refine TX_done ?_
                refine hK10 _ _ ?_
                refine WC_seqK fun K85 hK85 => ?_
                refine WC_seqK fun K86 hK86 => ?_
                refine WC_region ?_
                refine T0_q (v := (.agg (List.toArray [(.int .u64 r62.e0), (.int .u64 r62.e1), (.int .u64 r62.e2)]))) rfl (yl_loadA (cs := [(.int .u64 r62.e0), (.int .u64 r62.e1), (.int .u64 r62.e2)]) ag120 rfl (Box.at hB82)) ?_
                have hq := bind_elim h
                clear h
                obtain ⟨r87, hr88, h⟩ := hq
                refine T0_e rfl (eff_call Try.func82 nm82 rfl (ev1 rfl) (levitate_wide_below_ok [] _ (LtL.nil _) [(.int .u64 r62.e0), (.int .u64 r62.e1), (.int .u64 r62.e2)] r62 rfl r87 hr88) ?_)
                rintro _ wd89 ⟨he90, rfl⟩
                have e91 := e84.trans he90
                refine T0_nil ?_
                refine hK86 _ _ ?_
                refine WC_cond (b := r87) rfl (fun hb92 => ?_) (fun hb92 => ?_)
                · clear hK10 hK85 hK86
                  replace h := cond_t hb92 h
                  refine WC_seqK fun K93 hK93 => ?_
                  refine WC_region ?_
                  refine T0_q (v := (.bool false)) rfl (yl_assign rfl) ?_
                  refine T0_nil ?_
                  refine hK93 _ _ ?_
                  refine WC_ret ?_
                  replace h := some_out h
                  subst h
                  exact ⟨[(.bool false)], ⟨rfl, trivial⟩, e91, rfl⟩
                · clear hK10 hK86
                  replace h := cond_f hb92 h
                  refine WC_skip ?_
                  refine hK85 _ _ ?_
                  refine WC_seqK fun K94 hK94 => ?_
                  refine WC_region ?_
                  refine T0_q (v := (.pointer (some ⟨b2, 0, none⟩))) rfl (yl_ixC (i := 0) Try.underlying48 sz3 (by decide) (by decide) rfl rfl rfl) ?_
                  refine T0_q (v := (.int .i64 p_rate.e0)) rfl (yl_load sc3 rfl (Box.at (h83.ext he90))) ?_
                  refine T0_q (v := (.int .i64 (w64 (4 * p_rate.e0)))) rfl (yl_mul rfl rfl) ?_
                  refine T0_q (v := (.pointer (some ⟨b2, 1, none⟩))) rfl (yl_ixC (i := 1) Try.underlying48 sz3 (by decide) (by decide) rfl rfl rfl) ?_
                  refine T0_q (v := (.int .i64 p_rate.e1)) rfl (yl_load sc3 rfl (At.drop (Box.at (h83.ext he90)) 1)) ?_
                  refine T0_q (v := (.int .i64 (w64 ((w64 (4 * p_rate.e0)) * p_rate.e1)))) rfl (yl_mul rfl rfl) ?_
                  have hq := bind_elim h
                  clear h
                  obtain ⟨r95, hr96, h⟩ := hq
                  refine T0_e rfl (eff_call Try.func79 nm79 rfl (ev1 rfl) (levitate_wideOf_ok [] _ (LtL.nil _) (w64 ((w64 (4 * p_rate.e0)) * p_rate.e1)) r95 hr96) ?_)
                  rintro _ wd97 ⟨he98, cs99, rfl, hrd100⟩
                  have e101 := he90.trans he98
                  have e102 := e91.trans he98
                  have hrd100 : cs99 = [(.int .u64 r95.e0), (.int .u64 r95.e1), (.int .u64 r95.e2)] := hrd100
                  subst hrd100
                  refine T0_q (v := (.int .i64 p_level)) rfl (yl_move rfl) ?_
                  have hq := bind_elim h
                  clear h
                  obtain ⟨r103, hr104, h⟩ := hq
                  refine T0_e rfl (eff_call Try.func79 nm79 rfl (ev1 rfl) (levitate_wideOf_ok [] _ (LtL.nil _) p_level r103 hr104) ?_)
                  rintro _ wd105 ⟨he106, cs107, rfl, hrd108⟩
                  have e109 := e101.trans he106
                  have e110 := e102.trans he106
                  have hrd108 : cs107 = [(.int .u64 r103.e0), (.int .u64 r103.e1), (.int .u64 r103.e2)] := hrd108
                  subst hrd108
                  have hq := bind_elim h
                  clear h
                  obtain ⟨r111, hr112, h⟩ := hq
                  refine T0_e rfl (eff_call Try.func80 nm80 rfl (ev2 rfl rfl) (levitate_wide_times_ok [] _ (LtL.nil _) [(.int .u64 r95.e0), (.int .u64 r95.e1), (.int .u64 r95.e2)] r95 rfl [(.int .u64 r103.e0), (.int .u64 r103.e1), (.int .u64 r103.e2)] r103 rfl r111 hr112) ?_)
                  rintro _ wd113 ⟨he114, cs115, rfl, hrd116⟩
                  have e117 := e109.trans he114
                  have e118 := e110.trans he114
                  have hrd116 : cs115 = [(.int .u64 r111.e0), (.int .u64 r111.e1), (.int .u64 r111.e2)] := hrd116
                  subst hrd116
                  refine T0_q (v := (.int .i64 p_worst)) rfl (yl_move rfl) ?_
                  have hq := bind_elim h
                  clear h
                  obtain ⟨r119, hr120, h⟩ := hq
                  refine T0_e rfl (eff_call Try.func79 nm79 rfl (ev1 rfl) (levitate_wideOf_ok [] _ (LtL.nil _) p_worst r119 hr120) ?_)
                  rintro _ wd121 ⟨he122, cs123, rfl, hrd124⟩
                  have e125 := e117.trans he122
                  have e126 := e118.trans he122
                  have hrd124 : cs123 = [(.int .u64 r119.e0), (.int .u64 r119.e1), (.int .u64 r119.e2)] := hrd124
                  subst hrd124
                  have hq := bind_elim h
                  clear h
                  obtain ⟨r127, hr128, h⟩ := hq
                  refine T0_e rfl (eff_call Try.func80 nm80 rfl (ev2 rfl rfl) (levitate_wide_times_ok [] _ (LtL.nil _) [(.int .u64 r111.e0), (.int .u64 r111.e1), (.int .u64 r111.e2)] r111 rfl [(.int .u64 r119.e0), (.int .u64 r119.e1), (.int .u64 r119.e2)] r119 rfl r127 hr128) ?_)
                  rintro _ wd129 ⟨he130, cs131, rfl, hrd132⟩
                  have e133 := e125.trans he130
                  have e134 := e126.trans he130
                  have hrd132 : cs131 = [(.int .u64 r127.e0), (.int .u64 r127.e1), (.int .u64 r127.e2)] := hrd132
                  subst hrd132
                  refine T0_e rfl (eff_allocZ zi120 ?_)
                  intro b135 wd136 hb137 he138 hB139
                  have hn141 : b135 ≠ b70 := box_ne (hB82.ext e133) hb137
                  have hbf142 := bfresh e134 hb137
                  have e143 := e133.trans he138
                  have e144 := e134.trans he138
                  refine T0_e rfl (eff_storeC (vs := [(.int .u64 r127.e0), (.int .u64 r127.e1), (.int .u64 r127.e2)]) (cs' := [(.int .u64 r127.e0), (.int .u64 r127.e1), (.int .u64 r127.e2)]) sz120 rfl rfl rfl rfl hB139 rfl (oc_cons rfl (oc_cons rfl (oc_cons rfl oc_nil))) rfl ?_)
                  intro wd146 hc147 hB148
                  have h150 := (hB82.ext e143).chg hc147 (avoidb hn141)
                  have e151 := chg_box e144 hc147 hbf142
                  refine T0_nil ?_
                  refine hK94 _ _ ?_
                  refine WC_seqK fun K152 hK152 => ?_
                  refine WC_planX mixed (.q 0 (.q 1 (.q 3 (.e 2 (.e 4 (.e 5 (.p 6 (.p 7 .done)))))))) (by kernel_rfl) ?_
                  intro wd153 he154
                  have e155 := e151.trans he154
                  refine TX_q (v := (.agg (List.toArray [(.int .u64 r62.e0), (.int .u64 r62.e1), (.int .u64 r62.e2)]))) rfl rfl (fun w' hS => (yl_loadA (cs := [(.int .u64 r62.e0), (.int .u64 r62.e1), (.int .u64 r62.e2)]) ag120 rfl (Box.at (h150.ext (he154.trans hS))))) ?_
                  refine TX_q (v := (.agg (List.toArray [(.int .u64 r62.e0), (.int .u64 r62.e1), (.int .u64 r62.e2)]))) rfl rfl (fun w' hS => (yl_loadA (cs := [(.int .u64 r62.e0), (.int .u64 r62.e1), (.int .u64 r62.e2)]) ag120 rfl (Box.at (h150.ext (he154.trans hS))))) ?_
                  refine TX_q (v := (.agg (List.toArray [(.int .u64 r127.e0), (.int .u64 r127.e1), (.int .u64 r127.e2)]))) rfl rfl (fun w' hS => (yl_loadA (cs := [(.int .u64 r127.e0), (.int .u64 r127.e1), (.int .u64 r127.e2)]) ag120 rfl (Box.at (hB148.ext (he154.trans hS))))) ?_
                  have hq := bind_elim h
                  clear h
                  obtain ⟨r156, hr157, h⟩ := hq
                  refine TX_e rfl rfl (eff_call Try.func80 nm80 rfl (ev2 rfl rfl) (levitate_wide_times_ok [] _ (LtL.nil _) [(.int .u64 r62.e0), (.int .u64 r62.e1), (.int .u64 r62.e2)] r62 rfl [(.int .u64 r62.e0), (.int .u64 r62.e1), (.int .u64 r62.e2)] r62 rfl r156 hr157) ?_)
                  rintro _ wd158 ⟨he159, cs160, rfl, hrd161⟩
                  have e163 := e155.trans he159
                  have hrd161 : cs160 = [(.int .u64 r156.e0), (.int .u64 r156.e1), (.int .u64 r156.e2)] := hrd161
                  subst hrd161
                  refine ⟨he159, ?_⟩
                  have hq := bind_elim h
                  clear h
                  obtain ⟨r164, hr165, h⟩ := hq
                  refine TX_e rfl rfl (eff_call Try.func81 nm81 rfl (ev2 rfl rfl) (levitate_wide_less_ok [] _ (LtL.nil _) [(.int .u64 r156.e0), (.int .u64 r156.e1), (.int .u64 r156.e2)] r156 rfl [(.int .u64 r127.e0), (.int .u64 r127.e1), (.int .u64 r127.e2)] r127 rfl r164 hr165) ?_)
                  rintro _ wd166 ⟨he167, cs168, rfl, hrd169⟩
                  have e171 := e163.trans he167
                  have hrd169 : cs168 = [(.int .u64 r164.e0), (.int .u64 r164.e1), (.int .u64 r164.e2)] := hrd169
                  subst hrd169
                  refine ⟨he167, ?_⟩
                  have hq := bind_elim h
                  clear h
                  obtain ⟨r172, hr173, h⟩ := hq
                  refine TX_e rfl rfl (eff_call Try.func82 nm82 rfl (ev1 rfl) (levitate_wide_below_ok [] _ (LtL.nil _) [(.int .u64 r164.e0), (.int .u64 r164.e1), (.int .u64 r164.e2)] r164 rfl r172 hr173) ?_)
                  rintro _ wd174 ⟨he175, rfl⟩
                  have e177 := e171.trans he175
                  refine ⟨he175, ?_⟩
                  refine TX_p (v := (.bool (!r172))) rfl rfl (fun w' => (yl_not rfl)) ?_
                  refine TX_p (v := (.bool (!r172))) rfl rfl (fun w' => (yl_assign rfl)) ?_
                  refine TX_done ?_
                  refine hK152 _ _ ?_
                  refine WC_ret ?_
                  replace h := some_out h
                  subst h
                  exact ⟨[(.bool (!r172))], ⟨rfl, trivial⟩, e177, rfl⟩
              · skip
                refine  (eff_allocZ zi120 ?_)
                intro b178 wd179 hb180 he181 hB182
                have hn183 : b178 ≠ b2 := box_ne (hB6.ext e60) hb180
                have hbf184 := bfresh e61 hb180
                have e185 := e60.trans he181
                have e186 := e61.trans he181
                refine ⟨he181, ?_⟩
                have hq := bind_elim h
                clear h
                obtain ⟨r188, hr189, h⟩ := hq
                refine TX_e rfl rfl (eff_call Try.func81 nm81 rfl (ev2 rfl rfl) (levitate_wide_less_ok [] _ (LtL.nil _) [(.int .u64 r30.e0), (.int .u64 r30.e1), (.int .u64 r30.e2)] r30 rfl [(.int .u64 r54.e0), (.int .u64 r54.e1), (.int .u64 r54.e2)] r54 rfl r188 hr189) ?_)
                rintro _ wd190 ⟨he191, cs192, rfl, hrd193⟩
                have e194 := e185.trans he191
                have e195 := e186.trans he191
                have hrd193 : cs192 = [(.int .u64 r188.e0), (.int .u64 r188.e1), (.int .u64 r188.e2)] := hrd193
                subst hrd193
                refine ⟨he191, ?_⟩
                refine TX_b rfl rfl (eff_storeC (vs := [(.int .u64 r188.e0), (.int .u64 r188.e1), (.int .u64 r188.e2)]) (cs' := [(.int .u64 r188.e0), (.int .u64 r188.e1), (.int .u64 r188.e2)]) sz120 rfl rfl rfl rfl (hB182.ext he191) rfl (oc_cons rfl (oc_cons rfl (oc_cons rfl oc_nil))) rfl ?_)
                intro wd196 hc197 hB198
                have h199 := (hB6.ext e194).chg hc197 (avoidb hn183)
                have e200 := chg_box e195 hc197 hbf184
                refine TX_done ?_
                refine hK10 _ _ ?_
                refine WC_seqK fun K201 hK201 => ?_
                refine WC_seqK fun K202 hK202 => ?_
                refine WC_region ?_
                refine T0_q (v := (.agg (List.toArray [(.int .u64 r188.e0), (.int .u64 r188.e1), (.int .u64 r188.e2)]))) rfl (yl_loadA (cs := [(.int .u64 r188.e0), (.int .u64 r188.e1), (.int .u64 r188.e2)]) ag120 rfl (Box.at hB198)) ?_
                have hq := bind_elim h
                clear h
                obtain ⟨r203, hr204, h⟩ := hq
                refine T0_e rfl (eff_call Try.func82 nm82 rfl (ev1 rfl) (levitate_wide_below_ok [] _ (LtL.nil _) [(.int .u64 r188.e0), (.int .u64 r188.e1), (.int .u64 r188.e2)] r188 rfl r203 hr204) ?_)
                rintro _ wd205 ⟨he206, rfl⟩
                have e207 := e200.trans he206
                refine T0_nil ?_
                refine hK202 _ _ ?_
                refine WC_cond (b := r203) rfl (fun hb208 => ?_) (fun hb208 => ?_)
                · clear hK10 hK201 hK202
                  replace h := cond_t hb208 h
                  refine WC_seqK fun K209 hK209 => ?_
                  refine WC_region ?_
                  refine T0_q (v := (.bool false)) rfl (yl_assign rfl) ?_
                  refine T0_nil ?_
                  refine hK209 _ _ ?_
                  refine WC_ret ?_
                  replace h := some_out h
                  subst h
                  exact ⟨[(.bool false)], ⟨rfl, trivial⟩, e207, rfl⟩
                · clear hK10 hK202
                  replace h := cond_f hb208 h
                  refine WC_skip ?_
                  refine hK201 _ _ ?_
                  refine WC_seqK fun K210 hK210 => ?_
                  refine WC_region ?_
                  refine T0_q (v := (.pointer (some ⟨b2, 0, none⟩))) rfl (yl_ixC (i := 0) Try.underlying48 sz3 (by decide) (by decide) rfl rfl rfl) ?_
                  refine T0_q (v := (.int .i64 p_rate.e0)) rfl (yl_load sc3 rfl (Box.at (h199.ext he206))) ?_
                  refine T0_q (v := (.int .i64 (w64 (4 * p_rate.e0)))) rfl (yl_mul rfl rfl) ?_
                  refine T0_q (v := (.pointer (some ⟨b2, 1, none⟩))) rfl (yl_ixC (i := 1) Try.underlying48 sz3 (by decide) (by decide) rfl rfl rfl) ?_
                  refine T0_q (v := (.int .i64 p_rate.e1)) rfl (yl_load sc3 rfl (At.drop (Box.at (h199.ext he206)) 1)) ?_
                  refine T0_q (v := (.int .i64 (w64 ((w64 (4 * p_rate.e0)) * p_rate.e1)))) rfl (yl_mul rfl rfl) ?_
                  have hq := bind_elim h
                  clear h
                  obtain ⟨r211, hr212, h⟩ := hq
                  refine T0_e rfl (eff_call Try.func79 nm79 rfl (ev1 rfl) (levitate_wideOf_ok [] _ (LtL.nil _) (w64 ((w64 (4 * p_rate.e0)) * p_rate.e1)) r211 hr212) ?_)
                  rintro _ wd213 ⟨he214, cs215, rfl, hrd216⟩
                  have e217 := he206.trans he214
                  have e218 := e207.trans he214
                  have hrd216 : cs215 = [(.int .u64 r211.e0), (.int .u64 r211.e1), (.int .u64 r211.e2)] := hrd216
                  subst hrd216
                  refine T0_q (v := (.int .i64 p_level)) rfl (yl_move rfl) ?_
                  have hq := bind_elim h
                  clear h
                  obtain ⟨r219, hr220, h⟩ := hq
                  refine T0_e rfl (eff_call Try.func79 nm79 rfl (ev1 rfl) (levitate_wideOf_ok [] _ (LtL.nil _) p_level r219 hr220) ?_)
                  rintro _ wd221 ⟨he222, cs223, rfl, hrd224⟩
                  have e225 := e217.trans he222
                  have e226 := e218.trans he222
                  have hrd224 : cs223 = [(.int .u64 r219.e0), (.int .u64 r219.e1), (.int .u64 r219.e2)] := hrd224
                  subst hrd224
                  have hq := bind_elim h
                  clear h
                  obtain ⟨r227, hr228, h⟩ := hq
                  refine T0_e rfl (eff_call Try.func80 nm80 rfl (ev2 rfl rfl) (levitate_wide_times_ok [] _ (LtL.nil _) [(.int .u64 r211.e0), (.int .u64 r211.e1), (.int .u64 r211.e2)] r211 rfl [(.int .u64 r219.e0), (.int .u64 r219.e1), (.int .u64 r219.e2)] r219 rfl r227 hr228) ?_)
                  rintro _ wd229 ⟨he230, cs231, rfl, hrd232⟩
                  have e233 := e225.trans he230
                  have e234 := e226.trans he230
                  have hrd232 : cs231 = [(.int .u64 r227.e0), (.int .u64 r227.e1), (.int .u64 r227.e2)] := hrd232
                  subst hrd232
                  refine T0_q (v := (.int .i64 p_worst)) rfl (yl_move rfl) ?_
                  have hq := bind_elim h
                  clear h
                  obtain ⟨r235, hr236, h⟩ := hq
                  refine T0_e rfl (eff_call Try.func79 nm79 rfl (ev1 rfl) (levitate_wideOf_ok [] _ (LtL.nil _) p_worst r235 hr236) ?_)
                  rintro _ wd237 ⟨he238, cs239, rfl, hrd240⟩
                  have e241 := e233.trans he238
                  have e242 := e234.trans he238
                  have hrd240 : cs239 = [(.int .u64 r235.e0), (.int .u64 r235.e1), (.int .u64 r235.e2)] := hrd240
                  subst hrd240
                  have hq := bind_elim h
                  clear h
                  obtain ⟨r243, hr244, h⟩ := hq
                  refine T0_e rfl (eff_call Try.func80 nm80 rfl (ev2 rfl rfl) (levitate_wide_times_ok [] _ (LtL.nil _) [(.int .u64 r227.e0), (.int .u64 r227.e1), (.int .u64 r227.e2)] r227 rfl [(.int .u64 r235.e0), (.int .u64 r235.e1), (.int .u64 r235.e2)] r235 rfl r243 hr244) ?_)
                  rintro _ wd245 ⟨he246, cs247, rfl, hrd248⟩
                  have e249 := e241.trans he246
                  have e250 := e242.trans he246
                  have hrd248 : cs247 = [(.int .u64 r243.e0), (.int .u64 r243.e1), (.int .u64 r243.e2)] := hrd248
                  subst hrd248
                  refine T0_e rfl (eff_allocZ zi120 ?_)
                  intro b251 wd252 hb253 he254 hB255
                  have hn257 : b251 ≠ b178 := box_ne (hB198.ext e249) hb253
                  have hbf258 := bfresh e250 hb253
                  have e259 := e249.trans he254
                  have e260 := e250.trans he254
                  refine T0_e rfl (eff_storeC (vs := [(.int .u64 r243.e0), (.int .u64 r243.e1), (.int .u64 r243.e2)]) (cs' := [(.int .u64 r243.e0), (.int .u64 r243.e1), (.int .u64 r243.e2)]) sz120 rfl rfl rfl rfl hB255 rfl (oc_cons rfl (oc_cons rfl (oc_cons rfl oc_nil))) rfl ?_)
                  intro wd262 hc263 hB264
                  have h266 := (hB198.ext e259).chg hc263 (avoidb hn257)
                  have e267 := chg_box e260 hc263 hbf258
                  refine T0_nil ?_
                  refine hK210 _ _ ?_
                  refine WC_seqK fun K268 hK268 => ?_
                  refine WC_planX mixed (.q 0 (.q 1 (.q 3 (.e 2 (.e 4 (.e 5 (.p 6 (.p 7 .done)))))))) (by kernel_rfl) ?_
                  intro wd269 he270
                  have e271 := e267.trans he270
                  refine TX_q (v := (.agg (List.toArray [(.int .u64 r188.e0), (.int .u64 r188.e1), (.int .u64 r188.e2)]))) rfl rfl (fun w' hS => (yl_loadA (cs := [(.int .u64 r188.e0), (.int .u64 r188.e1), (.int .u64 r188.e2)]) ag120 rfl (Box.at (h266.ext (he270.trans hS))))) ?_
                  refine TX_q (v := (.agg (List.toArray [(.int .u64 r188.e0), (.int .u64 r188.e1), (.int .u64 r188.e2)]))) rfl rfl (fun w' hS => (yl_loadA (cs := [(.int .u64 r188.e0), (.int .u64 r188.e1), (.int .u64 r188.e2)]) ag120 rfl (Box.at (h266.ext (he270.trans hS))))) ?_
                  refine TX_q (v := (.agg (List.toArray [(.int .u64 r243.e0), (.int .u64 r243.e1), (.int .u64 r243.e2)]))) rfl rfl (fun w' hS => (yl_loadA (cs := [(.int .u64 r243.e0), (.int .u64 r243.e1), (.int .u64 r243.e2)]) ag120 rfl (Box.at (hB264.ext (he270.trans hS))))) ?_
                  have hq := bind_elim h
                  clear h
                  obtain ⟨r272, hr273, h⟩ := hq
                  refine TX_e rfl rfl (eff_call Try.func80 nm80 rfl (ev2 rfl rfl) (levitate_wide_times_ok [] _ (LtL.nil _) [(.int .u64 r188.e0), (.int .u64 r188.e1), (.int .u64 r188.e2)] r188 rfl [(.int .u64 r188.e0), (.int .u64 r188.e1), (.int .u64 r188.e2)] r188 rfl r272 hr273) ?_)
                  rintro _ wd274 ⟨he275, cs276, rfl, hrd277⟩
                  have e279 := e271.trans he275
                  have hrd277 : cs276 = [(.int .u64 r272.e0), (.int .u64 r272.e1), (.int .u64 r272.e2)] := hrd277
                  subst hrd277
                  refine ⟨he275, ?_⟩
                  have hq := bind_elim h
                  clear h
                  obtain ⟨r280, hr281, h⟩ := hq
                  refine TX_e rfl rfl (eff_call Try.func81 nm81 rfl (ev2 rfl rfl) (levitate_wide_less_ok [] _ (LtL.nil _) [(.int .u64 r272.e0), (.int .u64 r272.e1), (.int .u64 r272.e2)] r272 rfl [(.int .u64 r243.e0), (.int .u64 r243.e1), (.int .u64 r243.e2)] r243 rfl r280 hr281) ?_)
                  rintro _ wd282 ⟨he283, cs284, rfl, hrd285⟩
                  have e287 := e279.trans he283
                  have hrd285 : cs284 = [(.int .u64 r280.e0), (.int .u64 r280.e1), (.int .u64 r280.e2)] := hrd285
                  subst hrd285
                  refine ⟨he283, ?_⟩
                  have hq := bind_elim h
                  clear h
                  obtain ⟨r288, hr289, h⟩ := hq
                  refine TX_e rfl rfl (eff_call Try.func82 nm82 rfl (ev1 rfl) (levitate_wide_below_ok [] _ (LtL.nil _) [(.int .u64 r280.e0), (.int .u64 r280.e1), (.int .u64 r280.e2)] r280 rfl r288 hr289) ?_)
                  rintro _ wd290 ⟨he291, rfl⟩
                  have e293 := e287.trans he291
                  refine ⟨he291, ?_⟩
                  refine TX_p (v := (.bool (!r288))) rfl rfl (fun w' => (yl_not rfl)) ?_
                  refine TX_p (v := (.bool (!r288))) rfl rfl (fun w' => (yl_assign rfl)) ?_
                  refine TX_done ?_
                  refine hK268 _ _ ?_
                  refine WC_ret ?_
                  replace h := some_out h
                  subst h
                  exact ⟨[(.bool (!r288))], ⟨rfl, trivial⟩, e293, rfl⟩
            · skip
              refine  (eff_allocZ zi120 ?_)
              intro b294 wd295 hb296 he297 hB298
              have hn299 : b294 ≠ b2 := box_ne (hB6.ext e52) hb296
              have hbf300 := bfresh e53 hb296
              have e301 := e52.trans he297
              have e302 := e53.trans he297
              refine ⟨he297, ?_⟩
              have hq := bind_elim h
              clear h
              obtain ⟨r304, hr305, h⟩ := hq
              refine TX_e rfl rfl (eff_call Try.func80 nm80 rfl (ev2 rfl rfl) (levitate_wide_times_ok [] _ (LtL.nil _) [(.int .u64 r38.e0), (.int .u64 r38.e1), (.int .u64 r38.e2)] r38 rfl [(.int .u64 r46.e0), (.int .u64 r46.e1), (.int .u64 r46.e2)] r46 rfl r304 hr305) ?_)
              rintro _ wd306 ⟨he307, cs308, rfl, hrd309⟩
              have e310 := e301.trans he307
              have e311 := e302.trans he307
              have hrd309 : cs308 = [(.int .u64 r304.e0), (.int .u64 r304.e1), (.int .u64 r304.e2)] := hrd309
              subst hrd309
              refine ⟨he307, ?_⟩
              have hq := bind_elim h
              clear h
              obtain ⟨r312, hr313, h⟩ := hq
              refine TX_e rfl rfl (eff_call Try.func81 nm81 rfl (ev2 rfl rfl) (levitate_wide_less_ok [] _ (LtL.nil _) [(.int .u64 r30.e0), (.int .u64 r30.e1), (.int .u64 r30.e2)] r30 rfl [(.int .u64 r304.e0), (.int .u64 r304.e1), (.int .u64 r304.e2)] r304 rfl r312 hr313) ?_)
              rintro _ wd314 ⟨he315, cs316, rfl, hrd317⟩
              have e318 := he307.trans he315
              have e319 := e310.trans he315
              have e320 := e311.trans he315
              have hrd317 : cs316 = [(.int .u64 r312.e0), (.int .u64 r312.e1), (.int .u64 r312.e2)] := hrd317
              subst hrd317
              refine ⟨he315, ?_⟩
              refine TX_b rfl rfl (eff_storeC (vs := [(.int .u64 r312.e0), (.int .u64 r312.e1), (.int .u64 r312.e2)]) (cs' := [(.int .u64 r312.e0), (.int .u64 r312.e1), (.int .u64 r312.e2)]) sz120 rfl rfl rfl rfl (hB298.ext e318) rfl (oc_cons rfl (oc_cons rfl (oc_cons rfl oc_nil))) rfl ?_)
              intro wd321 hc322 hB323
              have h324 := (hB6.ext e319).chg hc322 (avoidb hn299)
              have e325 := chg_box e320 hc322 hbf300
              refine TX_done ?_
              refine hK10 _ _ ?_
              refine WC_seqK fun K326 hK326 => ?_
              refine WC_seqK fun K327 hK327 => ?_
              refine WC_region ?_
              refine T0_q (v := (.agg (List.toArray [(.int .u64 r312.e0), (.int .u64 r312.e1), (.int .u64 r312.e2)]))) rfl (yl_loadA (cs := [(.int .u64 r312.e0), (.int .u64 r312.e1), (.int .u64 r312.e2)]) ag120 rfl (Box.at hB323)) ?_
              have hq := bind_elim h
              clear h
              obtain ⟨r328, hr329, h⟩ := hq
              refine T0_e rfl (eff_call Try.func82 nm82 rfl (ev1 rfl) (levitate_wide_below_ok [] _ (LtL.nil _) [(.int .u64 r312.e0), (.int .u64 r312.e1), (.int .u64 r312.e2)] r312 rfl r328 hr329) ?_)
              rintro _ wd330 ⟨he331, rfl⟩
              have e332 := e325.trans he331
              refine T0_nil ?_
              refine hK327 _ _ ?_
              refine WC_cond (b := r328) rfl (fun hb333 => ?_) (fun hb333 => ?_)
              · clear hK10 hK326 hK327
                replace h := cond_t hb333 h
                refine WC_seqK fun K334 hK334 => ?_
                refine WC_region ?_
                refine T0_q (v := (.bool false)) rfl (yl_assign rfl) ?_
                refine T0_nil ?_
                refine hK334 _ _ ?_
                refine WC_ret ?_
                replace h := some_out h
                subst h
                exact ⟨[(.bool false)], ⟨rfl, trivial⟩, e332, rfl⟩
              · clear hK10 hK327
                replace h := cond_f hb333 h
                refine WC_skip ?_
                refine hK326 _ _ ?_
                refine WC_seqK fun K335 hK335 => ?_
                refine WC_region ?_
                refine T0_q (v := (.pointer (some ⟨b2, 0, none⟩))) rfl (yl_ixC (i := 0) Try.underlying48 sz3 (by decide) (by decide) rfl rfl rfl) ?_
                refine T0_q (v := (.int .i64 p_rate.e0)) rfl (yl_load sc3 rfl (Box.at (h324.ext he331))) ?_
                refine T0_q (v := (.int .i64 (w64 (4 * p_rate.e0)))) rfl (yl_mul rfl rfl) ?_
                refine T0_q (v := (.pointer (some ⟨b2, 1, none⟩))) rfl (yl_ixC (i := 1) Try.underlying48 sz3 (by decide) (by decide) rfl rfl rfl) ?_
                refine T0_q (v := (.int .i64 p_rate.e1)) rfl (yl_load sc3 rfl (At.drop (Box.at (h324.ext he331)) 1)) ?_
                refine T0_q (v := (.int .i64 (w64 ((w64 (4 * p_rate.e0)) * p_rate.e1)))) rfl (yl_mul rfl rfl) ?_
                have hq := bind_elim h
                clear h
                obtain ⟨r336, hr337, h⟩ := hq
                refine T0_e rfl (eff_call Try.func79 nm79 rfl (ev1 rfl) (levitate_wideOf_ok [] _ (LtL.nil _) (w64 ((w64 (4 * p_rate.e0)) * p_rate.e1)) r336 hr337) ?_)
                rintro _ wd338 ⟨he339, cs340, rfl, hrd341⟩
                have e342 := he331.trans he339
                have e343 := e332.trans he339
                have hrd341 : cs340 = [(.int .u64 r336.e0), (.int .u64 r336.e1), (.int .u64 r336.e2)] := hrd341
                subst hrd341
                refine T0_q (v := (.int .i64 p_level)) rfl (yl_move rfl) ?_
                have hq := bind_elim h
                clear h
                obtain ⟨r344, hr345, h⟩ := hq
                refine T0_e rfl (eff_call Try.func79 nm79 rfl (ev1 rfl) (levitate_wideOf_ok [] _ (LtL.nil _) p_level r344 hr345) ?_)
                rintro _ wd346 ⟨he347, cs348, rfl, hrd349⟩
                have e350 := e342.trans he347
                have e351 := e343.trans he347
                have hrd349 : cs348 = [(.int .u64 r344.e0), (.int .u64 r344.e1), (.int .u64 r344.e2)] := hrd349
                subst hrd349
                have hq := bind_elim h
                clear h
                obtain ⟨r352, hr353, h⟩ := hq
                refine T0_e rfl (eff_call Try.func80 nm80 rfl (ev2 rfl rfl) (levitate_wide_times_ok [] _ (LtL.nil _) [(.int .u64 r336.e0), (.int .u64 r336.e1), (.int .u64 r336.e2)] r336 rfl [(.int .u64 r344.e0), (.int .u64 r344.e1), (.int .u64 r344.e2)] r344 rfl r352 hr353) ?_)
                rintro _ wd354 ⟨he355, cs356, rfl, hrd357⟩
                have e358 := e350.trans he355
                have e359 := e351.trans he355
                have hrd357 : cs356 = [(.int .u64 r352.e0), (.int .u64 r352.e1), (.int .u64 r352.e2)] := hrd357
                subst hrd357
                refine T0_q (v := (.int .i64 p_worst)) rfl (yl_move rfl) ?_
                have hq := bind_elim h
                clear h
                obtain ⟨r360, hr361, h⟩ := hq
                refine T0_e rfl (eff_call Try.func79 nm79 rfl (ev1 rfl) (levitate_wideOf_ok [] _ (LtL.nil _) p_worst r360 hr361) ?_)
                rintro _ wd362 ⟨he363, cs364, rfl, hrd365⟩
                have e366 := e358.trans he363
                have e367 := e359.trans he363
                have hrd365 : cs364 = [(.int .u64 r360.e0), (.int .u64 r360.e1), (.int .u64 r360.e2)] := hrd365
                subst hrd365
                have hq := bind_elim h
                clear h
                obtain ⟨r368, hr369, h⟩ := hq
                refine T0_e rfl (eff_call Try.func80 nm80 rfl (ev2 rfl rfl) (levitate_wide_times_ok [] _ (LtL.nil _) [(.int .u64 r352.e0), (.int .u64 r352.e1), (.int .u64 r352.e2)] r352 rfl [(.int .u64 r360.e0), (.int .u64 r360.e1), (.int .u64 r360.e2)] r360 rfl r368 hr369) ?_)
                rintro _ wd370 ⟨he371, cs372, rfl, hrd373⟩
                have e374 := e366.trans he371
                have e375 := e367.trans he371
                have hrd373 : cs372 = [(.int .u64 r368.e0), (.int .u64 r368.e1), (.int .u64 r368.e2)] := hrd373
                subst hrd373
                refine T0_e rfl (eff_allocZ zi120 ?_)
                intro b376 wd377 hb378 he379 hB380
                have hn382 : b376 ≠ b294 := box_ne (hB323.ext e374) hb378
                have hbf383 := bfresh e375 hb378
                have e384 := e374.trans he379
                have e385 := e375.trans he379
                refine T0_e rfl (eff_storeC (vs := [(.int .u64 r368.e0), (.int .u64 r368.e1), (.int .u64 r368.e2)]) (cs' := [(.int .u64 r368.e0), (.int .u64 r368.e1), (.int .u64 r368.e2)]) sz120 rfl rfl rfl rfl hB380 rfl (oc_cons rfl (oc_cons rfl (oc_cons rfl oc_nil))) rfl ?_)
                intro wd387 hc388 hB389
                have h391 := (hB323.ext e384).chg hc388 (avoidb hn382)
                have e392 := chg_box e385 hc388 hbf383
                refine T0_nil ?_
                refine hK335 _ _ ?_
                refine WC_seqK fun K393 hK393 => ?_
                refine WC_planX mixed (.q 0 (.q 1 (.q 3 (.e 2 (.e 4 (.e 5 (.p 6 (.p 7 .done)))))))) (by kernel_rfl) ?_
                intro wd394 he395
                have e396 := e392.trans he395
                refine TX_q (v := (.agg (List.toArray [(.int .u64 r312.e0), (.int .u64 r312.e1), (.int .u64 r312.e2)]))) rfl rfl (fun w' hS => (yl_loadA (cs := [(.int .u64 r312.e0), (.int .u64 r312.e1), (.int .u64 r312.e2)]) ag120 rfl (Box.at (h391.ext (he395.trans hS))))) ?_
                refine TX_q (v := (.agg (List.toArray [(.int .u64 r312.e0), (.int .u64 r312.e1), (.int .u64 r312.e2)]))) rfl rfl (fun w' hS => (yl_loadA (cs := [(.int .u64 r312.e0), (.int .u64 r312.e1), (.int .u64 r312.e2)]) ag120 rfl (Box.at (h391.ext (he395.trans hS))))) ?_
                refine TX_q (v := (.agg (List.toArray [(.int .u64 r368.e0), (.int .u64 r368.e1), (.int .u64 r368.e2)]))) rfl rfl (fun w' hS => (yl_loadA (cs := [(.int .u64 r368.e0), (.int .u64 r368.e1), (.int .u64 r368.e2)]) ag120 rfl (Box.at (hB389.ext (he395.trans hS))))) ?_
                have hq := bind_elim h
                clear h
                obtain ⟨r397, hr398, h⟩ := hq
                refine TX_e rfl rfl (eff_call Try.func80 nm80 rfl (ev2 rfl rfl) (levitate_wide_times_ok [] _ (LtL.nil _) [(.int .u64 r312.e0), (.int .u64 r312.e1), (.int .u64 r312.e2)] r312 rfl [(.int .u64 r312.e0), (.int .u64 r312.e1), (.int .u64 r312.e2)] r312 rfl r397 hr398) ?_)
                rintro _ wd399 ⟨he400, cs401, rfl, hrd402⟩
                have e404 := e396.trans he400
                have hrd402 : cs401 = [(.int .u64 r397.e0), (.int .u64 r397.e1), (.int .u64 r397.e2)] := hrd402
                subst hrd402
                refine ⟨he400, ?_⟩
                have hq := bind_elim h
                clear h
                obtain ⟨r405, hr406, h⟩ := hq
                refine TX_e rfl rfl (eff_call Try.func81 nm81 rfl (ev2 rfl rfl) (levitate_wide_less_ok [] _ (LtL.nil _) [(.int .u64 r397.e0), (.int .u64 r397.e1), (.int .u64 r397.e2)] r397 rfl [(.int .u64 r368.e0), (.int .u64 r368.e1), (.int .u64 r368.e2)] r368 rfl r405 hr406) ?_)
                rintro _ wd407 ⟨he408, cs409, rfl, hrd410⟩
                have e412 := e404.trans he408
                have hrd410 : cs409 = [(.int .u64 r405.e0), (.int .u64 r405.e1), (.int .u64 r405.e2)] := hrd410
                subst hrd410
                refine ⟨he408, ?_⟩
                have hq := bind_elim h
                clear h
                obtain ⟨r413, hr414, h⟩ := hq
                refine TX_e rfl rfl (eff_call Try.func82 nm82 rfl (ev1 rfl) (levitate_wide_below_ok [] _ (LtL.nil _) [(.int .u64 r405.e0), (.int .u64 r405.e1), (.int .u64 r405.e2)] r405 rfl r413 hr414) ?_)
                rintro _ wd415 ⟨he416, rfl⟩
                have e418 := e412.trans he416
                refine ⟨he416, ?_⟩
                refine TX_p (v := (.bool (!r413))) rfl rfl (fun w' => (yl_not rfl)) ?_
                refine TX_p (v := (.bool (!r413))) rfl rfl (fun w' => (yl_assign rfl)) ?_
                refine TX_done ?_
                refine hK393 _ _ ?_
                refine WC_ret ?_
                replace h := some_out h
                subst h
                exact ⟨[(.bool (!r413))], ⟨rfl, trivial⟩, e418, rfl⟩
          · skip
            refine  (eff_allocZ zi120 ?_)
            intro b419 wd420 hb421 he422 hB423
            have hn424 : b419 ≠ b2 := box_ne (hB6.ext e44) hb421
            have hbf425 := bfresh e45 hb421
            have e426 := e44.trans he422
            have e427 := e45.trans he422
            refine ⟨he422, ?_⟩
            have hq := bind_elim h
            clear h
            obtain ⟨r429, hr430, h⟩ := hq
            refine TX_e rfl rfl (eff_call Try.func79 nm79 rfl (ev1 rfl) (levitate_wideOf_ok [] _ (LtL.nil _) p_worst r429 hr430) ?_)
            rintro _ wd431 ⟨he432, cs433, rfl, hrd434⟩
            have e435 := e426.trans he432
            have e436 := e427.trans he432
            have hrd434 : cs433 = [(.int .u64 r429.e0), (.int .u64 r429.e1), (.int .u64 r429.e2)] := hrd434
            subst hrd434
            refine ⟨he432, ?_⟩
            have hq := bind_elim h
            clear h
            obtain ⟨r437, hr438, h⟩ := hq
            refine TX_e rfl rfl (eff_call Try.func80 nm80 rfl (ev2 rfl rfl) (levitate_wide_times_ok [] _ (LtL.nil _) [(.int .u64 r38.e0), (.int .u64 r38.e1), (.int .u64 r38.e2)] r38 rfl [(.int .u64 r429.e0), (.int .u64 r429.e1), (.int .u64 r429.e2)] r429 rfl r437 hr438) ?_)
            rintro _ wd439 ⟨he440, cs441, rfl, hrd442⟩
            have e443 := e435.trans he440
            have e444 := he432.trans he440
            have e445 := e436.trans he440
            have hrd442 : cs441 = [(.int .u64 r437.e0), (.int .u64 r437.e1), (.int .u64 r437.e2)] := hrd442
            subst hrd442
            refine ⟨he440, ?_⟩
            have hq := bind_elim h
            clear h
            obtain ⟨r446, hr447, h⟩ := hq
            refine TX_e rfl rfl (eff_call Try.func81 nm81 rfl (ev2 rfl rfl) (levitate_wide_less_ok [] _ (LtL.nil _) [(.int .u64 r30.e0), (.int .u64 r30.e1), (.int .u64 r30.e2)] r30 rfl [(.int .u64 r437.e0), (.int .u64 r437.e1), (.int .u64 r437.e2)] r437 rfl r446 hr447) ?_)
            rintro _ wd448 ⟨he449, cs450, rfl, hrd451⟩
            have e452 := e443.trans he449
            have e453 := e444.trans he449
            have e454 := e445.trans he449
            have hrd451 : cs450 = [(.int .u64 r446.e0), (.int .u64 r446.e1), (.int .u64 r446.e2)] := hrd451
            subst hrd451
            refine ⟨he449, ?_⟩
            refine TX_b rfl rfl (eff_storeC (vs := [(.int .u64 r446.e0), (.int .u64 r446.e1), (.int .u64 r446.e2)]) (cs' := [(.int .u64 r446.e0), (.int .u64 r446.e1), (.int .u64 r446.e2)]) sz120 rfl rfl rfl rfl (hB423.ext e453) rfl (oc_cons rfl (oc_cons rfl (oc_cons rfl oc_nil))) rfl ?_)
            intro wd455 hc456 hB457
            have h458 := (hB6.ext e452).chg hc456 (avoidb hn424)
            have e459 := chg_box e454 hc456 hbf425
            refine TX_done ?_
            refine hK10 _ _ ?_
            refine WC_seqK fun K460 hK460 => ?_
            refine WC_seqK fun K461 hK461 => ?_
            refine WC_region ?_
            refine T0_q (v := (.agg (List.toArray [(.int .u64 r446.e0), (.int .u64 r446.e1), (.int .u64 r446.e2)]))) rfl (yl_loadA (cs := [(.int .u64 r446.e0), (.int .u64 r446.e1), (.int .u64 r446.e2)]) ag120 rfl (Box.at hB457)) ?_
            have hq := bind_elim h
            clear h
            obtain ⟨r462, hr463, h⟩ := hq
            refine T0_e rfl (eff_call Try.func82 nm82 rfl (ev1 rfl) (levitate_wide_below_ok [] _ (LtL.nil _) [(.int .u64 r446.e0), (.int .u64 r446.e1), (.int .u64 r446.e2)] r446 rfl r462 hr463) ?_)
            rintro _ wd464 ⟨he465, rfl⟩
            have e466 := e459.trans he465
            refine T0_nil ?_
            refine hK461 _ _ ?_
            refine WC_cond (b := r462) rfl (fun hb467 => ?_) (fun hb467 => ?_)
            · clear hK10 hK460 hK461
              replace h := cond_t hb467 h
              refine WC_seqK fun K468 hK468 => ?_
              refine WC_region ?_
              refine T0_q (v := (.bool false)) rfl (yl_assign rfl) ?_
              refine T0_nil ?_
              refine hK468 _ _ ?_
              refine WC_ret ?_
              replace h := some_out h
              subst h
              exact ⟨[(.bool false)], ⟨rfl, trivial⟩, e466, rfl⟩
            · clear hK10 hK461
              replace h := cond_f hb467 h
              refine WC_skip ?_
              refine hK460 _ _ ?_
              refine WC_seqK fun K469 hK469 => ?_
              refine WC_region ?_
              refine T0_q (v := (.pointer (some ⟨b2, 0, none⟩))) rfl (yl_ixC (i := 0) Try.underlying48 sz3 (by decide) (by decide) rfl rfl rfl) ?_
              refine T0_q (v := (.int .i64 p_rate.e0)) rfl (yl_load sc3 rfl (Box.at (h458.ext he465))) ?_
              refine T0_q (v := (.int .i64 (w64 (4 * p_rate.e0)))) rfl (yl_mul rfl rfl) ?_
              refine T0_q (v := (.pointer (some ⟨b2, 1, none⟩))) rfl (yl_ixC (i := 1) Try.underlying48 sz3 (by decide) (by decide) rfl rfl rfl) ?_
              refine T0_q (v := (.int .i64 p_rate.e1)) rfl (yl_load sc3 rfl (At.drop (Box.at (h458.ext he465)) 1)) ?_
              refine T0_q (v := (.int .i64 (w64 ((w64 (4 * p_rate.e0)) * p_rate.e1)))) rfl (yl_mul rfl rfl) ?_
              have hq := bind_elim h
              clear h
              obtain ⟨r470, hr471, h⟩ := hq
              refine T0_e rfl (eff_call Try.func79 nm79 rfl (ev1 rfl) (levitate_wideOf_ok [] _ (LtL.nil _) (w64 ((w64 (4 * p_rate.e0)) * p_rate.e1)) r470 hr471) ?_)
              rintro _ wd472 ⟨he473, cs474, rfl, hrd475⟩
              have e476 := he465.trans he473
              have e477 := e466.trans he473
              have hrd475 : cs474 = [(.int .u64 r470.e0), (.int .u64 r470.e1), (.int .u64 r470.e2)] := hrd475
              subst hrd475
              refine T0_q (v := (.int .i64 p_level)) rfl (yl_move rfl) ?_
              have hq := bind_elim h
              clear h
              obtain ⟨r478, hr479, h⟩ := hq
              refine T0_e rfl (eff_call Try.func79 nm79 rfl (ev1 rfl) (levitate_wideOf_ok [] _ (LtL.nil _) p_level r478 hr479) ?_)
              rintro _ wd480 ⟨he481, cs482, rfl, hrd483⟩
              have e484 := e476.trans he481
              have e485 := e477.trans he481
              have hrd483 : cs482 = [(.int .u64 r478.e0), (.int .u64 r478.e1), (.int .u64 r478.e2)] := hrd483
              subst hrd483
              have hq := bind_elim h
              clear h
              obtain ⟨r486, hr487, h⟩ := hq
              refine T0_e rfl (eff_call Try.func80 nm80 rfl (ev2 rfl rfl) (levitate_wide_times_ok [] _ (LtL.nil _) [(.int .u64 r470.e0), (.int .u64 r470.e1), (.int .u64 r470.e2)] r470 rfl [(.int .u64 r478.e0), (.int .u64 r478.e1), (.int .u64 r478.e2)] r478 rfl r486 hr487) ?_)
              rintro _ wd488 ⟨he489, cs490, rfl, hrd491⟩
              have e492 := e484.trans he489
              have e493 := e485.trans he489
              have hrd491 : cs490 = [(.int .u64 r486.e0), (.int .u64 r486.e1), (.int .u64 r486.e2)] := hrd491
              subst hrd491
              refine T0_q (v := (.int .i64 p_worst)) rfl (yl_move rfl) ?_
              have hq := bind_elim h
              clear h
              obtain ⟨r494, hr495, h⟩ := hq
              refine T0_e rfl (eff_call Try.func79 nm79 rfl (ev1 rfl) (levitate_wideOf_ok [] _ (LtL.nil _) p_worst r494 hr495) ?_)
              rintro _ wd496 ⟨he497, cs498, rfl, hrd499⟩
              have e500 := e492.trans he497
              have e501 := e493.trans he497
              have hrd499 : cs498 = [(.int .u64 r494.e0), (.int .u64 r494.e1), (.int .u64 r494.e2)] := hrd499
              subst hrd499
              have hq := bind_elim h
              clear h
              obtain ⟨r502, hr503, h⟩ := hq
              refine T0_e rfl (eff_call Try.func80 nm80 rfl (ev2 rfl rfl) (levitate_wide_times_ok [] _ (LtL.nil _) [(.int .u64 r486.e0), (.int .u64 r486.e1), (.int .u64 r486.e2)] r486 rfl [(.int .u64 r494.e0), (.int .u64 r494.e1), (.int .u64 r494.e2)] r494 rfl r502 hr503) ?_)
              rintro _ wd504 ⟨he505, cs506, rfl, hrd507⟩
              have e508 := e500.trans he505
              have e509 := e501.trans he505
              have hrd507 : cs506 = [(.int .u64 r502.e0), (.int .u64 r502.e1), (.int .u64 r502.e2)] := hrd507
              subst hrd507
              refine T0_e rfl (eff_allocZ zi120 ?_)
              intro b510 wd511 hb512 he513 hB514
              have hn516 : b510 ≠ b419 := box_ne (hB457.ext e508) hb512
              have hbf517 := bfresh e509 hb512
              have e518 := e508.trans he513
              have e519 := e509.trans he513
              refine T0_e rfl (eff_storeC (vs := [(.int .u64 r502.e0), (.int .u64 r502.e1), (.int .u64 r502.e2)]) (cs' := [(.int .u64 r502.e0), (.int .u64 r502.e1), (.int .u64 r502.e2)]) sz120 rfl rfl rfl rfl hB514 rfl (oc_cons rfl (oc_cons rfl (oc_cons rfl oc_nil))) rfl ?_)
              intro wd521 hc522 hB523
              have h525 := (hB457.ext e518).chg hc522 (avoidb hn516)
              have e526 := chg_box e519 hc522 hbf517
              refine T0_nil ?_
              refine hK469 _ _ ?_
              refine WC_seqK fun K527 hK527 => ?_
              refine WC_planX mixed (.q 0 (.q 1 (.q 3 (.e 2 (.e 4 (.e 5 (.p 6 (.p 7 .done)))))))) (by kernel_rfl) ?_
              intro wd528 he529
              have e530 := e526.trans he529
              refine TX_q (v := (.agg (List.toArray [(.int .u64 r446.e0), (.int .u64 r446.e1), (.int .u64 r446.e2)]))) rfl rfl (fun w' hS => (yl_loadA (cs := [(.int .u64 r446.e0), (.int .u64 r446.e1), (.int .u64 r446.e2)]) ag120 rfl (Box.at (h525.ext (he529.trans hS))))) ?_
              refine TX_q (v := (.agg (List.toArray [(.int .u64 r446.e0), (.int .u64 r446.e1), (.int .u64 r446.e2)]))) rfl rfl (fun w' hS => (yl_loadA (cs := [(.int .u64 r446.e0), (.int .u64 r446.e1), (.int .u64 r446.e2)]) ag120 rfl (Box.at (h525.ext (he529.trans hS))))) ?_
              refine TX_q (v := (.agg (List.toArray [(.int .u64 r502.e0), (.int .u64 r502.e1), (.int .u64 r502.e2)]))) rfl rfl (fun w' hS => (yl_loadA (cs := [(.int .u64 r502.e0), (.int .u64 r502.e1), (.int .u64 r502.e2)]) ag120 rfl (Box.at (hB523.ext (he529.trans hS))))) ?_
              have hq := bind_elim h
              clear h
              obtain ⟨r531, hr532, h⟩ := hq
              refine TX_e rfl rfl (eff_call Try.func80 nm80 rfl (ev2 rfl rfl) (levitate_wide_times_ok [] _ (LtL.nil _) [(.int .u64 r446.e0), (.int .u64 r446.e1), (.int .u64 r446.e2)] r446 rfl [(.int .u64 r446.e0), (.int .u64 r446.e1), (.int .u64 r446.e2)] r446 rfl r531 hr532) ?_)
              rintro _ wd533 ⟨he534, cs535, rfl, hrd536⟩
              have e538 := e530.trans he534
              have hrd536 : cs535 = [(.int .u64 r531.e0), (.int .u64 r531.e1), (.int .u64 r531.e2)] := hrd536
              subst hrd536
              refine ⟨he534, ?_⟩
              have hq := bind_elim h
              clear h
              obtain ⟨r539, hr540, h⟩ := hq
              refine TX_e rfl rfl (eff_call Try.func81 nm81 rfl (ev2 rfl rfl) (levitate_wide_less_ok [] _ (LtL.nil _) [(.int .u64 r531.e0), (.int .u64 r531.e1), (.int .u64 r531.e2)] r531 rfl [(.int .u64 r502.e0), (.int .u64 r502.e1), (.int .u64 r502.e2)] r502 rfl r539 hr540) ?_)
              rintro _ wd541 ⟨he542, cs543, rfl, hrd544⟩
              have e546 := e538.trans he542
              have hrd544 : cs543 = [(.int .u64 r539.e0), (.int .u64 r539.e1), (.int .u64 r539.e2)] := hrd544
              subst hrd544
              refine ⟨he542, ?_⟩
              have hq := bind_elim h
              clear h
              obtain ⟨r547, hr548, h⟩ := hq
              refine TX_e rfl rfl (eff_call Try.func82 nm82 rfl (ev1 rfl) (levitate_wide_below_ok [] _ (LtL.nil _) [(.int .u64 r539.e0), (.int .u64 r539.e1), (.int .u64 r539.e2)] r539 rfl r547 hr548) ?_)
              rintro _ wd549 ⟨he550, rfl⟩
              have e552 := e546.trans he550
              refine ⟨he550, ?_⟩
              refine TX_p (v := (.bool (!r547))) rfl rfl (fun w' => (yl_not rfl)) ?_
              refine TX_p (v := (.bool (!r547))) rfl rfl (fun w' => (yl_assign rfl)) ?_
              refine TX_done ?_
              refine hK527 _ _ ?_
              refine WC_ret ?_
              replace h := some_out h
              subst h
              exact ⟨[(.bool (!r547))], ⟨rfl, trivial⟩, e552, rfl⟩
        · skip
          refine  (eff_allocZ zi120 ?_)
          intro b553 wd554 hb555 he556 hB557
          have hn558 : b553 ≠ b2 := box_ne (hB6.ext e36) hb555
          have hbf559 := bfresh e37 hb555
          have e560 := e36.trans he556
          have e561 := e37.trans he556
          refine ⟨he556, ?_⟩
          have hq := bind_elim h
          clear h
          obtain ⟨r563, hr564, h⟩ := hq
          refine TX_e rfl rfl (eff_call Try.func79 nm79 rfl (ev1 rfl) (levitate_wideOf_ok [] _ (LtL.nil _) p_rate.e1 r563 hr564) ?_)
          rintro _ wd565 ⟨he566, cs567, rfl, hrd568⟩
          have e569 := e560.trans he566
          have e570 := e561.trans he566
          have hrd568 : cs567 = [(.int .u64 r563.e0), (.int .u64 r563.e1), (.int .u64 r563.e2)] := hrd568
          subst hrd568
          refine ⟨he566, ?_⟩
          have hq := bind_elim h
          clear h
          obtain ⟨r571, hr572, h⟩ := hq
          refine TX_e rfl rfl (eff_call Try.func79 nm79 rfl (ev1 rfl) (levitate_wideOf_ok [] _ (LtL.nil _) p_worst r571 hr572) ?_)
          rintro _ wd573 ⟨he574, cs575, rfl, hrd576⟩
          have e577 := e569.trans he574
          have e578 := he566.trans he574
          have e579 := e570.trans he574
          have hrd576 : cs575 = [(.int .u64 r571.e0), (.int .u64 r571.e1), (.int .u64 r571.e2)] := hrd576
          subst hrd576
          refine ⟨he574, ?_⟩
          have hq := bind_elim h
          clear h
          obtain ⟨r580, hr581, h⟩ := hq
          refine TX_e rfl rfl (eff_call Try.func80 nm80 rfl (ev2 rfl rfl) (levitate_wide_times_ok [] _ (LtL.nil _) [(.int .u64 r563.e0), (.int .u64 r563.e1), (.int .u64 r563.e2)] r563 rfl [(.int .u64 r571.e0), (.int .u64 r571.e1), (.int .u64 r571.e2)] r571 rfl r580 hr581) ?_)
          rintro _ wd582 ⟨he583, cs584, rfl, hrd585⟩
          have e586 := e577.trans he583
          have e587 := e578.trans he583
          have e588 := e579.trans he583
          have hrd585 : cs584 = [(.int .u64 r580.e0), (.int .u64 r580.e1), (.int .u64 r580.e2)] := hrd585
          subst hrd585
          refine ⟨he583, ?_⟩
          have hq := bind_elim h
          clear h
          obtain ⟨r589, hr590, h⟩ := hq
          refine TX_e rfl rfl (eff_call Try.func81 nm81 rfl (ev2 rfl rfl) (levitate_wide_less_ok [] _ (LtL.nil _) [(.int .u64 r30.e0), (.int .u64 r30.e1), (.int .u64 r30.e2)] r30 rfl [(.int .u64 r580.e0), (.int .u64 r580.e1), (.int .u64 r580.e2)] r580 rfl r589 hr590) ?_)
          rintro _ wd591 ⟨he592, cs593, rfl, hrd594⟩
          have e595 := e586.trans he592
          have e596 := e587.trans he592
          have e597 := e588.trans he592
          have hrd594 : cs593 = [(.int .u64 r589.e0), (.int .u64 r589.e1), (.int .u64 r589.e2)] := hrd594
          subst hrd594
          refine ⟨he592, ?_⟩
          refine TX_b rfl rfl (eff_storeC (vs := [(.int .u64 r589.e0), (.int .u64 r589.e1), (.int .u64 r589.e2)]) (cs' := [(.int .u64 r589.e0), (.int .u64 r589.e1), (.int .u64 r589.e2)]) sz120 rfl rfl rfl rfl (hB557.ext e596) rfl (oc_cons rfl (oc_cons rfl (oc_cons rfl oc_nil))) rfl ?_)
          intro wd598 hc599 hB600
          have h601 := (hB6.ext e595).chg hc599 (avoidb hn558)
          have e602 := chg_box e597 hc599 hbf559
          refine TX_done ?_
          refine hK10 _ _ ?_
          refine WC_seqK fun K603 hK603 => ?_
          refine WC_seqK fun K604 hK604 => ?_
          refine WC_region ?_
          refine T0_q (v := (.agg (List.toArray [(.int .u64 r589.e0), (.int .u64 r589.e1), (.int .u64 r589.e2)]))) rfl (yl_loadA (cs := [(.int .u64 r589.e0), (.int .u64 r589.e1), (.int .u64 r589.e2)]) ag120 rfl (Box.at hB600)) ?_
          have hq := bind_elim h
          clear h
          obtain ⟨r605, hr606, h⟩ := hq
          refine T0_e rfl (eff_call Try.func82 nm82 rfl (ev1 rfl) (levitate_wide_below_ok [] _ (LtL.nil _) [(.int .u64 r589.e0), (.int .u64 r589.e1), (.int .u64 r589.e2)] r589 rfl r605 hr606) ?_)
          rintro _ wd607 ⟨he608, rfl⟩
          have e609 := e602.trans he608
          refine T0_nil ?_
          refine hK604 _ _ ?_
          refine WC_cond (b := r605) rfl (fun hb610 => ?_) (fun hb610 => ?_)
          · clear hK10 hK603 hK604
            replace h := cond_t hb610 h
            refine WC_seqK fun K611 hK611 => ?_
            refine WC_region ?_
            refine T0_q (v := (.bool false)) rfl (yl_assign rfl) ?_
            refine T0_nil ?_
            refine hK611 _ _ ?_
            refine WC_ret ?_
            replace h := some_out h
            subst h
            exact ⟨[(.bool false)], ⟨rfl, trivial⟩, e609, rfl⟩
          · clear hK10 hK604
            replace h := cond_f hb610 h
            refine WC_skip ?_
            refine hK603 _ _ ?_
            refine WC_seqK fun K612 hK612 => ?_
            refine WC_region ?_
            refine T0_q (v := (.pointer (some ⟨b2, 0, none⟩))) rfl (yl_ixC (i := 0) Try.underlying48 sz3 (by decide) (by decide) rfl rfl rfl) ?_
            refine T0_q (v := (.int .i64 p_rate.e0)) rfl (yl_load sc3 rfl (Box.at (h601.ext he608))) ?_
            refine T0_q (v := (.int .i64 (w64 (4 * p_rate.e0)))) rfl (yl_mul rfl rfl) ?_
            refine T0_q (v := (.pointer (some ⟨b2, 1, none⟩))) rfl (yl_ixC (i := 1) Try.underlying48 sz3 (by decide) (by decide) rfl rfl rfl) ?_
            refine T0_q (v := (.int .i64 p_rate.e1)) rfl (yl_load sc3 rfl (At.drop (Box.at (h601.ext he608)) 1)) ?_
            refine T0_q (v := (.int .i64 (w64 ((w64 (4 * p_rate.e0)) * p_rate.e1)))) rfl (yl_mul rfl rfl) ?_
            have hq := bind_elim h
            clear h
            obtain ⟨r613, hr614, h⟩ := hq
            refine T0_e rfl (eff_call Try.func79 nm79 rfl (ev1 rfl) (levitate_wideOf_ok [] _ (LtL.nil _) (w64 ((w64 (4 * p_rate.e0)) * p_rate.e1)) r613 hr614) ?_)
            rintro _ wd615 ⟨he616, cs617, rfl, hrd618⟩
            have e619 := he608.trans he616
            have e620 := e609.trans he616
            have hrd618 : cs617 = [(.int .u64 r613.e0), (.int .u64 r613.e1), (.int .u64 r613.e2)] := hrd618
            subst hrd618
            refine T0_q (v := (.int .i64 p_level)) rfl (yl_move rfl) ?_
            have hq := bind_elim h
            clear h
            obtain ⟨r621, hr622, h⟩ := hq
            refine T0_e rfl (eff_call Try.func79 nm79 rfl (ev1 rfl) (levitate_wideOf_ok [] _ (LtL.nil _) p_level r621 hr622) ?_)
            rintro _ wd623 ⟨he624, cs625, rfl, hrd626⟩
            have e627 := e619.trans he624
            have e628 := e620.trans he624
            have hrd626 : cs625 = [(.int .u64 r621.e0), (.int .u64 r621.e1), (.int .u64 r621.e2)] := hrd626
            subst hrd626
            have hq := bind_elim h
            clear h
            obtain ⟨r629, hr630, h⟩ := hq
            refine T0_e rfl (eff_call Try.func80 nm80 rfl (ev2 rfl rfl) (levitate_wide_times_ok [] _ (LtL.nil _) [(.int .u64 r613.e0), (.int .u64 r613.e1), (.int .u64 r613.e2)] r613 rfl [(.int .u64 r621.e0), (.int .u64 r621.e1), (.int .u64 r621.e2)] r621 rfl r629 hr630) ?_)
            rintro _ wd631 ⟨he632, cs633, rfl, hrd634⟩
            have e635 := e627.trans he632
            have e636 := e628.trans he632
            have hrd634 : cs633 = [(.int .u64 r629.e0), (.int .u64 r629.e1), (.int .u64 r629.e2)] := hrd634
            subst hrd634
            refine T0_q (v := (.int .i64 p_worst)) rfl (yl_move rfl) ?_
            have hq := bind_elim h
            clear h
            obtain ⟨r637, hr638, h⟩ := hq
            refine T0_e rfl (eff_call Try.func79 nm79 rfl (ev1 rfl) (levitate_wideOf_ok [] _ (LtL.nil _) p_worst r637 hr638) ?_)
            rintro _ wd639 ⟨he640, cs641, rfl, hrd642⟩
            have e643 := e635.trans he640
            have e644 := e636.trans he640
            have hrd642 : cs641 = [(.int .u64 r637.e0), (.int .u64 r637.e1), (.int .u64 r637.e2)] := hrd642
            subst hrd642
            have hq := bind_elim h
            clear h
            obtain ⟨r645, hr646, h⟩ := hq
            refine T0_e rfl (eff_call Try.func80 nm80 rfl (ev2 rfl rfl) (levitate_wide_times_ok [] _ (LtL.nil _) [(.int .u64 r629.e0), (.int .u64 r629.e1), (.int .u64 r629.e2)] r629 rfl [(.int .u64 r637.e0), (.int .u64 r637.e1), (.int .u64 r637.e2)] r637 rfl r645 hr646) ?_)
            rintro _ wd647 ⟨he648, cs649, rfl, hrd650⟩
            have e651 := e643.trans he648
            have e652 := e644.trans he648
            have hrd650 : cs649 = [(.int .u64 r645.e0), (.int .u64 r645.e1), (.int .u64 r645.e2)] := hrd650
            subst hrd650
            refine T0_e rfl (eff_allocZ zi120 ?_)
            intro b653 wd654 hb655 he656 hB657
            have hn659 : b653 ≠ b553 := box_ne (hB600.ext e651) hb655
            have hbf660 := bfresh e652 hb655
            have e661 := e651.trans he656
            have e662 := e652.trans he656
            refine T0_e rfl (eff_storeC (vs := [(.int .u64 r645.e0), (.int .u64 r645.e1), (.int .u64 r645.e2)]) (cs' := [(.int .u64 r645.e0), (.int .u64 r645.e1), (.int .u64 r645.e2)]) sz120 rfl rfl rfl rfl hB657 rfl (oc_cons rfl (oc_cons rfl (oc_cons rfl oc_nil))) rfl ?_)
            intro wd664 hc665 hB666
            have h668 := (hB600.ext e661).chg hc665 (avoidb hn659)
            have e669 := chg_box e662 hc665 hbf660
            refine T0_nil ?_
            refine hK612 _ _ ?_
            refine WC_seqK fun K670 hK670 => ?_
            refine WC_planX mixed (.q 0 (.q 1 (.q 3 (.e 2 (.e 4 (.e 5 (.p 6 (.p 7 .done)))))))) (by kernel_rfl) ?_
            intro wd671 he672
            have e673 := e669.trans he672
            refine TX_q (v := (.agg (List.toArray [(.int .u64 r589.e0), (.int .u64 r589.e1), (.int .u64 r589.e2)]))) rfl rfl (fun w' hS => (yl_loadA (cs := [(.int .u64 r589.e0), (.int .u64 r589.e1), (.int .u64 r589.e2)]) ag120 rfl (Box.at (h668.ext (he672.trans hS))))) ?_
            refine TX_q (v := (.agg (List.toArray [(.int .u64 r589.e0), (.int .u64 r589.e1), (.int .u64 r589.e2)]))) rfl rfl (fun w' hS => (yl_loadA (cs := [(.int .u64 r589.e0), (.int .u64 r589.e1), (.int .u64 r589.e2)]) ag120 rfl (Box.at (h668.ext (he672.trans hS))))) ?_
            refine TX_q (v := (.agg (List.toArray [(.int .u64 r645.e0), (.int .u64 r645.e1), (.int .u64 r645.e2)]))) rfl rfl (fun w' hS => (yl_loadA (cs := [(.int .u64 r645.e0), (.int .u64 r645.e1), (.int .u64 r645.e2)]) ag120 rfl (Box.at (hB666.ext (he672.trans hS))))) ?_
            have hq := bind_elim h
            clear h
            obtain ⟨r674, hr675, h⟩ := hq
            refine TX_e rfl rfl (eff_call Try.func80 nm80 rfl (ev2 rfl rfl) (levitate_wide_times_ok [] _ (LtL.nil _) [(.int .u64 r589.e0), (.int .u64 r589.e1), (.int .u64 r589.e2)] r589 rfl [(.int .u64 r589.e0), (.int .u64 r589.e1), (.int .u64 r589.e2)] r589 rfl r674 hr675) ?_)
            rintro _ wd676 ⟨he677, cs678, rfl, hrd679⟩
            have e681 := e673.trans he677
            have hrd679 : cs678 = [(.int .u64 r674.e0), (.int .u64 r674.e1), (.int .u64 r674.e2)] := hrd679
            subst hrd679
            refine ⟨he677, ?_⟩
            have hq := bind_elim h
            clear h
            obtain ⟨r682, hr683, h⟩ := hq
            refine TX_e rfl rfl (eff_call Try.func81 nm81 rfl (ev2 rfl rfl) (levitate_wide_less_ok [] _ (LtL.nil _) [(.int .u64 r674.e0), (.int .u64 r674.e1), (.int .u64 r674.e2)] r674 rfl [(.int .u64 r645.e0), (.int .u64 r645.e1), (.int .u64 r645.e2)] r645 rfl r682 hr683) ?_)
            rintro _ wd684 ⟨he685, cs686, rfl, hrd687⟩
            have e689 := e681.trans he685
            have hrd687 : cs686 = [(.int .u64 r682.e0), (.int .u64 r682.e1), (.int .u64 r682.e2)] := hrd687
            subst hrd687
            refine ⟨he685, ?_⟩
            have hq := bind_elim h
            clear h
            obtain ⟨r690, hr691, h⟩ := hq
            refine TX_e rfl rfl (eff_call Try.func82 nm82 rfl (ev1 rfl) (levitate_wide_below_ok [] _ (LtL.nil _) [(.int .u64 r682.e0), (.int .u64 r682.e1), (.int .u64 r682.e2)] r682 rfl r690 hr691) ?_)
            rintro _ wd692 ⟨he693, rfl⟩
            have e695 := e689.trans he693
            refine ⟨he693, ?_⟩
            refine TX_p (v := (.bool (!r690))) rfl rfl (fun w' => (yl_not rfl)) ?_
            refine TX_p (v := (.bool (!r690))) rfl rfl (fun w' => (yl_assign rfl)) ?_
            refine TX_done ?_
            refine hK670 _ _ ?_
            refine WC_ret ?_
            replace h := some_out h
            subst h
            exact ⟨[(.bool (!r690))], ⟨rfl, trivial⟩, e695, rfl⟩
      · skip
        refine  (eff_allocZ zi120 ?_)
        intro b696 wd697 hb698 he699 hB700
        have hn701 : b696 ≠ b2 := box_ne (hB6.ext e28) hb698
        have hbf702 := bfresh e29 hb698
        have e703 := e28.trans he699
        have e704 := e29.trans he699
        refine ⟨he699, ?_⟩
        have hq := bind_elim h
        clear h
        obtain ⟨r706, hr707, h⟩ := hq
        refine TX_e rfl rfl (eff_call Try.func80 nm80 rfl (ev2 rfl rfl) (levitate_wide_times_ok [] _ (LtL.nil _) [(.int .u64 r14.e0), (.int .u64 r14.e1), (.int .u64 r14.e2)] r14 rfl [(.int .u64 r22.e0), (.int .u64 r22.e1), (.int .u64 r22.e2)] r22 rfl r706 hr707) ?_)
        rintro _ wd708 ⟨he709, cs710, rfl, hrd711⟩
        have e712 := e703.trans he709
        have e713 := e704.trans he709
        have hrd711 : cs710 = [(.int .u64 r706.e0), (.int .u64 r706.e1), (.int .u64 r706.e2)] := hrd711
        subst hrd711
        refine ⟨he709, ?_⟩
        have hq := bind_elim h
        clear h
        obtain ⟨r714, hr715, h⟩ := hq
        refine TX_e rfl rfl (eff_call Try.func79 nm79 rfl (ev1 rfl) (levitate_wideOf_ok [] _ (LtL.nil _) p_rate.e1 r714 hr715) ?_)
        rintro _ wd716 ⟨he717, cs718, rfl, hrd719⟩
        have e720 := e712.trans he717
        have e721 := he709.trans he717
        have e722 := e713.trans he717
        have hrd719 : cs718 = [(.int .u64 r714.e0), (.int .u64 r714.e1), (.int .u64 r714.e2)] := hrd719
        subst hrd719
        refine ⟨he717, ?_⟩
        have hq := bind_elim h
        clear h
        obtain ⟨r723, hr724, h⟩ := hq
        refine TX_e rfl rfl (eff_call Try.func79 nm79 rfl (ev1 rfl) (levitate_wideOf_ok [] _ (LtL.nil _) p_worst r723 hr724) ?_)
        rintro _ wd725 ⟨he726, cs727, rfl, hrd728⟩
        have e729 := e720.trans he726
        have e730 := e721.trans he726
        have e731 := e722.trans he726
        have hrd728 : cs727 = [(.int .u64 r723.e0), (.int .u64 r723.e1), (.int .u64 r723.e2)] := hrd728
        subst hrd728
        refine ⟨he726, ?_⟩
        have hq := bind_elim h
        clear h
        obtain ⟨r732, hr733, h⟩ := hq
        refine TX_e rfl rfl (eff_call Try.func80 nm80 rfl (ev2 rfl rfl) (levitate_wide_times_ok [] _ (LtL.nil _) [(.int .u64 r714.e0), (.int .u64 r714.e1), (.int .u64 r714.e2)] r714 rfl [(.int .u64 r723.e0), (.int .u64 r723.e1), (.int .u64 r723.e2)] r723 rfl r732 hr733) ?_)
        rintro _ wd734 ⟨he735, cs736, rfl, hrd737⟩
        have e738 := e729.trans he735
        have e739 := e730.trans he735
        have e740 := e731.trans he735
        have hrd737 : cs736 = [(.int .u64 r732.e0), (.int .u64 r732.e1), (.int .u64 r732.e2)] := hrd737
        subst hrd737
        refine ⟨he735, ?_⟩
        have hq := bind_elim h
        clear h
        obtain ⟨r741, hr742, h⟩ := hq
        refine TX_e rfl rfl (eff_call Try.func81 nm81 rfl (ev2 rfl rfl) (levitate_wide_less_ok [] _ (LtL.nil _) [(.int .u64 r706.e0), (.int .u64 r706.e1), (.int .u64 r706.e2)] r706 rfl [(.int .u64 r732.e0), (.int .u64 r732.e1), (.int .u64 r732.e2)] r732 rfl r741 hr742) ?_)
        rintro _ wd743 ⟨he744, cs745, rfl, hrd746⟩
        have e747 := e738.trans he744
        have e748 := e739.trans he744
        have e749 := e740.trans he744
        have hrd746 : cs745 = [(.int .u64 r741.e0), (.int .u64 r741.e1), (.int .u64 r741.e2)] := hrd746
        subst hrd746
        refine ⟨he744, ?_⟩
        refine TX_b rfl rfl (eff_storeC (vs := [(.int .u64 r741.e0), (.int .u64 r741.e1), (.int .u64 r741.e2)]) (cs' := [(.int .u64 r741.e0), (.int .u64 r741.e1), (.int .u64 r741.e2)]) sz120 rfl rfl rfl rfl (hB700.ext e748) rfl (oc_cons rfl (oc_cons rfl (oc_cons rfl oc_nil))) rfl ?_)
        intro wd750 hc751 hB752
        have h753 := (hB6.ext e747).chg hc751 (avoidb hn701)
        have e754 := chg_box e749 hc751 hbf702
        refine TX_done ?_
        refine hK10 _ _ ?_
        refine WC_seqK fun K755 hK755 => ?_
        refine WC_seqK fun K756 hK756 => ?_
        refine WC_region ?_
        refine T0_q (v := (.agg (List.toArray [(.int .u64 r741.e0), (.int .u64 r741.e1), (.int .u64 r741.e2)]))) rfl (yl_loadA (cs := [(.int .u64 r741.e0), (.int .u64 r741.e1), (.int .u64 r741.e2)]) ag120 rfl (Box.at hB752)) ?_
        have hq := bind_elim h
        clear h
        obtain ⟨r757, hr758, h⟩ := hq
        refine T0_e rfl (eff_call Try.func82 nm82 rfl (ev1 rfl) (levitate_wide_below_ok [] _ (LtL.nil _) [(.int .u64 r741.e0), (.int .u64 r741.e1), (.int .u64 r741.e2)] r741 rfl r757 hr758) ?_)
        rintro _ wd759 ⟨he760, rfl⟩
        have e761 := e754.trans he760
        refine T0_nil ?_
        refine hK756 _ _ ?_
        refine WC_cond (b := r757) rfl (fun hb762 => ?_) (fun hb762 => ?_)
        · clear hK10 hK755 hK756
          replace h := cond_t hb762 h
          refine WC_seqK fun K763 hK763 => ?_
          refine WC_region ?_
          refine T0_q (v := (.bool false)) rfl (yl_assign rfl) ?_
          refine T0_nil ?_
          refine hK763 _ _ ?_
          refine WC_ret ?_
          replace h := some_out h
          subst h
          exact ⟨[(.bool false)], ⟨rfl, trivial⟩, e761, rfl⟩
        · clear hK10 hK756
          replace h := cond_f hb762 h
          refine WC_skip ?_
          refine hK755 _ _ ?_
          refine WC_seqK fun K764 hK764 => ?_
          refine WC_region ?_
          refine T0_q (v := (.pointer (some ⟨b2, 0, none⟩))) rfl (yl_ixC (i := 0) Try.underlying48 sz3 (by decide) (by decide) rfl rfl rfl) ?_
          refine T0_q (v := (.int .i64 p_rate.e0)) rfl (yl_load sc3 rfl (Box.at (h753.ext he760))) ?_
          refine T0_q (v := (.int .i64 (w64 (4 * p_rate.e0)))) rfl (yl_mul rfl rfl) ?_
          refine T0_q (v := (.pointer (some ⟨b2, 1, none⟩))) rfl (yl_ixC (i := 1) Try.underlying48 sz3 (by decide) (by decide) rfl rfl rfl) ?_
          refine T0_q (v := (.int .i64 p_rate.e1)) rfl (yl_load sc3 rfl (At.drop (Box.at (h753.ext he760)) 1)) ?_
          refine T0_q (v := (.int .i64 (w64 ((w64 (4 * p_rate.e0)) * p_rate.e1)))) rfl (yl_mul rfl rfl) ?_
          have hq := bind_elim h
          clear h
          obtain ⟨r765, hr766, h⟩ := hq
          refine T0_e rfl (eff_call Try.func79 nm79 rfl (ev1 rfl) (levitate_wideOf_ok [] _ (LtL.nil _) (w64 ((w64 (4 * p_rate.e0)) * p_rate.e1)) r765 hr766) ?_)
          rintro _ wd767 ⟨he768, cs769, rfl, hrd770⟩
          have e771 := he760.trans he768
          have e772 := e761.trans he768
          have hrd770 : cs769 = [(.int .u64 r765.e0), (.int .u64 r765.e1), (.int .u64 r765.e2)] := hrd770
          subst hrd770
          refine T0_q (v := (.int .i64 p_level)) rfl (yl_move rfl) ?_
          have hq := bind_elim h
          clear h
          obtain ⟨r773, hr774, h⟩ := hq
          refine T0_e rfl (eff_call Try.func79 nm79 rfl (ev1 rfl) (levitate_wideOf_ok [] _ (LtL.nil _) p_level r773 hr774) ?_)
          rintro _ wd775 ⟨he776, cs777, rfl, hrd778⟩
          have e779 := e771.trans he776
          have e780 := e772.trans he776
          have hrd778 : cs777 = [(.int .u64 r773.e0), (.int .u64 r773.e1), (.int .u64 r773.e2)] := hrd778
          subst hrd778
          have hq := bind_elim h
          clear h
          obtain ⟨r781, hr782, h⟩ := hq
          refine T0_e rfl (eff_call Try.func80 nm80 rfl (ev2 rfl rfl) (levitate_wide_times_ok [] _ (LtL.nil _) [(.int .u64 r765.e0), (.int .u64 r765.e1), (.int .u64 r765.e2)] r765 rfl [(.int .u64 r773.e0), (.int .u64 r773.e1), (.int .u64 r773.e2)] r773 rfl r781 hr782) ?_)
          rintro _ wd783 ⟨he784, cs785, rfl, hrd786⟩
          have e787 := e779.trans he784
          have e788 := e780.trans he784
          have hrd786 : cs785 = [(.int .u64 r781.e0), (.int .u64 r781.e1), (.int .u64 r781.e2)] := hrd786
          subst hrd786
          refine T0_q (v := (.int .i64 p_worst)) rfl (yl_move rfl) ?_
          have hq := bind_elim h
          clear h
          obtain ⟨r789, hr790, h⟩ := hq
          refine T0_e rfl (eff_call Try.func79 nm79 rfl (ev1 rfl) (levitate_wideOf_ok [] _ (LtL.nil _) p_worst r789 hr790) ?_)
          rintro _ wd791 ⟨he792, cs793, rfl, hrd794⟩
          have e795 := e787.trans he792
          have e796 := e788.trans he792
          have hrd794 : cs793 = [(.int .u64 r789.e0), (.int .u64 r789.e1), (.int .u64 r789.e2)] := hrd794
          subst hrd794
          have hq := bind_elim h
          clear h
          obtain ⟨r797, hr798, h⟩ := hq
          refine T0_e rfl (eff_call Try.func80 nm80 rfl (ev2 rfl rfl) (levitate_wide_times_ok [] _ (LtL.nil _) [(.int .u64 r781.e0), (.int .u64 r781.e1), (.int .u64 r781.e2)] r781 rfl [(.int .u64 r789.e0), (.int .u64 r789.e1), (.int .u64 r789.e2)] r789 rfl r797 hr798) ?_)
          rintro _ wd799 ⟨he800, cs801, rfl, hrd802⟩
          have e803 := e795.trans he800
          have e804 := e796.trans he800
          have hrd802 : cs801 = [(.int .u64 r797.e0), (.int .u64 r797.e1), (.int .u64 r797.e2)] := hrd802
          subst hrd802
          refine T0_e rfl (eff_allocZ zi120 ?_)
          intro b805 wd806 hb807 he808 hB809
          have hn811 : b805 ≠ b696 := box_ne (hB752.ext e803) hb807
          have hbf812 := bfresh e804 hb807
          have e813 := e803.trans he808
          have e814 := e804.trans he808
          refine T0_e rfl (eff_storeC (vs := [(.int .u64 r797.e0), (.int .u64 r797.e1), (.int .u64 r797.e2)]) (cs' := [(.int .u64 r797.e0), (.int .u64 r797.e1), (.int .u64 r797.e2)]) sz120 rfl rfl rfl rfl hB809 rfl (oc_cons rfl (oc_cons rfl (oc_cons rfl oc_nil))) rfl ?_)
          intro wd816 hc817 hB818
          have h820 := (hB752.ext e813).chg hc817 (avoidb hn811)
          have e821 := chg_box e814 hc817 hbf812
          refine T0_nil ?_
          refine hK764 _ _ ?_
          refine WC_seqK fun K822 hK822 => ?_
          refine WC_planX mixed (.q 0 (.q 1 (.q 3 (.e 2 (.e 4 (.e 5 (.p 6 (.p 7 .done)))))))) (by kernel_rfl) ?_
          intro wd823 he824
          have e825 := e821.trans he824
          refine TX_q (v := (.agg (List.toArray [(.int .u64 r741.e0), (.int .u64 r741.e1), (.int .u64 r741.e2)]))) rfl rfl (fun w' hS => (yl_loadA (cs := [(.int .u64 r741.e0), (.int .u64 r741.e1), (.int .u64 r741.e2)]) ag120 rfl (Box.at (h820.ext (he824.trans hS))))) ?_
          refine TX_q (v := (.agg (List.toArray [(.int .u64 r741.e0), (.int .u64 r741.e1), (.int .u64 r741.e2)]))) rfl rfl (fun w' hS => (yl_loadA (cs := [(.int .u64 r741.e0), (.int .u64 r741.e1), (.int .u64 r741.e2)]) ag120 rfl (Box.at (h820.ext (he824.trans hS))))) ?_
          refine TX_q (v := (.agg (List.toArray [(.int .u64 r797.e0), (.int .u64 r797.e1), (.int .u64 r797.e2)]))) rfl rfl (fun w' hS => (yl_loadA (cs := [(.int .u64 r797.e0), (.int .u64 r797.e1), (.int .u64 r797.e2)]) ag120 rfl (Box.at (hB818.ext (he824.trans hS))))) ?_
          have hq := bind_elim h
          clear h
          obtain ⟨r826, hr827, h⟩ := hq
          refine TX_e rfl rfl (eff_call Try.func80 nm80 rfl (ev2 rfl rfl) (levitate_wide_times_ok [] _ (LtL.nil _) [(.int .u64 r741.e0), (.int .u64 r741.e1), (.int .u64 r741.e2)] r741 rfl [(.int .u64 r741.e0), (.int .u64 r741.e1), (.int .u64 r741.e2)] r741 rfl r826 hr827) ?_)
          rintro _ wd828 ⟨he829, cs830, rfl, hrd831⟩
          have e833 := e825.trans he829
          have hrd831 : cs830 = [(.int .u64 r826.e0), (.int .u64 r826.e1), (.int .u64 r826.e2)] := hrd831
          subst hrd831
          refine ⟨he829, ?_⟩
          have hq := bind_elim h
          clear h
          obtain ⟨r834, hr835, h⟩ := hq
          refine TX_e rfl rfl (eff_call Try.func81 nm81 rfl (ev2 rfl rfl) (levitate_wide_less_ok [] _ (LtL.nil _) [(.int .u64 r826.e0), (.int .u64 r826.e1), (.int .u64 r826.e2)] r826 rfl [(.int .u64 r797.e0), (.int .u64 r797.e1), (.int .u64 r797.e2)] r797 rfl r834 hr835) ?_)
          rintro _ wd836 ⟨he837, cs838, rfl, hrd839⟩
          have e841 := e833.trans he837
          have hrd839 : cs838 = [(.int .u64 r834.e0), (.int .u64 r834.e1), (.int .u64 r834.e2)] := hrd839
          subst hrd839
          refine ⟨he837, ?_⟩
          have hq := bind_elim h
          clear h
          obtain ⟨r842, hr843, h⟩ := hq
          refine TX_e rfl rfl (eff_call Try.func82 nm82 rfl (ev1 rfl) (levitate_wide_below_ok [] _ (LtL.nil _) [(.int .u64 r834.e0), (.int .u64 r834.e1), (.int .u64 r834.e2)] r834 rfl r842 hr843) ?_)
          rintro _ wd844 ⟨he845, rfl⟩
          have e847 := e841.trans he845
          refine ⟨he845, ?_⟩
          refine TX_p (v := (.bool (!r842))) rfl rfl (fun w' => (yl_not rfl)) ?_
          refine TX_p (v := (.bool (!r842))) rfl rfl (fun w' => (yl_assign rfl)) ?_
          refine TX_done ?_
          refine hK822 _ _ ?_
          refine WC_ret ?_
          replace h := some_out h
          subst h
          exact ⟨[(.bool (!r842))], ⟨rfl, trivial⟩, e847, rfl⟩
    · skip
      refine  (eff_allocZ zi120 ?_)
      intro b848 wd849 hb850 he851 hB852
      have hn853 : b848 ≠ b2 := box_ne (hB6.ext e20) hb850
      have hbf854 := bfresh e21 hb850
      have e855 := e20.trans he851
      have e856 := e21.trans he851
      refine ⟨he851, ?_⟩
      have hq := bind_elim h
      clear h
      obtain ⟨r858, hr859, h⟩ := hq
      refine TX_e rfl rfl (eff_call Try.func79 nm79 rfl (ev1 rfl) (levitate_wideOf_ok [] _ (LtL.nil _) p_level r858 hr859) ?_)
      rintro _ wd860 ⟨he861, cs862, rfl, hrd863⟩
      have e864 := e855.trans he861
      have e865 := e856.trans he861
      have hrd863 : cs862 = [(.int .u64 r858.e0), (.int .u64 r858.e1), (.int .u64 r858.e2)] := hrd863
      subst hrd863
      refine ⟨he861, ?_⟩
      have hq := bind_elim h
      clear h
      obtain ⟨r866, hr867, h⟩ := hq
      refine TX_e rfl rfl (eff_call Try.func80 nm80 rfl (ev2 rfl rfl) (levitate_wide_times_ok [] _ (LtL.nil _) [(.int .u64 r14.e0), (.int .u64 r14.e1), (.int .u64 r14.e2)] r14 rfl [(.int .u64 r858.e0), (.int .u64 r858.e1), (.int .u64 r858.e2)] r858 rfl r866 hr867) ?_)
      rintro _ wd868 ⟨he869, cs870, rfl, hrd871⟩
      have e872 := e864.trans he869
      have e873 := he861.trans he869
      have e874 := e865.trans he869
      have hrd871 : cs870 = [(.int .u64 r866.e0), (.int .u64 r866.e1), (.int .u64 r866.e2)] := hrd871
      subst hrd871
      refine ⟨he869, ?_⟩
      have hq := bind_elim h
      clear h
      obtain ⟨r875, hr876, h⟩ := hq
      refine TX_e rfl rfl (eff_call Try.func79 nm79 rfl (ev1 rfl) (levitate_wideOf_ok [] _ (LtL.nil _) p_rate.e1 r875 hr876) ?_)
      rintro _ wd877 ⟨he878, cs879, rfl, hrd880⟩
      have e881 := e872.trans he878
      have e882 := e873.trans he878
      have e883 := e874.trans he878
      have hrd880 : cs879 = [(.int .u64 r875.e0), (.int .u64 r875.e1), (.int .u64 r875.e2)] := hrd880
      subst hrd880
      refine ⟨he878, ?_⟩
      have hq := bind_elim h
      clear h
      obtain ⟨r884, hr885, h⟩ := hq
      refine TX_e rfl rfl (eff_call Try.func79 nm79 rfl (ev1 rfl) (levitate_wideOf_ok [] _ (LtL.nil _) p_worst r884 hr885) ?_)
      rintro _ wd886 ⟨he887, cs888, rfl, hrd889⟩
      have e890 := e881.trans he887
      have e891 := e882.trans he887
      have e892 := e883.trans he887
      have hrd889 : cs888 = [(.int .u64 r884.e0), (.int .u64 r884.e1), (.int .u64 r884.e2)] := hrd889
      subst hrd889
      refine ⟨he887, ?_⟩
      have hq := bind_elim h
      clear h
      obtain ⟨r893, hr894, h⟩ := hq
      refine TX_e rfl rfl (eff_call Try.func80 nm80 rfl (ev2 rfl rfl) (levitate_wide_times_ok [] _ (LtL.nil _) [(.int .u64 r875.e0), (.int .u64 r875.e1), (.int .u64 r875.e2)] r875 rfl [(.int .u64 r884.e0), (.int .u64 r884.e1), (.int .u64 r884.e2)] r884 rfl r893 hr894) ?_)
      rintro _ wd895 ⟨he896, cs897, rfl, hrd898⟩
      have e899 := e890.trans he896
      have e900 := e891.trans he896
      have e901 := e892.trans he896
      have hrd898 : cs897 = [(.int .u64 r893.e0), (.int .u64 r893.e1), (.int .u64 r893.e2)] := hrd898
      subst hrd898
      refine ⟨he896, ?_⟩
      have hq := bind_elim h
      clear h
      obtain ⟨r902, hr903, h⟩ := hq
      refine TX_e rfl rfl (eff_call Try.func81 nm81 rfl (ev2 rfl rfl) (levitate_wide_less_ok [] _ (LtL.nil _) [(.int .u64 r866.e0), (.int .u64 r866.e1), (.int .u64 r866.e2)] r866 rfl [(.int .u64 r893.e0), (.int .u64 r893.e1), (.int .u64 r893.e2)] r893 rfl r902 hr903) ?_)
      rintro _ wd904 ⟨he905, cs906, rfl, hrd907⟩
      have e908 := e899.trans he905
      have e909 := e900.trans he905
      have e910 := e901.trans he905
      have hrd907 : cs906 = [(.int .u64 r902.e0), (.int .u64 r902.e1), (.int .u64 r902.e2)] := hrd907
      subst hrd907
      refine ⟨he905, ?_⟩
      refine TX_b rfl rfl (eff_storeC (vs := [(.int .u64 r902.e0), (.int .u64 r902.e1), (.int .u64 r902.e2)]) (cs' := [(.int .u64 r902.e0), (.int .u64 r902.e1), (.int .u64 r902.e2)]) sz120 rfl rfl rfl rfl (hB852.ext e909) rfl (oc_cons rfl (oc_cons rfl (oc_cons rfl oc_nil))) rfl ?_)
      intro wd911 hc912 hB913
      have h914 := (hB6.ext e908).chg hc912 (avoidb hn853)
      have e915 := chg_box e910 hc912 hbf854
      refine TX_done ?_
      refine hK10 _ _ ?_
      refine WC_seqK fun K916 hK916 => ?_
      refine WC_seqK fun K917 hK917 => ?_
      refine WC_region ?_
      refine T0_q (v := (.agg (List.toArray [(.int .u64 r902.e0), (.int .u64 r902.e1), (.int .u64 r902.e2)]))) rfl (yl_loadA (cs := [(.int .u64 r902.e0), (.int .u64 r902.e1), (.int .u64 r902.e2)]) ag120 rfl (Box.at hB913)) ?_
      have hq := bind_elim h
      clear h
      obtain ⟨r918, hr919, h⟩ := hq
      refine T0_e rfl (eff_call Try.func82 nm82 rfl (ev1 rfl) (levitate_wide_below_ok [] _ (LtL.nil _) [(.int .u64 r902.e0), (.int .u64 r902.e1), (.int .u64 r902.e2)] r902 rfl r918 hr919) ?_)
      rintro _ wd920 ⟨he921, rfl⟩
      have e922 := e915.trans he921
      refine T0_nil ?_
      refine hK917 _ _ ?_
      refine WC_cond (b := r918) rfl (fun hb923 => ?_) (fun hb923 => ?_)
      · clear hK10 hK916 hK917
        replace h := cond_t hb923 h
        refine WC_seqK fun K924 hK924 => ?_
        refine WC_region ?_
        refine T0_q (v := (.bool false)) rfl (yl_assign rfl) ?_
        refine T0_nil ?_
        refine hK924 _ _ ?_
        refine WC_ret ?_
        replace h := some_out h
        subst h
        exact ⟨[(.bool false)], ⟨rfl, trivial⟩, e922, rfl⟩
      · clear hK10 hK917
        replace h := cond_f hb923 h
        refine WC_skip ?_
        refine hK916 _ _ ?_
        refine WC_seqK fun K925 hK925 => ?_
        refine WC_region ?_
        refine T0_q (v := (.pointer (some ⟨b2, 0, none⟩))) rfl (yl_ixC (i := 0) Try.underlying48 sz3 (by decide) (by decide) rfl rfl rfl) ?_
        refine T0_q (v := (.int .i64 p_rate.e0)) rfl (yl_load sc3 rfl (Box.at (h914.ext he921))) ?_
        refine T0_q (v := (.int .i64 (w64 (4 * p_rate.e0)))) rfl (yl_mul rfl rfl) ?_
        refine T0_q (v := (.pointer (some ⟨b2, 1, none⟩))) rfl (yl_ixC (i := 1) Try.underlying48 sz3 (by decide) (by decide) rfl rfl rfl) ?_
        refine T0_q (v := (.int .i64 p_rate.e1)) rfl (yl_load sc3 rfl (At.drop (Box.at (h914.ext he921)) 1)) ?_
        refine T0_q (v := (.int .i64 (w64 ((w64 (4 * p_rate.e0)) * p_rate.e1)))) rfl (yl_mul rfl rfl) ?_
        have hq := bind_elim h
        clear h
        obtain ⟨r926, hr927, h⟩ := hq
        refine T0_e rfl (eff_call Try.func79 nm79 rfl (ev1 rfl) (levitate_wideOf_ok [] _ (LtL.nil _) (w64 ((w64 (4 * p_rate.e0)) * p_rate.e1)) r926 hr927) ?_)
        rintro _ wd928 ⟨he929, cs930, rfl, hrd931⟩
        have e932 := he921.trans he929
        have e933 := e922.trans he929
        have hrd931 : cs930 = [(.int .u64 r926.e0), (.int .u64 r926.e1), (.int .u64 r926.e2)] := hrd931
        subst hrd931
        refine T0_q (v := (.int .i64 p_level)) rfl (yl_move rfl) ?_
        have hq := bind_elim h
        clear h
        obtain ⟨r934, hr935, h⟩ := hq
        refine T0_e rfl (eff_call Try.func79 nm79 rfl (ev1 rfl) (levitate_wideOf_ok [] _ (LtL.nil _) p_level r934 hr935) ?_)
        rintro _ wd936 ⟨he937, cs938, rfl, hrd939⟩
        have e940 := e932.trans he937
        have e941 := e933.trans he937
        have hrd939 : cs938 = [(.int .u64 r934.e0), (.int .u64 r934.e1), (.int .u64 r934.e2)] := hrd939
        subst hrd939
        have hq := bind_elim h
        clear h
        obtain ⟨r942, hr943, h⟩ := hq
        refine T0_e rfl (eff_call Try.func80 nm80 rfl (ev2 rfl rfl) (levitate_wide_times_ok [] _ (LtL.nil _) [(.int .u64 r926.e0), (.int .u64 r926.e1), (.int .u64 r926.e2)] r926 rfl [(.int .u64 r934.e0), (.int .u64 r934.e1), (.int .u64 r934.e2)] r934 rfl r942 hr943) ?_)
        rintro _ wd944 ⟨he945, cs946, rfl, hrd947⟩
        have e948 := e940.trans he945
        have e949 := e941.trans he945
        have hrd947 : cs946 = [(.int .u64 r942.e0), (.int .u64 r942.e1), (.int .u64 r942.e2)] := hrd947
        subst hrd947
        refine T0_q (v := (.int .i64 p_worst)) rfl (yl_move rfl) ?_
        have hq := bind_elim h
        clear h
        obtain ⟨r950, hr951, h⟩ := hq
        refine T0_e rfl (eff_call Try.func79 nm79 rfl (ev1 rfl) (levitate_wideOf_ok [] _ (LtL.nil _) p_worst r950 hr951) ?_)
        rintro _ wd952 ⟨he953, cs954, rfl, hrd955⟩
        have e956 := e948.trans he953
        have e957 := e949.trans he953
        have hrd955 : cs954 = [(.int .u64 r950.e0), (.int .u64 r950.e1), (.int .u64 r950.e2)] := hrd955
        subst hrd955
        have hq := bind_elim h
        clear h
        obtain ⟨r958, hr959, h⟩ := hq
        refine T0_e rfl (eff_call Try.func80 nm80 rfl (ev2 rfl rfl) (levitate_wide_times_ok [] _ (LtL.nil _) [(.int .u64 r942.e0), (.int .u64 r942.e1), (.int .u64 r942.e2)] r942 rfl [(.int .u64 r950.e0), (.int .u64 r950.e1), (.int .u64 r950.e2)] r950 rfl r958 hr959) ?_)
        rintro _ wd960 ⟨he961, cs962, rfl, hrd963⟩
        have e964 := e956.trans he961
        have e965 := e957.trans he961
        have hrd963 : cs962 = [(.int .u64 r958.e0), (.int .u64 r958.e1), (.int .u64 r958.e2)] := hrd963
        subst hrd963
        refine T0_e rfl (eff_allocZ zi120 ?_)
        intro b966 wd967 hb968 he969 hB970
        have hn972 : b966 ≠ b848 := box_ne (hB913.ext e964) hb968
        have hbf973 := bfresh e965 hb968
        have e974 := e964.trans he969
        have e975 := e965.trans he969
        refine T0_e rfl (eff_storeC (vs := [(.int .u64 r958.e0), (.int .u64 r958.e1), (.int .u64 r958.e2)]) (cs' := [(.int .u64 r958.e0), (.int .u64 r958.e1), (.int .u64 r958.e2)]) sz120 rfl rfl rfl rfl hB970 rfl (oc_cons rfl (oc_cons rfl (oc_cons rfl oc_nil))) rfl ?_)
        intro wd977 hc978 hB979
        have h981 := (hB913.ext e974).chg hc978 (avoidb hn972)
        have e982 := chg_box e975 hc978 hbf973
        refine T0_nil ?_
        refine hK925 _ _ ?_
        refine WC_seqK fun K983 hK983 => ?_
        refine WC_planX mixed (.q 0 (.q 1 (.q 3 (.e 2 (.e 4 (.e 5 (.p 6 (.p 7 .done)))))))) (by kernel_rfl) ?_
        intro wd984 he985
        have e986 := e982.trans he985
        refine TX_q (v := (.agg (List.toArray [(.int .u64 r902.e0), (.int .u64 r902.e1), (.int .u64 r902.e2)]))) rfl rfl (fun w' hS => (yl_loadA (cs := [(.int .u64 r902.e0), (.int .u64 r902.e1), (.int .u64 r902.e2)]) ag120 rfl (Box.at (h981.ext (he985.trans hS))))) ?_
        refine TX_q (v := (.agg (List.toArray [(.int .u64 r902.e0), (.int .u64 r902.e1), (.int .u64 r902.e2)]))) rfl rfl (fun w' hS => (yl_loadA (cs := [(.int .u64 r902.e0), (.int .u64 r902.e1), (.int .u64 r902.e2)]) ag120 rfl (Box.at (h981.ext (he985.trans hS))))) ?_
        refine TX_q (v := (.agg (List.toArray [(.int .u64 r958.e0), (.int .u64 r958.e1), (.int .u64 r958.e2)]))) rfl rfl (fun w' hS => (yl_loadA (cs := [(.int .u64 r958.e0), (.int .u64 r958.e1), (.int .u64 r958.e2)]) ag120 rfl (Box.at (hB979.ext (he985.trans hS))))) ?_
        have hq := bind_elim h
        clear h
        obtain ⟨r987, hr988, h⟩ := hq
        refine TX_e rfl rfl (eff_call Try.func80 nm80 rfl (ev2 rfl rfl) (levitate_wide_times_ok [] _ (LtL.nil _) [(.int .u64 r902.e0), (.int .u64 r902.e1), (.int .u64 r902.e2)] r902 rfl [(.int .u64 r902.e0), (.int .u64 r902.e1), (.int .u64 r902.e2)] r902 rfl r987 hr988) ?_)
        rintro _ wd989 ⟨he990, cs991, rfl, hrd992⟩
        have e994 := e986.trans he990
        have hrd992 : cs991 = [(.int .u64 r987.e0), (.int .u64 r987.e1), (.int .u64 r987.e2)] := hrd992
        subst hrd992
        refine ⟨he990, ?_⟩
        have hq := bind_elim h
        clear h
        obtain ⟨r995, hr996, h⟩ := hq
        refine TX_e rfl rfl (eff_call Try.func81 nm81 rfl (ev2 rfl rfl) (levitate_wide_less_ok [] _ (LtL.nil _) [(.int .u64 r987.e0), (.int .u64 r987.e1), (.int .u64 r987.e2)] r987 rfl [(.int .u64 r958.e0), (.int .u64 r958.e1), (.int .u64 r958.e2)] r958 rfl r995 hr996) ?_)
        rintro _ wd997 ⟨he998, cs999, rfl, hrd1000⟩
        have e1002 := e994.trans he998
        have hrd1000 : cs999 = [(.int .u64 r995.e0), (.int .u64 r995.e1), (.int .u64 r995.e2)] := hrd1000
        subst hrd1000
        refine ⟨he998, ?_⟩
        have hq := bind_elim h
        clear h
        obtain ⟨r1003, hr1004, h⟩ := hq
        refine TX_e rfl rfl (eff_call Try.func82 nm82 rfl (ev1 rfl) (levitate_wide_below_ok [] _ (LtL.nil _) [(.int .u64 r995.e0), (.int .u64 r995.e1), (.int .u64 r995.e2)] r995 rfl r1003 hr1004) ?_)
        rintro _ wd1005 ⟨he1006, rfl⟩
        have e1008 := e1002.trans he1006
        refine ⟨he1006, ?_⟩
        refine TX_p (v := (.bool (!r1003))) rfl rfl (fun w' => (yl_not rfl)) ?_
        refine TX_p (v := (.bool (!r1003))) rfl rfl (fun w' => (yl_assign rfl)) ?_
        refine TX_done ?_
        refine hK983 _ _ ?_
        refine WC_ret ?_
        replace h := some_out h
        subst h
        exact ⟨[(.bool (!r1003))], ⟨rfl, trivial⟩, e1008, rfl⟩
  · clear hK1
    skip
    refine  (eff_allocZ zi120 ?_)
    intro b1009 wd1010 hb1011 he1012 hB1013
    have hn1014 : b1009 ≠ b2 := box_ne (hB6.ext he12) hb1011
    have hbf1015 := bfresh e13 hb1011
    have e1016 := he12.trans he1012
    have e1017 := e13.trans he1012
    refine ⟨he1012, ?_⟩
    have hq := bind_elim h
    clear h
    obtain ⟨r1019, hr1020, h⟩ := hq
    refine TX_e rfl rfl (eff_call Try.func79 nm79 rfl (ev1 rfl) (levitate_wideOf_ok [] _ (LtL.nil _) (w64 (p_rate.e1 - p_rate.e0)) r1019 hr1020) ?_)
    rintro _ wd1021 ⟨he1022, cs1023, rfl, hrd1024⟩
    have e1025 := e1016.trans he1022
    have e1026 := e1017.trans he1022
    have hrd1024 : cs1023 = [(.int .u64 r1019.e0), (.int .u64 r1019.e1), (.int .u64 r1019.e2)] := hrd1024
    subst hrd1024
    refine ⟨he1022, ?_⟩
    have hq := bind_elim h
    clear h
    obtain ⟨r1027, hr1028, h⟩ := hq
    refine TX_e rfl rfl (eff_call Try.func79 nm79 rfl (ev1 rfl) (levitate_wideOf_ok [] _ (LtL.nil _) p_level r1027 hr1028) ?_)
    rintro _ wd1029 ⟨he1030, cs1031, rfl, hrd1032⟩
    have e1033 := he1022.trans he1030
    have e1034 := e1025.trans he1030
    have e1035 := e1026.trans he1030
    have hrd1032 : cs1031 = [(.int .u64 r1027.e0), (.int .u64 r1027.e1), (.int .u64 r1027.e2)] := hrd1032
    subst hrd1032
    refine ⟨he1030, ?_⟩
    have hq := bind_elim h
    clear h
    obtain ⟨r1036, hr1037, h⟩ := hq
    refine TX_e rfl rfl (eff_call Try.func80 nm80 rfl (ev2 rfl rfl) (levitate_wide_times_ok [] _ (LtL.nil _) [(.int .u64 r1019.e0), (.int .u64 r1019.e1), (.int .u64 r1019.e2)] r1019 rfl [(.int .u64 r1027.e0), (.int .u64 r1027.e1), (.int .u64 r1027.e2)] r1027 rfl r1036 hr1037) ?_)
    rintro _ wd1038 ⟨he1039, cs1040, rfl, hrd1041⟩
    have e1042 := e1033.trans he1039
    have e1043 := e1034.trans he1039
    have e1044 := e1035.trans he1039
    have hrd1041 : cs1040 = [(.int .u64 r1036.e0), (.int .u64 r1036.e1), (.int .u64 r1036.e2)] := hrd1041
    subst hrd1041
    refine ⟨he1039, ?_⟩
    have hq := bind_elim h
    clear h
    obtain ⟨r1045, hr1046, h⟩ := hq
    refine TX_e rfl rfl (eff_call Try.func79 nm79 rfl (ev1 rfl) (levitate_wideOf_ok [] _ (LtL.nil _) p_rate.e1 r1045 hr1046) ?_)
    rintro _ wd1047 ⟨he1048, cs1049, rfl, hrd1050⟩
    have e1051 := e1042.trans he1048
    have e1052 := e1043.trans he1048
    have e1053 := e1044.trans he1048
    have hrd1050 : cs1049 = [(.int .u64 r1045.e0), (.int .u64 r1045.e1), (.int .u64 r1045.e2)] := hrd1050
    subst hrd1050
    refine ⟨he1048, ?_⟩
    have hq := bind_elim h
    clear h
    obtain ⟨r1054, hr1055, h⟩ := hq
    refine TX_e rfl rfl (eff_call Try.func79 nm79 rfl (ev1 rfl) (levitate_wideOf_ok [] _ (LtL.nil _) p_worst r1054 hr1055) ?_)
    rintro _ wd1056 ⟨he1057, cs1058, rfl, hrd1059⟩
    have e1060 := e1051.trans he1057
    have e1061 := e1052.trans he1057
    have e1062 := e1053.trans he1057
    have hrd1059 : cs1058 = [(.int .u64 r1054.e0), (.int .u64 r1054.e1), (.int .u64 r1054.e2)] := hrd1059
    subst hrd1059
    refine ⟨he1057, ?_⟩
    have hq := bind_elim h
    clear h
    obtain ⟨r1063, hr1064, h⟩ := hq
    refine TX_e rfl rfl (eff_call Try.func80 nm80 rfl (ev2 rfl rfl) (levitate_wide_times_ok [] _ (LtL.nil _) [(.int .u64 r1045.e0), (.int .u64 r1045.e1), (.int .u64 r1045.e2)] r1045 rfl [(.int .u64 r1054.e0), (.int .u64 r1054.e1), (.int .u64 r1054.e2)] r1054 rfl r1063 hr1064) ?_)
    rintro _ wd1065 ⟨he1066, cs1067, rfl, hrd1068⟩
    have e1069 := e1060.trans he1066
    have e1070 := e1061.trans he1066
    have e1071 := e1062.trans he1066
    have hrd1068 : cs1067 = [(.int .u64 r1063.e0), (.int .u64 r1063.e1), (.int .u64 r1063.e2)] := hrd1068
    subst hrd1068
    refine ⟨he1066, ?_⟩
    have hq := bind_elim h
    clear h
    obtain ⟨r1072, hr1073, h⟩ := hq
    refine TX_e rfl rfl (eff_call Try.func81 nm81 rfl (ev2 rfl rfl) (levitate_wide_less_ok [] _ (LtL.nil _) [(.int .u64 r1036.e0), (.int .u64 r1036.e1), (.int .u64 r1036.e2)] r1036 rfl [(.int .u64 r1063.e0), (.int .u64 r1063.e1), (.int .u64 r1063.e2)] r1063 rfl r1072 hr1073) ?_)
    rintro _ wd1074 ⟨he1075, cs1076, rfl, hrd1077⟩
    have e1078 := e1069.trans he1075
    have e1079 := e1070.trans he1075
    have e1080 := e1071.trans he1075
    have hrd1077 : cs1076 = [(.int .u64 r1072.e0), (.int .u64 r1072.e1), (.int .u64 r1072.e2)] := hrd1077
    subst hrd1077
    refine ⟨he1075, ?_⟩
    refine TX_b rfl rfl (eff_storeC (vs := [(.int .u64 r1072.e0), (.int .u64 r1072.e1), (.int .u64 r1072.e2)]) (cs' := [(.int .u64 r1072.e0), (.int .u64 r1072.e1), (.int .u64 r1072.e2)]) sz120 rfl rfl rfl rfl (hB1013.ext e1078) rfl (oc_cons rfl (oc_cons rfl (oc_cons rfl oc_nil))) rfl ?_)
    intro wd1081 hc1082 hB1083
    have h1084 := (hB6.ext e1079).chg hc1082 (avoidb hn1014)
    have e1085 := chg_box e1080 hc1082 hbf1015
    refine TX_done ?_
    refine hK10 _ _ ?_
    refine WC_seqK fun K1086 hK1086 => ?_
    refine WC_seqK fun K1087 hK1087 => ?_
    refine WC_region ?_
    refine T0_q (v := (.agg (List.toArray [(.int .u64 r1072.e0), (.int .u64 r1072.e1), (.int .u64 r1072.e2)]))) rfl (yl_loadA (cs := [(.int .u64 r1072.e0), (.int .u64 r1072.e1), (.int .u64 r1072.e2)]) ag120 rfl (Box.at hB1083)) ?_
    have hq := bind_elim h
    clear h
    obtain ⟨r1088, hr1089, h⟩ := hq
    refine T0_e rfl (eff_call Try.func82 nm82 rfl (ev1 rfl) (levitate_wide_below_ok [] _ (LtL.nil _) [(.int .u64 r1072.e0), (.int .u64 r1072.e1), (.int .u64 r1072.e2)] r1072 rfl r1088 hr1089) ?_)
    rintro _ wd1090 ⟨he1091, rfl⟩
    have e1092 := e1085.trans he1091
    refine T0_nil ?_
    refine hK1087 _ _ ?_
    refine WC_cond (b := r1088) rfl (fun hb1093 => ?_) (fun hb1093 => ?_)
    · clear hK10 hK1086 hK1087
      replace h := cond_t hb1093 h
      refine WC_seqK fun K1094 hK1094 => ?_
      refine WC_region ?_
      refine T0_q (v := (.bool false)) rfl (yl_assign rfl) ?_
      refine T0_nil ?_
      refine hK1094 _ _ ?_
      refine WC_ret ?_
      replace h := some_out h
      subst h
      exact ⟨[(.bool false)], ⟨rfl, trivial⟩, e1092, rfl⟩
    · clear hK10 hK1087
      replace h := cond_f hb1093 h
      refine WC_skip ?_
      refine hK1086 _ _ ?_
      refine WC_seqK fun K1095 hK1095 => ?_
      refine WC_region ?_
      refine T0_q (v := (.pointer (some ⟨b2, 0, none⟩))) rfl (yl_ixC (i := 0) Try.underlying48 sz3 (by decide) (by decide) rfl rfl rfl) ?_
      refine T0_q (v := (.int .i64 p_rate.e0)) rfl (yl_load sc3 rfl (Box.at (h1084.ext he1091))) ?_
      refine T0_q (v := (.int .i64 (w64 (4 * p_rate.e0)))) rfl (yl_mul rfl rfl) ?_
      refine T0_q (v := (.pointer (some ⟨b2, 1, none⟩))) rfl (yl_ixC (i := 1) Try.underlying48 sz3 (by decide) (by decide) rfl rfl rfl) ?_
      refine T0_q (v := (.int .i64 p_rate.e1)) rfl (yl_load sc3 rfl (At.drop (Box.at (h1084.ext he1091)) 1)) ?_
      refine T0_q (v := (.int .i64 (w64 ((w64 (4 * p_rate.e0)) * p_rate.e1)))) rfl (yl_mul rfl rfl) ?_
      have hq := bind_elim h
      clear h
      obtain ⟨r1096, hr1097, h⟩ := hq
      refine T0_e rfl (eff_call Try.func79 nm79 rfl (ev1 rfl) (levitate_wideOf_ok [] _ (LtL.nil _) (w64 ((w64 (4 * p_rate.e0)) * p_rate.e1)) r1096 hr1097) ?_)
      rintro _ wd1098 ⟨he1099, cs1100, rfl, hrd1101⟩
      have e1102 := he1091.trans he1099
      have e1103 := e1092.trans he1099
      have hrd1101 : cs1100 = [(.int .u64 r1096.e0), (.int .u64 r1096.e1), (.int .u64 r1096.e2)] := hrd1101
      subst hrd1101
      refine T0_q (v := (.int .i64 p_level)) rfl (yl_move rfl) ?_
      have hq := bind_elim h
      clear h
      obtain ⟨r1104, hr1105, h⟩ := hq
      refine T0_e rfl (eff_call Try.func79 nm79 rfl (ev1 rfl) (levitate_wideOf_ok [] _ (LtL.nil _) p_level r1104 hr1105) ?_)
      rintro _ wd1106 ⟨he1107, cs1108, rfl, hrd1109⟩
      have e1110 := e1102.trans he1107
      have e1111 := e1103.trans he1107
      have hrd1109 : cs1108 = [(.int .u64 r1104.e0), (.int .u64 r1104.e1), (.int .u64 r1104.e2)] := hrd1109
      subst hrd1109
      have hq := bind_elim h
      clear h
      obtain ⟨r1112, hr1113, h⟩ := hq
      refine T0_e rfl (eff_call Try.func80 nm80 rfl (ev2 rfl rfl) (levitate_wide_times_ok [] _ (LtL.nil _) [(.int .u64 r1096.e0), (.int .u64 r1096.e1), (.int .u64 r1096.e2)] r1096 rfl [(.int .u64 r1104.e0), (.int .u64 r1104.e1), (.int .u64 r1104.e2)] r1104 rfl r1112 hr1113) ?_)
      rintro _ wd1114 ⟨he1115, cs1116, rfl, hrd1117⟩
      have e1118 := e1110.trans he1115
      have e1119 := e1111.trans he1115
      have hrd1117 : cs1116 = [(.int .u64 r1112.e0), (.int .u64 r1112.e1), (.int .u64 r1112.e2)] := hrd1117
      subst hrd1117
      refine T0_q (v := (.int .i64 p_worst)) rfl (yl_move rfl) ?_
      have hq := bind_elim h
      clear h
      obtain ⟨r1120, hr1121, h⟩ := hq
      refine T0_e rfl (eff_call Try.func79 nm79 rfl (ev1 rfl) (levitate_wideOf_ok [] _ (LtL.nil _) p_worst r1120 hr1121) ?_)
      rintro _ wd1122 ⟨he1123, cs1124, rfl, hrd1125⟩
      have e1126 := e1118.trans he1123
      have e1127 := e1119.trans he1123
      have hrd1125 : cs1124 = [(.int .u64 r1120.e0), (.int .u64 r1120.e1), (.int .u64 r1120.e2)] := hrd1125
      subst hrd1125
      have hq := bind_elim h
      clear h
      obtain ⟨r1128, hr1129, h⟩ := hq
      refine T0_e rfl (eff_call Try.func80 nm80 rfl (ev2 rfl rfl) (levitate_wide_times_ok [] _ (LtL.nil _) [(.int .u64 r1112.e0), (.int .u64 r1112.e1), (.int .u64 r1112.e2)] r1112 rfl [(.int .u64 r1120.e0), (.int .u64 r1120.e1), (.int .u64 r1120.e2)] r1120 rfl r1128 hr1129) ?_)
      rintro _ wd1130 ⟨he1131, cs1132, rfl, hrd1133⟩
      have e1134 := e1126.trans he1131
      have e1135 := e1127.trans he1131
      have hrd1133 : cs1132 = [(.int .u64 r1128.e0), (.int .u64 r1128.e1), (.int .u64 r1128.e2)] := hrd1133
      subst hrd1133
      refine T0_e rfl (eff_allocZ zi120 ?_)
      intro b1136 wd1137 hb1138 he1139 hB1140
      have hn1142 : b1136 ≠ b1009 := box_ne (hB1083.ext e1134) hb1138
      have hbf1143 := bfresh e1135 hb1138
      have e1144 := e1134.trans he1139
      have e1145 := e1135.trans he1139
      refine T0_e rfl (eff_storeC (vs := [(.int .u64 r1128.e0), (.int .u64 r1128.e1), (.int .u64 r1128.e2)]) (cs' := [(.int .u64 r1128.e0), (.int .u64 r1128.e1), (.int .u64 r1128.e2)]) sz120 rfl rfl rfl rfl hB1140 rfl (oc_cons rfl (oc_cons rfl (oc_cons rfl oc_nil))) rfl ?_)
      intro wd1147 hc1148 hB1149
      have h1151 := (hB1083.ext e1144).chg hc1148 (avoidb hn1142)
      have e1152 := chg_box e1145 hc1148 hbf1143
      refine T0_nil ?_
      refine hK1095 _ _ ?_
      refine WC_seqK fun K1153 hK1153 => ?_
      refine WC_planX mixed (.q 0 (.q 1 (.q 3 (.e 2 (.e 4 (.e 5 (.p 6 (.p 7 .done)))))))) (by kernel_rfl) ?_
      intro wd1154 he1155
      have e1156 := e1152.trans he1155
      refine TX_q (v := (.agg (List.toArray [(.int .u64 r1072.e0), (.int .u64 r1072.e1), (.int .u64 r1072.e2)]))) rfl rfl (fun w' hS => (yl_loadA (cs := [(.int .u64 r1072.e0), (.int .u64 r1072.e1), (.int .u64 r1072.e2)]) ag120 rfl (Box.at (h1151.ext (he1155.trans hS))))) ?_
      refine TX_q (v := (.agg (List.toArray [(.int .u64 r1072.e0), (.int .u64 r1072.e1), (.int .u64 r1072.e2)]))) rfl rfl (fun w' hS => (yl_loadA (cs := [(.int .u64 r1072.e0), (.int .u64 r1072.e1), (.int .u64 r1072.e2)]) ag120 rfl (Box.at (h1151.ext (he1155.trans hS))))) ?_
      refine TX_q (v := (.agg (List.toArray [(.int .u64 r1128.e0), (.int .u64 r1128.e1), (.int .u64 r1128.e2)]))) rfl rfl (fun w' hS => (yl_loadA (cs := [(.int .u64 r1128.e0), (.int .u64 r1128.e1), (.int .u64 r1128.e2)]) ag120 rfl (Box.at (hB1149.ext (he1155.trans hS))))) ?_
      have hq := bind_elim h
      clear h
      obtain ⟨r1157, hr1158, h⟩ := hq
      refine TX_e rfl rfl (eff_call Try.func80 nm80 rfl (ev2 rfl rfl) (levitate_wide_times_ok [] _ (LtL.nil _) [(.int .u64 r1072.e0), (.int .u64 r1072.e1), (.int .u64 r1072.e2)] r1072 rfl [(.int .u64 r1072.e0), (.int .u64 r1072.e1), (.int .u64 r1072.e2)] r1072 rfl r1157 hr1158) ?_)
      rintro _ wd1159 ⟨he1160, cs1161, rfl, hrd1162⟩
      have e1164 := e1156.trans he1160
      have hrd1162 : cs1161 = [(.int .u64 r1157.e0), (.int .u64 r1157.e1), (.int .u64 r1157.e2)] := hrd1162
      subst hrd1162
      refine ⟨he1160, ?_⟩
      have hq := bind_elim h
      clear h
      obtain ⟨r1165, hr1166, h⟩ := hq
      refine TX_e rfl rfl (eff_call Try.func81 nm81 rfl (ev2 rfl rfl) (levitate_wide_less_ok [] _ (LtL.nil _) [(.int .u64 r1157.e0), (.int .u64 r1157.e1), (.int .u64 r1157.e2)] r1157 rfl [(.int .u64 r1128.e0), (.int .u64 r1128.e1), (.int .u64 r1128.e2)] r1128 rfl r1165 hr1166) ?_)
      rintro _ wd1167 ⟨he1168, cs1169, rfl, hrd1170⟩
      have e1172 := e1164.trans he1168
      have hrd1170 : cs1169 = [(.int .u64 r1165.e0), (.int .u64 r1165.e1), (.int .u64 r1165.e2)] := hrd1170
      subst hrd1170
      refine ⟨he1168, ?_⟩
      have hq := bind_elim h
      clear h
      obtain ⟨r1173, hr1174, h⟩ := hq
      refine TX_e rfl rfl (eff_call Try.func82 nm82 rfl (ev1 rfl) (levitate_wide_below_ok [] _ (LtL.nil _) [(.int .u64 r1165.e0), (.int .u64 r1165.e1), (.int .u64 r1165.e2)] r1165 rfl r1173 hr1174) ?_)
      rintro _ wd1175 ⟨he1176, rfl⟩
      have e1178 := e1172.trans he1176
      refine ⟨he1176, ?_⟩
      refine TX_p (v := (.bool (!r1173))) rfl rfl (fun w' => (yl_not rfl)) ?_
      refine TX_p (v := (.bool (!r1173))) rfl rfl (fun w' => (yl_assign rfl)) ?_
      refine TX_done ?_
      refine hK1153 _ _ ?_
      refine WC_ret ?_
      replace h := some_out h
      subst h
      exact ⟨[(.bool (!r1173))], ⟨rfl, trivial⟩, e1178, rfl⟩

noncomputable def levitate_plant_worst_s0 (p_p : levitate_plant) (x952 : Int) : ((List Int) × Int) → Option (((List Int) × Int) ⊕ ((List Int))) := fun (x1169, x1179) =>
  (bif (decide (x1179 < (p_p.LevitatePlant.Noise.length : Int))) then (
    (Option.bind (idx p_p.LevitatePlant.Noise x1179) fun el1225 =>
    (Option.bind (shrS .i64 x952 x1179) fun q1231 =>
    (Option.bind (app x1169 ([w64 ((w64 (el1225 + 1)) * (w64 (1 - (w64 (2 * (andS .i64 q1231 1))))))] : List Int)) fun zs1239 =>
    some (.inl (zs1239, w64 (x1179 + 1)))
    )
    )
    )
  ) else (
    some (.inr x1169)
  ))
noncomputable def levitate_plant_worst_s1 (p_f : (List (List Int))) (p_p : levitate_plant) (q20 : Int) : (Int × Int) → Option ((Int × Int) ⊕ (Int)) := fun (x949, x952) =>
  (bif (decide (x952 < q20)) then (
    (Option.bind (loop (levitate_plant_worst_s0 p_p x952) (([] : List Int), 0)) fun (x1200 : (List Int)) =>
    (Option.bind (levitate_value_spec p_f x1200) fun r1257 =>
    (bif ((decide (x952 = 0)) || (decide (x949 < r1257))) then (
      some (.inl (r1257, w64 (x952 + 1)))
    ) else (
      some (.inl (x949, w64 (x952 + 1)))
    ))
    )
    )
  ) else (
    some (.inr x949)
  ))
noncomputable def levitate_plant_worst_spec (p_p : levitate_plant) (p_f : (List (List Int))) : Option Int :=
  (Option.bind (shlS .i64 1 (p_f.length : Int)) fun q20 =>
  (Option.bind (loop (levitate_plant_worst_s1 p_f p_p q20) (0, 0)) fun (x960 : Int) =>
  some x960
  )
  )
theorem levitate_plant_worst_ok (L : List Value) (w : World) (hL : LtL L w) (cs_p_p : List Value) (p_p : levitate_plant) (h_p_p : Rep.rd L w cs_p_p p_p) (v_p_f : Value) (p_f : (List (List Int))) (h_p_f : SlRd L w v_p_f p_f) (r : Int) (h : levitate_plant_worst_spec p_p p_f = some r) :
    CallsTo Try.prog 54 [(.agg cs_p_p.toArray), v_p_f] w (fun v w' => Ext w w' ∧ (.int .i64 r) = v) := by
  have e0 : Ext w w := Chg.refl _ _
  obtain ⟨v1, v3, h2, h4, rfl⟩ := h_p_p
  refine callsTo_of_WC (n := 52) (rs := [.tmp 4]) Try.func54 rfl rfl rfl rfl rfl ?_
  refine WC_seqK fun K8 hK8 => ?_
  refine WC_region ?_
  refine T0_e rfl (eff_boxC (cs := [(.int .i64 p_p.LevitatePlant.Den), v1, v3]) rfl rfl ?_)
  intro b9 wd10 hb11 he12 hB13
  have e15 := e0.trans he12
  refine T0_q (v := (.int .i64 0)) rfl (yl_assign rfl) ?_
  refine T0_nil ?_
  refine hK8 _ _ ?_
  refine WC_seqK fun K17 hK17 => ?_
  refine WC_region ?_
  refine T0_q (v := (.int .i64 0)) rfl (yl_assign rfl) ?_
  refine T0_nil ?_
  refine hK17 _ _ ?_
  refine WC_seqK fun K18 hK18 => ?_
  refine WC_seqK fun K19 hK19 => ?_
  refine WC_region ?_
  refine T0_q (v := v_p_f) rfl (yl_move rfl) ?_
  refine T0_q (v := (.int .i64 (p_f.length : Int))) rfl (yl_lenR rfl Try.underlying47 h_p_f rfl) ?_
  have hq := bind_elim h
  clear h
  obtain ⟨q20, hq21, h⟩ := hq
  refine T0_q (v := (.int .i64 q20)) rfl (yl_shl hq21 rfl rfl) ?_
  refine T0_q (v := (.int .i64 0)) rfl (yl_move rfl) ?_
  refine T0_nil ?_
  refine hK19 _ _ ?_
  have hq := bind_elim h
  clear h
  obtain ⟨o962, hl963, hn964⟩ := hq
  refine WC_post (fun (ρ : Env) (wd958 : World) => ∃ (x960 : Int), x960 = o962 ∧ ρ 5 = (.int .i64 x960) ∧ Ext w wd958) ?_ ?_
  · clear hK17 hK18 hK19 hK8
    intro K968 hK968
    refine WC_block ?_
    refine WC_loopk (fun sv ρ wd944 => ∃ (x949 : Int) (x952 : Int), (x949, x952) = sv ∧ ρ 1 = v_p_f ∧ ρ 2 = (.pointer (some ⟨b9, 0, none⟩)) ∧ ρ 5 = (.int .i64 x949) ∧ ρ 13 = (.int .i64 q20) ∧ ρ 14 = (.int .i64 x952) ∧ SlRd L wd944 v_p_f p_f ∧ SlRd L wd944 v1 p_p.LevitatePlant.Maps ∧ SlRd L wd944 v3 p_p.LevitatePlant.Noise ∧ Box wd944 b9 [(.int .i64 p_p.LevitatePlant.Den), v1, v3] 89 ∧ Ext w wd944) hl963 ⟨0, 0, rfl, rfl, rfl, rfl, rfl, rfl, (h_p_f.ext he12), (h2.ext he12), (h4.ext he12), hB13, e15⟩ ?_
    rintro _ ρ wd944 ⟨x949, x952, rfl, hs947, hs948, hs950, hs951, hs953, h946, h954, h955, hB957, e945⟩ x965 h hx966 K967 hK967
    refine WC_seqK fun K970 hK970 => ?_
    refine WC_region ?_
    refine T0_q (v := (.bool (decide (x952 < q20)))) rfl (yl_lss hs953 hs951) ?_
    refine T0_nil ?_
    refine hK970 _ _ ?_
    refine WC_seqK fun K971 hK971 => ?_
    refine WC_cond (b := (decide (x952 < q20))) rfl (fun hb972 => ?_) (fun hb972 => ?_)
    · clear hK968 hK970
      replace h := cond_t hb972 h
      refine WC_skip ?_
      refine hK971 _ _ ?_
      refine WC_seqK fun K973 hK973 => ?_
      refine WC_block ?_
      refine WC_seqK fun K974 hK974 => ?_
      refine WC_region ?_
      refine T0_q (v := (.int .i64 x952)) rfl (yl_move hs953) ?_
      refine T0_q (v := (.int .i64 x952)) rfl (yl_assign rfl) ?_
      refine T0_nil ?_
      refine hK974 _ _ ?_
      refine WC_seqK fun K975 hK975 => ?_
      refine WC_region ?_
      refine T0_q (v := (.slice none 0 0)) rfl (yl_assign rfl) ?_
      refine T0_nil ?_
      refine hK975 _ _ ?_
      refine WC_seqK fun K976 hK976 => ?_
      refine WC_seqK fun K977 hK977 => ?_
      refine WC_region ?_
      refine T0_q (v := (.pointer (some ⟨b9, 0, none⟩))) rfl (yl_fa 0 Try.underlying89 rfl rfl ⟨2, sz25⟩ hs948 rfl) ?_
      refine T0_q (v := (.pointer (some ⟨b9, 2, none⟩))) rfl (yl_fa 2 Try.underlying25 rfl rfl ⟨0, sz23⟩ rfl rfl) ?_
      refine T0_q (v := v3) rfl (yl_load sc23 rfl (At.drop (Box.at hB957) 2)) ?_
      refine T0_q (v := (.int .i64 (p_p.LevitatePlant.Noise.length : Int))) rfl (yl_lenR rfl Try.underlying23 h955 rfl) ?_
      refine T0_q (v := (.int .i64 0)) rfl (yl_move rfl) ?_
      refine T0_nil ?_
      refine hK977 _ _ ?_
      have h1185 := h946.step (add_nil _)
      have h1186 := h954.step (add_nil _)
      have h1187 := h955.step (add_nil _)
      have h1189 : Own 3 ((.slice none 0 0) :: L) wd944 (.slice none 0 0) ([] : List Int) := Own.nil _ _ _
      have hq := bind_elim h
      clear h
      obtain ⟨o1212, hl1213, hn1214⟩ := hq
      refine WC_post (fun (ρ : Env) (wd1191 : World) => ∃ (x1200 : (List Int)) (v1199 : Value), x1200 = o1212 ∧ ρ 1 = v_p_f ∧ ρ 2 = (.pointer (some ⟨b9, 0, none⟩)) ∧ ρ 5 = (.int .i64 x949) ∧ ρ 6 = (.int .i64 x952) ∧ ρ 7 = v1199 ∧ ρ 13 = (.int .i64 q20) ∧ ρ 14 = (.int .i64 x952) ∧ SlRd (v1199 :: L) wd1191 v_p_f p_f ∧ SlRd (v1199 :: L) wd1191 v1 p_p.LevitatePlant.Maps ∧ SlRd (v1199 :: L) wd1191 v3 p_p.LevitatePlant.Noise ∧ Box wd1191 b9 [(.int .i64 p_p.LevitatePlant.Den), v1, v3] 89 ∧ Own 3 (v1199 :: L) wd1191 v1199 x1200 ∧ (∀ b, blk v1199 = some b → w.heap.size ≤ b) ∧ (blk v1199 ≠ some b9) ∧ Ext w wd1191) ?_ ?_
      · clear hK967 hK971 hK973 hK974 hK975 hK976 hK977
        intro K1218 hK1218
        refine WC_block ?_
        refine WC_loopk (fun sv ρ wd1160 => ∃ (x1169 : (List Int)) (x1179 : Int) (v1168 : Value), (x1169, x1179) = sv ∧ ρ 1 = v_p_f ∧ ρ 2 = (.pointer (some ⟨b9, 0, none⟩)) ∧ ρ 5 = (.int .i64 x949) ∧ ρ 6 = (.int .i64 x952) ∧ ρ 7 = v1168 ∧ ρ 13 = (.int .i64 q20) ∧ ρ 14 = (.int .i64 x952) ∧ ρ 19 = v3 ∧ ρ 20 = (.int .i64 (p_p.LevitatePlant.Noise.length : Int)) ∧ ρ 21 = (.int .i64 x1179) ∧ SlRd (v1168 :: L) wd1160 v_p_f p_f ∧ SlRd (v1168 :: L) wd1160 v3 p_p.LevitatePlant.Noise ∧ SlRd (v1168 :: L) wd1160 v1 p_p.LevitatePlant.Maps ∧ Box wd1160 b9 [(.int .i64 p_p.LevitatePlant.Den), v1, v3] 89 ∧ Own 3 (v1168 :: L) wd1160 v1168 x1169 ∧ (∀ b, blk v1168 = some b → w.heap.size ≤ b) ∧ (blk v1168 ≠ some b9) ∧ Ext w wd1160) hl1213 ⟨([] : List Int), 0, (.slice none 0 0), rfl, hs947, hs948, hs950, rfl, rfl, hs951, hs953, rfl, rfl, rfl, h1185, h1187, h1186, hB957, h1189, (fun b h => blk_nil b h), (fun h => by cases h), e945⟩ ?_
        rintro _ ρ wd1160 ⟨x1169, x1179, v1168, rfl, hs1163, hs1164, hs1165, hs1166, hs1173, hs1174, hs1175, hs1177, hs1178, hs1180, h1162, h1176, h1181, hB1183, h1171, hf1172, hn1184, e1161⟩ x1215 h hx1216 K1217 hK1217
        refine WC_seqK fun K1220 hK1220 => ?_
        refine WC_region ?_
        refine T0_q (v := (.bool (decide (x1179 < (p_p.LevitatePlant.Noise.length : Int))))) rfl (yl_lss hs1180 hs1178) ?_
        refine T0_nil ?_
        refine hK1220 _ _ ?_
        refine WC_seqK fun K1221 hK1221 => ?_
        refine WC_cond (b := (decide (x1179 < (p_p.LevitatePlant.Noise.length : Int)))) rfl (fun hb1222 => ?_) (fun hb1222 => ?_)
        · clear hK1218 hK1220
          replace h := cond_t hb1222 h
          refine WC_skip ?_
          refine hK1221 _ _ ?_
          refine WC_seqK fun K1223 hK1223 => ?_
          refine WC_block ?_
          refine WC_seqK fun K1224 hK1224 => ?_
          refine WC_region ?_
          refine T0_q (v := (.int .i64 x1179)) rfl (yl_move hs1180) ?_
          have hq := bind_elim h
          clear h
          obtain ⟨el1225, hel1226, h⟩ := hq
          have hq := SlRd.at h1176 hel1226
          obtain ⟨cs1227, hat1228, hrd1229⟩ := hq
          have hrd1229 : cs1227 = [(.int .i64 el1225)] := hrd1229
          subst hrd1229
          refine T0_q (v := (.pointer (some (elemAddr v3 (x1179 : Int).toNat 1)))) rfl (yl_indexAddr Try.underlying23 sz3 h1176 hel1226 hs1177 hs1180) ?_
          refine T0_q (v := (.int .i64 el1225)) rfl (yl_load sc3 rfl hat1228) ?_
          refine T0_q (v := (.int .i64 x1179)) rfl (yl_assign rfl) ?_
          refine T0_q (v := (.int .i64 el1225)) rfl (yl_assign rfl) ?_
          refine T0_nil ?_
          refine hK1224 _ _ ?_
          refine WC_region ?_
          refine T0_q (v := v1168) rfl (yl_move hs1173) ?_
          refine T0_q (v := (.int .i64 el1225)) rfl (yl_move rfl) ?_
          refine T0_q (v := (.int .i64 (w64 (el1225 + 1)))) rfl (yl_add rfl rfl) ?_
          refine T0_q (v := (.int .i64 x952)) rfl (yl_move hs1166) ?_
          refine T0_q (v := (.int .i64 x1179)) rfl (yl_move rfl) ?_
          have hq := bind_elim h
          clear h
          obtain ⟨q1231, hq1232, h⟩ := hq
          refine T0_q (v := (.int .i64 q1231)) rfl (yl_shr hq1232 rfl rfl) ?_
          refine T0_q (v := (.int .i64 (andS .i64 q1231 1))) rfl (yl_and' rfl rfl) ?_
          refine T0_q (v := (.int .i64 (w64 (2 * (andS .i64 q1231 1))))) rfl (yl_mul rfl rfl) ?_
          refine T0_q (v := (.int .i64 (w64 (1 - (w64 (2 * (andS .i64 q1231 1))))))) rfl (yl_sub rfl rfl) ?_
          refine T0_q (v := (.int .i64 (w64 ((w64 (el1225 + 1)) * (w64 (1 - (w64 (2 * (andS .i64 q1231 1))))))))) rfl (yl_mul rfl rfl) ?_
          refine T0_e rfl (eff_buildTC (xs := ([w64 ((w64 (el1225 + 1)) * (w64 (1 - (w64 (2 * (andS .i64 q1231 1))))))] : List Int)) (cells := [(.int .i64 (w64 ((w64 (el1225 + 1)) * (w64 (1 - (w64 (2 * (andS .i64 q1231 1))))))))]) Try.underlying23 ei3 rfl (pc_cons rfl rfl pc_nil) rfl (Elems.cons (cs := [(.int .i64 (w64 ((w64 (el1225 + 1)) * (w64 (1 - (w64 (2 * (andS .i64 q1231 1))))))))]) rfl Elems.nil) rfl (ltl_own (hL.chg e1161) h1171) ?_)
          intro b1236 wd1233 he1234 h1235
          have e1237 := e1161.trans he1234
          have hq := bind_elim h
          clear h
          obtain ⟨zs1239, hz1240, h⟩ := hq
          refine T0_e rfl (eff_app Try.underlying23 ei3 rfl rfl rfl rfl (h1171.ext he1234) h1235 hz1240 ?_)
          intro v1241 wd1242 hc1243 hbl1244 h1245
          have hn1247 : blk v1241 ≠ some b9 := ne_swap hbl1244 hn1184 (hB1183.ext he1234)
          have hf1248 := fresh_swap hbl1244 hf1172 e1237.size
          have h1249 := (h1162.ext he1234).step (Stepp.swap hc1243 hbl1244)
          have h1250 := (h1176.ext he1234).step (Stepp.swap hc1243 hbl1244)
          have h1251 := (h1181.ext he1234).step (Stepp.swap hc1243 hbl1244)
          have h1252 := (hB1183.ext he1234).chg hc1243 (avoid1 hn1184)
          have e1254 := chg_own e1237 hc1243 hf1172
          refine T0_q (v := v1241) rfl (yl_assign rfl) ?_
          refine T0_nil ?_
          refine hK1223 _ _ ?_
          refine WC_region ?_
          refine T0_q (v := (.int .i64 (w64 (x1179 + 1)))) rfl (yl_add hs1180 rfl) ?_
          refine T0_q (v := (.int .i64 (w64 (x1179 + 1)))) rfl (yl_move rfl) ?_
          refine T0_nil ?_
          replace h := some_out h
          subst h
          refine hK1217 _ _ _ rfl ?_
          exact ⟨zs1239, w64 (x1179 + 1), v1241, rfl, hs1163, hs1164, hs1165, hs1166, rfl, hs1174, hs1175, hs1177, hs1178, rfl, h1249, h1250, h1251, h1252, h1245, hf1248, hn1247, e1254⟩
        · clear hK1217 hK1220 hK1221
          replace h := cond_f hb1222 h
          refine WC_exit ?_
          replace h := some_out h
          subst h
          have ho := hx1216 _ rfl
          subst ho
          refine hK1218 _ _ ?_
          exact ⟨x1169, v1168, rfl, hs1163, hs1164, hs1165, hs1166, hs1173, hs1174, hs1175, h1162, h1181, h1176, hB1183, h1171, hf1172, hn1184, e1161⟩
      · clear hK971 hK974 hK975 hK977
        rintro ρ wd1191 ⟨x1200, v1199, rfl, hs1194, hs1195, hs1196, hs1197, hs1204, hs1205, hs1206, h1193, h1207, h1208, hB1210, h1202, hf1203, hn1211, e1192⟩
        replace h := hn1214
        refine hK976 _ _ ?_
        refine WC_seqK fun K1256 hK1256 => ?_
        refine WC_region ?_
        refine T0_q (v := v_p_f) rfl (yl_move hs1194) ?_
        refine T0_q (v := v1199) rfl (yl_move hs1204) ?_
        have hq := bind_elim h
        clear h
        obtain ⟨r1257, hr1258, h⟩ := hq
        refine T0_e rfl (eff_call Try.func83 nm83 rfl (ev2 rfl rfl) (levitate_value_ok [] _ (LtL.nil _) v_p_f p_f (h1193.sub (fun _ h => by cases h)) v1199 x1200 (h1202.rdL (fun _ h => by cases h) (LtL.nil w) hf1203) r1257 hr1258) ?_)
        rintro _ wd1259 ⟨he1260, rfl⟩
        have e1261 := e1192.trans he1260
        refine T0_q (v := (.int .i64 r1257)) rfl (yl_assign rfl) ?_
        refine T0_nil ?_
        refine hK1256 _ _ ?_
        refine WC_seqK fun K1262 hK1262 => ?_
        refine WC_region ?_
        refine T0_q (v := (.int .i64 x952)) rfl (yl_move hs1197) ?_
        refine T0_q (v := (.bool (decide (x952 = 0)))) rfl (yl_eql rfl rfl) ?_
        refine T0_q (v := (.bool (decide (x952 = 0)))) rfl (yl_move rfl) ?_
        refine T0_g (v := (.int .i64 r1257)) (!(decide (x952 = 0))) (wanted_f rfl rfl rfl rfl) (fun hg => (yl_move rfl)) ?_
        refine T0_g (v := (.int .i64 x949)) (!(decide (x952 = 0))) (wanted_f rfl rfl rfl rfl) (fun hg => (yl_move hs1196)) ?_
        refine T0_g (v := (.bool (decide (x949 < r1257)))) (!(decide (x952 = 0))) (wanted_f rfl rfl rfl rfl) (fun hg => (yl_gtr (gd_true hg) (gd_true hg))) ?_
        refine T0_q (v := (.bool ((decide (x952 = 0)) || (decide (x949 < r1257))))) rfl (yl_or rfl rfl (fun hb => (gd_true (not_t hb)))) ?_
        refine T0_nil ?_
        refine hK1262 _ _ ?_
        refine WC_cond (b := ((decide (x952 = 0)) || (decide (x949 < r1257)))) rfl (fun hb1263 => ?_) (fun hb1263 => ?_)
        · clear hK1256 hK1262 hK976
          replace h := cond_t hb1263 h
          refine WC_region ?_
          refine T0_q (v := (.int .i64 r1257)) rfl (yl_move rfl) ?_
          refine T0_q (v := (.int .i64 r1257)) rfl (yl_assign rfl) ?_
          refine T0_nil ?_
          refine hK973 _ _ ?_
          refine WC_region ?_
          refine T0_q (v := (.int .i64 (w64 (x952 + 1)))) rfl (yl_add hs1206 rfl) ?_
          refine T0_q (v := (.int .i64 (w64 (x952 + 1)))) rfl (yl_move rfl) ?_
          refine T0_nil ?_
          replace h := some_out h
          subst h
          refine hK967 _ _ _ rfl ?_
          exact ⟨r1257, w64 (x952 + 1), rfl, hs1194, hs1195, rfl, hs1205, rfl, ((h1193.ext he1260).sub (sub_skip (sub_refl _))), ((h1207.ext he1260).sub (sub_skip (sub_refl _))), ((h1208.ext he1260).sub (sub_skip (sub_refl _))), (hB1210.ext he1260), e1261⟩
        · clear hK1256 hK1262 hK976
          replace h := cond_f hb1263 h
          refine WC_skip ?_
          refine hK973 _ _ ?_
          refine WC_region ?_
          refine T0_q (v := (.int .i64 (w64 (x952 + 1)))) rfl (yl_add hs1206 rfl) ?_
          refine T0_q (v := (.int .i64 (w64 (x952 + 1)))) rfl (yl_move rfl) ?_
          refine T0_nil ?_
          replace h := some_out h
          subst h
          refine hK967 _ _ _ rfl ?_
          exact ⟨x949, w64 (x952 + 1), rfl, hs1194, hs1195, hs1196, hs1205, rfl, ((h1193.ext he1260).sub (sub_skip (sub_refl _))), ((h1207.ext he1260).sub (sub_skip (sub_refl _))), ((h1208.ext he1260).sub (sub_skip (sub_refl _))), (hB1210.ext he1260), e1261⟩
    · clear hK967 hK970 hK971
      replace h := cond_f hb972 h
      refine WC_exit ?_
      replace h := some_out h
      subst h
      have ho := hx966 _ rfl
      subst ho
      refine hK968 _ _ ?_
      exact ⟨x949, rfl, hs950, e945⟩
  · clear hK17 hK19 hK8
    rintro ρ wd958 ⟨x960, rfl, hs961, e959⟩
    replace h := hn964
    refine hK18 _ _ ?_
    refine WC_seqK fun K1264 hK1264 => ?_
    refine WC_region ?_
    refine T0_q (v := (.int .i64 x960)) rfl (yl_move hs961) ?_
    refine T0_q (v := (.int .i64 x960)) rfl (yl_assign rfl) ?_
    refine T0_nil ?_
    refine hK1264 _ _ ?_
    refine WC_ret ?_
    replace h := some_out h
    subst h
    exact ⟨[(.int .i64 x960)], ⟨rfl, trivial⟩, e959, rfl⟩

noncomputable def levitate_floor_spec (p_n : Int) (p_by : Int) : Option Int :=
  (bif (decide (p_n < 0)) then (
    (Option.bind (levitate_ceil_part_spec (w64 (0 - p_n)) p_by) fun r6 =>
    some (w64 (0 - r6))
    )
  ) else (
    (Option.bind (quo p_n p_by) fun q12 =>
    some q12
    )
  ))
theorem levitate_floor_ok (L : List Value) (w : World) (hL : LtL L w) (p_n : Int) (p_by : Int) (r : Int) (h : levitate_floor_spec p_n p_by = some r) :
    CallsTo Try.prog 66 [(.int .i64 p_n), (.int .i64 p_by)] w (fun v w' => Ext w w' ∧ (.int .i64 r) = v) := by
  have e0 : Ext w w := Chg.refl _ _
  refine callsTo_of_WC (n := 15) (rs := [.tmp 4]) Try.func66 rfl rfl rfl rfl rfl ?_
  refine WC_seqK fun K1 hK1 => ?_
  refine WC_region ?_
  refine T0_q (v := (.int .i64 0)) rfl (yl_assign rfl) ?_
  refine T0_nil ?_
  refine hK1 _ _ ?_
  refine WC_seqK fun K2 hK2 => ?_
  refine WC_seqK fun K3 hK3 => ?_
  refine WC_region ?_
  refine T0_q (v := (.int .i64 p_n)) rfl (yl_move rfl) ?_
  refine T0_q (v := (.bool (decide (p_n < 0)))) rfl (yl_lss rfl rfl) ?_
  refine T0_nil ?_
  refine hK3 _ _ ?_
  refine WC_cond (b := (decide (p_n < 0))) rfl (fun hb4 => ?_) (fun hb4 => ?_)
  · clear hK1 hK2 hK3
    replace h := cond_t hb4 h
    refine WC_seqK fun K5 hK5 => ?_
    refine WC_region ?_
    refine T0_q (v := (.int .i64 p_n)) rfl (yl_move rfl) ?_
    refine T0_q (v := (.int .i64 (w64 (0 - p_n)))) rfl (yl_neg rfl) ?_
    refine T0_q (v := (.int .i64 p_by)) rfl (yl_move rfl) ?_
    have hq := bind_elim h
    clear h
    obtain ⟨r6, hr7, h⟩ := hq
    refine T0_e rfl (eff_call Try.func67 nm67 rfl (ev2 rfl rfl) (levitate_ceil_part_ok [] _ (LtL.nil _) (w64 (0 - p_n)) p_by r6 hr7) ?_)
    rintro _ wd8 ⟨he9, rfl⟩
    have e10 := e0.trans he9
    refine T0_q (v := (.int .i64 (w64 (0 - r6)))) rfl (yl_neg rfl) ?_
    refine T0_q (v := (.int .i64 (w64 (0 - r6)))) rfl (yl_assign rfl) ?_
    refine T0_nil ?_
    refine hK5 _ _ ?_
    refine WC_ret ?_
    replace h := some_out h
    subst h
    exact ⟨[(.int .i64 (w64 (0 - r6)))], ⟨rfl, trivial⟩, e10, rfl⟩
  · clear hK1 hK3
    replace h := cond_f hb4 h
    refine WC_skip ?_
    refine hK2 _ _ ?_
    refine WC_seqK fun K11 hK11 => ?_
    refine WC_region ?_
    refine T0_q (v := (.int .i64 p_n)) rfl (yl_move rfl) ?_
    refine T0_q (v := (.int .i64 p_by)) rfl (yl_move rfl) ?_
    have hq := bind_elim h
    clear h
    obtain ⟨q12, hq13, h⟩ := hq
    refine T0_q (v := (.int .i64 q12)) rfl (yl_quo' hq13 rfl rfl) ?_
    refine T0_q (v := (.int .i64 q12)) rfl (yl_assign rfl) ?_
    refine T0_nil ?_
    refine hK11 _ _ ?_
    refine WC_ret ?_
    replace h := some_out h
    subst h
    exact ⟨[(.int .i64 q12)], ⟨rfl, trivial⟩, e0, rfl⟩

noncomputable def levitate_ceil_spec (p_n : Int) (p_by : Int) : Option Int :=
  (bif (decide (p_n < 0)) then (
    (Option.bind (levitate_floor_part_spec (w64 (0 - p_n)) p_by) fun r6 =>
    some (w64 (0 - r6))
    )
  ) else (
    (Option.bind (quo (w64 ((w64 (p_n + p_by)) - 1)) p_by) fun q12 =>
    some q12
    )
  ))
theorem levitate_ceil_ok (L : List Value) (w : World) (hL : LtL L w) (p_n : Int) (p_by : Int) (r : Int) (h : levitate_ceil_spec p_n p_by = some r) :
    CallsTo Try.prog 67 [(.int .i64 p_n), (.int .i64 p_by)] w (fun v w' => Ext w w' ∧ (.int .i64 r) = v) := by
  have e0 : Ext w w := Chg.refl _ _
  refine callsTo_of_WC (n := 18) (rs := [.tmp 4]) Try.func67 rfl rfl rfl rfl rfl ?_
  refine WC_seqK fun K1 hK1 => ?_
  refine WC_region ?_
  refine T0_q (v := (.int .i64 0)) rfl (yl_assign rfl) ?_
  refine T0_nil ?_
  refine hK1 _ _ ?_
  refine WC_seqK fun K2 hK2 => ?_
  refine WC_seqK fun K3 hK3 => ?_
  refine WC_region ?_
  refine T0_q (v := (.int .i64 p_n)) rfl (yl_move rfl) ?_
  refine T0_q (v := (.bool (decide (p_n < 0)))) rfl (yl_lss rfl rfl) ?_
  refine T0_nil ?_
  refine hK3 _ _ ?_
  refine WC_cond (b := (decide (p_n < 0))) rfl (fun hb4 => ?_) (fun hb4 => ?_)
  · clear hK1 hK2 hK3
    replace h := cond_t hb4 h
    refine WC_seqK fun K5 hK5 => ?_
    refine WC_region ?_
    refine T0_q (v := (.int .i64 p_n)) rfl (yl_move rfl) ?_
    refine T0_q (v := (.int .i64 (w64 (0 - p_n)))) rfl (yl_neg rfl) ?_
    refine T0_q (v := (.int .i64 p_by)) rfl (yl_move rfl) ?_
    have hq := bind_elim h
    clear h
    obtain ⟨r6, hr7, h⟩ := hq
    refine T0_e rfl (eff_call Try.func66 nm66 rfl (ev2 rfl rfl) (levitate_floor_part_ok [] _ (LtL.nil _) (w64 (0 - p_n)) p_by r6 hr7) ?_)
    rintro _ wd8 ⟨he9, rfl⟩
    have e10 := e0.trans he9
    refine T0_q (v := (.int .i64 (w64 (0 - r6)))) rfl (yl_neg rfl) ?_
    refine T0_q (v := (.int .i64 (w64 (0 - r6)))) rfl (yl_assign rfl) ?_
    refine T0_nil ?_
    refine hK5 _ _ ?_
    refine WC_ret ?_
    replace h := some_out h
    subst h
    exact ⟨[(.int .i64 (w64 (0 - r6)))], ⟨rfl, trivial⟩, e10, rfl⟩
  · clear hK1 hK3
    replace h := cond_f hb4 h
    refine WC_skip ?_
    refine hK2 _ _ ?_
    refine WC_seqK fun K11 hK11 => ?_
    refine WC_region ?_
    refine T0_q (v := (.int .i64 p_n)) rfl (yl_move rfl) ?_
    refine T0_q (v := (.int .i64 p_by)) rfl (yl_move rfl) ?_
    refine T0_q (v := (.int .i64 (w64 (p_n + p_by)))) rfl (yl_add rfl rfl) ?_
    refine T0_q (v := (.int .i64 (w64 ((w64 (p_n + p_by)) - 1)))) rfl (yl_sub rfl rfl) ?_
    refine T0_q (v := (.int .i64 p_by)) rfl (yl_move rfl) ?_
    have hq := bind_elim h
    clear h
    obtain ⟨q12, hq13, h⟩ := hq
    refine T0_q (v := (.int .i64 q12)) rfl (yl_quo' hq13 rfl rfl) ?_
    refine T0_q (v := (.int .i64 q12)) rfl (yl_assign rfl) ?_
    refine T0_nil ?_
    refine hK11 _ _ ?_
    refine WC_ret ?_
    replace h := some_out h
    subst h
    exact ⟨[(.int .i64 q12)], ⟨rfl, trivial⟩, e0, rfl⟩

noncomputable def levitate_minor_s0 (p_Listappend : (List (List Arr3_U64))) (p_String : (List Int)) : (Int × Int × Int × Int) → Option ((Int × Int × Int × Int) ⊕ (Int × Int × Int)) := fun (x628, x633, x634, x635) =>
  (bif (decide (x628 < 3)) then (
    (Option.bind (levitate_minor_1_spec 1 (Int.tmod (w64 (x628 + 1)) 3) p_Listappend p_String) fun r669 =>
    (Option.bind (levitate_minor_1_spec 2 (Int.tmod (w64 (x628 + 2)) 3) p_Listappend p_String) fun r676 =>
    (Option.bind (levitate_wide_times_spec r669 r676) fun r684 =>
    (Option.bind (levitate_minor_1_spec 1 (Int.tmod (w64 (x628 + 2)) 3) p_Listappend p_String) fun r692 =>
    (Option.bind (levitate_minor_1_spec 2 (Int.tmod (w64 (x628 + 1)) 3) p_Listappend p_String) fun r700 =>
    (Option.bind (levitate_wide_times_spec r692 r700) fun r708 =>
    (Option.bind (levitate_wide_less_spec r684 r708) fun r716 =>
    (Option.bind (levitate_minor_1_spec 0 x628 p_Listappend p_String) fun r752 =>
    (Option.bind (levitate_wide_times_spec r752 r716) fun r760 =>
    (Option.bind (levitate_wide_plus_spec (Arr3_U64.mk x633 x634 x635) r760) fun r768 =>
    some (.inl (w64 (x628 + 1), r768.e0, r768.e1, r768.e2))
    )
    )
    )
    )
    )
    )
    )
    )
    )
    )
  ) else (
    some (.inr (x633, x634, x635))
  ))
noncomputable def levitate_minor_spec (p_Listappend : (List (List Arr3_U64))) (p_String : (List Int)) : Option Arr3_U64 :=
  (bif (decide ((p_String.length : Int) = 0)) then (
    (Option.bind (levitate_wideOf_spec 1) fun r41 =>
    some r41
    )
  ) else (
    (bif (decide ((p_String.length : Int) = 1)) then (
      (Option.bind (levitate_minor_1_spec 0 0 p_Listappend p_String) fun r61 =>
      some r61
      )
    ) else (
      (bif (decide ((p_String.length : Int) = 2)) then (
        (Option.bind (levitate_minor_1_spec 0 0 p_Listappend p_String) fun r81 =>
        (Option.bind (levitate_minor_1_spec 1 1 p_Listappend p_String) fun r90 =>
        (Option.bind (levitate_wide_times_spec r81 r90) fun r100 =>
        (Option.bind (levitate_minor_1_spec 0 1 p_Listappend p_String) fun r110 =>
        (Option.bind (levitate_minor_1_spec 1 0 p_Listappend p_String) fun r120 =>
        (Option.bind (levitate_wide_times_spec r110 r120) fun r130 =>
        (Option.bind (levitate_wide_less_spec r100 r130) fun r140 =>
        some r140
        )
        )
        )
        )
        )
        )
        )
      ) else (
        (Option.bind (levitate_wideOf_spec 0) fun r159 =>
        (Option.bind (loop (levitate_minor_s0 p_Listappend p_String) (0, r159.e0, r159.e1, r159.e2)) fun ((x647, x648, x649) : Int × Int × Int) =>
        some (Arr3_U64.mk x647 x648 x649)
        )
        )
      ))
    ))
  ))
theorem levitate_minor_ok (L : List Value) (w : World) (hL : LtL L w) (v_p_Listappend : Value) (p_Listappend : (List (List Arr3_U64))) (h_p_Listappend : SlRd L w v_p_Listappend p_Listappend) (v_p_String : Value) (p_String : (List Int)) (h_p_String : SlRd L w v_p_String p_String) (r : Arr3_U64) (h : levitate_minor_spec p_Listappend p_String = some r) :
    CallsTo Try.prog 86 [v_p_Listappend, v_p_String] w (fun v w' => Ext w w' ∧ ∃ (cs0 : List Value), (.agg cs0.toArray) = v ∧ Rep.rd L w' cs0 r) := by
  have e0 : Ext w w := Chg.refl _ _
  refine callsTo_of_WC (n := 68) (rs := [.cell 4 120]) Try.func86 rfl rfl rfl rfl rfl ?_
  refine WC_seqK fun K3 hK3 => ?_
  refine WC_region ?_
  refine T0_e rfl (eff_boxC (cs := [v_p_Listappend]) rfl (cells_one h_p_Listappend.one1) ?_)
  intro b4 wd5 hb6 he7 hB8
  have e10 := e0.trans he7
  refine T0_e rfl (eff_boxC (cs := [v_p_String]) rfl (cells_one h_p_String.one1) ?_)
  intro b12 wd13 hb14 he15 hB16
  have e19 := he7.trans he15
  have e20 := e10.trans he15
  refine T0_e rfl (eff_allocZ zi120 ?_)
  intro b22 wd23 hb24 he25 hB26
  have hbf29 := bfresh e20 hb24
  have h30 := (h_p_Listappend.ext e19).step (add_box he25 hb24)
  have h31 := (h_p_String.ext e19).step (add_box he25 hb24)
  have e32 := he15.trans he25
  have e33 := e20.trans he25
  refine T0_nil ?_
  refine hK3 _ _ ?_
  refine WC_seqK fun K35 hK35 => ?_
  refine WC_region ?_
  refine T0_q (v := (.func (.func 111) #[] (List.toArray [(.pointer (some ⟨b4, 0, none⟩)), (.pointer (some ⟨b12, 0, none⟩))]))) rfl (yl_makeFunc (ev2 rfl rfl)) ?_
  refine T0_q (v := (.func (.func 111) #[] (List.toArray [(.pointer (some ⟨b4, 0, none⟩)), (.pointer (some ⟨b12, 0, none⟩))]))) rfl (yl_assign rfl) ?_
  refine T0_nil ?_
  refine hK35 _ _ ?_
  refine WC_seqK fun K36 hK36 => ?_
  refine WC_seqK fun K37 hK37 => ?_
  refine WC_region ?_
  refine T0_q (v := v_p_String) rfl (yl_load sc23 rfl (Box.at (hB16.ext he25))) ?_
  refine T0_q (v := (.int .i64 (p_String.length : Int))) rfl (yl_lenR rfl Try.underlying23 h31 rfl) ?_
  refine T0_nil ?_
  refine hK37 _ _ ?_
  refine WC_block ?_
  refine WC_seqK fun K38 hK38 => ?_
  refine WC_region ?_
  refine T0_q (v := (.bool (decide ((p_String.length : Int) = 0)))) rfl (yl_eql rfl rfl) ?_
  refine T0_q (v := (.bool (decide ((p_String.length : Int) = 0)))) rfl (yl_assign rfl) ?_
  refine T0_nil ?_
  refine hK38 _ _ ?_
  refine WC_cond (b := (decide ((p_String.length : Int) = 0))) rfl (fun hb39 => ?_) (fun hb39 => ?_)
  · clear hK3 hK35 hK36 hK37 hK38
    replace h := cond_t hb39 h
    refine WC_seqK fun K40 hK40 => ?_
    refine WC_region ?_
    have hq := bind_elim h
    clear h
    obtain ⟨r41, hr42, h⟩ := hq
    refine T0_e rfl (eff_call Try.func79 nm79 rfl (ev1 rfl) (levitate_wideOf_ok [] _ (LtL.nil _) 1 r41 hr42) ?_)
    rintro _ wd43 ⟨he44, cs45, rfl, hrd46⟩
    have e49 := e33.trans he44
    have hrd46 : cs45 = [(.int .u64 r41.e0), (.int .u64 r41.e1), (.int .u64 r41.e2)] := hrd46
    subst hrd46
    refine T0_e rfl (eff_storeC (vs := [(.int .u64 r41.e0), (.int .u64 r41.e1), (.int .u64 r41.e2)]) (cs' := [(.int .u64 r41.e0), (.int .u64 r41.e1), (.int .u64 r41.e2)]) sz120 rfl rfl rfl rfl (hB26.ext he44) rfl (oc_cons rfl (oc_cons rfl (oc_cons rfl oc_nil))) rfl ?_)
    intro wd50 hc51 hB52
    have e57 := chg_box e49 hc51 hbf29
    refine T0_nil ?_
    refine hK40 _ _ ?_
    refine WC_ret ?_
    replace h := some_out h
    subst h
    exact ⟨[(.agg (List.toArray [(.int .u64 r41.e0), (.int .u64 r41.e1), (.int .u64 r41.e2)]))], ⟨⟨_, rfl, run_loadVarA (cs := [(.int .u64 r41.e0), (.int .u64 r41.e1), (.int .u64 r41.e2)]) ag120 (Box.at hB52)⟩, trivial⟩, e57, [(.int .u64 r41.e0), (.int .u64 r41.e1), (.int .u64 r41.e2)], rfl, rfl⟩
  · clear hK3 hK35 hK37 hK38
    replace h := cond_f hb39 h
    refine WC_seqK fun K58 hK58 => ?_
    refine WC_region ?_
    refine T0_q (v := (.bool (decide ((p_String.length : Int) = 1)))) rfl (yl_eql rfl rfl) ?_
    refine T0_q (v := (.bool (decide ((p_String.length : Int) = 1)))) rfl (yl_assign rfl) ?_
    refine T0_nil ?_
    refine hK58 _ _ ?_
    refine WC_cond (b := (decide ((p_String.length : Int) = 1))) rfl (fun hb59 => ?_) (fun hb59 => ?_)
    · clear hK36 hK58
      replace h := cond_t hb59 h
      refine WC_seqK fun K60 hK60 => ?_
      refine WC_region ?_
      refine T0_q (v := (.func (.func 111) #[] (List.toArray [(.pointer (some ⟨b4, 0, none⟩)), (.pointer (some ⟨b12, 0, none⟩))]))) rfl (yl_move rfl) ?_
      have hq := bind_elim h
      clear h
      obtain ⟨r61, hr62, h⟩ := hq
      refine T0_e rfl (eff_callC rfl Try.func111 nm111 rfl (ev2 rfl rfl) rfl (levitate_minor_1_ok [] _ (LtL.nil _) 0 0 b4 b12 v_p_Listappend p_Listappend (h30.sub (fun _ h => by cases h)) (hB8.ext e32) v_p_String p_String (h31.sub (fun _ h => by cases h)) (hB16.ext he25) r61 hr62) ?_)
      rintro _ wd63 ⟨he64, cs65, rfl, hrd66⟩
      have e69 := e33.trans he64
      have hrd66 : cs65 = [(.int .u64 r61.e0), (.int .u64 r61.e1), (.int .u64 r61.e2)] := hrd66
      subst hrd66
      refine T0_e rfl (eff_storeC (vs := [(.int .u64 r61.e0), (.int .u64 r61.e1), (.int .u64 r61.e2)]) (cs' := [(.int .u64 r61.e0), (.int .u64 r61.e1), (.int .u64 r61.e2)]) sz120 rfl rfl rfl rfl (hB26.ext he64) rfl (oc_cons rfl (oc_cons rfl (oc_cons rfl oc_nil))) rfl ?_)
      intro wd70 hc71 hB72
      have e77 := chg_box e69 hc71 hbf29
      refine T0_nil ?_
      refine hK60 _ _ ?_
      refine WC_ret ?_
      replace h := some_out h
      subst h
      exact ⟨[(.agg (List.toArray [(.int .u64 r61.e0), (.int .u64 r61.e1), (.int .u64 r61.e2)]))], ⟨⟨_, rfl, run_loadVarA (cs := [(.int .u64 r61.e0), (.int .u64 r61.e1), (.int .u64 r61.e2)]) ag120 (Box.at hB72)⟩, trivial⟩, e77, [(.int .u64 r61.e0), (.int .u64 r61.e1), (.int .u64 r61.e2)], rfl, rfl⟩
    · clear hK58
      replace h := cond_f hb59 h
      refine WC_seqK fun K78 hK78 => ?_
      refine WC_region ?_
      refine T0_q (v := (.bool (decide ((p_String.length : Int) = 2)))) rfl (yl_eql rfl rfl) ?_
      refine T0_q (v := (.bool (decide ((p_String.length : Int) = 2)))) rfl (yl_assign rfl) ?_
      refine T0_nil ?_
      refine hK78 _ _ ?_
      refine WC_cond (b := (decide ((p_String.length : Int) = 2))) rfl (fun hb79 => ?_) (fun hb79 => ?_)
      · clear hK36 hK78
        replace h := cond_t hb79 h
        refine WC_seqK fun K80 hK80 => ?_
        refine WC_region ?_
        refine T0_q (v := (.func (.func 111) #[] (List.toArray [(.pointer (some ⟨b4, 0, none⟩)), (.pointer (some ⟨b12, 0, none⟩))]))) rfl (yl_move rfl) ?_
        have hq := bind_elim h
        clear h
        obtain ⟨r81, hr82, h⟩ := hq
        refine T0_e rfl (eff_callC rfl Try.func111 nm111 rfl (ev2 rfl rfl) rfl (levitate_minor_1_ok [] _ (LtL.nil _) 0 0 b4 b12 v_p_Listappend p_Listappend (h30.sub (fun _ h => by cases h)) (hB8.ext e32) v_p_String p_String (h31.sub (fun _ h => by cases h)) (hB16.ext he25) r81 hr82) ?_)
        rintro _ wd83 ⟨he84, cs85, rfl, hrd86⟩
        have e87 := he25.trans he84
        have e88 := e32.trans he84
        have e89 := e33.trans he84
        have hrd86 : cs85 = [(.int .u64 r81.e0), (.int .u64 r81.e1), (.int .u64 r81.e2)] := hrd86
        subst hrd86
        refine T0_q (v := (.func (.func 111) #[] (List.toArray [(.pointer (some ⟨b4, 0, none⟩)), (.pointer (some ⟨b12, 0, none⟩))]))) rfl (yl_move rfl) ?_
        have hq := bind_elim h
        clear h
        obtain ⟨r90, hr91, h⟩ := hq
        refine T0_e rfl (eff_callC rfl Try.func111 nm111 rfl (ev2 rfl rfl) rfl (levitate_minor_1_ok [] _ (LtL.nil _) 1 1 b4 b12 v_p_Listappend p_Listappend ((h30.ext he84).sub (fun _ h => by cases h)) (hB8.ext e88) v_p_String p_String ((h31.ext he84).sub (fun _ h => by cases h)) (hB16.ext e87) r90 hr91) ?_)
        rintro _ wd92 ⟨he93, cs94, rfl, hrd95⟩
        have e96 := e87.trans he93
        have e97 := he84.trans he93
        have e98 := e88.trans he93
        have e99 := e89.trans he93
        have hrd95 : cs94 = [(.int .u64 r90.e0), (.int .u64 r90.e1), (.int .u64 r90.e2)] := hrd95
        subst hrd95
        have hq := bind_elim h
        clear h
        obtain ⟨r100, hr101, h⟩ := hq
        refine T0_e rfl (eff_call Try.func80 nm80 rfl (ev2 rfl rfl) (levitate_wide_times_ok [] _ (LtL.nil _) [(.int .u64 r81.e0), (.int .u64 r81.e1), (.int .u64 r81.e2)] r81 rfl [(.int .u64 r90.e0), (.int .u64 r90.e1), (.int .u64 r90.e2)] r90 rfl r100 hr101) ?_)
        rintro _ wd102 ⟨he103, cs104, rfl, hrd105⟩
        have e106 := e96.trans he103
        have e107 := e97.trans he103
        have e108 := e98.trans he103
        have e109 := e99.trans he103
        have hrd105 : cs104 = [(.int .u64 r100.e0), (.int .u64 r100.e1), (.int .u64 r100.e2)] := hrd105
        subst hrd105
        refine T0_q (v := (.func (.func 111) #[] (List.toArray [(.pointer (some ⟨b4, 0, none⟩)), (.pointer (some ⟨b12, 0, none⟩))]))) rfl (yl_move rfl) ?_
        have hq := bind_elim h
        clear h
        obtain ⟨r110, hr111, h⟩ := hq
        refine T0_e rfl (eff_callC rfl Try.func111 nm111 rfl (ev2 rfl rfl) rfl (levitate_minor_1_ok [] _ (LtL.nil _) 0 1 b4 b12 v_p_Listappend p_Listappend ((h30.ext e107).sub (fun _ h => by cases h)) (hB8.ext e108) v_p_String p_String ((h31.ext e107).sub (fun _ h => by cases h)) (hB16.ext e106) r110 hr111) ?_)
        rintro _ wd112 ⟨he113, cs114, rfl, hrd115⟩
        have e116 := e106.trans he113
        have e117 := e107.trans he113
        have e118 := e108.trans he113
        have e119 := e109.trans he113
        have hrd115 : cs114 = [(.int .u64 r110.e0), (.int .u64 r110.e1), (.int .u64 r110.e2)] := hrd115
        subst hrd115
        refine T0_q (v := (.func (.func 111) #[] (List.toArray [(.pointer (some ⟨b4, 0, none⟩)), (.pointer (some ⟨b12, 0, none⟩))]))) rfl (yl_move rfl) ?_
        have hq := bind_elim h
        clear h
        obtain ⟨r120, hr121, h⟩ := hq
        refine T0_e rfl (eff_callC rfl Try.func111 nm111 rfl (ev2 rfl rfl) rfl (levitate_minor_1_ok [] _ (LtL.nil _) 1 0 b4 b12 v_p_Listappend p_Listappend ((h30.ext e117).sub (fun _ h => by cases h)) (hB8.ext e118) v_p_String p_String ((h31.ext e117).sub (fun _ h => by cases h)) (hB16.ext e116) r120 hr121) ?_)
        rintro _ wd122 ⟨he123, cs124, rfl, hrd125⟩
        have e127 := e117.trans he123
        have e129 := e119.trans he123
        have hrd125 : cs124 = [(.int .u64 r120.e0), (.int .u64 r120.e1), (.int .u64 r120.e2)] := hrd125
        subst hrd125
        have hq := bind_elim h
        clear h
        obtain ⟨r130, hr131, h⟩ := hq
        refine T0_e rfl (eff_call Try.func80 nm80 rfl (ev2 rfl rfl) (levitate_wide_times_ok [] _ (LtL.nil _) [(.int .u64 r110.e0), (.int .u64 r110.e1), (.int .u64 r110.e2)] r110 rfl [(.int .u64 r120.e0), (.int .u64 r120.e1), (.int .u64 r120.e2)] r120 rfl r130 hr131) ?_)
        rintro _ wd132 ⟨he133, cs134, rfl, hrd135⟩
        have e137 := e127.trans he133
        have e139 := e129.trans he133
        have hrd135 : cs134 = [(.int .u64 r130.e0), (.int .u64 r130.e1), (.int .u64 r130.e2)] := hrd135
        subst hrd135
        have hq := bind_elim h
        clear h
        obtain ⟨r140, hr141, h⟩ := hq
        refine T0_e rfl (eff_call Try.func81 nm81 rfl (ev2 rfl rfl) (levitate_wide_less_ok [] _ (LtL.nil _) [(.int .u64 r100.e0), (.int .u64 r100.e1), (.int .u64 r100.e2)] r100 rfl [(.int .u64 r130.e0), (.int .u64 r130.e1), (.int .u64 r130.e2)] r130 rfl r140 hr141) ?_)
        rintro _ wd142 ⟨he143, cs144, rfl, hrd145⟩
        have e147 := e137.trans he143
        have e149 := e139.trans he143
        have hrd145 : cs144 = [(.int .u64 r140.e0), (.int .u64 r140.e1), (.int .u64 r140.e2)] := hrd145
        subst hrd145
        refine T0_e rfl (eff_storeC (vs := [(.int .u64 r140.e0), (.int .u64 r140.e1), (.int .u64 r140.e2)]) (cs' := [(.int .u64 r140.e0), (.int .u64 r140.e1), (.int .u64 r140.e2)]) sz120 rfl rfl rfl rfl (hB26.ext e147) rfl (oc_cons rfl (oc_cons rfl (oc_cons rfl oc_nil))) rfl ?_)
        intro wd150 hc151 hB152
        have e157 := chg_box e149 hc151 hbf29
        refine T0_nil ?_
        refine hK80 _ _ ?_
        refine WC_ret ?_
        replace h := some_out h
        subst h
        exact ⟨[(.agg (List.toArray [(.int .u64 r140.e0), (.int .u64 r140.e1), (.int .u64 r140.e2)]))], ⟨⟨_, rfl, run_loadVarA (cs := [(.int .u64 r140.e0), (.int .u64 r140.e1), (.int .u64 r140.e2)]) ag120 (Box.at hB152)⟩, trivial⟩, e157, [(.int .u64 r140.e0), (.int .u64 r140.e1), (.int .u64 r140.e2)], rfl, rfl⟩
      · clear hK78
        replace h := cond_f hb79 h
        refine WC_skip ?_
        refine hK36 _ _ ?_
        refine WC_seqK fun K158 hK158 => ?_
        refine WC_region ?_
        have hq := bind_elim h
        clear h
        obtain ⟨r159, hr160, h⟩ := hq
        refine T0_e rfl (eff_call Try.func79 nm79 rfl (ev1 rfl) (levitate_wideOf_ok [] _ (LtL.nil _) 0 r159 hr160) ?_)
        rintro _ wd161 ⟨he162, cs163, rfl, hrd164⟩
        have e165 := he25.trans he162
        have e166 := e32.trans he162
        have e167 := e33.trans he162
        have hrd164 : cs163 = [(.int .u64 r159.e0), (.int .u64 r159.e1), (.int .u64 r159.e2)] := hrd164
        subst hrd164
        refine T0_e rfl (eff_allocZ zi120 ?_)
        intro b168 wd169 hb170 he171 hB172
        have hn173 : b168 ≠ b4 := box_ne (hB8.ext e166) hb170
        have hn174 : b168 ≠ b12 := box_ne (hB16.ext e165) hb170
        have hn175 : b168 ≠ b22 := box_ne (hB26.ext he162) hb170
        have hbf176 := bfresh e167 hb170
        have h177 := (h30.ext he162).step (add_box he171 hb170)
        have h178 := (h31.ext he162).step (add_box he171 hb170)
        have e179 := e165.trans he171
        have e180 := he162.trans he171
        have e181 := e166.trans he171
        have e182 := e167.trans he171
        refine T0_e rfl (eff_storeC (vs := [(.int .u64 r159.e0), (.int .u64 r159.e1), (.int .u64 r159.e2)]) (cs' := [(.int .u64 r159.e0), (.int .u64 r159.e1), (.int .u64 r159.e2)]) sz120 rfl rfl rfl rfl hB172 rfl (oc_cons rfl (oc_cons rfl (oc_cons rfl oc_nil))) rfl ?_)
        intro wd184 hc185 hB186
        have h187 := h177.step (Stepp.chg_mem hc185 mem0)
        have h188 := h178.step (Stepp.chg_mem hc185 mem0)
        have h189 := (hB8.ext e181).chg hc185 (avoidb hn173)
        have h190 := (hB16.ext e179).chg hc185 (avoidb hn174)
        have h191 := (hB26.ext e180).chg hc185 (avoidb hn175)
        have e192 := chg_box e182 hc185 hbf176
        refine T0_nil ?_
        refine hK158 _ _ ?_
        refine WC_seqK fun K193 hK193 => ?_
        refine WC_seqK fun K194 hK194 => ?_
        refine WC_region ?_
        refine T0_q (v := (.int .i64 0)) rfl (yl_move rfl) ?_
        refine T0_nil ?_
        refine hK194 _ _ ?_
        have hq := bind_elim h
        clear h
        obtain ⟨o654, hl655, hn656⟩ := hq
        refine WC_post (fun (ρ : Env) (wd643 : World) => ∃ (x647 : Int) (x648 : Int) (x649 : Int), (x647, x648, x649) = o654 ∧ ρ 4 = (.pointer (some ⟨b22, 0, none⟩)) ∧ ρ 6 = (.pointer (some ⟨b168, 0, none⟩)) ∧ Box wd643 b168 [(.int .u64 x647), (.int .u64 x648), (.int .u64 x649)] 120 ∧ Box wd643 b22 [(.int .u64 0), (.int .u64 0), (.int .u64 0)] 120 ∧ Ext w wd643) ?_ ?_
        · clear hK158 hK193 hK194 hK36
          intro K660 hK660
          refine WC_block ?_
          refine WC_loopk (fun sv ρ wd623 => ∃ (x628 : Int) (x633 : Int) (x634 : Int) (x635 : Int), (x628, x633, x634, x635) = sv ∧ ρ 4 = (.pointer (some ⟨b22, 0, none⟩)) ∧ ρ 5 = (.func (.func 111) #[] (List.toArray [(.pointer (some ⟨b4, 0, none⟩)), (.pointer (some ⟨b12, 0, none⟩))])) ∧ ρ 6 = (.pointer (some ⟨b168, 0, none⟩)) ∧ ρ 35 = (.int .i64 x628) ∧ SlRd ((.pointer (some ⟨b168, 0, none⟩)) :: (.pointer (some ⟨b22, 0, none⟩)) :: L) wd623 v_p_String p_String ∧ SlRd ((.pointer (some ⟨b168, 0, none⟩)) :: (.pointer (some ⟨b22, 0, none⟩)) :: L) wd623 v_p_Listappend p_Listappend ∧ Box wd623 b12 [v_p_String] 23 ∧ Box wd623 b168 [(.int .u64 x633), (.int .u64 x634), (.int .u64 x635)] 120 ∧ Box wd623 b22 [(.int .u64 0), (.int .u64 0), (.int .u64 0)] 120 ∧ Box wd623 b4 [v_p_Listappend] 124 ∧ Ext w wd623) hl655 ⟨0, r159.e0, r159.e1, r159.e2, rfl, rfl, rfl, rfl, rfl, h188, h187, h190, hB186, h191, h189, e192⟩ ?_
          rintro _ ρ wd623 ⟨x628, x633, x634, x635, rfl, hs625, hs626, hs627, hs629, h630, h640, hB632, hB637, hB639, hB642, e624⟩ x657 h hx658 K659 hK659
          refine WC_seqK fun K662 hK662 => ?_
          refine WC_region ?_
          refine T0_q (v := (.bool (decide (x628 < 3)))) rfl (yl_lss hs629 rfl) ?_
          refine T0_nil ?_
          refine hK662 _ _ ?_
          refine WC_seqK fun K663 hK663 => ?_
          refine WC_cond (b := (decide (x628 < 3))) rfl (fun hb664 => ?_) (fun hb664 => ?_)
          · clear hK660 hK662
            replace h := cond_t hb664 h
            refine WC_skip ?_
            refine hK663 _ _ ?_
            refine WC_seqK fun K665 hK665 => ?_
            refine WC_block ?_
            refine WC_seqK fun K666 hK666 => ?_
            refine WC_region ?_
            refine T0_q (v := (.int .i64 x628)) rfl (yl_move hs629) ?_
            refine T0_q (v := (.int .i64 x628)) rfl (yl_assign rfl) ?_
            refine T0_nil ?_
            refine hK666 _ _ ?_
            refine WC_seqK fun K667 hK667 => ?_
            refine WC_region ?_
            refine T0_q (v := (.int .i64 x628)) rfl (yl_move rfl) ?_
            refine T0_q (v := (.int .i64 (w64 (x628 + 1)))) rfl (yl_add rfl rfl) ?_
            refine T0_q (v := (.int .i64 (Int.tmod (w64 (x628 + 1)) 3))) rfl (yl_rem (by decide) rfl rfl) ?_
            refine T0_q (v := (.int .i64 x628)) rfl (yl_move rfl) ?_
            refine T0_q (v := (.int .i64 (w64 (x628 + 2)))) rfl (yl_add rfl rfl) ?_
            refine T0_q (v := (.int .i64 (Int.tmod (w64 (x628 + 2)) 3))) rfl (yl_rem (by decide) rfl rfl) ?_
            refine T0_q (v := (.int .i64 (Int.tmod (w64 (x628 + 1)) 3))) rfl (yl_assign rfl) ?_
            refine T0_q (v := (.int .i64 (Int.tmod (w64 (x628 + 2)) 3))) rfl (yl_assign rfl) ?_
            refine T0_nil ?_
            refine hK667 _ _ ?_
            refine WC_seqK fun K668 hK668 => ?_
            refine WC_region ?_
            refine T0_q (v := (.func (.func 111) #[] (List.toArray [(.pointer (some ⟨b4, 0, none⟩)), (.pointer (some ⟨b12, 0, none⟩))]))) rfl (yl_move hs626) ?_
            refine T0_q (v := (.int .i64 (Int.tmod (w64 (x628 + 1)) 3))) rfl (yl_move rfl) ?_
            have hq := bind_elim h
            clear h
            obtain ⟨r669, hr670, h⟩ := hq
            refine T0_e rfl (eff_callC rfl Try.func111 nm111 rfl (ev2 rfl rfl) rfl (levitate_minor_1_ok [] _ (LtL.nil _) 1 (Int.tmod (w64 (x628 + 1)) 3) b4 b12 v_p_Listappend p_Listappend (h640.sub (fun _ h => by cases h)) hB642 v_p_String p_String (h630.sub (fun _ h => by cases h)) hB632 r669 hr670) ?_)
            rintro _ wd671 ⟨he672, cs673, rfl, hrd674⟩
            have e675 := e624.trans he672
            have hrd674 : cs673 = [(.int .u64 r669.e0), (.int .u64 r669.e1), (.int .u64 r669.e2)] := hrd674
            subst hrd674
            refine T0_q (v := (.func (.func 111) #[] (List.toArray [(.pointer (some ⟨b4, 0, none⟩)), (.pointer (some ⟨b12, 0, none⟩))]))) rfl (yl_move hs626) ?_
            refine T0_q (v := (.int .i64 (Int.tmod (w64 (x628 + 2)) 3))) rfl (yl_move rfl) ?_
            have hq := bind_elim h
            clear h
            obtain ⟨r676, hr677, h⟩ := hq
            refine T0_e rfl (eff_callC rfl Try.func111 nm111 rfl (ev2 rfl rfl) rfl (levitate_minor_1_ok [] _ (LtL.nil _) 2 (Int.tmod (w64 (x628 + 2)) 3) b4 b12 v_p_Listappend p_Listappend ((h640.ext he672).sub (fun _ h => by cases h)) (hB642.ext he672) v_p_String p_String ((h630.ext he672).sub (fun _ h => by cases h)) (hB632.ext he672) r676 hr677) ?_)
            rintro _ wd678 ⟨he679, cs680, rfl, hrd681⟩
            have e682 := he672.trans he679
            have e683 := e675.trans he679
            have hrd681 : cs680 = [(.int .u64 r676.e0), (.int .u64 r676.e1), (.int .u64 r676.e2)] := hrd681
            subst hrd681
            have hq := bind_elim h
            clear h
            obtain ⟨r684, hr685, h⟩ := hq
            refine T0_e rfl (eff_call Try.func80 nm80 rfl (ev2 rfl rfl) (levitate_wide_times_ok [] _ (LtL.nil _) [(.int .u64 r669.e0), (.int .u64 r669.e1), (.int .u64 r669.e2)] r669 rfl [(.int .u64 r676.e0), (.int .u64 r676.e1), (.int .u64 r676.e2)] r676 rfl r684 hr685) ?_)
            rintro _ wd686 ⟨he687, cs688, rfl, hrd689⟩
            have e690 := e682.trans he687
            have e691 := e683.trans he687
            have hrd689 : cs688 = [(.int .u64 r684.e0), (.int .u64 r684.e1), (.int .u64 r684.e2)] := hrd689
            subst hrd689
            refine T0_q (v := (.func (.func 111) #[] (List.toArray [(.pointer (some ⟨b4, 0, none⟩)), (.pointer (some ⟨b12, 0, none⟩))]))) rfl (yl_move hs626) ?_
            refine T0_q (v := (.int .i64 (Int.tmod (w64 (x628 + 2)) 3))) rfl (yl_move rfl) ?_
            have hq := bind_elim h
            clear h
            obtain ⟨r692, hr693, h⟩ := hq
            refine T0_e rfl (eff_callC rfl Try.func111 nm111 rfl (ev2 rfl rfl) rfl (levitate_minor_1_ok [] _ (LtL.nil _) 1 (Int.tmod (w64 (x628 + 2)) 3) b4 b12 v_p_Listappend p_Listappend ((h640.ext e690).sub (fun _ h => by cases h)) (hB642.ext e690) v_p_String p_String ((h630.ext e690).sub (fun _ h => by cases h)) (hB632.ext e690) r692 hr693) ?_)
            rintro _ wd694 ⟨he695, cs696, rfl, hrd697⟩
            have e698 := e690.trans he695
            have e699 := e691.trans he695
            have hrd697 : cs696 = [(.int .u64 r692.e0), (.int .u64 r692.e1), (.int .u64 r692.e2)] := hrd697
            subst hrd697
            refine T0_q (v := (.func (.func 111) #[] (List.toArray [(.pointer (some ⟨b4, 0, none⟩)), (.pointer (some ⟨b12, 0, none⟩))]))) rfl (yl_move hs626) ?_
            refine T0_q (v := (.int .i64 (Int.tmod (w64 (x628 + 1)) 3))) rfl (yl_move rfl) ?_
            have hq := bind_elim h
            clear h
            obtain ⟨r700, hr701, h⟩ := hq
            refine T0_e rfl (eff_callC rfl Try.func111 nm111 rfl (ev2 rfl rfl) rfl (levitate_minor_1_ok [] _ (LtL.nil _) 2 (Int.tmod (w64 (x628 + 1)) 3) b4 b12 v_p_Listappend p_Listappend ((h640.ext e698).sub (fun _ h => by cases h)) (hB642.ext e698) v_p_String p_String ((h630.ext e698).sub (fun _ h => by cases h)) (hB632.ext e698) r700 hr701) ?_)
            rintro _ wd702 ⟨he703, cs704, rfl, hrd705⟩
            have e706 := e698.trans he703
            have e707 := e699.trans he703
            have hrd705 : cs704 = [(.int .u64 r700.e0), (.int .u64 r700.e1), (.int .u64 r700.e2)] := hrd705
            subst hrd705
            have hq := bind_elim h
            clear h
            obtain ⟨r708, hr709, h⟩ := hq
            refine T0_e rfl (eff_call Try.func80 nm80 rfl (ev2 rfl rfl) (levitate_wide_times_ok [] _ (LtL.nil _) [(.int .u64 r692.e0), (.int .u64 r692.e1), (.int .u64 r692.e2)] r692 rfl [(.int .u64 r700.e0), (.int .u64 r700.e1), (.int .u64 r700.e2)] r700 rfl r708 hr709) ?_)
            rintro _ wd710 ⟨he711, cs712, rfl, hrd713⟩
            have e714 := e706.trans he711
            have e715 := e707.trans he711
            have hrd713 : cs712 = [(.int .u64 r708.e0), (.int .u64 r708.e1), (.int .u64 r708.e2)] := hrd713
            subst hrd713
            have hq := bind_elim h
            clear h
            obtain ⟨r716, hr717, h⟩ := hq
            refine T0_e rfl (eff_call Try.func81 nm81 rfl (ev2 rfl rfl) (levitate_wide_less_ok [] _ (LtL.nil _) [(.int .u64 r684.e0), (.int .u64 r684.e1), (.int .u64 r684.e2)] r684 rfl [(.int .u64 r708.e0), (.int .u64 r708.e1), (.int .u64 r708.e2)] r708 rfl r716 hr717) ?_)
            rintro _ wd718 ⟨he719, cs720, rfl, hrd721⟩
            have e722 := e714.trans he719
            have e723 := e715.trans he719
            have hrd721 : cs720 = [(.int .u64 r716.e0), (.int .u64 r716.e1), (.int .u64 r716.e2)] := hrd721
            subst hrd721
            refine T0_e rfl (eff_allocZ zi120 ?_)
            intro b724 wd725 hb726 he727 hB728
            have hn729 : b724 ≠ b12 := box_ne (hB632.ext e722) hb726
            have hn730 : b724 ≠ b168 := box_ne (hB637.ext e722) hb726
            have hn731 : b724 ≠ b22 := box_ne (hB639.ext e722) hb726
            have hn732 : b724 ≠ b4 := box_ne (hB642.ext e722) hb726
            have hbf733 := bfresh e723 hb726
            have h734 := (h630.ext e722).step (add_box he727 hb726)
            have h735 := (h640.ext e722).step (add_box he727 hb726)
            have e736 := e722.trans he727
            have e737 := e723.trans he727
            refine T0_e rfl (eff_storeC (vs := [(.int .u64 r716.e0), (.int .u64 r716.e1), (.int .u64 r716.e2)]) (cs' := [(.int .u64 r716.e0), (.int .u64 r716.e1), (.int .u64 r716.e2)]) sz120 rfl rfl rfl rfl hB728 rfl (oc_cons rfl (oc_cons rfl (oc_cons rfl oc_nil))) rfl ?_)
            intro wd739 hc740 hB741
            have h742 := h734.step (Stepp.chg_mem hc740 mem0)
            have h743 := (hB632.ext e736).chg hc740 (avoidb hn729)
            have h744 := (hB637.ext e736).chg hc740 (avoidb hn730)
            have h745 := (hB639.ext e736).chg hc740 (avoidb hn731)
            have h746 := h735.step (Stepp.chg_mem hc740 mem0)
            have h747 := (hB642.ext e736).chg hc740 (avoidb hn732)
            have e748 := chg_box e737 hc740 hbf733
            refine T0_nil ?_
            refine hK668 _ _ ?_
            refine WC_planX mixed (.p 1 (.p 2 (.q 0 (.q 4 (.e 3 (.e 5 (.e 6 (.b 7 .done)))))))) (by kernel_rfl) ?_
            intro wd749 he750
            have e751 := e748.trans he750
            refine TX_p (v := (.func (.func 111) #[] (List.toArray [(.pointer (some ⟨b4, 0, none⟩)), (.pointer (some ⟨b12, 0, none⟩))]))) rfl rfl (fun w' => (yl_move hs626)) ?_
            refine TX_p (v := (.int .i64 x628)) rfl rfl (fun w' => (yl_move rfl)) ?_
            refine TX_q (v := (.agg (List.toArray [(.int .u64 x633), (.int .u64 x634), (.int .u64 x635)]))) rfl rfl (fun w' hS => (yl_loadA (cs := [(.int .u64 x633), (.int .u64 x634), (.int .u64 x635)]) ag120 hs627 (Box.at (h744.ext (he750.trans hS))))) ?_
            refine TX_q (v := (.agg (List.toArray [(.int .u64 r716.e0), (.int .u64 r716.e1), (.int .u64 r716.e2)]))) rfl rfl (fun w' hS => (yl_loadA (cs := [(.int .u64 r716.e0), (.int .u64 r716.e1), (.int .u64 r716.e2)]) ag120 rfl (Box.at (hB741.ext (he750.trans hS))))) ?_
            have hq := bind_elim h
            clear h
            obtain ⟨r752, hr753, h⟩ := hq
            refine TX_e rfl rfl (eff_callC rfl Try.func111 nm111 rfl (ev2 rfl rfl) rfl (levitate_minor_1_ok [] _ (LtL.nil _) 0 x628 b4 b12 v_p_Listappend p_Listappend ((h746.ext he750).sub (fun _ h => by cases h)) (h747.ext he750) v_p_String p_String ((h742.ext he750).sub (fun _ h => by cases h)) (h743.ext he750) r752 hr753) ?_)
            rintro _ wd754 ⟨he755, cs756, rfl, hrd757⟩
            have e758 := he750.trans he755
            have e759 := e751.trans he755
            have hrd757 : cs756 = [(.int .u64 r752.e0), (.int .u64 r752.e1), (.int .u64 r752.e2)] := hrd757
            subst hrd757
            refine ⟨he755, ?_⟩
            have hq := bind_elim h
            clear h
            obtain ⟨r760, hr761, h⟩ := hq
            refine TX_e rfl rfl (eff_call Try.func80 nm80 rfl (ev2 rfl rfl) (levitate_wide_times_ok [] _ (LtL.nil _) [(.int .u64 r752.e0), (.int .u64 r752.e1), (.int .u64 r752.e2)] r752 rfl [(.int .u64 r716.e0), (.int .u64 r716.e1), (.int .u64 r716.e2)] r716 rfl r760 hr761) ?_)
            rintro _ wd762 ⟨he763, cs764, rfl, hrd765⟩
            have e766 := e758.trans he763
            have e767 := e759.trans he763
            have hrd765 : cs764 = [(.int .u64 r760.e0), (.int .u64 r760.e1), (.int .u64 r760.e2)] := hrd765
            subst hrd765
            refine ⟨he763, ?_⟩
            have hq := bind_elim h
            clear h
            obtain ⟨r768, hr769, h⟩ := hq
            refine TX_e rfl rfl (eff_call Try.func110 nm110 rfl (ev2 rfl rfl) (levitate_wide_plus_ok [] _ (LtL.nil _) [(.int .u64 x633), (.int .u64 x634), (.int .u64 x635)] (Arr3_U64.mk x633 x634 x635) rfl [(.int .u64 r760.e0), (.int .u64 r760.e1), (.int .u64 r760.e2)] r760 rfl r768 hr769) ?_)
            rintro _ wd770 ⟨he771, cs772, rfl, hrd773⟩
            have e774 := e766.trans he771
            have e775 := e767.trans he771
            have hrd773 : cs772 = [(.int .u64 r768.e0), (.int .u64 r768.e1), (.int .u64 r768.e2)] := hrd773
            subst hrd773
            refine ⟨he771, ?_⟩
            refine TX_b rfl rfl (eff_storeC (vs := [(.int .u64 r768.e0), (.int .u64 r768.e1), (.int .u64 r768.e2)]) (cs' := [(.int .u64 r768.e0), (.int .u64 r768.e1), (.int .u64 r768.e2)]) sz120 rfl rfl hs627 rfl (h744.ext e774) rfl (oc_cons rfl (oc_cons rfl (oc_cons rfl oc_nil))) rfl ?_)
            intro wd776 hc777 hB778
            have h779 := (h742.ext e774).step (Stepp.chg_mem hc777 (memS mem0))
            have h780 := (h743.ext e774).chg hc777 (avoidb hn174)
            have h781 := (h745.ext e774).chg hc777 (avoidb hn175)
            have h782 := (h746.ext e774).step (Stepp.chg_mem hc777 (memS mem0))
            have h783 := (h747.ext e774).chg hc777 (avoidb hn173)
            have e785 := chg_box e775 hc777 hbf176
            refine TX_done ?_
            refine hK665 _ _ ?_
            refine WC_region ?_
            refine T0_q (v := (.int .i64 (w64 (x628 + 1)))) rfl (yl_add hs629 rfl) ?_
            refine T0_q (v := (.int .i64 (w64 (x628 + 1)))) rfl (yl_move rfl) ?_
            refine T0_nil ?_
            replace h := some_out h
            subst h
            refine hK659 _ _ _ rfl ?_
            exact ⟨w64 (x628 + 1), r768.e0, r768.e1, r768.e2, rfl, hs625, hs626, hs627, rfl, (h779.sub (sub_cons (memS mem0) (sub_cons (memS (memS mem0)) (sub_skip (sub_skip (sub_skip (sub_refl _))))))), (h782.sub (sub_cons (memS mem0) (sub_cons (memS (memS mem0)) (sub_skip (sub_skip (sub_skip (sub_refl _))))))), h780, hB778, h781, h783, e785⟩
          · clear hK659 hK662 hK663
            replace h := cond_f hb664 h
            refine WC_exit ?_
            replace h := some_out h
            subst h
            have ho := hx658 _ rfl
            subst ho
            refine hK660 _ _ ?_
            exact ⟨x633, x634, x635, rfl, hs625, hs627, hB637, hB639, e624⟩
        · clear hK158 hK194 hK36
          rintro ρ wd643 ⟨x647, x648, x649, rfl, hs645, hs646, hB651, hB653, e644⟩
          replace h := hn656
          refine hK193 _ _ ?_
          refine WC_seqK fun K786 hK786 => ?_
          refine WC_region ?_
          refine T0_q (v := (.agg (List.toArray [(.int .u64 x647), (.int .u64 x648), (.int .u64 x649)]))) rfl (yl_loadA (cs := [(.int .u64 x647), (.int .u64 x648), (.int .u64 x649)]) ag120 hs646 (Box.at hB651)) ?_
          refine T0_e rfl (eff_storeC (vs := [(.int .u64 x647), (.int .u64 x648), (.int .u64 x649)]) (cs' := [(.int .u64 x647), (.int .u64 x648), (.int .u64 x649)]) sz120 rfl rfl hs645 rfl hB653 rfl (oc_cons rfl (oc_cons rfl (oc_cons rfl oc_nil))) rfl ?_)
          intro wd787 hc788 hB789
          have e791 := chg_box e644 hc788 hbf29
          refine T0_nil ?_
          refine hK786 _ _ ?_
          refine WC_ret ?_
          replace h := some_out h
          subst h
          exact ⟨[(.agg (List.toArray [(.int .u64 x647), (.int .u64 x648), (.int .u64 x649)]))], ⟨⟨_, hs645, run_loadVarA (cs := [(.int .u64 x647), (.int .u64 x648), (.int .u64 x649)]) ag120 (Box.at hB789)⟩, trivial⟩, e791, [(.int .u64 x647), (.int .u64 x648), (.int .u64 x649)], rfl, rfl⟩

noncomputable def levitate_never_s0 (p_f : (List (List Int))) (r4 : (List (List Arr3_U64))) : (Int) → Option ((Int) ⊕ (Bool ⊕ (Unit))) := fun x338 =>
  (Option.bind (shlS .i64 1 (p_f.length : Int)) fun q357 =>
  (bif (decide (x338 < q357)) then (
    (Option.bind (levitate_numbers_spec (p_f.length : Int)) fun r362 =>
    (Option.bind (delF x338 r362) fun zs377 =>
    (Option.bind (levitate_minor_spec r4 zs377) fun r394 =>
    (Option.bind (levitate_wide_below_spec r394) fun r401 =>
    (bif r401 then (
      some (.inr (.inl false))
    ) else (
      some (.inl (w64 (x338 + 1)))
    ))
    )
    )
    )
    )
  ) else (
    some (.inr (.inr ()))
  ))
  )
noncomputable def levitate_never_spec (p_f : (List (List Int))) : Option Bool :=
  (Option.bind (levitate_widened_spec p_f) fun r4 =>
  (Option.bind (loop (levitate_never_s0 p_f r4) 1) fun o344 => jn0 o344 fun (_ : Unit) =>
  some true
  )
  )
theorem levitate_never_ok (L : List Value) (w : World) (hL : LtL L w) (v_p_f : Value) (p_f : (List (List Int))) (h_p_f : SlRd L w v_p_f p_f) (r : Bool) (h : levitate_never_spec p_f = some r) :
    CallsTo Try.prog 107 [v_p_f] w (fun v w' => Ext w w' ∧ (.bool r) = v) := by
  have e0 : Ext w w := Chg.refl _ _
  refine callsTo_of_WC (n := 25) (rs := [.tmp 2]) Try.func107 rfl rfl rfl rfl rfl ?_
  refine WC_seqK fun K2 hK2 => ?_
  refine WC_region ?_
  refine T0_q (v := (.bool false)) rfl (yl_assign rfl) ?_
  refine T0_nil ?_
  refine hK2 _ _ ?_
  refine WC_seqK fun K3 hK3 => ?_
  refine WC_region ?_
  refine T0_q (v := v_p_f) rfl (yl_move rfl) ?_
  have hq := bind_elim h
  clear h
  obtain ⟨r4, hr5, h⟩ := hq
  refine T0_e rfl (eff_call Try.func84 nm84 rfl (ev1 rfl) (levitate_widened_ok L _ (hL.chg e0) v_p_f p_f h_p_f r4 hr5) ?_)
  rintro _ wd6 ⟨he7, v8, rfl, h9⟩
  have e10 := e0.trans he7
  refine T0_q (v := v8) rfl (yl_assign rfl) ?_
  refine T0_nil ?_
  refine hK3 _ _ ?_
  refine WC_seqK fun K12 hK12 => ?_
  refine WC_seqK fun K13 hK13 => ?_
  refine WC_region ?_
  refine T0_e rfl (eff_allocZ zi3 ?_)
  intro b14 wd15 hb16 he17 hB18
  have hbf19 := bfresh e10 hb16
  have h20 := (h_p_f.ext he7).step (add_box he17 hb16)
  have h21 := h9.step (add_box he17 hb16)
  have e22 := e10.trans he17
  refine T0_e rfl (eff_storeC (vs := [(.int .i64 1)]) (cs' := [(.int .i64 1)]) sz3 rfl rfl rfl rfl hB18 rfl (oc_cons rfl oc_nil) rfl ?_)
  intro wd24 hc25 hB26
  have h27 := h20.step (Stepp.chg_mem hc25 mem0)
  have h28 := h21.step (Stepp.chg_mem hc25 mem0)
  have e29 := chg_box e22 hc25 hbf19
  refine T0_nil ?_
  refine hK13 _ _ ?_
  have hq := bind_elim h
  clear h
  obtain ⟨o344, hl345, hn346⟩ := hq
  refine WC_post (fun (ρ : Env) (wd342 : World) => .inr () = o344 ∧ Ext w wd342) ?_ ?_
  · clear hK12 hK13 hK2 hK3
    intro K350 hK350
    refine WC_block ?_
    refine WC_loopk (fun sv ρ wd330 => ∃ (x338 : Int) (b336 : Nat), x338 = sv ∧ ρ 0 = v_p_f ∧ ρ 3 = v8 ∧ ρ 4 = (.pointer (some ⟨b336, 0, none⟩)) ∧ SlRd ((.pointer (some ⟨b336, 0, none⟩)) :: L) wd330 v_p_f p_f ∧ SlRd ((.pointer (some ⟨b336, 0, none⟩)) :: L) wd330 v8 r4 ∧ Box wd330 b336 [(.int .i64 x338)] 3 ∧ (w.heap.size ≤ b336) ∧ Ext w wd330) hl345 ⟨1, b14, rfl, rfl, rfl, rfl, h27, h28, hB26, hbf19, e29⟩ ?_
    rintro _ ρ wd330 ⟨x338, b336, rfl, hs333, hs335, hs337, h332, h334, hB340, hf341, e331⟩ x347 h hx348 K349 hK349
    refine WC_seqK fun K352 hK352 => ?_
    refine WC_seqK fun K353 hK353 => ?_
    refine WC_planX mixed (.p 1 (.p 2 (.p 3 (.q 0 (.p 4 .done))))) (by kernel_rfl) ?_
    intro wd354 he355
    have e356 := e331.trans he355
    refine TX_p (v := v_p_f) rfl rfl (fun w' => (yl_move hs333)) ?_
    refine TX_p (v := (.int .i64 (p_f.length : Int))) rfl rfl (fun w' => (yl_lenR rfl Try.underlying47 h332 rfl)) ?_
    have hq := bind_elim h
    clear h
    obtain ⟨q357, hq358, h⟩ := hq
    refine TX_p (v := (.int .i64 q357)) rfl rfl (fun w' => (yl_shl hq358 rfl rfl)) ?_
    refine TX_q (v := (.int .i64 x338)) rfl rfl (fun w' hS => (yl_load sc3 hs337 (Box.at (hB340.ext (he355.trans hS))))) ?_
    refine TX_p (v := (.bool (decide (x338 < q357)))) rfl rfl (fun w' => (yl_lss rfl rfl)) ?_
    refine TX_done ?_
    refine hK353 _ _ ?_
    refine WC_cond (b := (decide (x338 < q357))) rfl (fun hb359 => ?_) (fun hb359 => ?_)
    · clear hK350 hK353
      replace h := cond_t hb359 h
      refine WC_skip ?_
      refine hK352 _ _ ?_
      refine WC_seqK fun K360 hK360 => ?_
      refine WC_block ?_
      refine WC_seqK fun K361 hK361 => ?_
      refine WC_region ?_
      refine T0_q (v := v_p_f) rfl (yl_move hs333) ?_
      refine T0_q (v := (.int .i64 (p_f.length : Int))) rfl (yl_lenR rfl Try.underlying47 h332 rfl) ?_
      have hq := bind_elim h
      clear h
      obtain ⟨r362, hr363, h⟩ := hq
      refine T0_e rfl (eff_call Try.func85 nm85 rfl (ev1 rfl) (levitate_numbers_own ((.pointer (some ⟨b336, 0, none⟩)) :: L) _ (ltl_box (hL.chg e356) (hB340.ext he355)) (p_f.length : Int) r362 hr363) ?_)
      rintro _ wd364 ⟨he365, v366, rfl, hf368, h367⟩
      have h369 := (h332.ext he355).step (Stepp.add v366 he365 hf368)
      have h370 := (h334.ext he355).step (Stepp.add v366 he365 hf368)
      have hn372 : blk v366 ≠ some b336 := fun e => by have := hf368 _ e; have := (hB340.ext he355).lt; omega
      have hf373 : ∀ b, blk v366 = some b → w.heap.size ≤ b := fun b hb => Nat.le_trans e356.size (hf368 b hb)
      have e374 := he355.trans he365
      have e375 := e356.trans he365
      refine T0_q (v := (.func (.func 123) #[] (List.toArray [(.pointer (some ⟨b336, 0, none⟩))]))) rfl (yl_makeFunc (ev1 hs337)) ?_
      have hq := bind_elim h
      clear h
      obtain ⟨zs377, hz378, h⟩ := hq
      refine T0_e rfl (eff_call Try.func122 nm122 rfl (ev2 rfl rfl) (delF_ok123 h367 (hB340.ext e374) hn372 hz378) ?_)
      rintro v379 wd380 ⟨hc381, hb382, h384⟩
      have hbl383 : ∀ k, blk v379 = some k → blk v366 = some k ∨ wd364.heap.size ≤ k := fun k hk => .inl (hb382 k hk)
      replace h384 := h384 (v379 :: (.pointer (some ⟨b336, 0, none⟩)) :: L)
      have hf387 := fresh_swap hbl383 hf373 e375.size
      have h388 := h369.step (Stepp.swap hc381 hbl383)
      have h389 := h370.step (Stepp.swap hc381 hbl383)
      have h390 := (hB340.ext e374).chg hc381 (avoid1 hn372)
      have e391 := chg_own e375 hc381 hf373
      refine T0_q (v := v379) rfl (yl_assign rfl) ?_
      refine T0_nil ?_
      refine hK361 _ _ ?_
      refine WC_seqK fun K393 hK393 => ?_
      refine WC_region ?_
      refine T0_q (v := v8) rfl (yl_move hs335) ?_
      refine T0_q (v := v379) rfl (yl_move rfl) ?_
      have hq := bind_elim h
      clear h
      obtain ⟨r394, hr395, h⟩ := hq
      refine T0_e rfl (eff_call Try.func86 nm86 rfl (ev2 rfl rfl) (levitate_minor_ok [] _ (LtL.nil _) v8 r4 (h389.sub (fun _ h => by cases h)) v379 zs377 (h384.rdL (fun _ h => by cases h) (LtL.nil w) hf387) r394 hr395) ?_)
      rintro _ wd396 ⟨he397, cs398, rfl, hrd399⟩
      have e400 := e391.trans he397
      have hrd399 : cs398 = [(.int .u64 r394.e0), (.int .u64 r394.e1), (.int .u64 r394.e2)] := hrd399
      subst hrd399
      have hq := bind_elim h
      clear h
      obtain ⟨r401, hr402, h⟩ := hq
      refine T0_e rfl (eff_call Try.func82 nm82 rfl (ev1 rfl) (levitate_wide_below_ok [] _ (LtL.nil _) [(.int .u64 r394.e0), (.int .u64 r394.e1), (.int .u64 r394.e2)] r394 rfl r401 hr402) ?_)
      rintro _ wd403 ⟨he404, rfl⟩
      have e405 := he397.trans he404
      have e406 := e400.trans he404
      refine T0_nil ?_
      refine hK393 _ _ ?_
      refine WC_cond (b := r401) rfl (fun hb407 => ?_) (fun hb407 => ?_)
      · clear hK349 hK352 hK360 hK361 hK393
        replace h := cond_t hb407 h
        refine WC_seqK fun K408 hK408 => ?_
        refine WC_region ?_
        refine T0_q (v := (.bool false)) rfl (yl_assign rfl) ?_
        refine T0_nil ?_
        refine hK408 _ _ ?_
        refine WC_ret ?_
        replace h := some_out h
        subst h
        have ho := hx348 _ rfl
        subst ho
        replace h := jn0_inl hn346
        replace h := some_out h
        subst h
        exact ⟨[(.bool false)], ⟨rfl, trivial⟩, e406, rfl⟩
      · clear hK352 hK361 hK393
        replace h := cond_f hb407 h
        refine WC_skip ?_
        refine hK360 _ _ ?_
        refine WC_seqK fun K409 hK409 => ?_
        refine WC_seqK fun K410 hK410 => ?_
        refine WC_region ?_
        refine T0_q (v := (.int .i64 x338)) rfl (yl_load sc3 hs337 (Box.at (h390.ext e405))) ?_
        refine T0_nil ?_
        refine hK410 _ _ ?_
        refine WC_region ?_
        refine T0_e rfl (eff_allocZ zi3 ?_)
        intro b411 wd412 hb413 he414 hB415
        have hbf418 := bfresh e406 hb413
        have h419 := (h388.ext e405).step (add_box he414 hb413)
        have h420 := (h389.ext e405).step (add_box he414 hb413)
        have e423 := e406.trans he414
        refine T0_e rfl (eff_storeC (vs := [(.int .i64 x338)]) (cs' := [(.int .i64 x338)]) sz3 rfl rfl rfl rfl hB415 rfl (oc_cons rfl oc_nil) rfl ?_)
        intro wd425 hc426 hB427
        have h428 := h419.step (Stepp.chg_mem hc426 mem0)
        have h429 := h420.step (Stepp.chg_mem hc426 mem0)
        have e432 := chg_box e423 hc426 hbf418
        refine T0_nil ?_
        refine hK409 _ _ ?_
        refine WC_region ?_
        refine T0_q (v := (.int .i64 x338)) rfl (yl_load sc3 rfl (Box.at hB427)) ?_
        refine T0_q (v := (.int .i64 (w64 (x338 + 1)))) rfl (yl_add rfl rfl) ?_
        refine T0_e rfl (eff_storeC (vs := [(.int .i64 (w64 (x338 + 1)))]) (cs' := [(.int .i64 (w64 (x338 + 1)))]) sz3 rfl rfl rfl rfl hB427 rfl (oc_cons rfl oc_nil) rfl ?_)
        intro wd433 hc434 hB435
        have h436 := h428.step (Stepp.chg_mem hc434 mem0)
        have h437 := h429.step (Stepp.chg_mem hc434 mem0)
        have e440 := chg_box e432 hc434 hbf418
        refine T0_nil ?_
        replace h := some_out h
        subst h
        refine hK349 _ _ _ rfl ?_
        exact ⟨w64 (x338 + 1), b411, rfl, hs333, hs335, rfl, (h436.sub (sub_cons mem0 (sub_skip (sub_skip (sub_skip (sub_refl _)))))), (h437.sub (sub_cons mem0 (sub_skip (sub_skip (sub_skip (sub_refl _)))))), hB435, hbf418, e440⟩
    · clear hK349 hK352 hK353
      replace h := cond_f hb359 h
      refine WC_exit ?_
      replace h := some_out h
      subst h
      have ho := hx348 _ rfl
      subst ho
      refine hK350 _ _ ?_
      exact ⟨rfl, e356⟩
  · clear hK13 hK2 hK3
    rintro ρ wd342 ⟨rfl, e343⟩
    replace h := jn0_inr hn346
    refine hK12 _ _ ?_
    refine WC_seqK fun K441 hK441 => ?_
    refine WC_region ?_
    refine T0_q (v := (.bool true)) rfl (yl_assign rfl) ?_
    refine T0_nil ?_
    refine hK441 _ _ ?_
    refine WC_ret ?_
    replace h := some_out h
    subst h
    exact ⟨[(.bool true)], ⟨rfl, trivial⟩, e343, rfl⟩

noncomputable def levitate_ends_64_spec (p_r : Range) : Option Bool :=
  (Option.bind (levitate_isCurrent_spec p_r.Lo) fun r11 =>
  (Option.bind (bif r11 then levitate_isCurrent_spec p_r.Hi else some default) fun r16 =>
  some (r11 && r16)
  )
  )
theorem levitate_ends_64_ok (L : List Value) (w : World) (hL : LtL L w) (cs_p_r : List Value) (p_r : Range) (h_p_r : Rep.rd L w cs_p_r p_r) (r : Bool) (h : levitate_ends_64_spec p_r = some r) :
    CallsTo Try.prog 63 [(.agg cs_p_r.toArray), (.func (.func 64) #[] #[])] w (fun v w' => Ext w w' ∧ (.bool r) = v) := by
  have e0 : Ext w w := Chg.refl _ _
  have h_p_r : cs_p_r = [(.int .i64 p_r.Lo), (.int .i64 p_r.Hi)] := h_p_r
  subst h_p_r
  refine callsTo_of_WC (n := 15) (rs := [.tmp 4]) Try.func63 rfl rfl rfl rfl rfl ?_
  refine WC_seqK fun K1 hK1 => ?_
  refine WC_region ?_
  refine T0_e rfl (eff_boxC (cs := [(.int .i64 p_r.Lo), (.int .i64 p_r.Hi)]) rfl rfl ?_)
  intro b2 wd3 hb4 he5 hB6
  have e8 := e0.trans he5
  refine T0_q (v := (.bool false)) rfl (yl_assign rfl) ?_
  refine T0_nil ?_
  refine hK1 _ _ ?_
  refine WC_seqK fun K10 hK10 => ?_
  refine WC_region ?_
  refine T0_q (v := (.func (.func 64) #[] #[])) rfl (yl_move rfl) ?_
  refine T0_q (v := (.pointer (some ⟨b2, 0, none⟩))) rfl (yl_fa 0 Try.underlying74 rfl rfl ⟨0, sz3⟩ rfl rfl) ?_
  refine T0_q (v := (.int .i64 p_r.Lo)) rfl (yl_load sc3 rfl (Box.at hB6)) ?_
  have hq := bind_elim h
  clear h
  obtain ⟨r11, hr12, h⟩ := hq
  refine T0_e rfl (eff_callV rfl Try.func64 nm64 rfl (ev1 rfl) (levitate_isCurrent_ok [] _ (LtL.nil _) p_r.Lo r11 hr12) ?_)
  rintro _ wd13 ⟨he14, rfl⟩
  have e15 := e8.trans he14
  refine T0_q (v := (.bool r11)) rfl (yl_move rfl) ?_
  refine T0_g (v := (.func (.func 64) #[] #[])) r11 (wanted_t rfl rfl rfl rfl) (fun hg => (yl_move rfl)) ?_
  refine T0_g (v := (.pointer (some ⟨b2, 1, none⟩))) r11 (wanted_t rfl rfl rfl rfl) (fun hg => (yl_fa 1 Try.underlying74 rfl rfl ⟨0, sz3⟩ rfl rfl)) ?_
  refine T0_g (v := (.int .i64 p_r.Hi)) r11 (wanted_t rfl rfl rfl rfl) (fun hg => (yl_load sc3 (gd_true hg) (At.drop (Box.at (hB6.ext he14)) 1))) ?_
  have hq := bind_elim h
  clear h
  obtain ⟨r16, hr17, h⟩ := hq
  refine T0_ges r11 (.bool r16) (wanted_t rfl rfl rfl rfl) (fun hg => eff_callV (gd_true hg) Try.func64 nm64 rfl (ev1 (gd_true hg)) (levitate_isCurrent_ok [] _ (LtL.nil _) p_r.Hi r16 (cond_t hg hr17)) (by rintro _ wd18 ⟨he19, rfl⟩; exact ⟨rfl, he19⟩)) ?_
  intro wd18 he19
  have e21 := e15.trans he19
  refine T0_q (v := (.bool (r11 && r16))) rfl (yl_and rfl (fun hb => (gd_true hb)) rfl) ?_
  refine T0_q (v := (.bool (r11 && r16))) rfl (yl_assign rfl) ?_
  refine T0_nil ?_
  refine hK10 _ _ ?_
  refine WC_ret ?_
  replace h := some_out h
  subst h
  exact ⟨[(.bool (r11 && r16))], ⟨rfl, trivial⟩, e21, rfl⟩

noncomputable def slices_IndexFunc_int_102_s0 (p_s : (List Int)) : (Int) → Option ((Int) ⊕ (Int ⊕ (Unit))) := fun x91 =>
  (bif (decide (x91 < (p_s.length : Int))) then (
    (Option.bind (idx p_s x91) fun el109 =>
    (Option.bind (levitate_plant_boxErr_1_spec el109) fun r115 =>
    (bif r115 then (
      some (.inr (.inl x91))
    ) else (
      some (.inl (w64 (x91 + 1)))
    ))
    )
    )
  ) else (
    some (.inr (.inr ()))
  ))
noncomputable def slices_IndexFunc_int_102_spec (p_s : (List Int)) : Option Int :=
  (Option.bind (loop (slices_IndexFunc_int_102_s0 p_s) 0) fun o95 => jn0 o95 fun (_ : Unit) =>
  some (-1)
  )
theorem slices_IndexFunc_int_102_ok (L : List Value) (w : World) (hL : LtL L w) (v_p_s : Value) (p_s : (List Int)) (h_p_s : SlRd L w v_p_s p_s) (r : Int) (h : slices_IndexFunc_int_102_spec p_s = some r) :
    CallsTo Try.prog 68 [v_p_s, (.func (.func 102) #[] #[])] w (fun v w' => Ext w w' ∧ (.int .i64 r) = v) := by
  have e0 : Ext w w := Chg.refl _ _
  refine callsTo_of_WC (n := 19) (rs := [.tmp 4]) Try.func68 rfl rfl rfl rfl rfl ?_
  refine WC_seqK fun K2 hK2 => ?_
  refine WC_region ?_
  refine T0_q (v := (.int .i64 0)) rfl (yl_assign rfl) ?_
  refine T0_nil ?_
  refine hK2 _ _ ?_
  refine WC_seqK fun K3 hK3 => ?_
  refine WC_seqK fun K4 hK4 => ?_
  refine WC_region ?_
  refine T0_q (v := v_p_s) rfl (yl_move rfl) ?_
  refine T0_q (v := (.int .i64 (p_s.length : Int))) rfl (yl_lenR rfl Try.underlying23 h_p_s rfl) ?_
  refine T0_q (v := (.int .i64 0)) rfl (yl_move rfl) ?_
  refine T0_nil ?_
  refine hK4 _ _ ?_
  have hq := bind_elim h
  clear h
  obtain ⟨o95, hl96, hn97⟩ := hq
  refine WC_post (fun (ρ : Env) (wd93 : World) => .inr () = o95 ∧ Ext w wd93) ?_ ?_
  · clear hK2 hK3 hK4
    intro K101 hK101
    refine WC_block ?_
    refine WC_loopk (fun sv ρ wd85 => ∃ (x91 : Int), x91 = sv ∧ ρ 0 = v_p_s ∧ ρ 1 = (.func (.func 102) #[] #[]) ∧ ρ 7 = (.int .i64 (p_s.length : Int)) ∧ ρ 8 = (.int .i64 x91) ∧ SlRd L wd85 v_p_s p_s ∧ Ext w wd85) hl96 ⟨0, rfl, rfl, rfl, rfl, rfl, h_p_s, e0⟩ ?_
    rintro _ ρ wd85 ⟨x91, rfl, hs88, hs89, hs90, hs92, h87, e86⟩ x98 h hx99 K100 hK100
    refine WC_seqK fun K103 hK103 => ?_
    refine WC_region ?_
    refine T0_q (v := (.bool (decide (x91 < (p_s.length : Int))))) rfl (yl_lss hs92 hs90) ?_
    refine T0_nil ?_
    refine hK103 _ _ ?_
    refine WC_seqK fun K104 hK104 => ?_
    refine WC_cond (b := (decide (x91 < (p_s.length : Int)))) rfl (fun hb105 => ?_) (fun hb105 => ?_)
    · clear hK101 hK103
      replace h := cond_t hb105 h
      refine WC_skip ?_
      refine hK104 _ _ ?_
      refine WC_seqK fun K106 hK106 => ?_
      refine WC_block ?_
      refine WC_seqK fun K107 hK107 => ?_
      refine WC_region ?_
      refine T0_q (v := (.int .i64 x91)) rfl (yl_move hs92) ?_
      refine T0_q (v := (.int .i64 x91)) rfl (yl_assign rfl) ?_
      refine T0_nil ?_
      refine hK107 _ _ ?_
      refine WC_seqK fun K108 hK108 => ?_
      refine WC_region ?_
      refine T0_q (v := (.func (.func 102) #[] #[])) rfl (yl_move hs89) ?_
      refine T0_q (v := v_p_s) rfl (yl_move hs88) ?_
      refine T0_q (v := (.int .i64 x91)) rfl (yl_move rfl) ?_
      have hq := bind_elim h
      clear h
      obtain ⟨el109, hel110, h⟩ := hq
      have hq := SlRd.at h87 hel110
      obtain ⟨cs111, hat112, hrd113⟩ := hq
      have hrd113 : cs111 = [(.int .i64 el109)] := hrd113
      subst hrd113
      refine T0_q (v := (.pointer (some (elemAddr v_p_s (x91 : Int).toNat 1)))) rfl (yl_indexAddr Try.underlying23 sz3 h87 hel110 rfl rfl) ?_
      refine T0_q (v := (.int .i64 el109)) rfl (yl_load sc3 rfl hat112) ?_
      have hq := bind_elim h
      clear h
      obtain ⟨r115, hr116, h⟩ := hq
      refine T0_e rfl (eff_callV rfl Try.func102 nm102 rfl (ev1 rfl) (levitate_plant_boxErr_1_ok [] _ (LtL.nil _) el109 r115 hr116) ?_)
      rintro _ wd117 ⟨he118, rfl⟩
      have e119 := e86.trans he118
      refine T0_nil ?_
      refine hK108 _ _ ?_
      refine WC_cond (b := r115) rfl (fun hb120 => ?_) (fun hb120 => ?_)
      · clear hK100 hK104 hK106 hK107 hK108
        replace h := cond_t hb120 h
        refine WC_seqK fun K121 hK121 => ?_
        refine WC_region ?_
        refine T0_q (v := (.int .i64 x91)) rfl (yl_move rfl) ?_
        refine T0_q (v := (.int .i64 x91)) rfl (yl_assign rfl) ?_
        refine T0_nil ?_
        refine hK121 _ _ ?_
        refine WC_ret ?_
        replace h := some_out h
        subst h
        have ho := hx99 _ rfl
        subst ho
        replace h := jn0_inl hn97
        replace h := some_out h
        subst h
        exact ⟨[(.int .i64 x91)], ⟨rfl, trivial⟩, e119, rfl⟩
      · clear hK104 hK107 hK108
        replace h := cond_f hb120 h
        refine WC_skip ?_
        refine hK106 _ _ ?_
        refine WC_region ?_
        refine T0_q (v := (.int .i64 (w64 (x91 + 1)))) rfl (yl_add hs92 rfl) ?_
        refine T0_q (v := (.int .i64 (w64 (x91 + 1)))) rfl (yl_move rfl) ?_
        refine T0_nil ?_
        replace h := some_out h
        subst h
        refine hK100 _ _ _ rfl ?_
        exact ⟨w64 (x91 + 1), rfl, hs88, hs89, hs90, rfl, (h87.ext he118), e119⟩
    · clear hK100 hK103 hK104
      replace h := cond_f hb105 h
      refine WC_exit ?_
      replace h := some_out h
      subst h
      have ho := hx99 _ rfl
      subst ho
      refine hK101 _ _ ?_
      exact ⟨rfl, e86⟩
  · clear hK2 hK4
    rintro ρ wd93 ⟨rfl, e94⟩
    replace h := jn0_inr hn97
    refine hK3 _ _ ?_
    refine WC_seqK fun K122 hK122 => ?_
    refine WC_region ?_
    refine T0_q (v := (.int .i64 (-1))) rfl (yl_assign rfl) ?_
    refine T0_nil ?_
    refine hK122 _ _ ?_
    refine WC_ret ?_
    replace h := some_out h
    subst h
    exact ⟨[(.int .i64 (-1))], ⟨rfl, trivial⟩, e94, rfl⟩

noncomputable def slices_IndexFunc_int_37_s0 (p_s : (List Int)) : (Int) → Option ((Int) ⊕ (Int ⊕ (Unit))) := fun x91 =>
  (bif (decide (x91 < (p_s.length : Int))) then (
    (Option.bind (idx p_s x91) fun el109 =>
    (Option.bind (levitate_CheckPlant_1_spec el109) fun r115 =>
    (bif r115 then (
      some (.inr (.inl x91))
    ) else (
      some (.inl (w64 (x91 + 1)))
    ))
    )
    )
  ) else (
    some (.inr (.inr ()))
  ))
noncomputable def slices_IndexFunc_int_37_spec (p_s : (List Int)) : Option Int :=
  (Option.bind (loop (slices_IndexFunc_int_37_s0 p_s) 0) fun o95 => jn0 o95 fun (_ : Unit) =>
  some (-1)
  )
theorem slices_IndexFunc_int_37_ok (L : List Value) (w : World) (hL : LtL L w) (v_p_s : Value) (p_s : (List Int)) (h_p_s : SlRd L w v_p_s p_s) (r : Int) (h : slices_IndexFunc_int_37_spec p_s = some r) :
    CallsTo Try.prog 68 [v_p_s, (.func (.func 37) #[] #[])] w (fun v w' => Ext w w' ∧ (.int .i64 r) = v) := by
  have e0 : Ext w w := Chg.refl _ _
  refine callsTo_of_WC (n := 19) (rs := [.tmp 4]) Try.func68 rfl rfl rfl rfl rfl ?_
  refine WC_seqK fun K2 hK2 => ?_
  refine WC_region ?_
  refine T0_q (v := (.int .i64 0)) rfl (yl_assign rfl) ?_
  refine T0_nil ?_
  refine hK2 _ _ ?_
  refine WC_seqK fun K3 hK3 => ?_
  refine WC_seqK fun K4 hK4 => ?_
  refine WC_region ?_
  refine T0_q (v := v_p_s) rfl (yl_move rfl) ?_
  refine T0_q (v := (.int .i64 (p_s.length : Int))) rfl (yl_lenR rfl Try.underlying23 h_p_s rfl) ?_
  refine T0_q (v := (.int .i64 0)) rfl (yl_move rfl) ?_
  refine T0_nil ?_
  refine hK4 _ _ ?_
  have hq := bind_elim h
  clear h
  obtain ⟨o95, hl96, hn97⟩ := hq
  refine WC_post (fun (ρ : Env) (wd93 : World) => .inr () = o95 ∧ Ext w wd93) ?_ ?_
  · clear hK2 hK3 hK4
    intro K101 hK101
    refine WC_block ?_
    refine WC_loopk (fun sv ρ wd85 => ∃ (x91 : Int), x91 = sv ∧ ρ 0 = v_p_s ∧ ρ 1 = (.func (.func 37) #[] #[]) ∧ ρ 7 = (.int .i64 (p_s.length : Int)) ∧ ρ 8 = (.int .i64 x91) ∧ SlRd L wd85 v_p_s p_s ∧ Ext w wd85) hl96 ⟨0, rfl, rfl, rfl, rfl, rfl, h_p_s, e0⟩ ?_
    rintro _ ρ wd85 ⟨x91, rfl, hs88, hs89, hs90, hs92, h87, e86⟩ x98 h hx99 K100 hK100
    refine WC_seqK fun K103 hK103 => ?_
    refine WC_region ?_
    refine T0_q (v := (.bool (decide (x91 < (p_s.length : Int))))) rfl (yl_lss hs92 hs90) ?_
    refine T0_nil ?_
    refine hK103 _ _ ?_
    refine WC_seqK fun K104 hK104 => ?_
    refine WC_cond (b := (decide (x91 < (p_s.length : Int)))) rfl (fun hb105 => ?_) (fun hb105 => ?_)
    · clear hK101 hK103
      replace h := cond_t hb105 h
      refine WC_skip ?_
      refine hK104 _ _ ?_
      refine WC_seqK fun K106 hK106 => ?_
      refine WC_block ?_
      refine WC_seqK fun K107 hK107 => ?_
      refine WC_region ?_
      refine T0_q (v := (.int .i64 x91)) rfl (yl_move hs92) ?_
      refine T0_q (v := (.int .i64 x91)) rfl (yl_assign rfl) ?_
      refine T0_nil ?_
      refine hK107 _ _ ?_
      refine WC_seqK fun K108 hK108 => ?_
      refine WC_region ?_
      refine T0_q (v := (.func (.func 37) #[] #[])) rfl (yl_move hs89) ?_
      refine T0_q (v := v_p_s) rfl (yl_move hs88) ?_
      refine T0_q (v := (.int .i64 x91)) rfl (yl_move rfl) ?_
      have hq := bind_elim h
      clear h
      obtain ⟨el109, hel110, h⟩ := hq
      have hq := SlRd.at h87 hel110
      obtain ⟨cs111, hat112, hrd113⟩ := hq
      have hrd113 : cs111 = [(.int .i64 el109)] := hrd113
      subst hrd113
      refine T0_q (v := (.pointer (some (elemAddr v_p_s (x91 : Int).toNat 1)))) rfl (yl_indexAddr Try.underlying23 sz3 h87 hel110 rfl rfl) ?_
      refine T0_q (v := (.int .i64 el109)) rfl (yl_load sc3 rfl hat112) ?_
      have hq := bind_elim h
      clear h
      obtain ⟨r115, hr116, h⟩ := hq
      refine T0_e rfl (eff_callV rfl Try.func37 nm37 rfl (ev1 rfl) (levitate_CheckPlant_1_ok [] _ (LtL.nil _) el109 r115 hr116) ?_)
      rintro _ wd117 ⟨he118, rfl⟩
      have e119 := e86.trans he118
      refine T0_nil ?_
      refine hK108 _ _ ?_
      refine WC_cond (b := r115) rfl (fun hb120 => ?_) (fun hb120 => ?_)
      · clear hK100 hK104 hK106 hK107 hK108
        replace h := cond_t hb120 h
        refine WC_seqK fun K121 hK121 => ?_
        refine WC_region ?_
        refine T0_q (v := (.int .i64 x91)) rfl (yl_move rfl) ?_
        refine T0_q (v := (.int .i64 x91)) rfl (yl_assign rfl) ?_
        refine T0_nil ?_
        refine hK121 _ _ ?_
        refine WC_ret ?_
        replace h := some_out h
        subst h
        have ho := hx99 _ rfl
        subst ho
        replace h := jn0_inl hn97
        replace h := some_out h
        subst h
        exact ⟨[(.int .i64 x91)], ⟨rfl, trivial⟩, e119, rfl⟩
      · clear hK104 hK107 hK108
        replace h := cond_f hb120 h
        refine WC_skip ?_
        refine hK106 _ _ ?_
        refine WC_region ?_
        refine T0_q (v := (.int .i64 (w64 (x91 + 1)))) rfl (yl_add hs92 rfl) ?_
        refine T0_q (v := (.int .i64 (w64 (x91 + 1)))) rfl (yl_move rfl) ?_
        refine T0_nil ?_
        replace h := some_out h
        subst h
        refine hK100 _ _ _ rfl ?_
        exact ⟨w64 (x91 + 1), rfl, hs88, hs89, hs90, rfl, (h87.ext he118), e119⟩
    · clear hK100 hK103 hK104
      replace h := cond_f hb105 h
      refine WC_exit ?_
      replace h := some_out h
      subst h
      have ho := hx99 _ rfl
      subst ho
      refine hK101 _ _ ?_
      exact ⟨rfl, e86⟩
  · clear hK2 hK4
    rintro ρ wd93 ⟨rfl, e94⟩
    replace h := jn0_inr hn97
    refine hK3 _ _ ?_
    refine WC_seqK fun K122 hK122 => ?_
    refine WC_region ?_
    refine T0_q (v := (.int .i64 (-1))) rfl (yl_assign rfl) ?_
    refine T0_nil ?_
    refine hK122 _ _ ?_
    refine WC_ret ?_
    replace h := some_out h
    subst h
    exact ⟨[(.int .i64 (-1))], ⟨rfl, trivial⟩, e94, rfl⟩

noncomputable def levitate_plant_need_s0 (el29 : (List Int)) (p_box : (List Int)) : (Int × Int) → Option ((Int × Int) ⊕ (Int)) := fun (x171, x176) =>
  (bif (decide (x176 < (el29.length : Int))) then (
    (Option.bind (idx el29 x176) fun el205 =>
    (Option.bind (idx p_box x176) fun el214 =>
    (Option.bind (levitate_size_spec el205) fun r220 =>
    some (.inl (w64 (x171 + (w64 (r220 * el214))), w64 (x176 + 1)))
    )
    )
    )
  ) else (
    some (.inr x171)
  ))
noncomputable def levitate_plant_need_spec (p_p : levitate_plant) (p_m : Int) (p_i : Int) (p_box : (List Int)) : Option Int :=
  (Option.bind (idx p_p.LevitatePlant.Maps p_m) fun el20 =>
  (Option.bind (idx el20 p_i) fun el29 =>
  (Option.bind (loop (levitate_plant_need_s0 el29 p_box) (0, 0)) fun (x186 : Int) =>
  (Option.bind (idx p_p.LevitatePlant.Noise p_i) fun el230 =>
  (Option.bind (levitate_ceil_spec x186 p_p.LevitatePlant.Den) fun r236 =>
  some (w64 (r236 + el230))
  )
  )
  )
  )
  )
theorem levitate_plant_need_ok (L : List Value) (w : World) (hL : LtL L w) (cs_p_p : List Value) (p_p : levitate_plant) (h_p_p : Rep.rd L w cs_p_p p_p) (p_m : Int) (p_i : Int) (v_p_box : Value) (p_box : (List Int)) (h_p_box : SlRd L w v_p_box p_box) (r : Int) (h : levitate_plant_need_spec p_p p_m p_i p_box = some r) :
    CallsTo Try.prog 51 [(.agg cs_p_p.toArray), (.int .i64 p_m), (.int .i64 p_i), v_p_box] w (fun v w' => Ext w w' ∧ (.int .i64 r) = v) := by
  have e0 : Ext w w := Chg.refl _ _
  obtain ⟨v1, v3, h2, h4, rfl⟩ := h_p_p
  refine callsTo_of_WC (n := 49) (rs := [.tmp 8]) Try.func51 rfl rfl rfl rfl rfl ?_
  refine WC_seqK fun K8 hK8 => ?_
  refine WC_region ?_
  refine T0_e rfl (eff_boxC (cs := [(.int .i64 p_p.LevitatePlant.Den), v1, v3]) rfl rfl ?_)
  intro b9 wd10 hb11 he12 hB13
  have e15 := e0.trans he12
  refine T0_q (v := (.int .i64 0)) rfl (yl_assign rfl) ?_
  refine T0_nil ?_
  refine hK8 _ _ ?_
  refine WC_seqK fun K17 hK17 => ?_
  refine WC_region ?_
  refine T0_q (v := (.int .i64 0)) rfl (yl_assign rfl) ?_
  refine T0_nil ?_
  refine hK17 _ _ ?_
  refine WC_seqK fun K18 hK18 => ?_
  refine WC_seqK fun K19 hK19 => ?_
  refine WC_region ?_
  refine T0_q (v := (.pointer (some ⟨b9, 0, none⟩))) rfl (yl_fa 0 Try.underlying89 rfl rfl ⟨2, sz25⟩ rfl rfl) ?_
  refine T0_q (v := (.pointer (some ⟨b9, 1, none⟩))) rfl (yl_fa 1 Try.underlying25 rfl rfl ⟨0, sz22⟩ rfl rfl) ?_
  refine T0_q (v := v1) rfl (yl_load sc22 rfl (At.drop (Box.at hB13) 1)) ?_
  refine T0_q (v := (.int .i64 p_m)) rfl (yl_move rfl) ?_
  have hq := bind_elim h
  clear h
  obtain ⟨el20, hel21, h⟩ := hq
  have hq := SlRd.at h2 hel21
  obtain ⟨cs24, hat25, hrd26⟩ := hq
  obtain ⟨v22, rfl, h23⟩ := hrd26
  refine T0_q (v := (.pointer (some (elemAddr v1 (p_m : Int).toNat 1)))) rfl (yl_indexAddr Try.underlying22 sz47 h2 hel21 rfl rfl) ?_
  refine T0_q (v := v22) rfl (yl_load sc47 rfl (hat25.ext' he12)) ?_
  refine T0_q (v := (.int .i64 p_i)) rfl (yl_move rfl) ?_
  have hq := bind_elim h
  clear h
  obtain ⟨el29, hel30, h⟩ := hq
  have hq := SlRd.at h23 hel30
  obtain ⟨cs33, hat34, hrd35⟩ := hq
  obtain ⟨v31, rfl, h32⟩ := hrd35
  refine T0_q (v := (.pointer (some (elemAddr v22 (p_i : Int).toNat 1)))) rfl (yl_indexAddr Try.underlying47 sz23 h23 hel30 rfl rfl) ?_
  refine T0_q (v := v31) rfl (yl_load sc23 rfl (hat34.ext' he12)) ?_
  refine T0_q (v := (.int .i64 (el29.length : Int))) rfl (yl_lenR rfl Try.underlying23 h32 rfl) ?_
  refine T0_q (v := (.int .i64 0)) rfl (yl_move rfl) ?_
  refine T0_nil ?_
  refine hK19 _ _ ?_
  have hq := bind_elim h
  clear h
  obtain ⟨o192, hl193, hn194⟩ := hq
  refine WC_post (fun (ρ : Env) (wd182 : World) => ∃ (x186 : Int), x186 = o192 ∧ ρ 2 = (.int .i64 p_i) ∧ ρ 4 = (.pointer (some ⟨b9, 0, none⟩)) ∧ ρ 9 = (.int .i64 x186) ∧ SlRd L wd182 v1 p_p.LevitatePlant.Maps ∧ SlRd L wd182 v3 p_p.LevitatePlant.Noise ∧ Box wd182 b9 [(.int .i64 p_p.LevitatePlant.Den), v1, v3] 89 ∧ Ext w wd182) ?_ ?_
  · clear hK17 hK18 hK19 hK8
    intro K198 hK198
    refine WC_block ?_
    refine WC_loopk (fun sv ρ wd165 => ∃ (x171 : Int) (x176 : Int), (x171, x176) = sv ∧ ρ 2 = (.int .i64 p_i) ∧ ρ 3 = v_p_box ∧ ρ 4 = (.pointer (some ⟨b9, 0, none⟩)) ∧ ρ 9 = (.int .i64 x171) ∧ ρ 20 = v31 ∧ ρ 21 = (.int .i64 (el29.length : Int)) ∧ ρ 22 = (.int .i64 x176) ∧ SlRd L wd165 v_p_box p_box ∧ SlRd L wd165 v31 el29 ∧ SlRd L wd165 v1 p_p.LevitatePlant.Maps ∧ SlRd L wd165 v3 p_p.LevitatePlant.Noise ∧ Box wd165 b9 [(.int .i64 p_p.LevitatePlant.Den), v1, v3] 89 ∧ Ext w wd165) hl193 ⟨0, 0, rfl, rfl, rfl, rfl, rfl, rfl, rfl, rfl, (h_p_box.ext he12), (h32.ext he12), (h2.ext he12), (h4.ext he12), hB13, e15⟩ ?_
    rintro _ ρ wd165 ⟨x171, x176, rfl, hs167, hs169, hs170, hs172, hs174, hs175, hs177, h168, h173, h178, h179, hB181, e166⟩ x195 h hx196 K197 hK197
    refine WC_seqK fun K200 hK200 => ?_
    refine WC_region ?_
    refine T0_q (v := (.bool (decide (x176 < (el29.length : Int))))) rfl (yl_lss hs177 hs175) ?_
    refine T0_nil ?_
    refine hK200 _ _ ?_
    refine WC_seqK fun K201 hK201 => ?_
    refine WC_cond (b := (decide (x176 < (el29.length : Int)))) rfl (fun hb202 => ?_) (fun hb202 => ?_)
    · clear hK198 hK200
      replace h := cond_t hb202 h
      refine WC_skip ?_
      refine hK201 _ _ ?_
      refine WC_seqK fun K203 hK203 => ?_
      refine WC_block ?_
      refine WC_seqK fun K204 hK204 => ?_
      refine WC_region ?_
      refine T0_q (v := (.int .i64 x176)) rfl (yl_move hs177) ?_
      have hq := bind_elim h
      clear h
      obtain ⟨el205, hel206, h⟩ := hq
      have hq := SlRd.at h173 hel206
      obtain ⟨cs207, hat208, hrd209⟩ := hq
      have hrd209 : cs207 = [(.int .i64 el205)] := hrd209
      subst hrd209
      refine T0_q (v := (.pointer (some (elemAddr v31 (x176 : Int).toNat 1)))) rfl (yl_indexAddr Try.underlying23 sz3 h173 hel206 hs174 hs177) ?_
      refine T0_q (v := (.int .i64 el205)) rfl (yl_load sc3 rfl hat208) ?_
      refine T0_q (v := (.int .i64 x176)) rfl (yl_assign rfl) ?_
      refine T0_q (v := (.int .i64 el205)) rfl (yl_assign rfl) ?_
      refine T0_nil ?_
      refine hK204 _ _ ?_
      refine WC_planX mixed (.p 0 (.p 1 (.p 3 (.p 4 (.p 5 (.q 6 (.e 2 (.p 7 (.p 8 (.p 9 .done)))))))))) (by kernel_rfl) ?_
      intro wd211 he212
      have e213 := e166.trans he212
      refine TX_p (v := (.int .i64 x171)) rfl rfl (fun w' => (yl_move hs172)) ?_
      refine TX_p (v := (.int .i64 el205)) rfl rfl (fun w' => (yl_move rfl)) ?_
      refine TX_p (v := v_p_box) rfl rfl (fun w' => (yl_move hs169)) ?_
      refine TX_p (v := (.int .i64 x176)) rfl rfl (fun w' => (yl_move rfl)) ?_
      have hq := bind_elim h
      clear h
      obtain ⟨el214, hel215, h⟩ := hq
      have hq := SlRd.at h168 hel215
      obtain ⟨cs216, hat217, hrd218⟩ := hq
      have hrd218 : cs216 = [(.int .i64 el214)] := hrd218
      subst hrd218
      refine TX_p (v := (.pointer (some (elemAddr v_p_box (x176 : Int).toNat 1)))) rfl rfl (fun w' => (yl_indexAddr Try.underlying23 sz3 h168 hel215 rfl rfl)) ?_
      refine TX_q (v := (.int .i64 el214)) rfl rfl (fun w' hS => (yl_load sc3 rfl (hat217.ext' (he212.trans hS)))) ?_
      have hq := bind_elim h
      clear h
      obtain ⟨r220, hr221, h⟩ := hq
      refine TX_e rfl rfl (eff_call Try.func58 nm58 rfl (ev1 rfl) (levitate_size_ok [] _ (LtL.nil _) el205 r220 hr221) ?_)
      rintro _ wd222 ⟨he223, rfl⟩
      have e224 := he212.trans he223
      have e225 := e213.trans he223
      refine ⟨he223, ?_⟩
      refine TX_p (v := (.int .i64 (w64 (r220 * el214)))) rfl rfl (fun w' => (yl_mul rfl rfl)) ?_
      refine TX_p (v := (.int .i64 (w64 (x171 + (w64 (r220 * el214)))))) rfl rfl (fun w' => (yl_add rfl rfl)) ?_
      refine TX_p (v := (.int .i64 (w64 (x171 + (w64 (r220 * el214)))))) rfl rfl (fun w' => (yl_assign rfl)) ?_
      refine TX_done ?_
      refine hK203 _ _ ?_
      refine WC_region ?_
      refine T0_q (v := (.int .i64 (w64 (x176 + 1)))) rfl (yl_add hs177 rfl) ?_
      refine T0_q (v := (.int .i64 (w64 (x176 + 1)))) rfl (yl_move rfl) ?_
      refine T0_nil ?_
      replace h := some_out h
      subst h
      refine hK197 _ _ _ rfl ?_
      exact ⟨w64 (x171 + (w64 (r220 * el214))), w64 (x176 + 1), rfl, hs167, hs169, hs170, rfl, hs174, hs175, rfl, (h168.ext e224), (h173.ext e224), (h178.ext e224), (h179.ext e224), (hB181.ext e224), e225⟩
    · clear hK197 hK200 hK201
      replace h := cond_f hb202 h
      refine WC_exit ?_
      replace h := some_out h
      subst h
      have ho := hx196 _ rfl
      subst ho
      refine hK198 _ _ ?_
      exact ⟨x171, rfl, hs167, hs170, hs172, h178, h179, hB181, e166⟩
  · clear hK17 hK19 hK8
    rintro ρ wd182 ⟨x186, rfl, hs184, hs185, hs187, h188, h189, hB191, e183⟩
    replace h := hn194
    refine hK18 _ _ ?_
    refine WC_seqK fun K226 hK226 => ?_
    refine WC_planX mixed (.p 0 (.p 1 (.p 2 (.p 5 (.p 6 (.p 8 (.q 3 (.q 7 (.p 9 (.q 10 (.e 4 (.p 11 (.p 12 .done))))))))))))) (by kernel_rfl) ?_
    intro wd227 he228
    have e229 := e183.trans he228
    refine TX_p (v := (.int .i64 x186)) rfl rfl (fun w' => (yl_move hs187)) ?_
    refine TX_p (v := (.pointer (some ⟨b9, 0, none⟩))) rfl rfl (fun w' => (yl_fa 0 Try.underlying89 rfl rfl ⟨2, sz25⟩ hs185 rfl)) ?_
    refine TX_p (v := (.pointer (some ⟨b9, 0, none⟩))) rfl rfl (fun w' => (yl_fa 0 Try.underlying25 rfl rfl ⟨0, sz3⟩ rfl rfl)) ?_
    refine TX_p (v := (.pointer (some ⟨b9, 0, none⟩))) rfl rfl (fun w' => (yl_fa 0 Try.underlying89 rfl rfl ⟨2, sz25⟩ hs185 rfl)) ?_
    refine TX_p (v := (.pointer (some ⟨b9, 2, none⟩))) rfl rfl (fun w' => (yl_fa 2 Try.underlying25 rfl rfl ⟨0, sz23⟩ rfl rfl)) ?_
    refine TX_p (v := (.int .i64 p_i)) rfl rfl (fun w' => (yl_move hs184)) ?_
    refine TX_q (v := (.int .i64 p_p.LevitatePlant.Den)) rfl rfl (fun w' hS => (yl_load sc3 rfl (Box.at (hB191.ext (he228.trans hS))))) ?_
    refine TX_q (v := v3) rfl rfl (fun w' hS => (yl_load sc23 rfl (At.drop (Box.at (hB191.ext (he228.trans hS))) 2))) ?_
    have hq := bind_elim h
    clear h
    obtain ⟨el230, hel231, h⟩ := hq
    have hq := SlRd.at h189 hel231
    obtain ⟨cs232, hat233, hrd234⟩ := hq
    have hrd234 : cs232 = [(.int .i64 el230)] := hrd234
    subst hrd234
    refine TX_p (v := (.pointer (some (elemAddr v3 (p_i : Int).toNat 1)))) rfl rfl (fun w' => (yl_indexAddr Try.underlying23 sz3 h189 hel231 rfl rfl)) ?_
    refine TX_q (v := (.int .i64 el230)) rfl rfl (fun w' hS => (yl_load sc3 rfl (hat233.ext' (he228.trans hS)))) ?_
    have hq := bind_elim h
    clear h
    obtain ⟨r236, hr237, h⟩ := hq
    refine TX_e rfl rfl (eff_call Try.func67 nm67 rfl (ev2 rfl rfl) (levitate_ceil_ok [] _ (LtL.nil _) x186 p_p.LevitatePlant.Den r236 hr237) ?_)
    rintro _ wd238 ⟨he239, rfl⟩
    have e241 := e229.trans he239
    refine ⟨he239, ?_⟩
    refine TX_p (v := (.int .i64 (w64 (r236 + el230)))) rfl rfl (fun w' => (yl_add rfl rfl)) ?_
    refine TX_p (v := (.int .i64 (w64 (r236 + el230)))) rfl rfl (fun w' => (yl_assign rfl)) ?_
    refine TX_done ?_
    refine hK226 _ _ ?_
    refine WC_ret ?_
    replace h := some_out h
    subst h
    exact ⟨[(.int .i64 (w64 (r236 + el230)))], ⟨rfl, trivial⟩, e241, rfl⟩

noncomputable def levitate_positive_s0 (p_f : (List (List Int))) (r4 : (List (List Arr3_U64))) : (Int) → Option ((Int) ⊕ (Bool ⊕ (Unit))) := fun x213 =>
  (bif (decide (x213 < (p_f.length : Int))) then (
    (Option.bind (levitate_numbers_spec (w64 (x213 + 1))) fun r231 =>
    (Option.bind (levitate_minor_spec r4 r231) fun r239 =>
    (Option.bind (levitate_wide_below_spec r239) fun r267 =>
    (Option.bind (bif (!r267) then levitate_wideOf_spec 0 else some default) fun r273 =>
    (bif (r267 || (decide (r239 = r273))) then (
      some (.inr (.inl false))
    ) else (
      some (.inl (w64 (x213 + 1)))
    ))
    )
    )
    )
    )
  ) else (
    some (.inr (.inr ()))
  ))
noncomputable def levitate_positive_spec (p_f : (List (List Int))) : Option Bool :=
  (Option.bind (levitate_widened_spec p_f) fun r4 =>
  (Option.bind (loop (levitate_positive_s0 p_f r4) 0) fun o217 => jn0 o217 fun (_ : Unit) =>
  some true
  )
  )
theorem levitate_positive_ok (L : List Value) (w : World) (hL : LtL L w) (v_p_f : Value) (p_f : (List (List Int))) (h_p_f : SlRd L w v_p_f p_f) (r : Bool) (h : levitate_positive_spec p_f = some r) :
    CallsTo Try.prog 77 [v_p_f] w (fun v w' => Ext w w' ∧ (.bool r) = v) := by
  have e0 : Ext w w := Chg.refl _ _
  refine callsTo_of_WC (n := 26) (rs := [.tmp 2]) Try.func77 rfl rfl rfl rfl rfl ?_
  refine WC_seqK fun K2 hK2 => ?_
  refine WC_region ?_
  refine T0_q (v := (.bool false)) rfl (yl_assign rfl) ?_
  refine T0_nil ?_
  refine hK2 _ _ ?_
  refine WC_seqK fun K3 hK3 => ?_
  refine WC_region ?_
  refine T0_q (v := v_p_f) rfl (yl_move rfl) ?_
  have hq := bind_elim h
  clear h
  obtain ⟨r4, hr5, h⟩ := hq
  refine T0_e rfl (eff_call Try.func84 nm84 rfl (ev1 rfl) (levitate_widened_ok L _ (hL.chg e0) v_p_f p_f h_p_f r4 hr5) ?_)
  rintro _ wd6 ⟨he7, v8, rfl, h9⟩
  have e10 := e0.trans he7
  refine T0_q (v := v8) rfl (yl_assign rfl) ?_
  refine T0_nil ?_
  refine hK3 _ _ ?_
  refine WC_seqK fun K12 hK12 => ?_
  refine WC_seqK fun K13 hK13 => ?_
  refine WC_region ?_
  refine T0_q (v := v_p_f) rfl (yl_move rfl) ?_
  refine T0_q (v := (.int .i64 (p_f.length : Int))) rfl (yl_lenR rfl Try.underlying47 h_p_f rfl) ?_
  refine T0_q (v := (.int .i64 0)) rfl (yl_move rfl) ?_
  refine T0_nil ?_
  refine hK13 _ _ ?_
  have hq := bind_elim h
  clear h
  obtain ⟨o217, hl218, hn219⟩ := hq
  refine WC_post (fun (ρ : Env) (wd215 : World) => .inr () = o217 ∧ Ext w wd215) ?_ ?_
  · clear hK12 hK13 hK2 hK3
    intro K223 hK223
    refine WC_block ?_
    refine WC_loopk (fun sv ρ wd208 => ∃ (x213 : Int), x213 = sv ∧ ρ 3 = v8 ∧ ρ 9 = (.int .i64 (p_f.length : Int)) ∧ ρ 10 = (.int .i64 x213) ∧ SlRd L wd208 v8 r4 ∧ Ext w wd208) hl218 ⟨0, rfl, rfl, rfl, rfl, h9, e10⟩ ?_
    rintro _ ρ wd208 ⟨x213, rfl, hs211, hs212, hs214, h210, e209⟩ x220 h hx221 K222 hK222
    refine WC_seqK fun K225 hK225 => ?_
    refine WC_region ?_
    refine T0_q (v := (.bool (decide (x213 < (p_f.length : Int))))) rfl (yl_lss hs214 hs212) ?_
    refine T0_nil ?_
    refine hK225 _ _ ?_
    refine WC_seqK fun K226 hK226 => ?_
    refine WC_cond (b := (decide (x213 < (p_f.length : Int)))) rfl (fun hb227 => ?_) (fun hb227 => ?_)
    · clear hK223 hK225
      replace h := cond_t hb227 h
      refine WC_skip ?_
      refine hK226 _ _ ?_
      refine WC_seqK fun K228 hK228 => ?_
      refine WC_block ?_
      refine WC_seqK fun K229 hK229 => ?_
      refine WC_region ?_
      refine T0_q (v := (.int .i64 x213)) rfl (yl_move hs214) ?_
      refine T0_q (v := (.int .i64 x213)) rfl (yl_assign rfl) ?_
      refine T0_nil ?_
      refine hK229 _ _ ?_
      refine WC_seqK fun K230 hK230 => ?_
      refine WC_region ?_
      refine T0_q (v := v8) rfl (yl_move hs211) ?_
      refine T0_q (v := (.int .i64 x213)) rfl (yl_move rfl) ?_
      refine T0_q (v := (.int .i64 (w64 (x213 + 1)))) rfl (yl_add rfl rfl) ?_
      have hq := bind_elim h
      clear h
      obtain ⟨r231, hr232, h⟩ := hq
      refine T0_e rfl (eff_call Try.func85 nm85 rfl (ev1 rfl) (levitate_numbers_ok L _ (hL.chg e209) (w64 (x213 + 1)) r231 hr232) ?_)
      rintro _ wd233 ⟨he234, v235, rfl, h236⟩
      have e237 := e209.trans he234
      have hq := bind_elim h
      clear h
      obtain ⟨r239, hr240, h⟩ := hq
      refine T0_e rfl (eff_call Try.func86 nm86 rfl (ev2 rfl rfl) (levitate_minor_ok [] _ (LtL.nil _) v8 r4 ((h210.ext he234).sub (fun _ h => by cases h)) v235 r231 (h236.sub (fun _ h => by cases h)) r239 hr240) ?_)
      rintro _ wd241 ⟨he242, cs243, rfl, hrd244⟩
      have e245 := he234.trans he242
      have e246 := e237.trans he242
      have hrd244 : cs243 = [(.int .u64 r239.e0), (.int .u64 r239.e1), (.int .u64 r239.e2)] := hrd244
      subst hrd244
      refine T0_e rfl (eff_allocZ zi120 ?_)
      intro b247 wd248 hb249 he250 hB251
      have hbf252 := bfresh e246 hb249
      have h253 := (h210.ext e245).step (add_box he250 hb249)
      have e255 := e246.trans he250
      refine T0_e rfl (eff_storeC (vs := [(.int .u64 r239.e0), (.int .u64 r239.e1), (.int .u64 r239.e2)]) (cs' := [(.int .u64 r239.e0), (.int .u64 r239.e1), (.int .u64 r239.e2)]) sz120 rfl rfl rfl rfl hB251 rfl (oc_cons rfl (oc_cons rfl (oc_cons rfl oc_nil))) rfl ?_)
      intro wd257 hc258 hB259
      have h260 := h253.step (Stepp.chg_mem hc258 mem0)
      have e262 := chg_box e255 hc258 hbf252
      refine T0_nil ?_
      refine hK230 _ _ ?_
      refine WC_seqK fun K263 hK263 => ?_
      refine WC_planX mixed (.q 0 (.e 1 (.p 2 (.q 3 (.e 4 (.p 5 (.p 6 .done))))))) (by kernel_rfl) ?_
      intro wd264 he265
      have e266 := e262.trans he265
      refine TX_q (v := (.agg (List.toArray [(.int .u64 r239.e0), (.int .u64 r239.e1), (.int .u64 r239.e2)]))) rfl rfl (fun w' hS => (yl_loadA (cs := [(.int .u64 r239.e0), (.int .u64 r239.e1), (.int .u64 r239.e2)]) ag120 rfl (Box.at (hB259.ext (he265.trans hS))))) ?_
      have hq := bind_elim h
      clear h
      obtain ⟨r267, hr268, h⟩ := hq
      refine TX_e rfl rfl (eff_call Try.func82 nm82 rfl (ev1 rfl) (levitate_wide_below_ok [] _ (LtL.nil _) [(.int .u64 r239.e0), (.int .u64 r239.e1), (.int .u64 r239.e2)] r239 rfl r267 hr268) ?_)
      rintro _ wd269 ⟨he270, rfl⟩
      have e271 := he265.trans he270
      have e272 := e266.trans he270
      refine ⟨he270, ?_⟩
      refine TX_p (v := (.bool r267)) rfl rfl (fun w' => (yl_move rfl)) ?_
      refine TX_gq (v := (.agg (List.toArray [(.int .u64 r239.e0), (.int .u64 r239.e1), (.int .u64 r239.e2)]))) (!r267) rfl (wanted_f rfl rfl rfl rfl) (fun w' hS hg => (yl_loadA (cs := [(.int .u64 r239.e0), (.int .u64 r239.e1), (.int .u64 r239.e2)]) ag120 rfl (Box.at (hB259.ext (e271.trans hS))))) ?_
      have hq := bind_elim h
      clear h
      obtain ⟨r273, hr274, h⟩ := hq
      refine TX_ges (!r267) (.agg (List.toArray [(.int .u64 r273.e0), (.int .u64 r273.e1), (.int .u64 r273.e2)])) rfl (wanted_f rfl rfl rfl rfl) (fun hg => eff_call Try.func79 nm79 rfl (ev1 rfl) (levitate_wideOf_ok [] _ (LtL.nil _) 0 r273 (cond_t hg hr274)) (by rintro _ wd275 ⟨he276, cs277, rfl, hrd278⟩; have hrd278 : cs277 = [(.int .u64 r273.e0), (.int .u64 r273.e1), (.int .u64 r273.e2)] := hrd278; subst hrd278; exact ⟨rfl, he276⟩)) ?_
      intro wd275 he276
      have e279 := e271.trans he276
      have e280 := e272.trans he276
      refine ⟨he276, ?_⟩
      refine TX_gp (v := (.bool (decide (r239 = r273)))) (!r267) rfl (wanted_f rfl rfl rfl rfl) (fun w' hg => (yl_eqlS eg120 (gd_true hg) (gd_true hg) (eqs120 r239 r273 _))) ?_
      refine TX_p (v := (.bool (r267 || (decide (r239 = r273))))) rfl rfl (fun w' => (yl_or rfl rfl (fun hb => (gd_true (not_t hb))))) ?_
      refine TX_done ?_
      refine hK263 _ _ ?_
      refine WC_cond (b := (r267 || (decide (r239 = r273)))) rfl (fun hb281 => ?_) (fun hb281 => ?_)
      · clear hK222 hK226 hK228 hK229 hK230 hK263
        replace h := cond_t hb281 h
        refine WC_seqK fun K282 hK282 => ?_
        refine WC_region ?_
        refine T0_q (v := (.bool false)) rfl (yl_assign rfl) ?_
        refine T0_nil ?_
        refine hK282 _ _ ?_
        refine WC_ret ?_
        replace h := some_out h
        subst h
        have ho := hx221 _ rfl
        subst ho
        replace h := jn0_inl hn219
        replace h := some_out h
        subst h
        exact ⟨[(.bool false)], ⟨rfl, trivial⟩, e280, rfl⟩
      · clear hK226 hK229 hK230 hK263
        replace h := cond_f hb281 h
        refine WC_skip ?_
        refine hK228 _ _ ?_
        refine WC_region ?_
        refine T0_q (v := (.int .i64 (w64 (x213 + 1)))) rfl (yl_add hs214 rfl) ?_
        refine T0_q (v := (.int .i64 (w64 (x213 + 1)))) rfl (yl_move rfl) ?_
        refine T0_nil ?_
        replace h := some_out h
        subst h
        refine hK222 _ _ _ rfl ?_
        exact ⟨w64 (x213 + 1), rfl, hs211, hs212, rfl, ((h260.ext e279).sub (sub_skip (sub_refl _))), e280⟩
    · clear hK222 hK225 hK226
      replace h := cond_f hb227 h
      refine WC_exit ?_
      replace h := some_out h
      subst h
      have ho := hx221 _ rfl
      subst ho
      refine hK223 _ _ ?_
      exact ⟨rfl, e209⟩
  · clear hK13 hK2 hK3
    rintro ρ wd215 ⟨rfl, e216⟩
    replace h := jn0_inr hn219
    refine hK12 _ _ ?_
    refine WC_seqK fun K283 hK283 => ?_
    refine WC_region ?_
    refine T0_q (v := (.bool true)) rfl (yl_assign rfl) ?_
    refine T0_nil ?_
    refine hK283 _ _ ?_
    refine WC_ret ?_
    replace h := some_out h
    subst h
    exact ⟨[(.bool true)], ⟨rfl, trivial⟩, e216, rfl⟩

noncomputable def levitate_plant_lessens_s0 (el28 : (List (List Int))) (p_pmfratepmfraterowscolumndiownlknimagearow : (List (List Int))) (x6035 : Int) (x7520 : Int) : (Int × Int) → Option ((Int × Int) ⊕ (Int)) := fun (x7871, x7882) =>
  (bif (decide (x7882 < (p_pmfratepmfraterowscolumndiownlknimagearow.length : Int))) then (
    (Option.bind (idx p_pmfratepmfraterowscolumndiownlknimagearow x7882) fun el7939 =>
    (Option.bind (levitate_plant_lessens_1_spec x6035 el28) fun r7951 =>
    (Option.bind (idx r7951 x7882) fun el7960 =>
    (Option.bind (levitate_plant_lessens_1_spec x7520 el28) fun r7966 =>
    (Option.bind (levitate_dot_spec el7939 r7966) fun r7975 =>
    some (.inl (w64 (x7871 + (w64 (el7960 * r7975))), w64 (x7882 + 1)))
    )
    )
    )
    )
    )
  ) else (
    some (.inr x7871)
  ))
noncomputable def levitate_plant_lessens_s1 (el28 : (List (List Int))) (el6078 : (List Int)) (p_Listappend : levitate_plant) (p_a3 : Arr2_Int) (p_pmfratepmfraterowscolumndiownlknimagearow : (List (List Int))) (x6035 : Int) : ((List Int) × Int) → Option (((List Int) × Int) ⊕ ((List Int))) := fun (x7509, x7520) =>
  (bif (decide (x7520 < (el6078.length : Int))) then (
    (Option.bind (idx el6078 x7520) fun el7590 =>
    (Option.bind (loop (levitate_plant_lessens_s0 el28 p_pmfratepmfraterowscolumndiownlknimagearow x6035 x7520) (0, 0)) fun (x7908 : Int) =>
    (Option.bind (app x7509 ([w64 ((w64 ((w64 ((w64 (p_a3.e0 * p_Listappend.LevitatePlant.Den)) * p_Listappend.LevitatePlant.Den)) * el7590)) - (w64 (p_a3.e1 * x7908)))] : List Int)) fun zs7996 =>
    some (.inl (zs7996, w64 (x7520 + 1)))
    )
    )
    )
  ) else (
    some (.inr x7509)
  ))
noncomputable def levitate_plant_lessens_s2 (el28 : (List (List Int))) (p_Listappend : levitate_plant) (p_a3 : Arr2_Int) (p_pmfratepmfraterowscolumndiownlknimagearow : (List (List Int))) : ((List (List Int)) × Int) → Option (((List (List Int)) × Int) ⊕ ((List (List Int)))) := fun (x6028, x6035) =>
  (bif (decide (x6035 < (p_pmfratepmfraterowscolumndiownlknimagearow.length : Int))) then (
    (Option.bind (idx p_pmfratepmfraterowscolumndiownlknimagearow x6035) fun el6078 =>
    (Option.bind (loop (levitate_plant_lessens_s1 el28 el6078 p_Listappend p_a3 p_pmfratepmfraterowscolumndiownlknimagearow x6035) (([] : List Int), 0)) fun (x7556 : (List Int)) =>
    (Option.bind (app x6028 ([x7556] : List (List Int))) fun zs8034 =>
    some (.inl (zs8034, w64 (x6035 + 1)))
    )
    )
    )
  ) else (
    some (.inr x6028)
  ))
noncomputable def levitate_plant_lessens_spec (p_Listappend : levitate_plant) (p_String : Int) (p_pmfratepmfraterowscolumndiownlknimagearow : (List (List Int))) (p_a3 : Arr2_Int) : Option Bool :=
  (Option.bind (idx p_Listappend.LevitatePlant.Maps p_String) fun el28 =>
  (Option.bind (loop (levitate_plant_lessens_s2 el28 p_Listappend p_a3 p_pmfratepmfraterowscolumndiownlknimagearow) (([] : List (List Int)), 0)) fun (x6060 : (List (List Int))) =>
  (Option.bind (levitate_never_spec x6060) fun r8058 =>
  some r8058
  )
  )
  )
theorem levitate_plant_lessens_ok (L : List Value) (w : World) (hL : LtL L w) (cs_p_Listappend : List Value) (p_Listappend : levitate_plant) (h_p_Listappend : Rep.rd L w cs_p_Listappend p_Listappend) (p_String : Int) (v_p_pmfratepmfraterowscolumndiownlknimagearow : Value) (p_pmfratepmfraterowscolumndiownlknimagearow : (List (List Int))) (h_p_pmfratepmfraterowscolumndiownlknimagearow : SlRd L w v_p_pmfratepmfraterowscolumndiownlknimagearow p_pmfratepmfraterowscolumndiownlknimagearow) (cs_p_a3 : List Value) (p_a3 : Arr2_Int) (h_p_a3 : Rep.rd L w cs_p_a3 p_a3) (r : Bool) (h : levitate_plant_lessens_spec p_Listappend p_String p_pmfratepmfraterowscolumndiownlknimagearow p_a3 = some r) :
    CallsTo Try.prog 78 [(.agg cs_p_Listappend.toArray), (.int .i64 p_String), v_p_pmfratepmfraterowscolumndiownlknimagearow, (.agg cs_p_a3.toArray)] w (fun v w' => Ext w w' ∧ (.bool r) = v) := by
  have e0 : Ext w w := Chg.refl _ _
  obtain ⟨v1, v3, h2, h4, rfl⟩ := h_p_Listappend
  have h_p_a3 : cs_p_a3 = [(.int .i64 p_a3.e0), (.int .i64 p_a3.e1)] := h_p_a3
  subst h_p_a3
  refine callsTo_of_WC (n := 91) (rs := [.tmp 8]) Try.func78 rfl rfl rfl rfl rfl ?_
  refine WC_seqK fun K8 hK8 => ?_
  refine WC_region ?_
  refine T0_e rfl (eff_boxC (cs := [(.int .i64 p_Listappend.LevitatePlant.Den), v1, v3]) rfl rfl ?_)
  intro b9 wd10 hb11 he12 hB13
  have e15 := e0.trans he12
  refine T0_e rfl (eff_boxC (cs := [(.int .i64 p_a3.e0), (.int .i64 p_a3.e1)]) rfl rfl ?_)
  intro b17 wd18 hb19 he20 hB21
  have e24 := he12.trans he20
  have e25 := e15.trans he20
  refine T0_q (v := (.bool false)) rfl (yl_assign rfl) ?_
  refine T0_nil ?_
  refine hK8 _ _ ?_
  refine WC_seqK fun K27 hK27 => ?_
  refine WC_region ?_
  refine T0_q (v := (.pointer (some ⟨b9, 0, none⟩))) rfl (yl_fa 0 Try.underlying89 rfl rfl ⟨2, sz25⟩ rfl rfl) ?_
  refine T0_q (v := (.pointer (some ⟨b9, 1, none⟩))) rfl (yl_fa 1 Try.underlying25 rfl rfl ⟨0, sz22⟩ rfl rfl) ?_
  refine T0_q (v := v1) rfl (yl_load sc22 rfl (At.drop (Box.at (hB13.ext he20)) 1)) ?_
  refine T0_q (v := (.int .i64 p_String)) rfl (yl_move rfl) ?_
  have hq := bind_elim h
  clear h
  obtain ⟨el28, hel29, h⟩ := hq
  have hq := SlRd.at h2 hel29
  obtain ⟨cs32, hat33, hrd34⟩ := hq
  obtain ⟨v30, rfl, h31⟩ := hrd34
  refine T0_q (v := (.pointer (some (elemAddr v1 (p_String : Int).toNat 1)))) rfl (yl_indexAddr Try.underlying22 sz47 h2 hel29 rfl rfl) ?_
  refine T0_q (v := v30) rfl (yl_load sc47 rfl (hat33.ext' e24)) ?_
  refine T0_e rfl (eff_allocZ zi47 ?_)
  intro b37 wd38 hb39 he40 hB41
  have hn42 : b37 ≠ b9 := box_ne (hB13.ext he20) hb39
  have hn43 : b37 ≠ b17 := box_ne hB21 hb39
  have hbf44 := bfresh e25 hb39
  have h45 := (h2.ext e24).step (add_box he40 hb39)
  have h46 := (h4.ext e24).step (add_box he40 hb39)
  have h47 := (h_p_pmfratepmfraterowscolumndiownlknimagearow.ext e24).step (add_box he40 hb39)
  have h48 := (h31.ext e24).step (add_box he40 hb39)
  have e50 := he20.trans he40
  have e51 := e25.trans he40
  refine T0_e rfl (eff_storeC (vs := [v30]) (cs' := [v30]) sz47 (cells_one h48.one1) rfl rfl rfl hB41 rfl (oc_cons h48.one1 oc_nil) rfl ?_)
  intro wd53 hc54 hB55
  have h56 := h45.step (Stepp.chg_mem hc54 mem0)
  have h57 := h46.step (Stepp.chg_mem hc54 mem0)
  have h58 := h47.step (Stepp.chg_mem hc54 mem0)
  have h59 := (hB13.ext e50).chg hc54 (avoidb hn42)
  have h60 := (hB21.ext he40).chg hc54 (avoidb hn43)
  have h61 := h48.step (Stepp.chg_mem hc54 mem0)
  have e62 := chg_box e51 hc54 hbf44
  refine T0_nil ?_
  refine hK27 _ _ ?_
  refine WC_seqK fun K63 hK63 => ?_
  refine WC_region ?_
  refine T0_q (v := (.func (.func 105) #[] (List.toArray [(.pointer (some ⟨b37, 0, none⟩))]))) rfl (yl_makeFunc (ev1 rfl)) ?_
  refine T0_q (v := (.func (.func 105) #[] (List.toArray [(.pointer (some ⟨b37, 0, none⟩))]))) rfl (yl_assign rfl) ?_
  refine T0_nil ?_
  refine hK63 _ _ ?_
  refine WC_seqK fun K64 hK64 => ?_
  refine WC_region ?_
  refine T0_q (v := (.slice none 0 0)) rfl (yl_assign rfl) ?_
  refine T0_nil ?_
  refine hK64 _ _ ?_
  refine WC_seqK fun K65 hK65 => ?_
  refine WC_seqK fun K66 hK66 => ?_
  refine WC_region ?_
  refine T0_q (v := v_p_pmfratepmfraterowscolumndiownlknimagearow) rfl (yl_move rfl) ?_
  refine T0_q (v := (.int .i64 (p_pmfratepmfraterowscolumndiownlknimagearow.length : Int))) rfl (yl_lenR rfl Try.underlying47 h58 rfl) ?_
  refine T0_q (v := (.int .i64 0)) rfl (yl_move rfl) ?_
  refine T0_nil ?_
  refine hK66 _ _ ?_
  have h6049 := h56.step (add_nil _)
  have h6050 := h57.step (add_nil _)
  have h6051 := h58.step (add_nil _)
  have h6052 := h61.step (add_nil _)
  have h6054 : Own 23 ((.slice none 0 0) :: (.pointer (some ⟨b37, 0, none⟩)) :: L) wd53 (.slice none 0 0) ([] : List (List Int)) := Own.nil _ _ _
  have hq := bind_elim h
  clear h
  obtain ⟨o6065, hl6066, hn6067⟩ := hq
  refine WC_post (fun (ρ : Env) (wd6056 : World) => ∃ (x6060 : (List (List Int))) (v6059 : Value), x6060 = o6065 ∧ ρ 11 = v6059 ∧ Own 23 (v6059 :: L) wd6056 v6059 x6060 ∧ (∀ b, blk v6059 = some b → w.heap.size ≤ b) ∧ Ext w wd6056) ?_ ?_
  · clear hK27 hK63 hK64 hK65 hK66 hK8
    intro K6071 hK6071
    refine WC_block ?_
    refine WC_loopk (fun sv ρ wd6019 => ∃ (x6028 : (List (List Int))) (x6035 : Int) (v6027 : Value), (x6028, x6035) = sv ∧ ρ 2 = v_p_pmfratepmfraterowscolumndiownlknimagearow ∧ ρ 4 = (.pointer (some ⟨b9, 0, none⟩)) ∧ ρ 7 = (.pointer (some ⟨b17, 0, none⟩)) ∧ ρ 10 = (.func (.func 105) #[] (List.toArray [(.pointer (some ⟨b37, 0, none⟩))])) ∧ ρ 11 = v6027 ∧ ρ 27 = v_p_pmfratepmfraterowscolumndiownlknimagearow ∧ ρ 28 = (.int .i64 (p_pmfratepmfraterowscolumndiownlknimagearow.length : Int)) ∧ ρ 29 = (.int .i64 x6035) ∧ SlRd (v6027 :: (.pointer (some ⟨b37, 0, none⟩)) :: L) wd6019 v_p_pmfratepmfraterowscolumndiownlknimagearow p_pmfratepmfraterowscolumndiownlknimagearow ∧ SlRd (v6027 :: (.pointer (some ⟨b37, 0, none⟩)) :: L) wd6019 v30 el28 ∧ SlRd (v6027 :: (.pointer (some ⟨b37, 0, none⟩)) :: L) wd6019 v1 p_Listappend.LevitatePlant.Maps ∧ SlRd (v6027 :: (.pointer (some ⟨b37, 0, none⟩)) :: L) wd6019 v3 p_Listappend.LevitatePlant.Noise ∧ Box wd6019 b17 [(.int .i64 p_a3.e0), (.int .i64 p_a3.e1)] 48 ∧ Box wd6019 b37 [v30] 47 ∧ Box wd6019 b9 [(.int .i64 p_Listappend.LevitatePlant.Den), v1, v3] 89 ∧ Own 23 (v6027 :: (.pointer (some ⟨b37, 0, none⟩)) :: L) wd6019 v6027 x6028 ∧ (∀ b, blk v6027 = some b → w.heap.size ≤ b) ∧ (blk v6027 ≠ some b17) ∧ (blk v6027 ≠ some b37) ∧ (blk v6027 ≠ some b9) ∧ Ext w wd6019) hl6066 ⟨([] : List (List Int)), 0, (.slice none 0 0), rfl, rfl, rfl, rfl, rfl, rfl, rfl, rfl, rfl, h6051, h6052, h6049, h6050, h60, hB55, h59, h6054, (fun b h => blk_nil b h), (fun h => by cases h), (fun h => by cases h), (fun h => by cases h), e62⟩ ?_
    rintro _ ρ wd6019 ⟨x6028, x6035, v6027, rfl, hs6022, hs6023, hs6024, hs6025, hs6032, hs6033, hs6034, hs6036, h6021, h6039, h6042, h6043, hB6038, hB6041, hB6045, h6030, hf6031, hn6046, hn6047, hn6048, e6020⟩ x6068 h hx6069 K6070 hK6070
    refine WC_seqK fun K6073 hK6073 => ?_
    refine WC_region ?_
    refine T0_q (v := (.bool (decide (x6035 < (p_pmfratepmfraterowscolumndiownlknimagearow.length : Int))))) rfl (yl_lss hs6036 hs6034) ?_
    refine T0_nil ?_
    refine hK6073 _ _ ?_
    refine WC_seqK fun K6074 hK6074 => ?_
    refine WC_cond (b := (decide (x6035 < (p_pmfratepmfraterowscolumndiownlknimagearow.length : Int)))) rfl (fun hb6075 => ?_) (fun hb6075 => ?_)
    · clear hK6071 hK6073
      replace h := cond_t hb6075 h
      refine WC_skip ?_
      refine hK6074 _ _ ?_
      refine WC_seqK fun K6076 hK6076 => ?_
      refine WC_block ?_
      refine WC_seqK fun K6077 hK6077 => ?_
      refine WC_region ?_
      refine T0_q (v := (.int .i64 x6035)) rfl (yl_move hs6036) ?_
      have hq := bind_elim h
      clear h
      obtain ⟨el6078, hel6079, h⟩ := hq
      have hq := SlRd.at h6021 hel6079
      obtain ⟨cs6082, hat6083, hrd6084⟩ := hq
      obtain ⟨v6080, rfl, h6081⟩ := hrd6084
      refine T0_q (v := (.pointer (some (elemAddr v_p_pmfratepmfraterowscolumndiownlknimagearow (x6035 : Int).toNat 1)))) rfl (yl_indexAddr Try.underlying47 sz23 h6021 hel6079 hs6033 hs6036) ?_
      refine T0_q (v := v6080) rfl (yl_load sc23 rfl hat6083) ?_
      refine T0_q (v := (.int .i64 x6035)) rfl (yl_assign rfl) ?_
      refine T0_q (v := v6080) rfl (yl_assign rfl) ?_
      refine T0_nil ?_
      refine hK6077 _ _ ?_
      refine WC_seqK fun K6087 hK6087 => ?_
      refine WC_region ?_
      refine T0_q (v := (.slice none 0 0)) rfl (yl_assign rfl) ?_
      refine T0_nil ?_
      refine hK6087 _ _ ?_
      refine WC_seqK fun K6088 hK6088 => ?_
      refine WC_seqK fun K6089 hK6089 => ?_
      refine WC_region ?_
      refine T0_q (v := v6080) rfl (yl_move rfl) ?_
      refine T0_q (v := (.int .i64 (el6078.length : Int))) rfl (yl_lenR rfl Try.underlying23 h6081 rfl) ?_
      refine T0_q (v := (.int .i64 0)) rfl (yl_move rfl) ?_
      refine T0_nil ?_
      refine hK6089 _ _ ?_
      have h7535 := h6021.step (add_nil _)
      have h7536 := h6030.step (add_nil _) (Chg.refl [] _) (fun _ _ => Avoids.nil _)
      have h7537 := h6039.step (add_nil _)
      have h7538 := h6042.step (add_nil _)
      have h7539 := h6043.step (add_nil _)
      have h7540 := h6081.step (add_nil _)
      have h7542 : Own 3 ((.slice none 0 0) :: v6027 :: (.pointer (some ⟨b37, 0, none⟩)) :: L) wd6019 (.slice none 0 0) ([] : List Int) := Own.nil _ _ _
      have hq := bind_elim h
      clear h
      obtain ⟨o7577, hl7578, hn7579⟩ := hq
      refine WC_post (fun (ρ : Env) (wd7544 : World) => ∃ (x7556 : (List Int)) (v7555 : Value), x7556 = o7577 ∧ ρ 2 = v_p_pmfratepmfraterowscolumndiownlknimagearow ∧ ρ 4 = (.pointer (some ⟨b9, 0, none⟩)) ∧ ρ 7 = (.pointer (some ⟨b17, 0, none⟩)) ∧ ρ 10 = (.func (.func 105) #[] (List.toArray [(.pointer (some ⟨b37, 0, none⟩))])) ∧ ρ 11 = v6027 ∧ ρ 14 = v7555 ∧ ρ 27 = v_p_pmfratepmfraterowscolumndiownlknimagearow ∧ ρ 28 = (.int .i64 (p_pmfratepmfraterowscolumndiownlknimagearow.length : Int)) ∧ ρ 29 = (.int .i64 x6035) ∧ SlRd (v6027 :: v7555 :: (.pointer (some ⟨b37, 0, none⟩)) :: L) wd7544 v_p_pmfratepmfraterowscolumndiownlknimagearow p_pmfratepmfraterowscolumndiownlknimagearow ∧ SlRd (v6027 :: v7555 :: (.pointer (some ⟨b37, 0, none⟩)) :: L) wd7544 v30 el28 ∧ SlRd (v6027 :: v7555 :: (.pointer (some ⟨b37, 0, none⟩)) :: L) wd7544 v1 p_Listappend.LevitatePlant.Maps ∧ SlRd (v6027 :: v7555 :: (.pointer (some ⟨b37, 0, none⟩)) :: L) wd7544 v3 p_Listappend.LevitatePlant.Noise ∧ Box wd7544 b17 [(.int .i64 p_a3.e0), (.int .i64 p_a3.e1)] 48 ∧ Box wd7544 b37 [v30] 47 ∧ Box wd7544 b9 [(.int .i64 p_Listappend.LevitatePlant.Den), v1, v3] 89 ∧ Own 23 (v6027 :: v7555 :: (.pointer (some ⟨b37, 0, none⟩)) :: L) wd7544 v6027 x6028 ∧ Own 3 (v6027 :: v7555 :: (.pointer (some ⟨b37, 0, none⟩)) :: L) wd7544 v7555 x7556 ∧ (∀ b, blk v7555 = some b → w.heap.size ≤ b) ∧ (blk v7555 ≠ some b17) ∧ (blk v7555 ≠ some b37) ∧ (blk v7555 ≠ some b9) ∧ (∀ b, blk v6027 = some b → blk v7555 ≠ some b) ∧ Ext w wd7544) ?_ ?_
      · clear hK6070 hK6074 hK6076 hK6077 hK6087 hK6088 hK6089
        intro K7583 hK7583
        refine WC_block ?_
        refine WC_loopk (fun sv ρ wd7496 => ∃ (x7509 : (List Int)) (x7520 : Int) (v7508 : Value), (x7509, x7520) = sv ∧ ρ 2 = v_p_pmfratepmfraterowscolumndiownlknimagearow ∧ ρ 4 = (.pointer (some ⟨b9, 0, none⟩)) ∧ ρ 7 = (.pointer (some ⟨b17, 0, none⟩)) ∧ ρ 10 = (.func (.func 105) #[] (List.toArray [(.pointer (some ⟨b37, 0, none⟩))])) ∧ ρ 11 = v6027 ∧ ρ 12 = (.int .i64 x6035) ∧ ρ 14 = v7508 ∧ ρ 27 = v_p_pmfratepmfraterowscolumndiownlknimagearow ∧ ρ 28 = (.int .i64 (p_pmfratepmfraterowscolumndiownlknimagearow.length : Int)) ∧ ρ 29 = (.int .i64 x6035) ∧ ρ 34 = v6080 ∧ ρ 35 = (.int .i64 (el6078.length : Int)) ∧ ρ 36 = (.int .i64 x7520) ∧ SlRd (v6027 :: v7508 :: (.pointer (some ⟨b37, 0, none⟩)) :: L) wd7496 v_p_pmfratepmfraterowscolumndiownlknimagearow p_pmfratepmfraterowscolumndiownlknimagearow ∧ SlRd (v6027 :: v7508 :: (.pointer (some ⟨b37, 0, none⟩)) :: L) wd7496 v6080 el6078 ∧ SlRd (v6027 :: v7508 :: (.pointer (some ⟨b37, 0, none⟩)) :: L) wd7496 v30 el28 ∧ SlRd (v6027 :: v7508 :: (.pointer (some ⟨b37, 0, none⟩)) :: L) wd7496 v1 p_Listappend.LevitatePlant.Maps ∧ SlRd (v6027 :: v7508 :: (.pointer (some ⟨b37, 0, none⟩)) :: L) wd7496 v3 p_Listappend.LevitatePlant.Noise ∧ Box wd7496 b17 [(.int .i64 p_a3.e0), (.int .i64 p_a3.e1)] 48 ∧ Box wd7496 b37 [v30] 47 ∧ Box wd7496 b9 [(.int .i64 p_Listappend.LevitatePlant.Den), v1, v3] 89 ∧ Own 23 (v6027 :: v7508 :: (.pointer (some ⟨b37, 0, none⟩)) :: L) wd7496 v6027 x6028 ∧ Own 3 (v6027 :: v7508 :: (.pointer (some ⟨b37, 0, none⟩)) :: L) wd7496 v7508 x7509 ∧ (∀ b, blk v7508 = some b → w.heap.size ≤ b) ∧ (blk v7508 ≠ some b17) ∧ (blk v7508 ≠ some b37) ∧ (blk v7508 ≠ some b9) ∧ (∀ b, blk v6027 = some b → blk v7508 ≠ some b) ∧ Ext w wd7496) hl7578 ⟨([] : List Int), 0, (.slice none 0 0), rfl, hs6022, hs6023, hs6024, hs6025, hs6032, rfl, rfl, hs6033, hs6034, hs6036, rfl, rfl, rfl, (h7535.sub (sub_cons (memS mem0) (sub_cons mem0 (sub_cons (memS (memS mem0)) (sub_skip (sub_skip (sub_skip (sub_refl _)))))))), (h7540.sub (sub_cons (memS mem0) (sub_cons mem0 (sub_cons (memS (memS mem0)) (sub_skip (sub_skip (sub_skip (sub_refl _)))))))), (h7537.sub (sub_cons (memS mem0) (sub_cons mem0 (sub_cons (memS (memS mem0)) (sub_skip (sub_skip (sub_skip (sub_refl _)))))))), (h7538.sub (sub_cons (memS mem0) (sub_cons mem0 (sub_cons (memS (memS mem0)) (sub_skip (sub_skip (sub_skip (sub_refl _)))))))), (h7539.sub (sub_cons (memS mem0) (sub_cons mem0 (sub_cons (memS (memS mem0)) (sub_skip (sub_skip (sub_skip (sub_refl _)))))))), hB6038, hB6041, hB6045, (h7536.sub (sub_cons (memS mem0) (sub_cons mem0 (sub_cons (memS (memS mem0)) (sub_skip (sub_skip (sub_skip (sub_refl _)))))))), (h7542.sub (sub_cons (memS mem0) (sub_cons mem0 (sub_cons (memS (memS mem0)) (sub_skip (sub_skip (sub_skip (sub_refl _)))))))), (fun b h => blk_nil b h), (fun h => by cases h), (fun h => by cases h), (fun h => by cases h), (fun _ _ h => by cases h), e6020⟩ ?_
        rintro _ ρ wd7496 ⟨x7509, x7520, v7508, rfl, hs7499, hs7500, hs7501, hs7502, hs7505, hs7506, hs7513, hs7514, hs7515, hs7516, hs7518, hs7519, hs7521, h7498, h7517, h7524, h7527, h7528, hB7523, hB7526, hB7530, h7504, h7511, hf7512, hn7531, hn7532, hn7533, hn7534, e7497⟩ x7580 h hx7581 K7582 hK7582
        refine WC_seqK fun K7585 hK7585 => ?_
        refine WC_region ?_
        refine T0_q (v := (.bool (decide (x7520 < (el6078.length : Int))))) rfl (yl_lss hs7521 hs7519) ?_
        refine T0_nil ?_
        refine hK7585 _ _ ?_
        refine WC_seqK fun K7586 hK7586 => ?_
        refine WC_cond (b := (decide (x7520 < (el6078.length : Int)))) rfl (fun hb7587 => ?_) (fun hb7587 => ?_)
        · clear hK7583 hK7585
          replace h := cond_t hb7587 h
          refine WC_skip ?_
          refine hK7586 _ _ ?_
          refine WC_seqK fun K7588 hK7588 => ?_
          refine WC_block ?_
          refine WC_seqK fun K7589 hK7589 => ?_
          refine WC_region ?_
          refine T0_q (v := (.int .i64 x7520)) rfl (yl_move hs7521) ?_
          have hq := bind_elim h
          clear h
          obtain ⟨el7590, hel7591, h⟩ := hq
          have hq := SlRd.at h7517 hel7591
          obtain ⟨cs7592, hat7593, hrd7594⟩ := hq
          have hrd7594 : cs7592 = [(.int .i64 el7590)] := hrd7594
          subst hrd7594
          refine T0_q (v := (.pointer (some (elemAddr v6080 (x7520 : Int).toNat 1)))) rfl (yl_indexAddr Try.underlying23 sz3 h7517 hel7591 hs7518 hs7521) ?_
          refine T0_q (v := (.int .i64 el7590)) rfl (yl_load sc3 rfl hat7593) ?_
          refine T0_q (v := (.int .i64 x7520)) rfl (yl_assign rfl) ?_
          refine T0_q (v := (.int .i64 el7590)) rfl (yl_assign rfl) ?_
          refine T0_nil ?_
          refine hK7589 _ _ ?_
          refine WC_seqK fun K7596 hK7596 => ?_
          refine WC_region ?_
          refine T0_q (v := (.int .i64 0)) rfl (yl_assign rfl) ?_
          refine T0_nil ?_
          refine hK7596 _ _ ?_
          refine WC_seqK fun K7597 hK7597 => ?_
          refine WC_seqK fun K7598 hK7598 => ?_
          refine WC_region ?_
          refine T0_q (v := v_p_pmfratepmfraterowscolumndiownlknimagearow) rfl (yl_move hs7499) ?_
          refine T0_q (v := (.int .i64 (p_pmfratepmfraterowscolumndiownlknimagearow.length : Int))) rfl (yl_lenR rfl Try.underlying47 h7498 rfl) ?_
          refine T0_q (v := (.int .i64 0)) rfl (yl_move rfl) ?_
          refine T0_nil ?_
          refine hK7598 _ _ ?_
          have hq := bind_elim h
          clear h
          obtain ⟨o7926, hl7927, hn7928⟩ := hq
          refine WC_post (fun (ρ : Env) (wd7893 : World) => ∃ (x7908 : Int), x7908 = o7926 ∧ ρ 2 = v_p_pmfratepmfraterowscolumndiownlknimagearow ∧ ρ 4 = (.pointer (some ⟨b9, 0, none⟩)) ∧ ρ 7 = (.pointer (some ⟨b17, 0, none⟩)) ∧ ρ 10 = (.func (.func 105) #[] (List.toArray [(.pointer (some ⟨b37, 0, none⟩))])) ∧ ρ 11 = v6027 ∧ ρ 12 = (.int .i64 x6035) ∧ ρ 14 = v7508 ∧ ρ 16 = (.int .i64 el7590) ∧ ρ 17 = (.int .i64 x7908) ∧ ρ 27 = v_p_pmfratepmfraterowscolumndiownlknimagearow ∧ ρ 28 = (.int .i64 (p_pmfratepmfraterowscolumndiownlknimagearow.length : Int)) ∧ ρ 29 = (.int .i64 x6035) ∧ ρ 34 = v6080 ∧ ρ 35 = (.int .i64 (el6078.length : Int)) ∧ ρ 36 = (.int .i64 x7520) ∧ SlRd (v6027 :: v7508 :: (.pointer (some ⟨b37, 0, none⟩)) :: L) wd7893 v_p_pmfratepmfraterowscolumndiownlknimagearow p_pmfratepmfraterowscolumndiownlknimagearow ∧ SlRd (v6027 :: v7508 :: (.pointer (some ⟨b37, 0, none⟩)) :: L) wd7893 v6080 el6078 ∧ SlRd (v6027 :: v7508 :: (.pointer (some ⟨b37, 0, none⟩)) :: L) wd7893 v30 el28 ∧ SlRd (v6027 :: v7508 :: (.pointer (some ⟨b37, 0, none⟩)) :: L) wd7893 v1 p_Listappend.LevitatePlant.Maps ∧ SlRd (v6027 :: v7508 :: (.pointer (some ⟨b37, 0, none⟩)) :: L) wd7893 v3 p_Listappend.LevitatePlant.Noise ∧ Box wd7893 b17 [(.int .i64 p_a3.e0), (.int .i64 p_a3.e1)] 48 ∧ Box wd7893 b37 [v30] 47 ∧ Box wd7893 b9 [(.int .i64 p_Listappend.LevitatePlant.Den), v1, v3] 89 ∧ Own 23 (v6027 :: v7508 :: (.pointer (some ⟨b37, 0, none⟩)) :: L) wd7893 v6027 x6028 ∧ Own 3 (v6027 :: v7508 :: (.pointer (some ⟨b37, 0, none⟩)) :: L) wd7893 v7508 x7509 ∧ Ext w wd7893) ?_ ?_
          · clear hK7582 hK7586 hK7588 hK7589 hK7596 hK7597 hK7598
            intro K7932 hK7932
            refine WC_block ?_
            refine WC_loopk (fun sv ρ wd7855 => ∃ (x7871 : Int) (x7882 : Int), (x7871, x7882) = sv ∧ ρ 2 = v_p_pmfratepmfraterowscolumndiownlknimagearow ∧ ρ 4 = (.pointer (some ⟨b9, 0, none⟩)) ∧ ρ 7 = (.pointer (some ⟨b17, 0, none⟩)) ∧ ρ 10 = (.func (.func 105) #[] (List.toArray [(.pointer (some ⟨b37, 0, none⟩))])) ∧ ρ 11 = v6027 ∧ ρ 12 = (.int .i64 x6035) ∧ ρ 14 = v7508 ∧ ρ 15 = (.int .i64 x7520) ∧ ρ 16 = (.int .i64 el7590) ∧ ρ 17 = (.int .i64 x7871) ∧ ρ 27 = v_p_pmfratepmfraterowscolumndiownlknimagearow ∧ ρ 28 = (.int .i64 (p_pmfratepmfraterowscolumndiownlknimagearow.length : Int)) ∧ ρ 29 = (.int .i64 x6035) ∧ ρ 34 = v6080 ∧ ρ 35 = (.int .i64 (el6078.length : Int)) ∧ ρ 36 = (.int .i64 x7520) ∧ ρ 41 = v_p_pmfratepmfraterowscolumndiownlknimagearow ∧ ρ 42 = (.int .i64 (p_pmfratepmfraterowscolumndiownlknimagearow.length : Int)) ∧ ρ 43 = (.int .i64 x7882) ∧ SlRd (v6027 :: v7508 :: (.pointer (some ⟨b37, 0, none⟩)) :: L) wd7855 v_p_pmfratepmfraterowscolumndiownlknimagearow p_pmfratepmfraterowscolumndiownlknimagearow ∧ SlRd (v6027 :: v7508 :: (.pointer (some ⟨b37, 0, none⟩)) :: L) wd7855 v6080 el6078 ∧ SlRd (v6027 :: v7508 :: (.pointer (some ⟨b37, 0, none⟩)) :: L) wd7855 v30 el28 ∧ SlRd (v6027 :: v7508 :: (.pointer (some ⟨b37, 0, none⟩)) :: L) wd7855 v1 p_Listappend.LevitatePlant.Maps ∧ SlRd (v6027 :: v7508 :: (.pointer (some ⟨b37, 0, none⟩)) :: L) wd7855 v3 p_Listappend.LevitatePlant.Noise ∧ Box wd7855 b17 [(.int .i64 p_a3.e0), (.int .i64 p_a3.e1)] 48 ∧ Box wd7855 b37 [v30] 47 ∧ Box wd7855 b9 [(.int .i64 p_Listappend.LevitatePlant.Den), v1, v3] 89 ∧ Own 23 (v6027 :: v7508 :: (.pointer (some ⟨b37, 0, none⟩)) :: L) wd7855 v6027 x6028 ∧ Own 3 (v6027 :: v7508 :: (.pointer (some ⟨b37, 0, none⟩)) :: L) wd7855 v7508 x7509 ∧ Ext w wd7855) hl7927 ⟨0, 0, rfl, hs7499, hs7500, hs7501, hs7502, hs7505, hs7506, hs7513, rfl, rfl, rfl, hs7514, hs7515, hs7516, hs7518, hs7519, hs7521, rfl, rfl, rfl, h7498, h7517, h7524, h7527, h7528, hB7523, hB7526, hB7530, h7504, h7511, e7497⟩ ?_
            rintro _ ρ wd7855 ⟨x7871, x7882, rfl, hs7858, hs7859, hs7860, hs7861, hs7864, hs7865, hs7868, hs7869, hs7870, hs7872, hs7873, hs7874, hs7875, hs7877, hs7878, hs7879, hs7880, hs7881, hs7883, h7857, h7876, h7886, h7889, h7890, hB7885, hB7888, hB7892, h7863, h7867, e7856⟩ x7929 h hx7930 K7931 hK7931
            refine WC_seqK fun K7934 hK7934 => ?_
            refine WC_region ?_
            refine T0_q (v := (.bool (decide (x7882 < (p_pmfratepmfraterowscolumndiownlknimagearow.length : Int))))) rfl (yl_lss hs7883 hs7881) ?_
            refine T0_nil ?_
            refine hK7934 _ _ ?_
            refine WC_seqK fun K7935 hK7935 => ?_
            refine WC_cond (b := (decide (x7882 < (p_pmfratepmfraterowscolumndiownlknimagearow.length : Int)))) rfl (fun hb7936 => ?_) (fun hb7936 => ?_)
            · clear hK7932 hK7934
              replace h := cond_t hb7936 h
              refine WC_skip ?_
              refine hK7935 _ _ ?_
              refine WC_seqK fun K7937 hK7937 => ?_
              refine WC_block ?_
              refine WC_seqK fun K7938 hK7938 => ?_
              refine WC_region ?_
              refine T0_q (v := (.int .i64 x7882)) rfl (yl_move hs7883) ?_
              have hq := bind_elim h
              clear h
              obtain ⟨el7939, hel7940, h⟩ := hq
              have hq := SlRd.at h7857 hel7940
              obtain ⟨cs7943, hat7944, hrd7945⟩ := hq
              obtain ⟨v7941, rfl, h7942⟩ := hrd7945
              refine T0_q (v := (.pointer (some (elemAddr v_p_pmfratepmfraterowscolumndiownlknimagearow (x7882 : Int).toNat 1)))) rfl (yl_indexAddr Try.underlying47 sz23 h7857 hel7940 hs7880 hs7883) ?_
              refine T0_q (v := v7941) rfl (yl_load sc23 rfl hat7944) ?_
              refine T0_q (v := (.int .i64 x7882)) rfl (yl_assign rfl) ?_
              refine T0_q (v := v7941) rfl (yl_assign rfl) ?_
              refine T0_nil ?_
              refine hK7938 _ _ ?_
              refine WC_planX mixed (.p 0 (.p 1 (.p 2 (.p 4 (.p 7 (.p 8 (.p 9 (.e 3 (.p 5 (.q 6 (.e 10 (.e 11 (.p 12 (.p 13 (.p 14 .done))))))))))))))) (by kernel_rfl) ?_
              intro wd7948 he7949
              have e7950 := e7856.trans he7949
              refine TX_p (v := (.int .i64 x7871)) rfl rfl (fun w' => (yl_move hs7872)) ?_
              refine TX_p (v := (.func (.func 105) #[] (List.toArray [(.pointer (some ⟨b37, 0, none⟩))]))) rfl rfl (fun w' => (yl_move hs7861)) ?_
              refine TX_p (v := (.int .i64 x6035)) rfl rfl (fun w' => (yl_move hs7865)) ?_
              refine TX_p (v := (.int .i64 x7882)) rfl rfl (fun w' => (yl_move rfl)) ?_
              refine TX_p (v := v7941) rfl rfl (fun w' => (yl_move rfl)) ?_
              refine TX_p (v := (.func (.func 105) #[] (List.toArray [(.pointer (some ⟨b37, 0, none⟩))]))) rfl rfl (fun w' => (yl_move hs7861)) ?_
              refine TX_p (v := (.int .i64 x7520)) rfl rfl (fun w' => (yl_move hs7869)) ?_
              have hq := bind_elim h
              clear h
              obtain ⟨r7951, hr7952, h⟩ := hq
              refine TX_e rfl rfl (eff_callC rfl Try.func105 nm105 rfl (ev1 rfl) rfl (levitate_plant_lessens_1_ok (v6027 :: v7508 :: (.pointer (some ⟨b37, 0, none⟩)) :: L) _ (ltl_own (ltl_own (ltl_box (hL.chg e7950) (hB7888.ext he7949)) (h7867.ext he7949)) (h7863.ext he7949)) x6035 b37 v30 el28 (h7886.ext he7949) (hB7888.ext he7949) r7951 hr7952) ?_)
              rintro _ wd7953 ⟨he7954, v7955, rfl, h7956⟩
              have e7957 := he7949.trans he7954
              have e7958 := e7950.trans he7954
              refine ⟨he7954, ?_⟩
              have hq := bind_elim h
              clear h
              obtain ⟨el7960, hel7961, h⟩ := hq
              have hq := SlRd.at h7956 hel7961
              obtain ⟨cs7962, hat7963, hrd7964⟩ := hq
              have hrd7964 : cs7962 = [(.int .i64 el7960)] := hrd7964
              subst hrd7964
              refine TX_p (v := (.pointer (some (elemAddr v7955 (x7882 : Int).toNat 1)))) rfl rfl (fun w' => (yl_indexAddr Try.underlying23 sz3 h7956 hel7961 rfl rfl)) ?_
              refine TX_q (v := (.int .i64 el7960)) rfl rfl (fun w' hS => (yl_load sc3 rfl (hat7963.ext' hS))) ?_
              have hq := bind_elim h
              clear h
              obtain ⟨r7966, hr7967, h⟩ := hq
              refine TX_e rfl rfl (eff_callC rfl Try.func105 nm105 rfl (ev1 rfl) rfl (levitate_plant_lessens_1_ok (v6027 :: v7508 :: (.pointer (some ⟨b37, 0, none⟩)) :: L) _ (ltl_own (ltl_own (ltl_box (hL.chg e7958) (hB7888.ext e7957)) (h7867.ext e7957)) (h7863.ext e7957)) x7520 b37 v30 el28 (h7886.ext e7957) (hB7888.ext e7957) r7966 hr7967) ?_)
              rintro _ wd7968 ⟨he7969, v7970, rfl, h7971⟩
              have e7972 := e7957.trans he7969
              have e7973 := e7958.trans he7969
              refine ⟨he7969, ?_⟩
              have hq := bind_elim h
              clear h
              obtain ⟨r7975, hr7976, h⟩ := hq
              refine TX_e rfl rfl (eff_call Try.func106 nm106 rfl (ev2 rfl rfl) (levitate_dot_ok [] _ (LtL.nil _) v7941 el7939 ((h7942.ext e7972).sub (fun _ h => by cases h)) v7970 r7966 (h7971.sub (fun _ h => by cases h)) r7975 hr7976) ?_)
              rintro _ wd7977 ⟨he7978, rfl⟩
              have e7979 := e7972.trans he7978
              have e7981 := e7973.trans he7978
              refine ⟨he7978, ?_⟩
              refine TX_p (v := (.int .i64 (w64 (el7960 * r7975)))) rfl rfl (fun w' => (yl_mul rfl rfl)) ?_
              refine TX_p (v := (.int .i64 (w64 (x7871 + (w64 (el7960 * r7975)))))) rfl rfl (fun w' => (yl_add rfl rfl)) ?_
              refine TX_p (v := (.int .i64 (w64 (x7871 + (w64 (el7960 * r7975)))))) rfl rfl (fun w' => (yl_assign rfl)) ?_
              refine TX_done ?_
              refine hK7937 _ _ ?_
              refine WC_region ?_
              refine T0_q (v := (.int .i64 (w64 (x7882 + 1)))) rfl (yl_add hs7883 rfl) ?_
              refine T0_q (v := (.int .i64 (w64 (x7882 + 1)))) rfl (yl_move rfl) ?_
              refine T0_nil ?_
              replace h := some_out h
              subst h
              refine hK7931 _ _ _ rfl ?_
              exact ⟨w64 (x7871 + (w64 (el7960 * r7975))), w64 (x7882 + 1), rfl, hs7858, hs7859, hs7860, hs7861, hs7864, hs7865, hs7868, hs7869, hs7870, rfl, hs7873, hs7874, hs7875, hs7877, hs7878, hs7879, hs7880, hs7881, rfl, (h7857.ext e7979), (h7876.ext e7979), (h7886.ext e7979), (h7889.ext e7979), (h7890.ext e7979), (hB7885.ext e7979), (hB7888.ext e7979), (hB7892.ext e7979), (h7863.ext e7979), (h7867.ext e7979), e7981⟩
            · clear hK7931 hK7934 hK7935
              replace h := cond_f hb7936 h
              refine WC_exit ?_
              replace h := some_out h
              subst h
              have ho := hx7930 _ rfl
              subst ho
              refine hK7932 _ _ ?_
              exact ⟨x7871, rfl, hs7858, hs7859, hs7860, hs7861, hs7864, hs7865, hs7868, hs7870, hs7872, hs7873, hs7874, hs7875, hs7877, hs7878, hs7879, h7857, h7876, h7886, h7889, h7890, hB7885, hB7888, hB7892, h7863, h7867, e7856⟩
          · clear hK7586 hK7589 hK7596 hK7598
            rintro ρ wd7893 ⟨x7908, rfl, hs7896, hs7897, hs7898, hs7899, hs7902, hs7903, hs7906, hs7907, hs7909, hs7910, hs7911, hs7912, hs7914, hs7915, hs7916, h7895, h7913, h7919, h7922, h7923, hB7918, hB7921, hB7925, h7901, h7905, e7894⟩
            replace h := hn7928
            refine hK7597 _ _ ?_
            refine WC_region ?_
            refine T0_q (v := v7508) rfl (yl_move hs7906) ?_
            refine T0_q (v := (.pointer (some ⟨b17, 0, none⟩))) rfl (yl_ixC (i := 0) Try.underlying48 sz3 (by decide) (by decide) hs7898 rfl rfl) ?_
            refine T0_q (v := (.int .i64 p_a3.e0)) rfl (yl_load sc3 rfl (Box.at hB7918)) ?_
            refine T0_q (v := (.pointer (some ⟨b9, 0, none⟩))) rfl (yl_fa 0 Try.underlying89 rfl rfl ⟨2, sz25⟩ hs7897 rfl) ?_
            refine T0_q (v := (.pointer (some ⟨b9, 0, none⟩))) rfl (yl_fa 0 Try.underlying25 rfl rfl ⟨0, sz3⟩ rfl rfl) ?_
            refine T0_q (v := (.int .i64 p_Listappend.LevitatePlant.Den)) rfl (yl_load sc3 rfl (Box.at hB7925)) ?_
            refine T0_q (v := (.int .i64 (w64 (p_a3.e0 * p_Listappend.LevitatePlant.Den)))) rfl (yl_mul rfl rfl) ?_
            refine T0_q (v := (.pointer (some ⟨b9, 0, none⟩))) rfl (yl_fa 0 Try.underlying89 rfl rfl ⟨2, sz25⟩ hs7897 rfl) ?_
            refine T0_q (v := (.pointer (some ⟨b9, 0, none⟩))) rfl (yl_fa 0 Try.underlying25 rfl rfl ⟨0, sz3⟩ rfl rfl) ?_
            refine T0_q (v := (.int .i64 p_Listappend.LevitatePlant.Den)) rfl (yl_load sc3 rfl (Box.at hB7925)) ?_
            refine T0_q (v := (.int .i64 (w64 ((w64 (p_a3.e0 * p_Listappend.LevitatePlant.Den)) * p_Listappend.LevitatePlant.Den)))) rfl (yl_mul rfl rfl) ?_
            refine T0_q (v := (.int .i64 el7590)) rfl (yl_move hs7907) ?_
            refine T0_q (v := (.int .i64 (w64 ((w64 ((w64 (p_a3.e0 * p_Listappend.LevitatePlant.Den)) * p_Listappend.LevitatePlant.Den)) * el7590)))) rfl (yl_mul rfl rfl) ?_
            refine T0_q (v := (.pointer (some ⟨b17, 1, none⟩))) rfl (yl_ixC (i := 1) Try.underlying48 sz3 (by decide) (by decide) hs7898 rfl rfl) ?_
            refine T0_q (v := (.int .i64 p_a3.e1)) rfl (yl_load sc3 rfl (At.drop (Box.at hB7918) 1)) ?_
            refine T0_q (v := (.int .i64 x7908)) rfl (yl_move hs7909) ?_
            refine T0_q (v := (.int .i64 (w64 (p_a3.e1 * x7908)))) rfl (yl_mul rfl rfl) ?_
            refine T0_q (v := (.int .i64 (w64 ((w64 ((w64 ((w64 (p_a3.e0 * p_Listappend.LevitatePlant.Den)) * p_Listappend.LevitatePlant.Den)) * el7590)) - (w64 (p_a3.e1 * x7908)))))) rfl (yl_sub rfl rfl) ?_
            refine T0_e rfl (eff_buildTC (xs := ([w64 ((w64 ((w64 ((w64 (p_a3.e0 * p_Listappend.LevitatePlant.Den)) * p_Listappend.LevitatePlant.Den)) * el7590)) - (w64 (p_a3.e1 * x7908)))] : List Int)) (cells := [(.int .i64 (w64 ((w64 ((w64 ((w64 (p_a3.e0 * p_Listappend.LevitatePlant.Den)) * p_Listappend.LevitatePlant.Den)) * el7590)) - (w64 (p_a3.e1 * x7908)))))]) Try.underlying23 ei3 rfl (pc_cons rfl rfl pc_nil) rfl (Elems.cons (cs := [(.int .i64 (w64 ((w64 ((w64 ((w64 (p_a3.e0 * p_Listappend.LevitatePlant.Den)) * p_Listappend.LevitatePlant.Den)) * el7590)) - (w64 (p_a3.e1 * x7908)))))]) rfl Elems.nil) rfl (ltl_own (ltl_own (ltl_box (hL.chg e7894) hB7921) h7905) h7901) ?_)
            intro b7985 wd7982 he7983 h7984
            have e7986 := e7894.trans he7983
            have h7988 := (h7895.ext he7983).sub (sub_cons (memS mem0) (sub_cons mem0 (sub_cons (memS (memS mem0)) (sub_skip (sub_skip (sub_skip (sub_refl _)))))))
            have h7989 := (h7901.ext he7983).sub (sub_cons (memS mem0) (sub_cons mem0 (sub_cons (memS (memS mem0)) (sub_skip (sub_skip (sub_skip (sub_refl _)))))))
            have h7990 := (h7905.ext he7983).sub (sub_cons (memS mem0) (sub_cons mem0 (sub_cons (memS (memS mem0)) (sub_skip (sub_skip (sub_skip (sub_refl _)))))))
            have h7991 := (h7913.ext he7983).sub (sub_cons (memS mem0) (sub_cons mem0 (sub_cons (memS (memS mem0)) (sub_skip (sub_skip (sub_skip (sub_refl _)))))))
            have h7992 := (h7919.ext he7983).sub (sub_cons (memS mem0) (sub_cons mem0 (sub_cons (memS (memS mem0)) (sub_skip (sub_skip (sub_skip (sub_refl _)))))))
            have h7993 := (h7922.ext he7983).sub (sub_cons (memS mem0) (sub_cons mem0 (sub_cons (memS (memS mem0)) (sub_skip (sub_skip (sub_skip (sub_refl _)))))))
            have h7994 := (h7923.ext he7983).sub (sub_cons (memS mem0) (sub_cons mem0 (sub_cons (memS (memS mem0)) (sub_skip (sub_skip (sub_skip (sub_refl _)))))))
            have h7995 := h7984.sub (sub_cons (memS mem0) (sub_cons mem0 (sub_cons (memS (memS mem0)) (sub_skip (sub_skip (sub_skip (sub_refl _)))))))
            have hq := bind_elim h
            clear h
            obtain ⟨zs7996, hz7997, h⟩ := hq
            refine T0_e rfl (eff_app Try.underlying23 ei3 rfl rfl rfl rfl h7990 h7995 hz7997 ?_)
            intro v7998 wd7999 hc8000 hbl8001 h8002
            have hn8004 : blk v7998 ≠ some b17 := ne_swap hbl8001 hn7531 (hB7918.ext he7983)
            have hn8005 : blk v7998 ≠ some b37 := ne_swap hbl8001 hn7532 (hB7921.ext he7983)
            have hn8006 : blk v7998 ≠ some b9 := ne_swap hbl8001 hn7533 (hB7925.ext he7983)
            have hn8007 := dj_swap hbl8001 hn7534 h7989
            have hf8008 := fresh_swap hbl8001 hf7512 e7986.size
            have h8009 := h7988.step (Stepp.swap hc8000 hbl8001)
            have h8010 := h7989.step (Stepp.swap hc8000 hbl8001) hc8000 (av_own hn7534)
            have h8011 := h7991.step (Stepp.swap hc8000 hbl8001)
            have h8012 := (hB7918.ext he7983).chg hc8000 (avoid1 hn7531)
            have h8013 := h7992.step (Stepp.swap hc8000 hbl8001)
            have h8014 := (hB7921.ext he7983).chg hc8000 (avoid1 hn7532)
            have h8015 := h7993.step (Stepp.swap hc8000 hbl8001)
            have h8016 := h7994.step (Stepp.swap hc8000 hbl8001)
            have h8017 := (hB7925.ext he7983).chg hc8000 (avoid1 hn7533)
            have e8019 := chg_own e7986 hc8000 hf7512
            refine T0_q (v := v7998) rfl (yl_assign rfl) ?_
            refine T0_nil ?_
            refine hK7588 _ _ ?_
            refine WC_region ?_
            refine T0_q (v := (.int .i64 (w64 (x7520 + 1)))) rfl (yl_add hs7916 rfl) ?_
            refine T0_q (v := (.int .i64 (w64 (x7520 + 1)))) rfl (yl_move rfl) ?_
            refine T0_nil ?_
            replace h := some_out h
            subst h
            refine hK7582 _ _ _ rfl ?_
            exact ⟨zs7996, w64 (x7520 + 1), v7998, rfl, hs7896, hs7897, hs7898, hs7899, hs7902, hs7903, rfl, hs7910, hs7911, hs7912, hs7914, hs7915, rfl, (h8009.sub (sub_cons (memS mem0) (sub_cons mem0 (sub_cons (memS (memS mem0)) (sub_skip (sub_skip (sub_skip (sub_refl _)))))))), (h8011.sub (sub_cons (memS mem0) (sub_cons mem0 (sub_cons (memS (memS mem0)) (sub_skip (sub_skip (sub_skip (sub_refl _)))))))), (h8013.sub (sub_cons (memS mem0) (sub_cons mem0 (sub_cons (memS (memS mem0)) (sub_skip (sub_skip (sub_skip (sub_refl _)))))))), (h8015.sub (sub_cons (memS mem0) (sub_cons mem0 (sub_cons (memS (memS mem0)) (sub_skip (sub_skip (sub_skip (sub_refl _)))))))), (h8016.sub (sub_cons (memS mem0) (sub_cons mem0 (sub_cons (memS (memS mem0)) (sub_skip (sub_skip (sub_skip (sub_refl _)))))))), h8012, h8014, h8017, (h8010.sub (sub_cons (memS mem0) (sub_cons mem0 (sub_cons (memS (memS mem0)) (sub_skip (sub_skip (sub_skip (sub_refl _)))))))), (h8002.sub (sub_cons (memS mem0) (sub_cons mem0 (sub_cons (memS (memS mem0)) (sub_skip (sub_skip (sub_skip (sub_refl _)))))))), hf8008, hn8004, hn8005, hn8006, hn8007, e8019⟩
        · clear hK7582 hK7585 hK7586
          replace h := cond_f hb7587 h
          refine WC_exit ?_
          replace h := some_out h
          subst h
          have ho := hx7581 _ rfl
          subst ho
          refine hK7583 _ _ ?_
          exact ⟨x7509, v7508, rfl, hs7499, hs7500, hs7501, hs7502, hs7505, hs7513, hs7514, hs7515, hs7516, h7498, h7524, h7527, h7528, hB7523, hB7526, hB7530, h7504, h7511, hf7512, hn7531, hn7532, hn7533, hn7534, e7497⟩
      · clear hK6074 hK6077 hK6087 hK6089
        rintro ρ wd7544 ⟨x7556, v7555, rfl, hs7547, hs7548, hs7549, hs7550, hs7553, hs7560, hs7561, hs7562, hs7563, h7546, h7566, h7569, h7570, hB7565, hB7568, hB7572, h7552, h7558, hf7559, hn7573, hn7574, hn7575, hn7576, e7545⟩
        replace h := hn7579
        refine hK6088 _ _ ?_
        refine WC_region ?_
        refine T0_q (v := v6027) rfl (yl_move hs7553) ?_
        refine T0_q (v := v7555) rfl (yl_move hs7560) ?_
        have h8021 := (h7558.sub (sub_cons mem0 (sub_cons (memS (memS mem0)) (sub_skip (sub_skip (sub_skip (sub_refl _))))))).rd (fun b hb => (Avoids.cons (Avoids.cons (fun x hx e => by have := hL x hx b e; have := hf7559 b hb; omega) (fun e => hn7574 (hb.trans e.symm))) ((dj_symm hn7576) b hb)))
        have h8022 := h7546.sub (sub_cons mem0 (sub_cons (memS (memS mem0)) (sub_skip (sub_skip (sub_skip (sub_refl _))))))
        have h8023 := h7552.sub (sub_cons mem0 (sub_cons (memS (memS mem0)) (sub_skip (sub_skip (sub_skip (sub_refl _))))))
        have h8024 := h7566.sub (sub_cons mem0 (sub_cons (memS (memS mem0)) (sub_skip (sub_skip (sub_skip (sub_refl _))))))
        have h8025 := h7569.sub (sub_cons mem0 (sub_cons (memS (memS mem0)) (sub_skip (sub_skip (sub_skip (sub_refl _))))))
        have h8026 := h7570.sub (sub_cons mem0 (sub_cons (memS (memS mem0)) (sub_skip (sub_skip (sub_skip (sub_refl _))))))
        refine T0_e rfl (eff_buildTC (xs := ([x7556] : List (List Int))) (cells := [v7555]) Try.underlying47 ei23 rfl (pc_cons rfl (cells_one h8021.one1) pc_nil) rfl (Elems.cons (cs := [v7555]) ⟨_, rfl, h8021⟩ Elems.nil) rfl (ltl_own (ltl_box (hL.chg e7545) hB7568) h8023) ?_)
        intro b8031 wd8028 he8029 h8030
        have e8032 := e7545.trans he8029
        have hq := bind_elim h
        clear h
        obtain ⟨zs8034, hz8035, h⟩ := hq
        refine T0_e rfl (eff_app Try.underlying47 ei23 rfl rfl rfl rfl (h8023.ext he8029) h8030 hz8035 ?_)
        intro v8036 wd8037 hc8038 hbl8039 h8040
        have hn8042 : blk v8036 ≠ some b17 := ne_swap hbl8039 hn6046 (hB7565.ext he8029)
        have hn8043 : blk v8036 ≠ some b37 := ne_swap hbl8039 hn6047 (hB7568.ext he8029)
        have hn8044 : blk v8036 ≠ some b9 := ne_swap hbl8039 hn6048 (hB7572.ext he8029)
        have hf8045 := fresh_swap hbl8039 hf6031 e8032.size
        have h8046 := (h8022.ext he8029).step (Stepp.swap hc8038 hbl8039)
        have h8047 := (hB7565.ext he8029).chg hc8038 (avoid1 hn6046)
        have h8048 := (h8024.ext he8029).step (Stepp.swap hc8038 hbl8039)
        have h8049 := (hB7568.ext he8029).chg hc8038 (avoid1 hn6047)
        have h8050 := (h8025.ext he8029).step (Stepp.swap hc8038 hbl8039)
        have h8051 := (h8026.ext he8029).step (Stepp.swap hc8038 hbl8039)
        have h8052 := (hB7572.ext he8029).chg hc8038 (avoid1 hn6048)
        have e8055 := chg_own e8032 hc8038 hf6031
        refine T0_q (v := v8036) rfl (yl_assign rfl) ?_
        refine T0_nil ?_
        refine hK6076 _ _ ?_
        refine WC_region ?_
        refine T0_q (v := (.int .i64 (w64 (x6035 + 1)))) rfl (yl_add hs7563 rfl) ?_
        refine T0_q (v := (.int .i64 (w64 (x6035 + 1)))) rfl (yl_move rfl) ?_
        refine T0_nil ?_
        replace h := some_out h
        subst h
        refine hK6070 _ _ _ rfl ?_
        exact ⟨zs8034, w64 (x6035 + 1), v8036, rfl, hs7547, hs7548, hs7549, hs7550, rfl, hs7561, hs7562, rfl, h8046, h8048, h8050, h8051, h8047, h8049, h8052, h8040, hf8045, hn8042, hn8043, hn8044, e8055⟩
    · clear hK6070 hK6073 hK6074
      replace h := cond_f hb6075 h
      refine WC_exit ?_
      replace h := some_out h
      subst h
      have ho := hx6069 _ rfl
      subst ho
      refine hK6071 _ _ ?_
      exact ⟨x6028, v6027, rfl, hs6032, (h6030.sub (sub_cons mem0 (sub_skip (sub_skip (sub_refl _))))), hf6031, e6020⟩
  · clear hK27 hK63 hK64 hK66 hK8
    rintro ρ wd6056 ⟨x6060, v6059, rfl, hs6064, h6062, hf6063, e6057⟩
    replace h := hn6067
    refine hK65 _ _ ?_
    refine WC_seqK fun K8057 hK8057 => ?_
    refine WC_region ?_
    refine T0_q (v := v6059) rfl (yl_move hs6064) ?_
    have hq := bind_elim h
    clear h
    obtain ⟨r8058, hr8059, h⟩ := hq
    refine T0_e rfl (eff_call Try.func107 nm107 rfl (ev1 rfl) (levitate_never_ok [] _ (LtL.nil _) v6059 x6060 (h6062.rdL (fun _ h => by cases h) (LtL.nil w) hf6063) r8058 hr8059) ?_)
    rintro _ wd8060 ⟨he8061, rfl⟩
    have e8062 := e6057.trans he8061
    refine T0_q (v := (.bool r8058)) rfl (yl_assign rfl) ?_
    refine T0_nil ?_
    refine hK8057 _ _ ?_
    refine WC_ret ?_
    replace h := some_out h
    subst h
    exact ⟨[(.bool r8058)], ⟨rfl, trivial⟩, e8062, rfl⟩

noncomputable def slices_ContainsFunc_int_102_spec (p_s : (List Int)) : Option Bool :=
  (Option.bind (slices_IndexFunc_int_102_spec p_s) fun r4 =>
  some (decide (0 ≤ r4))
  )
theorem slices_ContainsFunc_int_102_ok (L : List Value) (w : World) (hL : LtL L w) (v_p_s : Value) (p_s : (List Int)) (h_p_s : SlRd L w v_p_s p_s) (r : Bool) (h : slices_ContainsFunc_int_102_spec p_s = some r) :
    CallsTo Try.prog 36 [v_p_s, (.func (.func 102) #[] #[])] w (fun v w' => Ext w w' ∧ (.bool r) = v) := by
  have e0 : Ext w w := Chg.refl _ _
  refine callsTo_of_WC (n := 9) (rs := [.tmp 4]) Try.func36 rfl rfl rfl rfl rfl ?_
  refine WC_seqK fun K2 hK2 => ?_
  refine WC_region ?_
  refine T0_q (v := (.bool false)) rfl (yl_assign rfl) ?_
  refine T0_nil ?_
  refine hK2 _ _ ?_
  refine WC_seqK fun K3 hK3 => ?_
  refine WC_region ?_
  refine T0_q (v := v_p_s) rfl (yl_move rfl) ?_
  refine T0_q (v := (.func (.func 102) #[] #[])) rfl (yl_move rfl) ?_
  have hq := bind_elim h
  clear h
  obtain ⟨r4, hr5, h⟩ := hq
  refine T0_e rfl (eff_call Try.func68 nm68 rfl (ev2 rfl rfl) (slices_IndexFunc_int_102_ok [] _ (LtL.nil _) v_p_s p_s (h_p_s.sub (fun _ h => by cases h)) r4 hr5) ?_)
  rintro _ wd6 ⟨he7, rfl⟩
  have e8 := e0.trans he7
  refine T0_q (v := (.bool (decide (0 ≤ r4)))) rfl (yl_geq rfl rfl) ?_
  refine T0_q (v := (.bool (decide (0 ≤ r4)))) rfl (yl_assign rfl) ?_
  refine T0_nil ?_
  refine hK3 _ _ ?_
  refine WC_ret ?_
  replace h := some_out h
  subst h
  exact ⟨[(.bool (decide (0 ≤ r4)))], ⟨rfl, trivial⟩, e8, rfl⟩

noncomputable def slices_ContainsFunc_int_37_spec (p_s : (List Int)) : Option Bool :=
  (Option.bind (slices_IndexFunc_int_37_spec p_s) fun r4 =>
  some (decide (0 ≤ r4))
  )
theorem slices_ContainsFunc_int_37_ok (L : List Value) (w : World) (hL : LtL L w) (v_p_s : Value) (p_s : (List Int)) (h_p_s : SlRd L w v_p_s p_s) (r : Bool) (h : slices_ContainsFunc_int_37_spec p_s = some r) :
    CallsTo Try.prog 36 [v_p_s, (.func (.func 37) #[] #[])] w (fun v w' => Ext w w' ∧ (.bool r) = v) := by
  have e0 : Ext w w := Chg.refl _ _
  refine callsTo_of_WC (n := 9) (rs := [.tmp 4]) Try.func36 rfl rfl rfl rfl rfl ?_
  refine WC_seqK fun K2 hK2 => ?_
  refine WC_region ?_
  refine T0_q (v := (.bool false)) rfl (yl_assign rfl) ?_
  refine T0_nil ?_
  refine hK2 _ _ ?_
  refine WC_seqK fun K3 hK3 => ?_
  refine WC_region ?_
  refine T0_q (v := v_p_s) rfl (yl_move rfl) ?_
  refine T0_q (v := (.func (.func 37) #[] #[])) rfl (yl_move rfl) ?_
  have hq := bind_elim h
  clear h
  obtain ⟨r4, hr5, h⟩ := hq
  refine T0_e rfl (eff_call Try.func68 nm68 rfl (ev2 rfl rfl) (slices_IndexFunc_int_37_ok [] _ (LtL.nil _) v_p_s p_s (h_p_s.sub (fun _ h => by cases h)) r4 hr5) ?_)
  rintro _ wd6 ⟨he7, rfl⟩
  have e8 := e0.trans he7
  refine T0_q (v := (.bool (decide (0 ≤ r4)))) rfl (yl_geq rfl rfl) ?_
  refine T0_q (v := (.bool (decide (0 ≤ r4)))) rfl (yl_assign rfl) ?_
  refine T0_nil ?_
  refine hK3 _ _ ?_
  refine WC_ret ?_
  replace h := some_out h
  subst h
  exact ⟨[(.bool (decide (0 ≤ r4)))], ⟨rfl, trivial⟩, e8, rfl⟩

noncomputable def levitate_formErr_1_spec (p_row : (List Int)) (c5 : (List (List Int))) : Option Bool :=
  some (!decide ((p_row.length : Int) = (c5.length : Int)))
theorem levitate_formErr_1_ok (L : List Value) (w : World) (hL : LtL L w) (v_p_row : Value) (p_row : (List Int)) (h_p_row : SlRd L w v_p_row p_row) (b2 : Nat) (v6 : Value) (c5 : (List (List Int))) (h7 : SlRd L w v6 c5) (hB3 : Box w b2 [v6] 47) (r : Bool) (h : levitate_formErr_1_spec p_row c5 = some r) :
    CallsTo Try.prog 121 [v_p_row, (.pointer (some ⟨b2, 0, none⟩))] w (fun v w' => Ext w w' ∧ (.bool r) = v) := by
  have e0 : Ext w w := Chg.refl _ _
  refine callsTo_of_WC (n := 9) (rs := [.tmp 3]) Try.func121 rfl rfl rfl rfl rfl ?_
  refine WC_seqK fun K9 hK9 => ?_
  refine WC_region ?_
  refine T0_q (v := (.bool false)) rfl (yl_assign rfl) ?_
  refine T0_nil ?_
  refine hK9 _ _ ?_
  refine WC_seqK fun K10 hK10 => ?_
  refine WC_region ?_
  refine T0_q (v := v_p_row) rfl (yl_move rfl) ?_
  refine T0_q (v := (.int .i64 (p_row.length : Int))) rfl (yl_lenR rfl Try.underlying23 h_p_row rfl) ?_
  refine T0_q (v := v6) rfl (yl_load sc47 rfl (Box.at hB3)) ?_
  refine T0_q (v := (.int .i64 (c5.length : Int))) rfl (yl_lenR rfl Try.underlying47 h7 rfl) ?_
  refine T0_q (v := (.bool (!decide ((p_row.length : Int) = (c5.length : Int))))) rfl (yl_neq rfl rfl) ?_
  refine T0_q (v := (.bool (!decide ((p_row.length : Int) = (c5.length : Int))))) rfl (yl_assign rfl) ?_
  refine T0_nil ?_
  refine hK10 _ _ ?_
  refine WC_ret ?_
  replace h := some_out h
  subst h
  exact ⟨[(.bool (!decide ((p_row.length : Int) = (c5.length : Int))))], ⟨rfl, trivial⟩, e0, rfl⟩

end Go.Gw
