/- What functions come to, printed by a program of this work. No condition. -/
import Derived.Test.YtgpapebgdnimfaaDoorGwFnC
set_option maxRecDepth 4096
set_option maxHeartbeats 1000000
set_option linter.unusedVariables false
namespace Go.Gw
open Go Go.Proofs
attribute [local irreducible] T0 TS TT TP Eff Stp WC Quiet gd
noncomputable def ref04_CopyRests_spec (p_l : (List LocateRest)) : Option (List LocateRest) :=
  (Option.bind (app ([] : List LocateRest) p_l) fun zs14 =>
  some zs14
  )
theorem ref04_CopyRests_ok (L : List Value) (w : World) (hL : LtL L w) (v_p_l : Value) (p_l : (List LocateRest)) (h_p_l : SlRd L w v_p_l p_l) (r : (List LocateRest)) (h : ref04_CopyRests_spec p_l = some r) :
    CallsTo Tryd.prog 33 [v_p_l] w (fun v w' => Ext w w' ∧ ∃ (v0 : Value), v0 = v ∧ SlRd L w' v0 r) := by
  have e0 : Ext w w := Chg.refl _ _
  refine callsTo_of_WC (n := 6) (rs := [.tmp 2]) Tryd.func33 rfl rfl rfl rfl rfl ?_
  refine WC_seqK fun K2 hK2 => ?_
  refine WC_region ?_
  refine T0_q (v := (.slice none 0 0)) rfl (yl_assign rfl) ?_
  refine T0_nil ?_
  refine hK2 _ _ ?_
  refine WC_seqK fun K3 hK3 => ?_
  refine WC_region ?_
  refine T0_e rfl (eff_buildOC (L := L) (xs := ([] : List LocateRest)) (cells := []) Tryd.underlying51 ei53 rfl pc_nil rfl Elems.nil rfl ?_)
  intro v7 wd4 he5 hf8 h6
  have h9 := h_p_l.step (Stepp.add v7 he5 hf8)
  have hf11 : ∀ b, blk v7 = some b → w.heap.size ≤ b := fun b hb => Nat.le_trans e0.size (hf8 b hb)
  have e12 := e0.trans he5
  refine T0_q (v := v_p_l) rfl (yl_move rfl) ?_
  obtain ⟨zs14, hz15, h⟩ := bind_elim h
  refine T0_e rfl (eff_app Tryd.underlying51 ei53 rfl rfl rfl rfl h6 h9 hz15 ?_)
  intro v16 wd17 hc18 hbl19 h20
  have hf22 := fresh_swap hbl19 hf11 e12.size
  have h23 := h9.step (Stepp.swap hc18 hbl19)
  have e24 := chg_own e12 hc18 hf11
  refine T0_q (v := v16) rfl (yl_assign rfl) ?_
  refine T0_nil ?_
  refine hK3 _ _ ?_
  refine WC_ret ?_
  replace h := some_out h
  subst h
  exact ⟨[v16], ⟨rfl, trivial⟩, e24, v16, rfl, (h20.rdL (sub_skip (sub_refl _)) hL hf22)⟩

noncomputable def law04_LocateJoins_s0 (p_Listappend : (List LocateRest)) (p_String : Int) : (Bool × Int) → Option ((Bool × Int) ⊕ (Bool)) := fun (x194, x196) =>
  (bif (decide (x196 < (p_Listappend.length : Int))) then (
    (Option.bind ((bif x194 then idx p_Listappend x196 else some default)) fun el224 =>
    (Option.bind ((bif x194 then idx p_Listappend x196 else some default)) fun el229 =>
    (Option.bind ((bif x194 then rem p_String el224.Modulus else some 0)) fun q234 =>
    some (.inl ((x194 && (decide (q234 = el229.Rest))), w64 (x196 + 1)))
    )
    )
    )
  ) else (
    some (.inr x194)
  ))
noncomputable def law04_LocateJoins_spec (p_Listappend : (List LocateRest)) (p_String : Int) : Option Bool :=
  (Option.bind (law04_awake_spec) fun r5 =>
  (bif (!r5) then (
    some false
  ) else (
    (bif (decide (8 < (p_Listappend.length : Int))) then (
      some true
    ) else (
      (Option.bind (ref04_CopyRests_spec p_Listappend) fun r17 =>
      (Option.bind (locate_Joined_spec r17) fun r26 =>
      (Option.bind (ref04_Joined_spec p_Listappend) fun r51 =>
      (bif ((!decide (r26.2 = r51.2)) || (!(decide ((LocateRest.mk r26.1.Modulus r26.1.Rest) = (LocateRest.mk r51.1.Modulus r51.1.Rest))))) then (
        some false
      ) else (
        (Option.bind (base_Within_spec p_String 0 1000000000000000) fun r83 =>
        (bif ((!r83) || ((!decide (r51.2 = 0)) && (!decide (r51.2 = 12)))) then (
          some true
        ) else (
          (Option.bind (loop (law04_LocateJoins_s0 p_Listappend p_String) (true, 0)) fun (x205 : Bool) =>
          (Option.bind ((bif (decide (r51.2 = 0)) then rem p_String r26.1.Modulus else some 0)) fun q240 =>
          some (x205 == ((decide (r51.2 = 0)) && (decide (q240 = r26.1.Rest))))
          )
          )
        ))
        )
      ))
      )
      )
      )
    ))
  ))
  )
theorem law04_LocateJoins_ok (L : List Value) (w : World) (hL : LtL L w) (hg0 : At w ⟨0, 0, none⟩ [.int .i64 0, .int .i64 1, .int .i64 3, .int .i64 2]) (v_p_Listappend : Value) (p_Listappend : (List LocateRest)) (h_p_Listappend : SlRd L w v_p_Listappend p_Listappend) (p_String : Int) (r : Bool) (h : law04_LocateJoins_spec p_Listappend p_String = some r) :
    CallsTo Tryd.prog 5 [v_p_Listappend, (.int .i64 p_String)] w (fun v w' => Ext w w' ∧ (.bool r) = v) := by
  have e0 : Ext w w := Chg.refl _ _
  refine callsTo_of_WC (n := 81) (rs := [.tmp 4]) Tryd.func5 rfl rfl rfl rfl rfl ?_
  refine WC_seqK fun K2 hK2 => ?_
  refine WC_region ?_
  refine T0_q (v := (.bool false)) rfl (yl_assign rfl) ?_
  refine T0_nil ?_
  refine hK2 _ _ ?_
  refine WC_seqK fun K3 hK3 => ?_
  refine WC_seqK fun K4 hK4 => ?_
  refine WC_region ?_
  obtain ⟨r5, hr6, h⟩ := bind_elim h
  refine T0_e rfl (eff_call Tryd.func18 nm18 rfl ev0 (law04_awake_ok [] _ (LtL.nil _) (hg0.ext e0)  r5 hr6) ?_)
  rintro _ wd7 ⟨he8, rfl⟩
  have e9 := e0.trans he8
  refine T0_q (v := (.bool (!r5))) rfl (yl_not rfl) ?_
  refine T0_nil ?_
  refine hK4 _ _ ?_
  refine WC_cond (b := (!r5)) rfl (fun hb10 => ?_) (fun hb10 => ?_)
  · replace h := cond_t hb10 h
    refine WC_seqK fun K11 hK11 => ?_
    refine WC_region ?_
    refine T0_q (v := (.bool false)) rfl (yl_assign rfl) ?_
    refine T0_nil ?_
    refine hK11 _ _ ?_
    refine WC_ret ?_
    replace h := some_out h
    subst h
    exact ⟨[(.bool false)], ⟨rfl, trivial⟩, e9, rfl⟩
  · replace h := cond_f hb10 h
    refine WC_skip ?_
    refine hK3 _ _ ?_
    refine WC_seqK fun K12 hK12 => ?_
    refine WC_seqK fun K13 hK13 => ?_
    refine WC_region ?_
    refine T0_q (v := v_p_Listappend) rfl (yl_move rfl) ?_
    refine T0_q (v := (.int .i64 (p_Listappend.length : Int))) rfl (yl_lenR rfl Tryd.underlying51 h_p_Listappend rfl) ?_
    refine T0_q (v := (.bool (decide (8 < (p_Listappend.length : Int))))) rfl (yl_gtr rfl rfl) ?_
    refine T0_nil ?_
    refine hK13 _ _ ?_
    refine WC_cond (b := (decide (8 < (p_Listappend.length : Int)))) rfl (fun hb14 => ?_) (fun hb14 => ?_)
    · replace h := cond_t hb14 h
      refine WC_seqK fun K15 hK15 => ?_
      refine WC_region ?_
      refine T0_q (v := (.bool true)) rfl (yl_assign rfl) ?_
      refine T0_nil ?_
      refine hK15 _ _ ?_
      refine WC_ret ?_
      replace h := some_out h
      subst h
      exact ⟨[(.bool true)], ⟨rfl, trivial⟩, e9, rfl⟩
    · replace h := cond_f hb14 h
      refine WC_skip ?_
      refine hK12 _ _ ?_
      refine WC_seqK fun K16 hK16 => ?_
      refine WC_region ?_
      refine T0_q (v := v_p_Listappend) rfl (yl_move rfl) ?_
      obtain ⟨r17, hr18, h⟩ := bind_elim h
      refine T0_e rfl (eff_call Tryd.func33 nm33 rfl (ev1 rfl) (ref04_CopyRests_ok L _ (hL.chg e9) v_p_Listappend p_Listappend (h_p_Listappend.ext he8) r17 hr18) ?_)
      rintro _ wd19 ⟨he20, v21, rfl, h22⟩
      have e23 := he8.trans he20
      have e24 := e9.trans he20
      obtain ⟨r26, hr27, h⟩ := bind_elim h
      refine T0_e rfl (eff_call Tryd.func32 nm32 rfl (ev1 rfl) (locate_Joined_ok [] _ (LtL.nil _) v21 r17 (h22.sub (fun _ h => by cases h)) r26 hr27) ?_)
      rintro _ wd28 ⟨he29, cs30, rfl, hrd31⟩
      have e32 := e23.trans he29
      have e33 := e24.trans he29
      have hrd31 : cs30 = [(.int .i64 r26.1.Modulus), (.int .i64 r26.1.Rest)] := hrd31
      subst hrd31
      refine T0_q (v := (.tuple #[(.agg (List.toArray [(.int .i64 r26.1.Modulus), (.int .i64 r26.1.Rest)])), (.int .i64 r26.2)])) rfl (yl_move rfl) ?_
      refine T0_q (v := (.agg (List.toArray [(.int .i64 r26.1.Modulus), (.int .i64 r26.1.Rest)]))) rfl (yl_extract rfl rfl) ?_
      refine T0_q (v := (.int .i64 r26.2)) rfl (yl_extract rfl rfl) ?_
      refine T0_e rfl (eff_allocZ zi53 ?_)
      intro b34 wd35 hb36 he37 hB38
      have hbf39 := bfresh e33 hb36
      have h40 := (h_p_Listappend.ext e32).step (add_box he37 hb36)
      have h41 := (h22.ext he29).step (add_box he37 hb36)
      have e42 := e33.trans he37
      refine T0_e rfl (eff_storeC (vs := [(.int .i64 r26.1.Modulus), (.int .i64 r26.1.Rest)]) (cs' := [(.int .i64 r26.1.Modulus), (.int .i64 r26.1.Rest)]) sz53 rfl rfl rfl rfl hB38 rfl (oc_cons rfl (oc_cons rfl oc_nil)) rfl ?_)
      intro wd44 hc45 hB46
      have h47 := h40.step (Stepp.chg_mem hc45 mem0)
      have h48 := h41.step (Stepp.chg_mem hc45 mem0)
      have e49 := chg_box e42 hc45 hbf39
      refine T0_q (v := (.int .i64 r26.2)) rfl (yl_assign rfl) ?_
      refine T0_nil ?_
      refine hK16 _ _ ?_
      refine WC_seqK fun K50 hK50 => ?_
      refine WC_region ?_
      refine T0_q (v := v_p_Listappend) rfl (yl_move rfl) ?_
      obtain ⟨r51, hr52, h⟩ := bind_elim h
      refine T0_e rfl (eff_call Tryd.func34 nm34 rfl (ev1 rfl) (ref04_Joined_ok [] _ (LtL.nil _) v_p_Listappend p_Listappend (h47.sub (fun _ h => by cases h)) r51 hr52) ?_)
      rintro _ wd53 ⟨he54, cs55, rfl, hrd56⟩
      have e57 := e49.trans he54
      have hrd56 : cs55 = [(.int .i64 r51.1.Modulus), (.int .i64 r51.1.Rest)] := hrd56
      subst hrd56
      refine T0_q (v := (.tuple #[(.agg (List.toArray [(.int .i64 r51.1.Modulus), (.int .i64 r51.1.Rest)])), (.int .i64 r51.2)])) rfl (yl_move rfl) ?_
      refine T0_q (v := (.agg (List.toArray [(.int .i64 r51.1.Modulus), (.int .i64 r51.1.Rest)]))) rfl (yl_extract rfl rfl) ?_
      refine T0_q (v := (.int .i64 r51.2)) rfl (yl_extract rfl rfl) ?_
      refine T0_e rfl (eff_allocZ zi53 ?_)
      intro b58 wd59 hb60 he61 hB62
      have hn63 : b58 ≠ b34 := box_ne (hB46.ext he54) hb60
      have hbf64 := bfresh e57 hb60
      have h65 := (h47.ext he54).step (add_box he61 hb60)
      have h66 := (h48.ext he54).step (add_box he61 hb60)
      have e67 := he54.trans he61
      have e68 := e57.trans he61
      refine T0_e rfl (eff_storeC (vs := [(.int .i64 r51.1.Modulus), (.int .i64 r51.1.Rest)]) (cs' := [(.int .i64 r51.1.Modulus), (.int .i64 r51.1.Rest)]) sz53 rfl rfl rfl rfl hB62 rfl (oc_cons rfl (oc_cons rfl oc_nil)) rfl ?_)
      intro wd70 hc71 hB72
      have h73 := h65.step (Stepp.chg_mem hc71 mem0)
      have h74 := h66.step (Stepp.chg_mem hc71 mem0)
      have h75 := (hB46.ext e67).chg hc71 (avoidb hn63)
      have e76 := chg_box e68 hc71 hbf64
      refine T0_q (v := (.int .i64 r51.2)) rfl (yl_assign rfl) ?_
      refine T0_nil ?_
      refine hK50 _ _ ?_
      refine WC_seqK fun K77 hK77 => ?_
      refine WC_seqK fun K78 hK78 => ?_
      refine WC_region ?_
      refine T0_q (v := (.int .i64 r26.2)) rfl (yl_move rfl) ?_
      refine T0_q (v := (.int .i64 r51.2)) rfl (yl_move rfl) ?_
      refine T0_q (v := (.bool (!decide (r26.2 = r51.2)))) rfl (yl_neq rfl rfl) ?_
      refine T0_q (v := (.bool (!decide (r26.2 = r51.2)))) rfl (yl_move rfl) ?_
      refine T0_g (v := (.agg (List.toArray [(.int .i64 r26.1.Modulus), (.int .i64 r26.1.Rest)]))) (!(!decide (r26.2 = r51.2))) (wanted_f rfl rfl rfl rfl) (fun hg => (yl_loadA (cs := [(.int .i64 r26.1.Modulus), (.int .i64 r26.1.Rest)]) ag53 rfl (Box.at h75))) ?_
      refine T0_g (v := (.agg (List.toArray [(.int .i64 r51.1.Modulus), (.int .i64 r51.1.Rest)]))) (!(!decide (r26.2 = r51.2))) (wanted_f rfl rfl rfl rfl) (fun hg => (yl_loadA (cs := [(.int .i64 r51.1.Modulus), (.int .i64 r51.1.Rest)]) ag53 rfl (Box.at hB72))) ?_
      refine T0_g (v := (.bool (!(decide ((LocateRest.mk r26.1.Modulus r26.1.Rest) = (LocateRest.mk r51.1.Modulus r51.1.Rest)))))) (!(!decide (r26.2 = r51.2))) (wanted_f rfl rfl rfl rfl) (fun hg => (yl_neqS eg53 (gd_true hg) (gd_true hg) (eqs53 (LocateRest.mk r26.1.Modulus r26.1.Rest) (LocateRest.mk r51.1.Modulus r51.1.Rest) _))) ?_
      refine T0_q (v := (.bool ((!decide (r26.2 = r51.2)) || (!(decide ((LocateRest.mk r26.1.Modulus r26.1.Rest) = (LocateRest.mk r51.1.Modulus r51.1.Rest))))))) rfl (yl_or rfl rfl (fun hb => (gd_true (not_t hb)))) ?_
      refine T0_nil ?_
      refine hK78 _ _ ?_
      refine WC_cond (b := ((!decide (r26.2 = r51.2)) || (!(decide ((LocateRest.mk r26.1.Modulus r26.1.Rest) = (LocateRest.mk r51.1.Modulus r51.1.Rest)))))) rfl (fun hb79 => ?_) (fun hb79 => ?_)
      · replace h := cond_t hb79 h
        refine WC_seqK fun K80 hK80 => ?_
        refine WC_region ?_
        refine T0_q (v := (.bool false)) rfl (yl_assign rfl) ?_
        refine T0_nil ?_
        refine hK80 _ _ ?_
        refine WC_ret ?_
        replace h := some_out h
        subst h
        exact ⟨[(.bool false)], ⟨rfl, trivial⟩, e76, rfl⟩
      · replace h := cond_f hb79 h
        refine WC_skip ?_
        refine hK77 _ _ ?_
        refine WC_seqK fun K81 hK81 => ?_
        refine WC_seqK fun K82 hK82 => ?_
        refine WC_region ?_
        refine T0_q (v := (.int .i64 p_String)) rfl (yl_move rfl) ?_
        obtain ⟨r83, hr84, h⟩ := bind_elim h
        refine T0_e rfl (eff_call Tryd.func35 nm35 rfl (ev3 rfl rfl rfl) (base_Within_ok [] _ (LtL.nil _) p_String 0 1000000000000000 r83 hr84) ?_)
        rintro _ wd85 ⟨he86, rfl⟩
        have e87 := e76.trans he86
        refine T0_q (v := (.bool (!r83))) rfl (yl_not rfl) ?_
        refine T0_q (v := (.bool (!r83))) rfl (yl_move rfl) ?_
        refine T0_g (v := (.int .i64 r51.2)) (!(!r83)) (wanted_f rfl rfl rfl rfl) (fun hg => (yl_move rfl)) ?_
        refine T0_g (v := (.bool (!decide (r51.2 = 0)))) (!(!r83)) (wanted_f rfl rfl rfl rfl) (fun hg => (yl_neq (gd_true hg) rfl)) ?_
        refine T0_g (v := (.bool (!decide (r51.2 = 0)))) (!(!r83)) (wanted_f rfl rfl rfl rfl) (fun hg => (yl_move (gd_true hg))) ?_
        refine T0_g (v := (.int .i64 r51.2)) ((!(!r83)) && (!decide (r51.2 = 0))) (wanted_gt rfl rfl rfl rfl) (fun hg => (yl_move rfl)) ?_
        refine T0_g (v := (.bool (!decide (r51.2 = 12)))) ((!(!r83)) && (!decide (r51.2 = 0))) (wanted_gt rfl rfl rfl rfl) (fun hg => (yl_neq (gd_true hg) rfl)) ?_
        refine T0_g (v := (.bool ((!decide (r51.2 = 0)) && (!decide (r51.2 = 12))))) (!(!r83)) (wanted_f rfl rfl rfl rfl) (fun hg => (yl_and (gd_true hg) (fun hb => (gd_true (and_i hg hb))) rfl)) ?_
        refine T0_q (v := (.bool ((!r83) || ((!decide (r51.2 = 0)) && (!decide (r51.2 = 12)))))) rfl (yl_or rfl rfl (fun hb => (gd_true (not_t hb)))) ?_
        refine T0_nil ?_
        refine hK82 _ _ ?_
        refine WC_cond (b := ((!r83) || ((!decide (r51.2 = 0)) && (!decide (r51.2 = 12))))) rfl (fun hb88 => ?_) (fun hb88 => ?_)
        · replace h := cond_t hb88 h
          refine WC_seqK fun K89 hK89 => ?_
          refine WC_region ?_
          refine T0_q (v := (.bool true)) rfl (yl_assign rfl) ?_
          refine T0_nil ?_
          refine hK89 _ _ ?_
          refine WC_ret ?_
          replace h := some_out h
          subst h
          exact ⟨[(.bool true)], ⟨rfl, trivial⟩, e87, rfl⟩
        · replace h := cond_f hb88 h
          refine WC_skip ?_
          refine hK81 _ _ ?_
          refine WC_seqK fun K90 hK90 => ?_
          refine WC_region ?_
          refine T0_q (v := (.bool true)) rfl (yl_assign rfl) ?_
          refine T0_nil ?_
          refine hK90 _ _ ?_
          refine WC_seqK fun K91 hK91 => ?_
          refine WC_seqK fun K92 hK92 => ?_
          refine WC_region ?_
          refine T0_q (v := (.int .i64 0)) rfl (yl_assign rfl) ?_
          refine T0_nil ?_
          refine hK92 _ _ ?_
          obtain ⟨o209, hl210, hn211⟩ := bind_elim h
          refine WC_post (fun (ρ : Env) (wd200 : World) => ∃ (x205 : Bool), x205 = o209 ∧ ρ 1 = (.int .i64 p_String) ∧ ρ 5 = (.pointer (some ⟨b34, 0, none⟩)) ∧ ρ 8 = (.int .i64 r51.2) ∧ ρ 9 = (.bool x205) ∧ Box wd200 b34 [(.int .i64 r26.1.Modulus), (.int .i64 r26.1.Rest)] 53 ∧ Ext w wd200) ?_ ?_
          · intro K215 hK215
            refine WC_block ?_
            refine WC_loopk (fun sv ρ wd187 => ∃ (x194 : Bool) (x196 : Int), (x194, x196) = sv ∧ ρ 0 = v_p_Listappend ∧ ρ 1 = (.int .i64 p_String) ∧ ρ 5 = (.pointer (some ⟨b34, 0, none⟩)) ∧ ρ 8 = (.int .i64 r51.2) ∧ ρ 9 = (.bool x194) ∧ ρ 10 = (.int .i64 x196) ∧ SlRd ((.pointer (some ⟨b34, 0, none⟩)) :: L) wd187 v_p_Listappend p_Listappend ∧ Box wd187 b34 [(.int .i64 r26.1.Modulus), (.int .i64 r26.1.Rest)] 53 ∧ Ext w wd187) hl210 ⟨true, 0, rfl, rfl, rfl, rfl, rfl, rfl, rfl, ((h73.ext he86).sub (sub_cons (memS mem0) (sub_skip (sub_skip (sub_refl _))))), (h75.ext he86), e87⟩ ?_
            rintro _ ρ wd187 ⟨x194, x196, rfl, hs190, hs191, hs192, hs193, hs195, hs197, h189, hB199, e188⟩ x212 h hx213 K214 hK214
            refine WC_seqK fun K217 hK217 => ?_
            refine WC_seqK fun K218 hK218 => ?_
            refine WC_region ?_
            refine T0_q (v := (.int .i64 x196)) rfl (yl_move hs197) ?_
            refine T0_q (v := v_p_Listappend) rfl (yl_move hs190) ?_
            refine T0_q (v := (.int .i64 (p_Listappend.length : Int))) rfl (yl_lenR rfl Tryd.underlying51 h189 rfl) ?_
            refine T0_q (v := (.bool (decide (x196 < (p_Listappend.length : Int))))) rfl (yl_lss rfl rfl) ?_
            refine T0_nil ?_
            refine hK218 _ _ ?_
            refine WC_cond (b := (decide (x196 < (p_Listappend.length : Int)))) rfl (fun hb219 => ?_) (fun hb219 => ?_)
            · replace h := cond_t hb219 h
              refine WC_skip ?_
              refine hK217 _ _ ?_
              refine WC_seqK fun K220 hK220 => ?_
              refine WC_block ?_
              refine WC_plan mixed (.p 0 (.p 1 (.p 2 (.p 3 (.p 4 (.p 5 (.p 6 (.p 9 (.p 10 (.p 11 (.p 12 (.q 7 (.p 8 (.q 13 (.p 14 (.p 15 (.p 16 .done))))))))))))))))) (by kernel_rfl) ?_
              intro wd221 he222
              have e223 := e188.trans he222
              refine TP_p (v := (.bool x194)) rfl rfl (fun w' => (yl_move hs195)) ?_
              refine TP_p (v := (.bool x194)) rfl rfl (fun w' => (yl_move rfl)) ?_
              refine TP_gp (v := (.int .i64 p_String)) x194 rfl (wanted_t rfl rfl rfl rfl) (fun w' hg => (yl_move hs191)) ?_
              refine TP_gp (v := v_p_Listappend) x194 rfl (wanted_t rfl rfl rfl rfl) (fun w' hg => (yl_move hs190)) ?_
              refine TP_gp (v := (.int .i64 x196)) x194 rfl (wanted_t rfl rfl rfl rfl) (fun w' hg => (yl_move hs197)) ?_
              obtain ⟨el224, hel225, h⟩ := bind_elim h
              have hat227 : x194 = true → At wd187 (elemAddr v_p_Listappend (x196 : Int).toNat 2) [(.int .i64 el224.Modulus), (.int .i64 el224.Rest)] := fun hg => by obtain ⟨cs, hat, hrd⟩ := SlRd.at h189 (cond_t hg hel225); have hrd : cs = [(.int .i64 el224.Modulus), (.int .i64 el224.Rest)] := hrd; subst hrd; exact hat
              refine TP_gp (v := (.pointer (some (elemAddr v_p_Listappend (x196 : Int).toNat 2)))) x194 rfl (wanted_t rfl rfl rfl rfl) (fun w' hg => (yl_indexAddr Tryd.underlying51 sz53 h189 (cond_t hg hel225) (gd_true hg) (gd_true hg))) ?_
              refine TP_gp (v := (.pointer (some (elemAddr v_p_Listappend (x196 : Int).toNat 2)))) x194 rfl (wanted_t rfl rfl rfl rfl) (fun w' hg => (yl_fa 0 Tryd.underlying53 rfl rfl ⟨0, sz3⟩ (gd_true hg) rfl)) ?_
              refine TP_gp (v := v_p_Listappend) x194 rfl (wanted_t rfl rfl rfl rfl) (fun w' hg => (yl_move hs190)) ?_
              refine TP_gp (v := (.int .i64 x196)) x194 rfl (wanted_t rfl rfl rfl rfl) (fun w' hg => (yl_move hs197)) ?_
              obtain ⟨el229, hel230, h⟩ := bind_elim h
              have hat232 : x194 = true → At wd187 (elemAddr v_p_Listappend (x196 : Int).toNat 2) [(.int .i64 el229.Modulus), (.int .i64 el229.Rest)] := fun hg => by obtain ⟨cs, hat, hrd⟩ := SlRd.at h189 (cond_t hg hel230); have hrd : cs = [(.int .i64 el229.Modulus), (.int .i64 el229.Rest)] := hrd; subst hrd; exact hat
              refine TP_gp (v := (.pointer (some (elemAddr v_p_Listappend (x196 : Int).toNat 2)))) x194 rfl (wanted_t rfl rfl rfl rfl) (fun w' hg => (yl_indexAddr Tryd.underlying51 sz53 h189 (cond_t hg hel230) (gd_true hg) (gd_true hg))) ?_
              refine TP_gp (v := (.pointer (some (Addr.add (elemAddr v_p_Listappend (x196 : Int).toNat 2) 1)))) x194 rfl (wanted_t rfl rfl rfl rfl) (fun w' hg => (yl_fa 1 Tryd.underlying53 rfl rfl ⟨0, sz3⟩ (gd_true hg) rfl)) ?_
              refine TP_gq (v := (.int .i64 el224.Modulus)) x194 rfl (wanted_t rfl rfl rfl rfl) (fun w' hS hg => (yl_load sc3 (gd_true hg) ((hat227 hg).ext' ((he222).trans hS)))) ?_
              obtain ⟨q234, hq235, h⟩ := bind_elim h
              refine TP_gp (v := (.int .i64 q234)) x194 rfl (wanted_t rfl rfl rfl rfl) (fun w' hg => (yl_rem' (cond_t hg hq235) (gd_true hg) (gd_true hg))) ?_
              refine TP_gq (v := (.int .i64 el229.Rest)) x194 rfl (wanted_t rfl rfl rfl rfl) (fun w' hS hg => (yl_load sc3 (gd_true hg) (At.drop ((hat232 hg).ext' ((he222).trans hS)) 1))) ?_
              refine TP_gp (v := (.bool (decide (q234 = el229.Rest)))) x194 rfl (wanted_t rfl rfl rfl rfl) (fun w' hg => (yl_eql (gd_true hg) (gd_true hg))) ?_
              refine TP_p (v := (.bool (x194 && (decide (q234 = el229.Rest))))) rfl rfl (fun w' => (yl_and rfl (fun hb => (gd_true hb)) rfl)) ?_
              refine TP_p (v := (.bool (x194 && (decide (q234 = el229.Rest))))) rfl rfl (fun w' => (yl_assign rfl)) ?_
              refine TP_done ?_
              refine hK220 _ _ ?_
              refine WC_region ?_
              refine T0_q (v := (.int .i64 x196)) rfl (yl_move hs197) ?_
              refine T0_q (v := (.int .i64 (w64 (x196 + 1)))) rfl (yl_add rfl rfl) ?_
              refine T0_q (v := (.int .i64 (w64 (x196 + 1)))) rfl (yl_assign rfl) ?_
              refine T0_nil ?_
              replace h := some_out h
              subst h
              refine hK214 _ _ _ rfl ?_
              exact ⟨(x194 && (decide (q234 = el229.Rest))), w64 (x196 + 1), rfl, hs190, hs191, hs192, hs193, rfl, rfl, (h189.ext he222), (hB199.ext he222), e223⟩
            · replace h := cond_f hb219 h
              refine WC_exit ?_
              replace h := some_out h
              subst h
              have ho := hx213 _ rfl
              subst ho
              refine hK215 _ _ ?_
              exact ⟨x194, rfl, hs191, hs192, hs193, hs195, hB199, e188⟩
          · rintro ρ wd200 ⟨x205, rfl, hs202, hs203, hs204, hs206, hB208, e201⟩
            replace h := hn211
            refine hK91 _ _ ?_
            refine WC_seqK fun K236 hK236 => ?_
            refine WC_plan mixed (.p 0 (.p 1 (.p 2 (.p 3 (.p 4 (.p 5 (.p 8 (.q 6 (.p 7 (.q 9 (.p 10 (.p 11 (.p 12 (.p 13 .done)))))))))))))) (by kernel_rfl) ?_
            intro wd237 he238
            have e239 := e201.trans he238
            refine TP_p (v := (.bool x205)) rfl rfl (fun w' => (yl_move hs206)) ?_
            refine TP_p (v := (.int .i64 r51.2)) rfl rfl (fun w' => (yl_move hs204)) ?_
            refine TP_p (v := (.bool (decide (r51.2 = 0)))) rfl rfl (fun w' => (yl_eql rfl rfl)) ?_
            refine TP_p (v := (.bool (decide (r51.2 = 0)))) rfl rfl (fun w' => (yl_move rfl)) ?_
            refine TP_gp (v := (.int .i64 p_String)) (decide (r51.2 = 0)) rfl (wanted_t rfl rfl rfl rfl) (fun w' hg => (yl_move hs202)) ?_
            refine TP_gp (v := (.pointer (some ⟨b34, 0, none⟩))) (decide (r51.2 = 0)) rfl (wanted_t rfl rfl rfl rfl) (fun w' hg => (yl_fa 0 Tryd.underlying53 rfl rfl ⟨0, sz3⟩ hs203 rfl)) ?_
            refine TP_gp (v := (.pointer (some ⟨b34, 1, none⟩))) (decide (r51.2 = 0)) rfl (wanted_t rfl rfl rfl rfl) (fun w' hg => (yl_fa 1 Tryd.underlying53 rfl rfl ⟨0, sz3⟩ hs203 rfl)) ?_
            refine TP_gq (v := (.int .i64 r26.1.Modulus)) (decide (r51.2 = 0)) rfl (wanted_t rfl rfl rfl rfl) (fun w' hS hg => (yl_load sc3 (gd_true hg) (Box.at (hB208.ext ((he238).trans hS))))) ?_
            obtain ⟨q240, hq241, h⟩ := bind_elim h
            refine TP_gp (v := (.int .i64 q240)) (decide (r51.2 = 0)) rfl (wanted_t rfl rfl rfl rfl) (fun w' hg => (yl_rem' (cond_t hg hq241) (gd_true hg) (gd_true hg))) ?_
            refine TP_gq (v := (.int .i64 r26.1.Rest)) (decide (r51.2 = 0)) rfl (wanted_t rfl rfl rfl rfl) (fun w' hS hg => (yl_load sc3 (gd_true hg) (At.drop (Box.at (hB208.ext ((he238).trans hS))) 1))) ?_
            refine TP_gp (v := (.bool (decide (q240 = r26.1.Rest)))) (decide (r51.2 = 0)) rfl (wanted_t rfl rfl rfl rfl) (fun w' hg => (yl_eql (gd_true hg) (gd_true hg))) ?_
            refine TP_p (v := (.bool ((decide (r51.2 = 0)) && (decide (q240 = r26.1.Rest))))) rfl rfl (fun w' => (yl_and rfl (fun hb => (gd_true hb)) rfl)) ?_
            refine TP_p (v := (.bool (x205 == ((decide (r51.2 = 0)) && (decide (q240 = r26.1.Rest)))))) rfl rfl (fun w' => (yl_eqlB Tryd.underlying4 rfl rfl)) ?_
            refine TP_p (v := (.bool (x205 == ((decide (r51.2 = 0)) && (decide (q240 = r26.1.Rest)))))) rfl rfl (fun w' => (yl_assign rfl)) ?_
            refine TP_done ?_
            refine hK236 _ _ ?_
            refine WC_ret ?_
            replace h := some_out h
            subst h
            exact ⟨[(.bool (x205 == ((decide (r51.2 = 0)) && (decide (q240 = r26.1.Rest)))))], ⟨rfl, trivial⟩, e239, rfl⟩

end Go.Gw
