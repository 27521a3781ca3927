/- What functions come to, printed by a program of this work. No condition. -/
import Derived.Test.YtgpapebgdnimfaaDoorGwFnA
set_option maxRecDepth 4096
set_option maxHeartbeats 1000000
set_option linter.unusedVariables false
namespace Go.Gw
open Go Go.Proofs
attribute [local irreducible] T0 TS TT TP Eff Stp WC Quiet gd
noncomputable def locate_Joined_s0 (p_Listappend : (List LocateRest)) : (Int) → Option ((Int) ⊕ ((LocateRest × Int) ⊕ (Unit))) := fun x234 =>
  (bif (decide (x234 < (p_Listappend.length : Int))) then (
    (Option.bind (idx p_Listappend x234) fun el259 =>
    (Option.bind (locate_within_spec el259.Modulus 1 1000) fun r282 =>
    (Option.bind (bif (!(!r282)) then locate_within_spec el259.Rest 0 (w64 (el259.Modulus - 1)) else some default) fun r287 =>
    (bif ((!r282) || (!r287)) then (
      some (.inr (.inl ((LocateRest.mk 0 0), 2)))
    ) else (
      some (.inl (w64 (x234 + 1)))
    ))
    )
    )
    )
  ) else (
    some (.inr (.inr ()))
  ))
noncomputable def locate_Joined_s1 (p_Listappend : (List LocateRest)) : (Int × Int) → Option ((Int × Int) ⊕ ((LocateRest × Int) ⊕ (Unit))) := fun (x489, x493) =>
  (bif (decide (x493 < (p_Listappend.length : Int))) then (
    (Option.bind (idx p_Listappend x493) fun el517 =>
    (Option.bind (locate_divisor_spec x489 el517.Modulus) fun r543 =>
    (Option.bind (quo el517.Modulus r543) fun q549 =>
    (bif (decide (1000000000 < w64 (x489 * q549))) then (
      some (.inr (.inl ((LocateRest.mk 0 0), 8)))
    ) else (
      some (.inl (w64 (x489 * q549), w64 (x493 + 1)))
    ))
    )
    )
    )
  ) else (
    some (.inr (.inr ()))
  ))
noncomputable def locate_Joined_s2 (el1442 : LocateRest) (x1415 : Int) : (Int × Int) → Option ((Int × Int) ⊕ (((Int × Int × Int) ⊕ ((LocateRest × Int) ⊕ (Int × Int))) ⊕ (Int))) := fun (x1606, x1616) =>
  (Option.bind (rem x1616 el1442.Modulus) fun q1648 =>
  (bif (!decide (q1648 = el1442.Rest)) then (
    (bif (decide (el1442.Modulus < w64 (x1606 + 1))) then (
      some (.inr (.inl (.inr (.inl ((LocateRest.mk 0 0), 12)))))
    ) else (
      some (.inl (w64 (x1606 + 1), w64 (x1616 + x1415)))
    ))
  ) else (
    some (.inr (.inr x1616))
  ))
  )
noncomputable def locate_Joined_s3 (p_Listappend : (List LocateRest)) : (Int × Int × Int) → Option ((Int × Int × Int) ⊕ ((LocateRest × Int) ⊕ (Int × Int))) := fun (x1411, x1415, x1416) =>
  (bif (decide (x1411 < (p_Listappend.length : Int))) then (
    (Option.bind (idx p_Listappend x1411) fun el1442 =>
    (Option.bind (loop (locate_Joined_s2 el1442 x1415) (0, x1416)) fun o1635 => jn0 o1635 fun (x1632 : Int) =>
    (Option.bind (locate_divisor_spec x1415 el1442.Modulus) fun r1674 =>
    (Option.bind (quo el1442.Modulus r1674) fun q1680 =>
    (Option.bind (rem x1632 (w64 (x1415 * q1680))) fun q1689 =>
    some (.inl (w64 (x1411 + 1), w64 (x1415 * q1680), q1689))
    )
    )
    )
    )
    )
  ) else (
    some (.inr (.inr (x1415, x1416)))
  ))
noncomputable def locate_Joined_spec (p_Listappend : (List LocateRest)) : Option (LocateRest × Int) :=
  (Option.bind (locate_unless_spec (decide (0 < (p_Listappend.length : Int))) 10) fun r14 =>
  (Option.bind (locate_unless_spec (decide ((p_Listappend.length : Int) ≤ 6)) 8) fun r19 =>
  (Option.bind (locate_first_spec ([r14, r19] : List Int)) fun r32 =>
  (bif (!decide (r32 = 0)) then (
    some ((LocateRest.mk 0 0), r32)
  ) else (
    (Option.bind (loop (locate_Joined_s0 p_Listappend) 0) fun o246 => jn0 o246 fun (_ : Unit) =>
    (Option.bind (loop (locate_Joined_s1 p_Listappend) (1, 0)) fun o504 => jn0 o504 fun (_ : Unit) =>
    (Option.bind (loop (locate_Joined_s3 p_Listappend) (0, 1, 0)) fun o1429 => jn0 o1429 fun ((x1425, x1426) : Int × Int) =>
    some ((LocateRest.mk x1425 x1426), 0)
    )
    )
    )
  ))
  )
  )
  )
theorem locate_Joined_ok (L : List Value) (w : World) (hL : LtL L w) (v_p_Listappend : Value) (p_Listappend : (List LocateRest)) (h_p_Listappend : SlRd L w v_p_Listappend p_Listappend) (r : LocateRest × Int) (h : locate_Joined_spec p_Listappend = some r) :
    CallsTo Tryd.prog 32 [v_p_Listappend] w (fun v w' => Ext w w' ∧ ∃ (cs0 : List Value), (.tuple #[(.agg cs0.toArray), (.int .i64 r.2)]) = v ∧ Rep.rd L w' cs0 r.1) := by
  have e0 : Ext w w := Chg.refl _ _
  refine callsTo_of_WC (n := 116) (rs := [.cell 2 53, .tmp 3]) Tryd.func32 rfl rfl rfl rfl rfl ?_
  refine WC_seqK fun K2 hK2 => ?_
  refine WC_region ?_
  refine T0_e rfl (eff_allocZ zi53 ?_)
  intro b3 wd4 hb5 he6 hB7
  have hbf8 := bfresh e0 hb5
  have h9 := h_p_Listappend.step (add_box he6 hb5)
  have e10 := e0.trans he6
  refine T0_q (v := (.int .i64 0)) rfl (yl_assign rfl) ?_
  refine T0_nil ?_
  refine hK2 _ _ ?_
  refine WC_seqK fun K12 hK12 => ?_
  refine WC_seqK fun K13 hK13 => ?_
  refine WC_region ?_
  refine T0_q (v := v_p_Listappend) rfl (yl_move rfl) ?_
  refine T0_q (v := (.int .i64 (p_Listappend.length : Int))) rfl (yl_lenR rfl Tryd.underlying51 h9 rfl) ?_
  refine T0_q (v := (.bool (decide (0 < (p_Listappend.length : Int))))) rfl (yl_gtr rfl rfl) ?_
  obtain ⟨r14, hr15, h⟩ := bind_elim h
  refine T0_e rfl (eff_call Tryd.func85 nm85 rfl (ev2 rfl rfl) (locate_unless_ok [] _ (LtL.nil _) (decide (0 < (p_Listappend.length : Int))) 10 r14 hr15) ?_)
  rintro _ wd16 ⟨he17, rfl⟩
  have e18 := e10.trans he17
  refine T0_q (v := v_p_Listappend) rfl (yl_move rfl) ?_
  refine T0_q (v := (.int .i64 (p_Listappend.length : Int))) rfl (yl_lenR rfl Tryd.underlying51 h9 rfl) ?_
  refine T0_q (v := (.bool (decide ((p_Listappend.length : Int) ≤ 6)))) rfl (yl_leq rfl rfl) ?_
  obtain ⟨r19, hr20, h⟩ := bind_elim h
  refine T0_e rfl (eff_call Tryd.func85 nm85 rfl (ev2 rfl rfl) (locate_unless_ok [] _ (LtL.nil _) (decide ((p_Listappend.length : Int) ≤ 6)) 8 r19 hr20) ?_)
  rintro _ wd21 ⟨he22, rfl⟩
  have e23 := he17.trans he22
  have e24 := e18.trans he22
  refine T0_e rfl (eff_buildTC (xs := ([r14, r19] : List Int)) (cells := [(.int .i64 r14), (.int .i64 r19)]) Tryd.underlying164 ei30 rfl (pc_cons rfl rfl (pc_cons rfl rfl pc_nil)) rfl (Elems.cons (cs := [(.int .i64 r14)]) rfl (Elems.cons (cs := [(.int .i64 r19)]) rfl Elems.nil)) rfl (ltl_box (hL.chg e24) (hB7.ext e23)) ?_)
  intro b28 wd25 he26 h27
  have e29 := e23.trans he26
  have e30 := e24.trans he26
  obtain ⟨r32, hr33, h⟩ := bind_elim h
  refine T0_e rfl (eff_call Tryd.func84 nm84 rfl (ev1 rfl) (locate_first_ok [] _ (LtL.nil _) (.slice (some ⟨b28, 0, none⟩) 2 2) ([r14, r19] : List Int) (h27.sub (fun _ h => by cases h)) r32 hr33) ?_)
  rintro _ wd34 ⟨he35, rfl⟩
  have e36 := e29.trans he35
  have e37 := e30.trans he35
  refine T0_q (v := (.int .i64 r32)) rfl (yl_assign rfl) ?_
  refine T0_nil ?_
  refine hK13 _ _ ?_
  refine WC_seqK fun K38 hK38 => ?_
  refine WC_region ?_
  refine T0_q (v := (.int .i64 r32)) rfl (yl_move rfl) ?_
  refine T0_q (v := (.bool (!decide (r32 = 0)))) rfl (yl_neq rfl rfl) ?_
  refine T0_nil ?_
  refine hK38 _ _ ?_
  refine WC_cond (b := (!decide (r32 = 0))) rfl (fun hb39 => ?_) (fun hb39 => ?_)
  · replace h := cond_t hb39 h
    refine WC_seqK fun K40 hK40 => ?_
    refine WC_region ?_
    refine T0_q (v := (.agg (List.toArray [(.int .i64 0), (.int .i64 0)]))) rfl (yl_buildC (cells := [(.int .i64 0), (.int .i64 0)]) bi53 pc_nil rfl) ?_
    refine T0_q (v := (.int .i64 r32)) rfl (yl_move rfl) ?_
    refine T0_e rfl (eff_storeC (vs := [(.int .i64 0), (.int .i64 0)]) (cs' := [(.int .i64 0), (.int .i64 0)]) sz53 rfl rfl rfl rfl (hB7.ext e36) rfl (oc_cons rfl (oc_cons rfl oc_nil)) rfl ?_)
    intro wd41 hc42 hB43
    have h44 := (h9.ext e36).step (Stepp.chg_mem hc42 mem0)
    have h45 := (h27.ext he35).step (Stepp.chg_mem hc42 mem0)
    have e46 := chg_box e37 hc42 hbf8
    refine T0_q (v := (.int .i64 r32)) rfl (yl_assign rfl) ?_
    refine T0_nil ?_
    refine hK40 _ _ ?_
    refine WC_ret ?_
    replace h := some_out h
    subst h
    exact ⟨[(.agg (List.toArray [(.int .i64 0), (.int .i64 0)])), (.int .i64 r32)], ⟨⟨_, rfl, run_loadVarA (cs := [(.int .i64 0), (.int .i64 0)]) ag53 (Box.at hB43)⟩, rfl, trivial⟩, e46, [(.int .i64 0), (.int .i64 0)], rfl, rfl⟩
  · replace h := cond_f hb39 h
    refine WC_skip ?_
    refine hK12 _ _ ?_
    refine WC_seqK fun K47 hK47 => ?_
    refine WC_region ?_
    refine T0_q (v := (.int .i64 1)) rfl (yl_assign rfl) ?_
    refine T0_nil ?_
    refine hK47 _ _ ?_
    refine WC_seqK fun K48 hK48 => ?_
    refine WC_seqK fun K49 hK49 => ?_
    refine WC_region ?_
    refine T0_q (v := v_p_Listappend) rfl (yl_move rfl) ?_
    refine T0_q (v := (.int .i64 (p_Listappend.length : Int))) rfl (yl_lenR rfl Tryd.underlying51 h9 rfl) ?_
    refine T0_q (v := (.int .i64 0)) rfl (yl_move rfl) ?_
    refine T0_nil ?_
    refine hK49 _ _ ?_
    obtain ⟨o246, hl247, hn248⟩ := bind_elim h
    refine WC_post (fun (ρ : Env) (wd238 : World) => .inr () = o246 ∧ ρ 0 = v_p_Listappend ∧ ρ 2 = (.pointer (some ⟨b3, 0, none⟩)) ∧ ρ 5 = (.int .i64 1) ∧ SlRd ((.pointer (some ⟨b3, 0, none⟩)) :: L) wd238 v_p_Listappend p_Listappend ∧ Box wd238 b3 [(.int .i64 0), (.int .i64 0)] 53 ∧ Ext w wd238) ?_ ?_
    · intro K252 hK252
      refine WC_block ?_
      refine WC_loopk (fun sv ρ wd226 => ∃ (x234 : Int), x234 = sv ∧ ρ 0 = v_p_Listappend ∧ ρ 2 = (.pointer (some ⟨b3, 0, none⟩)) ∧ ρ 5 = (.int .i64 1) ∧ ρ 28 = v_p_Listappend ∧ ρ 29 = (.int .i64 (p_Listappend.length : Int)) ∧ ρ 30 = (.int .i64 x234) ∧ SlRd ((.pointer (some ⟨b3, 0, none⟩)) :: L) wd226 v_p_Listappend p_Listappend ∧ Box wd226 b3 [(.int .i64 0), (.int .i64 0)] 53 ∧ Ext w wd226) hl247 ⟨0, rfl, rfl, rfl, rfl, rfl, rfl, rfl, (h9.ext e36), (hB7.ext e36), e37⟩ ?_
      rintro _ ρ wd226 ⟨x234, rfl, hs229, hs230, hs231, hs232, hs233, hs235, h228, hB237, e227⟩ x249 h hx250 K251 hK251
      refine WC_seqK fun K254 hK254 => ?_
      refine WC_region ?_
      refine T0_q (v := (.bool (decide (x234 < (p_Listappend.length : Int))))) rfl (yl_lss hs235 hs233) ?_
      refine T0_nil ?_
      refine hK254 _ _ ?_
      refine WC_seqK fun K255 hK255 => ?_
      refine WC_cond (b := (decide (x234 < (p_Listappend.length : Int)))) rfl (fun hb256 => ?_) (fun hb256 => ?_)
      · replace h := cond_t hb256 h
        refine WC_skip ?_
        refine hK255 _ _ ?_
        refine WC_seqK fun K257 hK257 => ?_
        refine WC_block ?_
        refine WC_seqK fun K258 hK258 => ?_
        refine WC_region ?_
        obtain ⟨el259, hel260, h⟩ := bind_elim h
        obtain ⟨cs261, hat262, hrd263⟩ := SlRd.at h228 hel260
        have hrd263 : cs261 = [(.int .i64 el259.Modulus), (.int .i64 el259.Rest)] := hrd263
        subst hrd263
        refine T0_q (v := (.pointer (some (elemAddr v_p_Listappend (x234 : Int).toNat 2)))) rfl (yl_indexAddr Tryd.underlying51 sz53 h228 hel260 hs232 hs235) ?_
        refine T0_q (v := (.agg (List.toArray [(.int .i64 el259.Modulus), (.int .i64 el259.Rest)]))) rfl (yl_loadA (cs := [(.int .i64 el259.Modulus), (.int .i64 el259.Rest)]) ag53 rfl hat262) ?_
        refine T0_e rfl (eff_allocZ zi53 ?_)
        intro b265 wd266 hb267 he268 hB269
        have hn270 : b265 ≠ b3 := box_ne hB237 hb267
        have hbf271 := bfresh e227 hb267
        have h272 := h228.step (add_box he268 hb267)
        have e273 := e227.trans he268
        refine T0_e rfl (eff_storeC (vs := [(.int .i64 el259.Modulus), (.int .i64 el259.Rest)]) (cs' := [(.int .i64 el259.Modulus), (.int .i64 el259.Rest)]) sz53 rfl rfl rfl rfl hB269 rfl (oc_cons rfl (oc_cons rfl oc_nil)) rfl ?_)
        intro wd275 hc276 hB277
        have h278 := h272.step (Stepp.chg_mem hc276 mem0)
        have h279 := (hB237.ext he268).chg hc276 (avoidb hn270)
        have e280 := chg_box e273 hc276 hbf271
        refine T0_nil ?_
        refine hK258 _ _ ?_
        refine WC_seqK fun K281 hK281 => ?_
        refine WC_region ?_
        refine T0_q (v := (.pointer (some ⟨b265, 0, none⟩))) rfl (yl_fa 0 Tryd.underlying53 rfl rfl ⟨0, sz3⟩ rfl rfl) ?_
        refine T0_q (v := (.int .i64 el259.Modulus)) rfl (yl_load sc3 rfl (Box.at hB277)) ?_
        obtain ⟨r282, hr283, h⟩ := bind_elim h
        refine T0_e rfl (eff_call Tryd.func86 nm86 rfl (ev3 rfl rfl rfl) (locate_within_ok [] _ (LtL.nil _) el259.Modulus 1 1000 r282 hr283) ?_)
        rintro _ wd284 ⟨he285, rfl⟩
        have e286 := e280.trans he285
        refine T0_q (v := (.bool (!r282))) rfl (yl_not rfl) ?_
        refine T0_q (v := (.bool (!r282))) rfl (yl_move rfl) ?_
        refine T0_g (v := (.pointer (some ⟨b265, 1, none⟩))) (!(!r282)) (wanted_f rfl rfl rfl rfl) (fun hg => (yl_fa 1 Tryd.underlying53 rfl rfl ⟨0, sz3⟩ rfl rfl)) ?_
        refine T0_g (v := (.int .i64 el259.Rest)) (!(!r282)) (wanted_f rfl rfl rfl rfl) (fun hg => (yl_load sc3 (gd_true hg) (At.drop (Box.at (hB277.ext he285)) 1))) ?_
        refine T0_g (v := (.pointer (some ⟨b265, 0, none⟩))) (!(!r282)) (wanted_f rfl rfl rfl rfl) (fun hg => (yl_fa 0 Tryd.underlying53 rfl rfl ⟨0, sz3⟩ rfl rfl)) ?_
        refine T0_g (v := (.int .i64 el259.Modulus)) (!(!r282)) (wanted_f rfl rfl rfl rfl) (fun hg => (yl_load sc3 (gd_true hg) (Box.at (hB277.ext he285)))) ?_
        refine T0_g (v := (.int .i64 (w64 (el259.Modulus - 1)))) (!(!r282)) (wanted_f rfl rfl rfl rfl) (fun hg => (yl_sub (gd_true hg) rfl)) ?_
        obtain ⟨r287, hr288, h⟩ := bind_elim h
        refine T0_ges (!(!r282)) (.bool r287) (wanted_f rfl rfl rfl rfl) (fun hg => eff_call Tryd.func86 nm86 rfl (ev3 (gd_true hg) rfl (gd_true hg)) (locate_within_ok [] _ (LtL.nil _) el259.Rest 0 (w64 (el259.Modulus - 1)) r287 (cond_t hg hr288)) (by rintro _ wd289 ⟨he290, rfl⟩; exact ⟨rfl, he290⟩)) ?_
        intro wd289 he290
        have e291 := he285.trans he290
        have e292 := e286.trans he290
        refine T0_g (v := (.bool (!r287))) (!(!r282)) (wanted_f rfl rfl rfl rfl) (fun hg => (yl_not (gd_true hg))) ?_
        refine T0_q (v := (.bool ((!r282) || (!r287)))) rfl (yl_or rfl rfl (fun hb => (gd_true (not_t hb)))) ?_
        refine T0_nil ?_
        refine hK281 _ _ ?_
        refine WC_cond (b := ((!r282) || (!r287))) rfl (fun hb293 => ?_) (fun hb293 => ?_)
        · replace h := cond_t hb293 h
          refine WC_seqK fun K294 hK294 => ?_
          refine WC_region ?_
          refine T0_q (v := (.agg (List.toArray [(.int .i64 0), (.int .i64 0)]))) rfl (yl_buildC (cells := [(.int .i64 0), (.int .i64 0)]) bi53 pc_nil rfl) ?_
          refine T0_e rfl (eff_storeC (vs := [(.int .i64 0), (.int .i64 0)]) (cs' := [(.int .i64 0), (.int .i64 0)]) sz53 rfl rfl hs230 rfl (h279.ext e291) rfl (oc_cons rfl (oc_cons rfl oc_nil)) rfl ?_)
          intro wd295 hc296 hB297
          have h298 := (h278.ext e291).step (Stepp.chg_mem hc296 (memS mem0))
          have h299 := (hB277.ext e291).chg hc296 (avoidb hn270.symm)
          have e300 := chg_box e292 hc296 hbf8
          refine T0_q (v := (.int .i64 2)) rfl (yl_assign rfl) ?_
          refine T0_nil ?_
          refine hK294 _ _ ?_
          refine WC_ret ?_
          replace h := some_out h
          subst h
          have ho := hx250 _ rfl
          subst ho
          replace h := jn0_inl hn248
          replace h := some_out h
          subst h
          exact ⟨[(.agg (List.toArray [(.int .i64 0), (.int .i64 0)])), (.int .i64 2)], ⟨⟨_, hs230, run_loadVarA (cs := [(.int .i64 0), (.int .i64 0)]) ag53 (Box.at hB297)⟩, rfl, trivial⟩, e300, [(.int .i64 0), (.int .i64 0)], rfl, rfl⟩
        · replace h := cond_f hb293 h
          refine WC_skip ?_
          refine hK257 _ _ ?_
          refine WC_region ?_
          refine T0_q (v := (.int .i64 (w64 (x234 + 1)))) rfl (yl_add hs235 rfl) ?_
          refine T0_q (v := (.int .i64 (w64 (x234 + 1)))) rfl (yl_move rfl) ?_
          refine T0_nil ?_
          replace h := some_out h
          subst h
          refine hK251 _ _ _ rfl ?_
          exact ⟨w64 (x234 + 1), rfl, hs229, hs230, hs231, hs232, hs233, rfl, ((h278.ext e291).sub (sub_cons (memS mem0) (sub_skip (sub_skip (sub_refl _))))), (h279.ext e291), e292⟩
      · replace h := cond_f hb256 h
        refine WC_exit ?_
        replace h := some_out h
        subst h
        have ho := hx250 _ rfl
        subst ho
        refine hK252 _ _ ?_
        exact ⟨rfl, hs229, hs230, hs231, h228, hB237, e227⟩
    · rintro ρ wd238 ⟨rfl, hs241, hs242, hs243, h240, hB245, e239⟩
      replace h := jn0_inr hn248
      refine hK48 _ _ ?_
      refine WC_seqK fun K301 hK301 => ?_
      refine WC_seqK fun K302 hK302 => ?_
      refine WC_region ?_
      refine T0_q (v := v_p_Listappend) rfl (yl_move hs241) ?_
      refine T0_q (v := (.int .i64 (p_Listappend.length : Int))) rfl (yl_lenR rfl Tryd.underlying51 h240 rfl) ?_
      refine T0_q (v := (.int .i64 0)) rfl (yl_move rfl) ?_
      refine T0_nil ?_
      refine hK302 _ _ ?_
      obtain ⟨o504, hl505, hn506⟩ := bind_elim h
      refine WC_post (fun (ρ : Env) (wd497 : World) => .inr () = o504 ∧ ρ 0 = v_p_Listappend ∧ ρ 2 = (.pointer (some ⟨b3, 0, none⟩)) ∧ SlRd ((.pointer (some ⟨b3, 0, none⟩)) :: L) wd497 v_p_Listappend p_Listappend ∧ Box wd497 b3 [(.int .i64 0), (.int .i64 0)] 53 ∧ Ext w wd497) ?_ ?_
      · intro K510 hK510
        refine WC_block ?_
        refine WC_loopk (fun sv ρ wd484 => ∃ (x489 : Int) (x493 : Int), (x489, x493) = sv ∧ ρ 0 = v_p_Listappend ∧ ρ 2 = (.pointer (some ⟨b3, 0, none⟩)) ∧ ρ 5 = (.int .i64 x489) ∧ ρ 49 = v_p_Listappend ∧ ρ 50 = (.int .i64 (p_Listappend.length : Int)) ∧ ρ 51 = (.int .i64 x493) ∧ SlRd ((.pointer (some ⟨b3, 0, none⟩)) :: L) wd484 v_p_Listappend p_Listappend ∧ Box wd484 b3 [(.int .i64 0), (.int .i64 0)] 53 ∧ Ext w wd484) hl505 ⟨1, 0, rfl, hs241, hs242, hs243, rfl, rfl, rfl, h240, hB245, e239⟩ ?_
        rintro _ ρ wd484 ⟨x489, x493, rfl, hs487, hs488, hs490, hs491, hs492, hs494, h486, hB496, e485⟩ x507 h hx508 K509 hK509
        refine WC_seqK fun K512 hK512 => ?_
        refine WC_region ?_
        refine T0_q (v := (.bool (decide (x493 < (p_Listappend.length : Int))))) rfl (yl_lss hs494 hs492) ?_
        refine T0_nil ?_
        refine hK512 _ _ ?_
        refine WC_seqK fun K513 hK513 => ?_
        refine WC_cond (b := (decide (x493 < (p_Listappend.length : Int)))) rfl (fun hb514 => ?_) (fun hb514 => ?_)
        · replace h := cond_t hb514 h
          refine WC_skip ?_
          refine hK513 _ _ ?_
          refine WC_seqK fun K515 hK515 => ?_
          refine WC_block ?_
          refine WC_seqK fun K516 hK516 => ?_
          refine WC_region ?_
          obtain ⟨el517, hel518, h⟩ := bind_elim h
          obtain ⟨cs519, hat520, hrd521⟩ := SlRd.at h486 hel518
          have hrd521 : cs519 = [(.int .i64 el517.Modulus), (.int .i64 el517.Rest)] := hrd521
          subst hrd521
          refine T0_q (v := (.pointer (some (elemAddr v_p_Listappend (x493 : Int).toNat 2)))) rfl (yl_indexAddr Tryd.underlying51 sz53 h486 hel518 hs491 hs494) ?_
          refine T0_q (v := (.agg (List.toArray [(.int .i64 el517.Modulus), (.int .i64 el517.Rest)]))) rfl (yl_loadA (cs := [(.int .i64 el517.Modulus), (.int .i64 el517.Rest)]) ag53 rfl hat520) ?_
          refine T0_e rfl (eff_allocZ zi53 ?_)
          intro b523 wd524 hb525 he526 hB527
          have hn528 : b523 ≠ b3 := box_ne hB496 hb525
          have hbf529 := bfresh e485 hb525
          have h530 := h486.step (add_box he526 hb525)
          have e531 := e485.trans he526
          refine T0_e rfl (eff_storeC (vs := [(.int .i64 el517.Modulus), (.int .i64 el517.Rest)]) (cs' := [(.int .i64 el517.Modulus), (.int .i64 el517.Rest)]) sz53 rfl rfl rfl rfl hB527 rfl (oc_cons rfl (oc_cons rfl oc_nil)) rfl ?_)
          intro wd533 hc534 hB535
          have h536 := h530.step (Stepp.chg_mem hc534 mem0)
          have h537 := (hB496.ext he526).chg hc534 (avoidb hn528)
          have e538 := chg_box e531 hc534 hbf529
          refine T0_nil ?_
          refine hK516 _ _ ?_
          refine WC_seqK fun K539 hK539 => ?_
          refine WC_plan mixed (.p 0 (.p 1 (.p 3 (.p 4 (.q 2 (.q 5 (.e 6 (.p 7 (.p 8 (.p 9 .done)))))))))) (by kernel_rfl) ?_
          intro wd540 he541
          have e542 := e538.trans he541
          refine TP_p (v := (.int .i64 x489)) rfl rfl (fun w' => (yl_move hs490)) ?_
          refine TP_p (v := (.pointer (some ⟨b523, 0, none⟩))) rfl rfl (fun w' => (yl_fa 0 Tryd.underlying53 rfl rfl ⟨0, sz3⟩ rfl rfl)) ?_
          refine TP_p (v := (.int .i64 x489)) rfl rfl (fun w' => (yl_move hs490)) ?_
          refine TP_p (v := (.pointer (some ⟨b523, 0, none⟩))) rfl rfl (fun w' => (yl_fa 0 Tryd.underlying53 rfl rfl ⟨0, sz3⟩ rfl rfl)) ?_
          refine TP_q (v := (.int .i64 el517.Modulus)) rfl rfl (fun w' hS => (yl_load sc3 rfl (Box.at (hB535.ext ((he541).trans hS))))) ?_
          refine TP_q (v := (.int .i64 el517.Modulus)) rfl rfl (fun w' hS => (yl_load sc3 rfl (Box.at (hB535.ext ((he541).trans hS))))) ?_
          obtain ⟨r543, hr544, h⟩ := bind_elim h
          refine TP_e rfl rfl (eff_call Tryd.func91 nm91 rfl (ev2 rfl rfl) (locate_divisor_ok [] _ (LtL.nil _) x489 el517.Modulus r543 hr544) ?_)
          rintro _ wd545 ⟨he546, rfl⟩
          have e547 := he541.trans he546
          have e548 := e542.trans he546
          refine ⟨he546, ?_⟩
          obtain ⟨q549, hq550, h⟩ := bind_elim h
          refine TP_p (v := (.int .i64 q549)) rfl rfl (fun w' => (yl_quo' hq550 rfl rfl)) ?_
          refine TP_p (v := (.int .i64 (w64 (x489 * q549)))) rfl rfl (fun w' => (yl_mul rfl rfl)) ?_
          refine TP_p (v := (.int .i64 (w64 (x489 * q549)))) rfl rfl (fun w' => (yl_assign rfl)) ?_
          refine TP_done ?_
          refine hK539 _ _ ?_
          refine WC_seqK fun K551 hK551 => ?_
          refine WC_region ?_
          refine T0_q (v := (.int .i64 (w64 (x489 * q549)))) rfl (yl_move rfl) ?_
          refine T0_q (v := (.bool (decide (1000000000 < w64 (x489 * q549))))) rfl (yl_gtr rfl rfl) ?_
          refine T0_nil ?_
          refine hK551 _ _ ?_
          refine WC_cond (b := (decide (1000000000 < w64 (x489 * q549)))) rfl (fun hb552 => ?_) (fun hb552 => ?_)
          · replace h := cond_t hb552 h
            refine WC_seqK fun K553 hK553 => ?_
            refine WC_region ?_
            refine T0_q (v := (.agg (List.toArray [(.int .i64 0), (.int .i64 0)]))) rfl (yl_buildC (cells := [(.int .i64 0), (.int .i64 0)]) bi53 pc_nil rfl) ?_
            refine T0_e rfl (eff_storeC (vs := [(.int .i64 0), (.int .i64 0)]) (cs' := [(.int .i64 0), (.int .i64 0)]) sz53 rfl rfl hs488 rfl (h537.ext e547) rfl (oc_cons rfl (oc_cons rfl oc_nil)) rfl ?_)
            intro wd554 hc555 hB556
            have h557 := (h536.ext e547).step (Stepp.chg_mem hc555 (memS mem0))
            have h558 := (hB535.ext e547).chg hc555 (avoidb hn528.symm)
            have e559 := chg_box e548 hc555 hbf8
            refine T0_q (v := (.int .i64 8)) rfl (yl_assign rfl) ?_
            refine T0_nil ?_
            refine hK553 _ _ ?_
            refine WC_ret ?_
            replace h := some_out h
            subst h
            have ho := hx508 _ rfl
            subst ho
            replace h := jn0_inl hn506
            replace h := some_out h
            subst h
            exact ⟨[(.agg (List.toArray [(.int .i64 0), (.int .i64 0)])), (.int .i64 8)], ⟨⟨_, hs488, run_loadVarA (cs := [(.int .i64 0), (.int .i64 0)]) ag53 (Box.at hB556)⟩, rfl, trivial⟩, e559, [(.int .i64 0), (.int .i64 0)], rfl, rfl⟩
          · replace h := cond_f hb552 h
            refine WC_skip ?_
            refine hK515 _ _ ?_
            refine WC_region ?_
            refine T0_q (v := (.int .i64 (w64 (x493 + 1)))) rfl (yl_add hs494 rfl) ?_
            refine T0_q (v := (.int .i64 (w64 (x493 + 1)))) rfl (yl_move rfl) ?_
            refine T0_nil ?_
            replace h := some_out h
            subst h
            refine hK509 _ _ _ rfl ?_
            exact ⟨w64 (x489 * q549), w64 (x493 + 1), rfl, hs487, hs488, rfl, hs491, hs492, rfl, ((h536.ext e547).sub (sub_cons (memS mem0) (sub_skip (sub_skip (sub_refl _))))), (h537.ext e547), e548⟩
        · replace h := cond_f hb514 h
          refine WC_exit ?_
          replace h := some_out h
          subst h
          have ho := hx508 _ rfl
          subst ho
          refine hK510 _ _ ?_
          exact ⟨rfl, hs487, hs488, h486, hB496, e485⟩
      · rintro ρ wd497 ⟨rfl, hs500, hs501, h499, hB503, e498⟩
        replace h := jn0_inr hn506
        refine hK301 _ _ ?_
        refine WC_seqK fun K560 hK560 => ?_
        refine WC_region ?_
        refine T0_q (v := (.agg (List.toArray [(.int .i64 1), (.int .i64 0)]))) rfl (yl_buildC (cells := [(.int .i64 1), (.int .i64 0)]) bi53 (pc_cons rfl rfl pc_nil) rfl) ?_
        refine T0_e rfl (eff_allocZ zi53 ?_)
        intro b561 wd562 hb563 he564 hB565
        have hn566 : b561 ≠ b3 := box_ne hB503 hb563
        have hbf567 := bfresh e498 hb563
        have h568 := h499.step (add_box he564 hb563)
        have e569 := e498.trans he564
        refine T0_e rfl (eff_storeC (vs := [(.int .i64 1), (.int .i64 0)]) (cs' := [(.int .i64 1), (.int .i64 0)]) sz53 rfl rfl rfl rfl hB565 rfl (oc_cons rfl (oc_cons rfl oc_nil)) rfl ?_)
        intro wd571 hc572 hB573
        have h574 := h568.step (Stepp.chg_mem hc572 mem0)
        have h575 := (hB503.ext he564).chg hc572 (avoidb hn566)
        have e576 := chg_box e569 hc572 hbf567
        refine T0_nil ?_
        refine hK560 _ _ ?_
        refine WC_seqK fun K577 hK577 => ?_
        refine WC_seqK fun K578 hK578 => ?_
        refine WC_region ?_
        refine T0_q (v := v_p_Listappend) rfl (yl_move hs500) ?_
        refine T0_q (v := (.int .i64 (p_Listappend.length : Int))) rfl (yl_lenR rfl Tryd.underlying51 h574 rfl) ?_
        refine T0_q (v := (.int .i64 0)) rfl (yl_move rfl) ?_
        refine T0_nil ?_
        refine hK578 _ _ ?_
        obtain ⟨o1429, hl1430, hn1431⟩ := bind_elim h
        refine WC_post (fun (ρ : Env) (wd1419 : World) => ∃ (x1425 : Int) (x1426 : Int), .inr (x1425, x1426) = o1429 ∧ ρ 2 = (.pointer (some ⟨b3, 0, none⟩)) ∧ ρ 10 = (.pointer (some ⟨b561, 0, none⟩)) ∧ Box wd1419 b3 [(.int .i64 0), (.int .i64 0)] 53 ∧ Box wd1419 b561 [(.int .i64 x1425), (.int .i64 x1426)] 53 ∧ Ext w wd1419) ?_ ?_
        · intro K1435 hK1435
          refine WC_block ?_
          refine WC_loopk (fun sv ρ wd1404 => ∃ (x1411 : Int) (x1415 : Int) (x1416 : Int), (x1411, x1415, x1416) = sv ∧ ρ 2 = (.pointer (some ⟨b3, 0, none⟩)) ∧ ρ 10 = (.pointer (some ⟨b561, 0, none⟩)) ∧ ρ 69 = v_p_Listappend ∧ ρ 70 = (.int .i64 (p_Listappend.length : Int)) ∧ ρ 71 = (.int .i64 x1411) ∧ SlRd ((.pointer (some ⟨b561, 0, none⟩)) :: (.pointer (some ⟨b3, 0, none⟩)) :: L) wd1404 v_p_Listappend p_Listappend ∧ Box wd1404 b3 [(.int .i64 0), (.int .i64 0)] 53 ∧ Box wd1404 b561 [(.int .i64 x1415), (.int .i64 x1416)] 53 ∧ Ext w wd1404) hl1430 ⟨0, 1, 0, rfl, hs501, rfl, rfl, rfl, rfl, h574, h575, hB573, e576⟩ ?_
          rintro _ ρ wd1404 ⟨x1411, x1415, x1416, rfl, hs1406, hs1407, hs1409, hs1410, hs1412, h1408, hB1414, hB1418, e1405⟩ x1432 h hx1433 K1434 hK1434
          refine WC_seqK fun K1437 hK1437 => ?_
          refine WC_region ?_
          refine T0_q (v := (.bool (decide (x1411 < (p_Listappend.length : Int))))) rfl (yl_lss hs1412 hs1410) ?_
          refine T0_nil ?_
          refine hK1437 _ _ ?_
          refine WC_seqK fun K1438 hK1438 => ?_
          refine WC_cond (b := (decide (x1411 < (p_Listappend.length : Int)))) rfl (fun hb1439 => ?_) (fun hb1439 => ?_)
          · replace h := cond_t hb1439 h
            refine WC_skip ?_
            refine hK1438 _ _ ?_
            refine WC_seqK fun K1440 hK1440 => ?_
            refine WC_block ?_
            refine WC_seqK fun K1441 hK1441 => ?_
            refine WC_region ?_
            obtain ⟨el1442, hel1443, h⟩ := bind_elim h
            obtain ⟨cs1444, hat1445, hrd1446⟩ := SlRd.at h1408 hel1443
            have hrd1446 : cs1444 = [(.int .i64 el1442.Modulus), (.int .i64 el1442.Rest)] := hrd1446
            subst hrd1446
            refine T0_q (v := (.pointer (some (elemAddr v_p_Listappend (x1411 : Int).toNat 2)))) rfl (yl_indexAddr Tryd.underlying51 sz53 h1408 hel1443 hs1409 hs1412) ?_
            refine T0_q (v := (.agg (List.toArray [(.int .i64 el1442.Modulus), (.int .i64 el1442.Rest)]))) rfl (yl_loadA (cs := [(.int .i64 el1442.Modulus), (.int .i64 el1442.Rest)]) ag53 rfl hat1445) ?_
            refine T0_e rfl (eff_allocZ zi53 ?_)
            intro b1448 wd1449 hb1450 he1451 hB1452
            have hn1453 : b1448 ≠ b3 := box_ne hB1414 hb1450
            have hn1454 : b1448 ≠ b561 := box_ne hB1418 hb1450
            have hbf1455 := bfresh e1405 hb1450
            have h1456 := h1408.step (add_box he1451 hb1450)
            have e1457 := e1405.trans he1451
            refine T0_e rfl (eff_storeC (vs := [(.int .i64 el1442.Modulus), (.int .i64 el1442.Rest)]) (cs' := [(.int .i64 el1442.Modulus), (.int .i64 el1442.Rest)]) sz53 rfl rfl rfl rfl hB1452 rfl (oc_cons rfl (oc_cons rfl oc_nil)) rfl ?_)
            intro wd1459 hc1460 hB1461
            have h1462 := h1456.step (Stepp.chg_mem hc1460 mem0)
            have h1463 := (hB1414.ext he1451).chg hc1460 (avoidb hn1453)
            have h1464 := (hB1418.ext he1451).chg hc1460 (avoidb hn1454)
            have e1465 := chg_box e1457 hc1460 hbf1455
            refine T0_nil ?_
            refine hK1441 _ _ ?_
            refine WC_seqK fun K1466 hK1466 => ?_
            refine WC_region ?_
            refine T0_q (v := (.int .i64 0)) rfl (yl_assign rfl) ?_
            refine T0_nil ?_
            refine hK1466 _ _ ?_
            refine WC_seqK fun K1467 hK1467 => ?_
            obtain ⟨o1635, hl1636, hn1637⟩ := bind_elim h
            refine WC_post (fun (ρ : Env) (wd1619 : World) => ∃ (x1632 : Int), .inr x1632 = o1635 ∧ ρ 2 = (.pointer (some ⟨b3, 0, none⟩)) ∧ ρ 10 = (.pointer (some ⟨b561, 0, none⟩)) ∧ ρ 12 = (.pointer (some ⟨b1448, 0, none⟩)) ∧ ρ 69 = v_p_Listappend ∧ ρ 70 = (.int .i64 (p_Listappend.length : Int)) ∧ ρ 71 = (.int .i64 x1411) ∧ SlRd ((.pointer (some ⟨b1448, 0, none⟩)) :: (.pointer (some ⟨b561, 0, none⟩)) :: (.pointer (some ⟨b3, 0, none⟩)) :: L) wd1619 v_p_Listappend p_Listappend ∧ Box wd1619 b1448 [(.int .i64 el1442.Modulus), (.int .i64 el1442.Rest)] 53 ∧ Box wd1619 b3 [(.int .i64 0), (.int .i64 0)] 53 ∧ Box wd1619 b561 [(.int .i64 x1415), (.int .i64 x1632)] 53 ∧ Ext w wd1619) ?_ ?_
            · intro K1641 hK1641
              refine WC_block ?_
              refine WC_loopk (fun sv ρ wd1601 => ∃ (x1606 : Int) (x1616 : Int), (x1606, x1616) = sv ∧ ρ 2 = (.pointer (some ⟨b3, 0, none⟩)) ∧ ρ 10 = (.pointer (some ⟨b561, 0, none⟩)) ∧ ρ 12 = (.pointer (some ⟨b1448, 0, none⟩)) ∧ ρ 13 = (.int .i64 x1606) ∧ ρ 69 = v_p_Listappend ∧ ρ 70 = (.int .i64 (p_Listappend.length : Int)) ∧ ρ 71 = (.int .i64 x1411) ∧ SlRd ((.pointer (some ⟨b1448, 0, none⟩)) :: (.pointer (some ⟨b561, 0, none⟩)) :: (.pointer (some ⟨b3, 0, none⟩)) :: L) wd1601 v_p_Listappend p_Listappend ∧ Box wd1601 b1448 [(.int .i64 el1442.Modulus), (.int .i64 el1442.Rest)] 53 ∧ Box wd1601 b3 [(.int .i64 0), (.int .i64 0)] 53 ∧ Box wd1601 b561 [(.int .i64 x1415), (.int .i64 x1616)] 53 ∧ Ext w wd1601) hl1636 ⟨0, x1416, rfl, hs1406, hs1407, rfl, rfl, hs1409, hs1410, hs1412, h1462, hB1461, h1463, h1464, e1465⟩ ?_
              rintro _ ρ wd1601 ⟨x1606, x1616, rfl, hs1603, hs1604, hs1605, hs1607, hs1609, hs1610, hs1611, h1608, hB1613, hB1615, hB1618, e1602⟩ x1638 h hx1639 K1640 hK1640
              refine WC_seqK fun K1643 hK1643 => ?_
              refine WC_seqK fun K1644 hK1644 => ?_
              refine WC_plan mixed (.p 0 (.p 2 (.p 5 (.q 1 (.q 3 (.p 4 (.q 6 (.p 7 .done)))))))) (by kernel_rfl) ?_
              intro wd1645 he1646
              have e1647 := e1602.trans he1646
              refine TP_p (v := (.pointer (some ⟨b561, 1, none⟩))) rfl rfl (fun w' => (yl_fa 1 Tryd.underlying53 rfl rfl ⟨0, sz3⟩ hs1604 rfl)) ?_
              refine TP_p (v := (.pointer (some ⟨b1448, 0, none⟩))) rfl rfl (fun w' => (yl_fa 0 Tryd.underlying53 rfl rfl ⟨0, sz3⟩ hs1605 rfl)) ?_
              refine TP_p (v := (.pointer (some ⟨b1448, 1, none⟩))) rfl rfl (fun w' => (yl_fa 1 Tryd.underlying53 rfl rfl ⟨0, sz3⟩ hs1605 rfl)) ?_
              refine TP_q (v := (.int .i64 x1616)) rfl rfl (fun w' hS => (yl_load sc3 rfl (At.drop (Box.at (hB1618.ext ((he1646).trans hS))) 1))) ?_
              refine TP_q (v := (.int .i64 el1442.Modulus)) rfl rfl (fun w' hS => (yl_load sc3 rfl (Box.at (hB1613.ext ((he1646).trans hS))))) ?_
              obtain ⟨q1648, hq1649, h⟩ := bind_elim h
              refine TP_p (v := (.int .i64 q1648)) rfl rfl (fun w' => (yl_rem' hq1649 rfl rfl)) ?_
              refine TP_q (v := (.int .i64 el1442.Rest)) rfl rfl (fun w' hS => (yl_load sc3 rfl (At.drop (Box.at (hB1613.ext ((he1646).trans hS))) 1))) ?_
              refine TP_p (v := (.bool (!decide (q1648 = el1442.Rest)))) rfl rfl (fun w' => (yl_neq rfl rfl)) ?_
              refine TP_done ?_
              refine hK1644 _ _ ?_
              refine WC_cond (b := (!decide (q1648 = el1442.Rest))) rfl (fun hb1650 => ?_) (fun hb1650 => ?_)
              · replace h := cond_t hb1650 h
                refine WC_skip ?_
                refine hK1643 _ _ ?_
                refine WC_block ?_
                refine WC_seqK fun K1651 hK1651 => ?_
                refine WC_seqK fun K1652 hK1652 => ?_
                refine WC_region ?_
                refine T0_q (v := (.int .i64 x1606)) rfl (yl_move hs1607) ?_
                refine T0_q (v := (.int .i64 (w64 (x1606 + 1)))) rfl (yl_add rfl rfl) ?_
                refine T0_q (v := (.int .i64 (w64 (x1606 + 1)))) rfl (yl_assign rfl) ?_
                refine T0_nil ?_
                refine hK1652 _ _ ?_
                refine WC_seqK fun K1653 hK1653 => ?_
                refine WC_region ?_
                refine T0_q (v := (.int .i64 (w64 (x1606 + 1)))) rfl (yl_move rfl) ?_
                refine T0_q (v := (.pointer (some ⟨b1448, 0, none⟩))) rfl (yl_fa 0 Tryd.underlying53 rfl rfl ⟨0, sz3⟩ hs1605 rfl) ?_
                refine T0_q (v := (.int .i64 el1442.Modulus)) rfl (yl_load sc3 rfl (Box.at (hB1613.ext he1646))) ?_
                refine T0_q (v := (.bool (decide (el1442.Modulus < w64 (x1606 + 1))))) rfl (yl_gtr rfl rfl) ?_
                refine T0_nil ?_
                refine hK1653 _ _ ?_
                refine WC_cond (b := (decide (el1442.Modulus < w64 (x1606 + 1)))) rfl (fun hb1654 => ?_) (fun hb1654 => ?_)
                · replace h := cond_t hb1654 h
                  refine WC_seqK fun K1655 hK1655 => ?_
                  refine WC_region ?_
                  refine T0_q (v := (.agg (List.toArray [(.int .i64 0), (.int .i64 0)]))) rfl (yl_buildC (cells := [(.int .i64 0), (.int .i64 0)]) bi53 pc_nil rfl) ?_
                  refine T0_e rfl (eff_storeC (vs := [(.int .i64 0), (.int .i64 0)]) (cs' := [(.int .i64 0), (.int .i64 0)]) sz53 rfl rfl hs1603 rfl (hB1615.ext he1646) rfl (oc_cons rfl (oc_cons rfl oc_nil)) rfl ?_)
                  intro wd1656 hc1657 hB1658
                  have h1659 := (h1608.ext he1646).step (Stepp.chg_mem hc1657 (memS (memS mem0)))
                  have h1660 := (hB1613.ext he1646).chg hc1657 (avoidb hn1453.symm)
                  have h1661 := (hB1618.ext he1646).chg hc1657 (avoidb hn566.symm)
                  have e1662 := chg_box e1647 hc1657 hbf8
                  refine T0_q (v := (.int .i64 12)) rfl (yl_assign rfl) ?_
                  refine T0_nil ?_
                  refine hK1655 _ _ ?_
                  refine WC_ret ?_
                  replace h := some_out h
                  subst h
                  have ho := hx1639 _ rfl
                  subst ho
                  replace h := jn0_inl hn1637
                  replace h := some_out h
                  subst h
                  have ho := hx1433 _ rfl
                  subst ho
                  replace h := jn0_inl hn1431
                  replace h := some_out h
                  subst h
                  exact ⟨[(.agg (List.toArray [(.int .i64 0), (.int .i64 0)])), (.int .i64 12)], ⟨⟨_, hs1603, run_loadVarA (cs := [(.int .i64 0), (.int .i64 0)]) ag53 (Box.at hB1658)⟩, rfl, trivial⟩, e1662, [(.int .i64 0), (.int .i64 0)], rfl, rfl⟩
                · replace h := cond_f hb1654 h
                  refine WC_skip ?_
                  refine hK1651 _ _ ?_
                  refine WC_region ?_
                  refine T0_q (v := (.pointer (some ⟨b561, 1, none⟩))) rfl (yl_fa 1 Tryd.underlying53 rfl rfl ⟨0, sz3⟩ hs1604 rfl) ?_
                  refine T0_q (v := (.int .i64 x1616)) rfl (yl_load sc3 rfl (At.drop (Box.at (hB1618.ext he1646)) 1)) ?_
                  refine T0_q (v := (.pointer (some ⟨b561, 0, none⟩))) rfl (yl_fa 0 Tryd.underlying53 rfl rfl ⟨0, sz3⟩ hs1604 rfl) ?_
                  refine T0_q (v := (.int .i64 x1415)) rfl (yl_load sc3 rfl (Box.at (hB1618.ext he1646))) ?_
                  refine T0_q (v := (.int .i64 (w64 (x1616 + x1415)))) rfl (yl_add rfl rfl) ?_
                  refine T0_q (v := (.pointer (some ⟨b561, 1, none⟩))) rfl (yl_fa 1 Tryd.underlying53 rfl rfl ⟨0, sz3⟩ hs1604 rfl) ?_
                  refine T0_e rfl (eff_storeC (vs := [(.int .i64 (w64 (x1616 + x1415)))]) (cs' := [(.int .i64 x1415), (.int .i64 (w64 (x1616 + x1415)))]) sz3 rfl rfl rfl rfl (hB1618.ext he1646) rfl (oc_cons rfl oc_nil) rfl ?_)
                  intro wd1663 hc1664 hB1665
                  have h1666 := (h1608.ext he1646).step (Stepp.chg_mem hc1664 (memS mem0))
                  have h1667 := (hB1613.ext he1646).chg hc1664 (avoidb hn1454.symm)
                  have h1668 := (hB1615.ext he1646).chg hc1664 (avoidb hn566)
                  have e1669 := chg_box e1647 hc1664 hbf567
                  refine T0_nil ?_
                  replace h := some_out h
                  subst h
                  refine hK1640 _ _ _ rfl ?_
                  exact ⟨w64 (x1606 + 1), w64 (x1616 + x1415), rfl, hs1603, hs1604, hs1605, rfl, hs1609, hs1610, hs1611, h1666, h1667, h1668, hB1665, e1669⟩
              · replace h := cond_f hb1650 h
                refine WC_exit ?_
                replace h := some_out h
                subst h
                have ho := hx1639 _ rfl
                subst ho
                refine hK1641 _ _ ?_
                exact ⟨x1616, rfl, hs1603, hs1604, hs1605, hs1609, hs1610, hs1611, (h1608.ext he1646), (hB1613.ext he1646), (hB1615.ext he1646), (hB1618.ext he1646), e1647⟩
            · rintro ρ wd1619 ⟨x1632, rfl, hs1621, hs1622, hs1623, hs1625, hs1626, hs1627, h1624, hB1629, hB1631, hB1634, e1620⟩
              replace h := jn0_inr hn1637
              refine hK1467 _ _ ?_
              refine WC_seqK fun K1670 hK1670 => ?_
              refine WC_plan mixed (.p 0 (.p 2 (.p 4 (.p 6 (.q 1 (.q 3 (.q 5 (.q 7 (.e 8 (.p 9 (.p 10 (.p 11 (.b 12 .done))))))))))))) (by kernel_rfl) ?_
              intro wd1671 he1672
              have e1673 := e1620.trans he1672
              refine TP_p (v := (.pointer (some ⟨b561, 0, none⟩))) rfl rfl (fun w' => (yl_fa 0 Tryd.underlying53 rfl rfl ⟨0, sz3⟩ hs1622 rfl)) ?_
              refine TP_p (v := (.pointer (some ⟨b1448, 0, none⟩))) rfl rfl (fun w' => (yl_fa 0 Tryd.underlying53 rfl rfl ⟨0, sz3⟩ hs1623 rfl)) ?_
              refine TP_p (v := (.pointer (some ⟨b561, 0, none⟩))) rfl rfl (fun w' => (yl_fa 0 Tryd.underlying53 rfl rfl ⟨0, sz3⟩ hs1622 rfl)) ?_
              refine TP_p (v := (.pointer (some ⟨b1448, 0, none⟩))) rfl rfl (fun w' => (yl_fa 0 Tryd.underlying53 rfl rfl ⟨0, sz3⟩ hs1623 rfl)) ?_
              refine TP_q (v := (.int .i64 x1415)) rfl rfl (fun w' hS => (yl_load sc3 rfl (Box.at (hB1634.ext ((he1672).trans hS))))) ?_
              refine TP_q (v := (.int .i64 el1442.Modulus)) rfl rfl (fun w' hS => (yl_load sc3 rfl (Box.at (hB1629.ext ((he1672).trans hS))))) ?_
              refine TP_q (v := (.int .i64 x1415)) rfl rfl (fun w' hS => (yl_load sc3 rfl (Box.at (hB1634.ext ((he1672).trans hS))))) ?_
              refine TP_q (v := (.int .i64 el1442.Modulus)) rfl rfl (fun w' hS => (yl_load sc3 rfl (Box.at (hB1629.ext ((he1672).trans hS))))) ?_
              obtain ⟨r1674, hr1675, h⟩ := bind_elim h
              refine TP_e rfl rfl (eff_call Tryd.func91 nm91 rfl (ev2 rfl rfl) (locate_divisor_ok [] _ (LtL.nil _) x1415 el1442.Modulus r1674 hr1675) ?_)
              rintro _ wd1676 ⟨he1677, rfl⟩
              have e1678 := he1672.trans he1677
              have e1679 := e1673.trans he1677
              refine ⟨he1677, ?_⟩
              obtain ⟨q1680, hq1681, h⟩ := bind_elim h
              refine TP_p (v := (.int .i64 q1680)) rfl rfl (fun w' => (yl_quo' hq1681 rfl rfl)) ?_
              refine TP_p (v := (.int .i64 (w64 (x1415 * q1680)))) rfl rfl (fun w' => (yl_mul rfl rfl)) ?_
              refine TP_p (v := (.pointer (some ⟨b561, 0, none⟩))) rfl rfl (fun w' => (yl_fa 0 Tryd.underlying53 rfl rfl ⟨0, sz3⟩ hs1622 rfl)) ?_
              refine TP_b rfl rfl (eff_storeC (vs := [(.int .i64 (w64 (x1415 * q1680)))]) (cs' := [(.int .i64 (w64 (x1415 * q1680))), (.int .i64 x1632)]) sz3 rfl rfl rfl rfl (hB1634.ext e1678) rfl (oc_cons rfl oc_nil) rfl ?_)
              intro wd1682 hc1683 hB1684
              have h1685 := (h1624.ext e1678).step (Stepp.chg_mem hc1683 (memS mem0))
              have h1686 := (hB1629.ext e1678).chg hc1683 (avoidb hn1454.symm)
              have h1687 := (hB1631.ext e1678).chg hc1683 (avoidb hn566)
              have e1688 := chg_box e1679 hc1683 hbf567
              refine TP_done ?_
              refine hK1670 _ _ ?_
              refine WC_region ?_
              refine T0_q (v := (.pointer (some ⟨b561, 1, none⟩))) rfl (yl_fa 1 Tryd.underlying53 rfl rfl ⟨0, sz3⟩ hs1622 rfl) ?_
              refine T0_q (v := (.int .i64 x1632)) rfl (yl_load sc3 rfl (At.drop (Box.at hB1684) 1)) ?_
              refine T0_q (v := (.pointer (some ⟨b561, 0, none⟩))) rfl (yl_fa 0 Tryd.underlying53 rfl rfl ⟨0, sz3⟩ hs1622 rfl) ?_
              refine T0_q (v := (.int .i64 (w64 (x1415 * q1680)))) rfl (yl_load sc3 rfl (Box.at hB1684)) ?_
              obtain ⟨q1689, hq1690, h⟩ := bind_elim h
              refine T0_q (v := (.int .i64 q1689)) rfl (yl_rem' hq1690 rfl rfl) ?_
              refine T0_q (v := (.pointer (some ⟨b561, 1, none⟩))) rfl (yl_fa 1 Tryd.underlying53 rfl rfl ⟨0, sz3⟩ hs1622 rfl) ?_
              refine T0_e rfl (eff_storeC (vs := [(.int .i64 q1689)]) (cs' := [(.int .i64 (w64 (x1415 * q1680))), (.int .i64 q1689)]) sz3 rfl rfl rfl rfl hB1684 rfl (oc_cons rfl oc_nil) rfl ?_)
              intro wd1691 hc1692 hB1693
              have h1694 := h1685.step (Stepp.chg_mem hc1692 (memS mem0))
              have h1695 := h1686.chg hc1692 (avoidb hn1454.symm)
              have h1696 := h1687.chg hc1692 (avoidb hn566)
              have e1697 := chg_box e1688 hc1692 hbf567
              refine T0_nil ?_
              refine hK1440 _ _ ?_
              refine WC_region ?_
              refine T0_q (v := (.int .i64 (w64 (x1411 + 1)))) rfl (yl_add hs1627 rfl) ?_
              refine T0_q (v := (.int .i64 (w64 (x1411 + 1)))) rfl (yl_move rfl) ?_
              refine T0_nil ?_
              replace h := some_out h
              subst h
              refine hK1434 _ _ _ rfl ?_
              exact ⟨w64 (x1411 + 1), w64 (x1415 * q1680), q1689, rfl, hs1621, hs1622, hs1625, hs1626, rfl, (h1694.sub (sub_cons (memS mem0) (sub_cons (memS (memS mem0)) (sub_skip (sub_skip (sub_skip (sub_refl _))))))), h1696, hB1693, e1697⟩
          · replace h := cond_f hb1439 h
            refine WC_exit ?_
            replace h := some_out h
            subst h
            have ho := hx1433 _ rfl
            subst ho
            refine hK1435 _ _ ?_
            exact ⟨x1415, x1416, rfl, hs1406, hs1407, hB1414, hB1418, e1405⟩
        · rintro ρ wd1419 ⟨x1425, x1426, rfl, hs1421, hs1422, hB1424, hB1428, e1420⟩
          replace h := jn0_inr hn1431
          refine hK577 _ _ ?_
          refine WC_seqK fun K1698 hK1698 => ?_
          refine WC_region ?_
          refine T0_q (v := (.agg (List.toArray [(.int .i64 x1425), (.int .i64 x1426)]))) rfl (yl_loadA (cs := [(.int .i64 x1425), (.int .i64 x1426)]) ag53 hs1422 (Box.at hB1428)) ?_
          refine T0_e rfl (eff_storeC (vs := [(.int .i64 x1425), (.int .i64 x1426)]) (cs' := [(.int .i64 x1425), (.int .i64 x1426)]) sz53 rfl rfl hs1421 rfl hB1424 rfl (oc_cons rfl (oc_cons rfl oc_nil)) rfl ?_)
          intro wd1699 hc1700 hB1701
          have h1702 := hB1428.chg hc1700 (avoidb hn566.symm)
          have e1703 := chg_box e1420 hc1700 hbf8
          refine T0_q (v := (.int .i64 0)) rfl (yl_assign rfl) ?_
          refine T0_nil ?_
          refine hK1698 _ _ ?_
          refine WC_ret ?_
          replace h := some_out h
          subst h
          exact ⟨[(.agg (List.toArray [(.int .i64 x1425), (.int .i64 x1426)])), (.int .i64 0)], ⟨⟨_, hs1421, run_loadVarA (cs := [(.int .i64 x1425), (.int .i64 x1426)]) ag53 (Box.at hB1701)⟩, rfl, trivial⟩, e1703, [(.int .i64 x1425), (.int .i64 x1426)], rfl, rfl⟩

noncomputable def ref04_SeenErr_s0 (p_seen : (List Int)) : (Int) → Option ((Int) ⊕ (Int ⊕ (Unit))) := fun x95 =>
  (bif (decide (x95 < (p_seen.length : Int))) then (
    (Option.bind (idx p_seen x95) fun el112 =>
    (Option.bind (ref04_isSeen_spec el112) fun r118 =>
    (bif (!r118) then (
      some (.inr (.inl 15))
    ) else (
      some (.inl (w64 (x95 + 1)))
    ))
    )
    )
  ) else (
    some (.inr (.inr ()))
  ))
noncomputable def ref04_SeenErr_spec (p_t : LocateTrack) (p_seen : (List Int)) : Option Int :=
  (bif (!decide ((p_seen.length : Int) = p_t.Window)) then (
    some 10
  ) else (
    (Option.bind (loop (ref04_SeenErr_s0 p_seen) 0) fun o99 => jn0 o99 fun (_ : Unit) =>
    some 0
    )
  ))
theorem ref04_SeenErr_ok (L : List Value) (w : World) (hL : LtL L w) (cs_p_t : List Value) (p_t : LocateTrack) (h_p_t : Rep.rd L w cs_p_t p_t) (v_p_seen : Value) (p_seen : (List Int)) (h_p_seen : SlRd L w v_p_seen p_seen) (r : Int) (h : ref04_SeenErr_spec p_t p_seen = some r) :
    CallsTo Tryd.prog 40 [(.agg cs_p_t.toArray), v_p_seen] w (fun v w' => Ext w w' ∧ (.int .i64 r) = v) := by
  have e0 : Ext w w := Chg.refl _ _
  obtain ⟨v1, h2, rfl⟩ := h_p_t
  refine callsTo_of_WC (n := 23) (rs := [.tmp 4]) Tryd.func40 rfl rfl rfl rfl rfl ?_
  refine WC_seqK fun K5 hK5 => ?_
  refine WC_region ?_
  refine T0_e rfl (eff_boxC (cs := [v1, (.int .i64 p_t.Window), (.int .i64 p_t.Tooth), (.int .i64 p_t.PerVane), (.int .i64 p_t.First), (.int .i64 p_t.Modulus), (.int .i64 p_t.Slack), (.int .i64 p_t.Errors), (.bool p_t.Round)]) rfl rfl ?_)
  intro b6 wd7 hb8 he9 hB10
  have hbf11 := bfresh e0 hb8
  have e12 := e0.trans he9
  refine T0_q (v := (.int .i64 0)) rfl (yl_assign rfl) ?_
  refine T0_nil ?_
  refine hK5 _ _ ?_
  refine WC_seqK fun K14 hK14 => ?_
  refine WC_seqK fun K15 hK15 => ?_
  refine WC_region ?_
  refine T0_q (v := v_p_seen) rfl (yl_move rfl) ?_
  refine T0_q (v := (.int .i64 (p_seen.length : Int))) rfl (yl_lenR rfl Tryd.underlying22 h_p_seen rfl) ?_
  refine T0_q (v := (.pointer (some ⟨b6, 1, none⟩))) rfl (yl_fa 1 Tryd.underlying24 rfl rfl ⟨0, sz3⟩ rfl rfl) ?_
  refine T0_q (v := (.int .i64 p_t.Window)) rfl (yl_load sc3 rfl (At.drop (Box.at hB10) 1)) ?_
  refine T0_q (v := (.bool (!decide ((p_seen.length : Int) = p_t.Window)))) rfl (yl_neq rfl rfl) ?_
  refine T0_nil ?_
  refine hK15 _ _ ?_
  refine WC_cond (b := (!decide ((p_seen.length : Int) = p_t.Window))) rfl (fun hb16 => ?_) (fun hb16 => ?_)
  · replace h := cond_t hb16 h
    refine WC_seqK fun K17 hK17 => ?_
    refine WC_region ?_
    refine T0_q (v := (.int .i64 10)) rfl (yl_assign rfl) ?_
    refine T0_nil ?_
    refine hK17 _ _ ?_
    refine WC_ret ?_
    replace h := some_out h
    subst h
    exact ⟨[(.int .i64 10)], ⟨rfl, trivial⟩, e12, rfl⟩
  · replace h := cond_f hb16 h
    refine WC_skip ?_
    refine hK14 _ _ ?_
    refine WC_seqK fun K18 hK18 => ?_
    refine WC_seqK fun K19 hK19 => ?_
    refine WC_region ?_
    refine T0_q (v := (.int .i64 0)) rfl (yl_assign rfl) ?_
    refine T0_nil ?_
    refine hK19 _ _ ?_
    obtain ⟨o99, hl100, hn101⟩ := bind_elim h
    refine WC_post (fun (ρ : Env) (wd97 : World) => .inr () = o99 ∧ Ext w wd97) ?_ ?_
    · intro K105 hK105
      refine WC_block ?_
      refine WC_loopk (fun sv ρ wd91 => ∃ (x95 : Int), x95 = sv ∧ ρ 1 = v_p_seen ∧ ρ 5 = (.int .i64 x95) ∧ SlRd L wd91 v_p_seen p_seen ∧ Ext w wd91) hl100 ⟨0, rfl, rfl, rfl, (h_p_seen.ext he9), e12⟩ ?_
      rintro _ ρ wd91 ⟨x95, rfl, hs94, hs96, h93, e92⟩ x102 h hx103 K104 hK104
      refine WC_seqK fun K107 hK107 => ?_
      refine WC_seqK fun K108 hK108 => ?_
      refine WC_region ?_
      refine T0_q (v := (.int .i64 x95)) rfl (yl_move hs96) ?_
      refine T0_q (v := v_p_seen) rfl (yl_move hs94) ?_
      refine T0_q (v := (.int .i64 (p_seen.length : Int))) rfl (yl_lenR rfl Tryd.underlying22 h93 rfl) ?_
      refine T0_q (v := (.bool (decide (x95 < (p_seen.length : Int))))) rfl (yl_lss rfl rfl) ?_
      refine T0_nil ?_
      refine hK108 _ _ ?_
      refine WC_cond (b := (decide (x95 < (p_seen.length : Int)))) rfl (fun hb109 => ?_) (fun hb109 => ?_)
      · replace h := cond_t hb109 h
        refine WC_skip ?_
        refine hK107 _ _ ?_
        refine WC_seqK fun K110 hK110 => ?_
        refine WC_block ?_
        refine WC_seqK fun K111 hK111 => ?_
        refine WC_region ?_
        refine T0_q (v := v_p_seen) rfl (yl_move hs94) ?_
        refine T0_q (v := (.int .i64 x95)) rfl (yl_move hs96) ?_
        obtain ⟨el112, hel113, h⟩ := bind_elim h
        obtain ⟨cs114, hat115, hrd116⟩ := SlRd.at h93 hel113
        have hrd116 : cs114 = [(.int .i64 el112)] := hrd116
        subst hrd116
        refine T0_q (v := (.pointer (some (elemAddr v_p_seen (x95 : Int).toNat 1)))) rfl (yl_indexAddr Tryd.underlying22 sz3 h93 hel113 rfl rfl) ?_
        refine T0_q (v := (.int .i64 el112)) rfl (yl_load sc3 rfl hat115) ?_
        obtain ⟨r118, hr119, h⟩ := bind_elim h
        refine T0_e rfl (eff_call Tryd.func96 nm96 rfl (ev1 rfl) (ref04_isSeen_ok [] _ (LtL.nil _) el112 r118 hr119) ?_)
        rintro _ wd120 ⟨he121, rfl⟩
        have e122 := e92.trans he121
        refine T0_q (v := (.bool (!r118))) rfl (yl_not rfl) ?_
        refine T0_nil ?_
        refine hK111 _ _ ?_
        refine WC_cond (b := (!r118)) rfl (fun hb123 => ?_) (fun hb123 => ?_)
        · replace h := cond_t hb123 h
          refine WC_seqK fun K124 hK124 => ?_
          refine WC_region ?_
          refine T0_q (v := (.int .i64 15)) rfl (yl_assign rfl) ?_
          refine T0_nil ?_
          refine hK124 _ _ ?_
          refine WC_ret ?_
          replace h := some_out h
          subst h
          have ho := hx103 _ rfl
          subst ho
          replace h := jn0_inl hn101
          replace h := some_out h
          subst h
          exact ⟨[(.int .i64 15)], ⟨rfl, trivial⟩, e122, rfl⟩
        · replace h := cond_f hb123 h
          refine WC_skip ?_
          refine hK110 _ _ ?_
          refine WC_region ?_
          refine T0_q (v := (.int .i64 x95)) rfl (yl_move hs96) ?_
          refine T0_q (v := (.int .i64 (w64 (x95 + 1)))) rfl (yl_add rfl rfl) ?_
          refine T0_q (v := (.int .i64 (w64 (x95 + 1)))) rfl (yl_assign rfl) ?_
          refine T0_nil ?_
          replace h := some_out h
          subst h
          refine hK104 _ _ _ rfl ?_
          exact ⟨w64 (x95 + 1), rfl, hs94, rfl, (h93.ext he121), e122⟩
      · replace h := cond_f hb109 h
        refine WC_exit ?_
        replace h := some_out h
        subst h
        have ho := hx103 _ rfl
        subst ho
        refine hK105 _ _ ?_
        exact ⟨rfl, e92⟩
    · rintro ρ wd97 ⟨rfl, e98⟩
      replace h := jn0_inr hn101
      refine hK18 _ _ ?_
      refine WC_seqK fun K125 hK125 => ?_
      refine WC_region ?_
      refine T0_q (v := (.int .i64 0)) rfl (yl_assign rfl) ?_
      refine T0_nil ?_
      refine hK125 _ _ ?_
      refine WC_ret ?_
      replace h := some_out h
      subst h
      exact ⟨[(.int .i64 0)], ⟨rfl, trivial⟩, e98, rfl⟩

noncomputable def ref04_Near_s0 (p_seen : (List Int)) (p_t : LocateTrack) : ((List Int) × Int) → Option (((List Int) × Int) ⊕ ((List Int))) := fun (x245, x250) =>
  (Option.bind (ref04_WindowsOf_spec p_t) fun r280 =>
  (bif (decide (x250 < r280)) then (
    (Option.bind (ref04_WindowAt_spec p_t x250) fun r292 =>
    (Option.bind (ref04_Differ_spec r292 p_seen) fun r301 =>
    (bif (decide (r301 ≤ p_t.Errors)) then (
      (Option.bind (app x245 ([x250] : List Int)) fun zs317 =>
      some (.inl (zs317, w64 (x250 + 1)))
      )
    ) else (
      some (.inl (x245, w64 (x250 + 1)))
    ))
    )
    )
  ) else (
    some (.inr x245)
  ))
  )
noncomputable def ref04_Near_spec (p_t : LocateTrack) (p_seen : (List Int)) : Option (List Int) :=
  (Option.bind (loop (ref04_Near_s0 p_seen p_t) (([] : List Int), 0)) fun (x265 : (List Int)) =>
  some x265
  )
theorem ref04_Near_ok (L : List Value) (w : World) (hL : LtL L w) (cs_p_t : List Value) (p_t : LocateTrack) (h_p_t : Rep.rd L w cs_p_t p_t) (v_p_seen : Value) (p_seen : (List Int)) (h_p_seen : SlRd L w v_p_seen p_seen) (r : (List Int)) (h : ref04_Near_spec p_t p_seen = some r) :
    CallsTo Tryd.prog 41 [(.agg cs_p_t.toArray), v_p_seen] w (fun v w' => Ext w w' ∧ ∃ (v0 : Value), v0 = v ∧ SlRd L w' v0 r) := by
  have e0 : Ext w w := Chg.refl _ _
  obtain ⟨v1, h2, rfl⟩ := h_p_t
  refine callsTo_of_WC (n := 26) (rs := [.tmp 4]) Tryd.func41 rfl rfl rfl rfl rfl ?_
  refine WC_seqK fun K5 hK5 => ?_
  refine WC_region ?_
  refine T0_e rfl (eff_boxC (cs := [v1, (.int .i64 p_t.Window), (.int .i64 p_t.Tooth), (.int .i64 p_t.PerVane), (.int .i64 p_t.First), (.int .i64 p_t.Modulus), (.int .i64 p_t.Slack), (.int .i64 p_t.Errors), (.bool p_t.Round)]) rfl rfl ?_)
  intro b6 wd7 hb8 he9 hB10
  have hbf11 := bfresh e0 hb8
  have e12 := e0.trans he9
  refine T0_q (v := (.slice none 0 0)) rfl (yl_assign rfl) ?_
  refine T0_nil ?_
  refine hK5 _ _ ?_
  refine WC_seqK fun K14 hK14 => ?_
  refine WC_region ?_
  refine T0_q (v := (.slice none 0 0)) rfl (yl_assign rfl) ?_
  refine T0_nil ?_
  refine hK14 _ _ ?_
  refine WC_seqK fun K15 hK15 => ?_
  refine WC_seqK fun K16 hK16 => ?_
  refine WC_region ?_
  refine T0_q (v := (.int .i64 0)) rfl (yl_assign rfl) ?_
  refine T0_nil ?_
  refine hK16 _ _ ?_
  have h256 := (h2.ext he9).step (add_nil _)
  have h257 := (h_p_seen.ext he9).step (add_nil _)
  have h259 : Own 3 ((.slice none 0 0) :: L) wd7 (.slice none 0 0) ([] : List Int) := Own.nil _ _ _
  obtain ⟨o270, hl271, hn272⟩ := bind_elim h
  refine WC_post (fun (ρ : Env) (wd261 : World) => ∃ (x265 : (List Int)) (v264 : Value), x265 = o270 ∧ ρ 5 = v264 ∧ Own 3 (v264 :: L) wd261 v264 x265 ∧ (∀ b, blk v264 = some b → w.heap.size ≤ b) ∧ Ext w wd261) ?_ ?_
  · intro K276 hK276
    refine WC_block ?_
    refine WC_loopk (fun sv ρ wd238 => ∃ (x245 : (List Int)) (x250 : Int) (v244 : Value), (x245, x250) = sv ∧ ρ 1 = v_p_seen ∧ ρ 2 = (.pointer (some ⟨b6, 0, none⟩)) ∧ ρ 5 = v244 ∧ ρ 6 = (.int .i64 x250) ∧ SlRd (v244 :: L) wd238 v_p_seen p_seen ∧ SlRd (v244 :: L) wd238 v1 p_t.Vanes ∧ Box wd238 b6 [v1, (.int .i64 p_t.Window), (.int .i64 p_t.Tooth), (.int .i64 p_t.PerVane), (.int .i64 p_t.First), (.int .i64 p_t.Modulus), (.int .i64 p_t.Slack), (.int .i64 p_t.Errors), (.bool p_t.Round)] 24 ∧ Own 3 (v244 :: L) wd238 v244 x245 ∧ (∀ b, blk v244 = some b → w.heap.size ≤ b) ∧ (blk v244 ≠ some b6) ∧ Ext w wd238) hl271 ⟨([] : List Int), 0, (.slice none 0 0), rfl, rfl, rfl, rfl, rfl, h257, h256, hB10, h259, (fun b h => blk_nil b h), (fun h => by cases h), e12⟩ ?_
    rintro _ ρ wd238 ⟨x245, x250, v244, rfl, hs241, hs242, hs249, hs251, h240, h252, hB254, h247, hf248, hn255, e239⟩ x273 h hx274 K275 hK275
    refine WC_seqK fun K278 hK278 => ?_
    refine WC_seqK fun K279 hK279 => ?_
    refine WC_region ?_
    refine T0_q (v := (.int .i64 x250)) rfl (yl_move hs251) ?_
    refine T0_q (v := (.agg (List.toArray [v1, (.int .i64 p_t.Window), (.int .i64 p_t.Tooth), (.int .i64 p_t.PerVane), (.int .i64 p_t.First), (.int .i64 p_t.Modulus), (.int .i64 p_t.Slack), (.int .i64 p_t.Errors), (.bool p_t.Round)]))) rfl (yl_loadA (cs := [v1, (.int .i64 p_t.Window), (.int .i64 p_t.Tooth), (.int .i64 p_t.PerVane), (.int .i64 p_t.First), (.int .i64 p_t.Modulus), (.int .i64 p_t.Slack), (.int .i64 p_t.Errors), (.bool p_t.Round)]) ag24 hs242 (Box.at hB254)) ?_
    obtain ⟨r280, hr281, h⟩ := bind_elim h
    refine T0_e rfl (eff_call Tryd.func48 nm48 rfl (ev1 rfl) (ref04_WindowsOf_ok [] _ (LtL.nil _) [v1, (.int .i64 p_t.Window), (.int .i64 p_t.Tooth), (.int .i64 p_t.PerVane), (.int .i64 p_t.First), (.int .i64 p_t.Modulus), (.int .i64 p_t.Slack), (.int .i64 p_t.Errors), (.bool p_t.Round)] p_t ⟨v1, (h252.sub (fun _ h => by cases h)), rfl⟩ r280 hr281) ?_)
    rintro _ wd282 ⟨he283, rfl⟩
    have e284 := e239.trans he283
    refine T0_q (v := (.bool (decide (x250 < r280)))) rfl (yl_lss rfl rfl) ?_
    refine T0_nil ?_
    refine hK279 _ _ ?_
    refine WC_cond (b := (decide (x250 < r280))) rfl (fun hb285 => ?_) (fun hb285 => ?_)
    · replace h := cond_t hb285 h
      refine WC_skip ?_
      refine hK278 _ _ ?_
      refine WC_seqK fun K286 hK286 => ?_
      refine WC_block ?_
      refine WC_seqK fun K287 hK287 => ?_
      refine WC_plan mixed (.p 1 (.p 3 (.p 5 (.q 0 (.q 6 (.e 2 (.e 4 (.p 7 .done)))))))) (by kernel_rfl) ?_
      intro wd288 he289
      have e290 := he283.trans he289
      have e291 := e284.trans he289
      refine TP_p (v := (.int .i64 x250)) rfl rfl (fun w' => (yl_move hs251)) ?_
      refine TP_p (v := v_p_seen) rfl rfl (fun w' => (yl_move hs241)) ?_
      refine TP_p (v := (.pointer (some ⟨b6, 7, none⟩))) rfl rfl (fun w' => (yl_fa 7 Tryd.underlying24 rfl rfl ⟨0, sz3⟩ hs242 rfl)) ?_
      refine TP_q (v := (.agg (List.toArray [v1, (.int .i64 p_t.Window), (.int .i64 p_t.Tooth), (.int .i64 p_t.PerVane), (.int .i64 p_t.First), (.int .i64 p_t.Modulus), (.int .i64 p_t.Slack), (.int .i64 p_t.Errors), (.bool p_t.Round)]))) rfl rfl (fun w' hS => (yl_loadA (cs := [v1, (.int .i64 p_t.Window), (.int .i64 p_t.Tooth), (.int .i64 p_t.PerVane), (.int .i64 p_t.First), (.int .i64 p_t.Modulus), (.int .i64 p_t.Slack), (.int .i64 p_t.Errors), (.bool p_t.Round)]) ag24 hs242 (Box.at (hB254.ext ((e290).trans hS))))) ?_
      refine TP_q (v := (.int .i64 p_t.Errors)) rfl rfl (fun w' hS => (yl_load sc3 rfl (At.drop (Box.at (hB254.ext ((e290).trans hS))) 7))) ?_
      obtain ⟨r292, hr293, h⟩ := bind_elim h
      refine TP_e rfl rfl (eff_call Tryd.func51 nm51 rfl (ev2 rfl rfl) (ref04_WindowAt_ok (v244 :: L) _ (ltl_own (hL.chg e291) (h247.ext e290)) [v1, (.int .i64 p_t.Window), (.int .i64 p_t.Tooth), (.int .i64 p_t.PerVane), (.int .i64 p_t.First), (.int .i64 p_t.Modulus), (.int .i64 p_t.Slack), (.int .i64 p_t.Errors), (.bool p_t.Round)] p_t ⟨v1, (h252.ext e290), rfl⟩ x250 r292 hr293) ?_)
      rintro _ wd294 ⟨he295, v296, rfl, h297⟩
      have e298 := e290.trans he295
      have e299 := e291.trans he295
      refine ⟨he295, ?_⟩
      obtain ⟨r301, hr302, h⟩ := bind_elim h
      refine TP_e rfl rfl (eff_call Tryd.func73 nm73 rfl (ev2 rfl rfl) (ref04_Differ_ok [] _ (LtL.nil _) v296 r292 (h297.sub (fun _ h => by cases h)) v_p_seen p_seen ((h240.ext e298).sub (fun _ h => by cases h)) r301 hr302) ?_)
      rintro _ wd303 ⟨he304, rfl⟩
      have e305 := e298.trans he304
      have e306 := he295.trans he304
      have e307 := e299.trans he304
      refine ⟨e306, ?_⟩
      refine TP_p (v := (.bool (decide (r301 ≤ p_t.Errors)))) rfl rfl (fun w' => (yl_leq rfl rfl)) ?_
      refine TP_done ?_
      refine hK287 _ _ ?_
      refine WC_cond (b := (decide (r301 ≤ p_t.Errors))) rfl (fun hb308 => ?_) (fun hb308 => ?_)
      · replace h := cond_t hb308 h
        refine WC_region ?_
        refine T0_q (v := v244) rfl (yl_move hs249) ?_
        refine T0_q (v := (.int .i64 x250)) rfl (yl_move hs251) ?_
        refine T0_e rfl (eff_buildTC (xs := ([x250] : List Int)) (cells := [(.int .i64 x250)]) Tryd.underlying22 ei3 rfl (pc_cons rfl rfl pc_nil) rfl (Elems.cons (cs := [(.int .i64 x250)]) rfl Elems.nil) rfl (ltl_own (hL.chg e307) (h247.ext e305)) ?_)
        intro b312 wd309 he310 h311
        have e313 := e305.trans he310
        have e314 := he304.trans he310
        have e315 := e307.trans he310
        obtain ⟨zs317, hz318, h⟩ := bind_elim h
        refine T0_e rfl (eff_app Tryd.underlying22 ei3 rfl rfl rfl rfl (h247.ext e313) h311 hz318 ?_)
        intro v319 wd320 hc321 hbl322 h323
        have hn325 : blk v319 ≠ some b6 := ne_swap hbl322 hn255 (hB254.ext e313)
        have hf326 := fresh_swap hbl322 hf248 e315.size
        have h327 := (h240.ext e313).step (Stepp.swap hc321 hbl322)
        have h328 := (h252.ext e313).step (Stepp.swap hc321 hbl322)
        have h329 := (hB254.ext e313).chg hc321 (avoid1 hn255)
        have h330 := (h297.ext e314).step (Stepp.swap hc321 hbl322)
        have h331 := h311.step (Stepp.swap hc321 hbl322)
        have e332 := chg_own e315 hc321 hf248
        refine T0_q (v := v319) rfl (yl_assign rfl) ?_
        refine T0_nil ?_
        refine hK286 _ _ ?_
        refine WC_region ?_
        refine T0_q (v := (.int .i64 x250)) rfl (yl_move hs251) ?_
        refine T0_q (v := (.int .i64 (w64 (x250 + 1)))) rfl (yl_add rfl rfl) ?_
        refine T0_q (v := (.int .i64 (w64 (x250 + 1)))) rfl (yl_assign rfl) ?_
        refine T0_nil ?_
        replace h := some_out h
        subst h
        refine hK275 _ _ _ rfl ?_
        exact ⟨zs317, w64 (x250 + 1), v319, rfl, hs241, hs242, rfl, rfl, h327, h328, h329, h323, hf326, hn325, e332⟩
      · replace h := cond_f hb308 h
        refine WC_skip ?_
        refine hK286 _ _ ?_
        refine WC_region ?_
        refine T0_q (v := (.int .i64 x250)) rfl (yl_move hs251) ?_
        refine T0_q (v := (.int .i64 (w64 (x250 + 1)))) rfl (yl_add rfl rfl) ?_
        refine T0_q (v := (.int .i64 (w64 (x250 + 1)))) rfl (yl_assign rfl) ?_
        refine T0_nil ?_
        replace h := some_out h
        subst h
        refine hK275 _ _ _ rfl ?_
        exact ⟨x245, w64 (x250 + 1), v244, rfl, hs241, hs242, hs249, rfl, (h240.ext e305), (h252.ext e305), (hB254.ext e305), (h247.ext e305), hf248, hn255, e307⟩
    · replace h := cond_f hb285 h
      refine WC_exit ?_
      replace h := some_out h
      subst h
      have ho := hx274 _ rfl
      subst ho
      refine hK276 _ _ ?_
      exact ⟨x245, v244, rfl, hs249, (h247.ext he283), hf248, e284⟩
  · rintro ρ wd261 ⟨x265, v264, rfl, hs269, h267, hf268, e262⟩
    replace h := hn272
    refine hK15 _ _ ?_
    refine WC_seqK fun K334 hK334 => ?_
    refine WC_region ?_
    refine T0_q (v := v264) rfl (yl_move hs269) ?_
    refine T0_q (v := v264) rfl (yl_assign rfl) ?_
    refine T0_nil ?_
    refine hK334 _ _ ?_
    refine WC_ret ?_
    replace h := some_out h
    subst h
    exact ⟨[v264], ⟨rfl, trivial⟩, e262, v264, rfl, (h267.rdL (sub_skip (sub_refl _)) hL hf268)⟩

noncomputable def locate_track_near_s0 (p_t : locate_track) (r16 : Arr12_Int) (r45 : Int) : ((List Int) × Int) → Option (((List Int) × Int) ⊕ ((List Int))) := fun (x261, x268) =>
  (bif (decide (x268 < r45)) then (
    (Option.bind (locate_track_at_spec p_t x268) fun r308 =>
    (Option.bind (locate_window_differ_spec r308 r16) fun r316 =>
    (bif (decide (r316 ≤ p_t.LocateTrack.Errors)) then (
      (Option.bind (app x261 ([x268] : List Int)) fun zs331 =>
      some (.inl (zs331, w64 (x268 + 1)))
      )
    ) else (
      some (.inl (x261, w64 (x268 + 1)))
    ))
    )
    )
  ) else (
    some (.inr x261)
  ))
noncomputable def locate_track_near_spec (p_t : locate_track) (p_seen : (List Int)) : Option (List Int) :=
  (Option.bind (locate_track_seen_spec p_t p_seen) fun r16 =>
  (Option.bind (locate_track_windows_spec p_t) fun r45 =>
  (Option.bind (loop (locate_track_near_s0 p_t r16 r45) (([] : List Int), 0)) fun (x286 : (List Int)) =>
  some x286
  )
  )
  )
theorem locate_track_near_ok (L : List Value) (w : World) (hL : LtL L w) (cs_p_t : List Value) (p_t : locate_track) (h_p_t : Rep.rd L w cs_p_t p_t) (v_p_seen : Value) (p_seen : (List Int)) (h_p_seen : SlRd L w v_p_seen p_seen) (r : (List Int)) (h : locate_track_near_spec p_t p_seen = some r) :
    CallsTo Tryd.prog 87 [(.agg cs_p_t.toArray), v_p_seen] w (fun v w' => Ext w w' ∧ ∃ (v0 : Value), v0 = v ∧ SlRd L w' v0 r) := by
  have e0 : Ext w w := Chg.refl _ _
  obtain ⟨v1, h2, rfl⟩ := h_p_t
  refine callsTo_of_WC (n := 31) (rs := [.tmp 4]) Tryd.func87 rfl rfl rfl rfl rfl ?_
  refine WC_seqK fun K5 hK5 => ?_
  refine WC_region ?_
  refine T0_e rfl (eff_boxC (cs := [v1, (.int .i64 p_t.LocateTrack.Window), (.int .i64 p_t.LocateTrack.Tooth), (.int .i64 p_t.LocateTrack.PerVane), (.int .i64 p_t.LocateTrack.First), (.int .i64 p_t.LocateTrack.Modulus), (.int .i64 p_t.LocateTrack.Slack), (.int .i64 p_t.LocateTrack.Errors), (.bool p_t.LocateTrack.Round)]) rfl rfl ?_)
  intro b6 wd7 hb8 he9 hB10
  have hbf11 := bfresh e0 hb8
  have e12 := e0.trans he9
  refine T0_q (v := (.slice none 0 0)) rfl (yl_assign rfl) ?_
  refine T0_nil ?_
  refine hK5 _ _ ?_
  refine WC_seqK fun K14 hK14 => ?_
  refine WC_region ?_
  refine T0_q (v := (.slice none 0 0)) rfl (yl_assign rfl) ?_
  refine T0_nil ?_
  refine hK14 _ _ ?_
  refine WC_seqK fun K15 hK15 => ?_
  refine WC_region ?_
  refine T0_q (v := (.agg (List.toArray [v1, (.int .i64 p_t.LocateTrack.Window), (.int .i64 p_t.LocateTrack.Tooth), (.int .i64 p_t.LocateTrack.PerVane), (.int .i64 p_t.LocateTrack.First), (.int .i64 p_t.LocateTrack.Modulus), (.int .i64 p_t.LocateTrack.Slack), (.int .i64 p_t.LocateTrack.Errors), (.bool p_t.LocateTrack.Round)]))) rfl (yl_loadA (cs := [v1, (.int .i64 p_t.LocateTrack.Window), (.int .i64 p_t.LocateTrack.Tooth), (.int .i64 p_t.LocateTrack.PerVane), (.int .i64 p_t.LocateTrack.First), (.int .i64 p_t.LocateTrack.Modulus), (.int .i64 p_t.LocateTrack.Slack), (.int .i64 p_t.LocateTrack.Errors), (.bool p_t.LocateTrack.Round)]) ag130 rfl (Box.at hB10)) ?_
  refine T0_q (v := v_p_seen) rfl (yl_move rfl) ?_
  obtain ⟨r16, hr17, h⟩ := bind_elim h
  refine T0_e rfl (eff_call Tryd.func123 nm123 rfl (ev2 rfl rfl) (locate_track_seen_ok [] _ (LtL.nil _) [v1, (.int .i64 p_t.LocateTrack.Window), (.int .i64 p_t.LocateTrack.Tooth), (.int .i64 p_t.LocateTrack.PerVane), (.int .i64 p_t.LocateTrack.First), (.int .i64 p_t.LocateTrack.Modulus), (.int .i64 p_t.LocateTrack.Slack), (.int .i64 p_t.LocateTrack.Errors), (.bool p_t.LocateTrack.Round)] p_t ⟨v1, ((h2.ext he9).sub (fun _ h => by cases h)), rfl⟩ v_p_seen p_seen ((h_p_seen.ext he9).sub (fun _ h => by cases h)) r16 hr17) ?_)
  rintro _ wd18 ⟨he19, cs20, rfl, hrd21⟩
  have e22 := he9.trans he19
  have e23 := e12.trans he19
  have hrd21 : cs20 = [(.int .i64 r16.e0), (.int .i64 r16.e1), (.int .i64 r16.e2), (.int .i64 r16.e3), (.int .i64 r16.e4), (.int .i64 r16.e5), (.int .i64 r16.e6), (.int .i64 r16.e7), (.int .i64 r16.e8), (.int .i64 r16.e9), (.int .i64 r16.e10), (.int .i64 r16.e11)] := hrd21
  subst hrd21
  refine T0_e rfl (eff_allocZ zi147 ?_)
  intro b24 wd25 hb26 he27 hB28
  have hn29 : b24 ≠ b6 := box_ne (hB10.ext he19) hb26
  have hbf30 := bfresh e23 hb26
  have h31 := (h2.ext e22).step (add_box he27 hb26)
  have h32 := (h_p_seen.ext e22).step (add_box he27 hb26)
  have e33 := he19.trans he27
  have e34 := e23.trans he27
  refine T0_e rfl (eff_storeC (vs := [(.int .i64 r16.e0), (.int .i64 r16.e1), (.int .i64 r16.e2), (.int .i64 r16.e3), (.int .i64 r16.e4), (.int .i64 r16.e5), (.int .i64 r16.e6), (.int .i64 r16.e7), (.int .i64 r16.e8), (.int .i64 r16.e9), (.int .i64 r16.e10), (.int .i64 r16.e11)]) (cs' := [(.int .i64 r16.e0), (.int .i64 r16.e1), (.int .i64 r16.e2), (.int .i64 r16.e3), (.int .i64 r16.e4), (.int .i64 r16.e5), (.int .i64 r16.e6), (.int .i64 r16.e7), (.int .i64 r16.e8), (.int .i64 r16.e9), (.int .i64 r16.e10), (.int .i64 r16.e11)]) sz147 rfl rfl rfl rfl hB28 rfl (oc_cons rfl (oc_cons rfl (oc_cons rfl (oc_cons rfl (oc_cons rfl (oc_cons rfl (oc_cons rfl (oc_cons rfl (oc_cons rfl (oc_cons rfl (oc_cons rfl (oc_cons rfl oc_nil)))))))))))) rfl ?_)
  intro wd36 hc37 hB38
  have h39 := h31.step (Stepp.chg_mem hc37 mem0)
  have h40 := h32.step (Stepp.chg_mem hc37 mem0)
  have h41 := (hB10.ext e33).chg hc37 (avoidb hn29)
  have e42 := chg_box e34 hc37 hbf30
  refine T0_nil ?_
  refine hK15 _ _ ?_
  refine WC_seqK fun K43 hK43 => ?_
  refine WC_seqK fun K44 hK44 => ?_
  refine WC_region ?_
  refine T0_q (v := (.agg (List.toArray [v1, (.int .i64 p_t.LocateTrack.Window), (.int .i64 p_t.LocateTrack.Tooth), (.int .i64 p_t.LocateTrack.PerVane), (.int .i64 p_t.LocateTrack.First), (.int .i64 p_t.LocateTrack.Modulus), (.int .i64 p_t.LocateTrack.Slack), (.int .i64 p_t.LocateTrack.Errors), (.bool p_t.LocateTrack.Round)]))) rfl (yl_loadA (cs := [v1, (.int .i64 p_t.LocateTrack.Window), (.int .i64 p_t.LocateTrack.Tooth), (.int .i64 p_t.LocateTrack.PerVane), (.int .i64 p_t.LocateTrack.First), (.int .i64 p_t.LocateTrack.Modulus), (.int .i64 p_t.LocateTrack.Slack), (.int .i64 p_t.LocateTrack.Errors), (.bool p_t.LocateTrack.Round)]) ag130 rfl (Box.at h41)) ?_
  obtain ⟨r45, hr46, h⟩ := bind_elim h
  refine T0_e rfl (eff_call Tryd.func101 nm101 rfl (ev1 rfl) (locate_track_windows_ok [] _ (LtL.nil _) [v1, (.int .i64 p_t.LocateTrack.Window), (.int .i64 p_t.LocateTrack.Tooth), (.int .i64 p_t.LocateTrack.PerVane), (.int .i64 p_t.LocateTrack.First), (.int .i64 p_t.LocateTrack.Modulus), (.int .i64 p_t.LocateTrack.Slack), (.int .i64 p_t.LocateTrack.Errors), (.bool p_t.LocateTrack.Round)] p_t ⟨v1, (h39.sub (fun _ h => by cases h)), rfl⟩ r45 hr46) ?_)
  rintro _ wd47 ⟨he48, rfl⟩
  have e49 := e42.trans he48
  refine T0_q (v := (.int .i64 0)) rfl (yl_move rfl) ?_
  refine T0_nil ?_
  refine hK44 _ _ ?_
  have h277 := (h39.ext he48).step (add_nil _)
  have h278 := (h40.ext he48).step (add_nil _)
  have h280 : Own 3 ((.slice none 0 0) :: (.pointer (some ⟨b24, 0, none⟩)) :: L) wd47 (.slice none 0 0) ([] : List Int) := Own.nil _ _ _
  obtain ⟨o291, hl292, hn293⟩ := bind_elim h
  refine WC_post (fun (ρ : Env) (wd282 : World) => ∃ (x286 : (List Int)) (v285 : Value), x286 = o291 ∧ ρ 5 = v285 ∧ Own 3 (v285 :: L) wd282 v285 x286 ∧ (∀ b, blk v285 = some b → w.heap.size ≤ b) ∧ Ext w wd282) ?_ ?_
  · intro K297 hK297
    refine WC_block ?_
    refine WC_loopk (fun sv ρ wd256 => ∃ (x261 : (List Int)) (x268 : Int) (v260 : Value), (x261, x268) = sv ∧ ρ 2 = (.pointer (some ⟨b6, 0, none⟩)) ∧ ρ 5 = v260 ∧ ρ 6 = (.pointer (some ⟨b24, 0, none⟩)) ∧ ρ 12 = (.int .i64 r45) ∧ ρ 13 = (.int .i64 x268) ∧ SlRd (v260 :: (.pointer (some ⟨b24, 0, none⟩)) :: L) wd256 v1 p_t.LocateTrack.Vanes ∧ Box wd256 b24 [(.int .i64 r16.e0), (.int .i64 r16.e1), (.int .i64 r16.e2), (.int .i64 r16.e3), (.int .i64 r16.e4), (.int .i64 r16.e5), (.int .i64 r16.e6), (.int .i64 r16.e7), (.int .i64 r16.e8), (.int .i64 r16.e9), (.int .i64 r16.e10), (.int .i64 r16.e11)] 147 ∧ Box wd256 b6 [v1, (.int .i64 p_t.LocateTrack.Window), (.int .i64 p_t.LocateTrack.Tooth), (.int .i64 p_t.LocateTrack.PerVane), (.int .i64 p_t.LocateTrack.First), (.int .i64 p_t.LocateTrack.Modulus), (.int .i64 p_t.LocateTrack.Slack), (.int .i64 p_t.LocateTrack.Errors), (.bool p_t.LocateTrack.Round)] 130 ∧ Own 3 (v260 :: (.pointer (some ⟨b24, 0, none⟩)) :: L) wd256 v260 x261 ∧ (∀ b, blk v260 = some b → w.heap.size ≤ b) ∧ (blk v260 ≠ some b24) ∧ (blk v260 ≠ some b6) ∧ Ext w wd256) hl292 ⟨([] : List Int), 0, (.slice none 0 0), rfl, rfl, rfl, rfl, rfl, rfl, h277, (hB38.ext he48), (h41.ext he48), h280, (fun b h => blk_nil b h), (fun h => by cases h), (fun h => by cases h), e49⟩ ?_
    rintro _ ρ wd256 ⟨x261, x268, v260, rfl, hs258, hs265, hs266, hs267, hs269, h272, hB271, hB274, h263, hf264, hn275, hn276, e257⟩ x294 h hx295 K296 hK296
    refine WC_seqK fun K299 hK299 => ?_
    refine WC_region ?_
    refine T0_q (v := (.bool (decide (x268 < r45)))) rfl (yl_lss hs269 hs267) ?_
    refine T0_nil ?_
    refine hK299 _ _ ?_
    refine WC_seqK fun K300 hK300 => ?_
    refine WC_cond (b := (decide (x268 < r45))) rfl (fun hb301 => ?_) (fun hb301 => ?_)
    · replace h := cond_t hb301 h
      refine WC_skip ?_
      refine hK300 _ _ ?_
      refine WC_seqK fun K302 hK302 => ?_
      refine WC_block ?_
      refine WC_seqK fun K303 hK303 => ?_
      refine WC_region ?_
      refine T0_q (v := (.int .i64 x268)) rfl (yl_move hs269) ?_
      refine T0_q (v := (.int .i64 x268)) rfl (yl_assign rfl) ?_
      refine T0_nil ?_
      refine hK303 _ _ ?_
      refine WC_seqK fun K304 hK304 => ?_
      refine WC_plan mixed (.p 1 (.p 5 (.p 6 (.q 0 (.q 3 (.q 7 (.e 2 (.e 4 (.p 8 .done))))))))) (by kernel_rfl) ?_
      intro wd305 he306
      have e307 := e257.trans he306
      refine TP_p (v := (.int .i64 x268)) rfl rfl (fun w' => (yl_move rfl)) ?_
      refine TP_p (v := (.pointer (some ⟨b6, 0, none⟩))) rfl rfl (fun w' => (yl_fa 0 Tryd.underlying130 rfl rfl ⟨8, sz24⟩ hs258 rfl)) ?_
      refine TP_p (v := (.pointer (some ⟨b6, 7, none⟩))) rfl rfl (fun w' => (yl_fa 7 Tryd.underlying24 rfl rfl ⟨0, sz3⟩ rfl rfl)) ?_
      refine TP_q (v := (.agg (List.toArray [v1, (.int .i64 p_t.LocateTrack.Window), (.int .i64 p_t.LocateTrack.Tooth), (.int .i64 p_t.LocateTrack.PerVane), (.int .i64 p_t.LocateTrack.First), (.int .i64 p_t.LocateTrack.Modulus), (.int .i64 p_t.LocateTrack.Slack), (.int .i64 p_t.LocateTrack.Errors), (.bool p_t.LocateTrack.Round)]))) rfl rfl (fun w' hS => (yl_loadA (cs := [v1, (.int .i64 p_t.LocateTrack.Window), (.int .i64 p_t.LocateTrack.Tooth), (.int .i64 p_t.LocateTrack.PerVane), (.int .i64 p_t.LocateTrack.First), (.int .i64 p_t.LocateTrack.Modulus), (.int .i64 p_t.LocateTrack.Slack), (.int .i64 p_t.LocateTrack.Errors), (.bool p_t.LocateTrack.Round)]) ag130 hs258 (Box.at (hB274.ext ((he306).trans hS))))) ?_
      refine TP_q (v := (.agg (List.toArray [(.int .i64 r16.e0), (.int .i64 r16.e1), (.int .i64 r16.e2), (.int .i64 r16.e3), (.int .i64 r16.e4), (.int .i64 r16.e5), (.int .i64 r16.e6), (.int .i64 r16.e7), (.int .i64 r16.e8), (.int .i64 r16.e9), (.int .i64 r16.e10), (.int .i64 r16.e11)]))) rfl rfl (fun w' hS => (yl_loadA (cs := [(.int .i64 r16.e0), (.int .i64 r16.e1), (.int .i64 r16.e2), (.int .i64 r16.e3), (.int .i64 r16.e4), (.int .i64 r16.e5), (.int .i64 r16.e6), (.int .i64 r16.e7), (.int .i64 r16.e8), (.int .i64 r16.e9), (.int .i64 r16.e10), (.int .i64 r16.e11)]) ag147 hs266 (Box.at (hB271.ext ((he306).trans hS))))) ?_
      refine TP_q (v := (.int .i64 p_t.LocateTrack.Errors)) rfl rfl (fun w' hS => (yl_load sc3 rfl (At.drop (Box.at (hB274.ext ((he306).trans hS))) 7))) ?_
      obtain ⟨r308, hr309, h⟩ := bind_elim h
      refine TP_e rfl rfl (eff_call Tryd.func104 nm104 rfl (ev2 rfl rfl) (locate_track_at_ok [] _ (LtL.nil _) [v1, (.int .i64 p_t.LocateTrack.Window), (.int .i64 p_t.LocateTrack.Tooth), (.int .i64 p_t.LocateTrack.PerVane), (.int .i64 p_t.LocateTrack.First), (.int .i64 p_t.LocateTrack.Modulus), (.int .i64 p_t.LocateTrack.Slack), (.int .i64 p_t.LocateTrack.Errors), (.bool p_t.LocateTrack.Round)] p_t ⟨v1, ((h272.ext he306).sub (fun _ h => by cases h)), rfl⟩ x268 r308 hr309) ?_)
      rintro _ wd310 ⟨he311, cs312, rfl, hrd313⟩
      have e314 := he306.trans he311
      have e315 := e307.trans he311
      have hrd313 : cs312 = [(.int .i64 r308.e0), (.int .i64 r308.e1), (.int .i64 r308.e2), (.int .i64 r308.e3), (.int .i64 r308.e4), (.int .i64 r308.e5), (.int .i64 r308.e6), (.int .i64 r308.e7), (.int .i64 r308.e8), (.int .i64 r308.e9), (.int .i64 r308.e10), (.int .i64 r308.e11)] := hrd313
      subst hrd313
      refine ⟨he311, ?_⟩
      obtain ⟨r316, hr317, h⟩ := bind_elim h
      refine TP_e rfl rfl (eff_call Tryd.func118 nm118 rfl (ev2 rfl rfl) (locate_window_differ_ok [] _ (LtL.nil _) [(.int .i64 r308.e0), (.int .i64 r308.e1), (.int .i64 r308.e2), (.int .i64 r308.e3), (.int .i64 r308.e4), (.int .i64 r308.e5), (.int .i64 r308.e6), (.int .i64 r308.e7), (.int .i64 r308.e8), (.int .i64 r308.e9), (.int .i64 r308.e10), (.int .i64 r308.e11)] r308 rfl [(.int .i64 r16.e0), (.int .i64 r16.e1), (.int .i64 r16.e2), (.int .i64 r16.e3), (.int .i64 r16.e4), (.int .i64 r16.e5), (.int .i64 r16.e6), (.int .i64 r16.e7), (.int .i64 r16.e8), (.int .i64 r16.e9), (.int .i64 r16.e10), (.int .i64 r16.e11)] r16 rfl r316 hr317) ?_)
      rintro _ wd318 ⟨he319, rfl⟩
      have e320 := e314.trans he319
      have e321 := he311.trans he319
      have e322 := e315.trans he319
      refine ⟨e321, ?_⟩
      refine TP_p (v := (.bool (decide (r316 ≤ p_t.LocateTrack.Errors)))) rfl rfl (fun w' => (yl_leq rfl rfl)) ?_
      refine TP_done ?_
      refine hK304 _ _ ?_
      refine WC_cond (b := (decide (r316 ≤ p_t.LocateTrack.Errors))) rfl (fun hb323 => ?_) (fun hb323 => ?_)
      · replace h := cond_t hb323 h
        refine WC_region ?_
        refine T0_q (v := v260) rfl (yl_move hs265) ?_
        refine T0_q (v := (.int .i64 x268)) rfl (yl_move rfl) ?_
        refine T0_e rfl (eff_buildTC (xs := ([x268] : List Int)) (cells := [(.int .i64 x268)]) Tryd.underlying22 ei3 rfl (pc_cons rfl rfl pc_nil) rfl (Elems.cons (cs := [(.int .i64 x268)]) rfl Elems.nil) rfl (ltl_own (ltl_box (hL.chg e322) (hB271.ext e320)) (h263.ext e320)) ?_)
        intro b327 wd324 he325 h326
        have e328 := e320.trans he325
        have e329 := e322.trans he325
        obtain ⟨zs331, hz332, h⟩ := bind_elim h
        refine T0_e rfl (eff_app Tryd.underlying22 ei3 rfl rfl rfl rfl (h263.ext e328) h326 hz332 ?_)
        intro v333 wd334 hc335 hbl336 h337
        have hn339 : blk v333 ≠ some b24 := ne_swap hbl336 hn275 (hB271.ext e328)
        have hn340 : blk v333 ≠ some b6 := ne_swap hbl336 hn276 (hB274.ext e328)
        have hf341 := fresh_swap hbl336 hf264 e329.size
        have h342 := (hB271.ext e328).chg hc335 (avoid1 hn275)
        have h343 := (h272.ext e328).step (Stepp.swap hc335 hbl336)
        have h344 := (hB274.ext e328).chg hc335 (avoid1 hn276)
        have h345 := h326.step (Stepp.swap hc335 hbl336)
        have e346 := chg_own e329 hc335 hf264
        refine T0_q (v := v333) rfl (yl_assign rfl) ?_
        refine T0_nil ?_
        refine hK302 _ _ ?_
        refine WC_region ?_
        refine T0_q (v := (.int .i64 (w64 (x268 + 1)))) rfl (yl_add hs269 rfl) ?_
        refine T0_q (v := (.int .i64 (w64 (x268 + 1)))) rfl (yl_move rfl) ?_
        refine T0_nil ?_
        replace h := some_out h
        subst h
        refine hK296 _ _ _ rfl ?_
        exact ⟨zs331, w64 (x268 + 1), v333, rfl, hs258, rfl, hs266, hs267, rfl, h343, h342, h344, h337, hf341, hn339, hn340, e346⟩
      · replace h := cond_f hb323 h
        refine WC_skip ?_
        refine hK302 _ _ ?_
        refine WC_region ?_
        refine T0_q (v := (.int .i64 (w64 (x268 + 1)))) rfl (yl_add hs269 rfl) ?_
        refine T0_q (v := (.int .i64 (w64 (x268 + 1)))) rfl (yl_move rfl) ?_
        refine T0_nil ?_
        replace h := some_out h
        subst h
        refine hK296 _ _ _ rfl ?_
        exact ⟨x261, w64 (x268 + 1), v260, rfl, hs258, hs265, hs266, hs267, rfl, (h272.ext e320), (hB271.ext e320), (hB274.ext e320), (h263.ext e320), hf264, hn275, hn276, e322⟩
    · replace h := cond_f hb301 h
      refine WC_exit ?_
      replace h := some_out h
      subst h
      have ho := hx295 _ rfl
      subst ho
      refine hK297 _ _ ?_
      exact ⟨x261, v260, rfl, hs265, (h263.sub (sub_cons mem0 (sub_skip (sub_skip (sub_refl _))))), hf264, e257⟩
  · rintro ρ wd282 ⟨x286, v285, rfl, hs290, h288, hf289, e283⟩
    replace h := hn293
    refine hK43 _ _ ?_
    refine WC_seqK fun K348 hK348 => ?_
    refine WC_region ?_
    refine T0_q (v := v285) rfl (yl_move hs290) ?_
    refine T0_q (v := v285) rfl (yl_assign rfl) ?_
    refine T0_nil ?_
    refine hK348 _ _ ?_
    refine WC_ret ?_
    replace h := some_out h
    subst h
    exact ⟨[v285], ⟨rfl, trivial⟩, e283, v285, rfl, (h288.rdL (sub_skip (sub_refl _)) hL hf289)⟩

noncomputable def base_Gcd_s0 : (Int × Int) → Option ((Int × Int) ⊕ (Int)) := fun (x45, x47) =>
  (bif (!decide (x47 = 0)) then (
    (Option.bind (rem x45 x47) fun q67 =>
    some (.inl (x47, q67))
    )
  ) else (
    some (.inr x45)
  ))
noncomputable def base_Gcd_spec (p_a : Int) (p_b : Int) : Option Int :=
  (Option.bind (loop base_Gcd_s0 (p_a, p_b)) fun (x51 : Int) =>
  (Option.bind (base_Size_spec x51) fun r70 =>
  some r70
  )
  )
theorem base_Gcd_ok (L : List Value) (w : World) (hL : LtL L w) (p_a : Int) (p_b : Int) (r : Int) (h : base_Gcd_spec p_a p_b = some r) :
    CallsTo Tryd.prog 92 [(.int .i64 p_a), (.int .i64 p_b)] w (fun v w' => Ext w w' ∧ (.int .i64 r) = v) := by
  have e0 : Ext w w := Chg.refl _ _
  refine callsTo_of_WC (n := 13) (rs := [.tmp 4]) Tryd.func92 rfl rfl rfl rfl rfl ?_
  refine WC_seqK fun K1 hK1 => ?_
  refine WC_region ?_
  refine T0_q (v := (.int .i64 0)) rfl (yl_assign rfl) ?_
  refine T0_nil ?_
  refine hK1 _ _ ?_
  refine WC_seqK fun K2 hK2 => ?_
  obtain ⟨o53, hl54, hn55⟩ := bind_elim h
  refine WC_post (fun (ρ : Env) (wd49 : World) => ∃ (x51 : Int), x51 = o53 ∧ ρ 0 = (.int .i64 x51) ∧ Ext w wd49) ?_ ?_
  · intro K59 hK59
    refine WC_block ?_
    refine WC_loopk (fun sv ρ wd43 => ∃ (x45 : Int) (x47 : Int), (x45, x47) = sv ∧ ρ 0 = (.int .i64 x45) ∧ ρ 1 = (.int .i64 x47) ∧ Ext w wd43) hl54 ⟨p_a, p_b, rfl, rfl, rfl, e0⟩ ?_
    rintro _ ρ wd43 ⟨x45, x47, rfl, hs46, hs48, e44⟩ x56 h hx57 K58 hK58
    refine WC_seqK fun K61 hK61 => ?_
    refine WC_seqK fun K62 hK62 => ?_
    refine WC_region ?_
    refine T0_q (v := (.int .i64 x47)) rfl (yl_move hs48) ?_
    refine T0_q (v := (.bool (!decide (x47 = 0)))) rfl (yl_neq rfl rfl) ?_
    refine T0_nil ?_
    refine hK62 _ _ ?_
    refine WC_cond (b := (!decide (x47 = 0))) rfl (fun hb63 => ?_) (fun hb63 => ?_)
    · replace h := cond_t hb63 h
      refine WC_skip ?_
      refine hK61 _ _ ?_
      refine WC_block ?_
      refine WC_plan mixed (.p 0 (.p 1 (.p 2 (.p 3 (.p 4 (.p 5 .done)))))) (by kernel_rfl) ?_
      intro wd64 he65
      have e66 := e44.trans he65
      refine TP_p (v := (.int .i64 x47)) rfl rfl (fun w' => (yl_move hs48)) ?_
      refine TP_p (v := (.int .i64 x45)) rfl rfl (fun w' => (yl_move hs46)) ?_
      refine TP_p (v := (.int .i64 x47)) rfl rfl (fun w' => (yl_move hs48)) ?_
      obtain ⟨q67, hq68, h⟩ := bind_elim h
      refine TP_p (v := (.int .i64 q67)) rfl rfl (fun w' => (yl_rem' hq68 rfl rfl)) ?_
      refine TP_p (v := (.int .i64 x47)) rfl rfl (fun w' => (yl_assign rfl)) ?_
      refine TP_p (v := (.int .i64 q67)) rfl rfl (fun w' => (yl_assign rfl)) ?_
      refine TP_done ?_
      replace h := some_out h
      subst h
      refine hK58 _ _ _ rfl ?_
      exact ⟨x47, q67, rfl, rfl, rfl, e66⟩
    · replace h := cond_f hb63 h
      refine WC_exit ?_
      replace h := some_out h
      subst h
      have ho := hx57 _ rfl
      subst ho
      refine hK59 _ _ ?_
      exact ⟨x45, rfl, hs46, e44⟩
  · rintro ρ wd49 ⟨x51, rfl, hs52, e50⟩
    replace h := hn55
    refine hK2 _ _ ?_
    refine WC_seqK fun K69 hK69 => ?_
    refine WC_region ?_
    refine T0_q (v := (.int .i64 x51)) rfl (yl_move hs52) ?_
    obtain ⟨r70, hr71, h⟩ := bind_elim h
    refine T0_e rfl (eff_call Tryd.func124 nm124 rfl (ev1 rfl) (base_Size_ok [] _ (LtL.nil _) x51 r70 hr71) ?_)
    rintro _ wd72 ⟨he73, rfl⟩
    have e74 := e50.trans he73
    refine T0_q (v := (.int .i64 r70)) rfl (yl_assign rfl) ?_
    refine T0_nil ?_
    refine hK69 _ _ ?_
    refine WC_ret ?_
    replace h := some_out h
    subst h
    exact ⟨[(.int .i64 r70)], ⟨rfl, trivial⟩, e74, rfl⟩

noncomputable def locate_CheckTrack_1_spec (p_n : Int) : Option Bool :=
  (Option.bind (locate_isBit_spec p_n) fun r3 =>
  some (!r3)
  )
theorem locate_CheckTrack_1_ok (L : List Value) (w : World) (hL : LtL L w) (p_n : Int) (r : Bool) (h : locate_CheckTrack_1_spec p_n = some r) :
    CallsTo Tryd.prog 98 [(.int .i64 p_n)] w (fun v w' => Ext w w' ∧ (.bool r) = v) := by
  have e0 : Ext w w := Chg.refl _ _
  refine callsTo_of_WC (n := 6) (rs := [.tmp 2]) Tryd.func98 rfl rfl rfl rfl rfl ?_
  refine WC_seqK fun K1 hK1 => ?_
  refine WC_region ?_
  refine T0_q (v := (.bool false)) rfl (yl_assign rfl) ?_
  refine T0_nil ?_
  refine hK1 _ _ ?_
  refine WC_seqK fun K2 hK2 => ?_
  refine WC_region ?_
  refine T0_q (v := (.int .i64 p_n)) rfl (yl_move rfl) ?_
  obtain ⟨r3, hr4, h⟩ := bind_elim h
  refine T0_e rfl (eff_call Tryd.func99 nm99 rfl (ev1 rfl) (locate_isBit_ok [] _ (LtL.nil _) p_n r3 hr4) ?_)
  rintro _ wd5 ⟨he6, rfl⟩
  have e7 := e0.trans he6
  refine T0_q (v := (.bool (!r3))) rfl (yl_not rfl) ?_
  refine T0_q (v := (.bool (!r3))) rfl (yl_assign rfl) ?_
  refine T0_nil ?_
  refine hK2 _ _ ?_
  refine WC_ret ?_
  replace h := some_out h
  subst h
  exact ⟨[(.bool (!r3))], ⟨rfl, trivial⟩, e7, rfl⟩

noncomputable def locate_placesErr_spec (p_r : Range) : Option Int :=
  (Option.bind (locate_isPlace_spec p_r.Lo) fun r14 =>
  (Option.bind (bif r14 then locate_isPlace_spec p_r.Hi else some default) fun r20 =>
  (Option.bind (locate_unless_spec (r14 && r20) 2) fun r27 =>
  (Option.bind (locate_unless_spec (decide (p_r.Lo ≤ p_r.Hi)) 9) fun r34 =>
  (Option.bind (locate_first_spec ([r27, r34] : List Int)) fun r49 =>
  some r49
  )
  )
  )
  )
  )
theorem locate_placesErr_ok (L : List Value) (w : World) (hL : LtL L w) (cs_p_r : List Value) (p_r : Range) (h_p_r : Rep.rd L w cs_p_r p_r) (r : Int) (h : locate_placesErr_spec p_r = some r) :
    CallsTo Tryd.prog 105 [(.agg cs_p_r.toArray)] w (fun v w' => Ext w w' ∧ (.int .i64 r) = v) := by
  have e0 : Ext w w := Chg.refl _ _
  have h_p_r : cs_p_r = [(.int .i64 p_r.Lo), (.int .i64 p_r.Hi)] := h_p_r
  subst h_p_r
  refine callsTo_of_WC (n := 20) (rs := [.tmp 2]) Tryd.func105 rfl rfl rfl rfl rfl ?_
  refine WC_seqK fun K1 hK1 => ?_
  refine WC_region ?_
  refine T0_e rfl (eff_boxC (cs := [(.int .i64 p_r.Lo), (.int .i64 p_r.Hi)]) rfl rfl ?_)
  intro b2 wd3 hb4 he5 hB6
  have hbf7 := bfresh e0 hb4
  have e8 := e0.trans he5
  refine T0_q (v := (.int .i64 0)) rfl (yl_assign rfl) ?_
  refine T0_nil ?_
  refine hK1 _ _ ?_
  refine WC_seqK fun K10 hK10 => ?_
  refine WC_plan mixed (.p 0 (.p 9 (.p 11 (.q 1 (.q 10 (.q 12 (.p 13 (.e 2 (.p 3 (.p 4 (.q 5 (.e 6 (.p 7 (.e 8 (.e 14 (.e 15 (.e 16 (.p 17 .done)))))))))))))))))) (by kernel_rfl) ?_
  intro wd11 he12
  have e13 := e8.trans he12
  refine TP_p (v := (.pointer (some ⟨b2, 0, none⟩))) rfl rfl (fun w' => (yl_fa 0 Tryd.underlying36 rfl rfl ⟨0, sz3⟩ rfl rfl)) ?_
  refine TP_p (v := (.pointer (some ⟨b2, 0, none⟩))) rfl rfl (fun w' => (yl_fa 0 Tryd.underlying36 rfl rfl ⟨0, sz3⟩ rfl rfl)) ?_
  refine TP_p (v := (.pointer (some ⟨b2, 1, none⟩))) rfl rfl (fun w' => (yl_fa 1 Tryd.underlying36 rfl rfl ⟨0, sz3⟩ rfl rfl)) ?_
  refine TP_q (v := (.int .i64 p_r.Lo)) rfl rfl (fun w' hS => (yl_load sc3 rfl (Box.at (hB6.ext ((he12).trans hS))))) ?_
  refine TP_q (v := (.int .i64 p_r.Lo)) rfl rfl (fun w' hS => (yl_load sc3 rfl (Box.at (hB6.ext ((he12).trans hS))))) ?_
  refine TP_q (v := (.int .i64 p_r.Hi)) rfl rfl (fun w' hS => (yl_load sc3 rfl (At.drop (Box.at (hB6.ext ((he12).trans hS))) 1))) ?_
  refine TP_p (v := (.bool (decide (p_r.Lo ≤ p_r.Hi)))) rfl rfl (fun w' => (yl_leq rfl rfl)) ?_
  obtain ⟨r14, hr15, h⟩ := bind_elim h
  refine TP_e rfl rfl (eff_call Tryd.func125 nm125 rfl (ev1 rfl) (locate_isPlace_ok [] _ (LtL.nil _) p_r.Lo r14 hr15) ?_)
  rintro _ wd16 ⟨he17, rfl⟩
  have e18 := he12.trans he17
  have e19 := e13.trans he17
  refine ⟨he17, ?_⟩
  refine TP_p (v := (.bool r14)) rfl rfl (fun w' => (yl_move rfl)) ?_
  refine TP_gp (v := (.pointer (some ⟨b2, 1, none⟩))) r14 rfl (wanted_t rfl rfl rfl rfl) (fun w' hg => (yl_fa 1 Tryd.underlying36 rfl rfl ⟨0, sz3⟩ rfl rfl)) ?_
  refine TP_gq (v := (.int .i64 p_r.Hi)) r14 rfl (wanted_t rfl rfl rfl rfl) (fun w' hS hg => (yl_load sc3 (gd_true hg) (At.drop (Box.at (hB6.ext ((he12).trans hS))) 1))) ?_
  obtain ⟨r20, hr21, h⟩ := bind_elim h
  refine TP_ges r14 (.bool r20) rfl (wanted_t rfl rfl rfl rfl) (fun hg => eff_call Tryd.func125 nm125 rfl (ev1 (gd_true hg)) (locate_isPlace_ok [] _ (LtL.nil _) p_r.Hi r20 (cond_t hg hr21)) (by rintro _ wd22 ⟨he23, rfl⟩; exact ⟨rfl, he23⟩)) ?_
  intro wd22 he23
  have e24 := e18.trans he23
  have e25 := he17.trans he23
  have e26 := e19.trans he23
  refine ⟨e25, ?_⟩
  refine TP_p (v := (.bool (r14 && r20))) rfl rfl (fun w' => (yl_and rfl (fun hb => (gd_true hb)) rfl)) ?_
  obtain ⟨r27, hr28, h⟩ := bind_elim h
  refine TP_e rfl rfl (eff_call Tryd.func85 nm85 rfl (ev2 rfl rfl) (locate_unless_ok [] _ (LtL.nil _) (r14 && r20) 2 r27 hr28) ?_)
  rintro _ wd29 ⟨he30, rfl⟩
  have e31 := e24.trans he30
  have e32 := e25.trans he30
  have e33 := e26.trans he30
  refine ⟨e32, ?_⟩
  obtain ⟨r34, hr35, h⟩ := bind_elim h
  refine TP_e rfl rfl (eff_call Tryd.func85 nm85 rfl (ev2 rfl rfl) (locate_unless_ok [] _ (LtL.nil _) (decide (p_r.Lo ≤ p_r.Hi)) 9 r34 hr35) ?_)
  rintro _ wd36 ⟨he37, rfl⟩
  have e38 := e31.trans he37
  have e39 := e32.trans he37
  have e40 := e33.trans he37
  refine ⟨e39, ?_⟩
  refine TP_e rfl rfl (eff_buildTC (xs := ([r27, r34] : List Int)) (cells := [(.int .i64 r27), (.int .i64 r34)]) Tryd.underlying164 ei30 rfl (pc_cons rfl rfl (pc_cons rfl rfl pc_nil)) rfl (Elems.cons (cs := [(.int .i64 r27)]) rfl (Elems.cons (cs := [(.int .i64 r34)]) rfl Elems.nil)) rfl (hL.chg e40) ?_)
  intro b44 wd41 he42 h43
  have e45 := e38.trans he42
  have e46 := e39.trans he42
  have e47 := e40.trans he42
  refine ⟨e46, ?_⟩
  obtain ⟨r49, hr50, h⟩ := bind_elim h
  refine TP_e rfl rfl (eff_call Tryd.func84 nm84 rfl (ev1 rfl) (locate_first_ok [] _ (LtL.nil _) (.slice (some ⟨b44, 0, none⟩) 2 2) ([r27, r34] : List Int) (h43.sub (fun _ h => by cases h)) r49 hr50) ?_)
  rintro _ wd51 ⟨he52, rfl⟩
  have e53 := e45.trans he52
  have e54 := e46.trans he52
  have e55 := e47.trans he52
  refine ⟨e54, ?_⟩
  refine TP_p (v := (.int .i64 r49)) rfl rfl (fun w' => (yl_assign rfl)) ?_
  refine TP_done ?_
  refine hK10 _ _ ?_
  refine WC_ret ?_
  replace h := some_out h
  subst h
  exact ⟨[(.int .i64 r49)], ⟨rfl, trivial⟩, e55, rfl⟩

noncomputable def ref04_Joined_s0 (p_Listappend : (List LocateRest)) : (Int) → Option ((Int) ⊕ ((LocateRest × Int) ⊕ (Unit))) := fun x232 =>
  (bif (decide (x232 < (p_Listappend.length : Int))) then (
    (Option.bind (idx p_Listappend x232) fun el265 =>
    (Option.bind (base_Within_spec el265.Modulus 1 1000) fun r271 =>
    (Option.bind ((bif (!(!r271)) then idx p_Listappend x232 else some default)) fun el277 =>
    (Option.bind ((bif (!(!r271)) then idx p_Listappend x232 else some default)) fun el282 =>
    (Option.bind (bif (!(!r271)) then base_Within_spec el277.Rest 0 (w64 (el282.Modulus - 1)) else some default) fun r287 =>
    (bif ((!r271) || (!r287)) then (
      some (.inr (.inl ((LocateRest.mk 0 0), 2)))
    ) else (
      some (.inl (w64 (x232 + 1)))
    ))
    )
    )
    )
    )
    )
  ) else (
    some (.inr (.inr ()))
  ))
noncomputable def ref04_Joined_s1 (p_Listappend : (List LocateRest)) : (Int × Int) → Option ((Int × Int) ⊕ ((LocateRest × Int) ⊕ (Unit))) := fun (x461, x463) =>
  (bif (decide (x463 < (p_Listappend.length : Int))) then (
    (Option.bind (idx p_Listappend x463) fun el495 =>
    (Option.bind (idx p_Listappend x463) fun el501 =>
    (Option.bind (base_Gcd_spec x461 el495.Modulus) fun r507 =>
    (Option.bind (quo x461 r507) fun q513 =>
    (bif (decide (1000000000 < w64 (q513 * el501.Modulus))) then (
      some (.inr (.inl ((LocateRest.mk 0 0), 8)))
    ) else (
      some (.inl (w64 (q513 * el501.Modulus), w64 (x463 + 1)))
    ))
    )
    )
    )
    )
  ) else (
    some (.inr (.inr ()))
  ))
noncomputable def ref04_Joined_s2 (p_Listappend : (List LocateRest)) (x1452 : Int) (x1458 : Int) : (Int × Int) → Option ((Int × Int) ⊕ (Int × Int)) := fun (x1641, x1647) =>
  (Option.bind (idx p_Listappend x1452) fun el1681 =>
  (Option.bind ((bif (decide (x1641 < el1681.Modulus)) then idx p_Listappend x1452 else some default)) fun el1687 =>
  (Option.bind ((bif (decide (x1641 < el1681.Modulus)) then idx p_Listappend x1452 else some default)) fun el1692 =>
  (Option.bind ((bif (decide (x1641 < el1681.Modulus)) then rem x1647 el1687.Modulus else some 0)) fun q1697 =>
  (bif ((decide (x1641 < el1681.Modulus)) && (!decide (q1697 = el1692.Rest))) then (
    some (.inl (w64 (x1641 + 1), w64 (x1647 + x1458)))
  ) else (
    some (.inr (x1641, x1647))
  ))
  )
  )
  )
  )
noncomputable def ref04_Joined_s3 (p_Listappend : (List LocateRest)) : (Int × Int × Int) → Option ((Int × Int × Int) ⊕ ((LocateRest × Int) ⊕ (Int × Int))) := fun (x1452, x1458, x1459) =>
  (bif (decide (x1452 < (p_Listappend.length : Int))) then (
    (Option.bind (loop (ref04_Joined_s2 p_Listappend x1452 x1458) (0, x1459)) fun ((x1659, x1665) : Int × Int) =>
    (Option.bind (idx p_Listappend x1452) fun el1709 =>
    (bif (decide (x1659 = el1709.Modulus)) then (
      some (.inr (.inl ((LocateRest.mk 0 0), 12)))
    ) else (
      (Option.bind (idx p_Listappend x1452) fun el1728 =>
      (Option.bind (idx p_Listappend x1452) fun el1734 =>
      (Option.bind (base_Gcd_spec x1458 el1728.Modulus) fun r1740 =>
      (Option.bind (quo x1458 r1740) fun q1746 =>
      (Option.bind (rem x1665 (w64 (q1746 * el1734.Modulus))) fun q1755 =>
      some (.inl (w64 (x1452 + 1), w64 (q1746 * el1734.Modulus), q1755))
      )
      )
      )
      )
      )
    ))
    )
    )
  ) else (
    some (.inr (.inr (x1458, x1459)))
  ))
noncomputable def ref04_Joined_spec (p_Listappend : (List LocateRest)) : Option (LocateRest × Int) :=
  (bif (decide ((p_Listappend.length : Int) = 0)) then (
    some ((LocateRest.mk 0 0), 10)
  ) else (
    (bif (decide (6 < (p_Listappend.length : Int))) then (
      some ((LocateRest.mk 0 0), 8)
    ) else (
      (Option.bind (loop (ref04_Joined_s0 p_Listappend) 0) fun o249 => jn0 o249 fun (_ : Unit) =>
      (Option.bind (loop (ref04_Joined_s1 p_Listappend) (1, 0)) fun o479 => jn0 o479 fun (_ : Unit) =>
      (Option.bind (loop (ref04_Joined_s3 p_Listappend) (0, 1, 0)) fun o1472 => jn0 o1472 fun ((x1468, x1469) : Int × Int) =>
      some ((LocateRest.mk x1468 x1469), 0)
      )
      )
      )
    ))
  ))
theorem ref04_Joined_ok (L : List Value) (w : World) (hL : LtL L w) (v_p_Listappend : Value) (p_Listappend : (List LocateRest)) (h_p_Listappend : SlRd L w v_p_Listappend p_Listappend) (r : LocateRest × Int) (h : ref04_Joined_spec p_Listappend = some r) :
    CallsTo Tryd.prog 34 [v_p_Listappend] w (fun v w' => Ext w w' ∧ ∃ (cs0 : List Value), (.tuple #[(.agg cs0.toArray), (.int .i64 r.2)]) = v ∧ Rep.rd L w' cs0 r.1) := by
  have e0 : Ext w w := Chg.refl _ _
  refine callsTo_of_WC (n := 144) (rs := [.cell 2 53, .tmp 3]) Tryd.func34 rfl rfl rfl rfl rfl ?_
  refine WC_seqK fun K2 hK2 => ?_
  refine WC_region ?_
  refine T0_e rfl (eff_allocZ zi53 ?_)
  intro b3 wd4 hb5 he6 hB7
  have hbf8 := bfresh e0 hb5
  have h9 := h_p_Listappend.step (add_box he6 hb5)
  have e10 := e0.trans he6
  refine T0_q (v := (.int .i64 0)) rfl (yl_assign rfl) ?_
  refine T0_nil ?_
  refine hK2 _ _ ?_
  refine WC_seqK fun K12 hK12 => ?_
  refine WC_region ?_
  refine T0_q (v := (.agg (List.toArray [(.int .i64 0), (.int .i64 0)]))) rfl (yl_buildC (cells := [(.int .i64 0), (.int .i64 0)]) bi53 pc_nil rfl) ?_
  refine T0_e rfl (eff_allocZ zi53 ?_)
  intro b13 wd14 hb15 he16 hB17
  have hn18 : b13 ≠ b3 := box_ne hB7 hb15
  have hbf19 := bfresh e10 hb15
  have h20 := h9.step (add_box he16 hb15)
  have e21 := e10.trans he16
  refine T0_e rfl (eff_storeC (vs := [(.int .i64 0), (.int .i64 0)]) (cs' := [(.int .i64 0), (.int .i64 0)]) sz53 rfl rfl rfl rfl hB17 rfl (oc_cons rfl (oc_cons rfl oc_nil)) rfl ?_)
  intro wd23 hc24 hB25
  have h26 := h20.step (Stepp.chg_mem hc24 mem0)
  have h27 := (hB7.ext he16).chg hc24 (avoidb hn18)
  have e28 := chg_box e21 hc24 hbf19
  refine T0_nil ?_
  refine hK12 _ _ ?_
  refine WC_seqK fun K29 hK29 => ?_
  refine WC_seqK fun K30 hK30 => ?_
  refine WC_region ?_
  refine T0_q (v := v_p_Listappend) rfl (yl_move rfl) ?_
  refine T0_q (v := (.int .i64 (p_Listappend.length : Int))) rfl (yl_lenR rfl Tryd.underlying51 h26 rfl) ?_
  refine T0_q (v := (.bool (decide ((p_Listappend.length : Int) = 0)))) rfl (yl_eql rfl rfl) ?_
  refine T0_nil ?_
  refine hK30 _ _ ?_
  refine WC_cond (b := (decide ((p_Listappend.length : Int) = 0))) rfl (fun hb31 => ?_) (fun hb31 => ?_)
  · replace h := cond_t hb31 h
    refine WC_seqK fun K32 hK32 => ?_
    refine WC_region ?_
    refine T0_q (v := (.agg (List.toArray [(.int .i64 0), (.int .i64 0)]))) rfl (yl_loadA (cs := [(.int .i64 0), (.int .i64 0)]) ag53 rfl (Box.at hB25)) ?_
    refine T0_e rfl (eff_storeC (vs := [(.int .i64 0), (.int .i64 0)]) (cs' := [(.int .i64 0), (.int .i64 0)]) sz53 rfl rfl rfl rfl h27 rfl (oc_cons rfl (oc_cons rfl oc_nil)) rfl ?_)
    intro wd33 hc34 hB35
    have h36 := h26.step (Stepp.chg_mem hc34 (memS mem0))
    have h37 := hB25.chg hc34 (avoidb hn18.symm)
    have e38 := chg_box e28 hc34 hbf8
    refine T0_q (v := (.int .i64 10)) rfl (yl_assign rfl) ?_
    refine T0_nil ?_
    refine hK32 _ _ ?_
    refine WC_ret ?_
    replace h := some_out h
    subst h
    exact ⟨[(.agg (List.toArray [(.int .i64 0), (.int .i64 0)])), (.int .i64 10)], ⟨⟨_, rfl, run_loadVarA (cs := [(.int .i64 0), (.int .i64 0)]) ag53 (Box.at hB35)⟩, rfl, trivial⟩, e38, [(.int .i64 0), (.int .i64 0)], rfl, rfl⟩
  · replace h := cond_f hb31 h
    refine WC_skip ?_
    refine hK29 _ _ ?_
    refine WC_seqK fun K39 hK39 => ?_
    refine WC_seqK fun K40 hK40 => ?_
    refine WC_region ?_
    refine T0_q (v := v_p_Listappend) rfl (yl_move rfl) ?_
    refine T0_q (v := (.int .i64 (p_Listappend.length : Int))) rfl (yl_lenR rfl Tryd.underlying51 h26 rfl) ?_
    refine T0_q (v := (.bool (decide (6 < (p_Listappend.length : Int))))) rfl (yl_gtr rfl rfl) ?_
    refine T0_nil ?_
    refine hK40 _ _ ?_
    refine WC_cond (b := (decide (6 < (p_Listappend.length : Int)))) rfl (fun hb41 => ?_) (fun hb41 => ?_)
    · replace h := cond_t hb41 h
      refine WC_seqK fun K42 hK42 => ?_
      refine WC_region ?_
      refine T0_q (v := (.agg (List.toArray [(.int .i64 0), (.int .i64 0)]))) rfl (yl_loadA (cs := [(.int .i64 0), (.int .i64 0)]) ag53 rfl (Box.at hB25)) ?_
      refine T0_e rfl (eff_storeC (vs := [(.int .i64 0), (.int .i64 0)]) (cs' := [(.int .i64 0), (.int .i64 0)]) sz53 rfl rfl rfl rfl h27 rfl (oc_cons rfl (oc_cons rfl oc_nil)) rfl ?_)
      intro wd43 hc44 hB45
      have h46 := h26.step (Stepp.chg_mem hc44 (memS mem0))
      have h47 := hB25.chg hc44 (avoidb hn18.symm)
      have e48 := chg_box e28 hc44 hbf8
      refine T0_q (v := (.int .i64 8)) rfl (yl_assign rfl) ?_
      refine T0_nil ?_
      refine hK42 _ _ ?_
      refine WC_ret ?_
      replace h := some_out h
      subst h
      exact ⟨[(.agg (List.toArray [(.int .i64 0), (.int .i64 0)])), (.int .i64 8)], ⟨⟨_, rfl, run_loadVarA (cs := [(.int .i64 0), (.int .i64 0)]) ag53 (Box.at hB45)⟩, rfl, trivial⟩, e48, [(.int .i64 0), (.int .i64 0)], rfl, rfl⟩
    · replace h := cond_f hb41 h
      refine WC_skip ?_
      refine hK39 _ _ ?_
      refine WC_seqK fun K49 hK49 => ?_
      refine WC_region ?_
      refine T0_q (v := (.int .i64 1)) rfl (yl_assign rfl) ?_
      refine T0_nil ?_
      refine hK49 _ _ ?_
      refine WC_seqK fun K50 hK50 => ?_
      refine WC_seqK fun K51 hK51 => ?_
      refine WC_region ?_
      refine T0_q (v := (.int .i64 0)) rfl (yl_assign rfl) ?_
      refine T0_nil ?_
      refine hK51 _ _ ?_
      obtain ⟨o249, hl250, hn251⟩ := bind_elim h
      refine WC_post (fun (ρ : Env) (wd238 : World) => .inr () = o249 ∧ ρ 0 = v_p_Listappend ∧ ρ 2 = (.pointer (some ⟨b3, 0, none⟩)) ∧ ρ 4 = (.pointer (some ⟨b13, 0, none⟩)) ∧ ρ 5 = (.int .i64 1) ∧ SlRd ((.pointer (some ⟨b13, 0, none⟩)) :: (.pointer (some ⟨b3, 0, none⟩)) :: L) wd238 v_p_Listappend p_Listappend ∧ Box wd238 b13 [(.int .i64 0), (.int .i64 0)] 53 ∧ Box wd238 b3 [(.int .i64 0), (.int .i64 0)] 53 ∧ Ext w wd238) ?_ ?_
      · intro K255 hK255
        refine WC_block ?_
        refine WC_loopk (fun sv ρ wd225 => ∃ (x232 : Int), x232 = sv ∧ ρ 0 = v_p_Listappend ∧ ρ 2 = (.pointer (some ⟨b3, 0, none⟩)) ∧ ρ 4 = (.pointer (some ⟨b13, 0, none⟩)) ∧ ρ 5 = (.int .i64 1) ∧ ρ 6 = (.int .i64 x232) ∧ SlRd ((.pointer (some ⟨b13, 0, none⟩)) :: (.pointer (some ⟨b3, 0, none⟩)) :: L) wd225 v_p_Listappend p_Listappend ∧ Box wd225 b13 [(.int .i64 0), (.int .i64 0)] 53 ∧ Box wd225 b3 [(.int .i64 0), (.int .i64 0)] 53 ∧ Ext w wd225) hl250 ⟨0, rfl, rfl, rfl, rfl, rfl, rfl, h26, hB25, h27, e28⟩ ?_
        rintro _ ρ wd225 ⟨x232, rfl, hs228, hs229, hs230, hs231, hs233, h227, hB235, hB237, e226⟩ x252 h hx253 K254 hK254
        refine WC_seqK fun K257 hK257 => ?_
        refine WC_seqK fun K258 hK258 => ?_
        refine WC_region ?_
        refine T0_q (v := (.int .i64 x232)) rfl (yl_move hs233) ?_
        refine T0_q (v := v_p_Listappend) rfl (yl_move hs228) ?_
        refine T0_q (v := (.int .i64 (p_Listappend.length : Int))) rfl (yl_lenR rfl Tryd.underlying51 h227 rfl) ?_
        refine T0_q (v := (.bool (decide (x232 < (p_Listappend.length : Int))))) rfl (yl_lss rfl rfl) ?_
        refine T0_nil ?_
        refine hK258 _ _ ?_
        refine WC_cond (b := (decide (x232 < (p_Listappend.length : Int)))) rfl (fun hb259 => ?_) (fun hb259 => ?_)
        · replace h := cond_t hb259 h
          refine WC_skip ?_
          refine hK257 _ _ ?_
          refine WC_seqK fun K260 hK260 => ?_
          refine WC_block ?_
          refine WC_seqK fun K261 hK261 => ?_
          refine WC_plan mixed (.p 0 (.p 1 (.p 2 (.p 3 (.q 4 (.e 5 (.p 6 (.p 7 (.p 8 (.p 9 (.p 10 (.p 11 (.p 13 (.p 14 (.p 15 (.p 16 (.q 12 (.q 17 (.p 18 (.e 19 (.p 20 (.p 21 .done)))))))))))))))))))))) (by kernel_rfl) ?_
          intro wd262 he263
          have e264 := e226.trans he263
          refine TP_p (v := v_p_Listappend) rfl rfl (fun w' => (yl_move hs228)) ?_
          refine TP_p (v := (.int .i64 x232)) rfl rfl (fun w' => (yl_move hs233)) ?_
          obtain ⟨el265, hel266, h⟩ := bind_elim h
          obtain ⟨cs267, hat268, hrd269⟩ := SlRd.at h227 hel266
          have hrd269 : cs267 = [(.int .i64 el265.Modulus), (.int .i64 el265.Rest)] := hrd269
          subst hrd269
          refine TP_p (v := (.pointer (some (elemAddr v_p_Listappend (x232 : Int).toNat 2)))) rfl rfl (fun w' => (yl_indexAddr Tryd.underlying51 sz53 h227 hel266 rfl rfl)) ?_
          refine TP_p (v := (.pointer (some (elemAddr v_p_Listappend (x232 : Int).toNat 2)))) rfl rfl (fun w' => (yl_fa 0 Tryd.underlying53 rfl rfl ⟨0, sz3⟩ rfl rfl)) ?_
          refine TP_q (v := (.int .i64 el265.Modulus)) rfl rfl (fun w' hS => (yl_load sc3 rfl (hat268.ext' ((he263).trans hS)))) ?_
          obtain ⟨r271, hr272, h⟩ := bind_elim h
          refine TP_e rfl rfl (eff_call Tryd.func35 nm35 rfl (ev3 rfl rfl rfl) (base_Within_ok [] _ (LtL.nil _) el265.Modulus 1 1000 r271 hr272) ?_)
          rintro _ wd273 ⟨he274, rfl⟩
          have e275 := he263.trans he274
          have e276 := e264.trans he274
          refine ⟨he274, ?_⟩
          refine TP_p (v := (.bool (!r271))) rfl rfl (fun w' => (yl_not rfl)) ?_
          refine TP_p (v := (.bool (!r271))) rfl rfl (fun w' => (yl_move rfl)) ?_
          refine TP_gp (v := v_p_Listappend) (!(!r271)) rfl (wanted_f rfl rfl rfl rfl) (fun w' hg => (yl_move hs228)) ?_
          refine TP_gp (v := (.int .i64 x232)) (!(!r271)) rfl (wanted_f rfl rfl rfl rfl) (fun w' hg => (yl_move hs233)) ?_
          obtain ⟨el277, hel278, h⟩ := bind_elim h
          have hat280 : (!(!r271)) = true → At wd225 (elemAddr v_p_Listappend (x232 : Int).toNat 2) [(.int .i64 el277.Modulus), (.int .i64 el277.Rest)] := fun hg => by obtain ⟨cs, hat, hrd⟩ := SlRd.at h227 (cond_t hg hel278); have hrd : cs = [(.int .i64 el277.Modulus), (.int .i64 el277.Rest)] := hrd; subst hrd; exact hat
          refine TP_gp (v := (.pointer (some (elemAddr v_p_Listappend (x232 : Int).toNat 2)))) (!(!r271)) rfl (wanted_f rfl rfl rfl rfl) (fun w' hg => (yl_indexAddr Tryd.underlying51 sz53 h227 (cond_t hg hel278) (gd_true hg) (gd_true hg))) ?_
          refine TP_gp (v := (.pointer (some (Addr.add (elemAddr v_p_Listappend (x232 : Int).toNat 2) 1)))) (!(!r271)) rfl (wanted_f rfl rfl rfl rfl) (fun w' hg => (yl_fa 1 Tryd.underlying53 rfl rfl ⟨0, sz3⟩ (gd_true hg) rfl)) ?_
          refine TP_gp (v := v_p_Listappend) (!(!r271)) rfl (wanted_f rfl rfl rfl rfl) (fun w' hg => (yl_move hs228)) ?_
          refine TP_gp (v := (.int .i64 x232)) (!(!r271)) rfl (wanted_f rfl rfl rfl rfl) (fun w' hg => (yl_move hs233)) ?_
          obtain ⟨el282, hel283, h⟩ := bind_elim h
          have hat285 : (!(!r271)) = true → At wd225 (elemAddr v_p_Listappend (x232 : Int).toNat 2) [(.int .i64 el282.Modulus), (.int .i64 el282.Rest)] := fun hg => by obtain ⟨cs, hat, hrd⟩ := SlRd.at h227 (cond_t hg hel283); have hrd : cs = [(.int .i64 el282.Modulus), (.int .i64 el282.Rest)] := hrd; subst hrd; exact hat
          refine TP_gp (v := (.pointer (some (elemAddr v_p_Listappend (x232 : Int).toNat 2)))) (!(!r271)) rfl (wanted_f rfl rfl rfl rfl) (fun w' hg => (yl_indexAddr Tryd.underlying51 sz53 h227 (cond_t hg hel283) (gd_true hg) (gd_true hg))) ?_
          refine TP_gp (v := (.pointer (some (elemAddr v_p_Listappend (x232 : Int).toNat 2)))) (!(!r271)) rfl (wanted_f rfl rfl rfl rfl) (fun w' hg => (yl_fa 0 Tryd.underlying53 rfl rfl ⟨0, sz3⟩ (gd_true hg) rfl)) ?_
          refine TP_gq (v := (.int .i64 el277.Rest)) (!(!r271)) rfl (wanted_f rfl rfl rfl rfl) (fun w' hS hg => (yl_load sc3 (gd_true hg) (At.drop ((hat280 hg).ext' ((he263).trans hS)) 1))) ?_
          refine TP_gq (v := (.int .i64 el282.Modulus)) (!(!r271)) rfl (wanted_f rfl rfl rfl rfl) (fun w' hS hg => (yl_load sc3 (gd_true hg) ((hat285 hg).ext' ((he263).trans hS)))) ?_
          refine TP_gp (v := (.int .i64 (w64 (el282.Modulus - 1)))) (!(!r271)) rfl (wanted_f rfl rfl rfl rfl) (fun w' hg => (yl_sub (gd_true hg) rfl)) ?_
          obtain ⟨r287, hr288, h⟩ := bind_elim h
          refine TP_ges (!(!r271)) (.bool r287) rfl (wanted_f rfl rfl rfl rfl) (fun hg => eff_call Tryd.func35 nm35 rfl (ev3 (gd_true hg) rfl (gd_true hg)) (base_Within_ok [] _ (LtL.nil _) el277.Rest 0 (w64 (el282.Modulus - 1)) r287 (cond_t hg hr288)) (by rintro _ wd289 ⟨he290, rfl⟩; exact ⟨rfl, he290⟩)) ?_
          intro wd289 he290
          have e291 := e275.trans he290
          have e292 := he274.trans he290
          have e293 := e276.trans he290
          refine ⟨e292, ?_⟩
          refine TP_gp (v := (.bool (!r287))) (!(!r271)) rfl (wanted_f rfl rfl rfl rfl) (fun w' hg => (yl_not (gd_true hg))) ?_
          refine TP_p (v := (.bool ((!r271) || (!r287)))) rfl rfl (fun w' => (yl_or rfl rfl (fun hb => (gd_true (not_t hb))))) ?_
          refine TP_done ?_
          refine hK261 _ _ ?_
          refine WC_cond (b := ((!r271) || (!r287))) rfl (fun hb294 => ?_) (fun hb294 => ?_)
          · replace h := cond_t hb294 h
            refine WC_seqK fun K295 hK295 => ?_
            refine WC_region ?_
            refine T0_q (v := (.agg (List.toArray [(.int .i64 0), (.int .i64 0)]))) rfl (yl_loadA (cs := [(.int .i64 0), (.int .i64 0)]) ag53 hs230 (Box.at (hB235.ext e291))) ?_
            refine T0_e rfl (eff_storeC (vs := [(.int .i64 0), (.int .i64 0)]) (cs' := [(.int .i64 0), (.int .i64 0)]) sz53 rfl rfl hs229 rfl (hB237.ext e291) rfl (oc_cons rfl (oc_cons rfl oc_nil)) rfl ?_)
            intro wd296 hc297 hB298
            have h299 := (h227.ext e291).step (Stepp.chg_mem hc297 (memS mem0))
            have h300 := (hB235.ext e291).chg hc297 (avoidb hn18.symm)
            have e301 := chg_box e293 hc297 hbf8
            refine T0_q (v := (.int .i64 2)) rfl (yl_assign rfl) ?_
            refine T0_nil ?_
            refine hK295 _ _ ?_
            refine WC_ret ?_
            replace h := some_out h
            subst h
            have ho := hx253 _ rfl
            subst ho
            replace h := jn0_inl hn251
            replace h := some_out h
            subst h
            exact ⟨[(.agg (List.toArray [(.int .i64 0), (.int .i64 0)])), (.int .i64 2)], ⟨⟨_, hs229, run_loadVarA (cs := [(.int .i64 0), (.int .i64 0)]) ag53 (Box.at hB298)⟩, rfl, trivial⟩, e301, [(.int .i64 0), (.int .i64 0)], rfl, rfl⟩
          · replace h := cond_f hb294 h
            refine WC_skip ?_
            refine hK260 _ _ ?_
            refine WC_region ?_
            refine T0_q (v := (.int .i64 x232)) rfl (yl_move hs233) ?_
            refine T0_q (v := (.int .i64 (w64 (x232 + 1)))) rfl (yl_add rfl rfl) ?_
            refine T0_q (v := (.int .i64 (w64 (x232 + 1)))) rfl (yl_assign rfl) ?_
            refine T0_nil ?_
            replace h := some_out h
            subst h
            refine hK254 _ _ _ rfl ?_
            exact ⟨w64 (x232 + 1), rfl, hs228, hs229, hs230, hs231, rfl, (h227.ext e291), (hB235.ext e291), (hB237.ext e291), e293⟩
        · replace h := cond_f hb259 h
          refine WC_exit ?_
          replace h := some_out h
          subst h
          have ho := hx253 _ rfl
          subst ho
          refine hK255 _ _ ?_
          exact ⟨rfl, hs228, hs229, hs230, hs231, h227, hB235, hB237, e226⟩
      · rintro ρ wd238 ⟨rfl, hs241, hs242, hs243, hs244, h240, hB246, hB248, e239⟩
        replace h := jn0_inr hn251
        refine hK50 _ _ ?_
        refine WC_seqK fun K302 hK302 => ?_
        refine WC_seqK fun K303 hK303 => ?_
        refine WC_region ?_
        refine T0_q (v := (.int .i64 0)) rfl (yl_assign rfl) ?_
        refine T0_nil ?_
        refine hK303 _ _ ?_
        obtain ⟨o479, hl480, hn481⟩ := bind_elim h
        refine WC_post (fun (ρ : Env) (wd469 : World) => .inr () = o479 ∧ ρ 0 = v_p_Listappend ∧ ρ 2 = (.pointer (some ⟨b3, 0, none⟩)) ∧ ρ 4 = (.pointer (some ⟨b13, 0, none⟩)) ∧ SlRd ((.pointer (some ⟨b13, 0, none⟩)) :: (.pointer (some ⟨b3, 0, none⟩)) :: L) wd469 v_p_Listappend p_Listappend ∧ Box wd469 b13 [(.int .i64 0), (.int .i64 0)] 53 ∧ Box wd469 b3 [(.int .i64 0), (.int .i64 0)] 53 ∧ Ext w wd469) ?_ ?_
        · intro K485 hK485
          refine WC_block ?_
          refine WC_loopk (fun sv ρ wd455 => ∃ (x461 : Int) (x463 : Int), (x461, x463) = sv ∧ ρ 0 = v_p_Listappend ∧ ρ 2 = (.pointer (some ⟨b3, 0, none⟩)) ∧ ρ 4 = (.pointer (some ⟨b13, 0, none⟩)) ∧ ρ 5 = (.int .i64 x461) ∧ ρ 7 = (.int .i64 x463) ∧ SlRd ((.pointer (some ⟨b13, 0, none⟩)) :: (.pointer (some ⟨b3, 0, none⟩)) :: L) wd455 v_p_Listappend p_Listappend ∧ Box wd455 b13 [(.int .i64 0), (.int .i64 0)] 53 ∧ Box wd455 b3 [(.int .i64 0), (.int .i64 0)] 53 ∧ Ext w wd455) hl480 ⟨1, 0, rfl, hs241, hs242, hs243, hs244, rfl, h240, hB246, hB248, e239⟩ ?_
          rintro _ ρ wd455 ⟨x461, x463, rfl, hs458, hs459, hs460, hs462, hs464, h457, hB466, hB468, e456⟩ x482 h hx483 K484 hK484
          refine WC_seqK fun K487 hK487 => ?_
          refine WC_seqK fun K488 hK488 => ?_
          refine WC_region ?_
          refine T0_q (v := (.int .i64 x463)) rfl (yl_move hs464) ?_
          refine T0_q (v := v_p_Listappend) rfl (yl_move hs458) ?_
          refine T0_q (v := (.int .i64 (p_Listappend.length : Int))) rfl (yl_lenR rfl Tryd.underlying51 h457 rfl) ?_
          refine T0_q (v := (.bool (decide (x463 < (p_Listappend.length : Int))))) rfl (yl_lss rfl rfl) ?_
          refine T0_nil ?_
          refine hK488 _ _ ?_
          refine WC_cond (b := (decide (x463 < (p_Listappend.length : Int)))) rfl (fun hb489 => ?_) (fun hb489 => ?_)
          · replace h := cond_t hb489 h
            refine WC_skip ?_
            refine hK487 _ _ ?_
            refine WC_seqK fun K490 hK490 => ?_
            refine WC_block ?_
            refine WC_seqK fun K491 hK491 => ?_
            refine WC_plan mixed (.p 0 (.p 1 (.p 2 (.p 3 (.p 4 (.p 5 (.p 9 (.p 10 (.p 11 (.p 12 (.q 6 (.q 13 (.e 7 (.p 8 (.p 14 (.p 15 .done)))))))))))))))) (by kernel_rfl) ?_
            intro wd492 he493
            have e494 := e456.trans he493
            refine TP_p (v := (.int .i64 x461)) rfl rfl (fun w' => (yl_move hs462)) ?_
            refine TP_p (v := (.int .i64 x461)) rfl rfl (fun w' => (yl_move hs462)) ?_
            refine TP_p (v := v_p_Listappend) rfl rfl (fun w' => (yl_move hs458)) ?_
            refine TP_p (v := (.int .i64 x463)) rfl rfl (fun w' => (yl_move hs464)) ?_
            obtain ⟨el495, hel496, h⟩ := bind_elim h
            obtain ⟨cs497, hat498, hrd499⟩ := SlRd.at h457 hel496
            have hrd499 : cs497 = [(.int .i64 el495.Modulus), (.int .i64 el495.Rest)] := hrd499
            subst hrd499
            refine TP_p (v := (.pointer (some (elemAddr v_p_Listappend (x463 : Int).toNat 2)))) rfl rfl (fun w' => (yl_indexAddr Tryd.underlying51 sz53 h457 hel496 rfl rfl)) ?_
            refine TP_p (v := (.pointer (some (elemAddr v_p_Listappend (x463 : Int).toNat 2)))) rfl rfl (fun w' => (yl_fa 0 Tryd.underlying53 rfl rfl ⟨0, sz3⟩ rfl rfl)) ?_
            refine TP_p (v := v_p_Listappend) rfl rfl (fun w' => (yl_move hs458)) ?_
            refine TP_p (v := (.int .i64 x463)) rfl rfl (fun w' => (yl_move hs464)) ?_
            obtain ⟨el501, hel502, h⟩ := bind_elim h
            obtain ⟨cs503, hat504, hrd505⟩ := SlRd.at h457 hel502
            have hrd505 : cs503 = [(.int .i64 el501.Modulus), (.int .i64 el501.Rest)] := hrd505
            subst hrd505
            refine TP_p (v := (.pointer (some (elemAddr v_p_Listappend (x463 : Int).toNat 2)))) rfl rfl (fun w' => (yl_indexAddr Tryd.underlying51 sz53 h457 hel502 rfl rfl)) ?_
            refine TP_p (v := (.pointer (some (elemAddr v_p_Listappend (x463 : Int).toNat 2)))) rfl rfl (fun w' => (yl_fa 0 Tryd.underlying53 rfl rfl ⟨0, sz3⟩ rfl rfl)) ?_
            refine TP_q (v := (.int .i64 el495.Modulus)) rfl rfl (fun w' hS => (yl_load sc3 rfl (hat498.ext' ((he493).trans hS)))) ?_
            refine TP_q (v := (.int .i64 el501.Modulus)) rfl rfl (fun w' hS => (yl_load sc3 rfl (hat504.ext' ((he493).trans hS)))) ?_
            obtain ⟨r507, hr508, h⟩ := bind_elim h
            refine TP_e rfl rfl (eff_call Tryd.func92 nm92 rfl (ev2 rfl rfl) (base_Gcd_ok [] _ (LtL.nil _) x461 el495.Modulus r507 hr508) ?_)
            rintro _ wd509 ⟨he510, rfl⟩
            have e511 := he493.trans he510
            have e512 := e494.trans he510
            refine ⟨he510, ?_⟩
            obtain ⟨q513, hq514, h⟩ := bind_elim h
            refine TP_p (v := (.int .i64 q513)) rfl rfl (fun w' => (yl_quo' hq514 rfl rfl)) ?_
            refine TP_p (v := (.int .i64 (w64 (q513 * el501.Modulus)))) rfl rfl (fun w' => (yl_mul rfl rfl)) ?_
            refine TP_p (v := (.int .i64 (w64 (q513 * el501.Modulus)))) rfl rfl (fun w' => (yl_assign rfl)) ?_
            refine TP_done ?_
            refine hK491 _ _ ?_
            refine WC_seqK fun K515 hK515 => ?_
            refine WC_region ?_
            refine T0_q (v := (.int .i64 (w64 (q513 * el501.Modulus)))) rfl (yl_move rfl) ?_
            refine T0_q (v := (.bool (decide (1000000000 < w64 (q513 * el501.Modulus))))) rfl (yl_gtr rfl rfl) ?_
            refine T0_nil ?_
            refine hK515 _ _ ?_
            refine WC_cond (b := (decide (1000000000 < w64 (q513 * el501.Modulus)))) rfl (fun hb516 => ?_) (fun hb516 => ?_)
            · replace h := cond_t hb516 h
              refine WC_seqK fun K517 hK517 => ?_
              refine WC_region ?_
              refine T0_q (v := (.agg (List.toArray [(.int .i64 0), (.int .i64 0)]))) rfl (yl_loadA (cs := [(.int .i64 0), (.int .i64 0)]) ag53 hs460 (Box.at (hB466.ext e511))) ?_
              refine T0_e rfl (eff_storeC (vs := [(.int .i64 0), (.int .i64 0)]) (cs' := [(.int .i64 0), (.int .i64 0)]) sz53 rfl rfl hs459 rfl (hB468.ext e511) rfl (oc_cons rfl (oc_cons rfl oc_nil)) rfl ?_)
              intro wd518 hc519 hB520
              have h521 := (h457.ext e511).step (Stepp.chg_mem hc519 (memS mem0))
              have h522 := (hB466.ext e511).chg hc519 (avoidb hn18.symm)
              have e523 := chg_box e512 hc519 hbf8
              refine T0_q (v := (.int .i64 8)) rfl (yl_assign rfl) ?_
              refine T0_nil ?_
              refine hK517 _ _ ?_
              refine WC_ret ?_
              replace h := some_out h
              subst h
              have ho := hx483 _ rfl
              subst ho
              replace h := jn0_inl hn481
              replace h := some_out h
              subst h
              exact ⟨[(.agg (List.toArray [(.int .i64 0), (.int .i64 0)])), (.int .i64 8)], ⟨⟨_, hs459, run_loadVarA (cs := [(.int .i64 0), (.int .i64 0)]) ag53 (Box.at hB520)⟩, rfl, trivial⟩, e523, [(.int .i64 0), (.int .i64 0)], rfl, rfl⟩
            · replace h := cond_f hb516 h
              refine WC_skip ?_
              refine hK490 _ _ ?_
              refine WC_region ?_
              refine T0_q (v := (.int .i64 x463)) rfl (yl_move hs464) ?_
              refine T0_q (v := (.int .i64 (w64 (x463 + 1)))) rfl (yl_add rfl rfl) ?_
              refine T0_q (v := (.int .i64 (w64 (x463 + 1)))) rfl (yl_assign rfl) ?_
              refine T0_nil ?_
              replace h := some_out h
              subst h
              refine hK484 _ _ _ rfl ?_
              exact ⟨w64 (q513 * el501.Modulus), w64 (x463 + 1), rfl, hs458, hs459, hs460, rfl, rfl, (h457.ext e511), (hB466.ext e511), (hB468.ext e511), e512⟩
          · replace h := cond_f hb489 h
            refine WC_exit ?_
            replace h := some_out h
            subst h
            have ho := hx483 _ rfl
            subst ho
            refine hK485 _ _ ?_
            exact ⟨rfl, hs458, hs459, hs460, h457, hB466, hB468, e456⟩
        · rintro ρ wd469 ⟨rfl, hs472, hs473, hs474, h471, hB476, hB478, e470⟩
          replace h := jn0_inr hn481
          refine hK302 _ _ ?_
          refine WC_seqK fun K524 hK524 => ?_
          refine WC_region ?_
          refine T0_q (v := (.agg (List.toArray [(.int .i64 1), (.int .i64 0)]))) rfl (yl_buildC (cells := [(.int .i64 1), (.int .i64 0)]) bi53 (pc_cons rfl rfl pc_nil) rfl) ?_
          refine T0_e rfl (eff_allocZ zi53 ?_)
          intro b525 wd526 hb527 he528 hB529
          have hn530 : b525 ≠ b13 := box_ne hB476 hb527
          have hn531 : b525 ≠ b3 := box_ne hB478 hb527
          have hbf532 := bfresh e470 hb527
          have h533 := h471.step (add_box he528 hb527)
          have e534 := e470.trans he528
          refine T0_e rfl (eff_storeC (vs := [(.int .i64 1), (.int .i64 0)]) (cs' := [(.int .i64 1), (.int .i64 0)]) sz53 rfl rfl rfl rfl hB529 rfl (oc_cons rfl (oc_cons rfl oc_nil)) rfl ?_)
          intro wd536 hc537 hB538
          have h539 := h533.step (Stepp.chg_mem hc537 mem0)
          have h540 := (hB476.ext he528).chg hc537 (avoidb hn530)
          have h541 := (hB478.ext he528).chg hc537 (avoidb hn531)
          have e542 := chg_box e534 hc537 hbf532
          refine T0_nil ?_
          refine hK524 _ _ ?_
          refine WC_seqK fun K543 hK543 => ?_
          refine WC_seqK fun K544 hK544 => ?_
          refine WC_region ?_
          refine T0_q (v := (.int .i64 0)) rfl (yl_assign rfl) ?_
          refine T0_nil ?_
          refine hK544 _ _ ?_
          obtain ⟨o1472, hl1473, hn1474⟩ := bind_elim h
          refine WC_post (fun (ρ : Env) (wd1462 : World) => ∃ (x1468 : Int) (x1469 : Int), .inr (x1468, x1469) = o1472 ∧ ρ 2 = (.pointer (some ⟨b3, 0, none⟩)) ∧ ρ 8 = (.pointer (some ⟨b525, 0, none⟩)) ∧ Box wd1462 b3 [(.int .i64 0), (.int .i64 0)] 53 ∧ Box wd1462 b525 [(.int .i64 x1468), (.int .i64 x1469)] 53 ∧ Ext w wd1462) ?_ ?_
          · intro K1478 hK1478
            refine WC_block ?_
            refine WC_loopk (fun sv ρ wd1445 => ∃ (x1452 : Int) (x1458 : Int) (x1459 : Int), (x1452, x1458, x1459) = sv ∧ ρ 0 = v_p_Listappend ∧ ρ 2 = (.pointer (some ⟨b3, 0, none⟩)) ∧ ρ 4 = (.pointer (some ⟨b13, 0, none⟩)) ∧ ρ 8 = (.pointer (some ⟨b525, 0, none⟩)) ∧ ρ 9 = (.int .i64 x1452) ∧ SlRd ((.pointer (some ⟨b525, 0, none⟩)) :: (.pointer (some ⟨b13, 0, none⟩)) :: (.pointer (some ⟨b3, 0, none⟩)) :: L) wd1445 v_p_Listappend p_Listappend ∧ Box wd1445 b13 [(.int .i64 0), (.int .i64 0)] 53 ∧ Box wd1445 b3 [(.int .i64 0), (.int .i64 0)] 53 ∧ Box wd1445 b525 [(.int .i64 x1458), (.int .i64 x1459)] 53 ∧ Ext w wd1445) hl1473 ⟨0, 1, 0, rfl, hs472, hs473, hs474, rfl, rfl, h539, h540, h541, hB538, e542⟩ ?_
            rintro _ ρ wd1445 ⟨x1452, x1458, x1459, rfl, hs1448, hs1449, hs1450, hs1451, hs1453, h1447, hB1455, hB1457, hB1461, e1446⟩ x1475 h hx1476 K1477 hK1477
            refine WC_seqK fun K1480 hK1480 => ?_
            refine WC_seqK fun K1481 hK1481 => ?_
            refine WC_region ?_
            refine T0_q (v := (.int .i64 x1452)) rfl (yl_move hs1453) ?_
            refine T0_q (v := v_p_Listappend) rfl (yl_move hs1448) ?_
            refine T0_q (v := (.int .i64 (p_Listappend.length : Int))) rfl (yl_lenR rfl Tryd.underlying51 h1447 rfl) ?_
            refine T0_q (v := (.bool (decide (x1452 < (p_Listappend.length : Int))))) rfl (yl_lss rfl rfl) ?_
            refine T0_nil ?_
            refine hK1481 _ _ ?_
            refine WC_cond (b := (decide (x1452 < (p_Listappend.length : Int)))) rfl (fun hb1482 => ?_) (fun hb1482 => ?_)
            · replace h := cond_t hb1482 h
              refine WC_skip ?_
              refine hK1480 _ _ ?_
              refine WC_seqK fun K1483 hK1483 => ?_
              refine WC_block ?_
              refine WC_seqK fun K1484 hK1484 => ?_
              refine WC_region ?_
              refine T0_q (v := (.pointer (some ⟨b525, 0, none⟩))) rfl (yl_fa 0 Tryd.underlying53 rfl rfl ⟨0, sz3⟩ hs1451 rfl) ?_
              refine T0_q (v := (.int .i64 x1458)) rfl (yl_load sc3 rfl (Box.at hB1461)) ?_
              refine T0_q (v := (.int .i64 x1458)) rfl (yl_assign rfl) ?_
              refine T0_nil ?_
              refine hK1484 _ _ ?_
              refine WC_seqK fun K1485 hK1485 => ?_
              refine WC_region ?_
              refine T0_q (v := (.int .i64 0)) rfl (yl_assign rfl) ?_
              refine T0_nil ?_
              refine hK1485 _ _ ?_
              refine WC_seqK fun K1486 hK1486 => ?_
              obtain ⟨o1668, hl1669, hn1670⟩ := bind_elim h
              refine WC_post (fun (ρ : Env) (wd1650 : World) => ∃ (x1659 : Int) (x1665 : Int), (x1659, x1665) = o1668 ∧ ρ 0 = v_p_Listappend ∧ ρ 2 = (.pointer (some ⟨b3, 0, none⟩)) ∧ ρ 4 = (.pointer (some ⟨b13, 0, none⟩)) ∧ ρ 8 = (.pointer (some ⟨b525, 0, none⟩)) ∧ ρ 9 = (.int .i64 x1452) ∧ ρ 10 = (.int .i64 x1458) ∧ ρ 11 = (.int .i64 x1659) ∧ SlRd ((.pointer (some ⟨b525, 0, none⟩)) :: (.pointer (some ⟨b13, 0, none⟩)) :: (.pointer (some ⟨b3, 0, none⟩)) :: L) wd1650 v_p_Listappend p_Listappend ∧ Box wd1650 b13 [(.int .i64 0), (.int .i64 0)] 53 ∧ Box wd1650 b3 [(.int .i64 0), (.int .i64 0)] 53 ∧ Box wd1650 b525 [(.int .i64 x1458), (.int .i64 x1665)] 53 ∧ Ext w wd1650) ?_ ?_
              · intro K1674 hK1674
                refine WC_block ?_
                refine WC_loopk (fun sv ρ wd1632 => ∃ (x1641 : Int) (x1647 : Int), (x1641, x1647) = sv ∧ ρ 0 = v_p_Listappend ∧ ρ 2 = (.pointer (some ⟨b3, 0, none⟩)) ∧ ρ 4 = (.pointer (some ⟨b13, 0, none⟩)) ∧ ρ 8 = (.pointer (some ⟨b525, 0, none⟩)) ∧ ρ 9 = (.int .i64 x1452) ∧ ρ 10 = (.int .i64 x1458) ∧ ρ 11 = (.int .i64 x1641) ∧ SlRd ((.pointer (some ⟨b525, 0, none⟩)) :: (.pointer (some ⟨b13, 0, none⟩)) :: (.pointer (some ⟨b3, 0, none⟩)) :: L) wd1632 v_p_Listappend p_Listappend ∧ Box wd1632 b13 [(.int .i64 0), (.int .i64 0)] 53 ∧ Box wd1632 b3 [(.int .i64 0), (.int .i64 0)] 53 ∧ Box wd1632 b525 [(.int .i64 x1458), (.int .i64 x1647)] 53 ∧ Ext w wd1632) hl1669 ⟨0, x1459, rfl, hs1448, hs1449, hs1450, hs1451, hs1453, rfl, rfl, h1447, hB1455, hB1457, hB1461, e1446⟩ ?_
                rintro _ ρ wd1632 ⟨x1641, x1647, rfl, hs1635, hs1636, hs1637, hs1638, hs1639, hs1640, hs1642, h1634, hB1644, hB1646, hB1649, e1633⟩ x1671 h hx1672 K1673 hK1673
                refine WC_seqK fun K1676 hK1676 => ?_
                refine WC_seqK fun K1677 hK1677 => ?_
                refine WC_plan mixed (.p 0 (.p 1 (.p 2 (.p 3 (.p 4 (.q 5 (.p 6 (.p 7 (.p 8 (.p 10 (.p 11 (.p 12 (.p 13 (.p 16 (.p 17 (.p 18 (.p 19 (.q 9 (.q 14 (.p 15 (.q 20 (.p 21 (.p 22 .done))))))))))))))))))))))) (by kernel_rfl) ?_
                intro wd1678 he1679
                have e1680 := e1633.trans he1679
                refine TP_p (v := (.int .i64 x1641)) rfl rfl (fun w' => (yl_move hs1642)) ?_
                refine TP_p (v := v_p_Listappend) rfl rfl (fun w' => (yl_move hs1635)) ?_
                refine TP_p (v := (.int .i64 x1452)) rfl rfl (fun w' => (yl_move hs1639)) ?_
                obtain ⟨el1681, hel1682, h⟩ := bind_elim h
                obtain ⟨cs1683, hat1684, hrd1685⟩ := SlRd.at h1634 hel1682
                have hrd1685 : cs1683 = [(.int .i64 el1681.Modulus), (.int .i64 el1681.Rest)] := hrd1685
                subst hrd1685
                refine TP_p (v := (.pointer (some (elemAddr v_p_Listappend (x1452 : Int).toNat 2)))) rfl rfl (fun w' => (yl_indexAddr Tryd.underlying51 sz53 h1634 hel1682 rfl rfl)) ?_
                refine TP_p (v := (.pointer (some (elemAddr v_p_Listappend (x1452 : Int).toNat 2)))) rfl rfl (fun w' => (yl_fa 0 Tryd.underlying53 rfl rfl ⟨0, sz3⟩ rfl rfl)) ?_
                refine TP_q (v := (.int .i64 el1681.Modulus)) rfl rfl (fun w' hS => (yl_load sc3 rfl (hat1684.ext' ((he1679).trans hS)))) ?_
                refine TP_p (v := (.bool (decide (x1641 < el1681.Modulus)))) rfl rfl (fun w' => (yl_lss rfl rfl)) ?_
                refine TP_p (v := (.bool (decide (x1641 < el1681.Modulus)))) rfl rfl (fun w' => (yl_move rfl)) ?_
                refine TP_gp (v := (.pointer (some ⟨b525, 1, none⟩))) (decide (x1641 < el1681.Modulus)) rfl (wanted_t rfl rfl rfl rfl) (fun w' hg => (yl_fa 1 Tryd.underlying53 rfl rfl ⟨0, sz3⟩ hs1638 rfl)) ?_
                refine TP_gp (v := v_p_Listappend) (decide (x1641 < el1681.Modulus)) rfl (wanted_t rfl rfl rfl rfl) (fun w' hg => (yl_move hs1635)) ?_
                refine TP_gp (v := (.int .i64 x1452)) (decide (x1641 < el1681.Modulus)) rfl (wanted_t rfl rfl rfl rfl) (fun w' hg => (yl_move hs1639)) ?_
                obtain ⟨el1687, hel1688, h⟩ := bind_elim h
                have hat1690 : (decide (x1641 < el1681.Modulus)) = true → At wd1632 (elemAddr v_p_Listappend (x1452 : Int).toNat 2) [(.int .i64 el1687.Modulus), (.int .i64 el1687.Rest)] := fun hg => by obtain ⟨cs, hat, hrd⟩ := SlRd.at h1634 (cond_t hg hel1688); have hrd : cs = [(.int .i64 el1687.Modulus), (.int .i64 el1687.Rest)] := hrd; subst hrd; exact hat
                refine TP_gp (v := (.pointer (some (elemAddr v_p_Listappend (x1452 : Int).toNat 2)))) (decide (x1641 < el1681.Modulus)) rfl (wanted_t rfl rfl rfl rfl) (fun w' hg => (yl_indexAddr Tryd.underlying51 sz53 h1634 (cond_t hg hel1688) (gd_true hg) (gd_true hg))) ?_
                refine TP_gp (v := (.pointer (some (elemAddr v_p_Listappend (x1452 : Int).toNat 2)))) (decide (x1641 < el1681.Modulus)) rfl (wanted_t rfl rfl rfl rfl) (fun w' hg => (yl_fa 0 Tryd.underlying53 rfl rfl ⟨0, sz3⟩ (gd_true hg) rfl)) ?_
                refine TP_gp (v := v_p_Listappend) (decide (x1641 < el1681.Modulus)) rfl (wanted_t rfl rfl rfl rfl) (fun w' hg => (yl_move hs1635)) ?_
                refine TP_gp (v := (.int .i64 x1452)) (decide (x1641 < el1681.Modulus)) rfl (wanted_t rfl rfl rfl rfl) (fun w' hg => (yl_move hs1639)) ?_
                obtain ⟨el1692, hel1693, h⟩ := bind_elim h
                have hat1695 : (decide (x1641 < el1681.Modulus)) = true → At wd1632 (elemAddr v_p_Listappend (x1452 : Int).toNat 2) [(.int .i64 el1692.Modulus), (.int .i64 el1692.Rest)] := fun hg => by obtain ⟨cs, hat, hrd⟩ := SlRd.at h1634 (cond_t hg hel1693); have hrd : cs = [(.int .i64 el1692.Modulus), (.int .i64 el1692.Rest)] := hrd; subst hrd; exact hat
                refine TP_gp (v := (.pointer (some (elemAddr v_p_Listappend (x1452 : Int).toNat 2)))) (decide (x1641 < el1681.Modulus)) rfl (wanted_t rfl rfl rfl rfl) (fun w' hg => (yl_indexAddr Tryd.underlying51 sz53 h1634 (cond_t hg hel1693) (gd_true hg) (gd_true hg))) ?_
                refine TP_gp (v := (.pointer (some (Addr.add (elemAddr v_p_Listappend (x1452 : Int).toNat 2) 1)))) (decide (x1641 < el1681.Modulus)) rfl (wanted_t rfl rfl rfl rfl) (fun w' hg => (yl_fa 1 Tryd.underlying53 rfl rfl ⟨0, sz3⟩ (gd_true hg) rfl)) ?_
                refine TP_gq (v := (.int .i64 x1647)) (decide (x1641 < el1681.Modulus)) rfl (wanted_t rfl rfl rfl rfl) (fun w' hS hg => (yl_load sc3 (gd_true hg) (At.drop (Box.at (hB1649.ext ((he1679).trans hS))) 1))) ?_
                refine TP_gq (v := (.int .i64 el1687.Modulus)) (decide (x1641 < el1681.Modulus)) rfl (wanted_t rfl rfl rfl rfl) (fun w' hS hg => (yl_load sc3 (gd_true hg) ((hat1690 hg).ext' ((he1679).trans hS)))) ?_
                obtain ⟨q1697, hq1698, h⟩ := bind_elim h
                refine TP_gp (v := (.int .i64 q1697)) (decide (x1641 < el1681.Modulus)) rfl (wanted_t rfl rfl rfl rfl) (fun w' hg => (yl_rem' (cond_t hg hq1698) (gd_true hg) (gd_true hg))) ?_
                refine TP_gq (v := (.int .i64 el1692.Rest)) (decide (x1641 < el1681.Modulus)) rfl (wanted_t rfl rfl rfl rfl) (fun w' hS hg => (yl_load sc3 (gd_true hg) (At.drop ((hat1695 hg).ext' ((he1679).trans hS)) 1))) ?_
                refine TP_gp (v := (.bool (!decide (q1697 = el1692.Rest)))) (decide (x1641 < el1681.Modulus)) rfl (wanted_t rfl rfl rfl rfl) (fun w' hg => (yl_neq (gd_true hg) (gd_true hg))) ?_
                refine TP_p (v := (.bool ((decide (x1641 < el1681.Modulus)) && (!decide (q1697 = el1692.Rest))))) rfl rfl (fun w' => (yl_and rfl (fun hb => (gd_true hb)) rfl)) ?_
                refine TP_done ?_
                refine hK1677 _ _ ?_
                refine WC_cond (b := ((decide (x1641 < el1681.Modulus)) && (!decide (q1697 = el1692.Rest)))) rfl (fun hb1699 => ?_) (fun hb1699 => ?_)
                · replace h := cond_t hb1699 h
                  refine WC_skip ?_
                  refine hK1676 _ _ ?_
                  refine WC_block ?_
                  refine WC_region ?_
                  refine T0_q (v := (.pointer (some ⟨b525, 1, none⟩))) rfl (yl_fa 1 Tryd.underlying53 rfl rfl ⟨0, sz3⟩ hs1638 rfl) ?_
                  refine T0_q (v := (.int .i64 x1647)) rfl (yl_load sc3 rfl (At.drop (Box.at (hB1649.ext he1679)) 1)) ?_
                  refine T0_q (v := (.int .i64 x1458)) rfl (yl_move hs1640) ?_
                  refine T0_q (v := (.int .i64 (w64 (x1647 + x1458)))) rfl (yl_add rfl rfl) ?_
                  refine T0_q (v := (.int .i64 x1641)) rfl (yl_move hs1642) ?_
                  refine T0_q (v := (.int .i64 (w64 (x1641 + 1)))) rfl (yl_add rfl rfl) ?_
                  refine T0_q (v := (.pointer (some ⟨b525, 1, none⟩))) rfl (yl_fa 1 Tryd.underlying53 rfl rfl ⟨0, sz3⟩ hs1638 rfl) ?_
                  refine T0_e rfl (eff_storeC (vs := [(.int .i64 (w64 (x1647 + x1458)))]) (cs' := [(.int .i64 x1458), (.int .i64 (w64 (x1647 + x1458)))]) sz3 rfl rfl rfl rfl (hB1649.ext he1679) rfl (oc_cons rfl oc_nil) rfl ?_)
                  intro wd1700 hc1701 hB1702
                  have h1703 := (h1634.ext he1679).step (Stepp.chg_mem hc1701 mem0)
                  have h1704 := (hB1644.ext he1679).chg hc1701 (avoidb hn530)
                  have h1705 := (hB1646.ext he1679).chg hc1701 (avoidb hn531)
                  have e1706 := chg_box e1680 hc1701 hbf532
                  refine T0_q (v := (.int .i64 (w64 (x1641 + 1)))) rfl (yl_assign rfl) ?_
                  refine T0_nil ?_
                  replace h := some_out h
                  subst h
                  refine hK1673 _ _ _ rfl ?_
                  exact ⟨w64 (x1641 + 1), w64 (x1647 + x1458), rfl, hs1635, hs1636, hs1637, hs1638, hs1639, hs1640, rfl, h1703, h1704, h1705, hB1702, e1706⟩
                · replace h := cond_f hb1699 h
                  refine WC_exit ?_
                  replace h := some_out h
                  subst h
                  have ho := hx1672 _ rfl
                  subst ho
                  refine hK1674 _ _ ?_
                  exact ⟨x1641, x1647, rfl, hs1635, hs1636, hs1637, hs1638, hs1639, hs1640, hs1642, (h1634.ext he1679), (hB1644.ext he1679), (hB1646.ext he1679), (hB1649.ext he1679), e1680⟩
              · rintro ρ wd1650 ⟨x1659, x1665, rfl, hs1653, hs1654, hs1655, hs1656, hs1657, hs1658, hs1660, h1652, hB1662, hB1664, hB1667, e1651⟩
                replace h := hn1670
                refine hK1486 _ _ ?_
                refine WC_seqK fun K1707 hK1707 => ?_
                refine WC_seqK fun K1708 hK1708 => ?_
                refine WC_region ?_
                refine T0_q (v := (.int .i64 x1659)) rfl (yl_move hs1660) ?_
                refine T0_q (v := v_p_Listappend) rfl (yl_move hs1653) ?_
                refine T0_q (v := (.int .i64 x1452)) rfl (yl_move hs1657) ?_
                obtain ⟨el1709, hel1710, h⟩ := bind_elim h
                obtain ⟨cs1711, hat1712, hrd1713⟩ := SlRd.at h1652 hel1710
                have hrd1713 : cs1711 = [(.int .i64 el1709.Modulus), (.int .i64 el1709.Rest)] := hrd1713
                subst hrd1713
                refine T0_q (v := (.pointer (some (elemAddr v_p_Listappend (x1452 : Int).toNat 2)))) rfl (yl_indexAddr Tryd.underlying51 sz53 h1652 hel1710 rfl rfl) ?_
                refine T0_q (v := (.pointer (some (elemAddr v_p_Listappend (x1452 : Int).toNat 2)))) rfl (yl_fa 0 Tryd.underlying53 rfl rfl ⟨0, sz3⟩ rfl rfl) ?_
                refine T0_q (v := (.int .i64 el1709.Modulus)) rfl (yl_load sc3 rfl hat1712) ?_
                refine T0_q (v := (.bool (decide (x1659 = el1709.Modulus)))) rfl (yl_eql rfl rfl) ?_
                refine T0_nil ?_
                refine hK1708 _ _ ?_
                refine WC_cond (b := (decide (x1659 = el1709.Modulus))) rfl (fun hb1715 => ?_) (fun hb1715 => ?_)
                · replace h := cond_t hb1715 h
                  refine WC_seqK fun K1716 hK1716 => ?_
                  refine WC_region ?_
                  refine T0_q (v := (.agg (List.toArray [(.int .i64 0), (.int .i64 0)]))) rfl (yl_loadA (cs := [(.int .i64 0), (.int .i64 0)]) ag53 hs1655 (Box.at hB1662)) ?_
                  refine T0_e rfl (eff_storeC (vs := [(.int .i64 0), (.int .i64 0)]) (cs' := [(.int .i64 0), (.int .i64 0)]) sz53 rfl rfl hs1654 rfl hB1664 rfl (oc_cons rfl (oc_cons rfl oc_nil)) rfl ?_)
                  intro wd1717 hc1718 hB1719
                  have h1720 := h1652.step (Stepp.chg_mem hc1718 (memS (memS mem0)))
                  have h1721 := hB1662.chg hc1718 (avoidb hn18.symm)
                  have h1722 := hB1667.chg hc1718 (avoidb hn531.symm)
                  have e1723 := chg_box e1651 hc1718 hbf8
                  refine T0_q (v := (.int .i64 12)) rfl (yl_assign rfl) ?_
                  refine T0_nil ?_
                  refine hK1716 _ _ ?_
                  refine WC_ret ?_
                  replace h := some_out h
                  subst h
                  have ho := hx1476 _ rfl
                  subst ho
                  replace h := jn0_inl hn1474
                  replace h := some_out h
                  subst h
                  exact ⟨[(.agg (List.toArray [(.int .i64 0), (.int .i64 0)])), (.int .i64 12)], ⟨⟨_, hs1654, run_loadVarA (cs := [(.int .i64 0), (.int .i64 0)]) ag53 (Box.at hB1719)⟩, rfl, trivial⟩, e1723, [(.int .i64 0), (.int .i64 0)], rfl, rfl⟩
                · replace h := cond_f hb1715 h
                  refine WC_skip ?_
                  refine hK1707 _ _ ?_
                  refine WC_seqK fun K1724 hK1724 => ?_
                  refine WC_plan mixed (.p 0 (.p 1 (.p 2 (.p 3 (.p 4 (.p 5 (.p 9 (.p 10 (.p 11 (.p 12 (.q 6 (.q 13 (.e 7 (.p 8 (.p 14 (.p 15 (.b 16 .done))))))))))))))))) (by kernel_rfl) ?_
                  intro wd1725 he1726
                  have e1727 := e1651.trans he1726
                  refine TP_p (v := (.int .i64 x1458)) rfl rfl (fun w' => (yl_move hs1658)) ?_
                  refine TP_p (v := (.int .i64 x1458)) rfl rfl (fun w' => (yl_move hs1658)) ?_
                  refine TP_p (v := v_p_Listappend) rfl rfl (fun w' => (yl_move hs1653)) ?_
                  refine TP_p (v := (.int .i64 x1452)) rfl rfl (fun w' => (yl_move hs1657)) ?_
                  obtain ⟨el1728, hel1729, h⟩ := bind_elim h
                  obtain ⟨cs1730, hat1731, hrd1732⟩ := SlRd.at h1652 hel1729
                  have hrd1732 : cs1730 = [(.int .i64 el1728.Modulus), (.int .i64 el1728.Rest)] := hrd1732
                  subst hrd1732
                  refine TP_p (v := (.pointer (some (elemAddr v_p_Listappend (x1452 : Int).toNat 2)))) rfl rfl (fun w' => (yl_indexAddr Tryd.underlying51 sz53 h1652 hel1729 rfl rfl)) ?_
                  refine TP_p (v := (.pointer (some (elemAddr v_p_Listappend (x1452 : Int).toNat 2)))) rfl rfl (fun w' => (yl_fa 0 Tryd.underlying53 rfl rfl ⟨0, sz3⟩ rfl rfl)) ?_
                  refine TP_p (v := v_p_Listappend) rfl rfl (fun w' => (yl_move hs1653)) ?_
                  refine TP_p (v := (.int .i64 x1452)) rfl rfl (fun w' => (yl_move hs1657)) ?_
                  obtain ⟨el1734, hel1735, h⟩ := bind_elim h
                  obtain ⟨cs1736, hat1737, hrd1738⟩ := SlRd.at h1652 hel1735
                  have hrd1738 : cs1736 = [(.int .i64 el1734.Modulus), (.int .i64 el1734.Rest)] := hrd1738
                  subst hrd1738
                  refine TP_p (v := (.pointer (some (elemAddr v_p_Listappend (x1452 : Int).toNat 2)))) rfl rfl (fun w' => (yl_indexAddr Tryd.underlying51 sz53 h1652 hel1735 rfl rfl)) ?_
                  refine TP_p (v := (.pointer (some (elemAddr v_p_Listappend (x1452 : Int).toNat 2)))) rfl rfl (fun w' => (yl_fa 0 Tryd.underlying53 rfl rfl ⟨0, sz3⟩ rfl rfl)) ?_
                  refine TP_q (v := (.int .i64 el1728.Modulus)) rfl rfl (fun w' hS => (yl_load sc3 rfl (hat1731.ext' ((he1726).trans hS)))) ?_
                  refine TP_q (v := (.int .i64 el1734.Modulus)) rfl rfl (fun w' hS => (yl_load sc3 rfl (hat1737.ext' ((he1726).trans hS)))) ?_
                  obtain ⟨r1740, hr1741, h⟩ := bind_elim h
                  refine TP_e rfl rfl (eff_call Tryd.func92 nm92 rfl (ev2 rfl rfl) (base_Gcd_ok [] _ (LtL.nil _) x1458 el1728.Modulus r1740 hr1741) ?_)
                  rintro _ wd1742 ⟨he1743, rfl⟩
                  have e1744 := he1726.trans he1743
                  have e1745 := e1727.trans he1743
                  refine ⟨he1743, ?_⟩
                  obtain ⟨q1746, hq1747, h⟩ := bind_elim h
                  refine TP_p (v := (.int .i64 q1746)) rfl rfl (fun w' => (yl_quo' hq1747 rfl rfl)) ?_
                  refine TP_p (v := (.int .i64 (w64 (q1746 * el1734.Modulus)))) rfl rfl (fun w' => (yl_mul rfl rfl)) ?_
                  refine TP_p (v := (.pointer (some ⟨b525, 0, none⟩))) rfl rfl (fun w' => (yl_fa 0 Tryd.underlying53 rfl rfl ⟨0, sz3⟩ hs1656 rfl)) ?_
                  refine TP_b rfl rfl (eff_storeC (vs := [(.int .i64 (w64 (q1746 * el1734.Modulus)))]) (cs' := [(.int .i64 (w64 (q1746 * el1734.Modulus))), (.int .i64 x1665)]) sz3 rfl rfl rfl rfl (hB1667.ext e1744) rfl (oc_cons rfl oc_nil) rfl ?_)
                  intro wd1748 hc1749 hB1750
                  have h1751 := (h1652.ext e1744).step (Stepp.chg_mem hc1749 mem0)
                  have h1752 := (hB1662.ext e1744).chg hc1749 (avoidb hn530)
                  have h1753 := (hB1664.ext e1744).chg hc1749 (avoidb hn531)
                  have e1754 := chg_box e1745 hc1749 hbf532
                  refine TP_done ?_
                  refine hK1724 _ _ ?_
                  refine WC_region ?_
                  refine T0_q (v := (.pointer (some ⟨b525, 1, none⟩))) rfl (yl_fa 1 Tryd.underlying53 rfl rfl ⟨0, sz3⟩ hs1656 rfl) ?_
                  refine T0_q (v := (.int .i64 x1665)) rfl (yl_load sc3 rfl (At.drop (Box.at hB1750) 1)) ?_
                  refine T0_q (v := (.pointer (some ⟨b525, 0, none⟩))) rfl (yl_fa 0 Tryd.underlying53 rfl rfl ⟨0, sz3⟩ hs1656 rfl) ?_
                  refine T0_q (v := (.int .i64 (w64 (q1746 * el1734.Modulus)))) rfl (yl_load sc3 rfl (Box.at hB1750)) ?_
                  obtain ⟨q1755, hq1756, h⟩ := bind_elim h
                  refine T0_q (v := (.int .i64 q1755)) rfl (yl_rem' hq1756 rfl rfl) ?_
                  refine T0_q (v := (.pointer (some ⟨b525, 1, none⟩))) rfl (yl_fa 1 Tryd.underlying53 rfl rfl ⟨0, sz3⟩ hs1656 rfl) ?_
                  refine T0_e rfl (eff_storeC (vs := [(.int .i64 q1755)]) (cs' := [(.int .i64 (w64 (q1746 * el1734.Modulus))), (.int .i64 q1755)]) sz3 rfl rfl rfl rfl hB1750 rfl (oc_cons rfl oc_nil) rfl ?_)
                  intro wd1757 hc1758 hB1759
                  have h1760 := h1751.step (Stepp.chg_mem hc1758 mem0)
                  have h1761 := h1752.chg hc1758 (avoidb hn530)
                  have h1762 := h1753.chg hc1758 (avoidb hn531)
                  have e1763 := chg_box e1754 hc1758 hbf532
                  refine T0_nil ?_
                  refine hK1483 _ _ ?_
                  refine WC_region ?_
                  refine T0_q (v := (.int .i64 x1452)) rfl (yl_move hs1657) ?_
                  refine T0_q (v := (.int .i64 (w64 (x1452 + 1)))) rfl (yl_add rfl rfl) ?_
                  refine T0_q (v := (.int .i64 (w64 (x1452 + 1)))) rfl (yl_assign rfl) ?_
                  refine T0_nil ?_
                  replace h := some_out h
                  subst h
                  refine hK1477 _ _ _ rfl ?_
                  exact ⟨w64 (x1452 + 1), w64 (q1746 * el1734.Modulus), q1755, rfl, hs1653, hs1654, hs1655, hs1656, rfl, h1760, h1761, h1762, hB1759, e1763⟩
            · replace h := cond_f hb1482 h
              refine WC_exit ?_
              replace h := some_out h
              subst h
              have ho := hx1476 _ rfl
              subst ho
              refine hK1478 _ _ ?_
              exact ⟨x1458, x1459, rfl, hs1449, hs1451, hB1457, hB1461, e1446⟩
          · rintro ρ wd1462 ⟨x1468, x1469, rfl, hs1464, hs1465, hB1467, hB1471, e1463⟩
            replace h := jn0_inr hn1474
            refine hK543 _ _ ?_
            refine WC_seqK fun K1764 hK1764 => ?_
            refine WC_region ?_
            refine T0_q (v := (.agg (List.toArray [(.int .i64 x1468), (.int .i64 x1469)]))) rfl (yl_loadA (cs := [(.int .i64 x1468), (.int .i64 x1469)]) ag53 hs1465 (Box.at hB1471)) ?_
            refine T0_e rfl (eff_storeC (vs := [(.int .i64 x1468), (.int .i64 x1469)]) (cs' := [(.int .i64 x1468), (.int .i64 x1469)]) sz53 rfl rfl hs1464 rfl hB1467 rfl (oc_cons rfl (oc_cons rfl oc_nil)) rfl ?_)
            intro wd1765 hc1766 hB1767
            have h1768 := hB1471.chg hc1766 (avoidb hn531.symm)
            have e1769 := chg_box e1463 hc1766 hbf8
            refine T0_q (v := (.int .i64 0)) rfl (yl_assign rfl) ?_
            refine T0_nil ?_
            refine hK1764 _ _ ?_
            refine WC_ret ?_
            replace h := some_out h
            subst h
            exact ⟨[(.agg (List.toArray [(.int .i64 x1468), (.int .i64 x1469)])), (.int .i64 0)], ⟨⟨_, hs1464, run_loadVarA (cs := [(.int .i64 x1468), (.int .i64 x1469)]) ag53 (Box.at hB1767)⟩, rfl, trivial⟩, e1769, [(.int .i64 x1468), (.int .i64 x1469)], rfl, rfl⟩

noncomputable def locate_Fused_s0 (p_Listappend : (List Range)) : ((List locate_edge) × Int) → Option (((List locate_edge) × Int) ⊕ (((List Range) × Int) ⊕ ((List locate_edge)))) := fun (x271, x278) =>
  (bif (decide (x278 < (p_Listappend.length : Int))) then (
    (Option.bind (idx p_Listappend x278) fun el310 =>
    (Option.bind (locate_placesErr_spec el310) fun r335 =>
    (bif (!decide (r335 = 0)) then (
      some (.inr (.inl (([] : (List Range)), r335)))
    ) else (
      (Option.bind (app x271 ([(locate_edge.mk el310.Lo 1), (locate_edge.mk (w64 (el310.Hi + 1)) (-1))] : List locate_edge)) fun zs353 =>
      some (.inl (zs353, w64 (x278 + 1)))
      )
    ))
    )
    )
  ) else (
    some (.inr (.inr x271))
  ))
noncomputable def locate_Fused_s1 (p_Listappend : (List Range)) (p_String : Int) (zs378 : (List locate_edge)) : ((List Range) × Int × Bool × Int) → Option (((List Range) × Int × Bool × Int) ⊕ ((List Range))) := fun (x691, x697, x699, x703) =>
  (bif (decide (x703 < (zs378.length : Int))) then (
    (Option.bind (idx zs378 x703) fun el733 =>
    (Option.bind ((bif (decide (w64 (x703 + 1) < (zs378.length : Int))) then idx zs378 (w64 (x703 + 1)) else some default)) fun el763 =>
    (bif ((decide (w64 (x703 + 1) < (zs378.length : Int))) && (decide (el763.at_ = el733.at_))) then (
      some (.inl (x691, w64 (x697 + el733.by_), x699, w64 (x703 + 1)))
    ) else (
      (bif ((decide (w64 ((p_Listappend.length : Int) - p_String) ≤ w64 (x697 + el733.by_))) && (!x699)) then (
        (Option.bind (app x691 ([(Range.mk el733.at_ 0)] : List Range)) fun zs782 =>
        some (.inl (zs782, w64 (x697 + el733.by_), true, w64 (x703 + 1)))
        )
      ) else (
        (bif ((!(decide (w64 ((p_Listappend.length : Int) - p_String) ≤ w64 (x697 + el733.by_)))) && x699) then (
          (Option.bind (idx x691 (w64 ((x691.length : Int) - 1))) fun el800 =>
          some (.inl ((x691.set (w64 ((x691.length : Int) - 1) : Int).toNat (Range.mk el800.Lo (w64 (el733.at_ - 1)))), w64 (x697 + el733.by_), false, w64 (x703 + 1)))
          )
        ) else (
          some (.inl (x691, w64 (x697 + el733.by_), x699, w64 (x703 + 1)))
        ))
      ))
    ))
    )
    )
  ) else (
    some (.inr x691)
  ))
noncomputable def locate_Fused_spec (p_Listappend : (List Range)) (p_String : Int) : Option ((List Range) × Int) :=
  (Option.bind (locate_unless_spec (decide (0 < (p_Listappend.length : Int))) 10) fun r5 =>
  (Option.bind (locate_unless_spec (decide ((p_Listappend.length : Int) ≤ 12)) 8) fun r10 =>
  (Option.bind (locate_first_spec ([r5, r10] : List Int)) fun r23 =>
  (bif (!decide (r23 = 0)) then (
    some (([] : (List Range)), r23)
  ) else (
    (Option.bind (loop (locate_Fused_s0 p_Listappend) (([] : List locate_edge), 0)) fun o297 => jn0 o297 fun (x292 : (List locate_edge)) =>
    (Option.bind (locate_within_spec p_String 0 (w64 ((p_Listappend.length : Int) - 1))) fun r370 =>
    (bif (!r370) then (
      some (([] : (List Range)), 2)
    ) else (
      (Option.bind (sortE x292) fun zs378 =>
      (Option.bind (loop (locate_Fused_s1 p_Listappend p_String zs378) (([] : List Range), 0, false, 0)) fun (x715 : (List Range)) =>
      some (x715, 0)
      )
      )
    ))
    )
    )
  ))
  )
  )
  )
theorem locate_Fused_ok (L : List Value) (w : World) (hL : LtL L w) (v_p_Listappend : Value) (p_Listappend : (List Range)) (h_p_Listappend : SlRd L w v_p_Listappend p_Listappend) (p_String : Int) (r : (List Range) × Int) (h : locate_Fused_spec p_Listappend p_String = some r) :
    CallsTo Tryd.prog 57 [v_p_Listappend, (.int .i64 p_String)] w (fun v w' => Ext w w' ∧ ∃ (v0 : Value), (.tuple #[v0, (.int .i64 r.2)]) = v ∧ SlRd L w' v0 r.1) := by
  have e0 : Ext w w := Chg.refl _ _
  refine callsTo_of_WC (n := 124) (rs := [.tmp 4, .tmp 5]) Tryd.func57 rfl rfl rfl rfl rfl ?_
  refine WC_seqK fun K2 hK2 => ?_
  refine WC_region ?_
  refine T0_q (v := (.slice none 0 0)) rfl (yl_assign rfl) ?_
  refine T0_q (v := (.int .i64 0)) rfl (yl_assign rfl) ?_
  refine T0_nil ?_
  refine hK2 _ _ ?_
  refine WC_seqK fun K3 hK3 => ?_
  refine WC_seqK fun K4 hK4 => ?_
  refine WC_region ?_
  refine T0_q (v := v_p_Listappend) rfl (yl_move rfl) ?_
  refine T0_q (v := (.int .i64 (p_Listappend.length : Int))) rfl (yl_lenR rfl Tryd.underlying29 h_p_Listappend rfl) ?_
  refine T0_q (v := (.bool (decide (0 < (p_Listappend.length : Int))))) rfl (yl_gtr rfl rfl) ?_
  obtain ⟨r5, hr6, h⟩ := bind_elim h
  refine T0_e rfl (eff_call Tryd.func85 nm85 rfl (ev2 rfl rfl) (locate_unless_ok [] _ (LtL.nil _) (decide (0 < (p_Listappend.length : Int))) 10 r5 hr6) ?_)
  rintro _ wd7 ⟨he8, rfl⟩
  have e9 := e0.trans he8
  refine T0_q (v := v_p_Listappend) rfl (yl_move rfl) ?_
  refine T0_q (v := (.int .i64 (p_Listappend.length : Int))) rfl (yl_lenR rfl Tryd.underlying29 h_p_Listappend rfl) ?_
  refine T0_q (v := (.bool (decide ((p_Listappend.length : Int) ≤ 12)))) rfl (yl_leq rfl rfl) ?_
  obtain ⟨r10, hr11, h⟩ := bind_elim h
  refine T0_e rfl (eff_call Tryd.func85 nm85 rfl (ev2 rfl rfl) (locate_unless_ok [] _ (LtL.nil _) (decide ((p_Listappend.length : Int) ≤ 12)) 8 r10 hr11) ?_)
  rintro _ wd12 ⟨he13, rfl⟩
  have e14 := he8.trans he13
  have e15 := e9.trans he13
  refine T0_e rfl (eff_buildTC (xs := ([r5, r10] : List Int)) (cells := [(.int .i64 r5), (.int .i64 r10)]) Tryd.underlying164 ei30 rfl (pc_cons rfl rfl (pc_cons rfl rfl pc_nil)) rfl (Elems.cons (cs := [(.int .i64 r5)]) rfl (Elems.cons (cs := [(.int .i64 r10)]) rfl Elems.nil)) rfl (hL.chg e15) ?_)
  intro b19 wd16 he17 h18
  have e20 := e14.trans he17
  have e21 := e15.trans he17
  obtain ⟨r23, hr24, h⟩ := bind_elim h
  refine T0_e rfl (eff_call Tryd.func84 nm84 rfl (ev1 rfl) (locate_first_ok [] _ (LtL.nil _) (.slice (some ⟨b19, 0, none⟩) 2 2) ([r5, r10] : List Int) (h18.sub (fun _ h => by cases h)) r23 hr24) ?_)
  rintro _ wd25 ⟨he26, rfl⟩
  have e27 := e20.trans he26
  have e28 := e21.trans he26
  refine T0_q (v := (.int .i64 r23)) rfl (yl_assign rfl) ?_
  refine T0_nil ?_
  refine hK4 _ _ ?_
  refine WC_seqK fun K29 hK29 => ?_
  refine WC_region ?_
  refine T0_q (v := (.int .i64 r23)) rfl (yl_move rfl) ?_
  refine T0_q (v := (.bool (!decide (r23 = 0)))) rfl (yl_neq rfl rfl) ?_
  refine T0_nil ?_
  refine hK29 _ _ ?_
  refine WC_cond (b := (!decide (r23 = 0))) rfl (fun hb30 => ?_) (fun hb30 => ?_)
  · replace h := cond_t hb30 h
    refine WC_seqK fun K31 hK31 => ?_
    refine WC_region ?_
    refine T0_q (v := (.int .i64 r23)) rfl (yl_move rfl) ?_
    refine T0_q (v := (.slice none 0 0)) rfl (yl_assign rfl) ?_
    refine T0_q (v := (.int .i64 r23)) rfl (yl_assign rfl) ?_
    refine T0_nil ?_
    refine hK31 _ _ ?_
    refine WC_ret ?_
    replace h := some_out h
    subst h
    exact ⟨[(.slice none 0 0), (.int .i64 r23)], ⟨rfl, rfl, trivial⟩, e28, (.slice none 0 0), rfl, (SlRd.nil _ _)⟩
  · replace h := cond_f hb30 h
    refine WC_skip ?_
    refine hK3 _ _ ?_
    refine WC_seqK fun K32 hK32 => ?_
    refine WC_region ?_
    refine T0_q (v := (.slice none 0 0)) rfl (yl_assign rfl) ?_
    refine T0_nil ?_
    refine hK32 _ _ ?_
    refine WC_seqK fun K33 hK33 => ?_
    refine WC_seqK fun K34 hK34 => ?_
    refine WC_region ?_
    refine T0_q (v := v_p_Listappend) rfl (yl_move rfl) ?_
    refine T0_q (v := (.int .i64 (p_Listappend.length : Int))) rfl (yl_lenR rfl Tryd.underlying29 h_p_Listappend rfl) ?_
    refine T0_q (v := (.int .i64 0)) rfl (yl_move rfl) ?_
    refine T0_nil ?_
    refine hK34 _ _ ?_
    have h280 := (h_p_Listappend.ext e27).step (add_nil _)
    have h281 := (h18.ext he26).step (add_nil _)
    have h283 : Own 152 ((.slice none 0 0) :: L) wd25 (.slice none 0 0) ([] : List locate_edge) := Own.nil _ _ _
    obtain ⟨o297, hl298, hn299⟩ := bind_elim h
    refine WC_post (fun (ρ : Env) (wd285 : World) => ∃ (x292 : (List locate_edge)) (v291 : Value), .inr x292 = o297 ∧ ρ 0 = v_p_Listappend ∧ ρ 1 = (.int .i64 p_String) ∧ ρ 7 = v291 ∧ SlRd (v291 :: L) wd285 v_p_Listappend p_Listappend ∧ Own 152 (v291 :: L) wd285 v291 x292 ∧ (∀ b, blk v291 = some b → w.heap.size ≤ b) ∧ Ext w wd285) ?_ ?_
    · intro K303 hK303
      refine WC_block ?_
      refine WC_loopk (fun sv ρ wd264 => ∃ (x271 : (List locate_edge)) (x278 : Int) (v270 : Value), (x271, x278) = sv ∧ ρ 0 = v_p_Listappend ∧ ρ 1 = (.int .i64 p_String) ∧ ρ 7 = v270 ∧ ρ 31 = v_p_Listappend ∧ ρ 32 = (.int .i64 (p_Listappend.length : Int)) ∧ ρ 33 = (.int .i64 x278) ∧ SlRd (v270 :: L) wd264 v_p_Listappend p_Listappend ∧ Own 152 (v270 :: L) wd264 v270 x271 ∧ (∀ b, blk v270 = some b → w.heap.size ≤ b) ∧ Ext w wd264) hl298 ⟨([] : List locate_edge), 0, (.slice none 0 0), rfl, rfl, rfl, rfl, rfl, rfl, rfl, h280, h283, (fun b h => blk_nil b h), e28⟩ ?_
      rintro _ ρ wd264 ⟨x271, x278, v270, rfl, hs267, hs268, hs275, hs276, hs277, hs279, h266, h273, hf274, e265⟩ x300 h hx301 K302 hK302
      refine WC_seqK fun K305 hK305 => ?_
      refine WC_region ?_
      refine T0_q (v := (.bool (decide (x278 < (p_Listappend.length : Int))))) rfl (yl_lss hs279 hs277) ?_
      refine T0_nil ?_
      refine hK305 _ _ ?_
      refine WC_seqK fun K306 hK306 => ?_
      refine WC_cond (b := (decide (x278 < (p_Listappend.length : Int)))) rfl (fun hb307 => ?_) (fun hb307 => ?_)
      · replace h := cond_t hb307 h
        refine WC_skip ?_
        refine hK306 _ _ ?_
        refine WC_seqK fun K308 hK308 => ?_
        refine WC_block ?_
        refine WC_seqK fun K309 hK309 => ?_
        refine WC_region ?_
        obtain ⟨el310, hel311, h⟩ := bind_elim h
        obtain ⟨cs312, hat313, hrd314⟩ := SlRd.at h266 hel311
        have hrd314 : cs312 = [(.int .i64 el310.Lo), (.int .i64 el310.Hi)] := hrd314
        subst hrd314
        refine T0_q (v := (.pointer (some (elemAddr v_p_Listappend (x278 : Int).toNat 2)))) rfl (yl_indexAddr Tryd.underlying29 sz36 h266 hel311 hs276 hs279) ?_
        refine T0_q (v := (.agg (List.toArray [(.int .i64 el310.Lo), (.int .i64 el310.Hi)]))) rfl (yl_loadA (cs := [(.int .i64 el310.Lo), (.int .i64 el310.Hi)]) ag36 rfl hat313) ?_
        refine T0_e rfl (eff_allocZ zi36 ?_)
        intro b316 wd317 hb318 he319 hB320
        have hn321 : blk v270 ≠ some b316 := ne_new_box h273 hb318
        have hbf322 := bfresh e265 hb318
        have h323 := h266.step (add_box he319 hb318)
        have h324 := h273.step (add_box he319 hb318) he319 (fun _ _ => Avoids.nil _)
        have e325 := e265.trans he319
        refine T0_e rfl (eff_storeC (vs := [(.int .i64 el310.Lo), (.int .i64 el310.Hi)]) (cs' := [(.int .i64 el310.Lo), (.int .i64 el310.Hi)]) sz36 rfl rfl rfl rfl hB320 rfl (oc_cons rfl (oc_cons rfl oc_nil)) rfl ?_)
        intro wd327 hc328 hB329
        have h330 := h323.step (Stepp.chg_mem hc328 mem0)
        have h331 := h324.step (Stepp.chg_mem hc328 mem0) hc328 (av_box hn321)
        have e332 := chg_box e325 hc328 hbf322
        refine T0_nil ?_
        refine hK309 _ _ ?_
        refine WC_seqK fun K333 hK333 => ?_
        refine WC_seqK fun K334 hK334 => ?_
        refine WC_region ?_
        refine T0_q (v := (.agg (List.toArray [(.int .i64 el310.Lo), (.int .i64 el310.Hi)]))) rfl (yl_loadA (cs := [(.int .i64 el310.Lo), (.int .i64 el310.Hi)]) ag36 rfl (Box.at hB329)) ?_
        obtain ⟨r335, hr336, h⟩ := bind_elim h
        refine T0_e rfl (eff_call Tryd.func105 nm105 rfl (ev1 rfl) (locate_placesErr_ok [] _ (LtL.nil _) [(.int .i64 el310.Lo), (.int .i64 el310.Hi)] el310 rfl r335 hr336) ?_)
        rintro _ wd337 ⟨he338, rfl⟩
        have e339 := e332.trans he338
        refine T0_q (v := (.int .i64 r335)) rfl (yl_assign rfl) ?_
        refine T0_nil ?_
        refine hK334 _ _ ?_
        refine WC_seqK fun K340 hK340 => ?_
        refine WC_region ?_
        refine T0_q (v := (.int .i64 r335)) rfl (yl_move rfl) ?_
        refine T0_q (v := (.bool (!decide (r335 = 0)))) rfl (yl_neq rfl rfl) ?_
        refine T0_nil ?_
        refine hK340 _ _ ?_
        refine WC_cond (b := (!decide (r335 = 0))) rfl (fun hb341 => ?_) (fun hb341 => ?_)
        · replace h := cond_t hb341 h
          refine WC_seqK fun K342 hK342 => ?_
          refine WC_region ?_
          refine T0_q (v := (.int .i64 r335)) rfl (yl_move rfl) ?_
          refine T0_q (v := (.slice none 0 0)) rfl (yl_assign rfl) ?_
          refine T0_q (v := (.int .i64 r335)) rfl (yl_assign rfl) ?_
          refine T0_nil ?_
          refine hK342 _ _ ?_
          refine WC_ret ?_
          replace h := some_out h
          subst h
          have ho := hx301 _ rfl
          subst ho
          replace h := jn0_inl hn299
          replace h := some_out h
          subst h
          exact ⟨[(.slice none 0 0), (.int .i64 r335)], ⟨rfl, rfl, trivial⟩, e339, (.slice none 0 0), rfl, (SlRd.nil _ _)⟩
        · replace h := cond_f hb341 h
          refine WC_skip ?_
          refine hK333 _ _ ?_
          refine WC_region ?_
          refine T0_q (v := v270) rfl (yl_move hs275) ?_
          refine T0_q (v := (.pointer (some ⟨b316, 0, none⟩))) rfl (yl_fa 0 Tryd.underlying36 rfl rfl ⟨0, sz3⟩ rfl rfl) ?_
          refine T0_q (v := (.int .i64 el310.Lo)) rfl (yl_load sc3 rfl (Box.at (hB329.ext he338))) ?_
          refine T0_q (v := (.agg (List.toArray [(.int .i64 el310.Lo), (.int .i64 1)]))) rfl (yl_buildC (cells := [(.int .i64 el310.Lo), (.int .i64 1)]) bi152 (pc_cons rfl rfl (pc_cons rfl rfl pc_nil)) rfl) ?_
          refine T0_q (v := (.pointer (some ⟨b316, 1, none⟩))) rfl (yl_fa 1 Tryd.underlying36 rfl rfl ⟨0, sz3⟩ rfl rfl) ?_
          refine T0_q (v := (.int .i64 el310.Hi)) rfl (yl_load sc3 rfl (At.drop (Box.at (hB329.ext he338)) 1)) ?_
          refine T0_q (v := (.int .i64 (w64 (el310.Hi + 1)))) rfl (yl_add rfl rfl) ?_
          refine T0_q (v := (.agg (List.toArray [(.int .i64 (w64 (el310.Hi + 1))), (.int .i64 (-1))]))) rfl (yl_buildC (cells := [(.int .i64 (w64 (el310.Hi + 1))), (.int .i64 (-1))]) bi152 (pc_cons rfl rfl (pc_cons rfl rfl pc_nil)) rfl) ?_
          refine T0_e rfl (eff_buildTC (xs := ([(locate_edge.mk el310.Lo 1), (locate_edge.mk (w64 (el310.Hi + 1)) (-1))] : List locate_edge)) (cells := [(.int .i64 el310.Lo), (.int .i64 1), (.int .i64 (w64 (el310.Hi + 1))), (.int .i64 (-1))]) Tryd.underlying149 ei152 rfl (pc_cons rfl rfl (pc_cons rfl rfl pc_nil)) rfl (Elems.cons (cs := [(.int .i64 el310.Lo), (.int .i64 1)]) rfl (Elems.cons (cs := [(.int .i64 (w64 (el310.Hi + 1))), (.int .i64 (-1))]) rfl Elems.nil)) rfl (ltl_box (ltl_own (hL.chg e339) (h331.ext he338)) (hB329.ext he338)) ?_)
          intro b346 wd343 he344 h345
          have e347 := he338.trans he344
          have e348 := e339.trans he344
          have h350 := (h330.ext e347).sub (sub_cons (memS mem0) (sub_cons mem0 (sub_skip (sub_skip (sub_refl _)))))
          have h351 := (h331.ext e347).sub (sub_cons (memS mem0) (sub_cons mem0 (sub_skip (sub_skip (sub_refl _)))))
          have h352 := h345.sub (sub_cons (memS mem0) (sub_cons mem0 (sub_skip (sub_skip (sub_refl _)))))
          obtain ⟨zs353, hz354, h⟩ := bind_elim h
          refine T0_e rfl (eff_app Tryd.underlying149 ei152 rfl rfl rfl rfl h351 h352 hz354 ?_)
          intro v355 wd356 hc357 hbl358 h359
          have hn361 : blk v355 ≠ some b316 := ne_swap hbl358 hn321 (hB329.ext e347)
          have hf362 := fresh_swap hbl358 hf274 e348.size
          have h363 := h350.step (Stepp.swap hc357 hbl358)
          have h364 := (hB329.ext e347).chg hc357 (avoid1 hn321)
          have h365 := h352.step (Stepp.swap hc357 hbl358)
          have e366 := chg_own e348 hc357 hf274
          refine T0_q (v := v355) rfl (yl_assign rfl) ?_
          refine T0_nil ?_
          refine hK308 _ _ ?_
          refine WC_region ?_
          refine T0_q (v := (.int .i64 (w64 (x278 + 1)))) rfl (yl_add hs279 rfl) ?_
          refine T0_q (v := (.int .i64 (w64 (x278 + 1)))) rfl (yl_move rfl) ?_
          refine T0_nil ?_
          replace h := some_out h
          subst h
          refine hK302 _ _ _ rfl ?_
          exact ⟨zs353, w64 (x278 + 1), v355, rfl, hs267, hs268, rfl, hs276, hs277, rfl, (h363.sub (sub_cons mem0 (sub_skip (sub_skip (sub_refl _))))), (h359.sub (sub_cons mem0 (sub_skip (sub_skip (sub_refl _))))), hf362, e366⟩
      · replace h := cond_f hb307 h
        refine WC_exit ?_
        replace h := some_out h
        subst h
        have ho := hx301 _ rfl
        subst ho
        refine hK303 _ _ ?_
        exact ⟨x271, v270, rfl, hs267, hs268, hs275, h266, h273, hf274, e265⟩
    · rintro ρ wd285 ⟨x292, v291, rfl, hs288, hs289, hs296, h287, h294, hf295, e286⟩
      replace h := jn0_inr hn299
      refine hK33 _ _ ?_
      refine WC_seqK fun K368 hK368 => ?_
      refine WC_seqK fun K369 hK369 => ?_
      refine WC_region ?_
      refine T0_q (v := (.int .i64 p_String)) rfl (yl_move hs289) ?_
      refine T0_q (v := v_p_Listappend) rfl (yl_move hs288) ?_
      refine T0_q (v := (.int .i64 (p_Listappend.length : Int))) rfl (yl_lenR rfl Tryd.underlying29 h287 rfl) ?_
      refine T0_q (v := (.int .i64 (w64 ((p_Listappend.length : Int) - 1)))) rfl (yl_sub rfl rfl) ?_
      obtain ⟨r370, hr371, h⟩ := bind_elim h
      refine T0_e rfl (eff_call Tryd.func86 nm86 rfl (ev3 rfl rfl rfl) (locate_within_ok [] _ (LtL.nil _) p_String 0 (w64 ((p_Listappend.length : Int) - 1)) r370 hr371) ?_)
      rintro _ wd372 ⟨he373, rfl⟩
      have e374 := e286.trans he373
      refine T0_q (v := (.bool (!r370))) rfl (yl_not rfl) ?_
      refine T0_nil ?_
      refine hK369 _ _ ?_
      refine WC_cond (b := (!r370)) rfl (fun hb375 => ?_) (fun hb375 => ?_)
      · replace h := cond_t hb375 h
        refine WC_seqK fun K376 hK376 => ?_
        refine WC_region ?_
        refine T0_q (v := (.slice none 0 0)) rfl (yl_assign rfl) ?_
        refine T0_q (v := (.int .i64 2)) rfl (yl_assign rfl) ?_
        refine T0_nil ?_
        refine hK376 _ _ ?_
        refine WC_ret ?_
        replace h := some_out h
        subst h
        exact ⟨[(.slice none 0 0), (.int .i64 2)], ⟨rfl, rfl, trivial⟩, e374, (.slice none 0 0), rfl, (SlRd.nil _ _)⟩
      · replace h := cond_f hb375 h
        refine WC_skip ?_
        refine hK368 _ _ ?_
        refine WC_seqK fun K377 hK377 => ?_
        refine WC_region ?_
        refine T0_q (v := v291) rfl (yl_move hs296) ?_
        obtain ⟨zs378, hz379, h⟩ := bind_elim h
        refine T0_e rfl (eff_call Tryd.func106 nm106 rfl (ev2 rfl rfl) (sortE_ok (h294.ext he373) hz379) ?_)
        rintro _ wd380 ⟨hc381, rfl, h382⟩
        have h383 := (h287.ext he373).step (Stepp.chg_mem hc381 mem0)
        have e384 := chg_own e374 hc381 hf295
        refine T0_nil ?_
        refine hK377 _ _ ?_
        refine WC_seqK fun K385 hK385 => ?_
        refine WC_region ?_
        refine T0_q (v := (.slice none 0 0)) rfl (yl_assign rfl) ?_
        refine T0_nil ?_
        refine hK385 _ _ ?_
        refine WC_seqK fun K386 hK386 => ?_
        refine WC_region ?_
        refine T0_q (v := v_p_Listappend) rfl (yl_move hs288) ?_
        refine T0_q (v := (.int .i64 (p_Listappend.length : Int))) rfl (yl_lenR rfl Tryd.underlying29 h383 rfl) ?_
        refine T0_q (v := (.int .i64 p_String)) rfl (yl_move hs289) ?_
        refine T0_q (v := (.int .i64 (w64 ((p_Listappend.length : Int) - p_String)))) rfl (yl_sub rfl rfl) ?_
        refine T0_q (v := (.int .i64 (w64 ((p_Listappend.length : Int) - p_String)))) rfl (yl_assign rfl) ?_
        refine T0_q (v := (.int .i64 0)) rfl (yl_assign rfl) ?_
        refine T0_q (v := (.bool false)) rfl (yl_assign rfl) ?_
        refine T0_nil ?_
        refine hK386 _ _ ?_
        refine WC_seqK fun K387 hK387 => ?_
        refine WC_seqK fun K388 hK388 => ?_
        refine WC_region ?_
        refine T0_q (v := v291) rfl (yl_move hs296) ?_
        refine T0_q (v := (.int .i64 (zs378.length : Int))) rfl (yl_lenO rfl Tryd.underlying149 h382 rfl) ?_
        refine T0_q (v := (.int .i64 0)) rfl (yl_move rfl) ?_
        refine T0_nil ?_
        refine hK388 _ _ ?_
        have h706 := h383.step (add_nil _)
        have h707 := h382.step (add_nil _) (Chg.refl [] _) (fun _ _ => Avoids.nil _)
        have h709 : Own 36 ((.slice none 0 0) :: v291 :: L) wd380 (.slice none 0 0) ([] : List Range) := Own.nil _ _ _
        obtain ⟨o720, hl721, hn722⟩ := bind_elim h
        refine WC_post (fun (ρ : Env) (wd711 : World) => ∃ (x715 : (List Range)) (v714 : Value), x715 = o720 ∧ ρ 11 = v714 ∧ Own 36 (v714 :: L) wd711 v714 x715 ∧ (∀ b, blk v714 = some b → w.heap.size ≤ b) ∧ Ext w wd711) ?_ ?_
        · intro K726 hK726
          refine WC_block ?_
          refine WC_loopk (fun sv ρ wd684 => ∃ (x691 : (List Range)) (x697 : Int) (x699 : Bool) (x703 : Int) (v690 : Value), (x691, x697, x699, x703) = sv ∧ ρ 7 = v291 ∧ ρ 11 = v690 ∧ ρ 12 = (.int .i64 (w64 ((p_Listappend.length : Int) - p_String))) ∧ ρ 13 = (.int .i64 x697) ∧ ρ 14 = (.bool x699) ∧ ρ 65 = v291 ∧ ρ 66 = (.int .i64 (zs378.length : Int)) ∧ ρ 67 = (.int .i64 x703) ∧ Own 152 (v291 :: v690 :: L) wd684 v291 zs378 ∧ Own 36 (v291 :: v690 :: L) wd684 v690 x691 ∧ (∀ b, blk v690 = some b → w.heap.size ≤ b) ∧ (∀ b, blk v291 = some b → blk v690 ≠ some b) ∧ Ext w wd684) hl721 ⟨([] : List Range), 0, false, 0, (.slice none 0 0), rfl, hs296, rfl, rfl, rfl, rfl, rfl, rfl, rfl, (h707.sub (sub_cons (memS mem0) (sub_cons mem0 (sub_skip (sub_skip (sub_refl _)))))), (h709.sub (sub_cons (memS mem0) (sub_cons mem0 (sub_skip (sub_skip (sub_refl _)))))), (fun b h => blk_nil b h), (fun _ _ h => by cases h), e384⟩ ?_
          rintro _ ρ wd684 ⟨x691, x697, x699, x703, v690, rfl, hs688, hs695, hs696, hs698, hs700, hs701, hs702, hs704, h687, h693, hf694, hn705, e685⟩ x723 h hx724 K725 hK725
          refine WC_seqK fun K728 hK728 => ?_
          refine WC_region ?_
          refine T0_q (v := (.bool (decide (x703 < (zs378.length : Int))))) rfl (yl_lss hs704 hs702) ?_
          refine T0_nil ?_
          refine hK728 _ _ ?_
          refine WC_seqK fun K729 hK729 => ?_
          refine WC_cond (b := (decide (x703 < (zs378.length : Int)))) rfl (fun hb730 => ?_) (fun hb730 => ?_)
          · replace h := cond_t hb730 h
            refine WC_skip ?_
            refine hK729 _ _ ?_
            refine WC_seqK fun K731 hK731 => ?_
            refine WC_block ?_
            refine WC_seqK fun K732 hK732 => ?_
            refine WC_region ?_
            refine T0_q (v := (.int .i64 x703)) rfl (yl_move hs704) ?_
            obtain ⟨el733, hel734, h⟩ := bind_elim h
            obtain ⟨cs735, hat736, hrd737⟩ := Own.at h687 hel734
            have hrd737 : cs735 = [(.int .i64 el733.at_), (.int .i64 el733.by_)] := hrd737
            subst hrd737
            refine T0_q (v := (.pointer (some (elemAddr v291 (x703 : Int).toNat 2)))) rfl (yl_indexAddrO Tryd.underlying149 sz152 h687 hel734 hs701 hs704) ?_
            refine T0_q (v := (.agg (List.toArray [(.int .i64 el733.at_), (.int .i64 el733.by_)]))) rfl (yl_loadA (cs := [(.int .i64 el733.at_), (.int .i64 el733.by_)]) ag152 rfl hat736) ?_
            refine T0_e rfl (eff_allocZ zi152 ?_)
            intro b739 wd740 hb741 he742 hB743
            have hn744 : blk v291 ≠ some b739 := ne_new_box h687 hb741
            have hn745 : blk v690 ≠ some b739 := ne_new_box h693 hb741
            have hbf746 := bfresh e685 hb741
            have h747 := h687.step (add_box he742 hb741) he742 (fun _ _ => Avoids.nil _)
            have h748 := h693.step (add_box he742 hb741) he742 (fun _ _ => Avoids.nil _)
            have e749 := e685.trans he742
            refine T0_q (v := (.int .i64 x703)) rfl (yl_assign rfl) ?_
            refine T0_e rfl (eff_storeC (vs := [(.int .i64 el733.at_), (.int .i64 el733.by_)]) (cs' := [(.int .i64 el733.at_), (.int .i64 el733.by_)]) sz152 rfl rfl rfl rfl hB743 rfl (oc_cons rfl (oc_cons rfl oc_nil)) rfl ?_)
            intro wd751 hc752 hB753
            have h754 := h747.step (Stepp.chg_mem hc752 mem0) hc752 (av_box hn744)
            have h755 := h748.step (Stepp.chg_mem hc752 mem0) hc752 (av_box hn745)
            have e756 := chg_box e749 hc752 hbf746
            refine T0_nil ?_
            refine hK732 _ _ ?_
            refine WC_seqK fun K757 hK757 => ?_
            refine WC_region ?_
            refine T0_q (v := (.int .i64 x697)) rfl (yl_move hs698) ?_
            refine T0_q (v := (.pointer (some ⟨b739, 1, none⟩))) rfl (yl_fa 1 Tryd.underlying152 rfl rfl ⟨0, sz3⟩ rfl rfl) ?_
            refine T0_q (v := (.int .i64 el733.by_)) rfl (yl_load sc3 rfl (At.drop (Box.at hB753) 1)) ?_
            refine T0_q (v := (.int .i64 (w64 (x697 + el733.by_)))) rfl (yl_add rfl rfl) ?_
            refine T0_q (v := (.int .i64 (w64 (x697 + el733.by_)))) rfl (yl_assign rfl) ?_
            refine T0_nil ?_
            refine hK757 _ _ ?_
            refine WC_seqK fun K758 hK758 => ?_
            refine WC_seqK fun K759 hK759 => ?_
            refine WC_plan mixed (.p 0 (.p 1 (.p 2 (.p 3 (.p 4 (.p 5 (.p 6 (.p 7 (.p 8 (.p 9 (.p 10 (.p 12 (.q 11 (.q 13 (.p 14 (.p 15 .done)))))))))))))))) (by kernel_rfl) ?_
            intro wd760 he761
            have e762 := e756.trans he761
            refine TP_p (v := (.int .i64 x703)) rfl rfl (fun w' => (yl_move rfl)) ?_
            refine TP_p (v := (.int .i64 (w64 (x703 + 1)))) rfl rfl (fun w' => (yl_add rfl rfl)) ?_
            refine TP_p (v := v291) rfl rfl (fun w' => (yl_move hs688)) ?_
            refine TP_p (v := (.int .i64 (zs378.length : Int))) rfl rfl (fun w' => (yl_lenO rfl Tryd.underlying149 h754 rfl)) ?_
            refine TP_p (v := (.bool (decide (w64 (x703 + 1) < (zs378.length : Int))))) rfl rfl (fun w' => (yl_lss rfl rfl)) ?_
            refine TP_p (v := (.bool (decide (w64 (x703 + 1) < (zs378.length : Int))))) rfl rfl (fun w' => (yl_move rfl)) ?_
            refine TP_gp (v := v291) (decide (w64 (x703 + 1) < (zs378.length : Int))) rfl (wanted_t rfl rfl rfl rfl) (fun w' hg => (yl_move hs688)) ?_
            refine TP_gp (v := (.int .i64 x703)) (decide (w64 (x703 + 1) < (zs378.length : Int))) rfl (wanted_t rfl rfl rfl rfl) (fun w' hg => (yl_move rfl)) ?_
            refine TP_gp (v := (.int .i64 (w64 (x703 + 1)))) (decide (w64 (x703 + 1) < (zs378.length : Int))) rfl (wanted_t rfl rfl rfl rfl) (fun w' hg => (yl_add (gd_true hg) rfl)) ?_
            obtain ⟨el763, hel764, h⟩ := bind_elim h
            have hat766 : (decide (w64 (x703 + 1) < (zs378.length : Int))) = true → At wd751 (elemAddr v291 (w64 (x703 + 1) : Int).toNat 2) [(.int .i64 el763.at_), (.int .i64 el763.by_)] := fun hg => by obtain ⟨cs, hat, hrd⟩ := Own.at h754 (cond_t hg hel764); have hrd : cs = [(.int .i64 el763.at_), (.int .i64 el763.by_)] := hrd; subst hrd; exact hat
            refine TP_gp (v := (.pointer (some (elemAddr v291 (w64 (x703 + 1) : Int).toNat 2)))) (decide (w64 (x703 + 1) < (zs378.length : Int))) rfl (wanted_t rfl rfl rfl rfl) (fun w' hg => (yl_indexAddrO Tryd.underlying149 sz152 h754 (cond_t hg hel764) (gd_true hg) (gd_true hg))) ?_
            refine TP_gp (v := (.pointer (some (elemAddr v291 (w64 (x703 + 1) : Int).toNat 2)))) (decide (w64 (x703 + 1) < (zs378.length : Int))) rfl (wanted_t rfl rfl rfl rfl) (fun w' hg => (yl_fa 0 Tryd.underlying152 rfl rfl ⟨0, sz3⟩ (gd_true hg) rfl)) ?_
            refine TP_gp (v := (.pointer (some ⟨b739, 0, none⟩))) (decide (w64 (x703 + 1) < (zs378.length : Int))) rfl (wanted_t rfl rfl rfl rfl) (fun w' hg => (yl_fa 0 Tryd.underlying152 rfl rfl ⟨0, sz3⟩ rfl rfl)) ?_
            refine TP_gq (v := (.int .i64 el763.at_)) (decide (w64 (x703 + 1) < (zs378.length : Int))) rfl (wanted_t rfl rfl rfl rfl) (fun w' hS hg => (yl_load sc3 (gd_true hg) ((hat766 hg).ext' ((he761).trans hS)))) ?_
            refine TP_gq (v := (.int .i64 el733.at_)) (decide (w64 (x703 + 1) < (zs378.length : Int))) rfl (wanted_t rfl rfl rfl rfl) (fun w' hS hg => (yl_load sc3 (gd_true hg) (Box.at (hB753.ext ((he761).trans hS))))) ?_
            refine TP_gp (v := (.bool (decide (el763.at_ = el733.at_)))) (decide (w64 (x703 + 1) < (zs378.length : Int))) rfl (wanted_t rfl rfl rfl rfl) (fun w' hg => (yl_eql (gd_true hg) (gd_true hg))) ?_
            refine TP_p (v := (.bool ((decide (w64 (x703 + 1) < (zs378.length : Int))) && (decide (el763.at_ = el733.at_))))) rfl rfl (fun w' => (yl_and rfl (fun hb => (gd_true hb)) rfl)) ?_
            refine TP_done ?_
            refine hK759 _ _ ?_
            refine WC_cond (b := ((decide (w64 (x703 + 1) < (zs378.length : Int))) && (decide (el763.at_ = el733.at_)))) rfl (fun hb768 => ?_) (fun hb768 => ?_)
            · replace h := cond_t hb768 h
              refine WC_exit ?_
              refine hK731 _ _ ?_
              refine WC_region ?_
              refine T0_q (v := (.int .i64 (w64 (x703 + 1)))) rfl (yl_add hs704 rfl) ?_
              refine T0_q (v := (.int .i64 (w64 (x703 + 1)))) rfl (yl_move rfl) ?_
              refine T0_nil ?_
              replace h := some_out h
              subst h
              refine hK725 _ _ _ rfl ?_
              exact ⟨x691, w64 (x697 + el733.by_), x699, w64 (x703 + 1), v690, rfl, hs688, hs695, hs696, rfl, hs700, hs701, hs702, rfl, ((h754.ext he761).sub (sub_cons (memS mem0) (sub_cons (memS (memS mem0)) (sub_skip (sub_skip (sub_skip (sub_refl _))))))), ((h755.ext he761).sub (sub_cons (memS mem0) (sub_cons (memS (memS mem0)) (sub_skip (sub_skip (sub_skip (sub_refl _))))))), hf694, hn705, e762⟩
            · replace h := cond_f hb768 h
              refine WC_skip ?_
              refine hK758 _ _ ?_
              refine WC_seqK fun K769 hK769 => ?_
              refine WC_region ?_
              refine T0_q (v := (.int .i64 (w64 (x697 + el733.by_)))) rfl (yl_move rfl) ?_
              refine T0_q (v := (.int .i64 (w64 ((p_Listappend.length : Int) - p_String)))) rfl (yl_move hs696) ?_
              refine T0_q (v := (.bool (decide (w64 ((p_Listappend.length : Int) - p_String) ≤ w64 (x697 + el733.by_))))) rfl (yl_geq rfl rfl) ?_
              refine T0_q (v := (.bool (decide (w64 ((p_Listappend.length : Int) - p_String) ≤ w64 (x697 + el733.by_))))) rfl (yl_assign rfl) ?_
              refine T0_nil ?_
              refine hK769 _ _ ?_
              refine WC_block ?_
              refine WC_seqK fun K770 hK770 => ?_
              refine WC_region ?_
              refine T0_q (v := (.bool (decide (w64 ((p_Listappend.length : Int) - p_String) ≤ w64 (x697 + el733.by_))))) rfl (yl_move rfl) ?_
              refine T0_q (v := (.bool (decide (w64 ((p_Listappend.length : Int) - p_String) ≤ w64 (x697 + el733.by_))))) rfl (yl_move rfl) ?_
              refine T0_g (v := (.bool x699)) (decide (w64 ((p_Listappend.length : Int) - p_String) ≤ w64 (x697 + el733.by_))) (wanted_t rfl rfl rfl rfl) (fun hg => (yl_move hs700)) ?_
              refine T0_g (v := (.bool (!x699))) (decide (w64 ((p_Listappend.length : Int) - p_String) ≤ w64 (x697 + el733.by_))) (wanted_t rfl rfl rfl rfl) (fun hg => (yl_not (gd_true hg))) ?_
              refine T0_q (v := (.bool ((decide (w64 ((p_Listappend.length : Int) - p_String) ≤ w64 (x697 + el733.by_))) && (!x699)))) rfl (yl_and rfl (fun hb => (gd_true hb)) rfl) ?_
              refine T0_q (v := (.bool ((decide (w64 ((p_Listappend.length : Int) - p_String) ≤ w64 (x697 + el733.by_))) && (!x699)))) rfl (yl_assign rfl) ?_
              refine T0_nil ?_
              refine hK770 _ _ ?_
              refine WC_cond (b := ((decide (w64 ((p_Listappend.length : Int) - p_String) ≤ w64 (x697 + el733.by_))) && (!x699))) rfl (fun hb771 => ?_) (fun hb771 => ?_)
              · replace h := cond_t hb771 h
                refine WC_region ?_
                refine T0_q (v := v690) rfl (yl_move hs695) ?_
                refine T0_q (v := (.pointer (some ⟨b739, 0, none⟩))) rfl (yl_fa 0 Tryd.underlying152 rfl rfl ⟨0, sz3⟩ rfl rfl) ?_
                refine T0_q (v := (.int .i64 el733.at_)) rfl (yl_load sc3 rfl (Box.at (hB753.ext he761))) ?_
                refine T0_q (v := (.agg (List.toArray [(.int .i64 el733.at_), (.int .i64 0)]))) rfl (yl_buildC (cells := [(.int .i64 el733.at_), (.int .i64 0)]) bi36 (pc_cons rfl rfl pc_nil) rfl) ?_
                refine T0_e rfl (eff_buildTC (xs := ([(Range.mk el733.at_ 0)] : List Range)) (cells := [(.int .i64 el733.at_), (.int .i64 0)]) Tryd.underlying29 ei36 rfl (pc_cons rfl rfl pc_nil) rfl (Elems.cons (cs := [(.int .i64 el733.at_), (.int .i64 0)]) rfl Elems.nil) rfl (ltl_box (ltl_own (ltl_own (hL.chg e762) (h755.ext he761)) (h754.ext he761)) (hB753.ext he761)) ?_)
                intro b775 wd772 he773 h774
                have e776 := he761.trans he773
                have e777 := e762.trans he773
                have h779 := (h754.ext e776).sub (sub_cons (memS (memS mem0)) (sub_cons mem0 (sub_cons (memS mem0) (sub_skip (sub_skip (sub_skip (sub_refl _)))))))
                have h780 := (h755.ext e776).sub (sub_cons (memS (memS mem0)) (sub_cons mem0 (sub_cons (memS mem0) (sub_skip (sub_skip (sub_skip (sub_refl _)))))))
                have h781 := h774.sub (sub_cons (memS (memS mem0)) (sub_cons mem0 (sub_cons (memS mem0) (sub_skip (sub_skip (sub_skip (sub_refl _)))))))
                obtain ⟨zs782, hz783, h⟩ := bind_elim h
                refine T0_e rfl (eff_app Tryd.underlying29 ei36 rfl rfl rfl rfl h780 h781 hz783 ?_)
                intro v784 wd785 hc786 hbl787 h788
                have hn790 : blk v784 ≠ some b739 := ne_swap hbl787 hn745 (hB753.ext e776)
                have hn791 := dj_swap hbl787 hn705 h779
                have hf792 := fresh_swap hbl787 hf694 e777.size
                have h793 := h779.step (Stepp.swap hc786 hbl787) hc786 (av_own hn705)
                have h794 := (hB753.ext e776).chg hc786 (avoid1 hn745)
                have h795 := h781.step (Stepp.swap hc786 hbl787)
                have e796 := chg_own e777 hc786 hf694
                refine T0_q (v := v784) rfl (yl_assign rfl) ?_
                refine T0_q (v := (.bool true)) rfl (yl_assign rfl) ?_
                refine T0_nil ?_
                refine hK731 _ _ ?_
                refine WC_region ?_
                refine T0_q (v := (.int .i64 (w64 (x703 + 1)))) rfl (yl_add hs704 rfl) ?_
                refine T0_q (v := (.int .i64 (w64 (x703 + 1)))) rfl (yl_move rfl) ?_
                refine T0_nil ?_
                replace h := some_out h
                subst h
                refine hK725 _ _ _ rfl ?_
                exact ⟨zs782, w64 (x697 + el733.by_), true, w64 (x703 + 1), v784, rfl, hs688, rfl, hs696, rfl, rfl, hs701, hs702, rfl, (h793.sub (sub_cons (memS (memS mem0)) (sub_cons mem0 (sub_skip (sub_skip (sub_skip (sub_refl _))))))), (h788.sub (sub_cons (memS (memS mem0)) (sub_cons mem0 (sub_skip (sub_skip (sub_skip (sub_refl _))))))), hf792, hn791, e796⟩
              · replace h := cond_f hb771 h
                refine WC_seqK fun K798 hK798 => ?_
                refine WC_region ?_
                refine T0_q (v := (.bool (decide (w64 ((p_Listappend.length : Int) - p_String) ≤ w64 (x697 + el733.by_))))) rfl (yl_move rfl) ?_
                refine T0_q (v := (.bool (!(decide (w64 ((p_Listappend.length : Int) - p_String) ≤ w64 (x697 + el733.by_)))))) rfl (yl_not rfl) ?_
                refine T0_q (v := (.bool (!(decide (w64 ((p_Listappend.length : Int) - p_String) ≤ w64 (x697 + el733.by_)))))) rfl (yl_move rfl) ?_
                refine T0_g (v := (.bool x699)) (!(decide (w64 ((p_Listappend.length : Int) - p_String) ≤ w64 (x697 + el733.by_)))) (wanted_t rfl rfl rfl rfl) (fun hg => (yl_move hs700)) ?_
                refine T0_q (v := (.bool ((!(decide (w64 ((p_Listappend.length : Int) - p_String) ≤ w64 (x697 + el733.by_)))) && x699))) rfl (yl_and rfl (fun hb => (gd_true hb)) rfl) ?_
                refine T0_q (v := (.bool ((!(decide (w64 ((p_Listappend.length : Int) - p_String) ≤ w64 (x697 + el733.by_)))) && x699))) rfl (yl_assign rfl) ?_
                refine T0_nil ?_
                refine hK798 _ _ ?_
                refine WC_cond (b := ((!(decide (w64 ((p_Listappend.length : Int) - p_String) ≤ w64 (x697 + el733.by_)))) && x699)) rfl (fun hb799 => ?_) (fun hb799 => ?_)
                · replace h := cond_t hb799 h
                  refine WC_region ?_
                  refine T0_q (v := v690) rfl (yl_move hs695) ?_
                  refine T0_q (v := v690) rfl (yl_move hs695) ?_
                  refine T0_q (v := (.int .i64 (x691.length : Int))) rfl (yl_lenO rfl Tryd.underlying29 h755 rfl) ?_
                  refine T0_q (v := (.int .i64 (w64 ((x691.length : Int) - 1)))) rfl (yl_sub rfl rfl) ?_
                  refine T0_q (v := (.pointer (some ⟨b739, 0, none⟩))) rfl (yl_fa 0 Tryd.underlying152 rfl rfl ⟨0, sz3⟩ rfl rfl) ?_
                  refine T0_q (v := (.int .i64 el733.at_)) rfl (yl_load sc3 rfl (Box.at (hB753.ext he761))) ?_
                  refine T0_q (v := (.int .i64 (w64 (el733.at_ - 1)))) rfl (yl_sub rfl rfl) ?_
                  obtain ⟨el800, hel801, h⟩ := bind_elim h
                  obtain ⟨cs802, hat803, hrd804⟩ := Own.at h755 hel801
                  have hrd804 : cs802 = [(.int .i64 el800.Lo), (.int .i64 el800.Hi)] := hrd804
                  subst hrd804
                  refine T0_q (v := (.pointer (some (elemAddr v690 (w64 ((x691.length : Int) - 1) : Int).toNat 2)))) rfl (yl_indexAddrO Tryd.underlying29 sz36 h755 hel801 rfl rfl) ?_
                  refine T0_q (v := (.pointer (some (Addr.add (elemAddr v690 (w64 ((x691.length : Int) - 1) : Int).toNat 2) 1)))) rfl (yl_fa 1 Tryd.underlying36 rfl rfl ⟨0, sz3⟩ rfl rfl) ?_
                  refine T0_e rfl (eff_storeOC (vs := [(.int .i64 (w64 (el733.at_ - 1)))]) (off := 1) (y' := (Range.mk el800.Lo (w64 (el733.at_ - 1)))) sz3 rfl rfl (h755.ext he761) (memS (memS mem0)) hel801 rfl rfl rfl (oc_cons rfl oc_nil) (fun w' cs hcs => by have hcs : cs = [(.int .i64 el800.Lo), (.int .i64 el800.Hi)] := hcs; subst hcs; rfl) ?_)
                  intro wd806 hc807 hB808
                  have h809 := (h754.ext he761).step (Stepp.chg_mem hc807 (memS (memS mem0))) hc807 (av_own hn705)
                  have h810 := (hB753.ext he761).chg hc807 (avoid1 hn745)
                  have e811 := chg_own e762 hc807 hf694
                  refine T0_q (v := (.bool false)) rfl (yl_assign rfl) ?_
                  refine T0_nil ?_
                  refine hK731 _ _ ?_
                  refine WC_region ?_
                  refine T0_q (v := (.int .i64 (w64 (x703 + 1)))) rfl (yl_add hs704 rfl) ?_
                  refine T0_q (v := (.int .i64 (w64 (x703 + 1)))) rfl (yl_move rfl) ?_
                  refine T0_nil ?_
                  replace h := some_out h
                  subst h
                  refine hK725 _ _ _ rfl ?_
                  exact ⟨(x691.set (w64 ((x691.length : Int) - 1) : Int).toNat (Range.mk el800.Lo (w64 (el733.at_ - 1)))), w64 (x697 + el733.by_), false, w64 (x703 + 1), v690, rfl, hs688, hs695, hs696, rfl, rfl, hs701, hs702, rfl, (h809.sub (sub_cons (memS mem0) (sub_cons (memS (memS mem0)) (sub_skip (sub_skip (sub_skip (sub_refl _))))))), (hB808.sub (sub_cons (memS mem0) (sub_cons (memS (memS mem0)) (sub_skip (sub_skip (sub_skip (sub_refl _))))))), hf694, hn705, e811⟩
                · replace h := cond_f hb799 h
                  refine WC_skip ?_
                  refine hK731 _ _ ?_
                  refine WC_region ?_
                  refine T0_q (v := (.int .i64 (w64 (x703 + 1)))) rfl (yl_add hs704 rfl) ?_
                  refine T0_q (v := (.int .i64 (w64 (x703 + 1)))) rfl (yl_move rfl) ?_
                  refine T0_nil ?_
                  replace h := some_out h
                  subst h
                  refine hK725 _ _ _ rfl ?_
                  exact ⟨x691, w64 (x697 + el733.by_), x699, w64 (x703 + 1), v690, rfl, hs688, hs695, hs696, rfl, hs700, hs701, hs702, rfl, ((h754.ext he761).sub (sub_cons (memS mem0) (sub_cons (memS (memS mem0)) (sub_skip (sub_skip (sub_skip (sub_refl _))))))), ((h755.ext he761).sub (sub_cons (memS mem0) (sub_cons (memS (memS mem0)) (sub_skip (sub_skip (sub_skip (sub_refl _))))))), hf694, hn705, e762⟩
          · replace h := cond_f hb730 h
            refine WC_exit ?_
            replace h := some_out h
            subst h
            have ho := hx724 _ rfl
            subst ho
            refine hK726 _ _ ?_
            exact ⟨x691, v690, rfl, hs695, (h693.sub (sub_cons (memS mem0) (sub_skip (sub_skip (sub_refl _))))), hf694, e685⟩
        · rintro ρ wd711 ⟨x715, v714, rfl, hs719, h717, hf718, e712⟩
          replace h := hn722
          refine hK387 _ _ ?_
          refine WC_seqK fun K812 hK812 => ?_
          refine WC_region ?_
          refine T0_q (v := v714) rfl (yl_move hs719) ?_
          refine T0_q (v := v714) rfl (yl_assign rfl) ?_
          refine T0_q (v := (.int .i64 0)) rfl (yl_assign rfl) ?_
          refine T0_nil ?_
          refine hK812 _ _ ?_
          refine WC_ret ?_
          replace h := some_out h
          subst h
          exact ⟨[v714, (.int .i64 0)], ⟨rfl, rfl, trivial⟩, e712, v714, rfl, (h717.rdL (sub_skip (sub_refl _)) hL hf718)⟩

noncomputable def slices_IndexFunc_int_94_s0 (p_s : (List Int)) : (Int) → Option ((Int) ⊕ (Int ⊕ (Unit))) := fun x91 =>
  (bif (decide (x91 < (p_s.length : Int))) then (
    (Option.bind (idx p_s x91) fun el109 =>
    (Option.bind (locate_Counted_1_spec el109) fun r115 =>
    (bif r115 then (
      some (.inr (.inl x91))
    ) else (
      some (.inl (w64 (x91 + 1)))
    ))
    )
    )
  ) else (
    some (.inr (.inr ()))
  ))
noncomputable def slices_IndexFunc_int_94_spec (p_s : (List Int)) : Option Int :=
  (Option.bind (loop (slices_IndexFunc_int_94_s0 p_s) 0) fun o95 => jn0 o95 fun (_ : Unit) =>
  some (-1)
  )
theorem slices_IndexFunc_int_94_ok (L : List Value) (w : World) (hL : LtL L w) (v_p_s : Value) (p_s : (List Int)) (h_p_s : SlRd L w v_p_s p_s) (r : Int) (h : slices_IndexFunc_int_94_spec p_s = some r) :
    CallsTo Tryd.prog 97 [v_p_s, (.func (.func 94) #[] #[])] w (fun v w' => Ext w w' ∧ (.int .i64 r) = v) := by
  have e0 : Ext w w := Chg.refl _ _
  refine callsTo_of_WC (n := 19) (rs := [.tmp 4]) Tryd.func97 rfl rfl rfl rfl rfl ?_
  refine WC_seqK fun K2 hK2 => ?_
  refine WC_region ?_
  refine T0_q (v := (.int .i64 0)) rfl (yl_assign rfl) ?_
  refine T0_nil ?_
  refine hK2 _ _ ?_
  refine WC_seqK fun K3 hK3 => ?_
  refine WC_seqK fun K4 hK4 => ?_
  refine WC_region ?_
  refine T0_q (v := v_p_s) rfl (yl_move rfl) ?_
  refine T0_q (v := (.int .i64 (p_s.length : Int))) rfl (yl_lenR rfl Tryd.underlying22 h_p_s rfl) ?_
  refine T0_q (v := (.int .i64 0)) rfl (yl_move rfl) ?_
  refine T0_nil ?_
  refine hK4 _ _ ?_
  obtain ⟨o95, hl96, hn97⟩ := bind_elim h
  refine WC_post (fun (ρ : Env) (wd93 : World) => .inr () = o95 ∧ Ext w wd93) ?_ ?_
  · intro K101 hK101
    refine WC_block ?_
    refine WC_loopk (fun sv ρ wd85 => ∃ (x91 : Int), x91 = sv ∧ ρ 0 = v_p_s ∧ ρ 1 = (.func (.func 94) #[] #[]) ∧ ρ 7 = (.int .i64 (p_s.length : Int)) ∧ ρ 8 = (.int .i64 x91) ∧ SlRd L wd85 v_p_s p_s ∧ Ext w wd85) hl96 ⟨0, rfl, rfl, rfl, rfl, rfl, h_p_s, e0⟩ ?_
    rintro _ ρ wd85 ⟨x91, rfl, hs88, hs89, hs90, hs92, h87, e86⟩ x98 h hx99 K100 hK100
    refine WC_seqK fun K103 hK103 => ?_
    refine WC_region ?_
    refine T0_q (v := (.bool (decide (x91 < (p_s.length : Int))))) rfl (yl_lss hs92 hs90) ?_
    refine T0_nil ?_
    refine hK103 _ _ ?_
    refine WC_seqK fun K104 hK104 => ?_
    refine WC_cond (b := (decide (x91 < (p_s.length : Int)))) rfl (fun hb105 => ?_) (fun hb105 => ?_)
    · replace h := cond_t hb105 h
      refine WC_skip ?_
      refine hK104 _ _ ?_
      refine WC_seqK fun K106 hK106 => ?_
      refine WC_block ?_
      refine WC_seqK fun K107 hK107 => ?_
      refine WC_region ?_
      refine T0_q (v := (.int .i64 x91)) rfl (yl_move hs92) ?_
      refine T0_q (v := (.int .i64 x91)) rfl (yl_assign rfl) ?_
      refine T0_nil ?_
      refine hK107 _ _ ?_
      refine WC_seqK fun K108 hK108 => ?_
      refine WC_region ?_
      refine T0_q (v := (.func (.func 94) #[] #[])) rfl (yl_move hs89) ?_
      refine T0_q (v := v_p_s) rfl (yl_move hs88) ?_
      refine T0_q (v := (.int .i64 x91)) rfl (yl_move rfl) ?_
      obtain ⟨el109, hel110, h⟩ := bind_elim h
      obtain ⟨cs111, hat112, hrd113⟩ := SlRd.at h87 hel110
      have hrd113 : cs111 = [(.int .i64 el109)] := hrd113
      subst hrd113
      refine T0_q (v := (.pointer (some (elemAddr v_p_s (x91 : Int).toNat 1)))) rfl (yl_indexAddr Tryd.underlying22 sz3 h87 hel110 rfl rfl) ?_
      refine T0_q (v := (.int .i64 el109)) rfl (yl_load sc3 rfl hat112) ?_
      obtain ⟨r115, hr116, h⟩ := bind_elim h
      refine T0_e rfl (eff_callV rfl Tryd.func94 nm94 rfl (ev1 rfl) (locate_Counted_1_ok [] _ (LtL.nil _) el109 r115 hr116) ?_)
      rintro _ wd117 ⟨he118, rfl⟩
      have e119 := e86.trans he118
      refine T0_nil ?_
      refine hK108 _ _ ?_
      refine WC_cond (b := r115) rfl (fun hb120 => ?_) (fun hb120 => ?_)
      · replace h := cond_t hb120 h
        refine WC_seqK fun K121 hK121 => ?_
        refine WC_region ?_
        refine T0_q (v := (.int .i64 x91)) rfl (yl_move rfl) ?_
        refine T0_q (v := (.int .i64 x91)) rfl (yl_assign rfl) ?_
        refine T0_nil ?_
        refine hK121 _ _ ?_
        refine WC_ret ?_
        replace h := some_out h
        subst h
        have ho := hx99 _ rfl
        subst ho
        replace h := jn0_inl hn97
        replace h := some_out h
        subst h
        exact ⟨[(.int .i64 x91)], ⟨rfl, trivial⟩, e119, rfl⟩
      · replace h := cond_f hb120 h
        refine WC_skip ?_
        refine hK106 _ _ ?_
        refine WC_region ?_
        refine T0_q (v := (.int .i64 (w64 (x91 + 1)))) rfl (yl_add hs92 rfl) ?_
        refine T0_q (v := (.int .i64 (w64 (x91 + 1)))) rfl (yl_move rfl) ?_
        refine T0_nil ?_
        replace h := some_out h
        subst h
        refine hK100 _ _ _ rfl ?_
        exact ⟨w64 (x91 + 1), rfl, hs88, hs89, hs90, rfl, (h87.ext he118), e119⟩
    · replace h := cond_f hb105 h
      refine WC_exit ?_
      replace h := some_out h
      subst h
      have ho := hx99 _ rfl
      subst ho
      refine hK101 _ _ ?_
      exact ⟨rfl, e86⟩
  · rintro ρ wd93 ⟨rfl, e94⟩
    replace h := jn0_inr hn97
    refine hK3 _ _ ?_
    refine WC_seqK fun K122 hK122 => ?_
    refine WC_region ?_
    refine T0_q (v := (.int .i64 (-1))) rfl (yl_assign rfl) ?_
    refine T0_nil ?_
    refine hK122 _ _ ?_
    refine WC_ret ?_
    replace h := some_out h
    subst h
    exact ⟨[(.int .i64 (-1))], ⟨rfl, trivial⟩, e94, rfl⟩

noncomputable def slices_IndexFunc_int_98_s0 (p_s : (List Int)) : (Int) → Option ((Int) ⊕ (Int ⊕ (Unit))) := fun x91 =>
  (bif (decide (x91 < (p_s.length : Int))) then (
    (Option.bind (idx p_s x91) fun el109 =>
    (Option.bind (locate_CheckTrack_1_spec el109) fun r115 =>
    (bif r115 then (
      some (.inr (.inl x91))
    ) else (
      some (.inl (w64 (x91 + 1)))
    ))
    )
    )
  ) else (
    some (.inr (.inr ()))
  ))
noncomputable def slices_IndexFunc_int_98_spec (p_s : (List Int)) : Option Int :=
  (Option.bind (loop (slices_IndexFunc_int_98_s0 p_s) 0) fun o95 => jn0 o95 fun (_ : Unit) =>
  some (-1)
  )
theorem slices_IndexFunc_int_98_ok (L : List Value) (w : World) (hL : LtL L w) (v_p_s : Value) (p_s : (List Int)) (h_p_s : SlRd L w v_p_s p_s) (r : Int) (h : slices_IndexFunc_int_98_spec p_s = some r) :
    CallsTo Tryd.prog 97 [v_p_s, (.func (.func 98) #[] #[])] w (fun v w' => Ext w w' ∧ (.int .i64 r) = v) := by
  have e0 : Ext w w := Chg.refl _ _
  refine callsTo_of_WC (n := 19) (rs := [.tmp 4]) Tryd.func97 rfl rfl rfl rfl rfl ?_
  refine WC_seqK fun K2 hK2 => ?_
  refine WC_region ?_
  refine T0_q (v := (.int .i64 0)) rfl (yl_assign rfl) ?_
  refine T0_nil ?_
  refine hK2 _ _ ?_
  refine WC_seqK fun K3 hK3 => ?_
  refine WC_seqK fun K4 hK4 => ?_
  refine WC_region ?_
  refine T0_q (v := v_p_s) rfl (yl_move rfl) ?_
  refine T0_q (v := (.int .i64 (p_s.length : Int))) rfl (yl_lenR rfl Tryd.underlying22 h_p_s rfl) ?_
  refine T0_q (v := (.int .i64 0)) rfl (yl_move rfl) ?_
  refine T0_nil ?_
  refine hK4 _ _ ?_
  obtain ⟨o95, hl96, hn97⟩ := bind_elim h
  refine WC_post (fun (ρ : Env) (wd93 : World) => .inr () = o95 ∧ Ext w wd93) ?_ ?_
  · intro K101 hK101
    refine WC_block ?_
    refine WC_loopk (fun sv ρ wd85 => ∃ (x91 : Int), x91 = sv ∧ ρ 0 = v_p_s ∧ ρ 1 = (.func (.func 98) #[] #[]) ∧ ρ 7 = (.int .i64 (p_s.length : Int)) ∧ ρ 8 = (.int .i64 x91) ∧ SlRd L wd85 v_p_s p_s ∧ Ext w wd85) hl96 ⟨0, rfl, rfl, rfl, rfl, rfl, h_p_s, e0⟩ ?_
    rintro _ ρ wd85 ⟨x91, rfl, hs88, hs89, hs90, hs92, h87, e86⟩ x98 h hx99 K100 hK100
    refine WC_seqK fun K103 hK103 => ?_
    refine WC_region ?_
    refine T0_q (v := (.bool (decide (x91 < (p_s.length : Int))))) rfl (yl_lss hs92 hs90) ?_
    refine T0_nil ?_
    refine hK103 _ _ ?_
    refine WC_seqK fun K104 hK104 => ?_
    refine WC_cond (b := (decide (x91 < (p_s.length : Int)))) rfl (fun hb105 => ?_) (fun hb105 => ?_)
    · replace h := cond_t hb105 h
      refine WC_skip ?_
      refine hK104 _ _ ?_
      refine WC_seqK fun K106 hK106 => ?_
      refine WC_block ?_
      refine WC_seqK fun K107 hK107 => ?_
      refine WC_region ?_
      refine T0_q (v := (.int .i64 x91)) rfl (yl_move hs92) ?_
      refine T0_q (v := (.int .i64 x91)) rfl (yl_assign rfl) ?_
      refine T0_nil ?_
      refine hK107 _ _ ?_
      refine WC_seqK fun K108 hK108 => ?_
      refine WC_region ?_
      refine T0_q (v := (.func (.func 98) #[] #[])) rfl (yl_move hs89) ?_
      refine T0_q (v := v_p_s) rfl (yl_move hs88) ?_
      refine T0_q (v := (.int .i64 x91)) rfl (yl_move rfl) ?_
      obtain ⟨el109, hel110, h⟩ := bind_elim h
      obtain ⟨cs111, hat112, hrd113⟩ := SlRd.at h87 hel110
      have hrd113 : cs111 = [(.int .i64 el109)] := hrd113
      subst hrd113
      refine T0_q (v := (.pointer (some (elemAddr v_p_s (x91 : Int).toNat 1)))) rfl (yl_indexAddr Tryd.underlying22 sz3 h87 hel110 rfl rfl) ?_
      refine T0_q (v := (.int .i64 el109)) rfl (yl_load sc3 rfl hat112) ?_
      obtain ⟨r115, hr116, h⟩ := bind_elim h
      refine T0_e rfl (eff_callV rfl Tryd.func98 nm98 rfl (ev1 rfl) (locate_CheckTrack_1_ok [] _ (LtL.nil _) el109 r115 hr116) ?_)
      rintro _ wd117 ⟨he118, rfl⟩
      have e119 := e86.trans he118
      refine T0_nil ?_
      refine hK108 _ _ ?_
      refine WC_cond (b := r115) rfl (fun hb120 => ?_) (fun hb120 => ?_)
      · replace h := cond_t hb120 h
        refine WC_seqK fun K121 hK121 => ?_
        refine WC_region ?_
        refine T0_q (v := (.int .i64 x91)) rfl (yl_move rfl) ?_
        refine T0_q (v := (.int .i64 x91)) rfl (yl_assign rfl) ?_
        refine T0_nil ?_
        refine hK121 _ _ ?_
        refine WC_ret ?_
        replace h := some_out h
        subst h
        have ho := hx99 _ rfl
        subst ho
        replace h := jn0_inl hn97
        replace h := some_out h
        subst h
        exact ⟨[(.int .i64 x91)], ⟨rfl, trivial⟩, e119, rfl⟩
      · replace h := cond_f hb120 h
        refine WC_skip ?_
        refine hK106 _ _ ?_
        refine WC_region ?_
        refine T0_q (v := (.int .i64 (w64 (x91 + 1)))) rfl (yl_add hs92 rfl) ?_
        refine T0_q (v := (.int .i64 (w64 (x91 + 1)))) rfl (yl_move rfl) ?_
        refine T0_nil ?_
        replace h := some_out h
        subst h
        refine hK100 _ _ _ rfl ?_
        exact ⟨w64 (x91 + 1), rfl, hs88, hs89, hs90, rfl, (h87.ext he118), e119⟩
    · replace h := cond_f hb105 h
      refine WC_exit ?_
      replace h := some_out h
      subst h
      have ho := hx99 _ rfl
      subst ho
      refine hK101 _ _ ?_
      exact ⟨rfl, e86⟩
  · rintro ρ wd93 ⟨rfl, e94⟩
    replace h := jn0_inr hn97
    refine hK3 _ _ ?_
    refine WC_seqK fun K122 hK122 => ?_
    refine WC_region ?_
    refine T0_q (v := (.int .i64 (-1))) rfl (yl_assign rfl) ?_
    refine T0_nil ?_
    refine hK122 _ _ ?_
    refine WC_ret ?_
    replace h := some_out h
    subst h
    exact ⟨[(.int .i64 (-1))], ⟨rfl, trivial⟩, e94, rfl⟩

noncomputable def locate_CheckTrack_spec (p_Listappend : LocateTrack) : Option (Int × Int) :=
  (Option.bind (locate_within_spec p_Listappend.Window 1 12) fun r18 =>
  (Option.bind (locate_unless_spec r18 2) fun r25 =>
  (Option.bind (locate_unless_spec (decide (p_Listappend.Window ≤ (p_Listappend.Vanes.length : Int))) 10) fun r33 =>
  (Option.bind (locate_unless_spec (decide ((p_Listappend.Vanes.length : Int) ≤ 40)) 8) fun r41 =>
  (Option.bind (locate_first_spec ([r25, r33, r41] : List Int)) fun r58 =>
  (bif (!decide (r58 = 0)) then (
    some (0, r58)
  ) else (
    (Option.bind (slices_IndexFunc_int_98_spec p_Listappend.Vanes) fun r72 =>
    (bif (decide (0 ≤ r72)) then (
      some (r72, 15)
    ) else (
      (Option.bind (locate_within_spec p_Listappend.Tooth 1 1000) fun r84 =>
      (Option.bind (bif r84 then locate_within_spec p_Listappend.PerVane 1 12 else some default) fun r92 =>
      (Option.bind (bif (r84 && r92) then locate_within_spec p_Listappend.First 0 999000000 else some default) fun r100 =>
      (Option.bind (bif ((r84 && r92) && r100) then locate_within_spec p_Listappend.Modulus 1 1000 else some default) fun r108 =>
      (Option.bind (bif (((r84 && r92) && r100) && r108) then locate_within_spec p_Listappend.Slack 0 p_Listappend.Modulus else some default) fun r116 =>
      (Option.bind (bif ((((r84 && r92) && r100) && r108) && r116) then locate_within_spec p_Listappend.Errors 0 p_Listappend.Window else some default) fun r124 =>
      (Option.bind (locate_unless_spec (((((r84 && r92) && r100) && r108) && r116) && r124) 2) fun r133 =>
      some (0, r133)
      )
      )
      )
      )
      )
      )
      )
    ))
    )
  ))
  )
  )
  )
  )
  )
theorem locate_CheckTrack_ok (L : List Value) (w : World) (hL : LtL L w) (cs_p_Listappend : List Value) (p_Listappend : LocateTrack) (h_p_Listappend : Rep.rd L w cs_p_Listappend p_Listappend) (r : Int × Int) (h : locate_CheckTrack_spec p_Listappend = some r) :
    CallsTo Tryd.prog 43 [(.agg cs_p_Listappend.toArray)] w (fun v w' => Ext w w' ∧ (.tuple #[(.int .i64 r.1), (.int .i64 r.2)]) = v) := by
  have e0 : Ext w w := Chg.refl _ _
  obtain ⟨v1, h2, rfl⟩ := h_p_Listappend
  refine callsTo_of_WC (n := 68) (rs := [.tmp 2, .tmp 3]) Tryd.func43 rfl rfl rfl rfl rfl ?_
  refine WC_seqK fun K4 hK4 => ?_
  refine WC_region ?_
  refine T0_e rfl (eff_boxC (cs := [v1, (.int .i64 p_Listappend.Window), (.int .i64 p_Listappend.Tooth), (.int .i64 p_Listappend.PerVane), (.int .i64 p_Listappend.First), (.int .i64 p_Listappend.Modulus), (.int .i64 p_Listappend.Slack), (.int .i64 p_Listappend.Errors), (.bool p_Listappend.Round)]) rfl rfl ?_)
  intro b5 wd6 hb7 he8 hB9
  have hbf10 := bfresh e0 hb7
  have e11 := e0.trans he8
  refine T0_q (v := (.int .i64 0)) rfl (yl_assign rfl) ?_
  refine T0_q (v := (.int .i64 0)) rfl (yl_assign rfl) ?_
  refine T0_nil ?_
  refine hK4 _ _ ?_
  refine WC_seqK fun K13 hK13 => ?_
  refine WC_plan mixed (.p 0 (.p 4 (.p 7 (.p 11 (.q 1 (.q 5 (.p 6 (.q 8 (.p 9 (.q 12 (.p 13 (.p 14 (.e 2 (.e 3 (.e 10 (.e 15 (.e 16 (.e 17 (.p 18 .done))))))))))))))))))) (by kernel_rfl) ?_
  intro wd14 he15
  have e16 := he8.trans he15
  have e17 := e11.trans he15
  refine TP_p (v := (.pointer (some ⟨b5, 1, none⟩))) rfl rfl (fun w' => (yl_fa 1 Tryd.underlying24 rfl rfl ⟨0, sz3⟩ rfl rfl)) ?_
  refine TP_p (v := (.pointer (some ⟨b5, 0, none⟩))) rfl rfl (fun w' => (yl_fa 0 Tryd.underlying24 rfl rfl ⟨0, sz22⟩ rfl rfl)) ?_
  refine TP_p (v := (.pointer (some ⟨b5, 1, none⟩))) rfl rfl (fun w' => (yl_fa 1 Tryd.underlying24 rfl rfl ⟨0, sz3⟩ rfl rfl)) ?_
  refine TP_p (v := (.pointer (some ⟨b5, 0, none⟩))) rfl rfl (fun w' => (yl_fa 0 Tryd.underlying24 rfl rfl ⟨0, sz22⟩ rfl rfl)) ?_
  refine TP_q (v := (.int .i64 p_Listappend.Window)) rfl rfl (fun w' hS => (yl_load sc3 rfl (At.drop (Box.at (hB9.ext ((he15).trans hS))) 1))) ?_
  refine TP_q (v := v1) rfl rfl (fun w' hS => (yl_load sc22 rfl (Box.at (hB9.ext ((he15).trans hS))))) ?_
  refine TP_p (v := (.int .i64 (p_Listappend.Vanes.length : Int))) rfl rfl (fun w' => (yl_lenR rfl Tryd.underlying22 h2 rfl)) ?_
  refine TP_q (v := (.int .i64 p_Listappend.Window)) rfl rfl (fun w' hS => (yl_load sc3 rfl (At.drop (Box.at (hB9.ext ((he15).trans hS))) 1))) ?_
  refine TP_p (v := (.bool (decide (p_Listappend.Window ≤ (p_Listappend.Vanes.length : Int))))) rfl rfl (fun w' => (yl_geq rfl rfl)) ?_
  refine TP_q (v := v1) rfl rfl (fun w' hS => (yl_load sc22 rfl (Box.at (hB9.ext ((he15).trans hS))))) ?_
  refine TP_p (v := (.int .i64 (p_Listappend.Vanes.length : Int))) rfl rfl (fun w' => (yl_lenR rfl Tryd.underlying22 h2 rfl)) ?_
  refine TP_p (v := (.bool (decide ((p_Listappend.Vanes.length : Int) ≤ 40)))) rfl rfl (fun w' => (yl_leq rfl rfl)) ?_
  obtain ⟨r18, hr19, h⟩ := bind_elim h
  refine TP_e rfl rfl (eff_call Tryd.func86 nm86 rfl (ev3 rfl rfl rfl) (locate_within_ok [] _ (LtL.nil _) p_Listappend.Window 1 12 r18 hr19) ?_)
  rintro _ wd20 ⟨he21, rfl⟩
  have e22 := e16.trans he21
  have e23 := he15.trans he21
  have e24 := e17.trans he21
  refine ⟨he21, ?_⟩
  obtain ⟨r25, hr26, h⟩ := bind_elim h
  refine TP_e rfl rfl (eff_call Tryd.func85 nm85 rfl (ev2 rfl rfl) (locate_unless_ok [] _ (LtL.nil _) r18 2 r25 hr26) ?_)
  rintro _ wd27 ⟨he28, rfl⟩
  have e29 := e22.trans he28
  have e30 := e23.trans he28
  have e31 := he21.trans he28
  have e32 := e24.trans he28
  refine ⟨e31, ?_⟩
  obtain ⟨r33, hr34, h⟩ := bind_elim h
  refine TP_e rfl rfl (eff_call Tryd.func85 nm85 rfl (ev2 rfl rfl) (locate_unless_ok [] _ (LtL.nil _) (decide (p_Listappend.Window ≤ (p_Listappend.Vanes.length : Int))) 10 r33 hr34) ?_)
  rintro _ wd35 ⟨he36, rfl⟩
  have e37 := e29.trans he36
  have e38 := e30.trans he36
  have e39 := e31.trans he36
  have e40 := e32.trans he36
  refine ⟨e39, ?_⟩
  obtain ⟨r41, hr42, h⟩ := bind_elim h
  refine TP_e rfl rfl (eff_call Tryd.func85 nm85 rfl (ev2 rfl rfl) (locate_unless_ok [] _ (LtL.nil _) (decide ((p_Listappend.Vanes.length : Int) ≤ 40)) 8 r41 hr42) ?_)
  rintro _ wd43 ⟨he44, rfl⟩
  have e45 := e37.trans he44
  have e46 := e38.trans he44
  have e47 := e39.trans he44
  have e48 := e40.trans he44
  refine ⟨e47, ?_⟩
  refine TP_e rfl rfl (eff_buildTC (xs := ([r25, r33, r41] : List Int)) (cells := [(.int .i64 r25), (.int .i64 r33), (.int .i64 r41)]) Tryd.underlying164 ei30 rfl (pc_cons rfl rfl (pc_cons rfl rfl (pc_cons rfl rfl pc_nil))) rfl (Elems.cons (cs := [(.int .i64 r25)]) rfl (Elems.cons (cs := [(.int .i64 r33)]) rfl (Elems.cons (cs := [(.int .i64 r41)]) rfl Elems.nil))) rfl (hL.chg e48) ?_)
  intro b52 wd49 he50 h51
  have e53 := e45.trans he50
  have e54 := e46.trans he50
  have e55 := e47.trans he50
  have e56 := e48.trans he50
  refine ⟨e55, ?_⟩
  obtain ⟨r58, hr59, h⟩ := bind_elim h
  refine TP_e rfl rfl (eff_call Tryd.func84 nm84 rfl (ev1 rfl) (locate_first_ok [] _ (LtL.nil _) (.slice (some ⟨b52, 0, none⟩) 3 3) ([r25, r33, r41] : List Int) (h51.sub (fun _ h => by cases h)) r58 hr59) ?_)
  rintro _ wd60 ⟨he61, rfl⟩
  have e62 := e53.trans he61
  have e63 := e54.trans he61
  have e64 := e55.trans he61
  have e65 := e56.trans he61
  refine ⟨e64, ?_⟩
  refine TP_p (v := (.int .i64 r58)) rfl rfl (fun w' => (yl_assign rfl)) ?_
  refine TP_done ?_
  refine hK13 _ _ ?_
  refine WC_seqK fun K66 hK66 => ?_
  refine WC_seqK fun K67 hK67 => ?_
  refine WC_region ?_
  refine T0_q (v := (.int .i64 r58)) rfl (yl_move rfl) ?_
  refine T0_q (v := (.bool (!decide (r58 = 0)))) rfl (yl_neq rfl rfl) ?_
  refine T0_nil ?_
  refine hK67 _ _ ?_
  refine WC_cond (b := (!decide (r58 = 0))) rfl (fun hb68 => ?_) (fun hb68 => ?_)
  · replace h := cond_t hb68 h
    refine WC_seqK fun K69 hK69 => ?_
    refine WC_region ?_
    refine T0_q (v := (.int .i64 r58)) rfl (yl_move rfl) ?_
    refine T0_q (v := (.int .i64 0)) rfl (yl_assign rfl) ?_
    refine T0_q (v := (.int .i64 r58)) rfl (yl_assign rfl) ?_
    refine T0_nil ?_
    refine hK69 _ _ ?_
    refine WC_ret ?_
    replace h := some_out h
    subst h
    exact ⟨[(.int .i64 0), (.int .i64 r58)], ⟨rfl, rfl, trivial⟩, e65, rfl⟩
  · replace h := cond_f hb68 h
    refine WC_skip ?_
    refine hK66 _ _ ?_
    refine WC_seqK fun K70 hK70 => ?_
    refine WC_seqK fun K71 hK71 => ?_
    refine WC_region ?_
    refine T0_q (v := (.pointer (some ⟨b5, 0, none⟩))) rfl (yl_fa 0 Tryd.underlying24 rfl rfl ⟨0, sz22⟩ rfl rfl) ?_
    refine T0_q (v := v1) rfl (yl_load sc22 rfl (Box.at (hB9.ext e63))) ?_
    obtain ⟨r72, hr73, h⟩ := bind_elim h
    refine T0_e rfl (eff_call Tryd.func97 nm97 rfl (ev2 rfl rfl) (slices_IndexFunc_int_98_ok [] _ (LtL.nil _) v1 p_Listappend.Vanes ((h2.ext e62).sub (fun _ h => by cases h)) r72 hr73) ?_)
    rintro _ wd74 ⟨he75, rfl⟩
    have e76 := e62.trans he75
    have e77 := he61.trans he75
    have e78 := e63.trans he75
    have e79 := e65.trans he75
    refine T0_q (v := (.int .i64 r72)) rfl (yl_assign rfl) ?_
    refine T0_nil ?_
    refine hK71 _ _ ?_
    refine WC_seqK fun K80 hK80 => ?_
    refine WC_region ?_
    refine T0_q (v := (.int .i64 r72)) rfl (yl_move rfl) ?_
    refine T0_q (v := (.bool (decide (0 ≤ r72)))) rfl (yl_geq rfl rfl) ?_
    refine T0_nil ?_
    refine hK80 _ _ ?_
    refine WC_cond (b := (decide (0 ≤ r72))) rfl (fun hb81 => ?_) (fun hb81 => ?_)
    · replace h := cond_t hb81 h
      refine WC_seqK fun K82 hK82 => ?_
      refine WC_region ?_
      refine T0_q (v := (.int .i64 r72)) rfl (yl_move rfl) ?_
      refine T0_q (v := (.int .i64 r72)) rfl (yl_assign rfl) ?_
      refine T0_q (v := (.int .i64 15)) rfl (yl_assign rfl) ?_
      refine T0_nil ?_
      refine hK82 _ _ ?_
      refine WC_ret ?_
      replace h := some_out h
      subst h
      exact ⟨[(.int .i64 r72), (.int .i64 15)], ⟨rfl, rfl, trivial⟩, e79, rfl⟩
    · replace h := cond_f hb81 h
      refine WC_skip ?_
      refine hK70 _ _ ?_
      refine WC_seqK fun K83 hK83 => ?_
      refine WC_region ?_
      refine T0_q (v := (.pointer (some ⟨b5, 2, none⟩))) rfl (yl_fa 2 Tryd.underlying24 rfl rfl ⟨0, sz3⟩ rfl rfl) ?_
      refine T0_q (v := (.int .i64 p_Listappend.Tooth)) rfl (yl_load sc3 rfl (At.drop (Box.at (hB9.ext e78)) 2)) ?_
      obtain ⟨r84, hr85, h⟩ := bind_elim h
      refine T0_e rfl (eff_call Tryd.func86 nm86 rfl (ev3 rfl rfl rfl) (locate_within_ok [] _ (LtL.nil _) p_Listappend.Tooth 1 1000 r84 hr85) ?_)
      rintro _ wd86 ⟨he87, rfl⟩
      have e88 := e76.trans he87
      have e89 := e77.trans he87
      have e90 := e78.trans he87
      have e91 := e79.trans he87
      refine T0_q (v := (.bool r84)) rfl (yl_move rfl) ?_
      refine T0_g (v := (.pointer (some ⟨b5, 3, none⟩))) r84 (wanted_t rfl rfl rfl rfl) (fun hg => (yl_fa 3 Tryd.underlying24 rfl rfl ⟨0, sz3⟩ rfl rfl)) ?_
      refine T0_g (v := (.int .i64 p_Listappend.PerVane)) r84 (wanted_t rfl rfl rfl rfl) (fun hg => (yl_load sc3 (gd_true hg) (At.drop (Box.at (hB9.ext e90)) 3))) ?_
      obtain ⟨r92, hr93, h⟩ := bind_elim h
      refine T0_ges r84 (.bool r92) (wanted_t rfl rfl rfl rfl) (fun hg => eff_call Tryd.func86 nm86 rfl (ev3 (gd_true hg) rfl rfl) (locate_within_ok [] _ (LtL.nil _) p_Listappend.PerVane 1 12 r92 (cond_t hg hr93)) (by rintro _ wd94 ⟨he95, rfl⟩; exact ⟨rfl, he95⟩)) ?_
      intro wd94 he95
      have e96 := e88.trans he95
      have e97 := e89.trans he95
      have e98 := e90.trans he95
      have e99 := e91.trans he95
      refine T0_q (v := (.bool (r84 && r92))) rfl (yl_and rfl (fun hb => (gd_true hb)) rfl) ?_
      refine T0_q (v := (.bool (r84 && r92))) rfl (yl_move rfl) ?_
      refine T0_g (v := (.pointer (some ⟨b5, 4, none⟩))) (r84 && r92) (wanted_t rfl rfl rfl rfl) (fun hg => (yl_fa 4 Tryd.underlying24 rfl rfl ⟨0, sz3⟩ rfl rfl)) ?_
      refine T0_g (v := (.int .i64 p_Listappend.First)) (r84 && r92) (wanted_t rfl rfl rfl rfl) (fun hg => (yl_load sc3 (gd_true hg) (At.drop (Box.at (hB9.ext e98)) 4))) ?_
      obtain ⟨r100, hr101, h⟩ := bind_elim h
      refine T0_ges (r84 && r92) (.bool r100) (wanted_t rfl rfl rfl rfl) (fun hg => eff_call Tryd.func86 nm86 rfl (ev3 (gd_true hg) rfl rfl) (locate_within_ok [] _ (LtL.nil _) p_Listappend.First 0 999000000 r100 (cond_t hg hr101)) (by rintro _ wd102 ⟨he103, rfl⟩; exact ⟨rfl, he103⟩)) ?_
      intro wd102 he103
      have e104 := e96.trans he103
      have e105 := e97.trans he103
      have e106 := e98.trans he103
      have e107 := e99.trans he103
      refine T0_q (v := (.bool ((r84 && r92) && r100))) rfl (yl_and rfl (fun hb => (gd_true hb)) rfl) ?_
      refine T0_q (v := (.bool ((r84 && r92) && r100))) rfl (yl_move rfl) ?_
      refine T0_g (v := (.pointer (some ⟨b5, 5, none⟩))) ((r84 && r92) && r100) (wanted_t rfl rfl rfl rfl) (fun hg => (yl_fa 5 Tryd.underlying24 rfl rfl ⟨0, sz3⟩ rfl rfl)) ?_
      refine T0_g (v := (.int .i64 p_Listappend.Modulus)) ((r84 && r92) && r100) (wanted_t rfl rfl rfl rfl) (fun hg => (yl_load sc3 (gd_true hg) (At.drop (Box.at (hB9.ext e106)) 5))) ?_
      obtain ⟨r108, hr109, h⟩ := bind_elim h
      refine T0_ges ((r84 && r92) && r100) (.bool r108) (wanted_t rfl rfl rfl rfl) (fun hg => eff_call Tryd.func86 nm86 rfl (ev3 (gd_true hg) rfl rfl) (locate_within_ok [] _ (LtL.nil _) p_Listappend.Modulus 1 1000 r108 (cond_t hg hr109)) (by rintro _ wd110 ⟨he111, rfl⟩; exact ⟨rfl, he111⟩)) ?_
      intro wd110 he111
      have e112 := e104.trans he111
      have e113 := e105.trans he111
      have e114 := e106.trans he111
      have e115 := e107.trans he111
      refine T0_q (v := (.bool (((r84 && r92) && r100) && r108))) rfl (yl_and rfl (fun hb => (gd_true hb)) rfl) ?_
      refine T0_q (v := (.bool (((r84 && r92) && r100) && r108))) rfl (yl_move rfl) ?_
      refine T0_g (v := (.pointer (some ⟨b5, 6, none⟩))) (((r84 && r92) && r100) && r108) (wanted_t rfl rfl rfl rfl) (fun hg => (yl_fa 6 Tryd.underlying24 rfl rfl ⟨0, sz3⟩ rfl rfl)) ?_
      refine T0_g (v := (.int .i64 p_Listappend.Slack)) (((r84 && r92) && r100) && r108) (wanted_t rfl rfl rfl rfl) (fun hg => (yl_load sc3 (gd_true hg) (At.drop (Box.at (hB9.ext e114)) 6))) ?_
      refine T0_g (v := (.pointer (some ⟨b5, 5, none⟩))) (((r84 && r92) && r100) && r108) (wanted_t rfl rfl rfl rfl) (fun hg => (yl_fa 5 Tryd.underlying24 rfl rfl ⟨0, sz3⟩ rfl rfl)) ?_
      refine T0_g (v := (.int .i64 p_Listappend.Modulus)) (((r84 && r92) && r100) && r108) (wanted_t rfl rfl rfl rfl) (fun hg => (yl_load sc3 (gd_true hg) (At.drop (Box.at (hB9.ext e114)) 5))) ?_
      obtain ⟨r116, hr117, h⟩ := bind_elim h
      refine T0_ges (((r84 && r92) && r100) && r108) (.bool r116) (wanted_t rfl rfl rfl rfl) (fun hg => eff_call Tryd.func86 nm86 rfl (ev3 (gd_true hg) rfl (gd_true hg)) (locate_within_ok [] _ (LtL.nil _) p_Listappend.Slack 0 p_Listappend.Modulus r116 (cond_t hg hr117)) (by rintro _ wd118 ⟨he119, rfl⟩; exact ⟨rfl, he119⟩)) ?_
      intro wd118 he119
      have e120 := e112.trans he119
      have e121 := e113.trans he119
      have e122 := e114.trans he119
      have e123 := e115.trans he119
      refine T0_q (v := (.bool ((((r84 && r92) && r100) && r108) && r116))) rfl (yl_and rfl (fun hb => (gd_true hb)) rfl) ?_
      refine T0_q (v := (.bool ((((r84 && r92) && r100) && r108) && r116))) rfl (yl_move rfl) ?_
      refine T0_g (v := (.pointer (some ⟨b5, 7, none⟩))) ((((r84 && r92) && r100) && r108) && r116) (wanted_t rfl rfl rfl rfl) (fun hg => (yl_fa 7 Tryd.underlying24 rfl rfl ⟨0, sz3⟩ rfl rfl)) ?_
      refine T0_g (v := (.int .i64 p_Listappend.Errors)) ((((r84 && r92) && r100) && r108) && r116) (wanted_t rfl rfl rfl rfl) (fun hg => (yl_load sc3 (gd_true hg) (At.drop (Box.at (hB9.ext e122)) 7))) ?_
      refine T0_g (v := (.pointer (some ⟨b5, 1, none⟩))) ((((r84 && r92) && r100) && r108) && r116) (wanted_t rfl rfl rfl rfl) (fun hg => (yl_fa 1 Tryd.underlying24 rfl rfl ⟨0, sz3⟩ rfl rfl)) ?_
      refine T0_g (v := (.int .i64 p_Listappend.Window)) ((((r84 && r92) && r100) && r108) && r116) (wanted_t rfl rfl rfl rfl) (fun hg => (yl_load sc3 (gd_true hg) (At.drop (Box.at (hB9.ext e122)) 1))) ?_
      obtain ⟨r124, hr125, h⟩ := bind_elim h
      refine T0_ges ((((r84 && r92) && r100) && r108) && r116) (.bool r124) (wanted_t rfl rfl rfl rfl) (fun hg => eff_call Tryd.func86 nm86 rfl (ev3 (gd_true hg) rfl (gd_true hg)) (locate_within_ok [] _ (LtL.nil _) p_Listappend.Errors 0 p_Listappend.Window r124 (cond_t hg hr125)) (by rintro _ wd126 ⟨he127, rfl⟩; exact ⟨rfl, he127⟩)) ?_
      intro wd126 he127
      have e128 := e120.trans he127
      have e129 := e121.trans he127
      have e130 := e122.trans he127
      have e131 := e123.trans he127
      refine T0_q (v := (.bool (((((r84 && r92) && r100) && r108) && r116) && r124))) rfl (yl_and rfl (fun hb => (gd_true hb)) rfl) ?_
      refine T0_q (v := (.bool (((((r84 && r92) && r100) && r108) && r116) && r124))) rfl (yl_assign rfl) ?_
      refine T0_nil ?_
      refine hK83 _ _ ?_
      refine WC_seqK fun K132 hK132 => ?_
      refine WC_region ?_
      refine T0_q (v := (.bool (((((r84 && r92) && r100) && r108) && r116) && r124))) rfl (yl_move rfl) ?_
      obtain ⟨r133, hr134, h⟩ := bind_elim h
      refine T0_e rfl (eff_call Tryd.func85 nm85 rfl (ev2 rfl rfl) (locate_unless_ok [] _ (LtL.nil _) (((((r84 && r92) && r100) && r108) && r116) && r124) 2 r133 hr134) ?_)
      rintro _ wd135 ⟨he136, rfl⟩
      have e137 := e128.trans he136
      have e138 := e129.trans he136
      have e139 := e130.trans he136
      have e140 := e131.trans he136
      refine T0_q (v := (.int .i64 0)) rfl (yl_assign rfl) ?_
      refine T0_q (v := (.int .i64 r133)) rfl (yl_assign rfl) ?_
      refine T0_nil ?_
      refine hK132 _ _ ?_
      refine WC_ret ?_
      replace h := some_out h
      subst h
      exact ⟨[(.int .i64 0), (.int .i64 r133)], ⟨rfl, rfl, trivial⟩, e140, rfl⟩

noncomputable def locate_open_spec (p_t : LocateTrack) : Option (locate_track × Int) :=
  (Option.bind (locate_CheckTrack_spec p_t) fun r24 =>
  some ((locate_track.mk p_t), r24.2)
  )
theorem locate_open_ok (L : List Value) (w : World) (hL : LtL L w) (cs_p_t : List Value) (p_t : LocateTrack) (h_p_t : Rep.rd L w cs_p_t p_t) (r : locate_track × Int) (h : locate_open_spec p_t = some r) :
    CallsTo Tryd.prog 103 [(.agg cs_p_t.toArray)] w (fun v w' => Ext w w' ∧ ∃ (cs0 : List Value), (.tuple #[(.agg cs0.toArray), (.int .i64 r.2)]) = v ∧ Rep.rd L w' cs0 r.1) := by
  have e0 : Ext w w := Chg.refl _ _
  obtain ⟨v1, h2, rfl⟩ := h_p_t
  refine callsTo_of_WC (n := 14) (rs := [.cell 2 130, .tmp 3]) Tryd.func103 rfl rfl rfl rfl rfl ?_
  refine WC_seqK fun K4 hK4 => ?_
  refine WC_region ?_
  refine T0_e rfl (eff_boxC (cs := [v1, (.int .i64 p_t.Window), (.int .i64 p_t.Tooth), (.int .i64 p_t.PerVane), (.int .i64 p_t.First), (.int .i64 p_t.Modulus), (.int .i64 p_t.Slack), (.int .i64 p_t.Errors), (.bool p_t.Round)]) rfl rfl ?_)
  intro b5 wd6 hb7 he8 hB9
  have hbf10 := bfresh e0 hb7
  have e11 := e0.trans he8
  refine T0_e rfl (eff_allocZ zi130 ?_)
  intro b13 wd14 hb15 he16 hB17
  have hn18 : b13 ≠ b5 := box_ne hB9 hb15
  have hbf19 := bfresh e11 hb15
  have h20 := (h2.ext he8).step (add_box he16 hb15)
  have e21 := e11.trans he16
  refine T0_q (v := (.int .i64 0)) rfl (yl_assign rfl) ?_
  refine T0_nil ?_
  refine hK4 _ _ ?_
  refine WC_seqK fun K23 hK23 => ?_
  refine WC_region ?_
  refine T0_q (v := (.agg (List.toArray [v1, (.int .i64 p_t.Window), (.int .i64 p_t.Tooth), (.int .i64 p_t.PerVane), (.int .i64 p_t.First), (.int .i64 p_t.Modulus), (.int .i64 p_t.Slack), (.int .i64 p_t.Errors), (.bool p_t.Round)]))) rfl (yl_loadA (cs := [v1, (.int .i64 p_t.Window), (.int .i64 p_t.Tooth), (.int .i64 p_t.PerVane), (.int .i64 p_t.First), (.int .i64 p_t.Modulus), (.int .i64 p_t.Slack), (.int .i64 p_t.Errors), (.bool p_t.Round)]) ag24 rfl (Box.at (hB9.ext he16))) ?_
  obtain ⟨r24, hr25, h⟩ := bind_elim h
  refine T0_e rfl (eff_call Tryd.func43 nm43 rfl (ev1 rfl) (locate_CheckTrack_ok [] _ (LtL.nil _) [v1, (.int .i64 p_t.Window), (.int .i64 p_t.Tooth), (.int .i64 p_t.PerVane), (.int .i64 p_t.First), (.int .i64 p_t.Modulus), (.int .i64 p_t.Slack), (.int .i64 p_t.Errors), (.bool p_t.Round)] p_t ⟨v1, (h20.sub (fun _ h => by cases h)), rfl⟩ r24 hr25) ?_)
  rintro _ wd26 ⟨he27, rfl⟩
  have e28 := he16.trans he27
  have e29 := e21.trans he27
  refine T0_q (v := (.tuple #[(.int .i64 r24.1), (.int .i64 r24.2)])) rfl (yl_move rfl) ?_
  refine T0_q (v := (.int .i64 r24.1)) rfl (yl_extract rfl rfl) ?_
  refine T0_q (v := (.int .i64 r24.2)) rfl (yl_extract rfl rfl) ?_
  refine T0_q (v := (.int .i64 r24.1)) rfl (yl_assign rfl) ?_
  refine T0_q (v := (.int .i64 r24.2)) rfl (yl_assign rfl) ?_
  refine T0_nil ?_
  refine hK23 _ _ ?_
  refine WC_seqK fun K30 hK30 => ?_
  refine WC_region ?_
  refine T0_q (v := (.agg (List.toArray [v1, (.int .i64 p_t.Window), (.int .i64 p_t.Tooth), (.int .i64 p_t.PerVane), (.int .i64 p_t.First), (.int .i64 p_t.Modulus), (.int .i64 p_t.Slack), (.int .i64 p_t.Errors), (.bool p_t.Round)]))) rfl (yl_loadA (cs := [v1, (.int .i64 p_t.Window), (.int .i64 p_t.Tooth), (.int .i64 p_t.PerVane), (.int .i64 p_t.First), (.int .i64 p_t.Modulus), (.int .i64 p_t.Slack), (.int .i64 p_t.Errors), (.bool p_t.Round)]) ag24 rfl (Box.at (hB9.ext e28))) ?_
  refine T0_q (v := (.agg (List.toArray [v1, (.int .i64 p_t.Window), (.int .i64 p_t.Tooth), (.int .i64 p_t.PerVane), (.int .i64 p_t.First), (.int .i64 p_t.Modulus), (.int .i64 p_t.Slack), (.int .i64 p_t.Errors), (.bool p_t.Round)]))) rfl (yl_buildC (cells := [v1, (.int .i64 p_t.Window), (.int .i64 p_t.Tooth), (.int .i64 p_t.PerVane), (.int .i64 p_t.First), (.int .i64 p_t.Modulus), (.int .i64 p_t.Slack), (.int .i64 p_t.Errors), (.bool p_t.Round)]) bi130 (pc_cons rfl rfl pc_nil) rfl) ?_
  refine T0_q (v := (.int .i64 r24.2)) rfl (yl_move rfl) ?_
  refine T0_e rfl (eff_storeC (vs := [v1, (.int .i64 p_t.Window), (.int .i64 p_t.Tooth), (.int .i64 p_t.PerVane), (.int .i64 p_t.First), (.int .i64 p_t.Modulus), (.int .i64 p_t.Slack), (.int .i64 p_t.Errors), (.bool p_t.Round)]) (cs' := [v1, (.int .i64 p_t.Window), (.int .i64 p_t.Tooth), (.int .i64 p_t.PerVane), (.int .i64 p_t.First), (.int .i64 p_t.Modulus), (.int .i64 p_t.Slack), (.int .i64 p_t.Errors), (.bool p_t.Round)]) sz130 rfl rfl rfl rfl (hB17.ext he27) rfl (oc_cons h20.one1 (oc_cons rfl (oc_cons rfl (oc_cons rfl (oc_cons rfl (oc_cons rfl (oc_cons rfl (oc_cons rfl (oc_cons rfl oc_nil))))))))) rfl ?_)
  intro wd31 hc32 hB33
  have h34 := (h20.ext he27).step (Stepp.chg_mem hc32 mem0)
  have h35 := (hB9.ext e28).chg hc32 (avoidb hn18)
  have e36 := chg_box e29 hc32 hbf19
  refine T0_q (v := (.int .i64 r24.2)) rfl (yl_assign rfl) ?_
  refine T0_nil ?_
  refine hK30 _ _ ?_
  refine WC_ret ?_
  replace h := some_out h
  subst h
  exact ⟨[(.agg (List.toArray [v1, (.int .i64 p_t.Window), (.int .i64 p_t.Tooth), (.int .i64 p_t.PerVane), (.int .i64 p_t.First), (.int .i64 p_t.Modulus), (.int .i64 p_t.Slack), (.int .i64 p_t.Errors), (.bool p_t.Round)])), (.int .i64 r24.2)], ⟨⟨_, rfl, run_loadVarA (cs := [v1, (.int .i64 p_t.Window), (.int .i64 p_t.Tooth), (.int .i64 p_t.PerVane), (.int .i64 p_t.First), (.int .i64 p_t.Modulus), (.int .i64 p_t.Slack), (.int .i64 p_t.Errors), (.bool p_t.Round)]) ag130 (Box.at hB33)⟩, rfl, trivial⟩, e36, [v1, (.int .i64 p_t.Window), (.int .i64 p_t.Tooth), (.int .i64 p_t.PerVane), (.int .i64 p_t.First), (.int .i64 p_t.Modulus), (.int .i64 p_t.Slack), (.int .i64 p_t.Errors), (.bool p_t.Round)], rfl, ⟨v1, (h34.sub (sub_skip (sub_refl _))), rfl⟩⟩

noncomputable def slices_ContainsFunc_int_94_spec (p_s : (List Int)) : Option Bool :=
  (Option.bind (slices_IndexFunc_int_94_spec p_s) fun r4 =>
  some (decide (0 ≤ r4))
  )
theorem slices_ContainsFunc_int_94_ok (L : List Value) (w : World) (hL : LtL L w) (v_p_s : Value) (p_s : (List Int)) (h_p_s : SlRd L w v_p_s p_s) (r : Bool) (h : slices_ContainsFunc_int_94_spec p_s = some r) :
    CallsTo Tryd.prog 93 [v_p_s, (.func (.func 94) #[] #[])] w (fun v w' => Ext w w' ∧ (.bool r) = v) := by
  have e0 : Ext w w := Chg.refl _ _
  refine callsTo_of_WC (n := 9) (rs := [.tmp 4]) Tryd.func93 rfl rfl rfl rfl rfl ?_
  refine WC_seqK fun K2 hK2 => ?_
  refine WC_region ?_
  refine T0_q (v := (.bool false)) rfl (yl_assign rfl) ?_
  refine T0_nil ?_
  refine hK2 _ _ ?_
  refine WC_seqK fun K3 hK3 => ?_
  refine WC_region ?_
  refine T0_q (v := v_p_s) rfl (yl_move rfl) ?_
  refine T0_q (v := (.func (.func 94) #[] #[])) rfl (yl_move rfl) ?_
  obtain ⟨r4, hr5, h⟩ := bind_elim h
  refine T0_e rfl (eff_call Tryd.func97 nm97 rfl (ev2 rfl rfl) (slices_IndexFunc_int_94_ok [] _ (LtL.nil _) v_p_s p_s (h_p_s.sub (fun _ h => by cases h)) r4 hr5) ?_)
  rintro _ wd6 ⟨he7, rfl⟩
  have e8 := e0.trans he7
  refine T0_q (v := (.bool (decide (0 ≤ r4)))) rfl (yl_geq rfl rfl) ?_
  refine T0_q (v := (.bool (decide (0 ≤ r4)))) rfl (yl_assign rfl) ?_
  refine T0_nil ?_
  refine hK3 _ _ ?_
  refine WC_ret ?_
  replace h := some_out h
  subst h
  exact ⟨[(.bool (decide (0 ≤ r4)))], ⟨rfl, trivial⟩, e8, rfl⟩

noncomputable def locate_Counted_s0 (p_states : (List Int)) : (Int × Int × Int) → Option ((Int × Int × Int) ⊕ (Int × Int)) := fun (x441, x445, x446) =>
  (bif (decide (x441 < (p_states.length : Int))) then (
    (Option.bind (α := (Int × Int)) (
      (Option.bind (idx p_states x441) fun el536 =>
      (Option.bind (idx p_states (w64 (x441 - 1))) fun el542 =>
      (Option.bind (idx ([0, 1, 3, 2] : List Int) el536) fun el548 =>
      (Option.bind (idx ([0, 1, 3, 2] : List Int) el542) fun el550 =>
      (bif (decide ((Int.tmod (w64 ((w64 (el548 - el550)) + 4)) 4) = 1)) then (
        some (w64 (x445 + 1), x446)
      ) else (
        (bif (decide ((Int.tmod (w64 ((w64 (el548 - el550)) + 4)) 4) = 2)) then (
          some (x445, w64 (x446 + 1))
        ) else (
          (bif (decide ((Int.tmod (w64 ((w64 (el548 - el550)) + 4)) 4) = 3)) then (
            some (w64 (x445 - 1), x446)
          ) else (
            some (x445, x446)
          ))
        ))
      ))
      )
      )
      )
      )
    ) fun ((x524, x525) : Int × Int) =>
    some (.inl (w64 (x441 + 1), x524, x525))
    )
  ) else (
    some (.inr (x445, x446))
  ))
noncomputable def locate_Counted_spec (p_states : (List Int)) : Option (LocateSteps × Int) :=
  (Option.bind (slices_ContainsFunc_int_94_spec p_states) fun r13 =>
  (Option.bind (locate_unless_spec (decide ((p_states.length : Int) ≤ 200)) 8) fun r20 =>
  (Option.bind (locate_unless_spec (!r13) 2) fun r26 =>
  (Option.bind (locate_first_spec ([r20, r26] : List Int)) fun r39 =>
  (bif (!decide (r39 = 0)) then (
    some ((LocateSteps.mk 0 0), r39)
  ) else (
    (Option.bind (loop (locate_Counted_s0 p_states) (1, 0, 0)) fun ((x455, x456) : Int × Int) =>
    some ((LocateSteps.mk x455 x456), 0)
    )
  ))
  )
  )
  )
  )
theorem locate_Counted_ok (L : List Value) (w : World) (hL : LtL L w) (hg0 : At w ⟨0, 0, none⟩ [.int .i64 0, .int .i64 1, .int .i64 3, .int .i64 2]) (v_p_states : Value) (p_states : (List Int)) (h_p_states : SlRd L w v_p_states p_states) (r : LocateSteps × Int) (h : locate_Counted_spec p_states = some r) :
    CallsTo Tryd.prog 36 [v_p_states] w (fun v w' => Ext w w' ∧ ∃ (cs0 : List Value), (.tuple #[(.agg cs0.toArray), (.int .i64 r.2)]) = v ∧ Rep.rd L w' cs0 r.1) := by
  have e0 : Ext w w := Chg.refl _ _
  refine callsTo_of_WC (n := 64) (rs := [.cell 2 62, .tmp 3]) Tryd.func36 rfl rfl rfl rfl rfl ?_
  refine WC_seqK fun K2 hK2 => ?_
  refine WC_region ?_
  refine T0_e rfl (eff_allocZ zi62 ?_)
  intro b3 wd4 hb5 he6 hB7
  have hbf8 := bfresh e0 hb5
  have h9 := h_p_states.step (add_box he6 hb5)
  have e10 := e0.trans he6
  refine T0_q (v := (.int .i64 0)) rfl (yl_assign rfl) ?_
  refine T0_nil ?_
  refine hK2 _ _ ?_
  refine WC_seqK fun K12 hK12 => ?_
  refine WC_region ?_
  refine T0_q (v := v_p_states) rfl (yl_move rfl) ?_
  obtain ⟨r13, hr14, h⟩ := bind_elim h
  refine T0_e rfl (eff_call Tryd.func93 nm93 rfl (ev2 rfl rfl) (slices_ContainsFunc_int_94_ok [] _ (LtL.nil _) v_p_states p_states (h9.sub (fun _ h => by cases h)) r13 hr14) ?_)
  rintro _ wd15 ⟨he16, rfl⟩
  have e17 := e10.trans he16
  refine T0_q (v := (.bool r13)) rfl (yl_assign rfl) ?_
  refine T0_nil ?_
  refine hK12 _ _ ?_
  refine WC_seqK fun K18 hK18 => ?_
  refine WC_seqK fun K19 hK19 => ?_
  refine WC_region ?_
  refine T0_q (v := v_p_states) rfl (yl_move rfl) ?_
  refine T0_q (v := (.int .i64 (p_states.length : Int))) rfl (yl_lenR rfl Tryd.underlying22 h9 rfl) ?_
  refine T0_q (v := (.bool (decide ((p_states.length : Int) ≤ 200)))) rfl (yl_leq rfl rfl) ?_
  obtain ⟨r20, hr21, h⟩ := bind_elim h
  refine T0_e rfl (eff_call Tryd.func85 nm85 rfl (ev2 rfl rfl) (locate_unless_ok [] _ (LtL.nil _) (decide ((p_states.length : Int) ≤ 200)) 8 r20 hr21) ?_)
  rintro _ wd22 ⟨he23, rfl⟩
  have e24 := he16.trans he23
  have e25 := e17.trans he23
  refine T0_q (v := (.bool r13)) rfl (yl_move rfl) ?_
  refine T0_q (v := (.bool (!r13))) rfl (yl_not rfl) ?_
  obtain ⟨r26, hr27, h⟩ := bind_elim h
  refine T0_e rfl (eff_call Tryd.func85 nm85 rfl (ev2 rfl rfl) (locate_unless_ok [] _ (LtL.nil _) (!r13) 2 r26 hr27) ?_)
  rintro _ wd28 ⟨he29, rfl⟩
  have e30 := e24.trans he29
  have e31 := e25.trans he29
  refine T0_e rfl (eff_buildTC (xs := ([r20, r26] : List Int)) (cells := [(.int .i64 r20), (.int .i64 r26)]) Tryd.underlying164 ei30 rfl (pc_cons rfl rfl (pc_cons rfl rfl pc_nil)) rfl (Elems.cons (cs := [(.int .i64 r20)]) rfl (Elems.cons (cs := [(.int .i64 r26)]) rfl Elems.nil)) rfl (ltl_box (hL.chg e31) (hB7.ext e30)) ?_)
  intro b35 wd32 he33 h34
  have e36 := e30.trans he33
  have e37 := e31.trans he33
  obtain ⟨r39, hr40, h⟩ := bind_elim h
  refine T0_e rfl (eff_call Tryd.func84 nm84 rfl (ev1 rfl) (locate_first_ok [] _ (LtL.nil _) (.slice (some ⟨b35, 0, none⟩) 2 2) ([r20, r26] : List Int) (h34.sub (fun _ h => by cases h)) r39 hr40) ?_)
  rintro _ wd41 ⟨he42, rfl⟩
  have e43 := e36.trans he42
  have e44 := e37.trans he42
  refine T0_q (v := (.int .i64 r39)) rfl (yl_assign rfl) ?_
  refine T0_nil ?_
  refine hK19 _ _ ?_
  refine WC_seqK fun K45 hK45 => ?_
  refine WC_region ?_
  refine T0_q (v := (.int .i64 r39)) rfl (yl_move rfl) ?_
  refine T0_q (v := (.bool (!decide (r39 = 0)))) rfl (yl_neq rfl rfl) ?_
  refine T0_nil ?_
  refine hK45 _ _ ?_
  refine WC_cond (b := (!decide (r39 = 0))) rfl (fun hb46 => ?_) (fun hb46 => ?_)
  · replace h := cond_t hb46 h
    refine WC_seqK fun K47 hK47 => ?_
    refine WC_region ?_
    refine T0_q (v := (.agg (List.toArray [(.int .i64 0), (.int .i64 0)]))) rfl (yl_buildC (cells := [(.int .i64 0), (.int .i64 0)]) bi62 pc_nil rfl) ?_
    refine T0_q (v := (.int .i64 r39)) rfl (yl_move rfl) ?_
    refine T0_e rfl (eff_storeC (vs := [(.int .i64 0), (.int .i64 0)]) (cs' := [(.int .i64 0), (.int .i64 0)]) sz62 rfl rfl rfl rfl (hB7.ext e43) rfl (oc_cons rfl (oc_cons rfl oc_nil)) rfl ?_)
    intro wd48 hc49 hB50
    have h51 := (h9.ext e43).step (Stepp.chg_mem hc49 mem0)
    have h52 := (h34.ext he42).step (Stepp.chg_mem hc49 mem0)
    have e53 := chg_box e44 hc49 hbf8
    refine T0_q (v := (.int .i64 r39)) rfl (yl_assign rfl) ?_
    refine T0_nil ?_
    refine hK47 _ _ ?_
    refine WC_ret ?_
    replace h := some_out h
    subst h
    exact ⟨[(.agg (List.toArray [(.int .i64 0), (.int .i64 0)])), (.int .i64 r39)], ⟨⟨_, rfl, run_loadVarA (cs := [(.int .i64 0), (.int .i64 0)]) ag62 (Box.at hB50)⟩, rfl, trivial⟩, e53, [(.int .i64 0), (.int .i64 0)], rfl, rfl⟩
  · replace h := cond_f hb46 h
    refine WC_skip ?_
    refine hK18 _ _ ?_
    refine WC_seqK fun K54 hK54 => ?_
    refine WC_region ?_
    refine T0_e rfl (eff_allocZ zi62 ?_)
    intro b55 wd56 hb57 he58 hB59
    have hn60 : b55 ≠ b3 := box_ne (hB7.ext e43) hb57
    have hbf61 := bfresh e44 hb57
    have h62 := (h9.ext e43).step (add_box he58 hb57)
    have h63 := (h34.ext he42).step (add_box he58 hb57)
    have e64 := e43.trans he58
    have e65 := e44.trans he58
    refine T0_nil ?_
    refine hK54 _ _ ?_
    refine WC_seqK fun K67 hK67 => ?_
    refine WC_seqK fun K68 hK68 => ?_
    refine WC_region ?_
    refine T0_q (v := (.int .i64 1)) rfl (yl_assign rfl) ?_
    refine T0_nil ?_
    refine hK68 _ _ ?_
    obtain ⟨o459, hl460, hn461⟩ := bind_elim h
    refine WC_post (fun (ρ : Env) (wd449 : World) => ∃ (x455 : Int) (x456 : Int), (x455, x456) = o459 ∧ ρ 2 = (.pointer (some ⟨b3, 0, none⟩)) ∧ ρ 6 = (.pointer (some ⟨b55, 0, none⟩)) ∧ Box wd449 b3 [(.int .i64 0), (.int .i64 0)] 62 ∧ Box wd449 b55 [(.int .i64 x455), (.int .i64 x456)] 62 ∧ Ext w wd449) ?_ ?_
    · intro K465 hK465
      refine WC_block ?_
      refine WC_loopk (fun sv ρ wd435 => ∃ (x441 : Int) (x445 : Int) (x446 : Int), (x441, x445, x446) = sv ∧ ρ 0 = v_p_states ∧ ρ 2 = (.pointer (some ⟨b3, 0, none⟩)) ∧ ρ 6 = (.pointer (some ⟨b55, 0, none⟩)) ∧ ρ 7 = (.int .i64 x441) ∧ SlRd ((.pointer (some ⟨b55, 0, none⟩)) :: (.pointer (some ⟨b3, 0, none⟩)) :: L) wd435 v_p_states p_states ∧ Box wd435 b3 [(.int .i64 0), (.int .i64 0)] 62 ∧ Box wd435 b55 [(.int .i64 x445), (.int .i64 x446)] 62 ∧ Ext w wd435) hl460 ⟨1, 0, 0, rfl, rfl, rfl, rfl, rfl, h62, (hB7.ext e64), hB59, e65⟩ ?_
      rintro _ ρ wd435 ⟨x441, x445, x446, rfl, hs438, hs439, hs440, hs442, h437, hB444, hB448, e436⟩ x462 h hx463 K464 hK464
      refine WC_seqK fun K467 hK467 => ?_
      refine WC_seqK fun K468 hK468 => ?_
      refine WC_region ?_
      refine T0_q (v := (.int .i64 x441)) rfl (yl_move hs442) ?_
      refine T0_q (v := v_p_states) rfl (yl_move hs438) ?_
      refine T0_q (v := (.int .i64 (p_states.length : Int))) rfl (yl_lenR rfl Tryd.underlying22 h437 rfl) ?_
      refine T0_q (v := (.bool (decide (x441 < (p_states.length : Int))))) rfl (yl_lss rfl rfl) ?_
      refine T0_nil ?_
      refine hK468 _ _ ?_
      refine WC_cond (b := (decide (x441 < (p_states.length : Int)))) rfl (fun hb469 => ?_) (fun hb469 => ?_)
      · replace h := cond_t hb469 h
        refine WC_skip ?_
        refine hK467 _ _ ?_
        refine WC_seqK fun K470 hK470 => ?_
        obtain ⟨o528, ho529, hn530⟩ := bind_elim h
        refine WC_post (fun (ρ : Env) (wd515 : World) => ∃ (x524 : Int) (x525 : Int), (x524, x525) = o528 ∧ ρ 0 = v_p_states ∧ ρ 2 = (.pointer (some ⟨b3, 0, none⟩)) ∧ ρ 6 = (.pointer (some ⟨b55, 0, none⟩)) ∧ ρ 7 = (.int .i64 x441) ∧ SlRd ((.pointer (some ⟨b55, 0, none⟩)) :: (.pointer (some ⟨b3, 0, none⟩)) :: L) wd515 v_p_states p_states ∧ Box wd515 b3 [(.int .i64 0), (.int .i64 0)] 62 ∧ Box wd515 b55 [(.int .i64 x524), (.int .i64 x525)] 62 ∧ Ext w wd515) ?_ ?_
        · intro K531 hK531
          replace h := ho529
          clear ho529
          refine WC_block ?_
          refine WC_seqK fun K532 hK532 => ?_
          refine WC_plan mixed (.p 0 (.p 1 (.p 2 (.p 6 (.p 7 (.p 8 (.p 9 (.q 3 (.p 4 (.q 5 (.q 10 (.p 11 (.q 12 (.p 13 (.p 14 (.p 15 .done)))))))))))))))) (by kernel_rfl) ?_
          intro wd533 he534
          have e535 := e436.trans he534
          refine TP_p (v := v_p_states) rfl rfl (fun w' => (yl_move hs438)) ?_
          refine TP_p (v := (.int .i64 x441)) rfl rfl (fun w' => (yl_move hs442)) ?_
          obtain ⟨el536, hel537, h⟩ := bind_elim h
          obtain ⟨cs538, hat539, hrd540⟩ := SlRd.at h437 hel537
          have hrd540 : cs538 = [(.int .i64 el536)] := hrd540
          subst hrd540
          refine TP_p (v := (.pointer (some (elemAddr v_p_states (x441 : Int).toNat 1)))) rfl rfl (fun w' => (yl_indexAddr Tryd.underlying22 sz3 h437 hel537 rfl rfl)) ?_
          refine TP_p (v := v_p_states) rfl rfl (fun w' => (yl_move hs438)) ?_
          refine TP_p (v := (.int .i64 x441)) rfl rfl (fun w' => (yl_move hs442)) ?_
          refine TP_p (v := (.int .i64 (w64 (x441 - 1)))) rfl rfl (fun w' => (yl_sub rfl rfl)) ?_
          obtain ⟨el542, hel543, h⟩ := bind_elim h
          obtain ⟨cs544, hat545, hrd546⟩ := SlRd.at h437 hel543
          have hrd546 : cs544 = [(.int .i64 el542)] := hrd546
          subst hrd546
          refine TP_p (v := (.pointer (some (elemAddr v_p_states (w64 (x441 - 1) : Int).toNat 1)))) rfl rfl (fun w' => (yl_indexAddr Tryd.underlying22 sz3 h437 hel543 rfl rfl)) ?_
          refine TP_q (v := (.int .i64 el536)) rfl rfl (fun w' hS => (yl_load sc3 rfl (hat539.ext' ((he534).trans hS)))) ?_
          obtain ⟨el548, hel549, h⟩ := bind_elim h
          refine TP_p (v := (.pointer (some (Addr.add ⟨0, 0, none⟩ ((el536 : Int).toNat * 1))))) rfl rfl (fun w' => (yl_indexAddrA Tryd.underlying139 sz3 (idx_some hel549).1 (glob_lt (xs := ([0, 1, 3, 2] : List Int)) hel549) rfl rfl)) ?_
          refine TP_q (v := (.int .i64 el548)) rfl rfl (fun w' hS => (yl_load sc3 rfl (glob_at (xs := ([0, 1, 3, 2] : List Int)) (hg0.ext (e535.trans hS)) hel549))) ?_
          refine TP_q (v := (.int .i64 el542)) rfl rfl (fun w' hS => (yl_load sc3 rfl (hat545.ext' ((he534).trans hS)))) ?_
          obtain ⟨el550, hel551, h⟩ := bind_elim h
          refine TP_p (v := (.pointer (some (Addr.add ⟨0, 0, none⟩ ((el542 : Int).toNat * 1))))) rfl rfl (fun w' => (yl_indexAddrA Tryd.underlying139 sz3 (idx_some hel551).1 (glob_lt (xs := ([0, 1, 3, 2] : List Int)) hel551) rfl rfl)) ?_
          refine TP_q (v := (.int .i64 el550)) rfl rfl (fun w' hS => (yl_load sc3 rfl (glob_at (xs := ([0, 1, 3, 2] : List Int)) (hg0.ext (e535.trans hS)) hel551))) ?_
          refine TP_p (v := (.int .i64 (w64 (el548 - el550)))) rfl rfl (fun w' => (yl_sub rfl rfl)) ?_
          refine TP_p (v := (.int .i64 (w64 ((w64 (el548 - el550)) + 4)))) rfl rfl (fun w' => (yl_add rfl rfl)) ?_
          refine TP_p (v := (.int .i64 (Int.tmod (w64 ((w64 (el548 - el550)) + 4)) 4))) rfl rfl (fun w' => (yl_rem (by decide) rfl rfl)) ?_
          refine TP_done ?_
          refine hK532 _ _ ?_
          refine WC_block ?_
          refine WC_seqK fun K552 hK552 => ?_
          refine WC_region ?_
          refine T0_q (v := (.bool (decide ((Int.tmod (w64 ((w64 (el548 - el550)) + 4)) 4) = 1)))) rfl (yl_eql rfl rfl) ?_
          refine T0_q (v := (.bool (decide ((Int.tmod (w64 ((w64 (el548 - el550)) + 4)) 4) = 1)))) rfl (yl_assign rfl) ?_
          refine T0_nil ?_
          refine hK552 _ _ ?_
          refine WC_cond (b := (decide ((Int.tmod (w64 ((w64 (el548 - el550)) + 4)) 4) = 1))) rfl (fun hb553 => ?_) (fun hb553 => ?_)
          · replace h := cond_t hb553 h
            refine WC_region ?_
            refine T0_q (v := (.pointer (some ⟨b55, 0, none⟩))) rfl (yl_fa 0 Tryd.underlying62 rfl rfl ⟨0, sz3⟩ hs440 rfl) ?_
            refine T0_q (v := (.int .i64 x445)) rfl (yl_load sc3 rfl (Box.at (hB448.ext he534))) ?_
            refine T0_q (v := (.int .i64 (w64 (x445 + 1)))) rfl (yl_add rfl rfl) ?_
            refine T0_q (v := (.pointer (some ⟨b55, 0, none⟩))) rfl (yl_fa 0 Tryd.underlying62 rfl rfl ⟨0, sz3⟩ hs440 rfl) ?_
            refine T0_e rfl (eff_storeC (vs := [(.int .i64 (w64 (x445 + 1)))]) (cs' := [(.int .i64 (w64 (x445 + 1))), (.int .i64 x446)]) sz3 rfl rfl rfl rfl (hB448.ext he534) rfl (oc_cons rfl oc_nil) rfl ?_)
            intro wd554 hc555 hB556
            have h557 := (h437.ext he534).step (Stepp.chg_mem hc555 mem0)
            have h558 := (hB444.ext he534).chg hc555 (avoidb hn60)
            have e559 := chg_box e535 hc555 hbf61
            refine T0_nil ?_
            replace h := some_out h
            subst h
            refine hK531 _ _ ?_
            exact ⟨w64 (x445 + 1), x446, rfl, hs438, hs439, hs440, hs442, h557, h558, hB556, e559⟩
          · replace h := cond_f hb553 h
            refine WC_seqK fun K560 hK560 => ?_
            refine WC_region ?_
            refine T0_q (v := (.bool (decide ((Int.tmod (w64 ((w64 (el548 - el550)) + 4)) 4) = 2)))) rfl (yl_eql rfl rfl) ?_
            refine T0_q (v := (.bool (decide ((Int.tmod (w64 ((w64 (el548 - el550)) + 4)) 4) = 2)))) rfl (yl_assign rfl) ?_
            refine T0_nil ?_
            refine hK560 _ _ ?_
            refine WC_cond (b := (decide ((Int.tmod (w64 ((w64 (el548 - el550)) + 4)) 4) = 2))) rfl (fun hb561 => ?_) (fun hb561 => ?_)
            · replace h := cond_t hb561 h
              refine WC_region ?_
              refine T0_q (v := (.pointer (some ⟨b55, 1, none⟩))) rfl (yl_fa 1 Tryd.underlying62 rfl rfl ⟨0, sz3⟩ hs440 rfl) ?_
              refine T0_q (v := (.int .i64 x446)) rfl (yl_load sc3 rfl (At.drop (Box.at (hB448.ext he534)) 1)) ?_
              refine T0_q (v := (.int .i64 (w64 (x446 + 1)))) rfl (yl_add rfl rfl) ?_
              refine T0_q (v := (.pointer (some ⟨b55, 1, none⟩))) rfl (yl_fa 1 Tryd.underlying62 rfl rfl ⟨0, sz3⟩ hs440 rfl) ?_
              refine T0_e rfl (eff_storeC (vs := [(.int .i64 (w64 (x446 + 1)))]) (cs' := [(.int .i64 x445), (.int .i64 (w64 (x446 + 1)))]) sz3 rfl rfl rfl rfl (hB448.ext he534) rfl (oc_cons rfl oc_nil) rfl ?_)
              intro wd562 hc563 hB564
              have h565 := (h437.ext he534).step (Stepp.chg_mem hc563 mem0)
              have h566 := (hB444.ext he534).chg hc563 (avoidb hn60)
              have e567 := chg_box e535 hc563 hbf61
              refine T0_nil ?_
              replace h := some_out h
              subst h
              refine hK531 _ _ ?_
              exact ⟨x445, w64 (x446 + 1), rfl, hs438, hs439, hs440, hs442, h565, h566, hB564, e567⟩
            · replace h := cond_f hb561 h
              refine WC_seqK fun K568 hK568 => ?_
              refine WC_region ?_
              refine T0_q (v := (.bool (decide ((Int.tmod (w64 ((w64 (el548 - el550)) + 4)) 4) = 3)))) rfl (yl_eql rfl rfl) ?_
              refine T0_q (v := (.bool (decide ((Int.tmod (w64 ((w64 (el548 - el550)) + 4)) 4) = 3)))) rfl (yl_assign rfl) ?_
              refine T0_nil ?_
              refine hK568 _ _ ?_
              refine WC_cond (b := (decide ((Int.tmod (w64 ((w64 (el548 - el550)) + 4)) 4) = 3))) rfl (fun hb569 => ?_) (fun hb569 => ?_)
              · replace h := cond_t hb569 h
                refine WC_region ?_
                refine T0_q (v := (.pointer (some ⟨b55, 0, none⟩))) rfl (yl_fa 0 Tryd.underlying62 rfl rfl ⟨0, sz3⟩ hs440 rfl) ?_
                refine T0_q (v := (.int .i64 x445)) rfl (yl_load sc3 rfl (Box.at (hB448.ext he534))) ?_
                refine T0_q (v := (.int .i64 (w64 (x445 - 1)))) rfl (yl_sub rfl rfl) ?_
                refine T0_q (v := (.pointer (some ⟨b55, 0, none⟩))) rfl (yl_fa 0 Tryd.underlying62 rfl rfl ⟨0, sz3⟩ hs440 rfl) ?_
                refine T0_e rfl (eff_storeC (vs := [(.int .i64 (w64 (x445 - 1)))]) (cs' := [(.int .i64 (w64 (x445 - 1))), (.int .i64 x446)]) sz3 rfl rfl rfl rfl (hB448.ext he534) rfl (oc_cons rfl oc_nil) rfl ?_)
                intro wd570 hc571 hB572
                have h573 := (h437.ext he534).step (Stepp.chg_mem hc571 mem0)
                have h574 := (hB444.ext he534).chg hc571 (avoidb hn60)
                have e575 := chg_box e535 hc571 hbf61
                refine T0_nil ?_
                replace h := some_out h
                subst h
                refine hK531 _ _ ?_
                exact ⟨w64 (x445 - 1), x446, rfl, hs438, hs439, hs440, hs442, h573, h574, hB572, e575⟩
              · replace h := cond_f hb569 h
                refine WC_skip ?_
                replace h := some_out h
                subst h
                refine hK531 _ _ ?_
                exact ⟨x445, x446, rfl, hs438, hs439, hs440, hs442, (h437.ext he534), (hB444.ext he534), (hB448.ext he534), e535⟩
        · rintro ρ wd515 ⟨x524, x525, rfl, hs518, hs519, hs520, hs521, h517, hB523, hB527, e516⟩
          replace h := hn530
          refine hK470 _ _ ?_
          refine WC_region ?_
          refine T0_q (v := (.int .i64 x441)) rfl (yl_move hs521) ?_
          refine T0_q (v := (.int .i64 (w64 (x441 + 1)))) rfl (yl_add rfl rfl) ?_
          refine T0_q (v := (.int .i64 (w64 (x441 + 1)))) rfl (yl_assign rfl) ?_
          refine T0_nil ?_
          replace h := some_out h
          subst h
          refine hK464 _ _ _ rfl ?_
          exact ⟨w64 (x441 + 1), x524, x525, rfl, hs518, hs519, hs520, rfl, h517, hB523, hB527, e516⟩
      · replace h := cond_f hb469 h
        refine WC_exit ?_
        replace h := some_out h
        subst h
        have ho := hx463 _ rfl
        subst ho
        refine hK465 _ _ ?_
        exact ⟨x445, x446, rfl, hs439, hs440, hB444, hB448, e436⟩
    · rintro ρ wd449 ⟨x455, x456, rfl, hs451, hs452, hB454, hB458, e450⟩
      replace h := hn461
      refine hK67 _ _ ?_
      refine WC_seqK fun K576 hK576 => ?_
      refine WC_region ?_
      refine T0_q (v := (.agg (List.toArray [(.int .i64 x455), (.int .i64 x456)]))) rfl (yl_loadA (cs := [(.int .i64 x455), (.int .i64 x456)]) ag62 hs452 (Box.at hB458)) ?_
      refine T0_e rfl (eff_storeC (vs := [(.int .i64 x455), (.int .i64 x456)]) (cs' := [(.int .i64 x455), (.int .i64 x456)]) sz62 rfl rfl hs451 rfl hB454 rfl (oc_cons rfl (oc_cons rfl oc_nil)) rfl ?_)
      intro wd577 hc578 hB579
      have h580 := hB458.chg hc578 (avoidb hn60.symm)
      have e581 := chg_box e450 hc578 hbf8
      refine T0_q (v := (.int .i64 0)) rfl (yl_assign rfl) ?_
      refine T0_nil ?_
      refine hK576 _ _ ?_
      refine WC_ret ?_
      replace h := some_out h
      subst h
      exact ⟨[(.agg (List.toArray [(.int .i64 x455), (.int .i64 x456)])), (.int .i64 0)], ⟨⟨_, hs451, run_loadVarA (cs := [(.int .i64 x455), (.int .i64 x456)]) ag62 (Box.at hB579)⟩, rfl, trivial⟩, e581, [(.int .i64 x455), (.int .i64 x456)], rfl, rfl⟩

noncomputable def slices_IndexFunc_int_122_s0 (p_s : (List Int)) : (Int) → Option ((Int) ⊕ (Int ⊕ (Unit))) := fun x91 =>
  (bif (decide (x91 < (p_s.length : Int))) then (
    (Option.bind (idx p_s x91) fun el109 =>
    (Option.bind (locate_openSeen_1_spec el109) fun r115 =>
    (bif r115 then (
      some (.inr (.inl x91))
    ) else (
      some (.inl (w64 (x91 + 1)))
    ))
    )
    )
  ) else (
    some (.inr (.inr ()))
  ))
noncomputable def slices_IndexFunc_int_122_spec (p_s : (List Int)) : Option Int :=
  (Option.bind (loop (slices_IndexFunc_int_122_s0 p_s) 0) fun o95 => jn0 o95 fun (_ : Unit) =>
  some (-1)
  )
theorem slices_IndexFunc_int_122_ok (L : List Value) (w : World) (hL : LtL L w) (v_p_s : Value) (p_s : (List Int)) (h_p_s : SlRd L w v_p_s p_s) (r : Int) (h : slices_IndexFunc_int_122_spec p_s = some r) :
    CallsTo Tryd.prog 97 [v_p_s, (.func (.func 122) #[] #[])] w (fun v w' => Ext w w' ∧ (.int .i64 r) = v) := by
  have e0 : Ext w w := Chg.refl _ _
  refine callsTo_of_WC (n := 19) (rs := [.tmp 4]) Tryd.func97 rfl rfl rfl rfl rfl ?_
  refine WC_seqK fun K2 hK2 => ?_
  refine WC_region ?_
  refine T0_q (v := (.int .i64 0)) rfl (yl_assign rfl) ?_
  refine T0_nil ?_
  refine hK2 _ _ ?_
  refine WC_seqK fun K3 hK3 => ?_
  refine WC_seqK fun K4 hK4 => ?_
  refine WC_region ?_
  refine T0_q (v := v_p_s) rfl (yl_move rfl) ?_
  refine T0_q (v := (.int .i64 (p_s.length : Int))) rfl (yl_lenR rfl Tryd.underlying22 h_p_s rfl) ?_
  refine T0_q (v := (.int .i64 0)) rfl (yl_move rfl) ?_
  refine T0_nil ?_
  refine hK4 _ _ ?_
  obtain ⟨o95, hl96, hn97⟩ := bind_elim h
  refine WC_post (fun (ρ : Env) (wd93 : World) => .inr () = o95 ∧ Ext w wd93) ?_ ?_
  · intro K101 hK101
    refine WC_block ?_
    refine WC_loopk (fun sv ρ wd85 => ∃ (x91 : Int), x91 = sv ∧ ρ 0 = v_p_s ∧ ρ 1 = (.func (.func 122) #[] #[]) ∧ ρ 7 = (.int .i64 (p_s.length : Int)) ∧ ρ 8 = (.int .i64 x91) ∧ SlRd L wd85 v_p_s p_s ∧ Ext w wd85) hl96 ⟨0, rfl, rfl, rfl, rfl, rfl, h_p_s, e0⟩ ?_
    rintro _ ρ wd85 ⟨x91, rfl, hs88, hs89, hs90, hs92, h87, e86⟩ x98 h hx99 K100 hK100
    refine WC_seqK fun K103 hK103 => ?_
    refine WC_region ?_
    refine T0_q (v := (.bool (decide (x91 < (p_s.length : Int))))) rfl (yl_lss hs92 hs90) ?_
    refine T0_nil ?_
    refine hK103 _ _ ?_
    refine WC_seqK fun K104 hK104 => ?_
    refine WC_cond (b := (decide (x91 < (p_s.length : Int)))) rfl (fun hb105 => ?_) (fun hb105 => ?_)
    · replace h := cond_t hb105 h
      refine WC_skip ?_
      refine hK104 _ _ ?_
      refine WC_seqK fun K106 hK106 => ?_
      refine WC_block ?_
      refine WC_seqK fun K107 hK107 => ?_
      refine WC_region ?_
      refine T0_q (v := (.int .i64 x91)) rfl (yl_move hs92) ?_
      refine T0_q (v := (.int .i64 x91)) rfl (yl_assign rfl) ?_
      refine T0_nil ?_
      refine hK107 _ _ ?_
      refine WC_seqK fun K108 hK108 => ?_
      refine WC_region ?_
      refine T0_q (v := (.func (.func 122) #[] #[])) rfl (yl_move hs89) ?_
      refine T0_q (v := v_p_s) rfl (yl_move hs88) ?_
      refine T0_q (v := (.int .i64 x91)) rfl (yl_move rfl) ?_
      obtain ⟨el109, hel110, h⟩ := bind_elim h
      obtain ⟨cs111, hat112, hrd113⟩ := SlRd.at h87 hel110
      have hrd113 : cs111 = [(.int .i64 el109)] := hrd113
      subst hrd113
      refine T0_q (v := (.pointer (some (elemAddr v_p_s (x91 : Int).toNat 1)))) rfl (yl_indexAddr Tryd.underlying22 sz3 h87 hel110 rfl rfl) ?_
      refine T0_q (v := (.int .i64 el109)) rfl (yl_load sc3 rfl hat112) ?_
      obtain ⟨r115, hr116, h⟩ := bind_elim h
      refine T0_e rfl (eff_callV rfl Tryd.func122 nm122 rfl (ev1 rfl) (locate_openSeen_1_ok [] _ (LtL.nil _) el109 r115 hr116) ?_)
      rintro _ wd117 ⟨he118, rfl⟩
      have e119 := e86.trans he118
      refine T0_nil ?_
      refine hK108 _ _ ?_
      refine WC_cond (b := r115) rfl (fun hb120 => ?_) (fun hb120 => ?_)
      · replace h := cond_t hb120 h
        refine WC_seqK fun K121 hK121 => ?_
        refine WC_region ?_
        refine T0_q (v := (.int .i64 x91)) rfl (yl_move rfl) ?_
        refine T0_q (v := (.int .i64 x91)) rfl (yl_assign rfl) ?_
        refine T0_nil ?_
        refine hK121 _ _ ?_
        refine WC_ret ?_
        replace h := some_out h
        subst h
        have ho := hx99 _ rfl
        subst ho
        replace h := jn0_inl hn97
        replace h := some_out h
        subst h
        exact ⟨[(.int .i64 x91)], ⟨rfl, trivial⟩, e119, rfl⟩
      · replace h := cond_f hb120 h
        refine WC_skip ?_
        refine hK106 _ _ ?_
        refine WC_region ?_
        refine T0_q (v := (.int .i64 (w64 (x91 + 1)))) rfl (yl_add hs92 rfl) ?_
        refine T0_q (v := (.int .i64 (w64 (x91 + 1)))) rfl (yl_move rfl) ?_
        refine T0_nil ?_
        replace h := some_out h
        subst h
        refine hK100 _ _ _ rfl ?_
        exact ⟨w64 (x91 + 1), rfl, hs88, hs89, hs90, rfl, (h87.ext he118), e119⟩
    · replace h := cond_f hb105 h
      refine WC_exit ?_
      replace h := some_out h
      subst h
      have ho := hx99 _ rfl
      subst ho
      refine hK101 _ _ ?_
      exact ⟨rfl, e86⟩
  · rintro ρ wd93 ⟨rfl, e94⟩
    replace h := jn0_inr hn97
    refine hK3 _ _ ?_
    refine WC_seqK fun K122 hK122 => ?_
    refine WC_region ?_
    refine T0_q (v := (.int .i64 (-1))) rfl (yl_assign rfl) ?_
    refine T0_nil ?_
    refine hK122 _ _ ?_
    refine WC_ret ?_
    replace h := some_out h
    subst h
    exact ⟨[(.int .i64 (-1))], ⟨rfl, trivial⟩, e94, rfl⟩

noncomputable def slices_ContainsFunc_int_122_spec (p_s : (List Int)) : Option Bool :=
  (Option.bind (slices_IndexFunc_int_122_spec p_s) fun r4 =>
  some (decide (0 ≤ r4))
  )
theorem slices_ContainsFunc_int_122_ok (L : List Value) (w : World) (hL : LtL L w) (v_p_s : Value) (p_s : (List Int)) (h_p_s : SlRd L w v_p_s p_s) (r : Bool) (h : slices_ContainsFunc_int_122_spec p_s = some r) :
    CallsTo Tryd.prog 93 [v_p_s, (.func (.func 122) #[] #[])] w (fun v w' => Ext w w' ∧ (.bool r) = v) := by
  have e0 : Ext w w := Chg.refl _ _
  refine callsTo_of_WC (n := 9) (rs := [.tmp 4]) Tryd.func93 rfl rfl rfl rfl rfl ?_
  refine WC_seqK fun K2 hK2 => ?_
  refine WC_region ?_
  refine T0_q (v := (.bool false)) rfl (yl_assign rfl) ?_
  refine T0_nil ?_
  refine hK2 _ _ ?_
  refine WC_seqK fun K3 hK3 => ?_
  refine WC_region ?_
  refine T0_q (v := v_p_s) rfl (yl_move rfl) ?_
  refine T0_q (v := (.func (.func 122) #[] #[])) rfl (yl_move rfl) ?_
  obtain ⟨r4, hr5, h⟩ := bind_elim h
  refine T0_e rfl (eff_call Tryd.func97 nm97 rfl (ev2 rfl rfl) (slices_IndexFunc_int_122_ok [] _ (LtL.nil _) v_p_s p_s (h_p_s.sub (fun _ h => by cases h)) r4 hr5) ?_)
  rintro _ wd6 ⟨he7, rfl⟩
  have e8 := e0.trans he7
  refine T0_q (v := (.bool (decide (0 ≤ r4)))) rfl (yl_geq rfl rfl) ?_
  refine T0_q (v := (.bool (decide (0 ≤ r4)))) rfl (yl_assign rfl) ?_
  refine T0_nil ?_
  refine hK3 _ _ ?_
  refine WC_ret ?_
  replace h := some_out h
  subst h
  exact ⟨[(.bool (decide (0 ≤ r4)))], ⟨rfl, trivial⟩, e8, rfl⟩

noncomputable def locate_openSeen_spec (p_t : LocateTrack) (p_seen : (List Int)) : Option (locate_track × Int) :=
  (Option.bind (locate_open_spec p_t) fun r26 =>
  (Option.bind (slices_ContainsFunc_int_122_spec p_seen) fun r62 =>
  (Option.bind (locate_unless_spec (decide ((p_seen.length : Int) = p_t.Window)) 10) fun r72 =>
  (Option.bind (locate_unless_spec (!r62) 15) fun r78 =>
  (Option.bind (locate_first_spec ([r26.2, r72, r78] : List Int)) fun r93 =>
  some ((locate_track.mk (LocateTrack.mk r26.1.LocateTrack.Vanes r26.1.LocateTrack.Window r26.1.LocateTrack.Tooth r26.1.LocateTrack.PerVane r26.1.LocateTrack.First r26.1.LocateTrack.Modulus r26.1.LocateTrack.Slack r26.1.LocateTrack.Errors r26.1.LocateTrack.Round)), r93)
  )
  )
  )
  )
  )
theorem locate_openSeen_ok (L : List Value) (w : World) (hL : LtL L w) (cs_p_t : List Value) (p_t : LocateTrack) (h_p_t : Rep.rd L w cs_p_t p_t) (v_p_seen : Value) (p_seen : (List Int)) (h_p_seen : SlRd L w v_p_seen p_seen) (r : locate_track × Int) (h : locate_openSeen_spec p_t p_seen = some r) :
    CallsTo Tryd.prog 83 [(.agg cs_p_t.toArray), v_p_seen] w (fun v w' => Ext w w' ∧ ∃ (cs0 : List Value), (.tuple #[(.agg cs0.toArray), (.int .i64 r.2)]) = v ∧ Rep.rd L w' cs0 r.1) := by
  have e0 : Ext w w := Chg.refl _ _
  obtain ⟨v1, h2, rfl⟩ := h_p_t
  refine callsTo_of_WC (n := 29) (rs := [.cell 4 130, .tmp 5]) Tryd.func83 rfl rfl rfl rfl rfl ?_
  refine WC_seqK fun K5 hK5 => ?_
  refine WC_region ?_
  refine T0_e rfl (eff_boxC (cs := [v1, (.int .i64 p_t.Window), (.int .i64 p_t.Tooth), (.int .i64 p_t.PerVane), (.int .i64 p_t.First), (.int .i64 p_t.Modulus), (.int .i64 p_t.Slack), (.int .i64 p_t.Errors), (.bool p_t.Round)]) rfl rfl ?_)
  intro b6 wd7 hb8 he9 hB10
  have hbf11 := bfresh e0 hb8
  have e12 := e0.trans he9
  refine T0_e rfl (eff_allocZ zi130 ?_)
  intro b14 wd15 hb16 he17 hB18
  have hn19 : b14 ≠ b6 := box_ne hB10 hb16
  have hbf20 := bfresh e12 hb16
  have h21 := (h2.ext he9).step (add_box he17 hb16)
  have h22 := (h_p_seen.ext he9).step (add_box he17 hb16)
  have e23 := e12.trans he17
  refine T0_q (v := (.int .i64 0)) rfl (yl_assign rfl) ?_
  refine T0_nil ?_
  refine hK5 _ _ ?_
  refine WC_seqK fun K25 hK25 => ?_
  refine WC_region ?_
  refine T0_q (v := (.agg (List.toArray [v1, (.int .i64 p_t.Window), (.int .i64 p_t.Tooth), (.int .i64 p_t.PerVane), (.int .i64 p_t.First), (.int .i64 p_t.Modulus), (.int .i64 p_t.Slack), (.int .i64 p_t.Errors), (.bool p_t.Round)]))) rfl (yl_loadA (cs := [v1, (.int .i64 p_t.Window), (.int .i64 p_t.Tooth), (.int .i64 p_t.PerVane), (.int .i64 p_t.First), (.int .i64 p_t.Modulus), (.int .i64 p_t.Slack), (.int .i64 p_t.Errors), (.bool p_t.Round)]) ag24 rfl (Box.at (hB10.ext he17))) ?_
  obtain ⟨r26, hr27, h⟩ := bind_elim h
  refine T0_e rfl (eff_call Tryd.func103 nm103 rfl (ev1 rfl) (locate_open_ok ((.pointer (some ⟨b14, 0, none⟩)) :: L) _ (ltl_box (hL.chg e23) hB18) [v1, (.int .i64 p_t.Window), (.int .i64 p_t.Tooth), (.int .i64 p_t.PerVane), (.int .i64 p_t.First), (.int .i64 p_t.Modulus), (.int .i64 p_t.Slack), (.int .i64 p_t.Errors), (.bool p_t.Round)] p_t ⟨v1, h21, rfl⟩ r26 hr27) ?_)
  rintro _ wd28 ⟨he29, cs32, rfl, hrd33⟩
  have e34 := he17.trans he29
  have e35 := e23.trans he29
  obtain ⟨v30, h31, rfl⟩ := hrd33
  refine T0_q (v := (.tuple #[(.agg (List.toArray [v30, (.int .i64 r26.1.LocateTrack.Window), (.int .i64 r26.1.LocateTrack.Tooth), (.int .i64 r26.1.LocateTrack.PerVane), (.int .i64 r26.1.LocateTrack.First), (.int .i64 r26.1.LocateTrack.Modulus), (.int .i64 r26.1.LocateTrack.Slack), (.int .i64 r26.1.LocateTrack.Errors), (.bool r26.1.LocateTrack.Round)])), (.int .i64 r26.2)])) rfl (yl_move rfl) ?_
  refine T0_q (v := (.agg (List.toArray [v30, (.int .i64 r26.1.LocateTrack.Window), (.int .i64 r26.1.LocateTrack.Tooth), (.int .i64 r26.1.LocateTrack.PerVane), (.int .i64 r26.1.LocateTrack.First), (.int .i64 r26.1.LocateTrack.Modulus), (.int .i64 r26.1.LocateTrack.Slack), (.int .i64 r26.1.LocateTrack.Errors), (.bool r26.1.LocateTrack.Round)]))) rfl (yl_extract rfl rfl) ?_
  refine T0_q (v := (.int .i64 r26.2)) rfl (yl_extract rfl rfl) ?_
  refine T0_e rfl (eff_allocZ zi130 ?_)
  intro b37 wd38 hb39 he40 hB41
  have hn42 : b37 ≠ b6 := box_ne (hB10.ext e34) hb39
  have hn43 : b37 ≠ b14 := box_ne (hB18.ext he29) hb39
  have hbf44 := bfresh e35 hb39
  have h45 := (h21.ext he29).step (add_box he40 hb39)
  have h46 := (h22.ext he29).step (add_box he40 hb39)
  have h47 := h31.step (add_box he40 hb39)
  have e48 := he29.trans he40
  have e49 := e34.trans he40
  have e50 := e35.trans he40
  refine T0_e rfl (eff_storeC (vs := [v30, (.int .i64 r26.1.LocateTrack.Window), (.int .i64 r26.1.LocateTrack.Tooth), (.int .i64 r26.1.LocateTrack.PerVane), (.int .i64 r26.1.LocateTrack.First), (.int .i64 r26.1.LocateTrack.Modulus), (.int .i64 r26.1.LocateTrack.Slack), (.int .i64 r26.1.LocateTrack.Errors), (.bool r26.1.LocateTrack.Round)]) (cs' := [v30, (.int .i64 r26.1.LocateTrack.Window), (.int .i64 r26.1.LocateTrack.Tooth), (.int .i64 r26.1.LocateTrack.PerVane), (.int .i64 r26.1.LocateTrack.First), (.int .i64 r26.1.LocateTrack.Modulus), (.int .i64 r26.1.LocateTrack.Slack), (.int .i64 r26.1.LocateTrack.Errors), (.bool r26.1.LocateTrack.Round)]) sz130 rfl rfl rfl rfl hB41 rfl (oc_cons h47.one1 (oc_cons rfl (oc_cons rfl (oc_cons rfl (oc_cons rfl (oc_cons rfl (oc_cons rfl (oc_cons rfl (oc_cons rfl oc_nil))))))))) rfl ?_)
  intro wd52 hc53 hB54
  have h55 := h45.step (Stepp.chg_mem hc53 mem0)
  have h56 := h46.step (Stepp.chg_mem hc53 mem0)
  have h57 := (hB10.ext e49).chg hc53 (avoidb hn42)
  have h58 := (hB18.ext e48).chg hc53 (avoidb hn43)
  have h59 := h47.step (Stepp.chg_mem hc53 mem0)
  have e60 := chg_box e50 hc53 hbf44
  refine T0_q (v := (.int .i64 r26.2)) rfl (yl_assign rfl) ?_
  refine T0_nil ?_
  refine hK25 _ _ ?_
  refine WC_seqK fun K61 hK61 => ?_
  refine WC_region ?_
  refine T0_q (v := v_p_seen) rfl (yl_move rfl) ?_
  obtain ⟨r62, hr63, h⟩ := bind_elim h
  refine T0_e rfl (eff_call Tryd.func93 nm93 rfl (ev2 rfl rfl) (slices_ContainsFunc_int_122_ok [] _ (LtL.nil _) v_p_seen p_seen (h56.sub (fun _ h => by cases h)) r62 hr63) ?_)
  rintro _ wd64 ⟨he65, rfl⟩
  have e66 := e60.trans he65
  refine T0_q (v := (.bool r62)) rfl (yl_assign rfl) ?_
  refine T0_nil ?_
  refine hK61 _ _ ?_
  refine WC_seqK fun K67 hK67 => ?_
  refine WC_plan mixed (.p 1 (.p 2 (.p 3 (.p 4 (.p 8 (.p 9 (.q 0 (.q 5 (.p 6 (.e 7 (.e 10 (.e 11 (.e 12 (.b 13 (.p 14 .done))))))))))))))) (by kernel_rfl) ?_
  intro wd68 he69
  have e70 := he65.trans he69
  have e71 := e66.trans he69
  refine TP_p (v := (.int .i64 r26.2)) rfl rfl (fun w' => (yl_move rfl)) ?_
  refine TP_p (v := v_p_seen) rfl rfl (fun w' => (yl_move rfl)) ?_
  refine TP_p (v := (.int .i64 (p_seen.length : Int))) rfl rfl (fun w' => (yl_lenR rfl Tryd.underlying22 h56 rfl)) ?_
  refine TP_p (v := (.pointer (some ⟨b6, 1, none⟩))) rfl rfl (fun w' => (yl_fa 1 Tryd.underlying24 rfl rfl ⟨0, sz3⟩ rfl rfl)) ?_
  refine TP_p (v := (.bool r62)) rfl rfl (fun w' => (yl_move rfl)) ?_
  refine TP_p (v := (.bool (!r62))) rfl rfl (fun w' => (yl_not rfl)) ?_
  refine TP_q (v := (.agg (List.toArray [v30, (.int .i64 r26.1.LocateTrack.Window), (.int .i64 r26.1.LocateTrack.Tooth), (.int .i64 r26.1.LocateTrack.PerVane), (.int .i64 r26.1.LocateTrack.First), (.int .i64 r26.1.LocateTrack.Modulus), (.int .i64 r26.1.LocateTrack.Slack), (.int .i64 r26.1.LocateTrack.Errors), (.bool r26.1.LocateTrack.Round)]))) rfl rfl (fun w' hS => (yl_loadA (cs := [v30, (.int .i64 r26.1.LocateTrack.Window), (.int .i64 r26.1.LocateTrack.Tooth), (.int .i64 r26.1.LocateTrack.PerVane), (.int .i64 r26.1.LocateTrack.First), (.int .i64 r26.1.LocateTrack.Modulus), (.int .i64 r26.1.LocateTrack.Slack), (.int .i64 r26.1.LocateTrack.Errors), (.bool r26.1.LocateTrack.Round)]) ag130 rfl (Box.at (hB54.ext ((e70).trans hS))))) ?_
  refine TP_q (v := (.int .i64 p_t.Window)) rfl rfl (fun w' hS => (yl_load sc3 rfl (At.drop (Box.at (h57.ext ((e70).trans hS))) 1))) ?_
  refine TP_p (v := (.bool (decide ((p_seen.length : Int) = p_t.Window)))) rfl rfl (fun w' => (yl_eql rfl rfl)) ?_
  obtain ⟨r72, hr73, h⟩ := bind_elim h
  refine TP_e rfl rfl (eff_call Tryd.func85 nm85 rfl (ev2 rfl rfl) (locate_unless_ok [] _ (LtL.nil _) (decide ((p_seen.length : Int) = p_t.Window)) 10 r72 hr73) ?_)
  rintro _ wd74 ⟨he75, rfl⟩
  have e76 := e70.trans he75
  have e77 := e71.trans he75
  refine ⟨he75, ?_⟩
  obtain ⟨r78, hr79, h⟩ := bind_elim h
  refine TP_e rfl rfl (eff_call Tryd.func85 nm85 rfl (ev2 rfl rfl) (locate_unless_ok [] _ (LtL.nil _) (!r62) 15 r78 hr79) ?_)
  rintro _ wd80 ⟨he81, rfl⟩
  have e82 := e76.trans he81
  have e83 := he75.trans he81
  have e84 := e77.trans he81
  refine ⟨e83, ?_⟩
  refine TP_e rfl rfl (eff_buildTC (xs := ([r26.2, r72, r78] : List Int)) (cells := [(.int .i64 r26.2), (.int .i64 r72), (.int .i64 r78)]) Tryd.underlying164 ei30 rfl (pc_cons rfl rfl (pc_cons rfl rfl (pc_cons rfl rfl pc_nil))) rfl (Elems.cons (cs := [(.int .i64 r26.2)]) rfl (Elems.cons (cs := [(.int .i64 r72)]) rfl (Elems.cons (cs := [(.int .i64 r78)]) rfl Elems.nil))) rfl (ltl_box (ltl_box (hL.chg e84) (h58.ext e82)) (hB54.ext e82)) ?_)
  intro b88 wd85 he86 h87
  have e89 := e82.trans he86
  have e90 := e83.trans he86
  have e91 := e84.trans he86
  refine ⟨e90, ?_⟩
  obtain ⟨r93, hr94, h⟩ := bind_elim h
  refine TP_e rfl rfl (eff_call Tryd.func84 nm84 rfl (ev1 rfl) (locate_first_ok [] _ (LtL.nil _) (.slice (some ⟨b88, 0, none⟩) 3 3) ([r26.2, r72, r78] : List Int) (h87.sub (fun _ h => by cases h)) r93 hr94) ?_)
  rintro _ wd95 ⟨he96, rfl⟩
  have e97 := e89.trans he96
  have e98 := e90.trans he96
  have e99 := e91.trans he96
  refine ⟨e98, ?_⟩
  refine TP_b rfl rfl (eff_storeC (vs := [v30, (.int .i64 r26.1.LocateTrack.Window), (.int .i64 r26.1.LocateTrack.Tooth), (.int .i64 r26.1.LocateTrack.PerVane), (.int .i64 r26.1.LocateTrack.First), (.int .i64 r26.1.LocateTrack.Modulus), (.int .i64 r26.1.LocateTrack.Slack), (.int .i64 r26.1.LocateTrack.Errors), (.bool r26.1.LocateTrack.Round)]) (cs' := [v30, (.int .i64 r26.1.LocateTrack.Window), (.int .i64 r26.1.LocateTrack.Tooth), (.int .i64 r26.1.LocateTrack.PerVane), (.int .i64 r26.1.LocateTrack.First), (.int .i64 r26.1.LocateTrack.Modulus), (.int .i64 r26.1.LocateTrack.Slack), (.int .i64 r26.1.LocateTrack.Errors), (.bool r26.1.LocateTrack.Round)]) sz130 rfl rfl rfl rfl (h58.ext e97) rfl (oc_cons h59.one1 (oc_cons rfl (oc_cons rfl (oc_cons rfl (oc_cons rfl (oc_cons rfl (oc_cons rfl (oc_cons rfl (oc_cons rfl oc_nil))))))))) rfl ?_)
  intro wd100 hc101 hB102
  have h103 := (h55.ext e97).step (Stepp.chg_mem hc101 (memS mem0))
  have h104 := (h56.ext e97).step (Stepp.chg_mem hc101 (memS mem0))
  have h105 := (h57.ext e97).chg hc101 (avoidb hn19)
  have h106 := (h59.ext e97).step (Stepp.chg_mem hc101 (memS mem0))
  have h107 := (hB54.ext e97).chg hc101 (avoidb hn43.symm)
  have h108 := (h87.ext he96).step (Stepp.chg_mem hc101 (memS mem0))
  have e109 := chg_box e99 hc101 hbf20
  refine TP_p (v := (.int .i64 r93)) rfl rfl (fun w' => (yl_assign rfl)) ?_
  refine TP_done ?_
  refine hK67 _ _ ?_
  refine WC_ret ?_
  replace h := some_out h
  subst h
  exact ⟨[(.agg (List.toArray [v30, (.int .i64 r26.1.LocateTrack.Window), (.int .i64 r26.1.LocateTrack.Tooth), (.int .i64 r26.1.LocateTrack.PerVane), (.int .i64 r26.1.LocateTrack.First), (.int .i64 r26.1.LocateTrack.Modulus), (.int .i64 r26.1.LocateTrack.Slack), (.int .i64 r26.1.LocateTrack.Errors), (.bool r26.1.LocateTrack.Round)])), (.int .i64 r93)], ⟨⟨_, rfl, run_loadVarA (cs := [v30, (.int .i64 r26.1.LocateTrack.Window), (.int .i64 r26.1.LocateTrack.Tooth), (.int .i64 r26.1.LocateTrack.PerVane), (.int .i64 r26.1.LocateTrack.First), (.int .i64 r26.1.LocateTrack.Modulus), (.int .i64 r26.1.LocateTrack.Slack), (.int .i64 r26.1.LocateTrack.Errors), (.bool r26.1.LocateTrack.Round)]) ag130 (Box.at hB102)⟩, rfl, trivial⟩, e109, [v30, (.int .i64 r26.1.LocateTrack.Window), (.int .i64 r26.1.LocateTrack.Tooth), (.int .i64 r26.1.LocateTrack.PerVane), (.int .i64 r26.1.LocateTrack.First), (.int .i64 r26.1.LocateTrack.Modulus), (.int .i64 r26.1.LocateTrack.Slack), (.int .i64 r26.1.LocateTrack.Errors), (.bool r26.1.LocateTrack.Round)], rfl, ⟨v30, (h106.sub (sub_skip (sub_skip (sub_refl _)))), rfl⟩⟩

end Go.Gw
