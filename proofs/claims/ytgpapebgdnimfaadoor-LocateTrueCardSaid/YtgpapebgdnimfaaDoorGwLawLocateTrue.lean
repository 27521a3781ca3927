/- What functions come to, printed by a program of this work. No condition. -/
import Derived.Test.YtgpapebgdnimfaaDoorGwFnC
import Derived.Test.YtgpapebgdnimfaaDoorGwFxFol
set_option maxRecDepth 4096
set_option maxHeartbeats 1000000
set_option linter.unusedVariables false
namespace Go.Gw
open Go Go.Proofs
attribute [local irreducible] T0 TS TT TP Eff Stp WC Quiet gd
noncomputable def law04_LocateTrue_s0 (p_Listappend : (List Range)) (p_String : Int) : (Int × Int) → Option ((Int × Int) ⊕ (Int)) := fun (x155, x157) =>
  (bif (decide (x157 < (p_Listappend.length : Int))) then (
    (Option.bind (idx p_Listappend x157) fun el189 =>
    (Option.bind (idx p_Listappend x157) fun el195 =>
    (Option.bind (base_Within_spec p_String el189.Lo el195.Hi) fun r201 =>
    (bif (!r201) then (
      some (.inl (w64 (x155 + 1), w64 (x157 + 1)))
    ) else (
      some (.inl (x155, w64 (x157 + 1)))
    ))
    )
    )
    )
  ) else (
    some (.inr x155)
  ))
noncomputable def law04_LocateTrue_s1 (p_String : Int) (r1848 : ((List Range) × Int)) : (Bool × Int) → Option ((Bool × Int) ⊕ (Bool)) := fun (x1992, x1994) =>
  (bif (decide (x1994 < (r1848.1.length : Int))) then (
    (Option.bind ((bif (!x1992) then idx r1848.1 x1994 else some default)) fun el2028 =>
    (Option.bind ((bif (!x1992) then idx r1848.1 x1994 else some default)) fun el2033 =>
    (Option.bind (bif (!x1992) then base_Within_spec p_String el2028.Lo el2033.Hi else some default) fun r2038 =>
    some (.inl ((x1992 || r2038), w64 (x1994 + 1)))
    )
    )
    )
  ) else (
    some (.inr x1992)
  ))
noncomputable def law04_LocateTrue_s2 (p_Listappend : (List Range)) (p_String : Int) (x168 : Int) : (Int) → Option ((Int) ⊕ ((Bool ⊕ (Unit)) ⊕ (Unit))) := fun x1816 =>
  (bif (decide (x1816 < (if w64 (x168 + 2) < (p_Listappend.length : Int) then w64 (x168 + 2) else (p_Listappend.length : Int)))) then (
    (Option.bind (base_CopyRanges_spec p_Listappend) fun r1840 =>
    (Option.bind (locate_Fused_spec r1840 x1816) fun r1848 =>
    (Option.bind (loop (law04_LocateTrue_s1 p_String r1848) (false, 0)) fun (x2008 : Bool) =>
    (bif ((!decide (r1848.2 = 0)) || (!x2008)) then (
      some (.inr (.inl (.inl false)))
    ) else (
      some (.inl (w64 (x1816 + 1)))
    ))
    )
    )
    )
  ) else (
    some (.inr (.inr ()))
  ))
noncomputable def law04_LocateTrue_s3 (p_ListappendStringlplacexlplacexwrongikrefoundiatnowfixesisrne : guidewaylaw04_Journey) : (Int × Int × (List LocateFix) × Int) → Option ((Int × Int × (List LocateFix) × Int) ⊕ (Bool ⊕ (Int × (List LocateFix)))) := fun (x2410, x2412, x2416, x2421) =>
  (bif (decide (x2421 < (p_ListappendStringlplacexlplacexwrongikrefoundiatnowfixesisrne.Steps.length : Int))) then (
    (Option.bind (idx p_ListappendStringlplacexlplacexwrongikrefoundiatnowfixesisrne.Steps x2421) fun el2456 =>
    (Option.bind (base_Within_spec el2456.Time 0 10) fun r2483 =>
    (Option.bind (bif (!(!r2483)) then base_Within_spec el2456.Speed p_ListappendStringlplacexlplacexwrongikrefoundiatnowfixesisrne.Speed.Lo p_ListappendStringlplacexlplacexwrongikrefoundiatnowfixesisrne.Speed.Hi else some default) fun r2488 =>
    (Option.bind (bif (!((!r2483) || (!r2488))) then base_Within_spec el2456.Before 0 100000 else some default) fun r2494 =>
    (Option.bind (bif (!(((!r2483) || (!r2488)) || (!r2494))) then base_Within_spec el2456.Behind 0 100000 else some default) fun r2500 =>
    (bif ((((!r2483) || (!r2488)) || (!r2494)) || (!r2500)) then (
      some (.inr (.inl true))
    ) else (
      (Option.bind (app x2416 ([(LocateFix.mk (w64 (x2410 + (w64 (1000 * el2456.Time)))) (Range.mk (w64 ((w64 (x2412 + (w64 (el2456.Speed * el2456.Time)))) - el2456.Before)) (w64 ((w64 (x2412 + (w64 (el2456.Speed * el2456.Time)))) + el2456.Behind))))] : List LocateFix)) fun zs2523 =>
      some (.inl (w64 (x2410 + (w64 (1000 * el2456.Time))), w64 (x2412 + (w64 (el2456.Speed * el2456.Time))), zs2523, w64 (x2421 + 1)))
      )
    ))
    )
    )
    )
    )
    )
  ) else (
    some (.inr (.inr (x2412, x2416)))
  ))
noncomputable def law04_LocateTrue_spec (p_Listappend : (List Range)) (p_String : Int) (p_ListappendStringlplacexlplacexwrongikrefoundiatnowfixesisrne : guidewaylaw04_Journey) : Option Bool :=
  (Option.bind (law04_awake_spec) fun r16 =>
  (bif (!r16) then (
    some false
  ) else (
    (bif ((decide (12 < (p_Listappend.length : Int))) || (decide (20 < (p_ListappendStringlplacexlplacexwrongikrefoundiatnowfixesisrne.Steps.length : Int)))) then (
      some true
    ) else (
      (Option.bind (loop (law04_LocateTrue_s0 p_Listappend p_String) (0, 0)) fun (x168 : Int) =>
      (Option.bind (ref04_FusedErr_spec p_Listappend x168) fun r210 =>
      (Option.bind (α := (Bool ⊕ (Unit))) (
        (bif (decide (r210 = 0)) then (
          (Option.bind (loop (law04_LocateTrue_s2 p_Listappend p_String x168) x168) fun o1827 => jn0 o1827 fun (_ : Unit) =>
          some (.inr ())
          )
        ) else (
          some (.inr ())
        ))
      ) fun o1132 => jn0 o1132 fun (_ : Unit) =>
      (Option.bind (ref04_SpeedErr_spec p_ListappendStringlplacexlplacexwrongikrefoundiatnowfixesisrne.Speed) fun r2049 =>
      (Option.bind (bif (!(!decide (r2049 = 0))) then base_Within_spec p_ListappendStringlplacexlplacexwrongikrefoundiatnowfixesisrne.At 0 1000000 else some default) fun r2054 =>
      (Option.bind (bif (!((!decide (r2049 = 0)) || (!r2054))) then base_Within_spec p_ListappendStringlplacexlplacexwrongikrefoundiatnowfixesisrne.Place 100000000 900000000 else some default) fun r2060 =>
      (bif (((!decide (r2049 = 0)) || (!r2054)) || (!r2060)) then (
        some true
      ) else (
        (Option.bind (loop (law04_LocateTrue_s3 p_ListappendStringlplacexlplacexwrongikrefoundiatnowfixesisrne) (p_ListappendStringlplacexlplacexwrongikrefoundiatnowfixesisrne.At, p_ListappendStringlplacexlplacexwrongikrefoundiatnowfixesisrne.Place, ([(LocateFix.mk p_ListappendStringlplacexlplacexwrongikrefoundiatnowfixesisrne.At (Range.mk p_ListappendStringlplacexlplacexwrongikrefoundiatnowfixesisrne.Place p_ListappendStringlplacexlplacexwrongikrefoundiatnowfixesisrne.Place))] : List LocateFix), 0)) fun o2443 => jn0 o2443 fun ((x2430, x2434) : Int × (List LocateFix)) =>
        (Option.bind (locate_Follow_spec p_ListappendStringlplacexlplacexwrongikrefoundiatnowfixesisrne.Speed x2434) fun r2541 =>
        (Option.bind (bif ((decide (r2541.2.2 = 0)) && (decide (r2541.2.1 = 0))) then base_Within_spec x2430 r2541.1.Lo r2541.1.Hi else some default) fun r2569 =>
        some (((decide (r2541.2.2 = 0)) && (decide (r2541.2.1 = 0))) && r2569)
        )
        )
        )
      ))
      )
      )
      )
      )
      )
      )
    ))
  ))
  )
theorem law04_LocateTrue_ok (L : List Value) (w : World) (hL : LtL L w) (hg0 : At w ⟨0, 0, none⟩ [.int .i64 0, .int .i64 1, .int .i64 3, .int .i64 2]) (v_p_Listappend : Value) (p_Listappend : (List Range)) (h_p_Listappend : SlRd L w v_p_Listappend p_Listappend) (p_String : Int) (cs_p_ListappendStringlplacexlplacexwrongikrefoundiatnowfixesisrne : List Value) (p_ListappendStringlplacexlplacexwrongikrefoundiatnowfixesisrne : guidewaylaw04_Journey) (h_p_ListappendStringlplacexlplacexwrongikrefoundiatnowfixesisrne : Rep.rd L w cs_p_ListappendStringlplacexlplacexwrongikrefoundiatnowfixesisrne p_ListappendStringlplacexlplacexwrongikrefoundiatnowfixesisrne) (r : Bool) (h : law04_LocateTrue_spec p_Listappend p_String p_ListappendStringlplacexlplacexwrongikrefoundiatnowfixesisrne = some r) :
    CallsTo Tryd.prog 13 [v_p_Listappend, (.int .i64 p_String), (.agg cs_p_ListappendStringlplacexlplacexwrongikrefoundiatnowfixesisrne.toArray)] w (fun v w' => Ext w w' ∧ (.bool r) = v) := by
  have e0 : Ext w w := Chg.refl _ _
  obtain ⟨v2, h3, rfl⟩ := h_p_ListappendStringlplacexlplacexwrongikrefoundiatnowfixesisrne
  refine callsTo_of_WC (n := 216) (rs := [.tmp 6]) Tryd.func13 rfl rfl rfl rfl rfl ?_
  refine WC_seqK fun K5 hK5 => ?_
  refine WC_region ?_
  refine T0_e rfl (eff_boxC (cs := [(.int .i64 p_ListappendStringlplacexlplacexwrongikrefoundiatnowfixesisrne.Speed.Lo), (.int .i64 p_ListappendStringlplacexlplacexwrongikrefoundiatnowfixesisrne.Speed.Hi), (.int .i64 p_ListappendStringlplacexlplacexwrongikrefoundiatnowfixesisrne.At), (.int .i64 p_ListappendStringlplacexlplacexwrongikrefoundiatnowfixesisrne.Place), v2]) rfl rfl ?_)
  intro b6 wd7 hb8 he9 hB10
  have hbf11 := bfresh e0 hb8
  have e12 := e0.trans he9
  refine T0_q (v := (.bool false)) rfl (yl_assign rfl) ?_
  refine T0_nil ?_
  refine hK5 _ _ ?_
  refine WC_seqK fun K14 hK14 => ?_
  refine WC_seqK fun K15 hK15 => ?_
  refine WC_region ?_
  obtain ⟨r16, hr17, h⟩ := bind_elim h
  refine T0_e rfl (eff_call Tryd.func18 nm18 rfl ev0 (law04_awake_ok [] _ (LtL.nil _) (hg0.ext e12)  r16 hr17) ?_)
  rintro _ wd18 ⟨he19, rfl⟩
  have e20 := he9.trans he19
  have e21 := e12.trans he19
  refine T0_q (v := (.bool (!r16))) rfl (yl_not rfl) ?_
  refine T0_nil ?_
  refine hK15 _ _ ?_
  refine WC_cond (b := (!r16)) rfl (fun hb22 => ?_) (fun hb22 => ?_)
  · replace h := cond_t hb22 h
    refine WC_seqK fun K23 hK23 => ?_
    refine WC_region ?_
    refine T0_q (v := (.bool false)) rfl (yl_assign rfl) ?_
    refine T0_nil ?_
    refine hK23 _ _ ?_
    refine WC_ret ?_
    replace h := some_out h
    subst h
    exact ⟨[(.bool false)], ⟨rfl, trivial⟩, e21, rfl⟩
  · replace h := cond_f hb22 h
    refine WC_skip ?_
    refine hK14 _ _ ?_
    refine WC_seqK fun K24 hK24 => ?_
    refine WC_seqK fun K25 hK25 => ?_
    refine WC_region ?_
    refine T0_q (v := v_p_Listappend) rfl (yl_move rfl) ?_
    refine T0_q (v := (.int .i64 (p_Listappend.length : Int))) rfl (yl_lenR rfl Tryd.underlying29 h_p_Listappend rfl) ?_
    refine T0_q (v := (.bool (decide (12 < (p_Listappend.length : Int))))) rfl (yl_gtr rfl rfl) ?_
    refine T0_q (v := (.bool (decide (12 < (p_Listappend.length : Int))))) rfl (yl_move rfl) ?_
    refine T0_g (v := (.pointer (some ⟨b6, 4, none⟩))) (!(decide (12 < (p_Listappend.length : Int)))) (wanted_f rfl rfl rfl rfl) (fun hg => (yl_fa 4 Tryd.underlying108 rfl rfl ⟨0, sz106⟩ rfl rfl)) ?_
    refine T0_g (v := v2) (!(decide (12 < (p_Listappend.length : Int)))) (wanted_f rfl rfl rfl rfl) (fun hg => (yl_load sc106 (gd_true hg) (At.drop (Box.at (hB10.ext he19)) 4))) ?_
    refine T0_g (v := (.int .i64 (p_ListappendStringlplacexlplacexwrongikrefoundiatnowfixesisrne.Steps.length : Int))) (!(decide (12 < (p_Listappend.length : Int)))) (wanted_f rfl rfl rfl rfl) (fun hg => (yl_lenR rfl Tryd.underlying106 h3 (gd_true hg))) ?_
    refine T0_g (v := (.bool (decide (20 < (p_ListappendStringlplacexlplacexwrongikrefoundiatnowfixesisrne.Steps.length : Int))))) (!(decide (12 < (p_Listappend.length : Int)))) (wanted_f rfl rfl rfl rfl) (fun hg => (yl_gtr (gd_true hg) rfl)) ?_
    refine T0_q (v := (.bool ((decide (12 < (p_Listappend.length : Int))) || (decide (20 < (p_ListappendStringlplacexlplacexwrongikrefoundiatnowfixesisrne.Steps.length : Int)))))) rfl (yl_or rfl rfl (fun hb => (gd_true (not_t hb)))) ?_
    refine T0_nil ?_
    refine hK25 _ _ ?_
    refine WC_cond (b := ((decide (12 < (p_Listappend.length : Int))) || (decide (20 < (p_ListappendStringlplacexlplacexwrongikrefoundiatnowfixesisrne.Steps.length : Int))))) rfl (fun hb26 => ?_) (fun hb26 => ?_)
    · replace h := cond_t hb26 h
      refine WC_seqK fun K27 hK27 => ?_
      refine WC_region ?_
      refine T0_q (v := (.bool true)) rfl (yl_assign rfl) ?_
      refine T0_nil ?_
      refine hK27 _ _ ?_
      refine WC_ret ?_
      replace h := some_out h
      subst h
      exact ⟨[(.bool true)], ⟨rfl, trivial⟩, e21, rfl⟩
    · replace h := cond_f hb26 h
      refine WC_skip ?_
      refine hK24 _ _ ?_
      refine WC_seqK fun K28 hK28 => ?_
      refine WC_region ?_
      refine T0_q (v := (.int .i64 0)) rfl (yl_assign rfl) ?_
      refine T0_nil ?_
      refine hK28 _ _ ?_
      refine WC_seqK fun K29 hK29 => ?_
      refine WC_seqK fun K30 hK30 => ?_
      refine WC_region ?_
      refine T0_q (v := (.int .i64 0)) rfl (yl_assign rfl) ?_
      refine T0_nil ?_
      refine hK30 _ _ ?_
      obtain ⟨o173, hl174, hn175⟩ := bind_elim h
      refine WC_post (fun (ρ : Env) (wd162 : World) => ∃ (x168 : Int), x168 = o173 ∧ ρ 0 = v_p_Listappend ∧ ρ 1 = (.int .i64 p_String) ∧ ρ 5 = (.pointer (some ⟨b6, 0, none⟩)) ∧ ρ 7 = (.int .i64 x168) ∧ SlRd L wd162 v_p_Listappend p_Listappend ∧ SlRd L wd162 v2 p_ListappendStringlplacexlplacexwrongikrefoundiatnowfixesisrne.Steps ∧ Box wd162 b6 [(.int .i64 p_ListappendStringlplacexlplacexwrongikrefoundiatnowfixesisrne.Speed.Lo), (.int .i64 p_ListappendStringlplacexlplacexwrongikrefoundiatnowfixesisrne.Speed.Hi), (.int .i64 p_ListappendStringlplacexlplacexwrongikrefoundiatnowfixesisrne.At), (.int .i64 p_ListappendStringlplacexlplacexwrongikrefoundiatnowfixesisrne.Place), v2] 108 ∧ Ext w wd162) ?_ ?_
      · intro K179 hK179
        refine WC_block ?_
        refine WC_loopk (fun sv ρ wd149 => ∃ (x155 : Int) (x157 : Int), (x155, x157) = sv ∧ ρ 0 = v_p_Listappend ∧ ρ 1 = (.int .i64 p_String) ∧ ρ 5 = (.pointer (some ⟨b6, 0, none⟩)) ∧ ρ 7 = (.int .i64 x155) ∧ ρ 8 = (.int .i64 x157) ∧ SlRd L wd149 v_p_Listappend p_Listappend ∧ SlRd L wd149 v2 p_ListappendStringlplacexlplacexwrongikrefoundiatnowfixesisrne.Steps ∧ Box wd149 b6 [(.int .i64 p_ListappendStringlplacexlplacexwrongikrefoundiatnowfixesisrne.Speed.Lo), (.int .i64 p_ListappendStringlplacexlplacexwrongikrefoundiatnowfixesisrne.Speed.Hi), (.int .i64 p_ListappendStringlplacexlplacexwrongikrefoundiatnowfixesisrne.At), (.int .i64 p_ListappendStringlplacexlplacexwrongikrefoundiatnowfixesisrne.Place), v2] 108 ∧ Ext w wd149) hl174 ⟨0, 0, rfl, rfl, rfl, rfl, rfl, rfl, (h_p_Listappend.ext e20), (h3.ext e20), (hB10.ext he19), e21⟩ ?_
        rintro _ ρ wd149 ⟨x155, x157, rfl, hs152, hs153, hs154, hs156, hs158, h151, h159, hB161, e150⟩ x176 h hx177 K178 hK178
        refine WC_seqK fun K181 hK181 => ?_
        refine WC_seqK fun K182 hK182 => ?_
        refine WC_region ?_
        refine T0_q (v := (.int .i64 x157)) rfl (yl_move hs158) ?_
        refine T0_q (v := v_p_Listappend) rfl (yl_move hs152) ?_
        refine T0_q (v := (.int .i64 (p_Listappend.length : Int))) rfl (yl_lenR rfl Tryd.underlying29 h151 rfl) ?_
        refine T0_q (v := (.bool (decide (x157 < (p_Listappend.length : Int))))) rfl (yl_lss rfl rfl) ?_
        refine T0_nil ?_
        refine hK182 _ _ ?_
        refine WC_cond (b := (decide (x157 < (p_Listappend.length : Int)))) rfl (fun hb183 => ?_) (fun hb183 => ?_)
        · replace h := cond_t hb183 h
          refine WC_skip ?_
          refine hK181 _ _ ?_
          refine WC_seqK fun K184 hK184 => ?_
          refine WC_block ?_
          refine WC_seqK fun K185 hK185 => ?_
          refine WC_plan mixed (.p 0 (.p 1 (.p 2 (.p 3 (.p 4 (.p 6 (.p 7 (.p 8 (.p 9 (.q 5 (.q 10 (.e 11 (.p 12 .done))))))))))))) (by kernel_rfl) ?_
          intro wd186 he187
          have e188 := e150.trans he187
          refine TP_p (v := (.int .i64 p_String)) rfl rfl (fun w' => (yl_move hs153)) ?_
          refine TP_p (v := v_p_Listappend) rfl rfl (fun w' => (yl_move hs152)) ?_
          refine TP_p (v := (.int .i64 x157)) rfl rfl (fun w' => (yl_move hs158)) ?_
          obtain ⟨el189, hel190, h⟩ := bind_elim h
          obtain ⟨cs191, hat192, hrd193⟩ := SlRd.at h151 hel190
          have hrd193 : cs191 = [(.int .i64 el189.Lo), (.int .i64 el189.Hi)] := hrd193
          subst hrd193
          refine TP_p (v := (.pointer (some (elemAddr v_p_Listappend (x157 : Int).toNat 2)))) rfl rfl (fun w' => (yl_indexAddr Tryd.underlying29 sz36 h151 hel190 rfl rfl)) ?_
          refine TP_p (v := (.pointer (some (elemAddr v_p_Listappend (x157 : Int).toNat 2)))) rfl rfl (fun w' => (yl_fa 0 Tryd.underlying36 rfl rfl ⟨0, sz3⟩ rfl rfl)) ?_
          refine TP_p (v := v_p_Listappend) rfl rfl (fun w' => (yl_move hs152)) ?_
          refine TP_p (v := (.int .i64 x157)) rfl rfl (fun w' => (yl_move hs158)) ?_
          obtain ⟨el195, hel196, h⟩ := bind_elim h
          obtain ⟨cs197, hat198, hrd199⟩ := SlRd.at h151 hel196
          have hrd199 : cs197 = [(.int .i64 el195.Lo), (.int .i64 el195.Hi)] := hrd199
          subst hrd199
          refine TP_p (v := (.pointer (some (elemAddr v_p_Listappend (x157 : Int).toNat 2)))) rfl rfl (fun w' => (yl_indexAddr Tryd.underlying29 sz36 h151 hel196 rfl rfl)) ?_
          refine TP_p (v := (.pointer (some (Addr.add (elemAddr v_p_Listappend (x157 : Int).toNat 2) 1)))) rfl rfl (fun w' => (yl_fa 1 Tryd.underlying36 rfl rfl ⟨0, sz3⟩ rfl rfl)) ?_
          refine TP_q (v := (.int .i64 el189.Lo)) rfl rfl (fun w' hS => (yl_load sc3 rfl (hat192.ext' ((he187).trans hS)))) ?_
          refine TP_q (v := (.int .i64 el195.Hi)) rfl rfl (fun w' hS => (yl_load sc3 rfl (At.drop (hat198.ext' ((he187).trans hS)) 1))) ?_
          obtain ⟨r201, hr202, h⟩ := bind_elim h
          refine TP_e rfl rfl (eff_call Tryd.func35 nm35 rfl (ev3 rfl rfl rfl) (base_Within_ok [] _ (LtL.nil _) p_String el189.Lo el195.Hi r201 hr202) ?_)
          rintro _ wd203 ⟨he204, rfl⟩
          have e205 := he187.trans he204
          have e206 := e188.trans he204
          refine ⟨he204, ?_⟩
          refine TP_p (v := (.bool (!r201))) rfl rfl (fun w' => (yl_not rfl)) ?_
          refine TP_done ?_
          refine hK185 _ _ ?_
          refine WC_cond (b := (!r201)) rfl (fun hb207 => ?_) (fun hb207 => ?_)
          · replace h := cond_t hb207 h
            refine WC_region ?_
            refine T0_q (v := (.int .i64 x155)) rfl (yl_move hs156) ?_
            refine T0_q (v := (.int .i64 (w64 (x155 + 1)))) rfl (yl_add rfl rfl) ?_
            refine T0_q (v := (.int .i64 (w64 (x155 + 1)))) rfl (yl_assign rfl) ?_
            refine T0_nil ?_
            refine hK184 _ _ ?_
            refine WC_region ?_
            refine T0_q (v := (.int .i64 x157)) rfl (yl_move hs158) ?_
            refine T0_q (v := (.int .i64 (w64 (x157 + 1)))) rfl (yl_add rfl rfl) ?_
            refine T0_q (v := (.int .i64 (w64 (x157 + 1)))) rfl (yl_assign rfl) ?_
            refine T0_nil ?_
            replace h := some_out h
            subst h
            refine hK178 _ _ _ rfl ?_
            exact ⟨w64 (x155 + 1), w64 (x157 + 1), rfl, hs152, hs153, hs154, rfl, rfl, (h151.ext e205), (h159.ext e205), (hB161.ext e205), e206⟩
          · replace h := cond_f hb207 h
            refine WC_skip ?_
            refine hK184 _ _ ?_
            refine WC_region ?_
            refine T0_q (v := (.int .i64 x157)) rfl (yl_move hs158) ?_
            refine T0_q (v := (.int .i64 (w64 (x157 + 1)))) rfl (yl_add rfl rfl) ?_
            refine T0_q (v := (.int .i64 (w64 (x157 + 1)))) rfl (yl_assign rfl) ?_
            refine T0_nil ?_
            replace h := some_out h
            subst h
            refine hK178 _ _ _ rfl ?_
            exact ⟨x155, w64 (x157 + 1), rfl, hs152, hs153, hs154, hs156, rfl, (h151.ext e205), (h159.ext e205), (hB161.ext e205), e206⟩
        · replace h := cond_f hb183 h
          refine WC_exit ?_
          replace h := some_out h
          subst h
          have ho := hx177 _ rfl
          subst ho
          refine hK179 _ _ ?_
          exact ⟨x155, rfl, hs152, hs153, hs154, hs156, h151, h159, hB161, e150⟩
      · rintro ρ wd162 ⟨x168, rfl, hs165, hs166, hs167, hs169, h164, h170, hB172, e163⟩
        replace h := hn175
        refine hK29 _ _ ?_
        refine WC_seqK fun K208 hK208 => ?_
        refine WC_seqK fun K209 hK209 => ?_
        refine WC_region ?_
        refine T0_q (v := v_p_Listappend) rfl (yl_move hs165) ?_
        refine T0_q (v := (.int .i64 x168)) rfl (yl_move hs169) ?_
        obtain ⟨r210, hr211, h⟩ := bind_elim h
        refine T0_e rfl (eff_call Tryd.func64 nm64 rfl (ev2 rfl rfl) (ref04_FusedErr_ok [] _ (LtL.nil _) v_p_Listappend p_Listappend (h164.sub (fun _ h => by cases h)) x168 r210 hr211) ?_)
        rintro _ wd212 ⟨he213, rfl⟩
        have e214 := e163.trans he213
        refine T0_q (v := (.bool (decide (r210 = 0)))) rfl (yl_eql rfl rfl) ?_
        refine T0_nil ?_
        refine hK209 _ _ ?_
        obtain ⟨o1132, ho1133, hn1134⟩ := bind_elim h
        refine WC_post (fun (ρ : Env) (wd1126 : World) => .inr () = o1132 ∧ ρ 5 = (.pointer (some ⟨b6, 0, none⟩)) ∧ SlRd L wd1126 v2 p_ListappendStringlplacexlplacexwrongikrefoundiatnowfixesisrne.Steps ∧ Box wd1126 b6 [(.int .i64 p_ListappendStringlplacexlplacexwrongikrefoundiatnowfixesisrne.Speed.Lo), (.int .i64 p_ListappendStringlplacexlplacexwrongikrefoundiatnowfixesisrne.Speed.Hi), (.int .i64 p_ListappendStringlplacexlplacexwrongikrefoundiatnowfixesisrne.At), (.int .i64 p_ListappendStringlplacexlplacexwrongikrefoundiatnowfixesisrne.Place), v2] 108 ∧ Ext w wd1126) ?_ ?_
        · intro K1135 hK1135
          replace h := ho1133
          clear ho1133
          refine WC_cond (b := (decide (r210 = 0))) rfl (fun hb1136 => ?_) (fun hb1136 => ?_)
          · replace h := cond_t hb1136 h
            refine WC_seqK fun K1137 hK1137 => ?_
            refine WC_region ?_
            refine T0_q (v := (.int .i64 x168)) rfl (yl_move hs169) ?_
            refine T0_q (v := (.int .i64 x168)) rfl (yl_assign rfl) ?_
            refine T0_nil ?_
            refine hK1137 _ _ ?_
            obtain ⟨o1827, hl1828, hn1829⟩ := bind_elim h
            refine WC_post (fun (ρ : Env) (wd1821 : World) => .inr () = o1827 ∧ ρ 5 = (.pointer (some ⟨b6, 0, none⟩)) ∧ SlRd L wd1821 v2 p_ListappendStringlplacexlplacexwrongikrefoundiatnowfixesisrne.Steps ∧ Box wd1821 b6 [(.int .i64 p_ListappendStringlplacexlplacexwrongikrefoundiatnowfixesisrne.Speed.Lo), (.int .i64 p_ListappendStringlplacexlplacexwrongikrefoundiatnowfixesisrne.Speed.Hi), (.int .i64 p_ListappendStringlplacexlplacexwrongikrefoundiatnowfixesisrne.At), (.int .i64 p_ListappendStringlplacexlplacexwrongikrefoundiatnowfixesisrne.Place), v2] 108 ∧ Ext w wd1821) ?_ ?_
            · intro K1833 hK1833
              refine WC_block ?_
              refine WC_loopk (fun sv ρ wd1809 => ∃ (x1816 : Int), x1816 = sv ∧ ρ 0 = v_p_Listappend ∧ ρ 1 = (.int .i64 p_String) ∧ ρ 5 = (.pointer (some ⟨b6, 0, none⟩)) ∧ ρ 7 = (.int .i64 x168) ∧ ρ 9 = (.int .i64 x1816) ∧ SlRd L wd1809 v_p_Listappend p_Listappend ∧ SlRd L wd1809 v2 p_ListappendStringlplacexlplacexwrongikrefoundiatnowfixesisrne.Steps ∧ Box wd1809 b6 [(.int .i64 p_ListappendStringlplacexlplacexwrongikrefoundiatnowfixesisrne.Speed.Lo), (.int .i64 p_ListappendStringlplacexlplacexwrongikrefoundiatnowfixesisrne.Speed.Hi), (.int .i64 p_ListappendStringlplacexlplacexwrongikrefoundiatnowfixesisrne.At), (.int .i64 p_ListappendStringlplacexlplacexwrongikrefoundiatnowfixesisrne.Place), v2] 108 ∧ Ext w wd1809) hl1828 ⟨x168, rfl, hs165, hs166, hs167, hs169, rfl, (h164.ext he213), (h170.ext he213), (hB172.ext he213), e214⟩ ?_
              rintro _ ρ wd1809 ⟨x1816, rfl, hs1812, hs1813, hs1814, hs1815, hs1817, h1811, h1818, hB1820, e1810⟩ x1830 h hx1831 K1832 hK1832
              refine WC_seqK fun K1835 hK1835 => ?_
              refine WC_seqK fun K1836 hK1836 => ?_
              refine WC_region ?_
              refine T0_q (v := (.int .i64 x1816)) rfl (yl_move hs1817) ?_
              refine T0_q (v := v_p_Listappend) rfl (yl_move hs1812) ?_
              refine T0_q (v := (.int .i64 (p_Listappend.length : Int))) rfl (yl_lenR rfl Tryd.underlying29 h1811 rfl) ?_
              refine T0_q (v := (.int .i64 x168)) rfl (yl_move hs1815) ?_
              refine T0_q (v := (.int .i64 (w64 (x168 + 2)))) rfl (yl_add rfl rfl) ?_
              refine T0_q (v := (.int .i64 (if w64 (x168 + 2) < (p_Listappend.length : Int) then w64 (x168 + 2) else (p_Listappend.length : Int)))) rfl (yl_min rfl rfl) ?_
              refine T0_q (v := (.bool (decide (x1816 < (if w64 (x168 + 2) < (p_Listappend.length : Int) then w64 (x168 + 2) else (p_Listappend.length : Int)))))) rfl (yl_lss rfl rfl) ?_
              refine T0_nil ?_
              refine hK1836 _ _ ?_
              refine WC_cond (b := (decide (x1816 < (if w64 (x168 + 2) < (p_Listappend.length : Int) then w64 (x168 + 2) else (p_Listappend.length : Int))))) rfl (fun hb1837 => ?_) (fun hb1837 => ?_)
              · replace h := cond_t hb1837 h
                refine WC_skip ?_
                refine hK1835 _ _ ?_
                refine WC_seqK fun K1838 hK1838 => ?_
                refine WC_block ?_
                refine WC_seqK fun K1839 hK1839 => ?_
                refine WC_region ?_
                refine T0_q (v := v_p_Listappend) rfl (yl_move hs1812) ?_
                obtain ⟨r1840, hr1841, h⟩ := bind_elim h
                refine T0_e rfl (eff_call Tryd.func58 nm58 rfl (ev1 rfl) (base_CopyRanges_ok L _ (hL.chg e1810) v_p_Listappend p_Listappend h1811 r1840 hr1841) ?_)
                rintro _ wd1842 ⟨he1843, v1844, rfl, h1845⟩
                have e1846 := e1810.trans he1843
                refine T0_q (v := (.int .i64 x1816)) rfl (yl_move hs1817) ?_
                obtain ⟨r1848, hr1849, h⟩ := bind_elim h
                refine T0_e rfl (eff_call Tryd.func57 nm57 rfl (ev2 rfl rfl) (locate_Fused_ok L _ (hL.chg e1846) v1844 r1840 h1845 x1816 r1848 hr1849) ?_)
                rintro _ wd1850 ⟨he1851, v1852, rfl, h1853⟩
                have e1854 := he1843.trans he1851
                have e1855 := e1846.trans he1851
                refine T0_q (v := (.tuple #[v1852, (.int .i64 r1848.2)])) rfl (yl_move rfl) ?_
                refine T0_q (v := v1852) rfl (yl_extract rfl rfl) ?_
                refine T0_q (v := (.int .i64 r1848.2)) rfl (yl_extract rfl rfl) ?_
                refine T0_q (v := v1852) rfl (yl_assign rfl) ?_
                refine T0_q (v := (.int .i64 r1848.2)) rfl (yl_assign rfl) ?_
                refine T0_nil ?_
                refine hK1839 _ _ ?_
                refine WC_seqK fun K1857 hK1857 => ?_
                refine WC_region ?_
                refine T0_q (v := (.bool false)) rfl (yl_assign rfl) ?_
                refine T0_nil ?_
                refine hK1857 _ _ ?_
                refine WC_seqK fun K1858 hK1858 => ?_
                refine WC_seqK fun K1859 hK1859 => ?_
                refine WC_region ?_
                refine T0_q (v := (.int .i64 0)) rfl (yl_assign rfl) ?_
                refine T0_nil ?_
                refine hK1859 _ _ ?_
                obtain ⟨o2013, hl2014, hn2015⟩ := bind_elim h
                refine WC_post (fun (ρ : Env) (wd1999 : World) => ∃ (x2008 : Bool), x2008 = o2013 ∧ ρ 0 = v_p_Listappend ∧ ρ 1 = (.int .i64 p_String) ∧ ρ 5 = (.pointer (some ⟨b6, 0, none⟩)) ∧ ρ 7 = (.int .i64 x168) ∧ ρ 9 = (.int .i64 x1816) ∧ ρ 11 = (.int .i64 r1848.2) ∧ ρ 12 = (.bool x2008) ∧ SlRd L wd1999 v_p_Listappend p_Listappend ∧ SlRd L wd1999 v2 p_ListappendStringlplacexlplacexwrongikrefoundiatnowfixesisrne.Steps ∧ Box wd1999 b6 [(.int .i64 p_ListappendStringlplacexlplacexwrongikrefoundiatnowfixesisrne.Speed.Lo), (.int .i64 p_ListappendStringlplacexlplacexwrongikrefoundiatnowfixesisrne.Speed.Hi), (.int .i64 p_ListappendStringlplacexlplacexwrongikrefoundiatnowfixesisrne.At), (.int .i64 p_ListappendStringlplacexlplacexwrongikrefoundiatnowfixesisrne.Place), v2] 108 ∧ Ext w wd1999) ?_ ?_
                · intro K2019 hK2019
                  refine WC_block ?_
                  refine WC_loopk (fun sv ρ wd1981 => ∃ (x1992 : Bool) (x1994 : Int), (x1992, x1994) = sv ∧ ρ 0 = v_p_Listappend ∧ ρ 1 = (.int .i64 p_String) ∧ ρ 5 = (.pointer (some ⟨b6, 0, none⟩)) ∧ ρ 7 = (.int .i64 x168) ∧ ρ 9 = (.int .i64 x1816) ∧ ρ 10 = v1852 ∧ ρ 11 = (.int .i64 r1848.2) ∧ ρ 12 = (.bool x1992) ∧ ρ 13 = (.int .i64 x1994) ∧ SlRd L wd1981 v_p_Listappend p_Listappend ∧ SlRd L wd1981 v1852 r1848.1 ∧ SlRd L wd1981 v2 p_ListappendStringlplacexlplacexwrongikrefoundiatnowfixesisrne.Steps ∧ Box wd1981 b6 [(.int .i64 p_ListappendStringlplacexlplacexwrongikrefoundiatnowfixesisrne.Speed.Lo), (.int .i64 p_ListappendStringlplacexlplacexwrongikrefoundiatnowfixesisrne.Speed.Hi), (.int .i64 p_ListappendStringlplacexlplacexwrongikrefoundiatnowfixesisrne.At), (.int .i64 p_ListappendStringlplacexlplacexwrongikrefoundiatnowfixesisrne.Place), v2] 108 ∧ Ext w wd1981) hl2014 ⟨false, 0, rfl, hs1812, hs1813, hs1814, hs1815, hs1817, rfl, rfl, rfl, rfl, (h1811.ext e1854), h1853, (h1818.ext e1854), (hB1820.ext e1854), e1855⟩ ?_
                  rintro _ ρ wd1981 ⟨x1992, x1994, rfl, hs1984, hs1985, hs1986, hs1987, hs1988, hs1990, hs1991, hs1993, hs1995, h1983, h1989, h1996, hB1998, e1982⟩ x2016 h hx2017 K2018 hK2018
                  refine WC_seqK fun K2021 hK2021 => ?_
                  refine WC_seqK fun K2022 hK2022 => ?_
                  refine WC_region ?_
                  refine T0_q (v := (.int .i64 x1994)) rfl (yl_move hs1995) ?_
                  refine T0_q (v := v1852) rfl (yl_move hs1990) ?_
                  refine T0_q (v := (.int .i64 (r1848.1.length : Int))) rfl (yl_lenR rfl Tryd.underlying29 h1989 rfl) ?_
                  refine T0_q (v := (.bool (decide (x1994 < (r1848.1.length : Int))))) rfl (yl_lss rfl rfl) ?_
                  refine T0_nil ?_
                  refine hK2022 _ _ ?_
                  refine WC_cond (b := (decide (x1994 < (r1848.1.length : Int)))) rfl (fun hb2023 => ?_) (fun hb2023 => ?_)
                  · replace h := cond_t hb2023 h
                    refine WC_skip ?_
                    refine hK2021 _ _ ?_
                    refine WC_seqK fun K2024 hK2024 => ?_
                    refine WC_block ?_
                    refine WC_plan mixed (.p 0 (.p 1 (.p 2 (.p 3 (.p 4 (.p 5 (.p 6 (.p 8 (.p 9 (.p 10 (.p 11 (.q 7 (.q 12 (.e 13 (.p 14 (.p 15 .done)))))))))))))))) (by kernel_rfl) ?_
                    intro wd2025 he2026
                    have e2027 := e1982.trans he2026
                    refine TP_p (v := (.bool x1992)) rfl rfl (fun w' => (yl_move hs1993)) ?_
                    refine TP_p (v := (.bool x1992)) rfl rfl (fun w' => (yl_move rfl)) ?_
                    refine TP_gp (v := (.int .i64 p_String)) (!x1992) rfl (wanted_f rfl rfl rfl rfl) (fun w' hg => (yl_move hs1985)) ?_
                    refine TP_gp (v := v1852) (!x1992) rfl (wanted_f rfl rfl rfl rfl) (fun w' hg => (yl_move hs1990)) ?_
                    refine TP_gp (v := (.int .i64 x1994)) (!x1992) rfl (wanted_f rfl rfl rfl rfl) (fun w' hg => (yl_move hs1995)) ?_
                    obtain ⟨el2028, hel2029, h⟩ := bind_elim h
                    have hat2031 : (!x1992) = true → At wd1981 (elemAddr v1852 (x1994 : Int).toNat 2) [(.int .i64 el2028.Lo), (.int .i64 el2028.Hi)] := fun hg => by obtain ⟨cs, hat, hrd⟩ := SlRd.at h1989 (cond_t hg hel2029); have hrd : cs = [(.int .i64 el2028.Lo), (.int .i64 el2028.Hi)] := hrd; subst hrd; exact hat
                    refine TP_gp (v := (.pointer (some (elemAddr v1852 (x1994 : Int).toNat 2)))) (!x1992) rfl (wanted_f rfl rfl rfl rfl) (fun w' hg => (yl_indexAddr Tryd.underlying29 sz36 h1989 (cond_t hg hel2029) (gd_true hg) (gd_true hg))) ?_
                    refine TP_gp (v := (.pointer (some (elemAddr v1852 (x1994 : Int).toNat 2)))) (!x1992) rfl (wanted_f rfl rfl rfl rfl) (fun w' hg => (yl_fa 0 Tryd.underlying36 rfl rfl ⟨0, sz3⟩ (gd_true hg) rfl)) ?_
                    refine TP_gp (v := v1852) (!x1992) rfl (wanted_f rfl rfl rfl rfl) (fun w' hg => (yl_move hs1990)) ?_
                    refine TP_gp (v := (.int .i64 x1994)) (!x1992) rfl (wanted_f rfl rfl rfl rfl) (fun w' hg => (yl_move hs1995)) ?_
                    obtain ⟨el2033, hel2034, h⟩ := bind_elim h
                    have hat2036 : (!x1992) = true → At wd1981 (elemAddr v1852 (x1994 : Int).toNat 2) [(.int .i64 el2033.Lo), (.int .i64 el2033.Hi)] := fun hg => by obtain ⟨cs, hat, hrd⟩ := SlRd.at h1989 (cond_t hg hel2034); have hrd : cs = [(.int .i64 el2033.Lo), (.int .i64 el2033.Hi)] := hrd; subst hrd; exact hat
                    refine TP_gp (v := (.pointer (some (elemAddr v1852 (x1994 : Int).toNat 2)))) (!x1992) rfl (wanted_f rfl rfl rfl rfl) (fun w' hg => (yl_indexAddr Tryd.underlying29 sz36 h1989 (cond_t hg hel2034) (gd_true hg) (gd_true hg))) ?_
                    refine TP_gp (v := (.pointer (some (Addr.add (elemAddr v1852 (x1994 : Int).toNat 2) 1)))) (!x1992) rfl (wanted_f rfl rfl rfl rfl) (fun w' hg => (yl_fa 1 Tryd.underlying36 rfl rfl ⟨0, sz3⟩ (gd_true hg) rfl)) ?_
                    refine TP_gq (v := (.int .i64 el2028.Lo)) (!x1992) rfl (wanted_f rfl rfl rfl rfl) (fun w' hS hg => (yl_load sc3 (gd_true hg) ((hat2031 hg).ext' ((he2026).trans hS)))) ?_
                    refine TP_gq (v := (.int .i64 el2033.Hi)) (!x1992) rfl (wanted_f rfl rfl rfl rfl) (fun w' hS hg => (yl_load sc3 (gd_true hg) (At.drop ((hat2036 hg).ext' ((he2026).trans hS)) 1))) ?_
                    obtain ⟨r2038, hr2039, h⟩ := bind_elim h
                    refine TP_ges (!x1992) (.bool r2038) rfl (wanted_f rfl rfl rfl rfl) (fun hg => eff_call Tryd.func35 nm35 rfl (ev3 (gd_true hg) (gd_true hg) (gd_true hg)) (base_Within_ok [] _ (LtL.nil _) p_String el2028.Lo el2033.Hi r2038 (cond_t hg hr2039)) (by rintro _ wd2040 ⟨he2041, rfl⟩; exact ⟨rfl, he2041⟩)) ?_
                    intro wd2040 he2041
                    have e2042 := he2026.trans he2041
                    have e2043 := e2027.trans he2041
                    refine ⟨he2041, ?_⟩
                    refine TP_p (v := (.bool (x1992 || r2038))) rfl rfl (fun w' => (yl_or rfl rfl (fun hb => (gd_true (not_t hb))))) ?_
                    refine TP_p (v := (.bool (x1992 || r2038))) rfl rfl (fun w' => (yl_assign rfl)) ?_
                    refine TP_done ?_
                    refine hK2024 _ _ ?_
                    refine WC_region ?_
                    refine T0_q (v := (.int .i64 x1994)) rfl (yl_move hs1995) ?_
                    refine T0_q (v := (.int .i64 (w64 (x1994 + 1)))) rfl (yl_add rfl rfl) ?_
                    refine T0_q (v := (.int .i64 (w64 (x1994 + 1)))) rfl (yl_assign rfl) ?_
                    refine T0_nil ?_
                    replace h := some_out h
                    subst h
                    refine hK2018 _ _ _ rfl ?_
                    exact ⟨(x1992 || r2038), w64 (x1994 + 1), rfl, hs1984, hs1985, hs1986, hs1987, hs1988, hs1990, hs1991, rfl, rfl, (h1983.ext e2042), (h1989.ext e2042), (h1996.ext e2042), (hB1998.ext e2042), e2043⟩
                  · replace h := cond_f hb2023 h
                    refine WC_exit ?_
                    replace h := some_out h
                    subst h
                    have ho := hx2017 _ rfl
                    subst ho
                    refine hK2019 _ _ ?_
                    exact ⟨x1992, rfl, hs1984, hs1985, hs1986, hs1987, hs1988, hs1991, hs1993, h1983, h1996, hB1998, e1982⟩
                · rintro ρ wd1999 ⟨x2008, rfl, hs2002, hs2003, hs2004, hs2005, hs2006, hs2007, hs2009, h2001, h2010, hB2012, e2000⟩
                  replace h := hn2015
                  refine hK1858 _ _ ?_
                  refine WC_seqK fun K2044 hK2044 => ?_
                  refine WC_region ?_
                  refine T0_q (v := (.int .i64 r1848.2)) rfl (yl_move hs2007) ?_
                  refine T0_q (v := (.bool (!decide (r1848.2 = 0)))) rfl (yl_neq rfl rfl) ?_
                  refine T0_q (v := (.bool (!decide (r1848.2 = 0)))) rfl (yl_move rfl) ?_
                  refine T0_g (v := (.bool x2008)) (!(!decide (r1848.2 = 0))) (wanted_f rfl rfl rfl rfl) (fun hg => (yl_move hs2009)) ?_
                  refine T0_g (v := (.bool (!x2008))) (!(!decide (r1848.2 = 0))) (wanted_f rfl rfl rfl rfl) (fun hg => (yl_not (gd_true hg))) ?_
                  refine T0_q (v := (.bool ((!decide (r1848.2 = 0)) || (!x2008)))) rfl (yl_or rfl rfl (fun hb => (gd_true (not_t hb)))) ?_
                  refine T0_nil ?_
                  refine hK2044 _ _ ?_
                  refine WC_cond (b := ((!decide (r1848.2 = 0)) || (!x2008))) rfl (fun hb2045 => ?_) (fun hb2045 => ?_)
                  · replace h := cond_t hb2045 h
                    refine WC_seqK fun K2046 hK2046 => ?_
                    refine WC_region ?_
                    refine T0_q (v := (.bool false)) rfl (yl_assign rfl) ?_
                    refine T0_nil ?_
                    refine hK2046 _ _ ?_
                    refine WC_ret ?_
                    replace h := some_out h
                    subst h
                    have ho := hx1831 _ rfl
                    subst ho
                    replace h := jn0_inl hn1829
                    replace h := some_out h
                    subst h
                    replace h := jn0_inl hn1134
                    replace h := some_out h
                    subst h
                    exact ⟨[(.bool false)], ⟨rfl, trivial⟩, e2000, rfl⟩
                  · replace h := cond_f hb2045 h
                    refine WC_skip ?_
                    refine hK1838 _ _ ?_
                    refine WC_region ?_
                    refine T0_q (v := (.int .i64 x1816)) rfl (yl_move hs2006) ?_
                    refine T0_q (v := (.int .i64 (w64 (x1816 + 1)))) rfl (yl_add rfl rfl) ?_
                    refine T0_q (v := (.int .i64 (w64 (x1816 + 1)))) rfl (yl_assign rfl) ?_
                    refine T0_nil ?_
                    replace h := some_out h
                    subst h
                    refine hK1832 _ _ _ rfl ?_
                    exact ⟨w64 (x1816 + 1), rfl, hs2002, hs2003, hs2004, hs2005, rfl, h2001, h2010, hB2012, e2000⟩
              · replace h := cond_f hb1837 h
                refine WC_exit ?_
                replace h := some_out h
                subst h
                have ho := hx1831 _ rfl
                subst ho
                refine hK1833 _ _ ?_
                exact ⟨rfl, hs1814, h1818, hB1820, e1810⟩
            · rintro ρ wd1821 ⟨rfl, hs1823, h1824, hB1826, e1822⟩
              replace h := jn0_inr hn1829
              replace h := some_out h
              subst h
              refine hK1135 _ _ ?_
              exact ⟨rfl, hs1823, h1824, hB1826, e1822⟩
          · replace h := cond_f hb1136 h
            refine WC_skip ?_
            replace h := some_out h
            subst h
            refine hK1135 _ _ ?_
            exact ⟨rfl, hs167, (h170.ext he213), (hB172.ext he213), e214⟩
        · rintro ρ wd1126 ⟨rfl, hs1128, h1129, hB1131, e1127⟩
          replace h := jn0_inr hn1134
          refine hK208 _ _ ?_
          refine WC_seqK fun K2047 hK2047 => ?_
          refine WC_seqK fun K2048 hK2048 => ?_
          refine WC_region ?_
          refine T0_q (v := (.pointer (some ⟨b6, 0, none⟩))) rfl (yl_fa 0 Tryd.underlying108 rfl rfl ⟨1, sz36⟩ hs1128 rfl) ?_
          refine T0_q (v := (.agg (List.toArray [(.int .i64 p_ListappendStringlplacexlplacexwrongikrefoundiatnowfixesisrne.Speed.Lo), (.int .i64 p_ListappendStringlplacexlplacexwrongikrefoundiatnowfixesisrne.Speed.Hi)]))) rfl (yl_loadA (cs := [(.int .i64 p_ListappendStringlplacexlplacexwrongikrefoundiatnowfixesisrne.Speed.Lo), (.int .i64 p_ListappendStringlplacexlplacexwrongikrefoundiatnowfixesisrne.Speed.Hi)]) ag36 rfl (At.take (Box.at hB1131) 2)) ?_
          obtain ⟨r2049, hr2050, h⟩ := bind_elim h
          refine T0_e rfl (eff_call Tryd.func61 nm61 rfl (ev1 rfl) (ref04_SpeedErr_ok [] _ (LtL.nil _) [(.int .i64 p_ListappendStringlplacexlplacexwrongikrefoundiatnowfixesisrne.Speed.Lo), (.int .i64 p_ListappendStringlplacexlplacexwrongikrefoundiatnowfixesisrne.Speed.Hi)] p_ListappendStringlplacexlplacexwrongikrefoundiatnowfixesisrne.Speed rfl r2049 hr2050) ?_)
          rintro _ wd2051 ⟨he2052, rfl⟩
          have e2053 := e1127.trans he2052
          refine T0_q (v := (.bool (!decide (r2049 = 0)))) rfl (yl_neq rfl rfl) ?_
          refine T0_q (v := (.bool (!decide (r2049 = 0)))) rfl (yl_move rfl) ?_
          refine T0_g (v := (.pointer (some ⟨b6, 2, none⟩))) (!(!decide (r2049 = 0))) (wanted_f rfl rfl rfl rfl) (fun hg => (yl_fa 2 Tryd.underlying108 rfl rfl ⟨0, sz3⟩ hs1128 rfl)) ?_
          refine T0_g (v := (.int .i64 p_ListappendStringlplacexlplacexwrongikrefoundiatnowfixesisrne.At)) (!(!decide (r2049 = 0))) (wanted_f rfl rfl rfl rfl) (fun hg => (yl_load sc3 (gd_true hg) (At.drop (Box.at (hB1131.ext he2052)) 2))) ?_
          obtain ⟨r2054, hr2055, h⟩ := bind_elim h
          refine T0_ges (!(!decide (r2049 = 0))) (.bool r2054) (wanted_f rfl rfl rfl rfl) (fun hg => eff_call Tryd.func35 nm35 rfl (ev3 (gd_true hg) rfl rfl) (base_Within_ok [] _ (LtL.nil _) p_ListappendStringlplacexlplacexwrongikrefoundiatnowfixesisrne.At 0 1000000 r2054 (cond_t hg hr2055)) (by rintro _ wd2056 ⟨he2057, rfl⟩; exact ⟨rfl, he2057⟩)) ?_
          intro wd2056 he2057
          have e2058 := he2052.trans he2057
          have e2059 := e2053.trans he2057
          refine T0_g (v := (.bool (!r2054))) (!(!decide (r2049 = 0))) (wanted_f rfl rfl rfl rfl) (fun hg => (yl_not (gd_true hg))) ?_
          refine T0_q (v := (.bool ((!decide (r2049 = 0)) || (!r2054)))) rfl (yl_or rfl rfl (fun hb => (gd_true (not_t hb)))) ?_
          refine T0_q (v := (.bool ((!decide (r2049 = 0)) || (!r2054)))) rfl (yl_move rfl) ?_
          refine T0_g (v := (.pointer (some ⟨b6, 3, none⟩))) (!((!decide (r2049 = 0)) || (!r2054))) (wanted_f rfl rfl rfl rfl) (fun hg => (yl_fa 3 Tryd.underlying108 rfl rfl ⟨0, sz3⟩ hs1128 rfl)) ?_
          refine T0_g (v := (.int .i64 p_ListappendStringlplacexlplacexwrongikrefoundiatnowfixesisrne.Place)) (!((!decide (r2049 = 0)) || (!r2054))) (wanted_f rfl rfl rfl rfl) (fun hg => (yl_load sc3 (gd_true hg) (At.drop (Box.at (hB1131.ext e2058)) 3))) ?_
          obtain ⟨r2060, hr2061, h⟩ := bind_elim h
          refine T0_ges (!((!decide (r2049 = 0)) || (!r2054))) (.bool r2060) (wanted_f rfl rfl rfl rfl) (fun hg => eff_call Tryd.func35 nm35 rfl (ev3 (gd_true hg) rfl rfl) (base_Within_ok [] _ (LtL.nil _) p_ListappendStringlplacexlplacexwrongikrefoundiatnowfixesisrne.Place 100000000 900000000 r2060 (cond_t hg hr2061)) (by rintro _ wd2062 ⟨he2063, rfl⟩; exact ⟨rfl, he2063⟩)) ?_
          intro wd2062 he2063
          have e2064 := e2058.trans he2063
          have e2065 := e2059.trans he2063
          refine T0_g (v := (.bool (!r2060))) (!((!decide (r2049 = 0)) || (!r2054))) (wanted_f rfl rfl rfl rfl) (fun hg => (yl_not (gd_true hg))) ?_
          refine T0_q (v := (.bool (((!decide (r2049 = 0)) || (!r2054)) || (!r2060)))) rfl (yl_or rfl rfl (fun hb => (gd_true (not_t hb)))) ?_
          refine T0_nil ?_
          refine hK2048 _ _ ?_
          refine WC_cond (b := (((!decide (r2049 = 0)) || (!r2054)) || (!r2060))) rfl (fun hb2066 => ?_) (fun hb2066 => ?_)
          · replace h := cond_t hb2066 h
            refine WC_seqK fun K2067 hK2067 => ?_
            refine WC_region ?_
            refine T0_q (v := (.bool true)) rfl (yl_assign rfl) ?_
            refine T0_nil ?_
            refine hK2067 _ _ ?_
            refine WC_ret ?_
            replace h := some_out h
            subst h
            exact ⟨[(.bool true)], ⟨rfl, trivial⟩, e2065, rfl⟩
          · replace h := cond_f hb2066 h
            refine WC_skip ?_
            refine hK2047 _ _ ?_
            refine WC_seqK fun K2068 hK2068 => ?_
            refine WC_plan mixed (.p 0 (.p 2 (.q 1 (.p 4 (.q 3 (.p 5 .done)))))) (by kernel_rfl) ?_
            intro wd2069 he2070
            have e2071 := e2064.trans he2070
            have e2072 := e2065.trans he2070
            refine TP_p (v := (.pointer (some ⟨b6, 2, none⟩))) rfl rfl (fun w' => (yl_fa 2 Tryd.underlying108 rfl rfl ⟨0, sz3⟩ hs1128 rfl)) ?_
            refine TP_p (v := (.pointer (some ⟨b6, 3, none⟩))) rfl rfl (fun w' => (yl_fa 3 Tryd.underlying108 rfl rfl ⟨0, sz3⟩ hs1128 rfl)) ?_
            refine TP_q (v := (.int .i64 p_ListappendStringlplacexlplacexwrongikrefoundiatnowfixesisrne.At)) rfl rfl (fun w' hS => (yl_load sc3 rfl (At.drop (Box.at (hB1131.ext ((e2071).trans hS))) 2))) ?_
            refine TP_p (v := (.int .i64 p_ListappendStringlplacexlplacexwrongikrefoundiatnowfixesisrne.At)) rfl rfl (fun w' => (yl_assign rfl)) ?_
            refine TP_q (v := (.int .i64 p_ListappendStringlplacexlplacexwrongikrefoundiatnowfixesisrne.Place)) rfl rfl (fun w' hS => (yl_load sc3 rfl (At.drop (Box.at (hB1131.ext ((e2071).trans hS))) 3))) ?_
            refine TP_p (v := (.int .i64 p_ListappendStringlplacexlplacexwrongikrefoundiatnowfixesisrne.Place)) rfl rfl (fun w' => (yl_assign rfl)) ?_
            refine TP_done ?_
            refine hK2068 _ _ ?_
            refine WC_seqK fun K2073 hK2073 => ?_
            refine WC_region ?_
            refine T0_q (v := (.int .i64 p_ListappendStringlplacexlplacexwrongikrefoundiatnowfixesisrne.At)) rfl (yl_move rfl) ?_
            refine T0_q (v := (.int .i64 p_ListappendStringlplacexlplacexwrongikrefoundiatnowfixesisrne.Place)) rfl (yl_move rfl) ?_
            refine T0_q (v := (.int .i64 p_ListappendStringlplacexlplacexwrongikrefoundiatnowfixesisrne.Place)) rfl (yl_move rfl) ?_
            refine T0_q (v := (.agg (List.toArray [(.int .i64 p_ListappendStringlplacexlplacexwrongikrefoundiatnowfixesisrne.Place), (.int .i64 p_ListappendStringlplacexlplacexwrongikrefoundiatnowfixesisrne.Place)]))) rfl (yl_buildC (cells := [(.int .i64 p_ListappendStringlplacexlplacexwrongikrefoundiatnowfixesisrne.Place), (.int .i64 p_ListappendStringlplacexlplacexwrongikrefoundiatnowfixesisrne.Place)]) bi36 (pc_cons rfl rfl (pc_cons rfl rfl pc_nil)) rfl) ?_
            refine T0_q (v := (.agg (List.toArray [(.int .i64 p_ListappendStringlplacexlplacexwrongikrefoundiatnowfixesisrne.At), (.int .i64 p_ListappendStringlplacexlplacexwrongikrefoundiatnowfixesisrne.Place), (.int .i64 p_ListappendStringlplacexlplacexwrongikrefoundiatnowfixesisrne.Place)]))) rfl (yl_buildC (cells := [(.int .i64 p_ListappendStringlplacexlplacexwrongikrefoundiatnowfixesisrne.At), (.int .i64 p_ListappendStringlplacexlplacexwrongikrefoundiatnowfixesisrne.Place), (.int .i64 p_ListappendStringlplacexlplacexwrongikrefoundiatnowfixesisrne.Place)]) bi110 (pc_cons rfl rfl (pc_cons rfl rfl pc_nil)) rfl) ?_
            refine T0_e rfl (eff_buildOC (L := L) (xs := ([(LocateFix.mk p_ListappendStringlplacexlplacexwrongikrefoundiatnowfixesisrne.At (Range.mk p_ListappendStringlplacexlplacexwrongikrefoundiatnowfixesisrne.Place p_ListappendStringlplacexlplacexwrongikrefoundiatnowfixesisrne.Place))] : List LocateFix)) (cells := [(.int .i64 p_ListappendStringlplacexlplacexwrongikrefoundiatnowfixesisrne.At), (.int .i64 p_ListappendStringlplacexlplacexwrongikrefoundiatnowfixesisrne.Place), (.int .i64 p_ListappendStringlplacexlplacexwrongikrefoundiatnowfixesisrne.Place)]) Tryd.underlying99 ei110 rfl (pc_cons rfl rfl pc_nil) rfl (Elems.cons (cs := [(.int .i64 p_ListappendStringlplacexlplacexwrongikrefoundiatnowfixesisrne.At), (.int .i64 p_ListappendStringlplacexlplacexwrongikrefoundiatnowfixesisrne.Place), (.int .i64 p_ListappendStringlplacexlplacexwrongikrefoundiatnowfixesisrne.Place)]) rfl Elems.nil) rfl ?_)
            intro v2077 wd2074 he2075 hf2078 h2076
            have h2079 := (h1129.ext e2071).step (Stepp.add v2077 he2075 hf2078)
            have hn2081 : blk v2077 ≠ some b6 := fun e => by have := hf2078 _ e; have := (hB1131.ext e2071).lt; omega
            have hf2082 : ∀ b, blk v2077 = some b → w.heap.size ≤ b := fun b hb => Nat.le_trans e2072.size (hf2078 b hb)
            have e2083 := e2071.trans he2075
            have e2084 := e2072.trans he2075
            refine T0_q (v := v2077) rfl (yl_assign rfl) ?_
            refine T0_nil ?_
            refine hK2073 _ _ ?_
            refine WC_seqK fun K2086 hK2086 => ?_
            refine WC_seqK fun K2087 hK2087 => ?_
            refine WC_region ?_
            refine T0_q (v := (.int .i64 0)) rfl (yl_assign rfl) ?_
            refine T0_nil ?_
            refine hK2087 _ _ ?_
            obtain ⟨o2443, hl2444, hn2445⟩ := bind_elim h
            refine WC_post (fun (ρ : Env) (wd2427 : World) => ∃ (x2430 : Int) (x2434 : (List LocateFix)) (v2433 : Value), .inr (x2430, x2434) = o2443 ∧ ρ 5 = (.pointer (some ⟨b6, 0, none⟩)) ∧ ρ 15 = (.int .i64 x2430) ∧ ρ 16 = v2433 ∧ SlRd (v2433 :: L) wd2427 v2 p_ListappendStringlplacexlplacexwrongikrefoundiatnowfixesisrne.Steps ∧ Box wd2427 b6 [(.int .i64 p_ListappendStringlplacexlplacexwrongikrefoundiatnowfixesisrne.Speed.Lo), (.int .i64 p_ListappendStringlplacexlplacexwrongikrefoundiatnowfixesisrne.Speed.Hi), (.int .i64 p_ListappendStringlplacexlplacexwrongikrefoundiatnowfixesisrne.At), (.int .i64 p_ListappendStringlplacexlplacexwrongikrefoundiatnowfixesisrne.Place), v2] 108 ∧ Own 110 (v2433 :: L) wd2427 v2433 x2434 ∧ (∀ b, blk v2433 = some b → w.heap.size ≤ b) ∧ (blk v2433 ≠ some b6) ∧ Ext w wd2427) ?_ ?_
            · intro K2449 hK2449
              refine WC_block ?_
              refine WC_loopk (fun sv ρ wd2407 => ∃ (x2410 : Int) (x2412 : Int) (x2416 : (List LocateFix)) (x2421 : Int) (v2415 : Value), (x2410, x2412, x2416, x2421) = sv ∧ ρ 5 = (.pointer (some ⟨b6, 0, none⟩)) ∧ ρ 14 = (.int .i64 x2410) ∧ ρ 15 = (.int .i64 x2412) ∧ ρ 16 = v2415 ∧ ρ 17 = (.int .i64 x2421) ∧ SlRd (v2415 :: L) wd2407 v2 p_ListappendStringlplacexlplacexwrongikrefoundiatnowfixesisrne.Steps ∧ Box wd2407 b6 [(.int .i64 p_ListappendStringlplacexlplacexwrongikrefoundiatnowfixesisrne.Speed.Lo), (.int .i64 p_ListappendStringlplacexlplacexwrongikrefoundiatnowfixesisrne.Speed.Hi), (.int .i64 p_ListappendStringlplacexlplacexwrongikrefoundiatnowfixesisrne.At), (.int .i64 p_ListappendStringlplacexlplacexwrongikrefoundiatnowfixesisrne.Place), v2] 108 ∧ Own 110 (v2415 :: L) wd2407 v2415 x2416 ∧ (∀ b, blk v2415 = some b → w.heap.size ≤ b) ∧ (blk v2415 ≠ some b6) ∧ Ext w wd2407) hl2444 ⟨p_ListappendStringlplacexlplacexwrongikrefoundiatnowfixesisrne.At, p_ListappendStringlplacexlplacexwrongikrefoundiatnowfixesisrne.Place, ([(LocateFix.mk p_ListappendStringlplacexlplacexwrongikrefoundiatnowfixesisrne.At (Range.mk p_ListappendStringlplacexlplacexwrongikrefoundiatnowfixesisrne.Place p_ListappendStringlplacexlplacexwrongikrefoundiatnowfixesisrne.Place))] : List LocateFix), 0, v2077, rfl, hs1128, rfl, rfl, rfl, rfl, h2079, (hB1131.ext e2083), h2076, hf2082, hn2081, e2084⟩ ?_
              rintro _ ρ wd2407 ⟨x2410, x2412, x2416, x2421, v2415, rfl, hs2409, hs2411, hs2413, hs2420, hs2422, h2423, hB2425, h2418, hf2419, hn2426, e2408⟩ x2446 h hx2447 K2448 hK2448
              refine WC_seqK fun K2451 hK2451 => ?_
              refine WC_seqK fun K2452 hK2452 => ?_
              refine WC_region ?_
              refine T0_q (v := (.int .i64 x2421)) rfl (yl_move hs2422) ?_
              refine T0_q (v := (.pointer (some ⟨b6, 4, none⟩))) rfl (yl_fa 4 Tryd.underlying108 rfl rfl ⟨0, sz106⟩ hs2409 rfl) ?_
              refine T0_q (v := v2) rfl (yl_load sc106 rfl (At.drop (Box.at hB2425) 4)) ?_
              refine T0_q (v := (.int .i64 (p_ListappendStringlplacexlplacexwrongikrefoundiatnowfixesisrne.Steps.length : Int))) rfl (yl_lenR rfl Tryd.underlying106 h2423 rfl) ?_
              refine T0_q (v := (.bool (decide (x2421 < (p_ListappendStringlplacexlplacexwrongikrefoundiatnowfixesisrne.Steps.length : Int))))) rfl (yl_lss rfl rfl) ?_
              refine T0_nil ?_
              refine hK2452 _ _ ?_
              refine WC_cond (b := (decide (x2421 < (p_ListappendStringlplacexlplacexwrongikrefoundiatnowfixesisrne.Steps.length : Int)))) rfl (fun hb2453 => ?_) (fun hb2453 => ?_)
              · replace h := cond_t hb2453 h
                refine WC_skip ?_
                refine hK2451 _ _ ?_
                refine WC_seqK fun K2454 hK2454 => ?_
                refine WC_block ?_
                refine WC_seqK fun K2455 hK2455 => ?_
                refine WC_region ?_
                refine T0_q (v := (.pointer (some ⟨b6, 4, none⟩))) rfl (yl_fa 4 Tryd.underlying108 rfl rfl ⟨0, sz106⟩ hs2409 rfl) ?_
                refine T0_q (v := v2) rfl (yl_load sc106 rfl (At.drop (Box.at hB2425) 4)) ?_
                refine T0_q (v := (.int .i64 x2421)) rfl (yl_move hs2422) ?_
                obtain ⟨el2456, hel2457, h⟩ := bind_elim h
                obtain ⟨cs2458, hat2459, hrd2460⟩ := SlRd.at h2423 hel2457
                have hrd2460 : cs2458 = [(.int .i64 el2456.Time), (.int .i64 el2456.Speed), (.int .i64 el2456.Before), (.int .i64 el2456.Behind)] := hrd2460
                subst hrd2460
                refine T0_q (v := (.pointer (some (elemAddr v2 (x2421 : Int).toNat 4)))) rfl (yl_indexAddr Tryd.underlying106 sz112 h2423 hel2457 rfl rfl) ?_
                refine T0_q (v := (.agg (List.toArray [(.int .i64 el2456.Time), (.int .i64 el2456.Speed), (.int .i64 el2456.Before), (.int .i64 el2456.Behind)]))) rfl (yl_loadA (cs := [(.int .i64 el2456.Time), (.int .i64 el2456.Speed), (.int .i64 el2456.Before), (.int .i64 el2456.Behind)]) ag112 rfl hat2459) ?_
                refine T0_e rfl (eff_allocZ zi112 ?_)
                intro b2462 wd2463 hb2464 he2465 hB2466
                have hn2467 : b2462 ≠ b6 := box_ne hB2425 hb2464
                have hn2468 : blk v2415 ≠ some b2462 := ne_new_box h2418 hb2464
                have hbf2469 := bfresh e2408 hb2464
                have h2470 := h2418.step (add_box he2465 hb2464) he2465 (fun _ _ => Avoids.nil _)
                have h2471 := h2423.step (add_box he2465 hb2464)
                have e2472 := e2408.trans he2465
                refine T0_e rfl (eff_storeC (vs := [(.int .i64 el2456.Time), (.int .i64 el2456.Speed), (.int .i64 el2456.Before), (.int .i64 el2456.Behind)]) (cs' := [(.int .i64 el2456.Time), (.int .i64 el2456.Speed), (.int .i64 el2456.Before), (.int .i64 el2456.Behind)]) sz112 rfl rfl rfl rfl hB2466 rfl (oc_cons rfl (oc_cons rfl (oc_cons rfl (oc_cons rfl oc_nil)))) rfl ?_)
                intro wd2474 hc2475 hB2476
                have h2477 := h2470.step (Stepp.chg_mem hc2475 mem0) hc2475 (av_box hn2468)
                have h2478 := h2471.step (Stepp.chg_mem hc2475 mem0)
                have h2479 := (hB2425.ext he2465).chg hc2475 (avoidb hn2467)
                have e2480 := chg_box e2472 hc2475 hbf2469
                refine T0_nil ?_
                refine hK2455 _ _ ?_
                refine WC_seqK fun K2481 hK2481 => ?_
                refine WC_seqK fun K2482 hK2482 => ?_
                refine WC_region ?_
                refine T0_q (v := (.pointer (some ⟨b2462, 0, none⟩))) rfl (yl_fa 0 Tryd.underlying112 rfl rfl ⟨0, sz3⟩ rfl rfl) ?_
                refine T0_q (v := (.int .i64 el2456.Time)) rfl (yl_load sc3 rfl (Box.at hB2476)) ?_
                obtain ⟨r2483, hr2484, h⟩ := bind_elim h
                refine T0_e rfl (eff_call Tryd.func35 nm35 rfl (ev3 rfl rfl rfl) (base_Within_ok [] _ (LtL.nil _) el2456.Time 0 10 r2483 hr2484) ?_)
                rintro _ wd2485 ⟨he2486, rfl⟩
                have e2487 := e2480.trans he2486
                refine T0_q (v := (.bool (!r2483))) rfl (yl_not rfl) ?_
                refine T0_q (v := (.bool (!r2483))) rfl (yl_move rfl) ?_
                refine T0_g (v := (.pointer (some ⟨b2462, 1, none⟩))) (!(!r2483)) (wanted_f rfl rfl rfl rfl) (fun hg => (yl_fa 1 Tryd.underlying112 rfl rfl ⟨0, sz3⟩ rfl rfl)) ?_
                refine T0_g (v := (.int .i64 el2456.Speed)) (!(!r2483)) (wanted_f rfl rfl rfl rfl) (fun hg => (yl_load sc3 (gd_true hg) (At.drop (Box.at (hB2476.ext he2486)) 1))) ?_
                refine T0_g (v := (.pointer (some ⟨b6, 0, none⟩))) (!(!r2483)) (wanted_f rfl rfl rfl rfl) (fun hg => (yl_fa 0 Tryd.underlying108 rfl rfl ⟨1, sz36⟩ hs2409 rfl)) ?_
                refine T0_g (v := (.pointer (some ⟨b6, 0, none⟩))) (!(!r2483)) (wanted_f rfl rfl rfl rfl) (fun hg => (yl_fa 0 Tryd.underlying36 rfl rfl ⟨0, sz3⟩ (gd_true hg) rfl)) ?_
                refine T0_g (v := (.int .i64 p_ListappendStringlplacexlplacexwrongikrefoundiatnowfixesisrne.Speed.Lo)) (!(!r2483)) (wanted_f rfl rfl rfl rfl) (fun hg => (yl_load sc3 (gd_true hg) (Box.at (h2479.ext he2486)))) ?_
                refine T0_g (v := (.pointer (some ⟨b6, 0, none⟩))) (!(!r2483)) (wanted_f rfl rfl rfl rfl) (fun hg => (yl_fa 0 Tryd.underlying108 rfl rfl ⟨1, sz36⟩ hs2409 rfl)) ?_
                refine T0_g (v := (.pointer (some ⟨b6, 1, none⟩))) (!(!r2483)) (wanted_f rfl rfl rfl rfl) (fun hg => (yl_fa 1 Tryd.underlying36 rfl rfl ⟨0, sz3⟩ (gd_true hg) rfl)) ?_
                refine T0_g (v := (.int .i64 p_ListappendStringlplacexlplacexwrongikrefoundiatnowfixesisrne.Speed.Hi)) (!(!r2483)) (wanted_f rfl rfl rfl rfl) (fun hg => (yl_load sc3 (gd_true hg) (At.drop (Box.at (h2479.ext he2486)) 1))) ?_
                obtain ⟨r2488, hr2489, h⟩ := bind_elim h
                refine T0_ges (!(!r2483)) (.bool r2488) (wanted_f rfl rfl rfl rfl) (fun hg => eff_call Tryd.func35 nm35 rfl (ev3 (gd_true hg) (gd_true hg) (gd_true hg)) (base_Within_ok [] _ (LtL.nil _) el2456.Speed p_ListappendStringlplacexlplacexwrongikrefoundiatnowfixesisrne.Speed.Lo p_ListappendStringlplacexlplacexwrongikrefoundiatnowfixesisrne.Speed.Hi r2488 (cond_t hg hr2489)) (by rintro _ wd2490 ⟨he2491, rfl⟩; exact ⟨rfl, he2491⟩)) ?_
                intro wd2490 he2491
                have e2492 := he2486.trans he2491
                have e2493 := e2487.trans he2491
                refine T0_g (v := (.bool (!r2488))) (!(!r2483)) (wanted_f rfl rfl rfl rfl) (fun hg => (yl_not (gd_true hg))) ?_
                refine T0_q (v := (.bool ((!r2483) || (!r2488)))) rfl (yl_or rfl rfl (fun hb => (gd_true (not_t hb)))) ?_
                refine T0_q (v := (.bool ((!r2483) || (!r2488)))) rfl (yl_move rfl) ?_
                refine T0_g (v := (.pointer (some ⟨b2462, 2, none⟩))) (!((!r2483) || (!r2488))) (wanted_f rfl rfl rfl rfl) (fun hg => (yl_fa 2 Tryd.underlying112 rfl rfl ⟨0, sz3⟩ rfl rfl)) ?_
                refine T0_g (v := (.int .i64 el2456.Before)) (!((!r2483) || (!r2488))) (wanted_f rfl rfl rfl rfl) (fun hg => (yl_load sc3 (gd_true hg) (At.drop (Box.at (hB2476.ext e2492)) 2))) ?_
                obtain ⟨r2494, hr2495, h⟩ := bind_elim h
                refine T0_ges (!((!r2483) || (!r2488))) (.bool r2494) (wanted_f rfl rfl rfl rfl) (fun hg => eff_call Tryd.func35 nm35 rfl (ev3 (gd_true hg) rfl rfl) (base_Within_ok [] _ (LtL.nil _) el2456.Before 0 100000 r2494 (cond_t hg hr2495)) (by rintro _ wd2496 ⟨he2497, rfl⟩; exact ⟨rfl, he2497⟩)) ?_
                intro wd2496 he2497
                have e2498 := e2492.trans he2497
                have e2499 := e2493.trans he2497
                refine T0_g (v := (.bool (!r2494))) (!((!r2483) || (!r2488))) (wanted_f rfl rfl rfl rfl) (fun hg => (yl_not (gd_true hg))) ?_
                refine T0_q (v := (.bool (((!r2483) || (!r2488)) || (!r2494)))) rfl (yl_or rfl rfl (fun hb => (gd_true (not_t hb)))) ?_
                refine T0_q (v := (.bool (((!r2483) || (!r2488)) || (!r2494)))) rfl (yl_move rfl) ?_
                refine T0_g (v := (.pointer (some ⟨b2462, 3, none⟩))) (!(((!r2483) || (!r2488)) || (!r2494))) (wanted_f rfl rfl rfl rfl) (fun hg => (yl_fa 3 Tryd.underlying112 rfl rfl ⟨0, sz3⟩ rfl rfl)) ?_
                refine T0_g (v := (.int .i64 el2456.Behind)) (!(((!r2483) || (!r2488)) || (!r2494))) (wanted_f rfl rfl rfl rfl) (fun hg => (yl_load sc3 (gd_true hg) (At.drop (Box.at (hB2476.ext e2498)) 3))) ?_
                obtain ⟨r2500, hr2501, h⟩ := bind_elim h
                refine T0_ges (!(((!r2483) || (!r2488)) || (!r2494))) (.bool r2500) (wanted_f rfl rfl rfl rfl) (fun hg => eff_call Tryd.func35 nm35 rfl (ev3 (gd_true hg) rfl rfl) (base_Within_ok [] _ (LtL.nil _) el2456.Behind 0 100000 r2500 (cond_t hg hr2501)) (by rintro _ wd2502 ⟨he2503, rfl⟩; exact ⟨rfl, he2503⟩)) ?_
                intro wd2502 he2503
                have e2504 := e2498.trans he2503
                have e2505 := e2499.trans he2503
                refine T0_g (v := (.bool (!r2500))) (!(((!r2483) || (!r2488)) || (!r2494))) (wanted_f rfl rfl rfl rfl) (fun hg => (yl_not (gd_true hg))) ?_
                refine T0_q (v := (.bool ((((!r2483) || (!r2488)) || (!r2494)) || (!r2500)))) rfl (yl_or rfl rfl (fun hb => (gd_true (not_t hb)))) ?_
                refine T0_nil ?_
                refine hK2482 _ _ ?_
                refine WC_cond (b := ((((!r2483) || (!r2488)) || (!r2494)) || (!r2500))) rfl (fun hb2506 => ?_) (fun hb2506 => ?_)
                · replace h := cond_t hb2506 h
                  refine WC_seqK fun K2507 hK2507 => ?_
                  refine WC_region ?_
                  refine T0_q (v := (.bool true)) rfl (yl_assign rfl) ?_
                  refine T0_nil ?_
                  refine hK2507 _ _ ?_
                  refine WC_ret ?_
                  replace h := some_out h
                  subst h
                  have ho := hx2447 _ rfl
                  subst ho
                  replace h := jn0_inl hn2445
                  replace h := some_out h
                  subst h
                  exact ⟨[(.bool true)], ⟨rfl, trivial⟩, e2505, rfl⟩
                · replace h := cond_f hb2506 h
                  refine WC_skip ?_
                  refine hK2481 _ _ ?_
                  refine WC_seqK fun K2508 hK2508 => ?_
                  refine WC_plan mixed (.p 0 (.p 1 (.p 5 (.p 6 (.p 8 (.q 2 (.p 3 (.p 4 (.p 12 (.q 7 (.q 9 (.p 10 (.p 11 (.p 13 .done)))))))))))))) (by kernel_rfl) ?_
                  intro wd2509 he2510
                  have e2511 := e2504.trans he2510
                  have e2512 := e2505.trans he2510
                  refine TP_p (v := (.int .i64 x2410)) rfl rfl (fun w' => (yl_move hs2411)) ?_
                  refine TP_p (v := (.pointer (some ⟨b2462, 0, none⟩))) rfl rfl (fun w' => (yl_fa 0 Tryd.underlying112 rfl rfl ⟨0, sz3⟩ rfl rfl)) ?_
                  refine TP_p (v := (.int .i64 x2412)) rfl rfl (fun w' => (yl_move hs2413)) ?_
                  refine TP_p (v := (.pointer (some ⟨b2462, 1, none⟩))) rfl rfl (fun w' => (yl_fa 1 Tryd.underlying112 rfl rfl ⟨0, sz3⟩ rfl rfl)) ?_
                  refine TP_p (v := (.pointer (some ⟨b2462, 0, none⟩))) rfl rfl (fun w' => (yl_fa 0 Tryd.underlying112 rfl rfl ⟨0, sz3⟩ rfl rfl)) ?_
                  refine TP_q (v := (.int .i64 el2456.Time)) rfl rfl (fun w' hS => (yl_load sc3 rfl (Box.at (hB2476.ext ((e2511).trans hS))))) ?_
                  refine TP_p (v := (.int .i64 (w64 (1000 * el2456.Time)))) rfl rfl (fun w' => (yl_mul rfl rfl)) ?_
                  refine TP_p (v := (.int .i64 (w64 (x2410 + (w64 (1000 * el2456.Time)))))) rfl rfl (fun w' => (yl_add rfl rfl)) ?_
                  refine TP_p (v := (.int .i64 (w64 (x2410 + (w64 (1000 * el2456.Time)))))) rfl rfl (fun w' => (yl_assign rfl)) ?_
                  refine TP_q (v := (.int .i64 el2456.Speed)) rfl rfl (fun w' hS => (yl_load sc3 rfl (At.drop (Box.at (hB2476.ext ((e2511).trans hS))) 1))) ?_
                  refine TP_q (v := (.int .i64 el2456.Time)) rfl rfl (fun w' hS => (yl_load sc3 rfl (Box.at (hB2476.ext ((e2511).trans hS))))) ?_
                  refine TP_p (v := (.int .i64 (w64 (el2456.Speed * el2456.Time)))) rfl rfl (fun w' => (yl_mul rfl rfl)) ?_
                  refine TP_p (v := (.int .i64 (w64 (x2412 + (w64 (el2456.Speed * el2456.Time)))))) rfl rfl (fun w' => (yl_add rfl rfl)) ?_
                  refine TP_p (v := (.int .i64 (w64 (x2412 + (w64 (el2456.Speed * el2456.Time)))))) rfl rfl (fun w' => (yl_assign rfl)) ?_
                  refine TP_done ?_
                  refine hK2508 _ _ ?_
                  refine WC_region ?_
                  refine T0_q (v := v2415) rfl (yl_move hs2420) ?_
                  refine T0_q (v := (.int .i64 (w64 (x2410 + (w64 (1000 * el2456.Time)))))) rfl (yl_move rfl) ?_
                  refine T0_q (v := (.int .i64 (w64 (x2412 + (w64 (el2456.Speed * el2456.Time)))))) rfl (yl_move rfl) ?_
                  refine T0_q (v := (.pointer (some ⟨b2462, 2, none⟩))) rfl (yl_fa 2 Tryd.underlying112 rfl rfl ⟨0, sz3⟩ rfl rfl) ?_
                  refine T0_q (v := (.int .i64 el2456.Before)) rfl (yl_load sc3 rfl (At.drop (Box.at (hB2476.ext e2511)) 2)) ?_
                  refine T0_q (v := (.int .i64 (w64 ((w64 (x2412 + (w64 (el2456.Speed * el2456.Time)))) - el2456.Before)))) rfl (yl_sub rfl rfl) ?_
                  refine T0_q (v := (.int .i64 (w64 (x2412 + (w64 (el2456.Speed * el2456.Time)))))) rfl (yl_move rfl) ?_
                  refine T0_q (v := (.pointer (some ⟨b2462, 3, none⟩))) rfl (yl_fa 3 Tryd.underlying112 rfl rfl ⟨0, sz3⟩ rfl rfl) ?_
                  refine T0_q (v := (.int .i64 el2456.Behind)) rfl (yl_load sc3 rfl (At.drop (Box.at (hB2476.ext e2511)) 3)) ?_
                  refine T0_q (v := (.int .i64 (w64 ((w64 (x2412 + (w64 (el2456.Speed * el2456.Time)))) + el2456.Behind)))) rfl (yl_add rfl rfl) ?_
                  refine T0_q (v := (.agg (List.toArray [(.int .i64 (w64 ((w64 (x2412 + (w64 (el2456.Speed * el2456.Time)))) - el2456.Before))), (.int .i64 (w64 ((w64 (x2412 + (w64 (el2456.Speed * el2456.Time)))) + el2456.Behind)))]))) rfl (yl_buildC (cells := [(.int .i64 (w64 ((w64 (x2412 + (w64 (el2456.Speed * el2456.Time)))) - el2456.Before))), (.int .i64 (w64 ((w64 (x2412 + (w64 (el2456.Speed * el2456.Time)))) + el2456.Behind)))]) bi36 (pc_cons rfl rfl (pc_cons rfl rfl pc_nil)) rfl) ?_
                  refine T0_q (v := (.agg (List.toArray [(.int .i64 (w64 (x2410 + (w64 (1000 * el2456.Time))))), (.int .i64 (w64 ((w64 (x2412 + (w64 (el2456.Speed * el2456.Time)))) - el2456.Before))), (.int .i64 (w64 ((w64 (x2412 + (w64 (el2456.Speed * el2456.Time)))) + el2456.Behind)))]))) rfl (yl_buildC (cells := [(.int .i64 (w64 (x2410 + (w64 (1000 * el2456.Time))))), (.int .i64 (w64 ((w64 (x2412 + (w64 (el2456.Speed * el2456.Time)))) - el2456.Before))), (.int .i64 (w64 ((w64 (x2412 + (w64 (el2456.Speed * el2456.Time)))) + el2456.Behind)))]) bi110 (pc_cons rfl rfl (pc_cons rfl rfl pc_nil)) rfl) ?_
                  refine T0_e rfl (eff_buildTC (xs := ([(LocateFix.mk (w64 (x2410 + (w64 (1000 * el2456.Time)))) (Range.mk (w64 ((w64 (x2412 + (w64 (el2456.Speed * el2456.Time)))) - el2456.Before)) (w64 ((w64 (x2412 + (w64 (el2456.Speed * el2456.Time)))) + el2456.Behind))))] : List LocateFix)) (cells := [(.int .i64 (w64 (x2410 + (w64 (1000 * el2456.Time))))), (.int .i64 (w64 ((w64 (x2412 + (w64 (el2456.Speed * el2456.Time)))) - el2456.Before))), (.int .i64 (w64 ((w64 (x2412 + (w64 (el2456.Speed * el2456.Time)))) + el2456.Behind)))]) Tryd.underlying99 ei110 rfl (pc_cons rfl rfl pc_nil) rfl (Elems.cons (cs := [(.int .i64 (w64 (x2410 + (w64 (1000 * el2456.Time))))), (.int .i64 (w64 ((w64 (x2412 + (w64 (el2456.Speed * el2456.Time)))) - el2456.Before))), (.int .i64 (w64 ((w64 (x2412 + (w64 (el2456.Speed * el2456.Time)))) + el2456.Behind)))]) rfl Elems.nil) rfl (ltl_box (ltl_own (hL.chg e2512) (h2477.ext e2511)) (hB2476.ext e2511)) ?_)
                  intro b2516 wd2513 he2514 h2515
                  have e2517 := e2511.trans he2514
                  have e2518 := e2512.trans he2514
                  have h2520 := (h2477.ext e2517).sub (sub_cons (memS mem0) (sub_cons mem0 (sub_skip (sub_skip (sub_refl _)))))
                  have h2521 := (h2478.ext e2517).sub (sub_cons (memS mem0) (sub_cons mem0 (sub_skip (sub_skip (sub_refl _)))))
                  have h2522 := h2515.sub (sub_cons (memS mem0) (sub_cons mem0 (sub_skip (sub_skip (sub_refl _)))))
                  obtain ⟨zs2523, hz2524, h⟩ := bind_elim h
                  refine T0_e rfl (eff_app Tryd.underlying99 ei110 rfl rfl rfl rfl h2520 h2522 hz2524 ?_)
                  intro v2525 wd2526 hc2527 hbl2528 h2529
                  have hn2531 : blk v2525 ≠ some b6 := ne_swap hbl2528 hn2426 (h2479.ext e2517)
                  have hn2532 : blk v2525 ≠ some b2462 := ne_swap hbl2528 hn2468 (hB2476.ext e2517)
                  have hf2533 := fresh_swap hbl2528 hf2419 e2518.size
                  have h2534 := h2521.step (Stepp.swap hc2527 hbl2528)
                  have h2535 := (h2479.ext e2517).chg hc2527 (avoid1 hn2426)
                  have h2536 := (hB2476.ext e2517).chg hc2527 (avoid1 hn2468)
                  have h2537 := h2522.step (Stepp.swap hc2527 hbl2528)
                  have e2538 := chg_own e2518 hc2527 hf2419
                  refine T0_q (v := v2525) rfl (yl_assign rfl) ?_
                  refine T0_nil ?_
                  refine hK2454 _ _ ?_
                  refine WC_region ?_
                  refine T0_q (v := (.int .i64 x2421)) rfl (yl_move hs2422) ?_
                  refine T0_q (v := (.int .i64 (w64 (x2421 + 1)))) rfl (yl_add rfl rfl) ?_
                  refine T0_q (v := (.int .i64 (w64 (x2421 + 1)))) rfl (yl_assign rfl) ?_
                  refine T0_nil ?_
                  replace h := some_out h
                  subst h
                  refine hK2448 _ _ _ rfl ?_
                  exact ⟨w64 (x2410 + (w64 (1000 * el2456.Time))), w64 (x2412 + (w64 (el2456.Speed * el2456.Time))), zs2523, w64 (x2421 + 1), v2525, rfl, hs2409, rfl, rfl, rfl, rfl, (h2534.sub (sub_cons mem0 (sub_skip (sub_skip (sub_refl _))))), h2535, (h2529.sub (sub_cons mem0 (sub_skip (sub_skip (sub_refl _))))), hf2533, hn2531, e2538⟩
              · replace h := cond_f hb2453 h
                refine WC_exit ?_
                replace h := some_out h
                subst h
                have ho := hx2447 _ rfl
                subst ho
                refine hK2449 _ _ ?_
                exact ⟨x2412, x2416, v2415, rfl, hs2409, hs2413, hs2420, h2423, hB2425, h2418, hf2419, hn2426, e2408⟩
            · rintro ρ wd2427 ⟨x2430, x2434, v2433, rfl, hs2429, hs2431, hs2438, h2439, hB2441, h2436, hf2437, hn2442, e2428⟩
              replace h := jn0_inr hn2445
              refine hK2086 _ _ ?_
              refine WC_seqK fun K2540 hK2540 => ?_
              refine WC_region ?_
              refine T0_q (v := (.pointer (some ⟨b6, 0, none⟩))) rfl (yl_fa 0 Tryd.underlying108 rfl rfl ⟨1, sz36⟩ hs2429 rfl) ?_
              refine T0_q (v := (.agg (List.toArray [(.int .i64 p_ListappendStringlplacexlplacexwrongikrefoundiatnowfixesisrne.Speed.Lo), (.int .i64 p_ListappendStringlplacexlplacexwrongikrefoundiatnowfixesisrne.Speed.Hi)]))) rfl (yl_loadA (cs := [(.int .i64 p_ListappendStringlplacexlplacexwrongikrefoundiatnowfixesisrne.Speed.Lo), (.int .i64 p_ListappendStringlplacexlplacexwrongikrefoundiatnowfixesisrne.Speed.Hi)]) ag36 rfl (At.take (Box.at hB2441) 2)) ?_
              refine T0_q (v := v2433) rfl (yl_move hs2438) ?_
              obtain ⟨r2541, hr2542, h⟩ := bind_elim h
              refine T0_e rfl (eff_call Tryd.func67 nm67 rfl (ev2 rfl rfl) (locate_Follow_ok [] _ (LtL.nil _) [(.int .i64 p_ListappendStringlplacexlplacexwrongikrefoundiatnowfixesisrne.Speed.Lo), (.int .i64 p_ListappendStringlplacexlplacexwrongikrefoundiatnowfixesisrne.Speed.Hi)] p_ListappendStringlplacexlplacexwrongikrefoundiatnowfixesisrne.Speed rfl v2433 x2434 (h2436.rdL (fun _ h => by cases h) (LtL.nil w) hf2437) r2541 hr2542) ?_)
              rintro _ wd2543 ⟨he2544, cs2545, rfl, hrd2546⟩
              have e2547 := e2428.trans he2544
              have hrd2546 : cs2545 = [(.int .i64 r2541.1.Lo), (.int .i64 r2541.1.Hi)] := hrd2546
              subst hrd2546
              refine T0_q (v := (.tuple #[(.agg (List.toArray [(.int .i64 r2541.1.Lo), (.int .i64 r2541.1.Hi)])), (.int .i64 r2541.2.1), (.int .i64 r2541.2.2)])) rfl (yl_move rfl) ?_
              refine T0_q (v := (.agg (List.toArray [(.int .i64 r2541.1.Lo), (.int .i64 r2541.1.Hi)]))) rfl (yl_extract rfl rfl) ?_
              refine T0_q (v := (.int .i64 r2541.2.1)) rfl (yl_extract rfl rfl) ?_
              refine T0_q (v := (.int .i64 r2541.2.2)) rfl (yl_extract rfl rfl) ?_
              refine T0_e rfl (eff_allocZ zi36 ?_)
              intro b2548 wd2549 hb2550 he2551 hB2552
              have hn2553 : b2548 ≠ b6 := box_ne (hB2441.ext he2544) hb2550
              have hn2554 : blk v2433 ≠ some b2548 := ne_new_box (h2436.ext he2544) hb2550
              have hbf2555 := bfresh e2547 hb2550
              have h2556 := (h2436.ext he2544).step (add_box he2551 hb2550) he2551 (fun _ _ => Avoids.nil _)
              have h2557 := (h2439.ext he2544).step (add_box he2551 hb2550)
              have e2558 := he2544.trans he2551
              have e2559 := e2547.trans he2551
              refine T0_e rfl (eff_storeC (vs := [(.int .i64 r2541.1.Lo), (.int .i64 r2541.1.Hi)]) (cs' := [(.int .i64 r2541.1.Lo), (.int .i64 r2541.1.Hi)]) sz36 rfl rfl rfl rfl hB2552 rfl (oc_cons rfl (oc_cons rfl oc_nil)) rfl ?_)
              intro wd2561 hc2562 hB2563
              have h2564 := h2556.step (Stepp.chg_mem hc2562 mem0) hc2562 (av_box hn2554)
              have h2565 := h2557.step (Stepp.chg_mem hc2562 mem0)
              have h2566 := (hB2441.ext e2558).chg hc2562 (avoidb hn2553)
              have e2567 := chg_box e2559 hc2562 hbf2555
              refine T0_q (v := (.int .i64 r2541.2.1)) rfl (yl_assign rfl) ?_
              refine T0_q (v := (.int .i64 r2541.2.2)) rfl (yl_assign rfl) ?_
              refine T0_nil ?_
              refine hK2540 _ _ ?_
              refine WC_seqK fun K2568 hK2568 => ?_
              refine WC_region ?_
              refine T0_q (v := (.int .i64 r2541.2.2)) rfl (yl_move rfl) ?_
              refine T0_q (v := (.bool (decide (r2541.2.2 = 0)))) rfl (yl_eql rfl rfl) ?_
              refine T0_q (v := (.bool (decide (r2541.2.2 = 0)))) rfl (yl_move rfl) ?_
              refine T0_g (v := (.int .i64 r2541.2.1)) (decide (r2541.2.2 = 0)) (wanted_t rfl rfl rfl rfl) (fun hg => (yl_move rfl)) ?_
              refine T0_g (v := (.bool (decide (r2541.2.1 = 0)))) (decide (r2541.2.2 = 0)) (wanted_t rfl rfl rfl rfl) (fun hg => (yl_eql (gd_true hg) rfl)) ?_
              refine T0_q (v := (.bool ((decide (r2541.2.2 = 0)) && (decide (r2541.2.1 = 0))))) rfl (yl_and rfl (fun hb => (gd_true hb)) rfl) ?_
              refine T0_q (v := (.bool ((decide (r2541.2.2 = 0)) && (decide (r2541.2.1 = 0))))) rfl (yl_move rfl) ?_
              refine T0_g (v := (.int .i64 x2430)) ((decide (r2541.2.2 = 0)) && (decide (r2541.2.1 = 0))) (wanted_t rfl rfl rfl rfl) (fun hg => (yl_move hs2431)) ?_
              refine T0_g (v := (.pointer (some ⟨b2548, 0, none⟩))) ((decide (r2541.2.2 = 0)) && (decide (r2541.2.1 = 0))) (wanted_t rfl rfl rfl rfl) (fun hg => (yl_fa 0 Tryd.underlying36 rfl rfl ⟨0, sz3⟩ rfl rfl)) ?_
              refine T0_g (v := (.int .i64 r2541.1.Lo)) ((decide (r2541.2.2 = 0)) && (decide (r2541.2.1 = 0))) (wanted_t rfl rfl rfl rfl) (fun hg => (yl_load sc3 (gd_true hg) (Box.at hB2563))) ?_
              refine T0_g (v := (.pointer (some ⟨b2548, 1, none⟩))) ((decide (r2541.2.2 = 0)) && (decide (r2541.2.1 = 0))) (wanted_t rfl rfl rfl rfl) (fun hg => (yl_fa 1 Tryd.underlying36 rfl rfl ⟨0, sz3⟩ rfl rfl)) ?_
              refine T0_g (v := (.int .i64 r2541.1.Hi)) ((decide (r2541.2.2 = 0)) && (decide (r2541.2.1 = 0))) (wanted_t rfl rfl rfl rfl) (fun hg => (yl_load sc3 (gd_true hg) (At.drop (Box.at hB2563) 1))) ?_
              obtain ⟨r2569, hr2570, h⟩ := bind_elim h
              refine T0_ges ((decide (r2541.2.2 = 0)) && (decide (r2541.2.1 = 0))) (.bool r2569) (wanted_t rfl rfl rfl rfl) (fun hg => eff_call Tryd.func35 nm35 rfl (ev3 (gd_true hg) (gd_true hg) (gd_true hg)) (base_Within_ok [] _ (LtL.nil _) x2430 r2541.1.Lo r2541.1.Hi r2569 (cond_t hg hr2570)) (by rintro _ wd2571 ⟨he2572, rfl⟩; exact ⟨rfl, he2572⟩)) ?_
              intro wd2571 he2572
              have e2573 := e2567.trans he2572
              refine T0_q (v := (.bool (((decide (r2541.2.2 = 0)) && (decide (r2541.2.1 = 0))) && r2569))) rfl (yl_and rfl (fun hb => (gd_true hb)) rfl) ?_
              refine T0_q (v := (.bool (((decide (r2541.2.2 = 0)) && (decide (r2541.2.1 = 0))) && r2569))) rfl (yl_assign rfl) ?_
              refine T0_nil ?_
              refine hK2568 _ _ ?_
              refine WC_ret ?_
              replace h := some_out h
              subst h
              exact ⟨[(.bool (((decide (r2541.2.2 = 0)) && (decide (r2541.2.1 = 0))) && r2569))], ⟨rfl, trivial⟩, e2573, rfl⟩

end Go.Gw
