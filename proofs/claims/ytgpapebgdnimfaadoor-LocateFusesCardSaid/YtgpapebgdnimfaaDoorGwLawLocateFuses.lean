/- What functions come to, printed by a program of this work. No condition. -/
import Derived.Test.YtgpapebgdnimfaaDoorGwFnC
import Derived.Test.YtgpapebgdnimfaaDoorGwFxFol
set_option maxRecDepth 4096
set_option maxHeartbeats 1000000
set_option linter.unusedVariables false
namespace Go.Gw
open Go Go.Proofs
attribute [local irreducible] T0 TS TT TP Eff Stp WC Quiet gd
noncomputable def law04_LocateFuses_spec (p_Listappend : (List Range)) (p_String : Int) (p_lwrongxlwrongxremfd : guidewaylaw04_Motion) : Option Bool :=
  (Option.bind (law04_awake_spec) fun r13 =>
  (bif (!r13) then (
    some false
  ) else (
    (bif (decide (14 < (p_Listappend.length : Int))) then (
      some true
    ) else (
      (Option.bind (base_CopyRanges_spec p_Listappend) fun r26 =>
      (Option.bind (locate_Fused_spec r26 p_String) fun r36 =>
      (Option.bind (locate_Moved_spec p_lwrongxlwrongxremfd.Place p_lwrongxlwrongxremfd.Speed p_lwrongxlwrongxremfd.Time) fun r47 =>
      (Option.bind (ref04_RangeErr_spec p_lwrongxlwrongxremfd.Place) fun r79 =>
      (Option.bind (α := (Int)) (
        (bif (decide (r79 = 0)) then (
          (Option.bind (ref04_SpeedErr_spec p_lwrongxlwrongxremfd.Speed) fun r115 =>
          some r115
          )
        ) else (
          some r79
        ))
      ) fun (x104 : Int) =>
      (Option.bind (α := (Int)) (
        (bif (decide (x104 = 0)) then (
          (Option.bind (ref04_TimeErr_spec p_lwrongxlwrongxremfd.Time) fun r151 =>
          some r151
          )
        ) else (
          some x104
        ))
      ) fun (x140 : Int) =>
      (Option.bind (bif (((!((!decide (x140 = 0)) && ((!decide (r47.2 = x140)) || (!(decide ((Range.mk r47.1.Lo r47.1.Hi) = (Range.mk 0 0))))))) && (decide (x140 = 0))) && (!(!decide (r47.2 = 0)))) then ref04_Moved_spec p_lwrongxlwrongxremfd.Place p_lwrongxlwrongxremfd.Speed p_lwrongxlwrongxremfd.Time else some default) fun r161 =>
      (bif (((!decide (x140 = 0)) && ((!decide (r47.2 = x140)) || (!(decide ((Range.mk r47.1.Lo r47.1.Hi) = (Range.mk 0 0)))))) || ((decide (x140 = 0)) && ((!decide (r47.2 = 0)) || (!(decide ((Range.mk r47.1.Lo r47.1.Hi) = r161)))))) then (
        some false
      ) else (
        (Option.bind (ref04_FusedErr_spec p_Listappend p_String) fun r173 =>
        (bif (!decide (r173 = 0)) then (
          some ((decide (r36.2 = r173)) && (decide ((r36.1.length : Int) = 0)))
        ) else (
          (Option.bind (bif (decide (r36.2 = 0)) then ref04_Fused_spec p_Listappend p_String else some default) fun r183 =>
          (Option.bind (bif (decide (r36.2 = 0)) then base_Ranges_spec r36.1 r183 else some default) fun r195 =>
          some ((decide (r36.2 = 0)) && r195)
          )
          )
        ))
        )
      ))
      )
      )
      )
      )
      )
      )
      )
    ))
  ))
  )
theorem law04_LocateFuses_ok (L : List Value) (w : World) (hL : LtL L w) (hg0 : At w ⟨0, 0, none⟩ [.int .i64 0, .int .i64 1, .int .i64 3, .int .i64 2]) (v_p_Listappend : Value) (p_Listappend : (List Range)) (h_p_Listappend : SlRd L w v_p_Listappend p_Listappend) (p_String : Int) (cs_p_lwrongxlwrongxremfd : List Value) (p_lwrongxlwrongxremfd : guidewaylaw04_Motion) (h_p_lwrongxlwrongxremfd : Rep.rd L w cs_p_lwrongxlwrongxremfd p_lwrongxlwrongxremfd) (r : Bool) (h : law04_LocateFuses_spec p_Listappend p_String p_lwrongxlwrongxremfd = some r) :
    CallsTo Tryd.prog 10 [v_p_Listappend, (.int .i64 p_String), (.agg cs_p_lwrongxlwrongxremfd.toArray)] w (fun v w' => Ext w w' ∧ (.bool r) = v) := by
  have e0 : Ext w w := Chg.refl _ _
  have h_p_lwrongxlwrongxremfd : cs_p_lwrongxlwrongxremfd = [(.int .i64 p_lwrongxlwrongxremfd.Place.Lo), (.int .i64 p_lwrongxlwrongxremfd.Place.Hi), (.int .i64 p_lwrongxlwrongxremfd.Speed.Lo), (.int .i64 p_lwrongxlwrongxremfd.Speed.Hi), (.int .i64 p_lwrongxlwrongxremfd.Time)] := h_p_lwrongxlwrongxremfd
  subst h_p_lwrongxlwrongxremfd
  refine callsTo_of_WC (n := 100) (rs := [.tmp 6]) Tryd.func10 rfl rfl rfl rfl rfl ?_
  refine WC_seqK fun K2 hK2 => ?_
  refine WC_region ?_
  refine T0_e rfl (eff_boxC (cs := [(.int .i64 p_lwrongxlwrongxremfd.Place.Lo), (.int .i64 p_lwrongxlwrongxremfd.Place.Hi), (.int .i64 p_lwrongxlwrongxremfd.Speed.Lo), (.int .i64 p_lwrongxlwrongxremfd.Speed.Hi), (.int .i64 p_lwrongxlwrongxremfd.Time)]) rfl rfl ?_)
  intro b3 wd4 hb5 he6 hB7
  have hbf8 := bfresh e0 hb5
  have e9 := e0.trans he6
  refine T0_q (v := (.bool false)) rfl (yl_assign rfl) ?_
  refine T0_nil ?_
  refine hK2 _ _ ?_
  refine WC_seqK fun K11 hK11 => ?_
  refine WC_seqK fun K12 hK12 => ?_
  refine WC_region ?_
  obtain ⟨r13, hr14, h⟩ := bind_elim h
  refine T0_e rfl (eff_call Tryd.func18 nm18 rfl ev0 (law04_awake_ok [] _ (LtL.nil _) (hg0.ext e9)  r13 hr14) ?_)
  rintro _ wd15 ⟨he16, rfl⟩
  have e17 := he6.trans he16
  have e18 := e9.trans he16
  refine T0_q (v := (.bool (!r13))) rfl (yl_not rfl) ?_
  refine T0_nil ?_
  refine hK12 _ _ ?_
  refine WC_cond (b := (!r13)) rfl (fun hb19 => ?_) (fun hb19 => ?_)
  · replace h := cond_t hb19 h
    refine WC_seqK fun K20 hK20 => ?_
    refine WC_region ?_
    refine T0_q (v := (.bool false)) rfl (yl_assign rfl) ?_
    refine T0_nil ?_
    refine hK20 _ _ ?_
    refine WC_ret ?_
    replace h := some_out h
    subst h
    exact ⟨[(.bool false)], ⟨rfl, trivial⟩, e18, rfl⟩
  · replace h := cond_f hb19 h
    refine WC_skip ?_
    refine hK11 _ _ ?_
    refine WC_seqK fun K21 hK21 => ?_
    refine WC_seqK fun K22 hK22 => ?_
    refine WC_region ?_
    refine T0_q (v := v_p_Listappend) rfl (yl_move rfl) ?_
    refine T0_q (v := (.int .i64 (p_Listappend.length : Int))) rfl (yl_lenR rfl Tryd.underlying29 h_p_Listappend rfl) ?_
    refine T0_q (v := (.bool (decide (14 < (p_Listappend.length : Int))))) rfl (yl_gtr rfl rfl) ?_
    refine T0_nil ?_
    refine hK22 _ _ ?_
    refine WC_cond (b := (decide (14 < (p_Listappend.length : Int)))) rfl (fun hb23 => ?_) (fun hb23 => ?_)
    · replace h := cond_t hb23 h
      refine WC_seqK fun K24 hK24 => ?_
      refine WC_region ?_
      refine T0_q (v := (.bool true)) rfl (yl_assign rfl) ?_
      refine T0_nil ?_
      refine hK24 _ _ ?_
      refine WC_ret ?_
      replace h := some_out h
      subst h
      exact ⟨[(.bool true)], ⟨rfl, trivial⟩, e18, rfl⟩
    · replace h := cond_f hb23 h
      refine WC_skip ?_
      refine hK21 _ _ ?_
      refine WC_seqK fun K25 hK25 => ?_
      refine WC_region ?_
      refine T0_q (v := v_p_Listappend) rfl (yl_move rfl) ?_
      obtain ⟨r26, hr27, h⟩ := bind_elim h
      refine T0_e rfl (eff_call Tryd.func58 nm58 rfl (ev1 rfl) (base_CopyRanges_ok L _ (hL.chg e18) v_p_Listappend p_Listappend (h_p_Listappend.ext e17) r26 hr27) ?_)
      rintro _ wd28 ⟨he29, v30, rfl, h31⟩
      have e32 := e17.trans he29
      have e33 := he16.trans he29
      have e34 := e18.trans he29
      refine T0_q (v := (.int .i64 p_String)) rfl (yl_move rfl) ?_
      obtain ⟨r36, hr37, h⟩ := bind_elim h
      refine T0_e rfl (eff_call Tryd.func57 nm57 rfl (ev2 rfl rfl) (locate_Fused_ok L _ (hL.chg e34) v30 r26 h31 p_String r36 hr37) ?_)
      rintro _ wd38 ⟨he39, v40, rfl, h41⟩
      have e42 := e32.trans he39
      have e43 := e33.trans he39
      have e44 := e34.trans he39
      refine T0_q (v := (.tuple #[v40, (.int .i64 r36.2)])) rfl (yl_move rfl) ?_
      refine T0_q (v := v40) rfl (yl_extract rfl rfl) ?_
      refine T0_q (v := (.int .i64 r36.2)) rfl (yl_extract rfl rfl) ?_
      refine T0_q (v := v40) rfl (yl_assign rfl) ?_
      refine T0_q (v := (.int .i64 r36.2)) rfl (yl_assign rfl) ?_
      refine T0_nil ?_
      refine hK25 _ _ ?_
      refine WC_seqK fun K46 hK46 => ?_
      refine WC_region ?_
      refine T0_q (v := (.pointer (some ⟨b3, 0, none⟩))) rfl (yl_fa 0 Tryd.underlying85 rfl rfl ⟨1, sz36⟩ rfl rfl) ?_
      refine T0_q (v := (.agg (List.toArray [(.int .i64 p_lwrongxlwrongxremfd.Place.Lo), (.int .i64 p_lwrongxlwrongxremfd.Place.Hi)]))) rfl (yl_loadA (cs := [(.int .i64 p_lwrongxlwrongxremfd.Place.Lo), (.int .i64 p_lwrongxlwrongxremfd.Place.Hi)]) ag36 rfl (At.take (Box.at (hB7.ext e43)) 2)) ?_
      refine T0_q (v := (.pointer (some ⟨b3, 2, none⟩))) rfl (yl_fa 2 Tryd.underlying85 rfl rfl ⟨1, sz36⟩ rfl rfl) ?_
      refine T0_q (v := (.agg (List.toArray [(.int .i64 p_lwrongxlwrongxremfd.Speed.Lo), (.int .i64 p_lwrongxlwrongxremfd.Speed.Hi)]))) rfl (yl_loadA (cs := [(.int .i64 p_lwrongxlwrongxremfd.Speed.Lo), (.int .i64 p_lwrongxlwrongxremfd.Speed.Hi)]) ag36 rfl (At.take (At.drop (Box.at (hB7.ext e43)) 2) 2)) ?_
      refine T0_q (v := (.pointer (some ⟨b3, 4, none⟩))) rfl (yl_fa 4 Tryd.underlying85 rfl rfl ⟨0, sz3⟩ rfl rfl) ?_
      refine T0_q (v := (.int .i64 p_lwrongxlwrongxremfd.Time)) rfl (yl_load sc3 rfl (At.drop (Box.at (hB7.ext e43)) 4)) ?_
      obtain ⟨r47, hr48, h⟩ := bind_elim h
      refine T0_e rfl (eff_call Tryd.func59 nm59 rfl (ev3 rfl rfl rfl) (locate_Moved_ok [] _ (LtL.nil _) [(.int .i64 p_lwrongxlwrongxremfd.Place.Lo), (.int .i64 p_lwrongxlwrongxremfd.Place.Hi)] p_lwrongxlwrongxremfd.Place rfl [(.int .i64 p_lwrongxlwrongxremfd.Speed.Lo), (.int .i64 p_lwrongxlwrongxremfd.Speed.Hi)] p_lwrongxlwrongxremfd.Speed rfl p_lwrongxlwrongxremfd.Time r47 hr48) ?_)
      rintro _ wd49 ⟨he50, cs51, rfl, hrd52⟩
      have e53 := e42.trans he50
      have e54 := he39.trans he50
      have e55 := e43.trans he50
      have e56 := e44.trans he50
      have hrd52 : cs51 = [(.int .i64 r47.1.Lo), (.int .i64 r47.1.Hi)] := hrd52
      subst hrd52
      refine T0_q (v := (.tuple #[(.agg (List.toArray [(.int .i64 r47.1.Lo), (.int .i64 r47.1.Hi)])), (.int .i64 r47.2)])) rfl (yl_move rfl) ?_
      refine T0_q (v := (.agg (List.toArray [(.int .i64 r47.1.Lo), (.int .i64 r47.1.Hi)]))) rfl (yl_extract rfl rfl) ?_
      refine T0_q (v := (.int .i64 r47.2)) rfl (yl_extract rfl rfl) ?_
      refine T0_e rfl (eff_allocZ zi36 ?_)
      intro b57 wd58 hb59 he60 hB61
      have hn62 : b57 ≠ b3 := box_ne (hB7.ext e55) hb59
      have hbf63 := bfresh e56 hb59
      have h64 := (h_p_Listappend.ext e53).step (add_box he60 hb59)
      have h65 := (h31.ext e54).step (add_box he60 hb59)
      have h66 := (h41.ext he50).step (add_box he60 hb59)
      have e67 := e55.trans he60
      have e68 := e56.trans he60
      refine T0_e rfl (eff_storeC (vs := [(.int .i64 r47.1.Lo), (.int .i64 r47.1.Hi)]) (cs' := [(.int .i64 r47.1.Lo), (.int .i64 r47.1.Hi)]) sz36 rfl rfl rfl rfl hB61 rfl (oc_cons rfl (oc_cons rfl oc_nil)) rfl ?_)
      intro wd70 hc71 hB72
      have h73 := h64.step (Stepp.chg_mem hc71 mem0)
      have h74 := (hB7.ext e67).chg hc71 (avoidb hn62)
      have h75 := h65.step (Stepp.chg_mem hc71 mem0)
      have h76 := h66.step (Stepp.chg_mem hc71 mem0)
      have e77 := chg_box e68 hc71 hbf63
      refine T0_q (v := (.int .i64 r47.2)) rfl (yl_assign rfl) ?_
      refine T0_nil ?_
      refine hK46 _ _ ?_
      refine WC_seqK fun K78 hK78 => ?_
      refine WC_region ?_
      refine T0_q (v := (.pointer (some ⟨b3, 0, none⟩))) rfl (yl_fa 0 Tryd.underlying85 rfl rfl ⟨1, sz36⟩ rfl rfl) ?_
      refine T0_q (v := (.agg (List.toArray [(.int .i64 p_lwrongxlwrongxremfd.Place.Lo), (.int .i64 p_lwrongxlwrongxremfd.Place.Hi)]))) rfl (yl_loadA (cs := [(.int .i64 p_lwrongxlwrongxremfd.Place.Lo), (.int .i64 p_lwrongxlwrongxremfd.Place.Hi)]) ag36 rfl (At.take (Box.at h74) 2)) ?_
      obtain ⟨r79, hr80, h⟩ := bind_elim h
      refine T0_e rfl (eff_call Tryd.func60 nm60 rfl (ev1 rfl) (ref04_RangeErr_ok [] _ (LtL.nil _) [(.int .i64 p_lwrongxlwrongxremfd.Place.Lo), (.int .i64 p_lwrongxlwrongxremfd.Place.Hi)] p_lwrongxlwrongxremfd.Place rfl r79 hr80) ?_)
      rintro _ wd81 ⟨he82, rfl⟩
      have e83 := e77.trans he82
      refine T0_q (v := (.int .i64 r79)) rfl (yl_assign rfl) ?_
      refine T0_nil ?_
      refine hK78 _ _ ?_
      refine WC_seqK fun K84 hK84 => ?_
      refine WC_seqK fun K85 hK85 => ?_
      refine WC_region ?_
      refine T0_q (v := (.int .i64 r79)) rfl (yl_move rfl) ?_
      refine T0_q (v := (.bool (decide (r79 = 0)))) rfl (yl_eql rfl rfl) ?_
      refine T0_nil ?_
      refine hK85 _ _ ?_
      obtain ⟨o110, ho111, hn112⟩ := bind_elim h
      refine WC_post (fun (ρ : Env) (wd93 : World) => ∃ (x104 : Int), x104 = o110 ∧ ρ 0 = v_p_Listappend ∧ ρ 1 = (.int .i64 p_String) ∧ ρ 5 = (.pointer (some ⟨b3, 0, none⟩)) ∧ ρ 7 = v40 ∧ ρ 8 = (.int .i64 r36.2) ∧ ρ 9 = (.pointer (some ⟨b57, 0, none⟩)) ∧ ρ 10 = (.int .i64 r47.2) ∧ ρ 11 = (.int .i64 x104) ∧ SlRd ((.pointer (some ⟨b57, 0, none⟩)) :: L) wd93 v_p_Listappend p_Listappend ∧ SlRd ((.pointer (some ⟨b57, 0, none⟩)) :: L) wd93 v40 r36.1 ∧ Box wd93 b3 [(.int .i64 p_lwrongxlwrongxremfd.Place.Lo), (.int .i64 p_lwrongxlwrongxremfd.Place.Hi), (.int .i64 p_lwrongxlwrongxremfd.Speed.Lo), (.int .i64 p_lwrongxlwrongxremfd.Speed.Hi), (.int .i64 p_lwrongxlwrongxremfd.Time)] 85 ∧ Box wd93 b57 [(.int .i64 r47.1.Lo), (.int .i64 r47.1.Hi)] 36 ∧ Ext w wd93) ?_ ?_
      · intro K113 hK113
        replace h := ho111
        clear ho111
        refine WC_cond (b := (decide (r79 = 0))) rfl (fun hb114 => ?_) (fun hb114 => ?_)
        · replace h := cond_t hb114 h
          refine WC_region ?_
          refine T0_q (v := (.pointer (some ⟨b3, 2, none⟩))) rfl (yl_fa 2 Tryd.underlying85 rfl rfl ⟨1, sz36⟩ rfl rfl) ?_
          refine T0_q (v := (.agg (List.toArray [(.int .i64 p_lwrongxlwrongxremfd.Speed.Lo), (.int .i64 p_lwrongxlwrongxremfd.Speed.Hi)]))) rfl (yl_loadA (cs := [(.int .i64 p_lwrongxlwrongxremfd.Speed.Lo), (.int .i64 p_lwrongxlwrongxremfd.Speed.Hi)]) ag36 rfl (At.take (At.drop (Box.at (h74.ext he82)) 2) 2)) ?_
          obtain ⟨r115, hr116, h⟩ := bind_elim h
          refine T0_e rfl (eff_call Tryd.func61 nm61 rfl (ev1 rfl) (ref04_SpeedErr_ok [] _ (LtL.nil _) [(.int .i64 p_lwrongxlwrongxremfd.Speed.Lo), (.int .i64 p_lwrongxlwrongxremfd.Speed.Hi)] p_lwrongxlwrongxremfd.Speed rfl r115 hr116) ?_)
          rintro _ wd117 ⟨he118, rfl⟩
          have e119 := he82.trans he118
          have e120 := e83.trans he118
          refine T0_q (v := (.int .i64 r115)) rfl (yl_assign rfl) ?_
          refine T0_nil ?_
          replace h := some_out h
          subst h
          refine hK113 _ _ ?_
          exact ⟨r115, rfl, rfl, rfl, rfl, rfl, rfl, rfl, rfl, rfl, (h73.ext e119), (h76.ext e119), (h74.ext e119), (hB72.ext e119), e120⟩
        · replace h := cond_f hb114 h
          refine WC_skip ?_
          replace h := some_out h
          subst h
          refine hK113 _ _ ?_
          exact ⟨r79, rfl, rfl, rfl, rfl, rfl, rfl, rfl, rfl, rfl, (h73.ext he82), (h76.ext he82), (h74.ext he82), (hB72.ext he82), e83⟩
      · rintro ρ wd93 ⟨x104, rfl, hs96, hs97, hs98, hs100, hs101, hs102, hs103, hs105, h95, h99, hB107, hB109, e94⟩
        replace h := hn112
        refine hK84 _ _ ?_
        refine WC_seqK fun K121 hK121 => ?_
        refine WC_seqK fun K122 hK122 => ?_
        refine WC_region ?_
        refine T0_q (v := (.int .i64 x104)) rfl (yl_move hs105) ?_
        refine T0_q (v := (.bool (decide (x104 = 0)))) rfl (yl_eql rfl rfl) ?_
        refine T0_nil ?_
        refine hK122 _ _ ?_
        obtain ⟨o146, ho147, hn148⟩ := bind_elim h
        refine WC_post (fun (ρ : Env) (wd129 : World) => ∃ (x140 : Int), x140 = o146 ∧ ρ 0 = v_p_Listappend ∧ ρ 1 = (.int .i64 p_String) ∧ ρ 5 = (.pointer (some ⟨b3, 0, none⟩)) ∧ ρ 7 = v40 ∧ ρ 8 = (.int .i64 r36.2) ∧ ρ 9 = (.pointer (some ⟨b57, 0, none⟩)) ∧ ρ 10 = (.int .i64 r47.2) ∧ ρ 11 = (.int .i64 x140) ∧ SlRd ((.pointer (some ⟨b57, 0, none⟩)) :: L) wd129 v_p_Listappend p_Listappend ∧ SlRd ((.pointer (some ⟨b57, 0, none⟩)) :: L) wd129 v40 r36.1 ∧ Box wd129 b3 [(.int .i64 p_lwrongxlwrongxremfd.Place.Lo), (.int .i64 p_lwrongxlwrongxremfd.Place.Hi), (.int .i64 p_lwrongxlwrongxremfd.Speed.Lo), (.int .i64 p_lwrongxlwrongxremfd.Speed.Hi), (.int .i64 p_lwrongxlwrongxremfd.Time)] 85 ∧ Box wd129 b57 [(.int .i64 r47.1.Lo), (.int .i64 r47.1.Hi)] 36 ∧ Ext w wd129) ?_ ?_
        · intro K149 hK149
          replace h := ho147
          clear ho147
          refine WC_cond (b := (decide (x104 = 0))) rfl (fun hb150 => ?_) (fun hb150 => ?_)
          · replace h := cond_t hb150 h
            refine WC_region ?_
            refine T0_q (v := (.pointer (some ⟨b3, 4, none⟩))) rfl (yl_fa 4 Tryd.underlying85 rfl rfl ⟨0, sz3⟩ hs98 rfl) ?_
            refine T0_q (v := (.int .i64 p_lwrongxlwrongxremfd.Time)) rfl (yl_load sc3 rfl (At.drop (Box.at hB107) 4)) ?_
            obtain ⟨r151, hr152, h⟩ := bind_elim h
            refine T0_e rfl (eff_call Tryd.func62 nm62 rfl (ev1 rfl) (ref04_TimeErr_ok [] _ (LtL.nil _) p_lwrongxlwrongxremfd.Time r151 hr152) ?_)
            rintro _ wd153 ⟨he154, rfl⟩
            have e155 := e94.trans he154
            refine T0_q (v := (.int .i64 r151)) rfl (yl_assign rfl) ?_
            refine T0_nil ?_
            replace h := some_out h
            subst h
            refine hK149 _ _ ?_
            exact ⟨r151, rfl, hs96, hs97, hs98, hs100, hs101, hs102, hs103, rfl, (h95.ext he154), (h99.ext he154), (hB107.ext he154), (hB109.ext he154), e155⟩
          · replace h := cond_f hb150 h
            refine WC_skip ?_
            replace h := some_out h
            subst h
            refine hK149 _ _ ?_
            exact ⟨x104, rfl, hs96, hs97, hs98, hs100, hs101, hs102, hs103, hs105, h95, h99, hB107, hB109, e94⟩
        · rintro ρ wd129 ⟨x140, rfl, hs132, hs133, hs134, hs136, hs137, hs138, hs139, hs141, h131, h135, hB143, hB145, e130⟩
          replace h := hn148
          refine hK121 _ _ ?_
          refine WC_seqK fun K156 hK156 => ?_
          refine WC_seqK fun K157 hK157 => ?_
          refine WC_plan mixed (.p 0 (.p 1 (.p 2 (.p 3 (.p 4 (.p 5 (.p 6 (.p 8 (.q 7 (.p 9 (.p 10 (.p 11 (.p 12 (.p 13 (.p 14 (.p 15 (.p 16 (.p 17 (.p 18 (.p 20 (.p 22 (.p 24 (.q 19 (.q 21 (.q 23 (.q 25 (.e 26 (.p 27 (.p 28 (.p 29 (.p 30 .done))))))))))))))))))))))))))))))) (by kernel_rfl) ?_
          intro wd158 he159
          have e160 := e130.trans he159
          refine TP_p (v := (.int .i64 x140)) rfl rfl (fun w' => (yl_move hs141)) ?_
          refine TP_p (v := (.bool (!decide (x140 = 0)))) rfl rfl (fun w' => (yl_neq rfl rfl)) ?_
          refine TP_p (v := (.bool (!decide (x140 = 0)))) rfl rfl (fun w' => (yl_move rfl)) ?_
          refine TP_gp (v := (.int .i64 r47.2)) (!decide (x140 = 0)) rfl (wanted_t rfl rfl rfl rfl) (fun w' hg => (yl_move hs139)) ?_
          refine TP_gp (v := (.int .i64 x140)) (!decide (x140 = 0)) rfl (wanted_t rfl rfl rfl rfl) (fun w' hg => (yl_move hs141)) ?_
          refine TP_gp (v := (.bool (!decide (r47.2 = x140)))) (!decide (x140 = 0)) rfl (wanted_t rfl rfl rfl rfl) (fun w' hg => (yl_neq (gd_true hg) (gd_true hg))) ?_
          refine TP_gp (v := (.bool (!decide (r47.2 = x140)))) (!decide (x140 = 0)) rfl (wanted_t rfl rfl rfl rfl) (fun w' hg => (yl_move (gd_true hg))) ?_
          refine TP_gp (v := (.agg (List.toArray [(.int .i64 0), (.int .i64 0)]))) ((!decide (x140 = 0)) && (!(!decide (r47.2 = x140)))) rfl (wanted_gf rfl rfl rfl rfl) (fun w' hg => (yl_buildC (cells := [(.int .i64 0), (.int .i64 0)]) bi36 pc_nil rfl)) ?_
          refine TP_gq (v := (.agg (List.toArray [(.int .i64 r47.1.Lo), (.int .i64 r47.1.Hi)]))) ((!decide (x140 = 0)) && (!(!decide (r47.2 = x140)))) rfl (wanted_gf rfl rfl rfl rfl) (fun w' hS hg => (yl_loadA (cs := [(.int .i64 r47.1.Lo), (.int .i64 r47.1.Hi)]) ag36 hs138 (Box.at (hB145.ext ((he159).trans hS))))) ?_
          refine TP_gp (v := (.bool (!(decide ((Range.mk r47.1.Lo r47.1.Hi) = (Range.mk 0 0)))))) ((!decide (x140 = 0)) && (!(!decide (r47.2 = x140)))) rfl (wanted_gf rfl rfl rfl rfl) (fun w' hg => (yl_neqS eg36 (gd_true hg) (gd_true hg) (eqs36 (Range.mk r47.1.Lo r47.1.Hi) (Range.mk 0 0) _))) ?_
          refine TP_gp (v := (.bool ((!decide (r47.2 = x140)) || (!(decide ((Range.mk r47.1.Lo r47.1.Hi) = (Range.mk 0 0))))))) (!decide (x140 = 0)) rfl (wanted_t rfl rfl rfl rfl) (fun w' hg => (yl_or (gd_true hg) rfl (fun hb => (gd_true (and_i hg (not_t hb)))))) ?_
          refine TP_p (v := (.bool ((!decide (x140 = 0)) && ((!decide (r47.2 = x140)) || (!(decide ((Range.mk r47.1.Lo r47.1.Hi) = (Range.mk 0 0)))))))) rfl rfl (fun w' => (yl_and rfl (fun hb => (gd_true hb)) rfl)) ?_
          refine TP_p (v := (.bool ((!decide (x140 = 0)) && ((!decide (r47.2 = x140)) || (!(decide ((Range.mk r47.1.Lo r47.1.Hi) = (Range.mk 0 0)))))))) rfl rfl (fun w' => (yl_move rfl)) ?_
          refine TP_gp (v := (.int .i64 x140)) (!((!decide (x140 = 0)) && ((!decide (r47.2 = x140)) || (!(decide ((Range.mk r47.1.Lo r47.1.Hi) = (Range.mk 0 0))))))) rfl (wanted_f rfl rfl rfl rfl) (fun w' hg => (yl_move hs141)) ?_
          refine TP_gp (v := (.bool (decide (x140 = 0)))) (!((!decide (x140 = 0)) && ((!decide (r47.2 = x140)) || (!(decide ((Range.mk r47.1.Lo r47.1.Hi) = (Range.mk 0 0))))))) rfl (wanted_f rfl rfl rfl rfl) (fun w' hg => (yl_eql (gd_true hg) rfl)) ?_
          refine TP_gp (v := (.bool (decide (x140 = 0)))) (!((!decide (x140 = 0)) && ((!decide (r47.2 = x140)) || (!(decide ((Range.mk r47.1.Lo r47.1.Hi) = (Range.mk 0 0))))))) rfl (wanted_f rfl rfl rfl rfl) (fun w' hg => (yl_move (gd_true hg))) ?_
          refine TP_gp (v := (.int .i64 r47.2)) ((!((!decide (x140 = 0)) && ((!decide (r47.2 = x140)) || (!(decide ((Range.mk r47.1.Lo r47.1.Hi) = (Range.mk 0 0))))))) && (decide (x140 = 0))) rfl (wanted_gt rfl rfl rfl rfl) (fun w' hg => (yl_move hs139)) ?_
          refine TP_gp (v := (.bool (!decide (r47.2 = 0)))) ((!((!decide (x140 = 0)) && ((!decide (r47.2 = x140)) || (!(decide ((Range.mk r47.1.Lo r47.1.Hi) = (Range.mk 0 0))))))) && (decide (x140 = 0))) rfl (wanted_gt rfl rfl rfl rfl) (fun w' hg => (yl_neq (gd_true hg) rfl)) ?_
          refine TP_gp (v := (.bool (!decide (r47.2 = 0)))) ((!((!decide (x140 = 0)) && ((!decide (r47.2 = x140)) || (!(decide ((Range.mk r47.1.Lo r47.1.Hi) = (Range.mk 0 0))))))) && (decide (x140 = 0))) rfl (wanted_gt rfl rfl rfl rfl) (fun w' hg => (yl_move (gd_true hg))) ?_
          refine TP_gp (v := (.pointer (some ⟨b3, 0, none⟩))) (((!((!decide (x140 = 0)) && ((!decide (r47.2 = x140)) || (!(decide ((Range.mk r47.1.Lo r47.1.Hi) = (Range.mk 0 0))))))) && (decide (x140 = 0))) && (!(!decide (r47.2 = 0)))) rfl (wanted_gf rfl rfl rfl rfl) (fun w' hg => (yl_fa 0 Tryd.underlying85 rfl rfl ⟨1, sz36⟩ hs134 rfl)) ?_
          refine TP_gp (v := (.pointer (some ⟨b3, 2, none⟩))) (((!((!decide (x140 = 0)) && ((!decide (r47.2 = x140)) || (!(decide ((Range.mk r47.1.Lo r47.1.Hi) = (Range.mk 0 0))))))) && (decide (x140 = 0))) && (!(!decide (r47.2 = 0)))) rfl (wanted_gf rfl rfl rfl rfl) (fun w' hg => (yl_fa 2 Tryd.underlying85 rfl rfl ⟨1, sz36⟩ hs134 rfl)) ?_
          refine TP_gp (v := (.pointer (some ⟨b3, 4, none⟩))) (((!((!decide (x140 = 0)) && ((!decide (r47.2 = x140)) || (!(decide ((Range.mk r47.1.Lo r47.1.Hi) = (Range.mk 0 0))))))) && (decide (x140 = 0))) && (!(!decide (r47.2 = 0)))) rfl (wanted_gf rfl rfl rfl rfl) (fun w' hg => (yl_fa 4 Tryd.underlying85 rfl rfl ⟨0, sz3⟩ hs134 rfl)) ?_
          refine TP_gq (v := (.agg (List.toArray [(.int .i64 r47.1.Lo), (.int .i64 r47.1.Hi)]))) (((!((!decide (x140 = 0)) && ((!decide (r47.2 = x140)) || (!(decide ((Range.mk r47.1.Lo r47.1.Hi) = (Range.mk 0 0))))))) && (decide (x140 = 0))) && (!(!decide (r47.2 = 0)))) rfl (wanted_gf rfl rfl rfl rfl) (fun w' hS hg => (yl_loadA (cs := [(.int .i64 r47.1.Lo), (.int .i64 r47.1.Hi)]) ag36 hs138 (Box.at (hB145.ext ((he159).trans hS))))) ?_
          refine TP_gq (v := (.agg (List.toArray [(.int .i64 p_lwrongxlwrongxremfd.Place.Lo), (.int .i64 p_lwrongxlwrongxremfd.Place.Hi)]))) (((!((!decide (x140 = 0)) && ((!decide (r47.2 = x140)) || (!(decide ((Range.mk r47.1.Lo r47.1.Hi) = (Range.mk 0 0))))))) && (decide (x140 = 0))) && (!(!decide (r47.2 = 0)))) rfl (wanted_gf rfl rfl rfl rfl) (fun w' hS hg => (yl_loadA (cs := [(.int .i64 p_lwrongxlwrongxremfd.Place.Lo), (.int .i64 p_lwrongxlwrongxremfd.Place.Hi)]) ag36 (gd_true hg) (At.take (Box.at (hB143.ext ((he159).trans hS))) 2))) ?_
          refine TP_gq (v := (.agg (List.toArray [(.int .i64 p_lwrongxlwrongxremfd.Speed.Lo), (.int .i64 p_lwrongxlwrongxremfd.Speed.Hi)]))) (((!((!decide (x140 = 0)) && ((!decide (r47.2 = x140)) || (!(decide ((Range.mk r47.1.Lo r47.1.Hi) = (Range.mk 0 0))))))) && (decide (x140 = 0))) && (!(!decide (r47.2 = 0)))) rfl (wanted_gf rfl rfl rfl rfl) (fun w' hS hg => (yl_loadA (cs := [(.int .i64 p_lwrongxlwrongxremfd.Speed.Lo), (.int .i64 p_lwrongxlwrongxremfd.Speed.Hi)]) ag36 (gd_true hg) (At.take (At.drop (Box.at (hB143.ext ((he159).trans hS))) 2) 2))) ?_
          refine TP_gq (v := (.int .i64 p_lwrongxlwrongxremfd.Time)) (((!((!decide (x140 = 0)) && ((!decide (r47.2 = x140)) || (!(decide ((Range.mk r47.1.Lo r47.1.Hi) = (Range.mk 0 0))))))) && (decide (x140 = 0))) && (!(!decide (r47.2 = 0)))) rfl (wanted_gf rfl rfl rfl rfl) (fun w' hS hg => (yl_load sc3 (gd_true hg) (At.drop (Box.at (hB143.ext ((he159).trans hS))) 4))) ?_
          obtain ⟨r161, hr162, h⟩ := bind_elim h
          refine TP_ges (((!((!decide (x140 = 0)) && ((!decide (r47.2 = x140)) || (!(decide ((Range.mk r47.1.Lo r47.1.Hi) = (Range.mk 0 0))))))) && (decide (x140 = 0))) && (!(!decide (r47.2 = 0)))) (.agg (List.toArray [(.int .i64 r161.Lo), (.int .i64 r161.Hi)])) rfl (wanted_gf rfl rfl rfl rfl) (fun hg => eff_call Tryd.func63 nm63 rfl (ev3 (gd_true hg) (gd_true hg) (gd_true hg)) (ref04_Moved_ok [] _ (LtL.nil _) [(.int .i64 p_lwrongxlwrongxremfd.Place.Lo), (.int .i64 p_lwrongxlwrongxremfd.Place.Hi)] p_lwrongxlwrongxremfd.Place rfl [(.int .i64 p_lwrongxlwrongxremfd.Speed.Lo), (.int .i64 p_lwrongxlwrongxremfd.Speed.Hi)] p_lwrongxlwrongxremfd.Speed rfl p_lwrongxlwrongxremfd.Time r161 (cond_t hg hr162)) (by rintro _ wd163 ⟨he164, cs165, rfl, hrd166⟩; have hrd166 : cs165 = [(.int .i64 r161.Lo), (.int .i64 r161.Hi)] := hrd166; subst hrd166; exact ⟨rfl, he164⟩)) ?_
          intro wd163 he164
          have e167 := he159.trans he164
          have e168 := e160.trans he164
          refine ⟨he164, ?_⟩
          refine TP_gp (v := (.bool (!(decide ((Range.mk r47.1.Lo r47.1.Hi) = r161))))) (((!((!decide (x140 = 0)) && ((!decide (r47.2 = x140)) || (!(decide ((Range.mk r47.1.Lo r47.1.Hi) = (Range.mk 0 0))))))) && (decide (x140 = 0))) && (!(!decide (r47.2 = 0)))) rfl (wanted_gf rfl rfl rfl rfl) (fun w' hg => (yl_neqS eg36 (gd_true hg) (gd_true hg) (eqs36 (Range.mk r47.1.Lo r47.1.Hi) r161 _))) ?_
          refine TP_gp (v := (.bool ((!decide (r47.2 = 0)) || (!(decide ((Range.mk r47.1.Lo r47.1.Hi) = r161)))))) ((!((!decide (x140 = 0)) && ((!decide (r47.2 = x140)) || (!(decide ((Range.mk r47.1.Lo r47.1.Hi) = (Range.mk 0 0))))))) && (decide (x140 = 0))) rfl (wanted_gt rfl rfl rfl rfl) (fun w' hg => (yl_or (gd_true hg) rfl (fun hb => (gd_true (and_i hg (not_t hb)))))) ?_
          refine TP_gp (v := (.bool ((decide (x140 = 0)) && ((!decide (r47.2 = 0)) || (!(decide ((Range.mk r47.1.Lo r47.1.Hi) = r161))))))) (!((!decide (x140 = 0)) && ((!decide (r47.2 = x140)) || (!(decide ((Range.mk r47.1.Lo r47.1.Hi) = (Range.mk 0 0))))))) rfl (wanted_f rfl rfl rfl rfl) (fun w' hg => (yl_and (gd_true hg) (fun hb => (gd_true (and_i hg hb))) rfl)) ?_
          refine TP_p (v := (.bool (((!decide (x140 = 0)) && ((!decide (r47.2 = x140)) || (!(decide ((Range.mk r47.1.Lo r47.1.Hi) = (Range.mk 0 0)))))) || ((decide (x140 = 0)) && ((!decide (r47.2 = 0)) || (!(decide ((Range.mk r47.1.Lo r47.1.Hi) = r161)))))))) rfl rfl (fun w' => (yl_or rfl rfl (fun hb => (gd_true (not_t hb))))) ?_
          refine TP_done ?_
          refine hK157 _ _ ?_
          refine WC_cond (b := (((!decide (x140 = 0)) && ((!decide (r47.2 = x140)) || (!(decide ((Range.mk r47.1.Lo r47.1.Hi) = (Range.mk 0 0)))))) || ((decide (x140 = 0)) && ((!decide (r47.2 = 0)) || (!(decide ((Range.mk r47.1.Lo r47.1.Hi) = r161))))))) rfl (fun hb169 => ?_) (fun hb169 => ?_)
          · replace h := cond_t hb169 h
            refine WC_seqK fun K170 hK170 => ?_
            refine WC_region ?_
            refine T0_q (v := (.bool false)) rfl (yl_assign rfl) ?_
            refine T0_nil ?_
            refine hK170 _ _ ?_
            refine WC_ret ?_
            replace h := some_out h
            subst h
            exact ⟨[(.bool false)], ⟨rfl, trivial⟩, e168, rfl⟩
          · replace h := cond_f hb169 h
            refine WC_skip ?_
            refine hK156 _ _ ?_
            refine WC_seqK fun K171 hK171 => ?_
            refine WC_seqK fun K172 hK172 => ?_
            refine WC_region ?_
            refine T0_q (v := v_p_Listappend) rfl (yl_move hs132) ?_
            refine T0_q (v := (.int .i64 p_String)) rfl (yl_move hs133) ?_
            obtain ⟨r173, hr174, h⟩ := bind_elim h
            refine T0_e rfl (eff_call Tryd.func64 nm64 rfl (ev2 rfl rfl) (ref04_FusedErr_ok [] _ (LtL.nil _) v_p_Listappend p_Listappend ((h131.ext e167).sub (fun _ h => by cases h)) p_String r173 hr174) ?_)
            rintro _ wd175 ⟨he176, rfl⟩
            have e177 := e167.trans he176
            have e178 := e168.trans he176
            refine T0_q (v := (.int .i64 r173)) rfl (yl_assign rfl) ?_
            refine T0_nil ?_
            refine hK172 _ _ ?_
            refine WC_seqK fun K179 hK179 => ?_
            refine WC_region ?_
            refine T0_q (v := (.int .i64 r173)) rfl (yl_move rfl) ?_
            refine T0_q (v := (.bool (!decide (r173 = 0)))) rfl (yl_neq rfl rfl) ?_
            refine T0_nil ?_
            refine hK179 _ _ ?_
            refine WC_cond (b := (!decide (r173 = 0))) rfl (fun hb180 => ?_) (fun hb180 => ?_)
            · replace h := cond_t hb180 h
              refine WC_seqK fun K181 hK181 => ?_
              refine WC_region ?_
              refine T0_q (v := (.int .i64 r36.2)) rfl (yl_move hs137) ?_
              refine T0_q (v := (.int .i64 r173)) rfl (yl_move rfl) ?_
              refine T0_q (v := (.bool (decide (r36.2 = r173)))) rfl (yl_eql rfl rfl) ?_
              refine T0_q (v := (.bool (decide (r36.2 = r173)))) rfl (yl_move rfl) ?_
              refine T0_g (v := v40) (decide (r36.2 = r173)) (wanted_t rfl rfl rfl rfl) (fun hg => (yl_move hs136)) ?_
              refine T0_g (v := (.int .i64 (r36.1.length : Int))) (decide (r36.2 = r173)) (wanted_t rfl rfl rfl rfl) (fun hg => (yl_lenR rfl Tryd.underlying29 h135 (gd_true hg))) ?_
              refine T0_g (v := (.bool (decide ((r36.1.length : Int) = 0)))) (decide (r36.2 = r173)) (wanted_t rfl rfl rfl rfl) (fun hg => (yl_eql (gd_true hg) rfl)) ?_
              refine T0_q (v := (.bool ((decide (r36.2 = r173)) && (decide ((r36.1.length : Int) = 0))))) rfl (yl_and rfl (fun hb => (gd_true hb)) rfl) ?_
              refine T0_q (v := (.bool ((decide (r36.2 = r173)) && (decide ((r36.1.length : Int) = 0))))) rfl (yl_assign rfl) ?_
              refine T0_nil ?_
              refine hK181 _ _ ?_
              refine WC_ret ?_
              replace h := some_out h
              subst h
              exact ⟨[(.bool ((decide (r36.2 = r173)) && (decide ((r36.1.length : Int) = 0))))], ⟨rfl, trivial⟩, e178, rfl⟩
            · replace h := cond_f hb180 h
              refine WC_skip ?_
              refine hK171 _ _ ?_
              refine WC_seqK fun K182 hK182 => ?_
              refine WC_region ?_
              refine T0_q (v := (.int .i64 r36.2)) rfl (yl_move hs137) ?_
              refine T0_q (v := (.bool (decide (r36.2 = 0)))) rfl (yl_eql rfl rfl) ?_
              refine T0_q (v := (.bool (decide (r36.2 = 0)))) rfl (yl_move rfl) ?_
              refine T0_g (v := v40) (decide (r36.2 = 0)) (wanted_t rfl rfl rfl rfl) (fun hg => (yl_move hs136)) ?_
              refine T0_g (v := v_p_Listappend) (decide (r36.2 = 0)) (wanted_t rfl rfl rfl rfl) (fun hg => (yl_move hs132)) ?_
              refine T0_g (v := (.int .i64 p_String)) (decide (r36.2 = 0)) (wanted_t rfl rfl rfl rfl) (fun hg => (yl_move hs133)) ?_
              obtain ⟨r183, hr184, h⟩ := bind_elim h
              refine T0_gx (fun v w' => SlRd ((.pointer (some ⟨b57, 0, none⟩)) :: L) w' v r183) (decide (r36.2 = 0)) (wanted_t rfl rfl rfl rfl) (fun hg => eff_call Tryd.func65 nm65 rfl (ev2 (gd_true hg) (gd_true hg)) (ref04_Fused_ok ((.pointer (some ⟨b57, 0, none⟩)) :: L) _ (ltl_box (hL.chg e178) (hB145.ext e177)) v_p_Listappend p_Listappend (h131.ext e177) p_String r183 (cond_t hg hr184)) (by rintro _ wd185 ⟨he186, v187, rfl, h188⟩; exact ⟨he186, h188⟩)) ?_
              intro v189 wd185 he186 h190
              have e191 := e177.trans he186
              have e192 := e178.trans he186
              obtain ⟨r195, hr196, h⟩ := bind_elim h
              refine T0_ges (decide (r36.2 = 0)) (.bool r195) (wanted_t rfl rfl rfl rfl) (fun hg => eff_call Tryd.func27 nm27 rfl (ev2 (gd_true hg) (gd_true hg)) (base_Ranges_ok [] _ (LtL.nil _) v40 r36.1 ((h135.ext e191).sub (fun _ h => by cases h)) v189 r183 ((h190 hg).sub (fun _ h => by cases h)) r195 (cond_t hg hr196)) (by rintro _ wd197 ⟨he198, rfl⟩; exact ⟨rfl, he198⟩)) ?_
              intro wd197 he198
              have e199 := e191.trans he198
              have e200 := e192.trans he198
              refine T0_q (v := (.bool ((decide (r36.2 = 0)) && r195))) rfl (yl_and rfl (fun hb => (gd_true hb)) rfl) ?_
              refine T0_q (v := (.bool ((decide (r36.2 = 0)) && r195))) rfl (yl_assign rfl) ?_
              refine T0_nil ?_
              refine hK182 _ _ ?_
              refine WC_ret ?_
              replace h := some_out h
              subst h
              exact ⟨[(.bool ((decide (r36.2 = 0)) && r195))], ⟨rfl, trivial⟩, e200, rfl⟩

end Go.Gw
