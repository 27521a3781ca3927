/- What functions come to, printed by a program of this work. No condition. -/
import Derived.Test.YtgpapebgdnimfaaDoorGwFnC
set_option maxRecDepth 4096
set_option maxHeartbeats 1000000
set_option linter.unusedVariables false
namespace Go.Gw
open Go Go.Proofs
attribute [local irreducible] T0 TS TT TP Eff Stp WC Quiet gd
noncomputable def ref04_DistanceOf_s0 (p_t : LocateTrack) (x1420 : Int) : (Int × Bool × Int × Int × Int) → Option ((Int × Bool × Int × Int × Int) ⊕ (Int × Bool × Int × Int)) := fun (x1681, x1684, x1687, x1691, x1692) =>
  (Option.bind (ref04_WindowsOf_spec p_t) fun r1727 =>
  (bif (decide (x1687 < r1727)) then (
    (Option.bind (ref04_WindowAt_spec p_t x1420) fun r1739 =>
    (Option.bind (ref04_WindowAt_spec p_t x1687) fun r1748 =>
    (Option.bind (ref04_Differ_spec r1739 r1748) fun r1758 =>
    (bif ((!x1684) || (decide (r1758 < x1681))) then (
      some (.inl (r1758, true, w64 (x1687 + 1), x1420, x1687))
    ) else (
      some (.inl (x1681, x1684, w64 (x1687 + 1), x1691, x1692))
    ))
    )
    )
    )
  ) else (
    some (.inr (x1681, x1684, x1691, x1692))
  ))
  )
noncomputable def ref04_DistanceOf_s1 (p_t : LocateTrack) : (Int × Bool × Int × Int × Int) → Option ((Int × Bool × Int × Int × Int) ⊕ (Int × Bool × Int × Int)) := fun (x1415, x1418, x1420, x1424, x1425) =>
  (Option.bind (ref04_WindowsOf_spec p_t) fun r1455 =>
  (bif (decide (x1420 < r1455)) then (
    (Option.bind (loop (ref04_DistanceOf_s0 p_t x1420) (x1415, x1418, w64 (x1420 + 1), x1424, x1425)) fun ((x1702, x1705, x1710, x1711) : Int × Bool × Int × Int) =>
    some (.inl (x1702, x1705, w64 (x1420 + 1), x1710, x1711))
    )
  ) else (
    some (.inr (x1415, x1418, x1424, x1425))
  ))
  )
noncomputable def ref04_DistanceOf_spec (p_t : LocateTrack) : Option (Int × Arr2_Int × Bool) :=
  (Option.bind (loop (ref04_DistanceOf_s1 p_t) (0, false, 0, 0, 0)) fun ((x1434, x1437, x1441, x1442) : Int × Bool × Int × Int) =>
  some (x1434, (Arr2_Int.mk x1441 x1442), x1437)
  )
theorem ref04_DistanceOf_ok (L : List Value) (w : World) (hL : LtL L w) (cs_p_t : List Value) (p_t : LocateTrack) (h_p_t : Rep.rd L w cs_p_t p_t) (r : Int × Arr2_Int × Bool) (h : ref04_DistanceOf_spec p_t = some r) :
    CallsTo Tryd.prog 74 [(.agg cs_p_t.toArray)] w (fun v w' => Ext w w' ∧ ∃ (cs1 : List Value), (.tuple #[(.int .i64 r.1), (.agg cs1.toArray), (.bool r.2.2)]) = v ∧ Rep.rd L w' cs1 r.2.1) := by
  have e0 : Ext w w := Chg.refl _ _
  obtain ⟨v1, h2, rfl⟩ := h_p_t
  refine callsTo_of_WC (n := 47) (rs := [.tmp 2, .cell 3 115, .tmp 4]) Tryd.func74 rfl rfl rfl rfl rfl ?_
  refine WC_seqK fun K4 hK4 => ?_
  refine WC_region ?_
  refine T0_e rfl (eff_boxC (cs := [v1, (.int .i64 p_t.Window), (.int .i64 p_t.Tooth), (.int .i64 p_t.PerVane), (.int .i64 p_t.First), (.int .i64 p_t.Modulus), (.int .i64 p_t.Slack), (.int .i64 p_t.Errors), (.bool p_t.Round)]) rfl rfl ?_)
  intro b5 wd6 hb7 he8 hB9
  have hbf10 := bfresh e0 hb7
  have e11 := e0.trans he8
  refine T0_q (v := (.int .i64 0)) rfl (yl_assign rfl) ?_
  refine T0_e rfl (eff_allocZ zi115 ?_)
  intro b13 wd14 hb15 he16 hB17
  have hn18 : b13 ≠ b5 := box_ne hB9 hb15
  have hbf19 := bfresh e11 hb15
  have h20 := (h2.ext he8).step (add_box he16 hb15)
  have e21 := e11.trans he16
  refine T0_q (v := (.bool false)) rfl (yl_assign rfl) ?_
  refine T0_nil ?_
  refine hK4 _ _ ?_
  refine WC_seqK fun K23 hK23 => ?_
  refine WC_region ?_
  refine T0_q (v := (.agg (List.toArray [(.int .i64 0), (.int .i64 0)]))) rfl (yl_buildA (cells := [(.int .i64 0), (.int .i64 0)]) Tryd.underlying115 sz3 zi115 pc_nil rfl) ?_
  refine T0_e rfl (eff_allocZ zi115 ?_)
  intro b24 wd25 hb26 he27 hB28
  have hn29 : b24 ≠ b5 := box_ne (hB9.ext he16) hb26
  have hn30 : b24 ≠ b13 := box_ne hB17 hb26
  have hbf31 := bfresh e21 hb26
  have h32 := h20.step (add_box he27 hb26)
  have e33 := he16.trans he27
  have e34 := e21.trans he27
  refine T0_q (v := (.int .i64 0)) rfl (yl_assign rfl) ?_
  refine T0_e rfl (eff_storeC (vs := [(.int .i64 0), (.int .i64 0)]) (cs' := [(.int .i64 0), (.int .i64 0)]) sz115 rfl rfl rfl rfl hB28 rfl (oc_cons rfl (oc_cons rfl oc_nil)) rfl ?_)
  intro wd36 hc37 hB38
  have h39 := h32.step (Stepp.chg_mem hc37 mem0)
  have h40 := (hB9.ext e33).chg hc37 (avoidb hn29)
  have h41 := (hB17.ext he27).chg hc37 (avoidb hn30)
  have e42 := chg_box e34 hc37 hbf31
  refine T0_q (v := (.bool false)) rfl (yl_assign rfl) ?_
  refine T0_nil ?_
  refine hK23 _ _ ?_
  refine WC_seqK fun K43 hK43 => ?_
  refine WC_seqK fun K44 hK44 => ?_
  refine WC_region ?_
  refine T0_q (v := (.int .i64 0)) rfl (yl_assign rfl) ?_
  refine T0_nil ?_
  refine hK44 _ _ ?_
  obtain ⟨o1445, hl1446, hn1447⟩ := bind_elim h
  refine WC_post (fun (ρ : Env) (wd1431 : World) => ∃ (x1434 : Int) (x1437 : Bool) (x1441 : Int) (x1442 : Int), (x1434, x1437, x1441, x1442) = o1445 ∧ ρ 3 = (.pointer (some ⟨b13, 0, none⟩)) ∧ ρ 5 = (.int .i64 x1434) ∧ ρ 6 = (.pointer (some ⟨b24, 0, none⟩)) ∧ ρ 7 = (.bool x1437) ∧ Box wd1431 b13 [(.int .i64 0), (.int .i64 0)] 115 ∧ Box wd1431 b24 [(.int .i64 x1441), (.int .i64 x1442)] 115 ∧ Ext w wd1431) ?_ ?_
  · intro K1451 hK1451
    refine WC_block ?_
    refine WC_loopk (fun sv ρ wd1411 => ∃ (x1415 : Int) (x1418 : Bool) (x1420 : Int) (x1424 : Int) (x1425 : Int), (x1415, x1418, x1420, x1424, x1425) = sv ∧ ρ 1 = (.pointer (some ⟨b5, 0, none⟩)) ∧ ρ 3 = (.pointer (some ⟨b13, 0, none⟩)) ∧ ρ 5 = (.int .i64 x1415) ∧ ρ 6 = (.pointer (some ⟨b24, 0, none⟩)) ∧ ρ 7 = (.bool x1418) ∧ ρ 8 = (.int .i64 x1420) ∧ SlRd ((.pointer (some ⟨b24, 0, none⟩)) :: (.pointer (some ⟨b13, 0, none⟩)) :: L) wd1411 v1 p_t.Vanes ∧ Box wd1411 b13 [(.int .i64 0), (.int .i64 0)] 115 ∧ Box wd1411 b24 [(.int .i64 x1424), (.int .i64 x1425)] 115 ∧ Box wd1411 b5 [v1, (.int .i64 p_t.Window), (.int .i64 p_t.Tooth), (.int .i64 p_t.PerVane), (.int .i64 p_t.First), (.int .i64 p_t.Modulus), (.int .i64 p_t.Slack), (.int .i64 p_t.Errors), (.bool p_t.Round)] 24 ∧ Ext w wd1411) hl1446 ⟨0, false, 0, 0, 0, rfl, rfl, rfl, rfl, rfl, rfl, rfl, h39, h41, hB38, h40, e42⟩ ?_
    rintro _ ρ wd1411 ⟨x1415, x1418, x1420, x1424, x1425, rfl, hs1413, hs1414, hs1416, hs1417, hs1419, hs1421, h1428, hB1423, hB1427, hB1430, e1412⟩ x1448 h hx1449 K1450 hK1450
    refine WC_seqK fun K1453 hK1453 => ?_
    refine WC_seqK fun K1454 hK1454 => ?_
    refine WC_region ?_
    refine T0_q (v := (.int .i64 x1420)) rfl (yl_move hs1421) ?_
    refine T0_q (v := (.agg (List.toArray [v1, (.int .i64 p_t.Window), (.int .i64 p_t.Tooth), (.int .i64 p_t.PerVane), (.int .i64 p_t.First), (.int .i64 p_t.Modulus), (.int .i64 p_t.Slack), (.int .i64 p_t.Errors), (.bool p_t.Round)]))) rfl (yl_loadA (cs := [v1, (.int .i64 p_t.Window), (.int .i64 p_t.Tooth), (.int .i64 p_t.PerVane), (.int .i64 p_t.First), (.int .i64 p_t.Modulus), (.int .i64 p_t.Slack), (.int .i64 p_t.Errors), (.bool p_t.Round)]) ag24 hs1413 (Box.at hB1430)) ?_
    obtain ⟨r1455, hr1456, h⟩ := bind_elim h
    refine T0_e rfl (eff_call Tryd.func48 nm48 rfl (ev1 rfl) (ref04_WindowsOf_ok [] _ (LtL.nil _) [v1, (.int .i64 p_t.Window), (.int .i64 p_t.Tooth), (.int .i64 p_t.PerVane), (.int .i64 p_t.First), (.int .i64 p_t.Modulus), (.int .i64 p_t.Slack), (.int .i64 p_t.Errors), (.bool p_t.Round)] p_t ⟨v1, (h1428.sub (fun _ h => by cases h)), rfl⟩ r1455 hr1456) ?_)
    rintro _ wd1457 ⟨he1458, rfl⟩
    have e1459 := e1412.trans he1458
    refine T0_q (v := (.bool (decide (x1420 < r1455)))) rfl (yl_lss rfl rfl) ?_
    refine T0_nil ?_
    refine hK1454 _ _ ?_
    refine WC_cond (b := (decide (x1420 < r1455))) rfl (fun hb1460 => ?_) (fun hb1460 => ?_)
    · replace h := cond_t hb1460 h
      refine WC_skip ?_
      refine hK1453 _ _ ?_
      refine WC_seqK fun K1461 hK1461 => ?_
      refine WC_block ?_
      refine WC_seqK fun K1462 hK1462 => ?_
      refine WC_region ?_
      refine T0_q (v := (.int .i64 x1420)) rfl (yl_move hs1421) ?_
      refine T0_q (v := (.int .i64 (w64 (x1420 + 1)))) rfl (yl_add rfl rfl) ?_
      refine T0_q (v := (.int .i64 (w64 (x1420 + 1)))) rfl (yl_assign rfl) ?_
      refine T0_nil ?_
      refine hK1462 _ _ ?_
      obtain ⟨o1717, hl1718, hn1719⟩ := bind_elim h
      refine WC_post (fun (ρ : Env) (wd1698 : World) => ∃ (x1702 : Int) (x1705 : Bool) (x1710 : Int) (x1711 : Int), (x1702, x1705, x1710, x1711) = o1717 ∧ ρ 1 = (.pointer (some ⟨b5, 0, none⟩)) ∧ ρ 3 = (.pointer (some ⟨b13, 0, none⟩)) ∧ ρ 5 = (.int .i64 x1702) ∧ ρ 6 = (.pointer (some ⟨b24, 0, none⟩)) ∧ ρ 7 = (.bool x1705) ∧ ρ 8 = (.int .i64 x1420) ∧ SlRd ((.pointer (some ⟨b24, 0, none⟩)) :: (.pointer (some ⟨b13, 0, none⟩)) :: L) wd1698 v1 p_t.Vanes ∧ Box wd1698 b13 [(.int .i64 0), (.int .i64 0)] 115 ∧ Box wd1698 b24 [(.int .i64 x1710), (.int .i64 x1711)] 115 ∧ Box wd1698 b5 [v1, (.int .i64 p_t.Window), (.int .i64 p_t.Tooth), (.int .i64 p_t.PerVane), (.int .i64 p_t.First), (.int .i64 p_t.Modulus), (.int .i64 p_t.Slack), (.int .i64 p_t.Errors), (.bool p_t.Round)] 24 ∧ Ext w wd1698) ?_ ?_
      · intro K1723 hK1723
        refine WC_block ?_
        refine WC_loopk (fun sv ρ wd1677 => ∃ (x1681 : Int) (x1684 : Bool) (x1687 : Int) (x1691 : Int) (x1692 : Int), (x1681, x1684, x1687, x1691, x1692) = sv ∧ ρ 1 = (.pointer (some ⟨b5, 0, none⟩)) ∧ ρ 3 = (.pointer (some ⟨b13, 0, none⟩)) ∧ ρ 5 = (.int .i64 x1681) ∧ ρ 6 = (.pointer (some ⟨b24, 0, none⟩)) ∧ ρ 7 = (.bool x1684) ∧ ρ 8 = (.int .i64 x1420) ∧ ρ 9 = (.int .i64 x1687) ∧ SlRd ((.pointer (some ⟨b24, 0, none⟩)) :: (.pointer (some ⟨b13, 0, none⟩)) :: L) wd1677 v1 p_t.Vanes ∧ Box wd1677 b13 [(.int .i64 0), (.int .i64 0)] 115 ∧ Box wd1677 b24 [(.int .i64 x1691), (.int .i64 x1692)] 115 ∧ Box wd1677 b5 [v1, (.int .i64 p_t.Window), (.int .i64 p_t.Tooth), (.int .i64 p_t.PerVane), (.int .i64 p_t.First), (.int .i64 p_t.Modulus), (.int .i64 p_t.Slack), (.int .i64 p_t.Errors), (.bool p_t.Round)] 24 ∧ Ext w wd1677) hl1718 ⟨x1415, x1418, w64 (x1420 + 1), x1424, x1425, rfl, hs1413, hs1414, hs1416, hs1417, hs1419, hs1421, rfl, (h1428.ext he1458), (hB1423.ext he1458), (hB1427.ext he1458), (hB1430.ext he1458), e1459⟩ ?_
        rintro _ ρ wd1677 ⟨x1681, x1684, x1687, x1691, x1692, rfl, hs1679, hs1680, hs1682, hs1683, hs1685, hs1686, hs1688, h1695, hB1690, hB1694, hB1697, e1678⟩ x1720 h hx1721 K1722 hK1722
        refine WC_seqK fun K1725 hK1725 => ?_
        refine WC_seqK fun K1726 hK1726 => ?_
        refine WC_region ?_
        refine T0_q (v := (.int .i64 x1687)) rfl (yl_move hs1688) ?_
        refine T0_q (v := (.agg (List.toArray [v1, (.int .i64 p_t.Window), (.int .i64 p_t.Tooth), (.int .i64 p_t.PerVane), (.int .i64 p_t.First), (.int .i64 p_t.Modulus), (.int .i64 p_t.Slack), (.int .i64 p_t.Errors), (.bool p_t.Round)]))) rfl (yl_loadA (cs := [v1, (.int .i64 p_t.Window), (.int .i64 p_t.Tooth), (.int .i64 p_t.PerVane), (.int .i64 p_t.First), (.int .i64 p_t.Modulus), (.int .i64 p_t.Slack), (.int .i64 p_t.Errors), (.bool p_t.Round)]) ag24 hs1679 (Box.at hB1697)) ?_
        obtain ⟨r1727, hr1728, h⟩ := bind_elim h
        refine T0_e rfl (eff_call Tryd.func48 nm48 rfl (ev1 rfl) (ref04_WindowsOf_ok [] _ (LtL.nil _) [v1, (.int .i64 p_t.Window), (.int .i64 p_t.Tooth), (.int .i64 p_t.PerVane), (.int .i64 p_t.First), (.int .i64 p_t.Modulus), (.int .i64 p_t.Slack), (.int .i64 p_t.Errors), (.bool p_t.Round)] p_t ⟨v1, (h1695.sub (fun _ h => by cases h)), rfl⟩ r1727 hr1728) ?_)
        rintro _ wd1729 ⟨he1730, rfl⟩
        have e1731 := e1678.trans he1730
        refine T0_q (v := (.bool (decide (x1687 < r1727)))) rfl (yl_lss rfl rfl) ?_
        refine T0_nil ?_
        refine hK1726 _ _ ?_
        refine WC_cond (b := (decide (x1687 < r1727))) rfl (fun hb1732 => ?_) (fun hb1732 => ?_)
        · replace h := cond_t hb1732 h
          refine WC_skip ?_
          refine hK1725 _ _ ?_
          refine WC_seqK fun K1733 hK1733 => ?_
          refine WC_block ?_
          refine WC_seqK fun K1734 hK1734 => ?_
          refine WC_plan mixed (.p 1 (.p 4 (.q 0 (.q 3 (.e 2 (.e 5 (.e 6 (.p 7 .done)))))))) (by kernel_rfl) ?_
          intro wd1735 he1736
          have e1737 := he1730.trans he1736
          have e1738 := e1731.trans he1736
          refine TP_p (v := (.int .i64 x1420)) rfl rfl (fun w' => (yl_move hs1686)) ?_
          refine TP_p (v := (.int .i64 x1687)) rfl rfl (fun w' => (yl_move hs1688)) ?_
          refine TP_q (v := (.agg (List.toArray [v1, (.int .i64 p_t.Window), (.int .i64 p_t.Tooth), (.int .i64 p_t.PerVane), (.int .i64 p_t.First), (.int .i64 p_t.Modulus), (.int .i64 p_t.Slack), (.int .i64 p_t.Errors), (.bool p_t.Round)]))) rfl rfl (fun w' hS => (yl_loadA (cs := [v1, (.int .i64 p_t.Window), (.int .i64 p_t.Tooth), (.int .i64 p_t.PerVane), (.int .i64 p_t.First), (.int .i64 p_t.Modulus), (.int .i64 p_t.Slack), (.int .i64 p_t.Errors), (.bool p_t.Round)]) ag24 hs1679 (Box.at (hB1697.ext ((e1737).trans hS))))) ?_
          refine TP_q (v := (.agg (List.toArray [v1, (.int .i64 p_t.Window), (.int .i64 p_t.Tooth), (.int .i64 p_t.PerVane), (.int .i64 p_t.First), (.int .i64 p_t.Modulus), (.int .i64 p_t.Slack), (.int .i64 p_t.Errors), (.bool p_t.Round)]))) rfl rfl (fun w' hS => (yl_loadA (cs := [v1, (.int .i64 p_t.Window), (.int .i64 p_t.Tooth), (.int .i64 p_t.PerVane), (.int .i64 p_t.First), (.int .i64 p_t.Modulus), (.int .i64 p_t.Slack), (.int .i64 p_t.Errors), (.bool p_t.Round)]) ag24 hs1679 (Box.at (hB1697.ext ((e1737).trans hS))))) ?_
          obtain ⟨r1739, hr1740, h⟩ := bind_elim h
          refine TP_e rfl rfl (eff_call Tryd.func51 nm51 rfl (ev2 rfl rfl) (ref04_WindowAt_ok ((.pointer (some ⟨b24, 0, none⟩)) :: (.pointer (some ⟨b13, 0, none⟩)) :: L) _ (ltl_box (ltl_box (hL.chg e1738) (hB1690.ext e1737)) (hB1694.ext e1737)) [v1, (.int .i64 p_t.Window), (.int .i64 p_t.Tooth), (.int .i64 p_t.PerVane), (.int .i64 p_t.First), (.int .i64 p_t.Modulus), (.int .i64 p_t.Slack), (.int .i64 p_t.Errors), (.bool p_t.Round)] p_t ⟨v1, (h1695.ext e1737), rfl⟩ x1420 r1739 hr1740) ?_)
          rintro _ wd1741 ⟨he1742, v1743, rfl, h1744⟩
          have e1745 := e1737.trans he1742
          have e1746 := e1738.trans he1742
          refine ⟨he1742, ?_⟩
          obtain ⟨r1748, hr1749, h⟩ := bind_elim h
          refine TP_e rfl rfl (eff_call Tryd.func51 nm51 rfl (ev2 rfl rfl) (ref04_WindowAt_ok ((.pointer (some ⟨b24, 0, none⟩)) :: (.pointer (some ⟨b13, 0, none⟩)) :: L) _ (ltl_box (ltl_box (hL.chg e1746) (hB1690.ext e1745)) (hB1694.ext e1745)) [v1, (.int .i64 p_t.Window), (.int .i64 p_t.Tooth), (.int .i64 p_t.PerVane), (.int .i64 p_t.First), (.int .i64 p_t.Modulus), (.int .i64 p_t.Slack), (.int .i64 p_t.Errors), (.bool p_t.Round)] p_t ⟨v1, (h1695.ext e1745), rfl⟩ x1687 r1748 hr1749) ?_)
          rintro _ wd1750 ⟨he1751, v1752, rfl, h1753⟩
          have e1754 := e1745.trans he1751
          have e1755 := he1742.trans he1751
          have e1756 := e1746.trans he1751
          refine ⟨e1755, ?_⟩
          obtain ⟨r1758, hr1759, h⟩ := bind_elim h
          refine TP_e rfl rfl (eff_call Tryd.func73 nm73 rfl (ev2 rfl rfl) (ref04_Differ_ok [] _ (LtL.nil _) v1743 r1739 ((h1744.ext he1751).sub (fun _ h => by cases h)) v1752 r1748 (h1753.sub (fun _ h => by cases h)) r1758 hr1759) ?_)
          rintro _ wd1760 ⟨he1761, rfl⟩
          have e1762 := e1754.trans he1761
          have e1763 := he1751.trans he1761
          have e1764 := e1755.trans he1761
          have e1765 := e1756.trans he1761
          refine ⟨e1764, ?_⟩
          refine TP_p (v := (.int .i64 r1758)) rfl rfl (fun w' => (yl_assign rfl)) ?_
          refine TP_done ?_
          refine hK1734 _ _ ?_
          refine WC_seqK fun K1766 hK1766 => ?_
          refine WC_region ?_
          refine T0_q (v := (.bool x1684)) rfl (yl_move hs1685) ?_
          refine T0_q (v := (.bool (!x1684))) rfl (yl_not rfl) ?_
          refine T0_q (v := (.bool (!x1684))) rfl (yl_move rfl) ?_
          refine T0_g (v := (.int .i64 r1758)) (!(!x1684)) (wanted_f rfl rfl rfl rfl) (fun hg => (yl_move rfl)) ?_
          refine T0_g (v := (.int .i64 x1681)) (!(!x1684)) (wanted_f rfl rfl rfl rfl) (fun hg => (yl_move hs1682)) ?_
          refine T0_g (v := (.bool (decide (r1758 < x1681)))) (!(!x1684)) (wanted_f rfl rfl rfl rfl) (fun hg => (yl_lss (gd_true hg) (gd_true hg))) ?_
          refine T0_q (v := (.bool ((!x1684) || (decide (r1758 < x1681))))) rfl (yl_or rfl rfl (fun hb => (gd_true (not_t hb)))) ?_
          refine T0_nil ?_
          refine hK1766 _ _ ?_
          refine WC_cond (b := ((!x1684) || (decide (r1758 < x1681)))) rfl (fun hb1767 => ?_) (fun hb1767 => ?_)
          · replace h := cond_t hb1767 h
            refine WC_region ?_
            refine T0_q (v := (.int .i64 r1758)) rfl (yl_move rfl) ?_
            refine T0_q (v := (.int .i64 x1420)) rfl (yl_move hs1686) ?_
            refine T0_q (v := (.int .i64 x1687)) rfl (yl_move hs1688) ?_
            refine T0_q (v := (.agg (List.toArray [(.int .i64 x1420), (.int .i64 x1687)]))) rfl (yl_buildA (cells := [(.int .i64 x1420), (.int .i64 x1687)]) Tryd.underlying115 sz3 zi115 (pc_cons rfl rfl (pc_cons rfl rfl pc_nil)) rfl) ?_
            refine T0_q (v := (.int .i64 r1758)) rfl (yl_assign rfl) ?_
            refine T0_e rfl (eff_storeC (vs := [(.int .i64 x1420), (.int .i64 x1687)]) (cs' := [(.int .i64 x1420), (.int .i64 x1687)]) sz115 rfl rfl hs1683 rfl (hB1694.ext e1762) rfl (oc_cons rfl (oc_cons rfl oc_nil)) rfl ?_)
            intro wd1768 hc1769 hB1770
            have h1771 := (hB1690.ext e1762).chg hc1769 (avoidb hn30)
            have h1772 := (h1695.ext e1762).step (Stepp.chg_mem hc1769 mem0)
            have h1773 := (hB1697.ext e1762).chg hc1769 (avoidb hn29)
            have h1774 := (h1744.ext e1763).step (Stepp.chg_mem hc1769 mem0)
            have h1775 := (h1753.ext he1761).step (Stepp.chg_mem hc1769 mem0)
            have e1776 := chg_box e1765 hc1769 hbf31
            refine T0_q (v := (.bool true)) rfl (yl_assign rfl) ?_
            refine T0_nil ?_
            refine hK1733 _ _ ?_
            refine WC_region ?_
            refine T0_q (v := (.int .i64 x1687)) rfl (yl_move hs1688) ?_
            refine T0_q (v := (.int .i64 (w64 (x1687 + 1)))) rfl (yl_add rfl rfl) ?_
            refine T0_q (v := (.int .i64 (w64 (x1687 + 1)))) rfl (yl_assign rfl) ?_
            refine T0_nil ?_
            replace h := some_out h
            subst h
            refine hK1722 _ _ _ rfl ?_
            exact ⟨r1758, true, w64 (x1687 + 1), x1420, x1687, rfl, hs1679, hs1680, rfl, hs1683, rfl, hs1686, rfl, h1772, h1771, hB1770, h1773, e1776⟩
          · replace h := cond_f hb1767 h
            refine WC_skip ?_
            refine hK1733 _ _ ?_
            refine WC_region ?_
            refine T0_q (v := (.int .i64 x1687)) rfl (yl_move hs1688) ?_
            refine T0_q (v := (.int .i64 (w64 (x1687 + 1)))) rfl (yl_add rfl rfl) ?_
            refine T0_q (v := (.int .i64 (w64 (x1687 + 1)))) rfl (yl_assign rfl) ?_
            refine T0_nil ?_
            replace h := some_out h
            subst h
            refine hK1722 _ _ _ rfl ?_
            exact ⟨x1681, x1684, w64 (x1687 + 1), x1691, x1692, rfl, hs1679, hs1680, hs1682, hs1683, hs1685, hs1686, rfl, (h1695.ext e1762), (hB1690.ext e1762), (hB1694.ext e1762), (hB1697.ext e1762), e1765⟩
        · replace h := cond_f hb1732 h
          refine WC_exit ?_
          replace h := some_out h
          subst h
          have ho := hx1721 _ rfl
          subst ho
          refine hK1723 _ _ ?_
          exact ⟨x1681, x1684, x1691, x1692, rfl, hs1679, hs1680, hs1682, hs1683, hs1685, hs1686, (h1695.ext he1730), (hB1690.ext he1730), (hB1694.ext he1730), (hB1697.ext he1730), e1731⟩
      · rintro ρ wd1698 ⟨x1702, x1705, x1710, x1711, rfl, hs1700, hs1701, hs1703, hs1704, hs1706, hs1707, h1714, hB1709, hB1713, hB1716, e1699⟩
        replace h := hn1719
        refine hK1461 _ _ ?_
        refine WC_region ?_
        refine T0_q (v := (.int .i64 x1420)) rfl (yl_move hs1707) ?_
        refine T0_q (v := (.int .i64 (w64 (x1420 + 1)))) rfl (yl_add rfl rfl) ?_
        refine T0_q (v := (.int .i64 (w64 (x1420 + 1)))) rfl (yl_assign rfl) ?_
        refine T0_nil ?_
        replace h := some_out h
        subst h
        refine hK1450 _ _ _ rfl ?_
        exact ⟨x1702, x1705, w64 (x1420 + 1), x1710, x1711, rfl, hs1700, hs1701, hs1703, hs1704, hs1706, rfl, h1714, hB1709, hB1713, hB1716, e1699⟩
    · replace h := cond_f hb1460 h
      refine WC_exit ?_
      replace h := some_out h
      subst h
      have ho := hx1449 _ rfl
      subst ho
      refine hK1451 _ _ ?_
      exact ⟨x1415, x1418, x1424, x1425, rfl, hs1414, hs1416, hs1417, hs1419, (hB1423.ext he1458), (hB1427.ext he1458), e1459⟩
  · rintro ρ wd1431 ⟨x1434, x1437, x1441, x1442, rfl, hs1433, hs1435, hs1436, hs1438, hB1440, hB1444, e1432⟩
    replace h := hn1447
    refine hK43 _ _ ?_
    refine WC_seqK fun K1777 hK1777 => ?_
    refine WC_plan mixed (.p 0 (.p 2 (.p 3 (.q 1 (.b 4 (.p 5 .done)))))) (by kernel_rfl) ?_
    intro wd1778 he1779
    have e1780 := e1432.trans he1779
    refine TP_p (v := (.int .i64 x1434)) rfl rfl (fun w' => (yl_move hs1435)) ?_
    refine TP_p (v := (.bool x1437)) rfl rfl (fun w' => (yl_move hs1438)) ?_
    refine TP_p (v := (.int .i64 x1434)) rfl rfl (fun w' => (yl_assign rfl)) ?_
    refine TP_q (v := (.agg (List.toArray [(.int .i64 x1441), (.int .i64 x1442)]))) rfl rfl (fun w' hS => (yl_loadA (cs := [(.int .i64 x1441), (.int .i64 x1442)]) ag115 hs1436 (Box.at (hB1444.ext ((he1779).trans hS))))) ?_
    refine TP_b rfl rfl (eff_storeC (vs := [(.int .i64 x1441), (.int .i64 x1442)]) (cs' := [(.int .i64 x1441), (.int .i64 x1442)]) sz115 rfl rfl hs1433 rfl (hB1440.ext he1779) rfl (oc_cons rfl (oc_cons rfl oc_nil)) rfl ?_)
    intro wd1781 hc1782 hB1783
    have h1784 := (hB1444.ext he1779).chg hc1782 (avoidb hn30.symm)
    have e1785 := chg_box e1780 hc1782 hbf19
    refine TP_p (v := (.bool x1437)) rfl rfl (fun w' => (yl_assign rfl)) ?_
    refine TP_done ?_
    refine hK1777 _ _ ?_
    refine WC_ret ?_
    replace h := some_out h
    subst h
    exact ⟨[(.int .i64 x1434), (.agg (List.toArray [(.int .i64 x1441), (.int .i64 x1442)])), (.bool x1437)], ⟨rfl, ⟨_, hs1433, run_loadVarA (cs := [(.int .i64 x1441), (.int .i64 x1442)]) ag115 (Box.at hB1783)⟩, rfl, trivial⟩, e1785, [(.int .i64 x1441), (.int .i64 x1442)], rfl, rfl⟩

noncomputable def ref04_Always_spec (p_t : LocateTrack) : Option Bool :=
  (Option.bind (ref04_DistanceOf_spec p_t) fun r14 =>
  some ((!r14.2.2) || (decide (w64 (2 * p_t.Errors) < r14.1)))
  )
theorem ref04_Always_ok (L : List Value) (w : World) (hL : LtL L w) (cs_p_t : List Value) (p_t : LocateTrack) (h_p_t : Rep.rd L w cs_p_t p_t) (r : Bool) (h : ref04_Always_spec p_t = some r) :
    CallsTo Tryd.prog 77 [(.agg cs_p_t.toArray)] w (fun v w' => Ext w w' ∧ (.bool r) = v) := by
  have e0 : Ext w w := Chg.refl _ _
  obtain ⟨v1, h2, rfl⟩ := h_p_t
  refine callsTo_of_WC (n := 21) (rs := [.tmp 2]) Tryd.func77 rfl rfl rfl rfl rfl ?_
  refine WC_seqK fun K4 hK4 => ?_
  refine WC_region ?_
  refine T0_e rfl (eff_boxC (cs := [v1, (.int .i64 p_t.Window), (.int .i64 p_t.Tooth), (.int .i64 p_t.PerVane), (.int .i64 p_t.First), (.int .i64 p_t.Modulus), (.int .i64 p_t.Slack), (.int .i64 p_t.Errors), (.bool p_t.Round)]) rfl rfl ?_)
  intro b5 wd6 hb7 he8 hB9
  have hbf10 := bfresh e0 hb7
  have e11 := e0.trans he8
  refine T0_q (v := (.bool false)) rfl (yl_assign rfl) ?_
  refine T0_nil ?_
  refine hK4 _ _ ?_
  refine WC_seqK fun K13 hK13 => ?_
  refine WC_region ?_
  refine T0_q (v := (.agg (List.toArray [v1, (.int .i64 p_t.Window), (.int .i64 p_t.Tooth), (.int .i64 p_t.PerVane), (.int .i64 p_t.First), (.int .i64 p_t.Modulus), (.int .i64 p_t.Slack), (.int .i64 p_t.Errors), (.bool p_t.Round)]))) rfl (yl_loadA (cs := [v1, (.int .i64 p_t.Window), (.int .i64 p_t.Tooth), (.int .i64 p_t.PerVane), (.int .i64 p_t.First), (.int .i64 p_t.Modulus), (.int .i64 p_t.Slack), (.int .i64 p_t.Errors), (.bool p_t.Round)]) ag24 rfl (Box.at hB9)) ?_
  obtain ⟨r14, hr15, h⟩ := bind_elim h
  refine T0_e rfl (eff_call Tryd.func74 nm74 rfl (ev1 rfl) (ref04_DistanceOf_ok [] _ (LtL.nil _) [v1, (.int .i64 p_t.Window), (.int .i64 p_t.Tooth), (.int .i64 p_t.PerVane), (.int .i64 p_t.First), (.int .i64 p_t.Modulus), (.int .i64 p_t.Slack), (.int .i64 p_t.Errors), (.bool p_t.Round)] p_t ⟨v1, ((h2.ext he8).sub (fun _ h => by cases h)), rfl⟩ r14 hr15) ?_)
  rintro _ wd16 ⟨he17, cs18, rfl, hrd19⟩
  have e20 := he8.trans he17
  have e21 := e11.trans he17
  have hrd19 : cs18 = [(.int .i64 r14.2.1.e0), (.int .i64 r14.2.1.e1)] := hrd19
  subst hrd19
  refine T0_q (v := (.tuple #[(.int .i64 r14.1), (.agg (List.toArray [(.int .i64 r14.2.1.e0), (.int .i64 r14.2.1.e1)])), (.bool r14.2.2)])) rfl (yl_move rfl) ?_
  refine T0_q (v := (.int .i64 r14.1)) rfl (yl_extract rfl rfl) ?_
  refine T0_q (v := (.agg (List.toArray [(.int .i64 r14.2.1.e0), (.int .i64 r14.2.1.e1)]))) rfl (yl_extract rfl rfl) ?_
  refine T0_q (v := (.bool r14.2.2)) rfl (yl_extract rfl rfl) ?_
  refine T0_e rfl (eff_allocZ zi115 ?_)
  intro b22 wd23 hb24 he25 hB26
  have hn27 : b22 ≠ b5 := box_ne (hB9.ext he17) hb24
  have hbf28 := bfresh e21 hb24
  have h29 := (h2.ext e20).step (add_box he25 hb24)
  have e30 := he17.trans he25
  have e31 := e21.trans he25
  refine T0_q (v := (.int .i64 r14.1)) rfl (yl_assign rfl) ?_
  refine T0_e rfl (eff_storeC (vs := [(.int .i64 r14.2.1.e0), (.int .i64 r14.2.1.e1)]) (cs' := [(.int .i64 r14.2.1.e0), (.int .i64 r14.2.1.e1)]) sz115 rfl rfl rfl rfl hB26 rfl (oc_cons rfl (oc_cons rfl oc_nil)) rfl ?_)
  intro wd33 hc34 hB35
  have h36 := h29.step (Stepp.chg_mem hc34 mem0)
  have h37 := (hB9.ext e30).chg hc34 (avoidb hn27)
  have e38 := chg_box e31 hc34 hbf28
  refine T0_q (v := (.bool r14.2.2)) rfl (yl_assign rfl) ?_
  refine T0_nil ?_
  refine hK13 _ _ ?_
  refine WC_seqK fun K39 hK39 => ?_
  refine WC_region ?_
  refine T0_q (v := (.bool r14.2.2)) rfl (yl_move rfl) ?_
  refine T0_q (v := (.bool (!r14.2.2))) rfl (yl_not rfl) ?_
  refine T0_q (v := (.bool (!r14.2.2))) rfl (yl_move rfl) ?_
  refine T0_g (v := (.int .i64 r14.1)) (!(!r14.2.2)) (wanted_f rfl rfl rfl rfl) (fun hg => (yl_move rfl)) ?_
  refine T0_g (v := (.pointer (some ⟨b5, 7, none⟩))) (!(!r14.2.2)) (wanted_f rfl rfl rfl rfl) (fun hg => (yl_fa 7 Tryd.underlying24 rfl rfl ⟨0, sz3⟩ rfl rfl)) ?_
  refine T0_g (v := (.int .i64 p_t.Errors)) (!(!r14.2.2)) (wanted_f rfl rfl rfl rfl) (fun hg => (yl_load sc3 (gd_true hg) (At.drop (Box.at h37) 7))) ?_
  refine T0_g (v := (.int .i64 (w64 (2 * p_t.Errors)))) (!(!r14.2.2)) (wanted_f rfl rfl rfl rfl) (fun hg => (yl_mul rfl (gd_true hg))) ?_
  refine T0_g (v := (.bool (decide (w64 (2 * p_t.Errors) < r14.1)))) (!(!r14.2.2)) (wanted_f rfl rfl rfl rfl) (fun hg => (yl_gtr (gd_true hg) (gd_true hg))) ?_
  refine T0_q (v := (.bool ((!r14.2.2) || (decide (w64 (2 * p_t.Errors) < r14.1))))) rfl (yl_or rfl rfl (fun hb => (gd_true (not_t hb)))) ?_
  refine T0_q (v := (.bool ((!r14.2.2) || (decide (w64 (2 * p_t.Errors) < r14.1))))) rfl (yl_assign rfl) ?_
  refine T0_nil ?_
  refine hK39 _ _ ?_
  refine WC_ret ?_
  replace h := some_out h
  subst h
  exact ⟨[(.bool ((!r14.2.2) || (decide (w64 (2 * p_t.Errors) < r14.1))))], ⟨rfl, trivial⟩, e38, rfl⟩

noncomputable def ref04_MostUnread_spec (p_t : LocateTrack) : Option Int :=
  (Option.bind (ref04_DistanceOf_spec p_t) fun r14 =>
  (bif (!r14.2.2) then (
    some p_t.Window
  ) else (
    some (w64 ((w64 (r14.1 - (w64 (2 * p_t.Errors)))) - 1))
  ))
  )
theorem ref04_MostUnread_ok (L : List Value) (w : World) (hL : LtL L w) (cs_p_t : List Value) (p_t : LocateTrack) (h_p_t : Rep.rd L w cs_p_t p_t) (r : Int) (h : ref04_MostUnread_spec p_t = some r) :
    CallsTo Tryd.prog 78 [(.agg cs_p_t.toArray)] w (fun v w' => Ext w w' ∧ (.int .i64 r) = v) := by
  have e0 : Ext w w := Chg.refl _ _
  obtain ⟨v1, h2, rfl⟩ := h_p_t
  refine callsTo_of_WC (n := 22) (rs := [.tmp 2]) Tryd.func78 rfl rfl rfl rfl rfl ?_
  refine WC_seqK fun K4 hK4 => ?_
  refine WC_region ?_
  refine T0_e rfl (eff_boxC (cs := [v1, (.int .i64 p_t.Window), (.int .i64 p_t.Tooth), (.int .i64 p_t.PerVane), (.int .i64 p_t.First), (.int .i64 p_t.Modulus), (.int .i64 p_t.Slack), (.int .i64 p_t.Errors), (.bool p_t.Round)]) rfl rfl ?_)
  intro b5 wd6 hb7 he8 hB9
  have hbf10 := bfresh e0 hb7
  have e11 := e0.trans he8
  refine T0_q (v := (.int .i64 0)) rfl (yl_assign rfl) ?_
  refine T0_nil ?_
  refine hK4 _ _ ?_
  refine WC_seqK fun K13 hK13 => ?_
  refine WC_region ?_
  refine T0_q (v := (.agg (List.toArray [v1, (.int .i64 p_t.Window), (.int .i64 p_t.Tooth), (.int .i64 p_t.PerVane), (.int .i64 p_t.First), (.int .i64 p_t.Modulus), (.int .i64 p_t.Slack), (.int .i64 p_t.Errors), (.bool p_t.Round)]))) rfl (yl_loadA (cs := [v1, (.int .i64 p_t.Window), (.int .i64 p_t.Tooth), (.int .i64 p_t.PerVane), (.int .i64 p_t.First), (.int .i64 p_t.Modulus), (.int .i64 p_t.Slack), (.int .i64 p_t.Errors), (.bool p_t.Round)]) ag24 rfl (Box.at hB9)) ?_
  obtain ⟨r14, hr15, h⟩ := bind_elim h
  refine T0_e rfl (eff_call Tryd.func74 nm74 rfl (ev1 rfl) (ref04_DistanceOf_ok [] _ (LtL.nil _) [v1, (.int .i64 p_t.Window), (.int .i64 p_t.Tooth), (.int .i64 p_t.PerVane), (.int .i64 p_t.First), (.int .i64 p_t.Modulus), (.int .i64 p_t.Slack), (.int .i64 p_t.Errors), (.bool p_t.Round)] p_t ⟨v1, ((h2.ext he8).sub (fun _ h => by cases h)), rfl⟩ r14 hr15) ?_)
  rintro _ wd16 ⟨he17, cs18, rfl, hrd19⟩
  have e20 := he8.trans he17
  have e21 := e11.trans he17
  have hrd19 : cs18 = [(.int .i64 r14.2.1.e0), (.int .i64 r14.2.1.e1)] := hrd19
  subst hrd19
  refine T0_q (v := (.tuple #[(.int .i64 r14.1), (.agg (List.toArray [(.int .i64 r14.2.1.e0), (.int .i64 r14.2.1.e1)])), (.bool r14.2.2)])) rfl (yl_move rfl) ?_
  refine T0_q (v := (.int .i64 r14.1)) rfl (yl_extract rfl rfl) ?_
  refine T0_q (v := (.agg (List.toArray [(.int .i64 r14.2.1.e0), (.int .i64 r14.2.1.e1)]))) rfl (yl_extract rfl rfl) ?_
  refine T0_q (v := (.bool r14.2.2)) rfl (yl_extract rfl rfl) ?_
  refine T0_e rfl (eff_allocZ zi115 ?_)
  intro b22 wd23 hb24 he25 hB26
  have hn27 : b22 ≠ b5 := box_ne (hB9.ext he17) hb24
  have hbf28 := bfresh e21 hb24
  have h29 := (h2.ext e20).step (add_box he25 hb24)
  have e30 := he17.trans he25
  have e31 := e21.trans he25
  refine T0_q (v := (.int .i64 r14.1)) rfl (yl_assign rfl) ?_
  refine T0_e rfl (eff_storeC (vs := [(.int .i64 r14.2.1.e0), (.int .i64 r14.2.1.e1)]) (cs' := [(.int .i64 r14.2.1.e0), (.int .i64 r14.2.1.e1)]) sz115 rfl rfl rfl rfl hB26 rfl (oc_cons rfl (oc_cons rfl oc_nil)) rfl ?_)
  intro wd33 hc34 hB35
  have h36 := h29.step (Stepp.chg_mem hc34 mem0)
  have h37 := (hB9.ext e30).chg hc34 (avoidb hn27)
  have e38 := chg_box e31 hc34 hbf28
  refine T0_q (v := (.bool r14.2.2)) rfl (yl_assign rfl) ?_
  refine T0_nil ?_
  refine hK13 _ _ ?_
  refine WC_seqK fun K39 hK39 => ?_
  refine WC_seqK fun K40 hK40 => ?_
  refine WC_region ?_
  refine T0_q (v := (.bool r14.2.2)) rfl (yl_move rfl) ?_
  refine T0_q (v := (.bool (!r14.2.2))) rfl (yl_not rfl) ?_
  refine T0_nil ?_
  refine hK40 _ _ ?_
  refine WC_cond (b := (!r14.2.2)) rfl (fun hb41 => ?_) (fun hb41 => ?_)
  · replace h := cond_t hb41 h
    refine WC_seqK fun K42 hK42 => ?_
    refine WC_region ?_
    refine T0_q (v := (.pointer (some ⟨b5, 1, none⟩))) rfl (yl_fa 1 Tryd.underlying24 rfl rfl ⟨0, sz3⟩ rfl rfl) ?_
    refine T0_q (v := (.int .i64 p_t.Window)) rfl (yl_load sc3 rfl (At.drop (Box.at h37) 1)) ?_
    refine T0_q (v := (.int .i64 p_t.Window)) rfl (yl_assign rfl) ?_
    refine T0_nil ?_
    refine hK42 _ _ ?_
    refine WC_ret ?_
    replace h := some_out h
    subst h
    exact ⟨[(.int .i64 p_t.Window)], ⟨rfl, trivial⟩, e38, rfl⟩
  · replace h := cond_f hb41 h
    refine WC_skip ?_
    refine hK39 _ _ ?_
    refine WC_seqK fun K43 hK43 => ?_
    refine WC_region ?_
    refine T0_q (v := (.int .i64 r14.1)) rfl (yl_move rfl) ?_
    refine T0_q (v := (.pointer (some ⟨b5, 7, none⟩))) rfl (yl_fa 7 Tryd.underlying24 rfl rfl ⟨0, sz3⟩ rfl rfl) ?_
    refine T0_q (v := (.int .i64 p_t.Errors)) rfl (yl_load sc3 rfl (At.drop (Box.at h37) 7)) ?_
    refine T0_q (v := (.int .i64 (w64 (2 * p_t.Errors)))) rfl (yl_mul rfl rfl) ?_
    refine T0_q (v := (.int .i64 (w64 (r14.1 - (w64 (2 * p_t.Errors)))))) rfl (yl_sub rfl rfl) ?_
    refine T0_q (v := (.int .i64 (w64 ((w64 (r14.1 - (w64 (2 * p_t.Errors)))) - 1)))) rfl (yl_sub rfl rfl) ?_
    refine T0_q (v := (.int .i64 (w64 ((w64 (r14.1 - (w64 (2 * p_t.Errors)))) - 1)))) rfl (yl_assign rfl) ?_
    refine T0_nil ?_
    refine hK43 _ _ ?_
    refine WC_ret ?_
    replace h := some_out h
    subst h
    exact ⟨[(.int .i64 (w64 ((w64 (r14.1 - (w64 (2 * p_t.Errors)))) - 1)))], ⟨rfl, trivial⟩, e38, rfl⟩

noncomputable def cmp_isNaN_int_spec (p_x : Int) : Option Bool :=
  some (!decide (p_x = p_x))
theorem cmp_isNaN_int_ok (L : List Value) (w : World) (hL : LtL L w) (p_x : Int) (r : Bool) (h : cmp_isNaN_int_spec p_x = some r) :
    CallsTo Tryd.prog 148 [(.int .i64 p_x)] w (fun v w' => Ext w w' ∧ (.bool r) = v) := by
  have e0 : Ext w w := Chg.refl _ _
  refine callsTo_of_WC (n := 6) (rs := [.tmp 2]) Tryd.func148 rfl rfl rfl rfl rfl ?_
  refine WC_seqK fun K1 hK1 => ?_
  refine WC_region ?_
  refine T0_q (v := (.bool false)) rfl (yl_assign rfl) ?_
  refine T0_nil ?_
  refine hK1 _ _ ?_
  refine WC_seqK fun K2 hK2 => ?_
  refine WC_region ?_
  refine T0_q (v := (.int .i64 p_x)) rfl (yl_move rfl) ?_
  refine T0_q (v := (.int .i64 p_x)) rfl (yl_move rfl) ?_
  refine T0_q (v := (.bool (!decide (p_x = p_x)))) rfl (yl_neq rfl rfl) ?_
  refine T0_q (v := (.bool (!decide (p_x = p_x)))) rfl (yl_assign rfl) ?_
  refine T0_nil ?_
  refine hK2 _ _ ?_
  refine WC_ret ?_
  replace h := some_out h
  subst h
  exact ⟨[(.bool (!decide (p_x = p_x)))], ⟨rfl, trivial⟩, e0, rfl⟩

noncomputable def locate_Differ_s0 (p_a : (List Int)) (p_b : (List Int)) : (Int × Int) → Option ((Int × Int) ⊕ ((Int × Int) ⊕ (Int))) := fun (x188, x193) =>
  (bif (decide (x193 < (p_a.length : Int))) then (
    (Option.bind (idx p_a x193) fun el212 =>
    (Option.bind (locate_isSeen_spec el212) fun r220 =>
    (Option.bind ((bif (!(!r220)) then idx p_b x193 else some default)) fun el225 =>
    (Option.bind (bif (!(!r220)) then locate_isSeen_spec el225 else some default) fun r230 =>
    (bif ((!r220) || (!r230)) then (
      some (.inr (.inl (0, 15)))
    ) else (
      (Option.bind (idx p_b x193) fun el239 =>
      (bif (decide (w64 (el212 + el239) = 1)) then (
        some (.inl (w64 (x188 + 1), w64 (x193 + 1)))
      ) else (
        some (.inl (x188, w64 (x193 + 1)))
      ))
      )
    ))
    )
    )
    )
    )
  ) else (
    some (.inr (.inr x188))
  ))
noncomputable def locate_Differ_spec (p_a : (List Int)) (p_b : (List Int)) : Option (Int × Int) :=
  (Option.bind (locate_unless_spec (decide ((p_a.length : Int) ≤ 40)) 8) fun r6 =>
  (Option.bind (locate_unless_spec (decide ((p_a.length : Int) = (p_b.length : Int))) 10) fun r11 =>
  (Option.bind (locate_first_spec ([r6, r11] : List Int)) fun r24 =>
  (bif (!decide (r24 = 0)) then (
    some (0, r24)
  ) else (
    (Option.bind (loop (locate_Differ_s0 p_a p_b) (0, 0)) fun o199 => jn0 o199 fun (x197 : Int) =>
    some (x197, 0)
    )
  ))
  )
  )
  )
theorem locate_Differ_ok (L : List Value) (w : World) (hL : LtL L w) (v_p_a : Value) (p_a : (List Int)) (h_p_a : SlRd L w v_p_a p_a) (v_p_b : Value) (p_b : (List Int)) (h_p_b : SlRd L w v_p_b p_b) (r : Int × Int) (h : locate_Differ_spec p_a p_b = some r) :
    CallsTo Tryd.prog 70 [v_p_a, v_p_b] w (fun v w' => Ext w w' ∧ (.tuple #[(.int .i64 r.1), (.int .i64 r.2)]) = v) := by
  have e0 : Ext w w := Chg.refl _ _
  refine callsTo_of_WC (n := 54) (rs := [.tmp 4, .tmp 5]) Tryd.func70 rfl rfl rfl rfl rfl ?_
  refine WC_seqK fun K3 hK3 => ?_
  refine WC_region ?_
  refine T0_q (v := (.int .i64 0)) rfl (yl_assign rfl) ?_
  refine T0_q (v := (.int .i64 0)) rfl (yl_assign rfl) ?_
  refine T0_nil ?_
  refine hK3 _ _ ?_
  refine WC_seqK fun K4 hK4 => ?_
  refine WC_seqK fun K5 hK5 => ?_
  refine WC_region ?_
  refine T0_q (v := v_p_a) rfl (yl_move rfl) ?_
  refine T0_q (v := (.int .i64 (p_a.length : Int))) rfl (yl_lenR rfl Tryd.underlying22 h_p_a rfl) ?_
  refine T0_q (v := (.bool (decide ((p_a.length : Int) ≤ 40)))) rfl (yl_leq rfl rfl) ?_
  obtain ⟨r6, hr7, h⟩ := bind_elim h
  refine T0_e rfl (eff_call Tryd.func85 nm85 rfl (ev2 rfl rfl) (locate_unless_ok [] _ (LtL.nil _) (decide ((p_a.length : Int) ≤ 40)) 8 r6 hr7) ?_)
  rintro _ wd8 ⟨he9, rfl⟩
  have e10 := e0.trans he9
  refine T0_q (v := v_p_a) rfl (yl_move rfl) ?_
  refine T0_q (v := (.int .i64 (p_a.length : Int))) rfl (yl_lenR rfl Tryd.underlying22 h_p_a rfl) ?_
  refine T0_q (v := v_p_b) rfl (yl_move rfl) ?_
  refine T0_q (v := (.int .i64 (p_b.length : Int))) rfl (yl_lenR rfl Tryd.underlying22 h_p_b rfl) ?_
  refine T0_q (v := (.bool (decide ((p_a.length : Int) = (p_b.length : Int))))) rfl (yl_eql rfl rfl) ?_
  obtain ⟨r11, hr12, h⟩ := bind_elim h
  refine T0_e rfl (eff_call Tryd.func85 nm85 rfl (ev2 rfl rfl) (locate_unless_ok [] _ (LtL.nil _) (decide ((p_a.length : Int) = (p_b.length : Int))) 10 r11 hr12) ?_)
  rintro _ wd13 ⟨he14, rfl⟩
  have e15 := he9.trans he14
  have e16 := e10.trans he14
  refine T0_e rfl (eff_buildTC (xs := ([r6, r11] : List Int)) (cells := [(.int .i64 r6), (.int .i64 r11)]) Tryd.underlying164 ei30 rfl (pc_cons rfl rfl (pc_cons rfl rfl pc_nil)) rfl (Elems.cons (cs := [(.int .i64 r6)]) rfl (Elems.cons (cs := [(.int .i64 r11)]) rfl Elems.nil)) rfl (hL.chg e16) ?_)
  intro b20 wd17 he18 h19
  have e21 := e15.trans he18
  have e22 := e16.trans he18
  obtain ⟨r24, hr25, h⟩ := bind_elim h
  refine T0_e rfl (eff_call Tryd.func84 nm84 rfl (ev1 rfl) (locate_first_ok [] _ (LtL.nil _) (.slice (some ⟨b20, 0, none⟩) 2 2) ([r6, r11] : List Int) (h19.sub (fun _ h => by cases h)) r24 hr25) ?_)
  rintro _ wd26 ⟨he27, rfl⟩
  have e28 := e21.trans he27
  have e29 := e22.trans he27
  refine T0_q (v := (.int .i64 r24)) rfl (yl_assign rfl) ?_
  refine T0_nil ?_
  refine hK5 _ _ ?_
  refine WC_seqK fun K30 hK30 => ?_
  refine WC_region ?_
  refine T0_q (v := (.int .i64 r24)) rfl (yl_move rfl) ?_
  refine T0_q (v := (.bool (!decide (r24 = 0)))) rfl (yl_neq rfl rfl) ?_
  refine T0_nil ?_
  refine hK30 _ _ ?_
  refine WC_cond (b := (!decide (r24 = 0))) rfl (fun hb31 => ?_) (fun hb31 => ?_)
  · replace h := cond_t hb31 h
    refine WC_seqK fun K32 hK32 => ?_
    refine WC_region ?_
    refine T0_q (v := (.int .i64 r24)) rfl (yl_move rfl) ?_
    refine T0_q (v := (.int .i64 0)) rfl (yl_assign rfl) ?_
    refine T0_q (v := (.int .i64 r24)) rfl (yl_assign rfl) ?_
    refine T0_nil ?_
    refine hK32 _ _ ?_
    refine WC_ret ?_
    replace h := some_out h
    subst h
    exact ⟨[(.int .i64 0), (.int .i64 r24)], ⟨rfl, rfl, trivial⟩, e29, rfl⟩
  · replace h := cond_f hb31 h
    refine WC_skip ?_
    refine hK4 _ _ ?_
    refine WC_seqK fun K33 hK33 => ?_
    refine WC_region ?_
    refine T0_q (v := (.int .i64 0)) rfl (yl_assign rfl) ?_
    refine T0_nil ?_
    refine hK33 _ _ ?_
    refine WC_seqK fun K34 hK34 => ?_
    refine WC_seqK fun K35 hK35 => ?_
    refine WC_region ?_
    refine T0_q (v := v_p_a) rfl (yl_move rfl) ?_
    refine T0_q (v := (.int .i64 (p_a.length : Int))) rfl (yl_lenR rfl Tryd.underlying22 h_p_a rfl) ?_
    refine T0_q (v := (.int .i64 0)) rfl (yl_move rfl) ?_
    refine T0_nil ?_
    refine hK35 _ _ ?_
    obtain ⟨o199, hl200, hn201⟩ := bind_elim h
    refine WC_post (fun (ρ : Env) (wd195 : World) => ∃ (x197 : Int), .inr x197 = o199 ∧ ρ 7 = (.int .i64 x197) ∧ Ext w wd195) ?_ ?_
    · intro K205 hK205
      refine WC_block ?_
      refine WC_loopk (fun sv ρ wd184 => ∃ (x188 : Int) (x193 : Int), (x188, x193) = sv ∧ ρ 1 = v_p_b ∧ ρ 7 = (.int .i64 x188) ∧ ρ 25 = v_p_a ∧ ρ 26 = (.int .i64 (p_a.length : Int)) ∧ ρ 27 = (.int .i64 x193) ∧ SlRd L wd184 v_p_b p_b ∧ SlRd L wd184 v_p_a p_a ∧ Ext w wd184) hl200 ⟨0, 0, rfl, rfl, rfl, rfl, rfl, rfl, (h_p_b.ext e28), (h_p_a.ext e28), e29⟩ ?_
      rintro _ ρ wd184 ⟨x188, x193, rfl, hs187, hs189, hs191, hs192, hs194, h186, h190, e185⟩ x202 h hx203 K204 hK204
      refine WC_seqK fun K207 hK207 => ?_
      refine WC_region ?_
      refine T0_q (v := (.bool (decide (x193 < (p_a.length : Int))))) rfl (yl_lss hs194 hs192) ?_
      refine T0_nil ?_
      refine hK207 _ _ ?_
      refine WC_seqK fun K208 hK208 => ?_
      refine WC_cond (b := (decide (x193 < (p_a.length : Int)))) rfl (fun hb209 => ?_) (fun hb209 => ?_)
      · replace h := cond_t hb209 h
        refine WC_skip ?_
        refine hK208 _ _ ?_
        refine WC_seqK fun K210 hK210 => ?_
        refine WC_block ?_
        refine WC_seqK fun K211 hK211 => ?_
        refine WC_region ?_
        refine T0_q (v := (.int .i64 x193)) rfl (yl_move hs194) ?_
        obtain ⟨el212, hel213, h⟩ := bind_elim h
        obtain ⟨cs214, hat215, hrd216⟩ := SlRd.at h190 hel213
        have hrd216 : cs214 = [(.int .i64 el212)] := hrd216
        subst hrd216
        refine T0_q (v := (.pointer (some (elemAddr v_p_a (x193 : Int).toNat 1)))) rfl (yl_indexAddr Tryd.underlying22 sz3 h190 hel213 hs191 hs194) ?_
        refine T0_q (v := (.int .i64 el212)) rfl (yl_load sc3 rfl hat215) ?_
        refine T0_q (v := (.int .i64 x193)) rfl (yl_assign rfl) ?_
        refine T0_q (v := (.int .i64 el212)) rfl (yl_assign rfl) ?_
        refine T0_nil ?_
        refine hK211 _ _ ?_
        refine WC_seqK fun K218 hK218 => ?_
        refine WC_seqK fun K219 hK219 => ?_
        refine WC_region ?_
        refine T0_q (v := (.int .i64 el212)) rfl (yl_move rfl) ?_
        obtain ⟨r220, hr221, h⟩ := bind_elim h
        refine T0_e rfl (eff_call Tryd.func114 nm114 rfl (ev1 rfl) (locate_isSeen_ok [] _ (LtL.nil _) el212 r220 hr221) ?_)
        rintro _ wd222 ⟨he223, rfl⟩
        have e224 := e185.trans he223
        refine T0_q (v := (.bool (!r220))) rfl (yl_not rfl) ?_
        refine T0_q (v := (.bool (!r220))) rfl (yl_move rfl) ?_
        refine T0_g (v := v_p_b) (!(!r220)) (wanted_f rfl rfl rfl rfl) (fun hg => (yl_move hs187)) ?_
        refine T0_g (v := (.int .i64 x193)) (!(!r220)) (wanted_f rfl rfl rfl rfl) (fun hg => (yl_move rfl)) ?_
        obtain ⟨el225, hel226, h⟩ := bind_elim h
        have hat228 : (!(!r220)) = true → At wd184 (elemAddr v_p_b (x193 : Int).toNat 1) [(.int .i64 el225)] := fun hg => by obtain ⟨cs, hat, hrd⟩ := SlRd.at h186 (cond_t hg hel226); have hrd : cs = [(.int .i64 el225)] := hrd; subst hrd; exact hat
        refine T0_g (v := (.pointer (some (elemAddr v_p_b (x193 : Int).toNat 1)))) (!(!r220)) (wanted_f rfl rfl rfl rfl) (fun hg => (yl_indexAddr Tryd.underlying22 sz3 h186 (cond_t hg hel226) (gd_true hg) (gd_true hg))) ?_
        refine T0_g (v := (.int .i64 el225)) (!(!r220)) (wanted_f rfl rfl rfl rfl) (fun hg => (yl_load sc3 (gd_true hg) ((hat228 hg).ext' he223))) ?_
        obtain ⟨r230, hr231, h⟩ := bind_elim h
        refine T0_ges (!(!r220)) (.bool r230) (wanted_f rfl rfl rfl rfl) (fun hg => eff_call Tryd.func114 nm114 rfl (ev1 (gd_true hg)) (locate_isSeen_ok [] _ (LtL.nil _) el225 r230 (cond_t hg hr231)) (by rintro _ wd232 ⟨he233, rfl⟩; exact ⟨rfl, he233⟩)) ?_
        intro wd232 he233
        have e234 := he223.trans he233
        have e235 := e224.trans he233
        refine T0_g (v := (.bool (!r230))) (!(!r220)) (wanted_f rfl rfl rfl rfl) (fun hg => (yl_not (gd_true hg))) ?_
        refine T0_q (v := (.bool ((!r220) || (!r230)))) rfl (yl_or rfl rfl (fun hb => (gd_true (not_t hb)))) ?_
        refine T0_nil ?_
        refine hK219 _ _ ?_
        refine WC_cond (b := ((!r220) || (!r230))) rfl (fun hb236 => ?_) (fun hb236 => ?_)
        · replace h := cond_t hb236 h
          refine WC_seqK fun K237 hK237 => ?_
          refine WC_region ?_
          refine T0_q (v := (.int .i64 0)) rfl (yl_assign rfl) ?_
          refine T0_q (v := (.int .i64 15)) rfl (yl_assign rfl) ?_
          refine T0_nil ?_
          refine hK237 _ _ ?_
          refine WC_ret ?_
          replace h := some_out h
          subst h
          have ho := hx203 _ rfl
          subst ho
          replace h := jn0_inl hn201
          replace h := some_out h
          subst h
          exact ⟨[(.int .i64 0), (.int .i64 15)], ⟨rfl, rfl, trivial⟩, e235, rfl⟩
        · replace h := cond_f hb236 h
          refine WC_skip ?_
          refine hK218 _ _ ?_
          refine WC_seqK fun K238 hK238 => ?_
          refine WC_region ?_
          refine T0_q (v := (.int .i64 el212)) rfl (yl_move rfl) ?_
          refine T0_q (v := v_p_b) rfl (yl_move hs187) ?_
          refine T0_q (v := (.int .i64 x193)) rfl (yl_move rfl) ?_
          obtain ⟨el239, hel240, h⟩ := bind_elim h
          obtain ⟨cs241, hat242, hrd243⟩ := SlRd.at h186 hel240
          have hrd243 : cs241 = [(.int .i64 el239)] := hrd243
          subst hrd243
          refine T0_q (v := (.pointer (some (elemAddr v_p_b (x193 : Int).toNat 1)))) rfl (yl_indexAddr Tryd.underlying22 sz3 h186 hel240 rfl rfl) ?_
          refine T0_q (v := (.int .i64 el239)) rfl (yl_load sc3 rfl (hat242.ext' e234)) ?_
          refine T0_q (v := (.int .i64 (w64 (el212 + el239)))) rfl (yl_add rfl rfl) ?_
          refine T0_q (v := (.bool (decide (w64 (el212 + el239) = 1)))) rfl (yl_eql rfl rfl) ?_
          refine T0_nil ?_
          refine hK238 _ _ ?_
          refine WC_cond (b := (decide (w64 (el212 + el239) = 1))) rfl (fun hb245 => ?_) (fun hb245 => ?_)
          · replace h := cond_t hb245 h
            refine WC_region ?_
            refine T0_q (v := (.int .i64 x188)) rfl (yl_move hs189) ?_
            refine T0_q (v := (.int .i64 (w64 (x188 + 1)))) rfl (yl_add rfl rfl) ?_
            refine T0_q (v := (.int .i64 (w64 (x188 + 1)))) rfl (yl_assign rfl) ?_
            refine T0_nil ?_
            refine hK210 _ _ ?_
            refine WC_region ?_
            refine T0_q (v := (.int .i64 (w64 (x193 + 1)))) rfl (yl_add hs194 rfl) ?_
            refine T0_q (v := (.int .i64 (w64 (x193 + 1)))) rfl (yl_move rfl) ?_
            refine T0_nil ?_
            replace h := some_out h
            subst h
            refine hK204 _ _ _ rfl ?_
            exact ⟨w64 (x188 + 1), w64 (x193 + 1), rfl, hs187, rfl, hs191, hs192, rfl, (h186.ext e234), (h190.ext e234), e235⟩
          · replace h := cond_f hb245 h
            refine WC_skip ?_
            refine hK210 _ _ ?_
            refine WC_region ?_
            refine T0_q (v := (.int .i64 (w64 (x193 + 1)))) rfl (yl_add hs194 rfl) ?_
            refine T0_q (v := (.int .i64 (w64 (x193 + 1)))) rfl (yl_move rfl) ?_
            refine T0_nil ?_
            replace h := some_out h
            subst h
            refine hK204 _ _ _ rfl ?_
            exact ⟨x188, w64 (x193 + 1), rfl, hs187, hs189, hs191, hs192, rfl, (h186.ext e234), (h190.ext e234), e235⟩
      · replace h := cond_f hb209 h
        refine WC_exit ?_
        replace h := some_out h
        subst h
        have ho := hx203 _ rfl
        subst ho
        refine hK205 _ _ ?_
        exact ⟨x188, rfl, hs189, e185⟩
    · rintro ρ wd195 ⟨x197, rfl, hs198, e196⟩
      replace h := jn0_inr hn201
      refine hK34 _ _ ?_
      refine WC_seqK fun K246 hK246 => ?_
      refine WC_region ?_
      refine T0_q (v := (.int .i64 x197)) rfl (yl_move hs198) ?_
      refine T0_q (v := (.int .i64 x197)) rfl (yl_assign rfl) ?_
      refine T0_q (v := (.int .i64 0)) rfl (yl_assign rfl) ?_
      refine T0_nil ?_
      refine hK246 _ _ ?_
      refine WC_ret ?_
      replace h := some_out h
      subst h
      exact ⟨[(.int .i64 x197), (.int .i64 0)], ⟨rfl, rfl, trivial⟩, e196, rfl⟩

noncomputable def ref04_DifferErr_s0 (p_a : (List Int)) (p_b : (List Int)) : (Int) → Option ((Int) ⊕ (Int ⊕ (Unit))) := fun x130 =>
  (bif (decide (x130 < (p_a.length : Int))) then (
    (Option.bind (idx p_a x130) fun el147 =>
    (Option.bind (ref04_isSeen_spec el147) fun r153 =>
    (Option.bind ((bif (!(!r153)) then idx p_b x130 else some default)) fun el158 =>
    (Option.bind (bif (!(!r153)) then ref04_isSeen_spec el158 else some default) fun r163 =>
    (bif ((!r153) || (!r163)) then (
      some (.inr (.inl 15))
    ) else (
      some (.inl (w64 (x130 + 1)))
    ))
    )
    )
    )
    )
  ) else (
    some (.inr (.inr ()))
  ))
noncomputable def ref04_DifferErr_spec (p_a : (List Int)) (p_b : (List Int)) : Option Int :=
  (bif (decide (40 < (p_a.length : Int))) then (
    some 8
  ) else (
    (bif (!decide ((p_b.length : Int) = (p_a.length : Int))) then (
      some 10
    ) else (
      (Option.bind (loop (ref04_DifferErr_s0 p_a p_b) 0) fun o134 => jn0 o134 fun (_ : Unit) =>
      some 0
      )
    ))
  ))
theorem ref04_DifferErr_ok (L : List Value) (w : World) (hL : LtL L w) (v_p_a : Value) (p_a : (List Int)) (h_p_a : SlRd L w v_p_a p_a) (v_p_b : Value) (p_b : (List Int)) (h_p_b : SlRd L w v_p_b p_b) (r : Int) (h : ref04_DifferErr_spec p_a p_b = some r) :
    CallsTo Tryd.prog 72 [v_p_a, v_p_b] w (fun v w' => Ext w w' ∧ (.int .i64 r) = v) := by
  have e0 : Ext w w := Chg.refl _ _
  refine callsTo_of_WC (n := 34) (rs := [.tmp 4]) Tryd.func72 rfl rfl rfl rfl rfl ?_
  refine WC_seqK fun K3 hK3 => ?_
  refine WC_region ?_
  refine T0_q (v := (.int .i64 0)) rfl (yl_assign rfl) ?_
  refine T0_nil ?_
  refine hK3 _ _ ?_
  refine WC_seqK fun K4 hK4 => ?_
  refine WC_seqK fun K5 hK5 => ?_
  refine WC_region ?_
  refine T0_q (v := v_p_a) rfl (yl_move rfl) ?_
  refine T0_q (v := (.int .i64 (p_a.length : Int))) rfl (yl_lenR rfl Tryd.underlying22 h_p_a rfl) ?_
  refine T0_q (v := (.bool (decide (40 < (p_a.length : Int))))) rfl (yl_gtr rfl rfl) ?_
  refine T0_nil ?_
  refine hK5 _ _ ?_
  refine WC_cond (b := (decide (40 < (p_a.length : Int)))) rfl (fun hb6 => ?_) (fun hb6 => ?_)
  · replace h := cond_t hb6 h
    refine WC_seqK fun K7 hK7 => ?_
    refine WC_region ?_
    refine T0_q (v := (.int .i64 8)) rfl (yl_assign rfl) ?_
    refine T0_nil ?_
    refine hK7 _ _ ?_
    refine WC_ret ?_
    replace h := some_out h
    subst h
    exact ⟨[(.int .i64 8)], ⟨rfl, trivial⟩, e0, rfl⟩
  · replace h := cond_f hb6 h
    refine WC_skip ?_
    refine hK4 _ _ ?_
    refine WC_seqK fun K8 hK8 => ?_
    refine WC_seqK fun K9 hK9 => ?_
    refine WC_region ?_
    refine T0_q (v := v_p_b) rfl (yl_move rfl) ?_
    refine T0_q (v := (.int .i64 (p_b.length : Int))) rfl (yl_lenR rfl Tryd.underlying22 h_p_b rfl) ?_
    refine T0_q (v := v_p_a) rfl (yl_move rfl) ?_
    refine T0_q (v := (.int .i64 (p_a.length : Int))) rfl (yl_lenR rfl Tryd.underlying22 h_p_a rfl) ?_
    refine T0_q (v := (.bool (!decide ((p_b.length : Int) = (p_a.length : Int))))) rfl (yl_neq rfl rfl) ?_
    refine T0_nil ?_
    refine hK9 _ _ ?_
    refine WC_cond (b := (!decide ((p_b.length : Int) = (p_a.length : Int)))) rfl (fun hb10 => ?_) (fun hb10 => ?_)
    · replace h := cond_t hb10 h
      refine WC_seqK fun K11 hK11 => ?_
      refine WC_region ?_
      refine T0_q (v := (.int .i64 10)) rfl (yl_assign rfl) ?_
      refine T0_nil ?_
      refine hK11 _ _ ?_
      refine WC_ret ?_
      replace h := some_out h
      subst h
      exact ⟨[(.int .i64 10)], ⟨rfl, trivial⟩, e0, rfl⟩
    · replace h := cond_f hb10 h
      refine WC_skip ?_
      refine hK8 _ _ ?_
      refine WC_seqK fun K12 hK12 => ?_
      refine WC_seqK fun K13 hK13 => ?_
      refine WC_region ?_
      refine T0_q (v := (.int .i64 0)) rfl (yl_assign rfl) ?_
      refine T0_nil ?_
      refine hK13 _ _ ?_
      obtain ⟨o134, hl135, hn136⟩ := bind_elim h
      refine WC_post (fun (ρ : Env) (wd132 : World) => .inr () = o134 ∧ Ext w wd132) ?_ ?_
      · intro K140 hK140
        refine WC_block ?_
        refine WC_loopk (fun sv ρ wd124 => ∃ (x130 : Int), x130 = sv ∧ ρ 0 = v_p_a ∧ ρ 1 = v_p_b ∧ ρ 5 = (.int .i64 x130) ∧ SlRd L wd124 v_p_a p_a ∧ SlRd L wd124 v_p_b p_b ∧ Ext w wd124) hl135 ⟨0, rfl, rfl, rfl, rfl, h_p_a, h_p_b, e0⟩ ?_
        rintro _ ρ wd124 ⟨x130, rfl, hs127, hs129, hs131, h126, h128, e125⟩ x137 h hx138 K139 hK139
        refine WC_seqK fun K142 hK142 => ?_
        refine WC_seqK fun K143 hK143 => ?_
        refine WC_region ?_
        refine T0_q (v := (.int .i64 x130)) rfl (yl_move hs131) ?_
        refine T0_q (v := v_p_a) rfl (yl_move hs127) ?_
        refine T0_q (v := (.int .i64 (p_a.length : Int))) rfl (yl_lenR rfl Tryd.underlying22 h126 rfl) ?_
        refine T0_q (v := (.bool (decide (x130 < (p_a.length : Int))))) rfl (yl_lss rfl rfl) ?_
        refine T0_nil ?_
        refine hK143 _ _ ?_
        refine WC_cond (b := (decide (x130 < (p_a.length : Int)))) rfl (fun hb144 => ?_) (fun hb144 => ?_)
        · replace h := cond_t hb144 h
          refine WC_skip ?_
          refine hK142 _ _ ?_
          refine WC_seqK fun K145 hK145 => ?_
          refine WC_block ?_
          refine WC_seqK fun K146 hK146 => ?_
          refine WC_region ?_
          refine T0_q (v := v_p_a) rfl (yl_move hs127) ?_
          refine T0_q (v := (.int .i64 x130)) rfl (yl_move hs131) ?_
          obtain ⟨el147, hel148, h⟩ := bind_elim h
          obtain ⟨cs149, hat150, hrd151⟩ := SlRd.at h126 hel148
          have hrd151 : cs149 = [(.int .i64 el147)] := hrd151
          subst hrd151
          refine T0_q (v := (.pointer (some (elemAddr v_p_a (x130 : Int).toNat 1)))) rfl (yl_indexAddr Tryd.underlying22 sz3 h126 hel148 rfl rfl) ?_
          refine T0_q (v := (.int .i64 el147)) rfl (yl_load sc3 rfl hat150) ?_
          obtain ⟨r153, hr154, h⟩ := bind_elim h
          refine T0_e rfl (eff_call Tryd.func96 nm96 rfl (ev1 rfl) (ref04_isSeen_ok [] _ (LtL.nil _) el147 r153 hr154) ?_)
          rintro _ wd155 ⟨he156, rfl⟩
          have e157 := e125.trans he156
          refine T0_q (v := (.bool (!r153))) rfl (yl_not rfl) ?_
          refine T0_q (v := (.bool (!r153))) rfl (yl_move rfl) ?_
          refine T0_g (v := v_p_b) (!(!r153)) (wanted_f rfl rfl rfl rfl) (fun hg => (yl_move hs129)) ?_
          refine T0_g (v := (.int .i64 x130)) (!(!r153)) (wanted_f rfl rfl rfl rfl) (fun hg => (yl_move hs131)) ?_
          obtain ⟨el158, hel159, h⟩ := bind_elim h
          have hat161 : (!(!r153)) = true → At wd124 (elemAddr v_p_b (x130 : Int).toNat 1) [(.int .i64 el158)] := fun hg => by obtain ⟨cs, hat, hrd⟩ := SlRd.at h128 (cond_t hg hel159); have hrd : cs = [(.int .i64 el158)] := hrd; subst hrd; exact hat
          refine T0_g (v := (.pointer (some (elemAddr v_p_b (x130 : Int).toNat 1)))) (!(!r153)) (wanted_f rfl rfl rfl rfl) (fun hg => (yl_indexAddr Tryd.underlying22 sz3 h128 (cond_t hg hel159) (gd_true hg) (gd_true hg))) ?_
          refine T0_g (v := (.int .i64 el158)) (!(!r153)) (wanted_f rfl rfl rfl rfl) (fun hg => (yl_load sc3 (gd_true hg) ((hat161 hg).ext' he156))) ?_
          obtain ⟨r163, hr164, h⟩ := bind_elim h
          refine T0_ges (!(!r153)) (.bool r163) (wanted_f rfl rfl rfl rfl) (fun hg => eff_call Tryd.func96 nm96 rfl (ev1 (gd_true hg)) (ref04_isSeen_ok [] _ (LtL.nil _) el158 r163 (cond_t hg hr164)) (by rintro _ wd165 ⟨he166, rfl⟩; exact ⟨rfl, he166⟩)) ?_
          intro wd165 he166
          have e167 := he156.trans he166
          have e168 := e157.trans he166
          refine T0_g (v := (.bool (!r163))) (!(!r153)) (wanted_f rfl rfl rfl rfl) (fun hg => (yl_not (gd_true hg))) ?_
          refine T0_q (v := (.bool ((!r153) || (!r163)))) rfl (yl_or rfl rfl (fun hb => (gd_true (not_t hb)))) ?_
          refine T0_nil ?_
          refine hK146 _ _ ?_
          refine WC_cond (b := ((!r153) || (!r163))) rfl (fun hb169 => ?_) (fun hb169 => ?_)
          · replace h := cond_t hb169 h
            refine WC_seqK fun K170 hK170 => ?_
            refine WC_region ?_
            refine T0_q (v := (.int .i64 15)) rfl (yl_assign rfl) ?_
            refine T0_nil ?_
            refine hK170 _ _ ?_
            refine WC_ret ?_
            replace h := some_out h
            subst h
            have ho := hx138 _ rfl
            subst ho
            replace h := jn0_inl hn136
            replace h := some_out h
            subst h
            exact ⟨[(.int .i64 15)], ⟨rfl, trivial⟩, e168, rfl⟩
          · replace h := cond_f hb169 h
            refine WC_skip ?_
            refine hK145 _ _ ?_
            refine WC_region ?_
            refine T0_q (v := (.int .i64 x130)) rfl (yl_move hs131) ?_
            refine T0_q (v := (.int .i64 (w64 (x130 + 1)))) rfl (yl_add rfl rfl) ?_
            refine T0_q (v := (.int .i64 (w64 (x130 + 1)))) rfl (yl_assign rfl) ?_
            refine T0_nil ?_
            replace h := some_out h
            subst h
            refine hK139 _ _ _ rfl ?_
            exact ⟨w64 (x130 + 1), rfl, hs127, hs129, rfl, (h126.ext e167), (h128.ext e167), e168⟩
        · replace h := cond_f hb144 h
          refine WC_exit ?_
          replace h := some_out h
          subst h
          have ho := hx138 _ rfl
          subst ho
          refine hK140 _ _ ?_
          exact ⟨rfl, e125⟩
      · rintro ρ wd132 ⟨rfl, e133⟩
        replace h := jn0_inr hn136
        refine hK12 _ _ ?_
        refine WC_seqK fun K171 hK171 => ?_
        refine WC_region ?_
        refine T0_q (v := (.int .i64 0)) rfl (yl_assign rfl) ?_
        refine T0_nil ?_
        refine hK171 _ _ ?_
        refine WC_ret ?_
        replace h := some_out h
        subst h
        exact ⟨[(.int .i64 0)], ⟨rfl, trivial⟩, e133, rfl⟩

noncomputable def cmp_Compare_int_spec (p_x : Int) (p_y : Int) : Option Int :=
  (Option.bind (cmp_isNaN_int_spec p_x) fun r3 =>
  (Option.bind (cmp_isNaN_int_spec p_y) fun r9 =>
  (bif r3 then (
    (bif r9 then (
      some 0
    ) else (
      some (-1)
    ))
  ) else (
    (bif r9 then (
      some 1
    ) else (
      (bif (decide (p_x < p_y)) then (
        some (-1)
      ) else (
        (bif (decide (p_y < p_x)) then (
          some 1
        ) else (
          some 0
        ))
      ))
    ))
  ))
  )
  )
theorem cmp_Compare_int_ok (L : List Value) (w : World) (hL : LtL L w) (p_x : Int) (p_y : Int) (r : Int) (h : cmp_Compare_int_spec p_x p_y = some r) :
    CallsTo Tryd.prog 142 [(.int .i64 p_x), (.int .i64 p_y)] w (fun v w' => Ext w w' ∧ (.int .i64 r) = v) := by
  have e0 : Ext w w := Chg.refl _ _
  refine callsTo_of_WC (n := 20) (rs := [.tmp 4]) Tryd.func142 rfl rfl rfl rfl rfl ?_
  refine WC_seqK fun K1 hK1 => ?_
  refine WC_region ?_
  refine T0_q (v := (.int .i64 0)) rfl (yl_assign rfl) ?_
  refine T0_nil ?_
  refine hK1 _ _ ?_
  refine WC_seqK fun K2 hK2 => ?_
  refine WC_region ?_
  refine T0_q (v := (.int .i64 p_x)) rfl (yl_move rfl) ?_
  obtain ⟨r3, hr4, h⟩ := bind_elim h
  refine T0_e rfl (eff_call Tryd.func148 nm148 rfl (ev1 rfl) (cmp_isNaN_int_ok [] _ (LtL.nil _) p_x r3 hr4) ?_)
  rintro _ wd5 ⟨he6, rfl⟩
  have e7 := e0.trans he6
  refine T0_q (v := (.bool r3)) rfl (yl_assign rfl) ?_
  refine T0_nil ?_
  refine hK2 _ _ ?_
  refine WC_seqK fun K8 hK8 => ?_
  refine WC_region ?_
  refine T0_q (v := (.int .i64 p_y)) rfl (yl_move rfl) ?_
  obtain ⟨r9, hr10, h⟩ := bind_elim h
  refine T0_e rfl (eff_call Tryd.func148 nm148 rfl (ev1 rfl) (cmp_isNaN_int_ok [] _ (LtL.nil _) p_y r9 hr10) ?_)
  rintro _ wd11 ⟨he12, rfl⟩
  have e13 := e7.trans he12
  refine T0_q (v := (.bool r9)) rfl (yl_assign rfl) ?_
  refine T0_nil ?_
  refine hK8 _ _ ?_
  refine WC_seqK fun K14 hK14 => ?_
  refine WC_seqK fun K15 hK15 => ?_
  refine WC_region ?_
  refine T0_q (v := (.bool r3)) rfl (yl_move rfl) ?_
  refine T0_nil ?_
  refine hK15 _ _ ?_
  refine WC_cond (b := r3) rfl (fun hb16 => ?_) (fun hb16 => ?_)
  · replace h := cond_t hb16 h
    refine WC_seqK fun K17 hK17 => ?_
    refine WC_seqK fun K18 hK18 => ?_
    refine WC_region ?_
    refine T0_q (v := (.bool r9)) rfl (yl_move rfl) ?_
    refine T0_nil ?_
    refine hK18 _ _ ?_
    refine WC_cond (b := r9) rfl (fun hb19 => ?_) (fun hb19 => ?_)
    · replace h := cond_t hb19 h
      refine WC_seqK fun K20 hK20 => ?_
      refine WC_region ?_
      refine T0_q (v := (.int .i64 0)) rfl (yl_assign rfl) ?_
      refine T0_nil ?_
      refine hK20 _ _ ?_
      refine WC_ret ?_
      replace h := some_out h
      subst h
      exact ⟨[(.int .i64 0)], ⟨rfl, trivial⟩, e13, rfl⟩
    · replace h := cond_f hb19 h
      refine WC_skip ?_
      refine hK17 _ _ ?_
      refine WC_seqK fun K21 hK21 => ?_
      refine WC_region ?_
      refine T0_q (v := (.int .i64 (-1))) rfl (yl_assign rfl) ?_
      refine T0_nil ?_
      refine hK21 _ _ ?_
      refine WC_ret ?_
      replace h := some_out h
      subst h
      exact ⟨[(.int .i64 (-1))], ⟨rfl, trivial⟩, e13, rfl⟩
  · replace h := cond_f hb16 h
    refine WC_skip ?_
    refine hK14 _ _ ?_
    refine WC_seqK fun K22 hK22 => ?_
    refine WC_seqK fun K23 hK23 => ?_
    refine WC_region ?_
    refine T0_q (v := (.bool r9)) rfl (yl_move rfl) ?_
    refine T0_nil ?_
    refine hK23 _ _ ?_
    refine WC_cond (b := r9) rfl (fun hb24 => ?_) (fun hb24 => ?_)
    · replace h := cond_t hb24 h
      refine WC_seqK fun K25 hK25 => ?_
      refine WC_region ?_
      refine T0_q (v := (.int .i64 1)) rfl (yl_assign rfl) ?_
      refine T0_nil ?_
      refine hK25 _ _ ?_
      refine WC_ret ?_
      replace h := some_out h
      subst h
      exact ⟨[(.int .i64 1)], ⟨rfl, trivial⟩, e13, rfl⟩
    · replace h := cond_f hb24 h
      refine WC_skip ?_
      refine hK22 _ _ ?_
      refine WC_seqK fun K26 hK26 => ?_
      refine WC_seqK fun K27 hK27 => ?_
      refine WC_region ?_
      refine T0_q (v := (.int .i64 p_x)) rfl (yl_move rfl) ?_
      refine T0_q (v := (.int .i64 p_y)) rfl (yl_move rfl) ?_
      refine T0_q (v := (.bool (decide (p_x < p_y)))) rfl (yl_lss rfl rfl) ?_
      refine T0_nil ?_
      refine hK27 _ _ ?_
      refine WC_cond (b := (decide (p_x < p_y))) rfl (fun hb28 => ?_) (fun hb28 => ?_)
      · replace h := cond_t hb28 h
        refine WC_seqK fun K29 hK29 => ?_
        refine WC_region ?_
        refine T0_q (v := (.int .i64 (-1))) rfl (yl_assign rfl) ?_
        refine T0_nil ?_
        refine hK29 _ _ ?_
        refine WC_ret ?_
        replace h := some_out h
        subst h
        exact ⟨[(.int .i64 (-1))], ⟨rfl, trivial⟩, e13, rfl⟩
      · replace h := cond_f hb28 h
        refine WC_skip ?_
        refine hK26 _ _ ?_
        refine WC_seqK fun K30 hK30 => ?_
        refine WC_seqK fun K31 hK31 => ?_
        refine WC_region ?_
        refine T0_q (v := (.int .i64 p_x)) rfl (yl_move rfl) ?_
        refine T0_q (v := (.int .i64 p_y)) rfl (yl_move rfl) ?_
        refine T0_q (v := (.bool (decide (p_y < p_x)))) rfl (yl_gtr rfl rfl) ?_
        refine T0_nil ?_
        refine hK31 _ _ ?_
        refine WC_cond (b := (decide (p_y < p_x))) rfl (fun hb32 => ?_) (fun hb32 => ?_)
        · replace h := cond_t hb32 h
          refine WC_seqK fun K33 hK33 => ?_
          refine WC_region ?_
          refine T0_q (v := (.int .i64 1)) rfl (yl_assign rfl) ?_
          refine T0_nil ?_
          refine hK33 _ _ ?_
          refine WC_ret ?_
          replace h := some_out h
          subst h
          exact ⟨[(.int .i64 1)], ⟨rfl, trivial⟩, e13, rfl⟩
        · replace h := cond_f hb32 h
          refine WC_skip ?_
          refine hK30 _ _ ?_
          refine WC_seqK fun K34 hK34 => ?_
          refine WC_region ?_
          refine T0_q (v := (.int .i64 0)) rfl (yl_assign rfl) ?_
          refine T0_nil ?_
          refine hK34 _ _ ?_
          refine WC_ret ?_
          replace h := some_out h
          subst h
          exact ⟨[(.int .i64 0)], ⟨rfl, trivial⟩, e13, rfl⟩

noncomputable def slices_Compare_int_s0 (p_s1 : (List Int)) (p_s2 : (List Int)) : (Int) → Option ((Int) ⊕ (Int ⊕ (Unit))) := fun x136 =>
  (bif (decide (x136 < (p_s1.length : Int))) then (
    (Option.bind (idx p_s1 x136) fun el157 =>
    (bif (decide ((p_s2.length : Int) ≤ x136)) then (
      some (.inr (.inl 1))
    ) else (
      (Option.bind (idx p_s2 x136) fun el168 =>
      (Option.bind (cmp_Compare_int_spec el157 el168) fun r175 =>
      (bif (!decide (r175 = 0)) then (
        some (.inr (.inl r175))
      ) else (
        some (.inl (w64 (x136 + 1)))
      ))
      )
      )
    ))
    )
  ) else (
    some (.inr (.inr ()))
  ))
noncomputable def slices_Compare_int_spec (p_s1 : (List Int)) (p_s2 : (List Int)) : Option Int :=
  (Option.bind (loop (slices_Compare_int_s0 p_s1 p_s2) 0) fun o144 => jn0 o144 fun (_ : Unit) =>
  (bif (decide ((p_s1.length : Int) < (p_s2.length : Int))) then (
    some (-1)
  ) else (
    some 0
  ))
  )
theorem slices_Compare_int_ok (L : List Value) (w : World) (hL : LtL L w) (v_p_s1 : Value) (p_s1 : (List Int)) (h_p_s1 : SlRd L w v_p_s1 p_s1) (v_p_s2 : Value) (p_s2 : (List Int)) (h_p_s2 : SlRd L w v_p_s2 p_s2) (r : Int) (h : slices_Compare_int_spec p_s1 p_s2 = some r) :
    CallsTo Tryd.prog 131 [v_p_s1, v_p_s2] w (fun v w' => Ext w w' ∧ (.int .i64 r) = v) := by
  have e0 : Ext w w := Chg.refl _ _
  refine callsTo_of_WC (n := 36) (rs := [.tmp 4]) Tryd.func131 rfl rfl rfl rfl rfl ?_
  refine WC_seqK fun K3 hK3 => ?_
  refine WC_region ?_
  refine T0_q (v := (.int .i64 0)) rfl (yl_assign rfl) ?_
  refine T0_nil ?_
  refine hK3 _ _ ?_
  refine WC_seqK fun K4 hK4 => ?_
  refine WC_seqK fun K5 hK5 => ?_
  refine WC_region ?_
  refine T0_q (v := v_p_s1) rfl (yl_move rfl) ?_
  refine T0_q (v := (.int .i64 (p_s1.length : Int))) rfl (yl_lenR rfl Tryd.underlying22 h_p_s1 rfl) ?_
  refine T0_q (v := (.int .i64 0)) rfl (yl_move rfl) ?_
  refine T0_nil ?_
  refine hK5 _ _ ?_
  obtain ⟨o144, hl145, hn146⟩ := bind_elim h
  refine WC_post (fun (ρ : Env) (wd138 : World) => .inr () = o144 ∧ ρ 0 = v_p_s1 ∧ ρ 1 = v_p_s2 ∧ SlRd L wd138 v_p_s1 p_s1 ∧ SlRd L wd138 v_p_s2 p_s2 ∧ Ext w wd138) ?_ ?_
  · intro K150 hK150
    refine WC_block ?_
    refine WC_loopk (fun sv ρ wd128 => ∃ (x136 : Int), x136 = sv ∧ ρ 0 = v_p_s1 ∧ ρ 1 = v_p_s2 ∧ ρ 9 = v_p_s1 ∧ ρ 10 = (.int .i64 (p_s1.length : Int)) ∧ ρ 11 = (.int .i64 x136) ∧ SlRd L wd128 v_p_s1 p_s1 ∧ SlRd L wd128 v_p_s2 p_s2 ∧ Ext w wd128) hl145 ⟨0, rfl, rfl, rfl, rfl, rfl, rfl, h_p_s1, h_p_s2, e0⟩ ?_
    rintro _ ρ wd128 ⟨x136, rfl, hs131, hs133, hs134, hs135, hs137, h130, h132, e129⟩ x147 h hx148 K149 hK149
    refine WC_seqK fun K152 hK152 => ?_
    refine WC_region ?_
    refine T0_q (v := (.bool (decide (x136 < (p_s1.length : Int))))) rfl (yl_lss hs137 hs135) ?_
    refine T0_nil ?_
    refine hK152 _ _ ?_
    refine WC_seqK fun K153 hK153 => ?_
    refine WC_cond (b := (decide (x136 < (p_s1.length : Int)))) rfl (fun hb154 => ?_) (fun hb154 => ?_)
    · replace h := cond_t hb154 h
      refine WC_skip ?_
      refine hK153 _ _ ?_
      refine WC_seqK fun K155 hK155 => ?_
      refine WC_block ?_
      refine WC_seqK fun K156 hK156 => ?_
      refine WC_region ?_
      refine T0_q (v := (.int .i64 x136)) rfl (yl_move hs137) ?_
      obtain ⟨el157, hel158, h⟩ := bind_elim h
      obtain ⟨cs159, hat160, hrd161⟩ := SlRd.at h130 hel158
      have hrd161 : cs159 = [(.int .i64 el157)] := hrd161
      subst hrd161
      refine T0_q (v := (.pointer (some (elemAddr v_p_s1 (x136 : Int).toNat 1)))) rfl (yl_indexAddr Tryd.underlying22 sz3 h130 hel158 hs134 hs137) ?_
      refine T0_q (v := (.int .i64 el157)) rfl (yl_load sc3 rfl hat160) ?_
      refine T0_q (v := (.int .i64 x136)) rfl (yl_assign rfl) ?_
      refine T0_q (v := (.int .i64 el157)) rfl (yl_assign rfl) ?_
      refine T0_nil ?_
      refine hK156 _ _ ?_
      refine WC_seqK fun K163 hK163 => ?_
      refine WC_seqK fun K164 hK164 => ?_
      refine WC_region ?_
      refine T0_q (v := (.int .i64 x136)) rfl (yl_move rfl) ?_
      refine T0_q (v := v_p_s2) rfl (yl_move hs133) ?_
      refine T0_q (v := (.int .i64 (p_s2.length : Int))) rfl (yl_lenR rfl Tryd.underlying22 h132 rfl) ?_
      refine T0_q (v := (.bool (decide ((p_s2.length : Int) ≤ x136)))) rfl (yl_geq rfl rfl) ?_
      refine T0_nil ?_
      refine hK164 _ _ ?_
      refine WC_cond (b := (decide ((p_s2.length : Int) ≤ x136))) rfl (fun hb165 => ?_) (fun hb165 => ?_)
      · replace h := cond_t hb165 h
        refine WC_seqK fun K166 hK166 => ?_
        refine WC_region ?_
        refine T0_q (v := (.int .i64 1)) rfl (yl_assign rfl) ?_
        refine T0_nil ?_
        refine hK166 _ _ ?_
        refine WC_ret ?_
        replace h := some_out h
        subst h
        have ho := hx148 _ rfl
        subst ho
        replace h := jn0_inl hn146
        replace h := some_out h
        subst h
        exact ⟨[(.int .i64 1)], ⟨rfl, trivial⟩, e129, rfl⟩
      · replace h := cond_f hb165 h
        refine WC_skip ?_
        refine hK163 _ _ ?_
        refine WC_seqK fun K167 hK167 => ?_
        refine WC_region ?_
        refine T0_q (v := v_p_s2) rfl (yl_move hs133) ?_
        refine T0_q (v := (.int .i64 x136)) rfl (yl_move rfl) ?_
        obtain ⟨el168, hel169, h⟩ := bind_elim h
        obtain ⟨cs170, hat171, hrd172⟩ := SlRd.at h132 hel169
        have hrd172 : cs170 = [(.int .i64 el168)] := hrd172
        subst hrd172
        refine T0_q (v := (.pointer (some (elemAddr v_p_s2 (x136 : Int).toNat 1)))) rfl (yl_indexAddr Tryd.underlying22 sz3 h132 hel169 rfl rfl) ?_
        refine T0_q (v := (.int .i64 el168)) rfl (yl_load sc3 rfl hat171) ?_
        refine T0_q (v := (.int .i64 el168)) rfl (yl_assign rfl) ?_
        refine T0_nil ?_
        refine hK167 _ _ ?_
        refine WC_seqK fun K174 hK174 => ?_
        refine WC_region ?_
        refine T0_q (v := (.int .i64 el157)) rfl (yl_move rfl) ?_
        refine T0_q (v := (.int .i64 el168)) rfl (yl_move rfl) ?_
        obtain ⟨r175, hr176, h⟩ := bind_elim h
        refine T0_e rfl (eff_call Tryd.func142 nm142 rfl (ev2 rfl rfl) (cmp_Compare_int_ok [] _ (LtL.nil _) el157 el168 r175 hr176) ?_)
        rintro _ wd177 ⟨he178, rfl⟩
        have e179 := e129.trans he178
        refine T0_q (v := (.int .i64 r175)) rfl (yl_assign rfl) ?_
        refine T0_nil ?_
        refine hK174 _ _ ?_
        refine WC_seqK fun K180 hK180 => ?_
        refine WC_region ?_
        refine T0_q (v := (.int .i64 r175)) rfl (yl_move rfl) ?_
        refine T0_q (v := (.bool (!decide (r175 = 0)))) rfl (yl_neq rfl rfl) ?_
        refine T0_nil ?_
        refine hK180 _ _ ?_
        refine WC_cond (b := (!decide (r175 = 0))) rfl (fun hb181 => ?_) (fun hb181 => ?_)
        · replace h := cond_t hb181 h
          refine WC_seqK fun K182 hK182 => ?_
          refine WC_region ?_
          refine T0_q (v := (.int .i64 r175)) rfl (yl_move rfl) ?_
          refine T0_q (v := (.int .i64 r175)) rfl (yl_assign rfl) ?_
          refine T0_nil ?_
          refine hK182 _ _ ?_
          refine WC_ret ?_
          replace h := some_out h
          subst h
          have ho := hx148 _ rfl
          subst ho
          replace h := jn0_inl hn146
          replace h := some_out h
          subst h
          exact ⟨[(.int .i64 r175)], ⟨rfl, trivial⟩, e179, rfl⟩
        · replace h := cond_f hb181 h
          refine WC_skip ?_
          refine hK155 _ _ ?_
          refine WC_region ?_
          refine T0_q (v := (.int .i64 (w64 (x136 + 1)))) rfl (yl_add hs137 rfl) ?_
          refine T0_q (v := (.int .i64 (w64 (x136 + 1)))) rfl (yl_move rfl) ?_
          refine T0_nil ?_
          replace h := some_out h
          subst h
          refine hK149 _ _ _ rfl ?_
          exact ⟨w64 (x136 + 1), rfl, hs131, hs133, hs134, hs135, rfl, (h130.ext he178), (h132.ext he178), e179⟩
    · replace h := cond_f hb154 h
      refine WC_exit ?_
      replace h := some_out h
      subst h
      have ho := hx148 _ rfl
      subst ho
      refine hK150 _ _ ?_
      exact ⟨rfl, hs131, hs133, h130, h132, e129⟩
  · rintro ρ wd138 ⟨rfl, hs141, hs143, h140, h142, e139⟩
    replace h := jn0_inr hn146
    refine hK4 _ _ ?_
    refine WC_seqK fun K183 hK183 => ?_
    refine WC_seqK fun K184 hK184 => ?_
    refine WC_region ?_
    refine T0_q (v := v_p_s1) rfl (yl_move hs141) ?_
    refine T0_q (v := (.int .i64 (p_s1.length : Int))) rfl (yl_lenR rfl Tryd.underlying22 h140 rfl) ?_
    refine T0_q (v := v_p_s2) rfl (yl_move hs143) ?_
    refine T0_q (v := (.int .i64 (p_s2.length : Int))) rfl (yl_lenR rfl Tryd.underlying22 h142 rfl) ?_
    refine T0_q (v := (.bool (decide ((p_s1.length : Int) < (p_s2.length : Int))))) rfl (yl_lss rfl rfl) ?_
    refine T0_nil ?_
    refine hK184 _ _ ?_
    refine WC_cond (b := (decide ((p_s1.length : Int) < (p_s2.length : Int)))) rfl (fun hb185 => ?_) (fun hb185 => ?_)
    · replace h := cond_t hb185 h
      refine WC_seqK fun K186 hK186 => ?_
      refine WC_region ?_
      refine T0_q (v := (.int .i64 (-1))) rfl (yl_assign rfl) ?_
      refine T0_nil ?_
      refine hK186 _ _ ?_
      refine WC_ret ?_
      replace h := some_out h
      subst h
      exact ⟨[(.int .i64 (-1))], ⟨rfl, trivial⟩, e139, rfl⟩
    · replace h := cond_f hb185 h
      refine WC_skip ?_
      refine hK183 _ _ ?_
      refine WC_seqK fun K187 hK187 => ?_
      refine WC_region ?_
      refine T0_q (v := (.int .i64 0)) rfl (yl_assign rfl) ?_
      refine T0_nil ?_
      refine hK187 _ _ ?_
      refine WC_ret ?_
      replace h := some_out h
      subst h
      exact ⟨[(.int .i64 0)], ⟨rfl, trivial⟩, e139, rfl⟩

noncomputable def locate_track_distance_s0 (p_t : locate_track) (x4828 : Int) : (Bool × Int × Int × Int × Int) → Option ((Bool × Int × Int × Int × Int) ⊕ (Bool × Int × Int × Int)) := fun (x5677, x5683, x5687, x5688, x5689) =>
  (bif (decide (x5683 < x4828)) then (
    (Option.bind (locate_track_at_spec p_t x4828) fun r5731 =>
    (Option.bind (locate_track_at_spec p_t x5683) fun r5739 =>
    (Option.bind (locate_window_differ_spec r5731 r5739) fun r5748 =>
    (Option.bind (bif ((!((!x5677) || (decide (r5748 < x5687)))) && (decide (r5748 = x5687))) then slices_Compare_int_spec ([x5683, x4828] : List Int) ([x5688, x5689] : List Int) else some default) fun r5781 =>
    (bif (((!x5677) || (decide (r5748 < x5687))) || ((decide (r5748 = x5687)) && (decide (r5781 < 0)))) then (
      some (.inl (true, w64 (x5683 + 1), r5748, x5683, x4828))
    ) else (
      some (.inl (x5677, w64 (x5683 + 1), x5687, x5688, x5689))
    ))
    )
    )
    )
    )
  ) else (
    some (.inr (x5677, x5687, x5688, x5689))
  ))
noncomputable def locate_track_distance_s1 (p_t : locate_track) (r45 : Int) : (Bool × Int × Int × Int × Int) → Option ((Bool × Int × Int × Int × Int) ⊕ (Bool × Int × Int × Int)) := fun (x4825, x4828, x4832, x4833, x4834) =>
  (bif (decide (x4828 < r45)) then (
    (Option.bind (loop (locate_track_distance_s0 p_t x4828) (x4825, 0, x4832, x4833, x4834)) fun ((x5700, x5706, x5707, x5708) : Bool × Int × Int × Int) =>
    some (.inl (x5700, w64 (x4828 + 1), x5706, x5707, x5708))
    )
  ) else (
    some (.inr (x4825, x4832, x4833, x4834))
  ))
noncomputable def locate_track_distance_spec (p_t : locate_track) : Option (locate_far × Bool) :=
  (Option.bind (locate_track_windows_spec p_t) fun r45 =>
  (Option.bind (loop (locate_track_distance_s1 p_t r45) (false, 0, 0, 0, 0)) fun ((x4844, x4848, x4849, x4850) : Bool × Int × Int × Int) =>
  some ((locate_far.mk x4848 (Arr2_Int.mk x4849 x4850)), x4844)
  )
  )
theorem locate_track_distance_ok (L : List Value) (w : World) (hL : LtL L w) (cs_p_t : List Value) (p_t : locate_track) (h_p_t : Rep.rd L w cs_p_t p_t) (r : locate_far × Bool) (h : locate_track_distance_spec p_t = some r) :
    CallsTo Tryd.prog 115 [(.agg cs_p_t.toArray)] w (fun v w' => Ext w w' ∧ ∃ (cs0 : List Value), (.tuple #[(.agg cs0.toArray), (.bool r.2)]) = v ∧ Rep.rd L w' cs0 r.1) := by
  have e0 : Ext w w := Chg.refl _ _
  obtain ⟨v1, h2, rfl⟩ := h_p_t
  refine callsTo_of_WC (n := 59) (rs := [.cell 2 158, .tmp 3]) Tryd.func115 rfl rfl rfl rfl rfl ?_
  refine WC_seqK fun K4 hK4 => ?_
  refine WC_region ?_
  refine T0_e rfl (eff_boxC (cs := [v1, (.int .i64 p_t.LocateTrack.Window), (.int .i64 p_t.LocateTrack.Tooth), (.int .i64 p_t.LocateTrack.PerVane), (.int .i64 p_t.LocateTrack.First), (.int .i64 p_t.LocateTrack.Modulus), (.int .i64 p_t.LocateTrack.Slack), (.int .i64 p_t.LocateTrack.Errors), (.bool p_t.LocateTrack.Round)]) rfl rfl ?_)
  intro b5 wd6 hb7 he8 hB9
  have hbf10 := bfresh e0 hb7
  have e11 := e0.trans he8
  refine T0_e rfl (eff_allocZ zi158 ?_)
  intro b13 wd14 hb15 he16 hB17
  have hn18 : b13 ≠ b5 := box_ne hB9 hb15
  have hbf19 := bfresh e11 hb15
  have h20 := (h2.ext he8).step (add_box he16 hb15)
  have e21 := e11.trans he16
  refine T0_q (v := (.bool false)) rfl (yl_assign rfl) ?_
  refine T0_nil ?_
  refine hK4 _ _ ?_
  refine WC_seqK fun K23 hK23 => ?_
  refine WC_region ?_
  refine T0_q (v := (.agg (List.toArray [(.int .i64 0), (.int .i64 0), (.int .i64 0)]))) rfl (yl_buildC (cells := [(.int .i64 0), (.int .i64 0), (.int .i64 0)]) bi158 pc_nil rfl) ?_
  refine T0_e rfl (eff_allocZ zi158 ?_)
  intro b24 wd25 hb26 he27 hB28
  have hn29 : b24 ≠ b5 := box_ne (hB9.ext he16) hb26
  have hn30 : b24 ≠ b13 := box_ne hB17 hb26
  have hbf31 := bfresh e21 hb26
  have h32 := h20.step (add_box he27 hb26)
  have e33 := he16.trans he27
  have e34 := e21.trans he27
  refine T0_e rfl (eff_storeC (vs := [(.int .i64 0), (.int .i64 0), (.int .i64 0)]) (cs' := [(.int .i64 0), (.int .i64 0), (.int .i64 0)]) sz158 rfl rfl rfl rfl hB28 rfl (oc_cons rfl (oc_cons rfl (oc_cons rfl oc_nil))) rfl ?_)
  intro wd36 hc37 hB38
  have h39 := h32.step (Stepp.chg_mem hc37 mem0)
  have h40 := (hB9.ext e33).chg hc37 (avoidb hn29)
  have h41 := (hB17.ext he27).chg hc37 (avoidb hn30)
  have e42 := chg_box e34 hc37 hbf31
  refine T0_q (v := (.bool false)) rfl (yl_assign rfl) ?_
  refine T0_nil ?_
  refine hK23 _ _ ?_
  refine WC_seqK fun K43 hK43 => ?_
  refine WC_seqK fun K44 hK44 => ?_
  refine WC_region ?_
  refine T0_q (v := (.agg (List.toArray [v1, (.int .i64 p_t.LocateTrack.Window), (.int .i64 p_t.LocateTrack.Tooth), (.int .i64 p_t.LocateTrack.PerVane), (.int .i64 p_t.LocateTrack.First), (.int .i64 p_t.LocateTrack.Modulus), (.int .i64 p_t.LocateTrack.Slack), (.int .i64 p_t.LocateTrack.Errors), (.bool p_t.LocateTrack.Round)]))) rfl (yl_loadA (cs := [v1, (.int .i64 p_t.LocateTrack.Window), (.int .i64 p_t.LocateTrack.Tooth), (.int .i64 p_t.LocateTrack.PerVane), (.int .i64 p_t.LocateTrack.First), (.int .i64 p_t.LocateTrack.Modulus), (.int .i64 p_t.LocateTrack.Slack), (.int .i64 p_t.LocateTrack.Errors), (.bool p_t.LocateTrack.Round)]) ag130 rfl (Box.at h40)) ?_
  obtain ⟨r45, hr46, h⟩ := bind_elim h
  refine T0_e rfl (eff_call Tryd.func101 nm101 rfl (ev1 rfl) (locate_track_windows_ok [] _ (LtL.nil _) [v1, (.int .i64 p_t.LocateTrack.Window), (.int .i64 p_t.LocateTrack.Tooth), (.int .i64 p_t.LocateTrack.PerVane), (.int .i64 p_t.LocateTrack.First), (.int .i64 p_t.LocateTrack.Modulus), (.int .i64 p_t.LocateTrack.Slack), (.int .i64 p_t.LocateTrack.Errors), (.bool p_t.LocateTrack.Round)] p_t ⟨v1, (h39.sub (fun _ h => by cases h)), rfl⟩ r45 hr46) ?_)
  rintro _ wd47 ⟨he48, rfl⟩
  have e49 := e42.trans he48
  refine T0_q (v := (.int .i64 0)) rfl (yl_move rfl) ?_
  refine T0_nil ?_
  refine hK44 _ _ ?_
  obtain ⟨o4853, hl4854, hn4855⟩ := bind_elim h
  refine WC_post (fun (ρ : Env) (wd4840 : World) => ∃ (x4844 : Bool) (x4848 : Int) (x4849 : Int) (x4850 : Int), (x4844, x4848, x4849, x4850) = o4853 ∧ ρ 2 = (.pointer (some ⟨b13, 0, none⟩)) ∧ ρ 4 = (.pointer (some ⟨b24, 0, none⟩)) ∧ ρ 5 = (.bool x4844) ∧ Box wd4840 b13 [(.int .i64 0), (.int .i64 0), (.int .i64 0)] 158 ∧ Box wd4840 b24 [(.int .i64 x4848), (.int .i64 x4849), (.int .i64 x4850)] 158 ∧ Ext w wd4840) ?_ ?_
  · intro K4859 hK4859
    refine WC_block ?_
    refine WC_loopk (fun sv ρ wd4820 => ∃ (x4825 : Bool) (x4828 : Int) (x4832 : Int) (x4833 : Int) (x4834 : Int), (x4825, x4828, x4832, x4833, x4834) = sv ∧ ρ 1 = (.pointer (some ⟨b5, 0, none⟩)) ∧ ρ 2 = (.pointer (some ⟨b13, 0, none⟩)) ∧ ρ 4 = (.pointer (some ⟨b24, 0, none⟩)) ∧ ρ 5 = (.bool x4825) ∧ ρ 11 = (.int .i64 r45) ∧ ρ 12 = (.int .i64 x4828) ∧ SlRd ((.pointer (some ⟨b24, 0, none⟩)) :: (.pointer (some ⟨b13, 0, none⟩)) :: L) wd4820 v1 p_t.LocateTrack.Vanes ∧ Box wd4820 b13 [(.int .i64 0), (.int .i64 0), (.int .i64 0)] 158 ∧ Box wd4820 b24 [(.int .i64 x4832), (.int .i64 x4833), (.int .i64 x4834)] 158 ∧ Box wd4820 b5 [v1, (.int .i64 p_t.LocateTrack.Window), (.int .i64 p_t.LocateTrack.Tooth), (.int .i64 p_t.LocateTrack.PerVane), (.int .i64 p_t.LocateTrack.First), (.int .i64 p_t.LocateTrack.Modulus), (.int .i64 p_t.LocateTrack.Slack), (.int .i64 p_t.LocateTrack.Errors), (.bool p_t.LocateTrack.Round)] 130 ∧ Ext w wd4820) hl4854 ⟨false, 0, 0, 0, 0, rfl, rfl, rfl, rfl, rfl, rfl, rfl, (h39.ext he48), (h41.ext he48), (hB38.ext he48), (h40.ext he48), e49⟩ ?_
    rintro _ ρ wd4820 ⟨x4825, x4828, x4832, x4833, x4834, rfl, hs4822, hs4823, hs4824, hs4826, hs4827, hs4829, h4837, hB4831, hB4836, hB4839, e4821⟩ x4856 h hx4857 K4858 hK4858
    refine WC_seqK fun K4861 hK4861 => ?_
    refine WC_region ?_
    refine T0_q (v := (.bool (decide (x4828 < r45)))) rfl (yl_lss hs4829 hs4827) ?_
    refine T0_nil ?_
    refine hK4861 _ _ ?_
    refine WC_seqK fun K4862 hK4862 => ?_
    refine WC_cond (b := (decide (x4828 < r45))) rfl (fun hb4863 => ?_) (fun hb4863 => ?_)
    · replace h := cond_t hb4863 h
      refine WC_skip ?_
      refine hK4862 _ _ ?_
      refine WC_seqK fun K4864 hK4864 => ?_
      refine WC_block ?_
      refine WC_seqK fun K4865 hK4865 => ?_
      refine WC_region ?_
      refine T0_q (v := (.int .i64 x4828)) rfl (yl_move hs4829) ?_
      refine T0_q (v := (.int .i64 x4828)) rfl (yl_assign rfl) ?_
      refine T0_nil ?_
      refine hK4865 _ _ ?_
      refine WC_seqK fun K4866 hK4866 => ?_
      refine WC_region ?_
      refine T0_q (v := (.int .i64 x4828)) rfl (yl_move rfl) ?_
      refine T0_q (v := (.int .i64 0)) rfl (yl_move rfl) ?_
      refine T0_nil ?_
      refine hK4866 _ _ ?_
      obtain ⟨o5714, hl5715, hn5716⟩ := bind_elim h
      refine WC_post (fun (ρ : Env) (wd5695 : World) => ∃ (x5700 : Bool) (x5706 : Int) (x5707 : Int) (x5708 : Int), (x5700, x5706, x5707, x5708) = o5714 ∧ ρ 1 = (.pointer (some ⟨b5, 0, none⟩)) ∧ ρ 2 = (.pointer (some ⟨b13, 0, none⟩)) ∧ ρ 4 = (.pointer (some ⟨b24, 0, none⟩)) ∧ ρ 5 = (.bool x5700) ∧ ρ 11 = (.int .i64 r45) ∧ ρ 12 = (.int .i64 x4828) ∧ SlRd ((.pointer (some ⟨b24, 0, none⟩)) :: (.pointer (some ⟨b13, 0, none⟩)) :: L) wd5695 v1 p_t.LocateTrack.Vanes ∧ Box wd5695 b13 [(.int .i64 0), (.int .i64 0), (.int .i64 0)] 158 ∧ Box wd5695 b24 [(.int .i64 x5706), (.int .i64 x5707), (.int .i64 x5708)] 158 ∧ Box wd5695 b5 [v1, (.int .i64 p_t.LocateTrack.Window), (.int .i64 p_t.LocateTrack.Tooth), (.int .i64 p_t.LocateTrack.PerVane), (.int .i64 p_t.LocateTrack.First), (.int .i64 p_t.LocateTrack.Modulus), (.int .i64 p_t.LocateTrack.Slack), (.int .i64 p_t.LocateTrack.Errors), (.bool p_t.LocateTrack.Round)] 130 ∧ Ext w wd5695) ?_ ?_
      · intro K5720 hK5720
        refine WC_block ?_
        refine WC_loopk (fun sv ρ wd5672 => ∃ (x5677 : Bool) (x5683 : Int) (x5687 : Int) (x5688 : Int) (x5689 : Int), (x5677, x5683, x5687, x5688, x5689) = sv ∧ ρ 1 = (.pointer (some ⟨b5, 0, none⟩)) ∧ ρ 2 = (.pointer (some ⟨b13, 0, none⟩)) ∧ ρ 4 = (.pointer (some ⟨b24, 0, none⟩)) ∧ ρ 5 = (.bool x5677) ∧ ρ 6 = (.int .i64 x4828) ∧ ρ 11 = (.int .i64 r45) ∧ ρ 12 = (.int .i64 x4828) ∧ ρ 15 = (.int .i64 x4828) ∧ ρ 16 = (.int .i64 x5683) ∧ SlRd ((.pointer (some ⟨b24, 0, none⟩)) :: (.pointer (some ⟨b13, 0, none⟩)) :: L) wd5672 v1 p_t.LocateTrack.Vanes ∧ Box wd5672 b13 [(.int .i64 0), (.int .i64 0), (.int .i64 0)] 158 ∧ Box wd5672 b24 [(.int .i64 x5687), (.int .i64 x5688), (.int .i64 x5689)] 158 ∧ Box wd5672 b5 [v1, (.int .i64 p_t.LocateTrack.Window), (.int .i64 p_t.LocateTrack.Tooth), (.int .i64 p_t.LocateTrack.PerVane), (.int .i64 p_t.LocateTrack.First), (.int .i64 p_t.LocateTrack.Modulus), (.int .i64 p_t.LocateTrack.Slack), (.int .i64 p_t.LocateTrack.Errors), (.bool p_t.LocateTrack.Round)] 130 ∧ Ext w wd5672) hl5715 ⟨x4825, 0, x4832, x4833, x4834, rfl, hs4822, hs4823, hs4824, hs4826, rfl, hs4827, hs4829, rfl, rfl, h4837, hB4831, hB4836, hB4839, e4821⟩ ?_
        rintro _ ρ wd5672 ⟨x5677, x5683, x5687, x5688, x5689, rfl, hs5674, hs5675, hs5676, hs5678, hs5679, hs5680, hs5681, hs5682, hs5684, h5692, hB5686, hB5691, hB5694, e5673⟩ x5717 h hx5718 K5719 hK5719
        refine WC_seqK fun K5722 hK5722 => ?_
        refine WC_region ?_
        refine T0_q (v := (.bool (decide (x5683 < x4828)))) rfl (yl_lss hs5684 hs5682) ?_
        refine T0_nil ?_
        refine hK5722 _ _ ?_
        refine WC_seqK fun K5723 hK5723 => ?_
        refine WC_cond (b := (decide (x5683 < x4828))) rfl (fun hb5724 => ?_) (fun hb5724 => ?_)
        · replace h := cond_t hb5724 h
          refine WC_skip ?_
          refine hK5723 _ _ ?_
          refine WC_seqK fun K5725 hK5725 => ?_
          refine WC_block ?_
          refine WC_seqK fun K5726 hK5726 => ?_
          refine WC_region ?_
          refine T0_q (v := (.int .i64 x5683)) rfl (yl_move hs5684) ?_
          refine T0_q (v := (.int .i64 x5683)) rfl (yl_assign rfl) ?_
          refine T0_nil ?_
          refine hK5726 _ _ ?_
          refine WC_seqK fun K5727 hK5727 => ?_
          refine WC_plan mixed (.p 1 (.p 4 (.p 7 (.p 8 (.p 9 (.q 0 (.q 3 (.f 2 (.f 5 (.f 6 (.p 10 (.e 11 (.b 12 .done))) 11 (.e 6 (.p 10 (.b 12 .done)))) 11 (.e 5 (.e 6 (.p 10 (.b 12 .done))))) 11 (.e 2 (.e 5 (.e 6 (.p 10 (.b 12 .done))))))))))))) (by kernel_rfl) ?_
          intro wd5728 he5729
          have e5730 := e5673.trans he5729
          refine TP_p (v := (.int .i64 x4828)) rfl rfl (fun w' => (yl_move hs5679)) ?_
          refine TP_p (v := (.int .i64 x5683)) rfl rfl (fun w' => (yl_move rfl)) ?_
          refine TP_p (v := (.int .i64 x5683)) rfl rfl (fun w' => (yl_move rfl)) ?_
          refine TP_p (v := (.int .i64 x4828)) rfl rfl (fun w' => (yl_move hs5679)) ?_
          refine TP_p (v := (.agg (List.toArray [(.int .i64 x5683), (.int .i64 x4828)]))) rfl rfl (fun w' => (yl_buildA (cells := [(.int .i64 x5683), (.int .i64 x4828)]) Tryd.underlying115 sz3 zi115 (pc_cons rfl rfl (pc_cons rfl rfl pc_nil)) rfl)) ?_
          refine TP_q (v := (.agg (List.toArray [v1, (.int .i64 p_t.LocateTrack.Window), (.int .i64 p_t.LocateTrack.Tooth), (.int .i64 p_t.LocateTrack.PerVane), (.int .i64 p_t.LocateTrack.First), (.int .i64 p_t.LocateTrack.Modulus), (.int .i64 p_t.LocateTrack.Slack), (.int .i64 p_t.LocateTrack.Errors), (.bool p_t.LocateTrack.Round)]))) rfl rfl (fun w' hS => (yl_loadA (cs := [v1, (.int .i64 p_t.LocateTrack.Window), (.int .i64 p_t.LocateTrack.Tooth), (.int .i64 p_t.LocateTrack.PerVane), (.int .i64 p_t.LocateTrack.First), (.int .i64 p_t.LocateTrack.Modulus), (.int .i64 p_t.LocateTrack.Slack), (.int .i64 p_t.LocateTrack.Errors), (.bool p_t.LocateTrack.Round)]) ag130 hs5674 (Box.at (hB5694.ext ((he5729).trans hS))))) ?_
          refine TP_q (v := (.agg (List.toArray [v1, (.int .i64 p_t.LocateTrack.Window), (.int .i64 p_t.LocateTrack.Tooth), (.int .i64 p_t.LocateTrack.PerVane), (.int .i64 p_t.LocateTrack.First), (.int .i64 p_t.LocateTrack.Modulus), (.int .i64 p_t.LocateTrack.Slack), (.int .i64 p_t.LocateTrack.Errors), (.bool p_t.LocateTrack.Round)]))) rfl rfl (fun w' hS => (yl_loadA (cs := [v1, (.int .i64 p_t.LocateTrack.Window), (.int .i64 p_t.LocateTrack.Tooth), (.int .i64 p_t.LocateTrack.PerVane), (.int .i64 p_t.LocateTrack.First), (.int .i64 p_t.LocateTrack.Modulus), (.int .i64 p_t.LocateTrack.Slack), (.int .i64 p_t.LocateTrack.Errors), (.bool p_t.LocateTrack.Round)]) ag130 hs5674 (Box.at (hB5694.ext ((he5729).trans hS))))) ?_
          refine TP_f rfl rfl rfl rfl ?_ ?_
          · skip
            obtain ⟨r5731, hr5732, h⟩ := bind_elim h
            refine  (eff_call Tryd.func104 nm104 rfl (ev2 rfl rfl) (locate_track_at_ok [] _ (LtL.nil _) [v1, (.int .i64 p_t.LocateTrack.Window), (.int .i64 p_t.LocateTrack.Tooth), (.int .i64 p_t.LocateTrack.PerVane), (.int .i64 p_t.LocateTrack.First), (.int .i64 p_t.LocateTrack.Modulus), (.int .i64 p_t.LocateTrack.Slack), (.int .i64 p_t.LocateTrack.Errors), (.bool p_t.LocateTrack.Round)] p_t ⟨v1, ((h5692.ext he5729).sub (fun _ h => by cases h)), rfl⟩ x4828 r5731 hr5732) ?_)
            rintro _ wd5733 ⟨he5734, cs5735, rfl, hrd5736⟩
            have e5737 := he5729.trans he5734
            have e5738 := e5730.trans he5734
            have hrd5736 : cs5735 = [(.int .i64 r5731.e0), (.int .i64 r5731.e1), (.int .i64 r5731.e2), (.int .i64 r5731.e3), (.int .i64 r5731.e4), (.int .i64 r5731.e5), (.int .i64 r5731.e6), (.int .i64 r5731.e7), (.int .i64 r5731.e8), (.int .i64 r5731.e9), (.int .i64 r5731.e10), (.int .i64 r5731.e11)] := hrd5736
            subst hrd5736
            refine ⟨he5734, ?_⟩
            refine TP_f rfl rfl rfl rfl ?_ ?_
            · skip
              obtain ⟨r5739, hr5740, h⟩ := bind_elim h
              refine  (eff_call Tryd.func104 nm104 rfl (ev2 rfl rfl) (locate_track_at_ok [] _ (LtL.nil _) [v1, (.int .i64 p_t.LocateTrack.Window), (.int .i64 p_t.LocateTrack.Tooth), (.int .i64 p_t.LocateTrack.PerVane), (.int .i64 p_t.LocateTrack.First), (.int .i64 p_t.LocateTrack.Modulus), (.int .i64 p_t.LocateTrack.Slack), (.int .i64 p_t.LocateTrack.Errors), (.bool p_t.LocateTrack.Round)] p_t ⟨v1, ((h5692.ext e5737).sub (fun _ h => by cases h)), rfl⟩ x5683 r5739 hr5740) ?_)
              rintro _ wd5741 ⟨he5742, cs5743, rfl, hrd5744⟩
              have e5745 := e5737.trans he5742
              have e5746 := he5734.trans he5742
              have e5747 := e5738.trans he5742
              have hrd5744 : cs5743 = [(.int .i64 r5739.e0), (.int .i64 r5739.e1), (.int .i64 r5739.e2), (.int .i64 r5739.e3), (.int .i64 r5739.e4), (.int .i64 r5739.e5), (.int .i64 r5739.e6), (.int .i64 r5739.e7), (.int .i64 r5739.e8), (.int .i64 r5739.e9), (.int .i64 r5739.e10), (.int .i64 r5739.e11)] := hrd5744
              subst hrd5744
              refine ⟨e5746, ?_⟩
              refine TP_f rfl rfl rfl rfl ?_ ?_
              · skip
                obtain ⟨r5748, hr5749, h⟩ := bind_elim h
                refine  (eff_call Tryd.func118 nm118 rfl (ev2 rfl rfl) (locate_window_differ_ok [] _ (LtL.nil _) [(.int .i64 r5731.e0), (.int .i64 r5731.e1), (.int .i64 r5731.e2), (.int .i64 r5731.e3), (.int .i64 r5731.e4), (.int .i64 r5731.e5), (.int .i64 r5731.e6), (.int .i64 r5731.e7), (.int .i64 r5731.e8), (.int .i64 r5731.e9), (.int .i64 r5731.e10), (.int .i64 r5731.e11)] r5731 rfl [(.int .i64 r5739.e0), (.int .i64 r5739.e1), (.int .i64 r5739.e2), (.int .i64 r5739.e3), (.int .i64 r5739.e4), (.int .i64 r5739.e5), (.int .i64 r5739.e6), (.int .i64 r5739.e7), (.int .i64 r5739.e8), (.int .i64 r5739.e9), (.int .i64 r5739.e10), (.int .i64 r5739.e11)] r5739 rfl r5748 hr5749) ?_)
                rintro _ wd5750 ⟨he5751, rfl⟩
                have e5752 := e5745.trans he5751
                have e5753 := e5746.trans he5751
                have e5754 := e5747.trans he5751
                refine ⟨e5753, ?_⟩
                refine TP_p (v := (.agg (List.toArray [(.int .i64 r5748), (.int .i64 x5683), (.int .i64 x4828)]))) rfl rfl (fun w' => (yl_buildC (cells := [(.int .i64 r5748), (.int .i64 x5683), (.int .i64 x4828)]) bi158 (pc_cons rfl rfl (pc_cons rfl rfl pc_nil)) rfl)) ?_
                refine TP_e rfl rfl (eff_allocZ zi158 ?_)
                intro b5755 wd5756 hb5757 he5758 hB5759
                have hn5760 : b5755 ≠ b13 := box_ne (hB5686.ext e5752) hb5757
                have hn5761 : b5755 ≠ b24 := box_ne (hB5691.ext e5752) hb5757
                have hn5762 : b5755 ≠ b5 := box_ne (hB5694.ext e5752) hb5757
                have hbf5763 := bfresh e5754 hb5757
                have h5764 := (h5692.ext e5752).step (add_box he5758 hb5757)
                have e5765 := e5752.trans he5758
                have e5766 := e5753.trans he5758
                have e5767 := e5754.trans he5758
                refine ⟨e5766, ?_⟩
                refine TP_b rfl rfl (eff_storeC (vs := [(.int .i64 r5748), (.int .i64 x5683), (.int .i64 x4828)]) (cs' := [(.int .i64 r5748), (.int .i64 x5683), (.int .i64 x4828)]) sz158 rfl rfl rfl rfl hB5759 rfl (oc_cons rfl (oc_cons rfl (oc_cons rfl oc_nil))) rfl ?_)
                intro wd5769 hc5770 hB5771
                have h5772 := (hB5686.ext e5765).chg hc5770 (avoidb hn5760)
                have h5773 := (hB5691.ext e5765).chg hc5770 (avoidb hn5761)
                have h5774 := h5764.step (Stepp.chg_mem hc5770 mem0)
                have h5775 := (hB5694.ext e5765).chg hc5770 (avoidb hn5762)
                have e5776 := chg_box e5767 hc5770 hbf5763
                refine TP_done ?_
                refine hK5727 _ _ ?_
                refine WC_seqK fun K5777 hK5777 => ?_
                refine WC_plan mixed (.p 0 (.p 1 (.p 2 (.p 3 (.p 5 (.q 4 (.q 6 (.p 7 (.p 8 (.p 9 (.p 10 (.p 12 (.q 11 (.q 13 (.p 14 (.p 15 (.p 16 (.p 17 (.p 18 (.p 19 (.e 20 (.p 21 (.p 22 (.p 23 .done)))))))))))))))))))))))) (by kernel_rfl) ?_
                intro wd5778 he5779
                have e5780 := e5776.trans he5779
                refine TP_p (v := (.bool x5677)) rfl rfl (fun w' => (yl_move hs5678)) ?_
                refine TP_p (v := (.bool (!x5677))) rfl rfl (fun w' => (yl_not rfl)) ?_
                refine TP_p (v := (.bool (!x5677))) rfl rfl (fun w' => (yl_move rfl)) ?_
                refine TP_gp (v := (.pointer (some ⟨b5755, 0, none⟩))) (!(!x5677)) rfl (wanted_f rfl rfl rfl rfl) (fun w' hg => (yl_fa 0 Tryd.underlying158 rfl rfl ⟨0, sz3⟩ rfl rfl)) ?_
                refine TP_gp (v := (.pointer (some ⟨b24, 0, none⟩))) (!(!x5677)) rfl (wanted_f rfl rfl rfl rfl) (fun w' hg => (yl_fa 0 Tryd.underlying158 rfl rfl ⟨0, sz3⟩ hs5676 rfl)) ?_
                refine TP_gq (v := (.int .i64 r5748)) (!(!x5677)) rfl (wanted_f rfl rfl rfl rfl) (fun w' hS hg => (yl_load sc3 (gd_true hg) (Box.at (hB5771.ext ((he5779).trans hS))))) ?_
                refine TP_gq (v := (.int .i64 x5687)) (!(!x5677)) rfl (wanted_f rfl rfl rfl rfl) (fun w' hS hg => (yl_load sc3 (gd_true hg) (Box.at (h5773.ext ((he5779).trans hS))))) ?_
                refine TP_gp (v := (.bool (decide (r5748 < x5687)))) (!(!x5677)) rfl (wanted_f rfl rfl rfl rfl) (fun w' hg => (yl_lss (gd_true hg) (gd_true hg))) ?_
                refine TP_p (v := (.bool ((!x5677) || (decide (r5748 < x5687))))) rfl rfl (fun w' => (yl_or rfl rfl (fun hb => (gd_true (not_t hb))))) ?_
                refine TP_p (v := (.bool ((!x5677) || (decide (r5748 < x5687))))) rfl rfl (fun w' => (yl_move rfl)) ?_
                refine TP_gp (v := (.pointer (some ⟨b5755, 0, none⟩))) (!((!x5677) || (decide (r5748 < x5687)))) rfl (wanted_f rfl rfl rfl rfl) (fun w' hg => (yl_fa 0 Tryd.underlying158 rfl rfl ⟨0, sz3⟩ rfl rfl)) ?_
                refine TP_gp (v := (.pointer (some ⟨b24, 0, none⟩))) (!((!x5677) || (decide (r5748 < x5687)))) rfl (wanted_f rfl rfl rfl rfl) (fun w' hg => (yl_fa 0 Tryd.underlying158 rfl rfl ⟨0, sz3⟩ hs5676 rfl)) ?_
                refine TP_gq (v := (.int .i64 r5748)) (!((!x5677) || (decide (r5748 < x5687)))) rfl (wanted_f rfl rfl rfl rfl) (fun w' hS hg => (yl_load sc3 (gd_true hg) (Box.at (hB5771.ext ((he5779).trans hS))))) ?_
                refine TP_gq (v := (.int .i64 x5687)) (!((!x5677) || (decide (r5748 < x5687)))) rfl (wanted_f rfl rfl rfl rfl) (fun w' hS hg => (yl_load sc3 (gd_true hg) (Box.at (h5773.ext ((he5779).trans hS))))) ?_
                refine TP_gp (v := (.bool (decide (r5748 = x5687)))) (!((!x5677) || (decide (r5748 < x5687)))) rfl (wanted_f rfl rfl rfl rfl) (fun w' hg => (yl_eql (gd_true hg) (gd_true hg))) ?_
                refine TP_gp (v := (.bool (decide (r5748 = x5687)))) (!((!x5677) || (decide (r5748 < x5687)))) rfl (wanted_f rfl rfl rfl rfl) (fun w' hg => (yl_move (gd_true hg))) ?_
                refine TP_gp (v := (.pointer (some ⟨b5755, 1, none⟩))) ((!((!x5677) || (decide (r5748 < x5687)))) && (decide (r5748 = x5687))) rfl (wanted_gt rfl rfl rfl rfl) (fun w' hg => (yl_fa 1 Tryd.underlying158 rfl rfl ⟨1, sz115⟩ rfl rfl)) ?_
                refine TP_gp (v := (.slice (some ⟨b5755, 1, none⟩) 2 2)) ((!((!x5677) || (decide (r5748 < x5687)))) && (decide (r5748 = x5687))) rfl (wanted_gt rfl rfl rfl rfl) (fun w' hg => (yl_sliceAv Tryd.underlying115 sz3 rfl (gd_true hg) rfl)) ?_
                refine TP_gp (v := (.pointer (some ⟨b24, 1, none⟩))) ((!((!x5677) || (decide (r5748 < x5687)))) && (decide (r5748 = x5687))) rfl (wanted_gt rfl rfl rfl rfl) (fun w' hg => (yl_fa 1 Tryd.underlying158 rfl rfl ⟨1, sz115⟩ hs5676 rfl)) ?_
                refine TP_gp (v := (.slice (some ⟨b24, 1, none⟩) 2 2)) ((!((!x5677) || (decide (r5748 < x5687)))) && (decide (r5748 = x5687))) rfl (wanted_gt rfl rfl rfl rfl) (fun w' hg => (yl_sliceAv Tryd.underlying115 sz3 rfl (gd_true hg) rfl)) ?_
                obtain ⟨r5781, hr5782, h⟩ := bind_elim h
                refine TP_ges ((!((!x5677) || (decide (r5748 < x5687)))) && (decide (r5748 = x5687))) (.int .i64 r5781) rfl (wanted_gt rfl rfl rfl rfl) (fun hg => eff_call Tryd.func131 nm131 rfl (ev2 (gd_true hg) (gd_true hg)) (slices_Compare_int_ok [] _ (LtL.nil _) (.slice (some ⟨b5755, 1, none⟩) 2 2) ([x5683, x4828] : List Int) (SlRd.of_box (ys := ([x5683, x4828] : List Int)) (hB5771.ext he5779) (Avoids.nil _) rfl rfl (Nat.le_refl _) rfl rfl) (.slice (some ⟨b24, 1, none⟩) 2 2) ([x5688, x5689] : List Int) (SlRd.of_box (ys := ([x5688, x5689] : List Int)) (h5773.ext he5779) (Avoids.nil _) rfl rfl (Nat.le_refl _) rfl rfl) r5781 (cond_t hg hr5782)) (by rintro _ wd5783 ⟨he5784, rfl⟩; exact ⟨rfl, he5784⟩)) ?_
                intro wd5783 he5784
                have e5785 := he5779.trans he5784
                have e5786 := e5780.trans he5784
                refine ⟨he5784, ?_⟩
                refine TP_gp (v := (.bool (decide (r5781 < 0)))) ((!((!x5677) || (decide (r5748 < x5687)))) && (decide (r5748 = x5687))) rfl (wanted_gt rfl rfl rfl rfl) (fun w' hg => (yl_lss (gd_true hg) rfl)) ?_
                refine TP_gp (v := (.bool ((decide (r5748 = x5687)) && (decide (r5781 < 0))))) (!((!x5677) || (decide (r5748 < x5687)))) rfl (wanted_f rfl rfl rfl rfl) (fun w' hg => (yl_and (gd_true hg) (fun hb => (gd_true (and_i hg hb))) rfl)) ?_
                refine TP_p (v := (.bool (((!x5677) || (decide (r5748 < x5687))) || ((decide (r5748 = x5687)) && (decide (r5781 < 0)))))) rfl rfl (fun w' => (yl_or rfl rfl (fun hb => (gd_true (not_t hb))))) ?_
                refine TP_done ?_
                refine hK5777 _ _ ?_
                refine WC_cond (b := (((!x5677) || (decide (r5748 < x5687))) || ((decide (r5748 = x5687)) && (decide (r5781 < 0))))) rfl (fun hb5787 => ?_) (fun hb5787 => ?_)
                · replace h := cond_t hb5787 h
                  refine WC_region ?_
                  refine T0_q (v := (.agg (List.toArray [(.int .i64 r5748), (.int .i64 x5683), (.int .i64 x4828)]))) rfl (yl_loadA (cs := [(.int .i64 r5748), (.int .i64 x5683), (.int .i64 x4828)]) ag158 rfl (Box.at (hB5771.ext e5785))) ?_
                  refine T0_e rfl (eff_storeC (vs := [(.int .i64 r5748), (.int .i64 x5683), (.int .i64 x4828)]) (cs' := [(.int .i64 r5748), (.int .i64 x5683), (.int .i64 x4828)]) sz158 rfl rfl hs5676 rfl (h5773.ext e5785) rfl (oc_cons rfl (oc_cons rfl (oc_cons rfl oc_nil))) rfl ?_)
                  intro wd5788 hc5789 hB5790
                  have h5791 := (h5772.ext e5785).chg hc5789 (avoidb hn30)
                  have h5792 := (h5774.ext e5785).step (Stepp.chg_mem hc5789 (memS mem0))
                  have h5793 := (h5775.ext e5785).chg hc5789 (avoidb hn29)
                  have h5794 := (hB5771.ext e5785).chg hc5789 (avoidb hn5761.symm)
                  have e5795 := chg_box e5786 hc5789 hbf31
                  refine T0_q (v := (.bool true)) rfl (yl_assign rfl) ?_
                  refine T0_nil ?_
                  refine hK5725 _ _ ?_
                  refine WC_region ?_
                  refine T0_q (v := (.int .i64 (w64 (x5683 + 1)))) rfl (yl_add hs5684 rfl) ?_
                  refine T0_q (v := (.int .i64 (w64 (x5683 + 1)))) rfl (yl_move rfl) ?_
                  refine T0_nil ?_
                  replace h := some_out h
                  subst h
                  refine hK5719 _ _ _ rfl ?_
                  exact ⟨true, w64 (x5683 + 1), r5748, x5683, x4828, rfl, hs5674, hs5675, hs5676, rfl, hs5679, hs5680, hs5681, hs5682, rfl, (h5792.sub (sub_cons (memS mem0) (sub_cons (memS (memS mem0)) (sub_skip (sub_skip (sub_skip (sub_refl _))))))), h5791, hB5790, h5793, e5795⟩
                · replace h := cond_f hb5787 h
                  refine WC_skip ?_
                  refine hK5725 _ _ ?_
                  refine WC_region ?_
                  refine T0_q (v := (.int .i64 (w64 (x5683 + 1)))) rfl (yl_add hs5684 rfl) ?_
                  refine T0_q (v := (.int .i64 (w64 (x5683 + 1)))) rfl (yl_move rfl) ?_
                  refine T0_nil ?_
                  replace h := some_out h
                  subst h
                  refine hK5719 _ _ _ rfl ?_
                  exact ⟨x5677, w64 (x5683 + 1), x5687, x5688, x5689, rfl, hs5674, hs5675, hs5676, hs5678, hs5679, hs5680, hs5681, hs5682, rfl, ((h5774.ext e5785).sub (sub_cons (memS mem0) (sub_cons (memS (memS mem0)) (sub_skip (sub_skip (sub_skip (sub_refl _))))))), (h5772.ext e5785), (h5773.ext e5785), (h5775.ext e5785), e5786⟩
              · skip
                refine  (eff_allocZ zi158 ?_)
                intro b5796 wd5797 hb5798 he5799 hB5800
                have hn5801 : b5796 ≠ b13 := box_ne (hB5686.ext e5745) hb5798
                have hn5802 : b5796 ≠ b24 := box_ne (hB5691.ext e5745) hb5798
                have hn5803 : b5796 ≠ b5 := box_ne (hB5694.ext e5745) hb5798
                have hbf5804 := bfresh e5747 hb5798
                have h5805 := (h5692.ext e5745).step (add_box he5799 hb5798)
                have e5806 := e5745.trans he5799
                have e5807 := e5746.trans he5799
                have e5808 := e5747.trans he5799
                refine ⟨e5807, ?_⟩
                obtain ⟨r5810, hr5811, h⟩ := bind_elim h
                refine TP_e rfl rfl (eff_call Tryd.func118 nm118 rfl (ev2 rfl rfl) (locate_window_differ_ok [] _ (LtL.nil _) [(.int .i64 r5731.e0), (.int .i64 r5731.e1), (.int .i64 r5731.e2), (.int .i64 r5731.e3), (.int .i64 r5731.e4), (.int .i64 r5731.e5), (.int .i64 r5731.e6), (.int .i64 r5731.e7), (.int .i64 r5731.e8), (.int .i64 r5731.e9), (.int .i64 r5731.e10), (.int .i64 r5731.e11)] r5731 rfl [(.int .i64 r5739.e0), (.int .i64 r5739.e1), (.int .i64 r5739.e2), (.int .i64 r5739.e3), (.int .i64 r5739.e4), (.int .i64 r5739.e5), (.int .i64 r5739.e6), (.int .i64 r5739.e7), (.int .i64 r5739.e8), (.int .i64 r5739.e9), (.int .i64 r5739.e10), (.int .i64 r5739.e11)] r5739 rfl r5810 hr5811) ?_)
                rintro _ wd5812 ⟨he5813, rfl⟩
                have e5814 := e5806.trans he5813
                have e5815 := e5807.trans he5813
                have e5816 := e5808.trans he5813
                refine ⟨e5815, ?_⟩
                refine TP_p (v := (.agg (List.toArray [(.int .i64 r5810), (.int .i64 x5683), (.int .i64 x4828)]))) rfl rfl (fun w' => (yl_buildC (cells := [(.int .i64 r5810), (.int .i64 x5683), (.int .i64 x4828)]) bi158 (pc_cons rfl rfl (pc_cons rfl rfl pc_nil)) rfl)) ?_
                refine TP_b rfl rfl (eff_storeC (vs := [(.int .i64 r5810), (.int .i64 x5683), (.int .i64 x4828)]) (cs' := [(.int .i64 r5810), (.int .i64 x5683), (.int .i64 x4828)]) sz158 rfl rfl rfl rfl (hB5800.ext he5813) rfl (oc_cons rfl (oc_cons rfl (oc_cons rfl oc_nil))) rfl ?_)
                intro wd5817 hc5818 hB5819
                have h5820 := (hB5686.ext e5814).chg hc5818 (avoidb hn5801)
                have h5821 := (hB5691.ext e5814).chg hc5818 (avoidb hn5802)
                have h5822 := (h5805.ext he5813).step (Stepp.chg_mem hc5818 mem0)
                have h5823 := (hB5694.ext e5814).chg hc5818 (avoidb hn5803)
                have e5824 := chg_box e5816 hc5818 hbf5804
                refine TP_done ?_
                refine hK5727 _ _ ?_
                refine WC_seqK fun K5825 hK5825 => ?_
                refine WC_plan mixed (.p 0 (.p 1 (.p 2 (.p 3 (.p 5 (.q 4 (.q 6 (.p 7 (.p 8 (.p 9 (.p 10 (.p 12 (.q 11 (.q 13 (.p 14 (.p 15 (.p 16 (.p 17 (.p 18 (.p 19 (.e 20 (.p 21 (.p 22 (.p 23 .done)))))))))))))))))))))))) (by kernel_rfl) ?_
                intro wd5826 he5827
                have e5828 := e5824.trans he5827
                refine TP_p (v := (.bool x5677)) rfl rfl (fun w' => (yl_move hs5678)) ?_
                refine TP_p (v := (.bool (!x5677))) rfl rfl (fun w' => (yl_not rfl)) ?_
                refine TP_p (v := (.bool (!x5677))) rfl rfl (fun w' => (yl_move rfl)) ?_
                refine TP_gp (v := (.pointer (some ⟨b5796, 0, none⟩))) (!(!x5677)) rfl (wanted_f rfl rfl rfl rfl) (fun w' hg => (yl_fa 0 Tryd.underlying158 rfl rfl ⟨0, sz3⟩ rfl rfl)) ?_
                refine TP_gp (v := (.pointer (some ⟨b24, 0, none⟩))) (!(!x5677)) rfl (wanted_f rfl rfl rfl rfl) (fun w' hg => (yl_fa 0 Tryd.underlying158 rfl rfl ⟨0, sz3⟩ hs5676 rfl)) ?_
                refine TP_gq (v := (.int .i64 r5810)) (!(!x5677)) rfl (wanted_f rfl rfl rfl rfl) (fun w' hS hg => (yl_load sc3 (gd_true hg) (Box.at (hB5819.ext ((he5827).trans hS))))) ?_
                refine TP_gq (v := (.int .i64 x5687)) (!(!x5677)) rfl (wanted_f rfl rfl rfl rfl) (fun w' hS hg => (yl_load sc3 (gd_true hg) (Box.at (h5821.ext ((he5827).trans hS))))) ?_
                refine TP_gp (v := (.bool (decide (r5810 < x5687)))) (!(!x5677)) rfl (wanted_f rfl rfl rfl rfl) (fun w' hg => (yl_lss (gd_true hg) (gd_true hg))) ?_
                refine TP_p (v := (.bool ((!x5677) || (decide (r5810 < x5687))))) rfl rfl (fun w' => (yl_or rfl rfl (fun hb => (gd_true (not_t hb))))) ?_
                refine TP_p (v := (.bool ((!x5677) || (decide (r5810 < x5687))))) rfl rfl (fun w' => (yl_move rfl)) ?_
                refine TP_gp (v := (.pointer (some ⟨b5796, 0, none⟩))) (!((!x5677) || (decide (r5810 < x5687)))) rfl (wanted_f rfl rfl rfl rfl) (fun w' hg => (yl_fa 0 Tryd.underlying158 rfl rfl ⟨0, sz3⟩ rfl rfl)) ?_
                refine TP_gp (v := (.pointer (some ⟨b24, 0, none⟩))) (!((!x5677) || (decide (r5810 < x5687)))) rfl (wanted_f rfl rfl rfl rfl) (fun w' hg => (yl_fa 0 Tryd.underlying158 rfl rfl ⟨0, sz3⟩ hs5676 rfl)) ?_
                refine TP_gq (v := (.int .i64 r5810)) (!((!x5677) || (decide (r5810 < x5687)))) rfl (wanted_f rfl rfl rfl rfl) (fun w' hS hg => (yl_load sc3 (gd_true hg) (Box.at (hB5819.ext ((he5827).trans hS))))) ?_
                refine TP_gq (v := (.int .i64 x5687)) (!((!x5677) || (decide (r5810 < x5687)))) rfl (wanted_f rfl rfl rfl rfl) (fun w' hS hg => (yl_load sc3 (gd_true hg) (Box.at (h5821.ext ((he5827).trans hS))))) ?_
                refine TP_gp (v := (.bool (decide (r5810 = x5687)))) (!((!x5677) || (decide (r5810 < x5687)))) rfl (wanted_f rfl rfl rfl rfl) (fun w' hg => (yl_eql (gd_true hg) (gd_true hg))) ?_
                refine TP_gp (v := (.bool (decide (r5810 = x5687)))) (!((!x5677) || (decide (r5810 < x5687)))) rfl (wanted_f rfl rfl rfl rfl) (fun w' hg => (yl_move (gd_true hg))) ?_
                refine TP_gp (v := (.pointer (some ⟨b5796, 1, none⟩))) ((!((!x5677) || (decide (r5810 < x5687)))) && (decide (r5810 = x5687))) rfl (wanted_gt rfl rfl rfl rfl) (fun w' hg => (yl_fa 1 Tryd.underlying158 rfl rfl ⟨1, sz115⟩ rfl rfl)) ?_
                refine TP_gp (v := (.slice (some ⟨b5796, 1, none⟩) 2 2)) ((!((!x5677) || (decide (r5810 < x5687)))) && (decide (r5810 = x5687))) rfl (wanted_gt rfl rfl rfl rfl) (fun w' hg => (yl_sliceAv Tryd.underlying115 sz3 rfl (gd_true hg) rfl)) ?_
                refine TP_gp (v := (.pointer (some ⟨b24, 1, none⟩))) ((!((!x5677) || (decide (r5810 < x5687)))) && (decide (r5810 = x5687))) rfl (wanted_gt rfl rfl rfl rfl) (fun w' hg => (yl_fa 1 Tryd.underlying158 rfl rfl ⟨1, sz115⟩ hs5676 rfl)) ?_
                refine TP_gp (v := (.slice (some ⟨b24, 1, none⟩) 2 2)) ((!((!x5677) || (decide (r5810 < x5687)))) && (decide (r5810 = x5687))) rfl (wanted_gt rfl rfl rfl rfl) (fun w' hg => (yl_sliceAv Tryd.underlying115 sz3 rfl (gd_true hg) rfl)) ?_
                obtain ⟨r5829, hr5830, h⟩ := bind_elim h
                refine TP_ges ((!((!x5677) || (decide (r5810 < x5687)))) && (decide (r5810 = x5687))) (.int .i64 r5829) rfl (wanted_gt rfl rfl rfl rfl) (fun hg => eff_call Tryd.func131 nm131 rfl (ev2 (gd_true hg) (gd_true hg)) (slices_Compare_int_ok [] _ (LtL.nil _) (.slice (some ⟨b5796, 1, none⟩) 2 2) ([x5683, x4828] : List Int) (SlRd.of_box (ys := ([x5683, x4828] : List Int)) (hB5819.ext he5827) (Avoids.nil _) rfl rfl (Nat.le_refl _) rfl rfl) (.slice (some ⟨b24, 1, none⟩) 2 2) ([x5688, x5689] : List Int) (SlRd.of_box (ys := ([x5688, x5689] : List Int)) (h5821.ext he5827) (Avoids.nil _) rfl rfl (Nat.le_refl _) rfl rfl) r5829 (cond_t hg hr5830)) (by rintro _ wd5831 ⟨he5832, rfl⟩; exact ⟨rfl, he5832⟩)) ?_
                intro wd5831 he5832
                have e5833 := he5827.trans he5832
                have e5834 := e5828.trans he5832
                refine ⟨he5832, ?_⟩
                refine TP_gp (v := (.bool (decide (r5829 < 0)))) ((!((!x5677) || (decide (r5810 < x5687)))) && (decide (r5810 = x5687))) rfl (wanted_gt rfl rfl rfl rfl) (fun w' hg => (yl_lss (gd_true hg) rfl)) ?_
                refine TP_gp (v := (.bool ((decide (r5810 = x5687)) && (decide (r5829 < 0))))) (!((!x5677) || (decide (r5810 < x5687)))) rfl (wanted_f rfl rfl rfl rfl) (fun w' hg => (yl_and (gd_true hg) (fun hb => (gd_true (and_i hg hb))) rfl)) ?_
                refine TP_p (v := (.bool (((!x5677) || (decide (r5810 < x5687))) || ((decide (r5810 = x5687)) && (decide (r5829 < 0)))))) rfl rfl (fun w' => (yl_or rfl rfl (fun hb => (gd_true (not_t hb))))) ?_
                refine TP_done ?_
                refine hK5825 _ _ ?_
                refine WC_cond (b := (((!x5677) || (decide (r5810 < x5687))) || ((decide (r5810 = x5687)) && (decide (r5829 < 0))))) rfl (fun hb5835 => ?_) (fun hb5835 => ?_)
                · replace h := cond_t hb5835 h
                  refine WC_region ?_
                  refine T0_q (v := (.agg (List.toArray [(.int .i64 r5810), (.int .i64 x5683), (.int .i64 x4828)]))) rfl (yl_loadA (cs := [(.int .i64 r5810), (.int .i64 x5683), (.int .i64 x4828)]) ag158 rfl (Box.at (hB5819.ext e5833))) ?_
                  refine T0_e rfl (eff_storeC (vs := [(.int .i64 r5810), (.int .i64 x5683), (.int .i64 x4828)]) (cs' := [(.int .i64 r5810), (.int .i64 x5683), (.int .i64 x4828)]) sz158 rfl rfl hs5676 rfl (h5821.ext e5833) rfl (oc_cons rfl (oc_cons rfl (oc_cons rfl oc_nil))) rfl ?_)
                  intro wd5836 hc5837 hB5838
                  have h5839 := (h5820.ext e5833).chg hc5837 (avoidb hn30)
                  have h5840 := (h5822.ext e5833).step (Stepp.chg_mem hc5837 (memS mem0))
                  have h5841 := (h5823.ext e5833).chg hc5837 (avoidb hn29)
                  have h5842 := (hB5819.ext e5833).chg hc5837 (avoidb hn5802.symm)
                  have e5843 := chg_box e5834 hc5837 hbf31
                  refine T0_q (v := (.bool true)) rfl (yl_assign rfl) ?_
                  refine T0_nil ?_
                  refine hK5725 _ _ ?_
                  refine WC_region ?_
                  refine T0_q (v := (.int .i64 (w64 (x5683 + 1)))) rfl (yl_add hs5684 rfl) ?_
                  refine T0_q (v := (.int .i64 (w64 (x5683 + 1)))) rfl (yl_move rfl) ?_
                  refine T0_nil ?_
                  replace h := some_out h
                  subst h
                  refine hK5719 _ _ _ rfl ?_
                  exact ⟨true, w64 (x5683 + 1), r5810, x5683, x4828, rfl, hs5674, hs5675, hs5676, rfl, hs5679, hs5680, hs5681, hs5682, rfl, (h5840.sub (sub_cons (memS mem0) (sub_cons (memS (memS mem0)) (sub_skip (sub_skip (sub_skip (sub_refl _))))))), h5839, hB5838, h5841, e5843⟩
                · replace h := cond_f hb5835 h
                  refine WC_skip ?_
                  refine hK5725 _ _ ?_
                  refine WC_region ?_
                  refine T0_q (v := (.int .i64 (w64 (x5683 + 1)))) rfl (yl_add hs5684 rfl) ?_
                  refine T0_q (v := (.int .i64 (w64 (x5683 + 1)))) rfl (yl_move rfl) ?_
                  refine T0_nil ?_
                  replace h := some_out h
                  subst h
                  refine hK5719 _ _ _ rfl ?_
                  exact ⟨x5677, w64 (x5683 + 1), x5687, x5688, x5689, rfl, hs5674, hs5675, hs5676, hs5678, hs5679, hs5680, hs5681, hs5682, rfl, ((h5822.ext e5833).sub (sub_cons (memS mem0) (sub_cons (memS (memS mem0)) (sub_skip (sub_skip (sub_skip (sub_refl _))))))), (h5820.ext e5833), (h5821.ext e5833), (h5823.ext e5833), e5834⟩
            · skip
              refine  (eff_allocZ zi158 ?_)
              intro b5844 wd5845 hb5846 he5847 hB5848
              have hn5849 : b5844 ≠ b13 := box_ne (hB5686.ext e5737) hb5846
              have hn5850 : b5844 ≠ b24 := box_ne (hB5691.ext e5737) hb5846
              have hn5851 : b5844 ≠ b5 := box_ne (hB5694.ext e5737) hb5846
              have hbf5852 := bfresh e5738 hb5846
              have h5853 := (h5692.ext e5737).step (add_box he5847 hb5846)
              have e5854 := e5737.trans he5847
              have e5855 := he5734.trans he5847
              have e5856 := e5738.trans he5847
              refine ⟨e5855, ?_⟩
              obtain ⟨r5858, hr5859, h⟩ := bind_elim h
              refine TP_e rfl rfl (eff_call Tryd.func104 nm104 rfl (ev2 rfl rfl) (locate_track_at_ok [] _ (LtL.nil _) [v1, (.int .i64 p_t.LocateTrack.Window), (.int .i64 p_t.LocateTrack.Tooth), (.int .i64 p_t.LocateTrack.PerVane), (.int .i64 p_t.LocateTrack.First), (.int .i64 p_t.LocateTrack.Modulus), (.int .i64 p_t.LocateTrack.Slack), (.int .i64 p_t.LocateTrack.Errors), (.bool p_t.LocateTrack.Round)] p_t ⟨v1, (h5853.sub (fun _ h => by cases h)), rfl⟩ x5683 r5858 hr5859) ?_)
              rintro _ wd5860 ⟨he5861, cs5862, rfl, hrd5863⟩
              have e5864 := e5854.trans he5861
              have e5865 := e5855.trans he5861
              have e5866 := e5856.trans he5861
              have hrd5863 : cs5862 = [(.int .i64 r5858.e0), (.int .i64 r5858.e1), (.int .i64 r5858.e2), (.int .i64 r5858.e3), (.int .i64 r5858.e4), (.int .i64 r5858.e5), (.int .i64 r5858.e6), (.int .i64 r5858.e7), (.int .i64 r5858.e8), (.int .i64 r5858.e9), (.int .i64 r5858.e10), (.int .i64 r5858.e11)] := hrd5863
              subst hrd5863
              refine ⟨e5865, ?_⟩
              obtain ⟨r5867, hr5868, h⟩ := bind_elim h
              refine TP_e rfl rfl (eff_call Tryd.func118 nm118 rfl (ev2 rfl rfl) (locate_window_differ_ok [] _ (LtL.nil _) [(.int .i64 r5731.e0), (.int .i64 r5731.e1), (.int .i64 r5731.e2), (.int .i64 r5731.e3), (.int .i64 r5731.e4), (.int .i64 r5731.e5), (.int .i64 r5731.e6), (.int .i64 r5731.e7), (.int .i64 r5731.e8), (.int .i64 r5731.e9), (.int .i64 r5731.e10), (.int .i64 r5731.e11)] r5731 rfl [(.int .i64 r5858.e0), (.int .i64 r5858.e1), (.int .i64 r5858.e2), (.int .i64 r5858.e3), (.int .i64 r5858.e4), (.int .i64 r5858.e5), (.int .i64 r5858.e6), (.int .i64 r5858.e7), (.int .i64 r5858.e8), (.int .i64 r5858.e9), (.int .i64 r5858.e10), (.int .i64 r5858.e11)] r5858 rfl r5867 hr5868) ?_)
              rintro _ wd5869 ⟨he5870, rfl⟩
              have e5871 := e5864.trans he5870
              have e5872 := he5861.trans he5870
              have e5873 := e5865.trans he5870
              have e5874 := e5866.trans he5870
              refine ⟨e5873, ?_⟩
              refine TP_p (v := (.agg (List.toArray [(.int .i64 r5867), (.int .i64 x5683), (.int .i64 x4828)]))) rfl rfl (fun w' => (yl_buildC (cells := [(.int .i64 r5867), (.int .i64 x5683), (.int .i64 x4828)]) bi158 (pc_cons rfl rfl (pc_cons rfl rfl pc_nil)) rfl)) ?_
              refine TP_b rfl rfl (eff_storeC (vs := [(.int .i64 r5867), (.int .i64 x5683), (.int .i64 x4828)]) (cs' := [(.int .i64 r5867), (.int .i64 x5683), (.int .i64 x4828)]) sz158 rfl rfl rfl rfl (hB5848.ext e5872) rfl (oc_cons rfl (oc_cons rfl (oc_cons rfl oc_nil))) rfl ?_)
              intro wd5875 hc5876 hB5877
              have h5878 := (hB5686.ext e5871).chg hc5876 (avoidb hn5849)
              have h5879 := (hB5691.ext e5871).chg hc5876 (avoidb hn5850)
              have h5880 := (h5853.ext e5872).step (Stepp.chg_mem hc5876 mem0)
              have h5881 := (hB5694.ext e5871).chg hc5876 (avoidb hn5851)
              have e5882 := chg_box e5874 hc5876 hbf5852
              refine TP_done ?_
              refine hK5727 _ _ ?_
              refine WC_seqK fun K5883 hK5883 => ?_
              refine WC_plan mixed (.p 0 (.p 1 (.p 2 (.p 3 (.p 5 (.q 4 (.q 6 (.p 7 (.p 8 (.p 9 (.p 10 (.p 12 (.q 11 (.q 13 (.p 14 (.p 15 (.p 16 (.p 17 (.p 18 (.p 19 (.e 20 (.p 21 (.p 22 (.p 23 .done)))))))))))))))))))))))) (by kernel_rfl) ?_
              intro wd5884 he5885
              have e5886 := e5882.trans he5885
              refine TP_p (v := (.bool x5677)) rfl rfl (fun w' => (yl_move hs5678)) ?_
              refine TP_p (v := (.bool (!x5677))) rfl rfl (fun w' => (yl_not rfl)) ?_
              refine TP_p (v := (.bool (!x5677))) rfl rfl (fun w' => (yl_move rfl)) ?_
              refine TP_gp (v := (.pointer (some ⟨b5844, 0, none⟩))) (!(!x5677)) rfl (wanted_f rfl rfl rfl rfl) (fun w' hg => (yl_fa 0 Tryd.underlying158 rfl rfl ⟨0, sz3⟩ rfl rfl)) ?_
              refine TP_gp (v := (.pointer (some ⟨b24, 0, none⟩))) (!(!x5677)) rfl (wanted_f rfl rfl rfl rfl) (fun w' hg => (yl_fa 0 Tryd.underlying158 rfl rfl ⟨0, sz3⟩ hs5676 rfl)) ?_
              refine TP_gq (v := (.int .i64 r5867)) (!(!x5677)) rfl (wanted_f rfl rfl rfl rfl) (fun w' hS hg => (yl_load sc3 (gd_true hg) (Box.at (hB5877.ext ((he5885).trans hS))))) ?_
              refine TP_gq (v := (.int .i64 x5687)) (!(!x5677)) rfl (wanted_f rfl rfl rfl rfl) (fun w' hS hg => (yl_load sc3 (gd_true hg) (Box.at (h5879.ext ((he5885).trans hS))))) ?_
              refine TP_gp (v := (.bool (decide (r5867 < x5687)))) (!(!x5677)) rfl (wanted_f rfl rfl rfl rfl) (fun w' hg => (yl_lss (gd_true hg) (gd_true hg))) ?_
              refine TP_p (v := (.bool ((!x5677) || (decide (r5867 < x5687))))) rfl rfl (fun w' => (yl_or rfl rfl (fun hb => (gd_true (not_t hb))))) ?_
              refine TP_p (v := (.bool ((!x5677) || (decide (r5867 < x5687))))) rfl rfl (fun w' => (yl_move rfl)) ?_
              refine TP_gp (v := (.pointer (some ⟨b5844, 0, none⟩))) (!((!x5677) || (decide (r5867 < x5687)))) rfl (wanted_f rfl rfl rfl rfl) (fun w' hg => (yl_fa 0 Tryd.underlying158 rfl rfl ⟨0, sz3⟩ rfl rfl)) ?_
              refine TP_gp (v := (.pointer (some ⟨b24, 0, none⟩))) (!((!x5677) || (decide (r5867 < x5687)))) rfl (wanted_f rfl rfl rfl rfl) (fun w' hg => (yl_fa 0 Tryd.underlying158 rfl rfl ⟨0, sz3⟩ hs5676 rfl)) ?_
              refine TP_gq (v := (.int .i64 r5867)) (!((!x5677) || (decide (r5867 < x5687)))) rfl (wanted_f rfl rfl rfl rfl) (fun w' hS hg => (yl_load sc3 (gd_true hg) (Box.at (hB5877.ext ((he5885).trans hS))))) ?_
              refine TP_gq (v := (.int .i64 x5687)) (!((!x5677) || (decide (r5867 < x5687)))) rfl (wanted_f rfl rfl rfl rfl) (fun w' hS hg => (yl_load sc3 (gd_true hg) (Box.at (h5879.ext ((he5885).trans hS))))) ?_
              refine TP_gp (v := (.bool (decide (r5867 = x5687)))) (!((!x5677) || (decide (r5867 < x5687)))) rfl (wanted_f rfl rfl rfl rfl) (fun w' hg => (yl_eql (gd_true hg) (gd_true hg))) ?_
              refine TP_gp (v := (.bool (decide (r5867 = x5687)))) (!((!x5677) || (decide (r5867 < x5687)))) rfl (wanted_f rfl rfl rfl rfl) (fun w' hg => (yl_move (gd_true hg))) ?_
              refine TP_gp (v := (.pointer (some ⟨b5844, 1, none⟩))) ((!((!x5677) || (decide (r5867 < x5687)))) && (decide (r5867 = x5687))) rfl (wanted_gt rfl rfl rfl rfl) (fun w' hg => (yl_fa 1 Tryd.underlying158 rfl rfl ⟨1, sz115⟩ rfl rfl)) ?_
              refine TP_gp (v := (.slice (some ⟨b5844, 1, none⟩) 2 2)) ((!((!x5677) || (decide (r5867 < x5687)))) && (decide (r5867 = x5687))) rfl (wanted_gt rfl rfl rfl rfl) (fun w' hg => (yl_sliceAv Tryd.underlying115 sz3 rfl (gd_true hg) rfl)) ?_
              refine TP_gp (v := (.pointer (some ⟨b24, 1, none⟩))) ((!((!x5677) || (decide (r5867 < x5687)))) && (decide (r5867 = x5687))) rfl (wanted_gt rfl rfl rfl rfl) (fun w' hg => (yl_fa 1 Tryd.underlying158 rfl rfl ⟨1, sz115⟩ hs5676 rfl)) ?_
              refine TP_gp (v := (.slice (some ⟨b24, 1, none⟩) 2 2)) ((!((!x5677) || (decide (r5867 < x5687)))) && (decide (r5867 = x5687))) rfl (wanted_gt rfl rfl rfl rfl) (fun w' hg => (yl_sliceAv Tryd.underlying115 sz3 rfl (gd_true hg) rfl)) ?_
              obtain ⟨r5887, hr5888, h⟩ := bind_elim h
              refine TP_ges ((!((!x5677) || (decide (r5867 < x5687)))) && (decide (r5867 = x5687))) (.int .i64 r5887) rfl (wanted_gt rfl rfl rfl rfl) (fun hg => eff_call Tryd.func131 nm131 rfl (ev2 (gd_true hg) (gd_true hg)) (slices_Compare_int_ok [] _ (LtL.nil _) (.slice (some ⟨b5844, 1, none⟩) 2 2) ([x5683, x4828] : List Int) (SlRd.of_box (ys := ([x5683, x4828] : List Int)) (hB5877.ext he5885) (Avoids.nil _) rfl rfl (Nat.le_refl _) rfl rfl) (.slice (some ⟨b24, 1, none⟩) 2 2) ([x5688, x5689] : List Int) (SlRd.of_box (ys := ([x5688, x5689] : List Int)) (h5879.ext he5885) (Avoids.nil _) rfl rfl (Nat.le_refl _) rfl rfl) r5887 (cond_t hg hr5888)) (by rintro _ wd5889 ⟨he5890, rfl⟩; exact ⟨rfl, he5890⟩)) ?_
              intro wd5889 he5890
              have e5891 := he5885.trans he5890
              have e5892 := e5886.trans he5890
              refine ⟨he5890, ?_⟩
              refine TP_gp (v := (.bool (decide (r5887 < 0)))) ((!((!x5677) || (decide (r5867 < x5687)))) && (decide (r5867 = x5687))) rfl (wanted_gt rfl rfl rfl rfl) (fun w' hg => (yl_lss (gd_true hg) rfl)) ?_
              refine TP_gp (v := (.bool ((decide (r5867 = x5687)) && (decide (r5887 < 0))))) (!((!x5677) || (decide (r5867 < x5687)))) rfl (wanted_f rfl rfl rfl rfl) (fun w' hg => (yl_and (gd_true hg) (fun hb => (gd_true (and_i hg hb))) rfl)) ?_
              refine TP_p (v := (.bool (((!x5677) || (decide (r5867 < x5687))) || ((decide (r5867 = x5687)) && (decide (r5887 < 0)))))) rfl rfl (fun w' => (yl_or rfl rfl (fun hb => (gd_true (not_t hb))))) ?_
              refine TP_done ?_
              refine hK5883 _ _ ?_
              refine WC_cond (b := (((!x5677) || (decide (r5867 < x5687))) || ((decide (r5867 = x5687)) && (decide (r5887 < 0))))) rfl (fun hb5893 => ?_) (fun hb5893 => ?_)
              · replace h := cond_t hb5893 h
                refine WC_region ?_
                refine T0_q (v := (.agg (List.toArray [(.int .i64 r5867), (.int .i64 x5683), (.int .i64 x4828)]))) rfl (yl_loadA (cs := [(.int .i64 r5867), (.int .i64 x5683), (.int .i64 x4828)]) ag158 rfl (Box.at (hB5877.ext e5891))) ?_
                refine T0_e rfl (eff_storeC (vs := [(.int .i64 r5867), (.int .i64 x5683), (.int .i64 x4828)]) (cs' := [(.int .i64 r5867), (.int .i64 x5683), (.int .i64 x4828)]) sz158 rfl rfl hs5676 rfl (h5879.ext e5891) rfl (oc_cons rfl (oc_cons rfl (oc_cons rfl oc_nil))) rfl ?_)
                intro wd5894 hc5895 hB5896
                have h5897 := (h5878.ext e5891).chg hc5895 (avoidb hn30)
                have h5898 := (h5880.ext e5891).step (Stepp.chg_mem hc5895 (memS mem0))
                have h5899 := (h5881.ext e5891).chg hc5895 (avoidb hn29)
                have h5900 := (hB5877.ext e5891).chg hc5895 (avoidb hn5850.symm)
                have e5901 := chg_box e5892 hc5895 hbf31
                refine T0_q (v := (.bool true)) rfl (yl_assign rfl) ?_
                refine T0_nil ?_
                refine hK5725 _ _ ?_
                refine WC_region ?_
                refine T0_q (v := (.int .i64 (w64 (x5683 + 1)))) rfl (yl_add hs5684 rfl) ?_
                refine T0_q (v := (.int .i64 (w64 (x5683 + 1)))) rfl (yl_move rfl) ?_
                refine T0_nil ?_
                replace h := some_out h
                subst h
                refine hK5719 _ _ _ rfl ?_
                exact ⟨true, w64 (x5683 + 1), r5867, x5683, x4828, rfl, hs5674, hs5675, hs5676, rfl, hs5679, hs5680, hs5681, hs5682, rfl, (h5898.sub (sub_cons (memS mem0) (sub_cons (memS (memS mem0)) (sub_skip (sub_skip (sub_skip (sub_refl _))))))), h5897, hB5896, h5899, e5901⟩
              · replace h := cond_f hb5893 h
                refine WC_skip ?_
                refine hK5725 _ _ ?_
                refine WC_region ?_
                refine T0_q (v := (.int .i64 (w64 (x5683 + 1)))) rfl (yl_add hs5684 rfl) ?_
                refine T0_q (v := (.int .i64 (w64 (x5683 + 1)))) rfl (yl_move rfl) ?_
                refine T0_nil ?_
                replace h := some_out h
                subst h
                refine hK5719 _ _ _ rfl ?_
                exact ⟨x5677, w64 (x5683 + 1), x5687, x5688, x5689, rfl, hs5674, hs5675, hs5676, hs5678, hs5679, hs5680, hs5681, hs5682, rfl, ((h5880.ext e5891).sub (sub_cons (memS mem0) (sub_cons (memS (memS mem0)) (sub_skip (sub_skip (sub_skip (sub_refl _))))))), (h5878.ext e5891), (h5879.ext e5891), (h5881.ext e5891), e5892⟩
          · skip
            refine  (eff_allocZ zi158 ?_)
            intro b5902 wd5903 hb5904 he5905 hB5906
            have hn5907 : b5902 ≠ b13 := box_ne (hB5686.ext he5729) hb5904
            have hn5908 : b5902 ≠ b24 := box_ne (hB5691.ext he5729) hb5904
            have hn5909 : b5902 ≠ b5 := box_ne (hB5694.ext he5729) hb5904
            have hbf5910 := bfresh e5730 hb5904
            have h5911 := (h5692.ext he5729).step (add_box he5905 hb5904)
            have e5912 := he5729.trans he5905
            have e5913 := e5730.trans he5905
            refine ⟨he5905, ?_⟩
            obtain ⟨r5915, hr5916, h⟩ := bind_elim h
            refine TP_e rfl rfl (eff_call Tryd.func104 nm104 rfl (ev2 rfl rfl) (locate_track_at_ok [] _ (LtL.nil _) [v1, (.int .i64 p_t.LocateTrack.Window), (.int .i64 p_t.LocateTrack.Tooth), (.int .i64 p_t.LocateTrack.PerVane), (.int .i64 p_t.LocateTrack.First), (.int .i64 p_t.LocateTrack.Modulus), (.int .i64 p_t.LocateTrack.Slack), (.int .i64 p_t.LocateTrack.Errors), (.bool p_t.LocateTrack.Round)] p_t ⟨v1, (h5911.sub (fun _ h => by cases h)), rfl⟩ x4828 r5915 hr5916) ?_)
            rintro _ wd5917 ⟨he5918, cs5919, rfl, hrd5920⟩
            have e5921 := e5912.trans he5918
            have e5922 := he5905.trans he5918
            have e5923 := e5913.trans he5918
            have hrd5920 : cs5919 = [(.int .i64 r5915.e0), (.int .i64 r5915.e1), (.int .i64 r5915.e2), (.int .i64 r5915.e3), (.int .i64 r5915.e4), (.int .i64 r5915.e5), (.int .i64 r5915.e6), (.int .i64 r5915.e7), (.int .i64 r5915.e8), (.int .i64 r5915.e9), (.int .i64 r5915.e10), (.int .i64 r5915.e11)] := hrd5920
            subst hrd5920
            refine ⟨e5922, ?_⟩
            obtain ⟨r5924, hr5925, h⟩ := bind_elim h
            refine TP_e rfl rfl (eff_call Tryd.func104 nm104 rfl (ev2 rfl rfl) (locate_track_at_ok [] _ (LtL.nil _) [v1, (.int .i64 p_t.LocateTrack.Window), (.int .i64 p_t.LocateTrack.Tooth), (.int .i64 p_t.LocateTrack.PerVane), (.int .i64 p_t.LocateTrack.First), (.int .i64 p_t.LocateTrack.Modulus), (.int .i64 p_t.LocateTrack.Slack), (.int .i64 p_t.LocateTrack.Errors), (.bool p_t.LocateTrack.Round)] p_t ⟨v1, ((h5911.ext he5918).sub (fun _ h => by cases h)), rfl⟩ x5683 r5924 hr5925) ?_)
            rintro _ wd5926 ⟨he5927, cs5928, rfl, hrd5929⟩
            have e5930 := e5921.trans he5927
            have e5931 := he5918.trans he5927
            have e5932 := e5922.trans he5927
            have e5933 := e5923.trans he5927
            have hrd5929 : cs5928 = [(.int .i64 r5924.e0), (.int .i64 r5924.e1), (.int .i64 r5924.e2), (.int .i64 r5924.e3), (.int .i64 r5924.e4), (.int .i64 r5924.e5), (.int .i64 r5924.e6), (.int .i64 r5924.e7), (.int .i64 r5924.e8), (.int .i64 r5924.e9), (.int .i64 r5924.e10), (.int .i64 r5924.e11)] := hrd5929
            subst hrd5929
            refine ⟨e5932, ?_⟩
            obtain ⟨r5934, hr5935, h⟩ := bind_elim h
            refine TP_e rfl rfl (eff_call Tryd.func118 nm118 rfl (ev2 rfl rfl) (locate_window_differ_ok [] _ (LtL.nil _) [(.int .i64 r5915.e0), (.int .i64 r5915.e1), (.int .i64 r5915.e2), (.int .i64 r5915.e3), (.int .i64 r5915.e4), (.int .i64 r5915.e5), (.int .i64 r5915.e6), (.int .i64 r5915.e7), (.int .i64 r5915.e8), (.int .i64 r5915.e9), (.int .i64 r5915.e10), (.int .i64 r5915.e11)] r5915 rfl [(.int .i64 r5924.e0), (.int .i64 r5924.e1), (.int .i64 r5924.e2), (.int .i64 r5924.e3), (.int .i64 r5924.e4), (.int .i64 r5924.e5), (.int .i64 r5924.e6), (.int .i64 r5924.e7), (.int .i64 r5924.e8), (.int .i64 r5924.e9), (.int .i64 r5924.e10), (.int .i64 r5924.e11)] r5924 rfl r5934 hr5935) ?_)
            rintro _ wd5936 ⟨he5937, rfl⟩
            have e5938 := e5930.trans he5937
            have e5939 := e5931.trans he5937
            have e5940 := e5932.trans he5937
            have e5941 := e5933.trans he5937
            refine ⟨e5940, ?_⟩
            refine TP_p (v := (.agg (List.toArray [(.int .i64 r5934), (.int .i64 x5683), (.int .i64 x4828)]))) rfl rfl (fun w' => (yl_buildC (cells := [(.int .i64 r5934), (.int .i64 x5683), (.int .i64 x4828)]) bi158 (pc_cons rfl rfl (pc_cons rfl rfl pc_nil)) rfl)) ?_
            refine TP_b rfl rfl (eff_storeC (vs := [(.int .i64 r5934), (.int .i64 x5683), (.int .i64 x4828)]) (cs' := [(.int .i64 r5934), (.int .i64 x5683), (.int .i64 x4828)]) sz158 rfl rfl rfl rfl (hB5906.ext e5939) rfl (oc_cons rfl (oc_cons rfl (oc_cons rfl oc_nil))) rfl ?_)
            intro wd5942 hc5943 hB5944
            have h5945 := (hB5686.ext e5938).chg hc5943 (avoidb hn5907)
            have h5946 := (hB5691.ext e5938).chg hc5943 (avoidb hn5908)
            have h5947 := (h5911.ext e5939).step (Stepp.chg_mem hc5943 mem0)
            have h5948 := (hB5694.ext e5938).chg hc5943 (avoidb hn5909)
            have e5949 := chg_box e5941 hc5943 hbf5910
            refine TP_done ?_
            refine hK5727 _ _ ?_
            refine WC_seqK fun K5950 hK5950 => ?_
            refine WC_plan mixed (.p 0 (.p 1 (.p 2 (.p 3 (.p 5 (.q 4 (.q 6 (.p 7 (.p 8 (.p 9 (.p 10 (.p 12 (.q 11 (.q 13 (.p 14 (.p 15 (.p 16 (.p 17 (.p 18 (.p 19 (.e 20 (.p 21 (.p 22 (.p 23 .done)))))))))))))))))))))))) (by kernel_rfl) ?_
            intro wd5951 he5952
            have e5953 := e5949.trans he5952
            refine TP_p (v := (.bool x5677)) rfl rfl (fun w' => (yl_move hs5678)) ?_
            refine TP_p (v := (.bool (!x5677))) rfl rfl (fun w' => (yl_not rfl)) ?_
            refine TP_p (v := (.bool (!x5677))) rfl rfl (fun w' => (yl_move rfl)) ?_
            refine TP_gp (v := (.pointer (some ⟨b5902, 0, none⟩))) (!(!x5677)) rfl (wanted_f rfl rfl rfl rfl) (fun w' hg => (yl_fa 0 Tryd.underlying158 rfl rfl ⟨0, sz3⟩ rfl rfl)) ?_
            refine TP_gp (v := (.pointer (some ⟨b24, 0, none⟩))) (!(!x5677)) rfl (wanted_f rfl rfl rfl rfl) (fun w' hg => (yl_fa 0 Tryd.underlying158 rfl rfl ⟨0, sz3⟩ hs5676 rfl)) ?_
            refine TP_gq (v := (.int .i64 r5934)) (!(!x5677)) rfl (wanted_f rfl rfl rfl rfl) (fun w' hS hg => (yl_load sc3 (gd_true hg) (Box.at (hB5944.ext ((he5952).trans hS))))) ?_
            refine TP_gq (v := (.int .i64 x5687)) (!(!x5677)) rfl (wanted_f rfl rfl rfl rfl) (fun w' hS hg => (yl_load sc3 (gd_true hg) (Box.at (h5946.ext ((he5952).trans hS))))) ?_
            refine TP_gp (v := (.bool (decide (r5934 < x5687)))) (!(!x5677)) rfl (wanted_f rfl rfl rfl rfl) (fun w' hg => (yl_lss (gd_true hg) (gd_true hg))) ?_
            refine TP_p (v := (.bool ((!x5677) || (decide (r5934 < x5687))))) rfl rfl (fun w' => (yl_or rfl rfl (fun hb => (gd_true (not_t hb))))) ?_
            refine TP_p (v := (.bool ((!x5677) || (decide (r5934 < x5687))))) rfl rfl (fun w' => (yl_move rfl)) ?_
            refine TP_gp (v := (.pointer (some ⟨b5902, 0, none⟩))) (!((!x5677) || (decide (r5934 < x5687)))) rfl (wanted_f rfl rfl rfl rfl) (fun w' hg => (yl_fa 0 Tryd.underlying158 rfl rfl ⟨0, sz3⟩ rfl rfl)) ?_
            refine TP_gp (v := (.pointer (some ⟨b24, 0, none⟩))) (!((!x5677) || (decide (r5934 < x5687)))) rfl (wanted_f rfl rfl rfl rfl) (fun w' hg => (yl_fa 0 Tryd.underlying158 rfl rfl ⟨0, sz3⟩ hs5676 rfl)) ?_
            refine TP_gq (v := (.int .i64 r5934)) (!((!x5677) || (decide (r5934 < x5687)))) rfl (wanted_f rfl rfl rfl rfl) (fun w' hS hg => (yl_load sc3 (gd_true hg) (Box.at (hB5944.ext ((he5952).trans hS))))) ?_
            refine TP_gq (v := (.int .i64 x5687)) (!((!x5677) || (decide (r5934 < x5687)))) rfl (wanted_f rfl rfl rfl rfl) (fun w' hS hg => (yl_load sc3 (gd_true hg) (Box.at (h5946.ext ((he5952).trans hS))))) ?_
            refine TP_gp (v := (.bool (decide (r5934 = x5687)))) (!((!x5677) || (decide (r5934 < x5687)))) rfl (wanted_f rfl rfl rfl rfl) (fun w' hg => (yl_eql (gd_true hg) (gd_true hg))) ?_
            refine TP_gp (v := (.bool (decide (r5934 = x5687)))) (!((!x5677) || (decide (r5934 < x5687)))) rfl (wanted_f rfl rfl rfl rfl) (fun w' hg => (yl_move (gd_true hg))) ?_
            refine TP_gp (v := (.pointer (some ⟨b5902, 1, none⟩))) ((!((!x5677) || (decide (r5934 < x5687)))) && (decide (r5934 = x5687))) rfl (wanted_gt rfl rfl rfl rfl) (fun w' hg => (yl_fa 1 Tryd.underlying158 rfl rfl ⟨1, sz115⟩ rfl rfl)) ?_
            refine TP_gp (v := (.slice (some ⟨b5902, 1, none⟩) 2 2)) ((!((!x5677) || (decide (r5934 < x5687)))) && (decide (r5934 = x5687))) rfl (wanted_gt rfl rfl rfl rfl) (fun w' hg => (yl_sliceAv Tryd.underlying115 sz3 rfl (gd_true hg) rfl)) ?_
            refine TP_gp (v := (.pointer (some ⟨b24, 1, none⟩))) ((!((!x5677) || (decide (r5934 < x5687)))) && (decide (r5934 = x5687))) rfl (wanted_gt rfl rfl rfl rfl) (fun w' hg => (yl_fa 1 Tryd.underlying158 rfl rfl ⟨1, sz115⟩ hs5676 rfl)) ?_
            refine TP_gp (v := (.slice (some ⟨b24, 1, none⟩) 2 2)) ((!((!x5677) || (decide (r5934 < x5687)))) && (decide (r5934 = x5687))) rfl (wanted_gt rfl rfl rfl rfl) (fun w' hg => (yl_sliceAv Tryd.underlying115 sz3 rfl (gd_true hg) rfl)) ?_
            obtain ⟨r5954, hr5955, h⟩ := bind_elim h
            refine TP_ges ((!((!x5677) || (decide (r5934 < x5687)))) && (decide (r5934 = x5687))) (.int .i64 r5954) rfl (wanted_gt rfl rfl rfl rfl) (fun hg => eff_call Tryd.func131 nm131 rfl (ev2 (gd_true hg) (gd_true hg)) (slices_Compare_int_ok [] _ (LtL.nil _) (.slice (some ⟨b5902, 1, none⟩) 2 2) ([x5683, x4828] : List Int) (SlRd.of_box (ys := ([x5683, x4828] : List Int)) (hB5944.ext he5952) (Avoids.nil _) rfl rfl (Nat.le_refl _) rfl rfl) (.slice (some ⟨b24, 1, none⟩) 2 2) ([x5688, x5689] : List Int) (SlRd.of_box (ys := ([x5688, x5689] : List Int)) (h5946.ext he5952) (Avoids.nil _) rfl rfl (Nat.le_refl _) rfl rfl) r5954 (cond_t hg hr5955)) (by rintro _ wd5956 ⟨he5957, rfl⟩; exact ⟨rfl, he5957⟩)) ?_
            intro wd5956 he5957
            have e5958 := he5952.trans he5957
            have e5959 := e5953.trans he5957
            refine ⟨he5957, ?_⟩
            refine TP_gp (v := (.bool (decide (r5954 < 0)))) ((!((!x5677) || (decide (r5934 < x5687)))) && (decide (r5934 = x5687))) rfl (wanted_gt rfl rfl rfl rfl) (fun w' hg => (yl_lss (gd_true hg) rfl)) ?_
            refine TP_gp (v := (.bool ((decide (r5934 = x5687)) && (decide (r5954 < 0))))) (!((!x5677) || (decide (r5934 < x5687)))) rfl (wanted_f rfl rfl rfl rfl) (fun w' hg => (yl_and (gd_true hg) (fun hb => (gd_true (and_i hg hb))) rfl)) ?_
            refine TP_p (v := (.bool (((!x5677) || (decide (r5934 < x5687))) || ((decide (r5934 = x5687)) && (decide (r5954 < 0)))))) rfl rfl (fun w' => (yl_or rfl rfl (fun hb => (gd_true (not_t hb))))) ?_
            refine TP_done ?_
            refine hK5950 _ _ ?_
            refine WC_cond (b := (((!x5677) || (decide (r5934 < x5687))) || ((decide (r5934 = x5687)) && (decide (r5954 < 0))))) rfl (fun hb5960 => ?_) (fun hb5960 => ?_)
            · replace h := cond_t hb5960 h
              refine WC_region ?_
              refine T0_q (v := (.agg (List.toArray [(.int .i64 r5934), (.int .i64 x5683), (.int .i64 x4828)]))) rfl (yl_loadA (cs := [(.int .i64 r5934), (.int .i64 x5683), (.int .i64 x4828)]) ag158 rfl (Box.at (hB5944.ext e5958))) ?_
              refine T0_e rfl (eff_storeC (vs := [(.int .i64 r5934), (.int .i64 x5683), (.int .i64 x4828)]) (cs' := [(.int .i64 r5934), (.int .i64 x5683), (.int .i64 x4828)]) sz158 rfl rfl hs5676 rfl (h5946.ext e5958) rfl (oc_cons rfl (oc_cons rfl (oc_cons rfl oc_nil))) rfl ?_)
              intro wd5961 hc5962 hB5963
              have h5964 := (h5945.ext e5958).chg hc5962 (avoidb hn30)
              have h5965 := (h5947.ext e5958).step (Stepp.chg_mem hc5962 (memS mem0))
              have h5966 := (h5948.ext e5958).chg hc5962 (avoidb hn29)
              have h5967 := (hB5944.ext e5958).chg hc5962 (avoidb hn5908.symm)
              have e5968 := chg_box e5959 hc5962 hbf31
              refine T0_q (v := (.bool true)) rfl (yl_assign rfl) ?_
              refine T0_nil ?_
              refine hK5725 _ _ ?_
              refine WC_region ?_
              refine T0_q (v := (.int .i64 (w64 (x5683 + 1)))) rfl (yl_add hs5684 rfl) ?_
              refine T0_q (v := (.int .i64 (w64 (x5683 + 1)))) rfl (yl_move rfl) ?_
              refine T0_nil ?_
              replace h := some_out h
              subst h
              refine hK5719 _ _ _ rfl ?_
              exact ⟨true, w64 (x5683 + 1), r5934, x5683, x4828, rfl, hs5674, hs5675, hs5676, rfl, hs5679, hs5680, hs5681, hs5682, rfl, (h5965.sub (sub_cons (memS mem0) (sub_cons (memS (memS mem0)) (sub_skip (sub_skip (sub_skip (sub_refl _))))))), h5964, hB5963, h5966, e5968⟩
            · replace h := cond_f hb5960 h
              refine WC_skip ?_
              refine hK5725 _ _ ?_
              refine WC_region ?_
              refine T0_q (v := (.int .i64 (w64 (x5683 + 1)))) rfl (yl_add hs5684 rfl) ?_
              refine T0_q (v := (.int .i64 (w64 (x5683 + 1)))) rfl (yl_move rfl) ?_
              refine T0_nil ?_
              replace h := some_out h
              subst h
              refine hK5719 _ _ _ rfl ?_
              exact ⟨x5677, w64 (x5683 + 1), x5687, x5688, x5689, rfl, hs5674, hs5675, hs5676, hs5678, hs5679, hs5680, hs5681, hs5682, rfl, ((h5947.ext e5958).sub (sub_cons (memS mem0) (sub_cons (memS (memS mem0)) (sub_skip (sub_skip (sub_skip (sub_refl _))))))), (h5945.ext e5958), (h5946.ext e5958), (h5948.ext e5958), e5959⟩
        · replace h := cond_f hb5724 h
          refine WC_exit ?_
          replace h := some_out h
          subst h
          have ho := hx5718 _ rfl
          subst ho
          refine hK5720 _ _ ?_
          exact ⟨x5677, x5687, x5688, x5689, rfl, hs5674, hs5675, hs5676, hs5678, hs5680, hs5681, h5692, hB5686, hB5691, hB5694, e5673⟩
      · rintro ρ wd5695 ⟨x5700, x5706, x5707, x5708, rfl, hs5697, hs5698, hs5699, hs5701, hs5702, hs5703, h5711, hB5705, hB5710, hB5713, e5696⟩
        replace h := hn5716
        refine hK4864 _ _ ?_
        refine WC_region ?_
        refine T0_q (v := (.int .i64 (w64 (x4828 + 1)))) rfl (yl_add hs5703 rfl) ?_
        refine T0_q (v := (.int .i64 (w64 (x4828 + 1)))) rfl (yl_move rfl) ?_
        refine T0_nil ?_
        replace h := some_out h
        subst h
        refine hK4858 _ _ _ rfl ?_
        exact ⟨x5700, w64 (x4828 + 1), x5706, x5707, x5708, rfl, hs5697, hs5698, hs5699, hs5701, hs5702, rfl, h5711, hB5705, hB5710, hB5713, e5696⟩
    · replace h := cond_f hb4863 h
      refine WC_exit ?_
      replace h := some_out h
      subst h
      have ho := hx4857 _ rfl
      subst ho
      refine hK4859 _ _ ?_
      exact ⟨x4825, x4832, x4833, x4834, rfl, hs4823, hs4824, hs4826, hB4831, hB4836, e4821⟩
  · rintro ρ wd4840 ⟨x4844, x4848, x4849, x4850, rfl, hs4842, hs4843, hs4845, hB4847, hB4852, e4841⟩
    replace h := hn4855
    refine hK43 _ _ ?_
    refine WC_seqK fun K5969 hK5969 => ?_
    refine WC_region ?_
    refine T0_q (v := (.agg (List.toArray [(.int .i64 x4848), (.int .i64 x4849), (.int .i64 x4850)]))) rfl (yl_loadA (cs := [(.int .i64 x4848), (.int .i64 x4849), (.int .i64 x4850)]) ag158 hs4843 (Box.at hB4852)) ?_
    refine T0_q (v := (.bool x4844)) rfl (yl_move hs4845) ?_
    refine T0_e rfl (eff_storeC (vs := [(.int .i64 x4848), (.int .i64 x4849), (.int .i64 x4850)]) (cs' := [(.int .i64 x4848), (.int .i64 x4849), (.int .i64 x4850)]) sz158 rfl rfl hs4842 rfl hB4847 rfl (oc_cons rfl (oc_cons rfl (oc_cons rfl oc_nil))) rfl ?_)
    intro wd5970 hc5971 hB5972
    have h5973 := hB4852.chg hc5971 (avoidb hn30.symm)
    have e5974 := chg_box e4841 hc5971 hbf19
    refine T0_q (v := (.bool x4844)) rfl (yl_assign rfl) ?_
    refine T0_nil ?_
    refine hK5969 _ _ ?_
    refine WC_ret ?_
    replace h := some_out h
    subst h
    exact ⟨[(.agg (List.toArray [(.int .i64 x4848), (.int .i64 x4849), (.int .i64 x4850)])), (.bool x4844)], ⟨⟨_, hs4842, run_loadVarA (cs := [(.int .i64 x4848), (.int .i64 x4849), (.int .i64 x4850)]) ag158 (Box.at hB5972)⟩, rfl, trivial⟩, e5974, [(.int .i64 x4848), (.int .i64 x4849), (.int .i64 x4850)], rfl, rfl⟩

noncomputable def locate_track_spare_spec (p_t : locate_track) : Option Int :=
  (Option.bind (locate_track_distance_spec p_t) fun r14 =>
  (bif (!r14.2) then (
    some p_t.LocateTrack.Window
  ) else (
    some (w64 ((w64 (r14.1.distance - (w64 (2 * p_t.LocateTrack.Errors)))) - 1))
  ))
  )
theorem locate_track_spare_ok (L : List Value) (w : World) (hL : LtL L w) (cs_p_t : List Value) (p_t : locate_track) (h_p_t : Rep.rd L w cs_p_t p_t) (r : Int) (h : locate_track_spare_spec p_t = some r) :
    CallsTo Tryd.prog 116 [(.agg cs_p_t.toArray)] w (fun v w' => Ext w w' ∧ (.int .i64 r) = v) := by
  have e0 : Ext w w := Chg.refl _ _
  obtain ⟨v1, h2, rfl⟩ := h_p_t
  refine callsTo_of_WC (n := 23) (rs := [.tmp 2]) Tryd.func116 rfl rfl rfl rfl rfl ?_
  refine WC_seqK fun K4 hK4 => ?_
  refine WC_region ?_
  refine T0_e rfl (eff_boxC (cs := [v1, (.int .i64 p_t.LocateTrack.Window), (.int .i64 p_t.LocateTrack.Tooth), (.int .i64 p_t.LocateTrack.PerVane), (.int .i64 p_t.LocateTrack.First), (.int .i64 p_t.LocateTrack.Modulus), (.int .i64 p_t.LocateTrack.Slack), (.int .i64 p_t.LocateTrack.Errors), (.bool p_t.LocateTrack.Round)]) rfl rfl ?_)
  intro b5 wd6 hb7 he8 hB9
  have hbf10 := bfresh e0 hb7
  have e11 := e0.trans he8
  refine T0_q (v := (.int .i64 0)) rfl (yl_assign rfl) ?_
  refine T0_nil ?_
  refine hK4 _ _ ?_
  refine WC_seqK fun K13 hK13 => ?_
  refine WC_region ?_
  refine T0_q (v := (.agg (List.toArray [v1, (.int .i64 p_t.LocateTrack.Window), (.int .i64 p_t.LocateTrack.Tooth), (.int .i64 p_t.LocateTrack.PerVane), (.int .i64 p_t.LocateTrack.First), (.int .i64 p_t.LocateTrack.Modulus), (.int .i64 p_t.LocateTrack.Slack), (.int .i64 p_t.LocateTrack.Errors), (.bool p_t.LocateTrack.Round)]))) rfl (yl_loadA (cs := [v1, (.int .i64 p_t.LocateTrack.Window), (.int .i64 p_t.LocateTrack.Tooth), (.int .i64 p_t.LocateTrack.PerVane), (.int .i64 p_t.LocateTrack.First), (.int .i64 p_t.LocateTrack.Modulus), (.int .i64 p_t.LocateTrack.Slack), (.int .i64 p_t.LocateTrack.Errors), (.bool p_t.LocateTrack.Round)]) ag130 rfl (Box.at hB9)) ?_
  obtain ⟨r14, hr15, h⟩ := bind_elim h
  refine T0_e rfl (eff_call Tryd.func115 nm115 rfl (ev1 rfl) (locate_track_distance_ok [] _ (LtL.nil _) [v1, (.int .i64 p_t.LocateTrack.Window), (.int .i64 p_t.LocateTrack.Tooth), (.int .i64 p_t.LocateTrack.PerVane), (.int .i64 p_t.LocateTrack.First), (.int .i64 p_t.LocateTrack.Modulus), (.int .i64 p_t.LocateTrack.Slack), (.int .i64 p_t.LocateTrack.Errors), (.bool p_t.LocateTrack.Round)] p_t ⟨v1, ((h2.ext he8).sub (fun _ h => by cases h)), rfl⟩ r14 hr15) ?_)
  rintro _ wd16 ⟨he17, cs18, rfl, hrd19⟩
  have e20 := he8.trans he17
  have e21 := e11.trans he17
  have hrd19 : cs18 = [(.int .i64 r14.1.distance), (.int .i64 r14.1.pair.e0), (.int .i64 r14.1.pair.e1)] := hrd19
  subst hrd19
  refine T0_q (v := (.tuple #[(.agg (List.toArray [(.int .i64 r14.1.distance), (.int .i64 r14.1.pair.e0), (.int .i64 r14.1.pair.e1)])), (.bool r14.2)])) rfl (yl_move rfl) ?_
  refine T0_q (v := (.agg (List.toArray [(.int .i64 r14.1.distance), (.int .i64 r14.1.pair.e0), (.int .i64 r14.1.pair.e1)]))) rfl (yl_extract rfl rfl) ?_
  refine T0_q (v := (.bool r14.2)) rfl (yl_extract rfl rfl) ?_
  refine T0_e rfl (eff_allocZ zi158 ?_)
  intro b22 wd23 hb24 he25 hB26
  have hn27 : b22 ≠ b5 := box_ne (hB9.ext he17) hb24
  have hbf28 := bfresh e21 hb24
  have h29 := (h2.ext e20).step (add_box he25 hb24)
  have e30 := he17.trans he25
  have e31 := e21.trans he25
  refine T0_e rfl (eff_storeC (vs := [(.int .i64 r14.1.distance), (.int .i64 r14.1.pair.e0), (.int .i64 r14.1.pair.e1)]) (cs' := [(.int .i64 r14.1.distance), (.int .i64 r14.1.pair.e0), (.int .i64 r14.1.pair.e1)]) sz158 rfl rfl rfl rfl hB26 rfl (oc_cons rfl (oc_cons rfl (oc_cons rfl oc_nil))) rfl ?_)
  intro wd33 hc34 hB35
  have h36 := h29.step (Stepp.chg_mem hc34 mem0)
  have h37 := (hB9.ext e30).chg hc34 (avoidb hn27)
  have e38 := chg_box e31 hc34 hbf28
  refine T0_q (v := (.bool r14.2)) rfl (yl_assign rfl) ?_
  refine T0_nil ?_
  refine hK13 _ _ ?_
  refine WC_seqK fun K39 hK39 => ?_
  refine WC_seqK fun K40 hK40 => ?_
  refine WC_region ?_
  refine T0_q (v := (.bool r14.2)) rfl (yl_move rfl) ?_
  refine T0_q (v := (.bool (!r14.2))) rfl (yl_not rfl) ?_
  refine T0_nil ?_
  refine hK40 _ _ ?_
  refine WC_cond (b := (!r14.2)) rfl (fun hb41 => ?_) (fun hb41 => ?_)
  · replace h := cond_t hb41 h
    refine WC_seqK fun K42 hK42 => ?_
    refine WC_region ?_
    refine T0_q (v := (.pointer (some ⟨b5, 0, none⟩))) rfl (yl_fa 0 Tryd.underlying130 rfl rfl ⟨8, sz24⟩ rfl rfl) ?_
    refine T0_q (v := (.pointer (some ⟨b5, 1, none⟩))) rfl (yl_fa 1 Tryd.underlying24 rfl rfl ⟨0, sz3⟩ rfl rfl) ?_
    refine T0_q (v := (.int .i64 p_t.LocateTrack.Window)) rfl (yl_load sc3 rfl (At.drop (Box.at h37) 1)) ?_
    refine T0_q (v := (.int .i64 p_t.LocateTrack.Window)) rfl (yl_assign rfl) ?_
    refine T0_nil ?_
    refine hK42 _ _ ?_
    refine WC_ret ?_
    replace h := some_out h
    subst h
    exact ⟨[(.int .i64 p_t.LocateTrack.Window)], ⟨rfl, trivial⟩, e38, rfl⟩
  · replace h := cond_f hb41 h
    refine WC_skip ?_
    refine hK39 _ _ ?_
    refine WC_seqK fun K43 hK43 => ?_
    refine WC_region ?_
    refine T0_q (v := (.pointer (some ⟨b22, 0, none⟩))) rfl (yl_fa 0 Tryd.underlying158 rfl rfl ⟨0, sz3⟩ rfl rfl) ?_
    refine T0_q (v := (.int .i64 r14.1.distance)) rfl (yl_load sc3 rfl (Box.at hB35)) ?_
    refine T0_q (v := (.pointer (some ⟨b5, 0, none⟩))) rfl (yl_fa 0 Tryd.underlying130 rfl rfl ⟨8, sz24⟩ rfl rfl) ?_
    refine T0_q (v := (.pointer (some ⟨b5, 7, none⟩))) rfl (yl_fa 7 Tryd.underlying24 rfl rfl ⟨0, sz3⟩ rfl rfl) ?_
    refine T0_q (v := (.int .i64 p_t.LocateTrack.Errors)) rfl (yl_load sc3 rfl (At.drop (Box.at h37) 7)) ?_
    refine T0_q (v := (.int .i64 (w64 (2 * p_t.LocateTrack.Errors)))) rfl (yl_mul rfl rfl) ?_
    refine T0_q (v := (.int .i64 (w64 (r14.1.distance - (w64 (2 * p_t.LocateTrack.Errors)))))) rfl (yl_sub rfl rfl) ?_
    refine T0_q (v := (.int .i64 (w64 ((w64 (r14.1.distance - (w64 (2 * p_t.LocateTrack.Errors)))) - 1)))) rfl (yl_sub rfl rfl) ?_
    refine T0_q (v := (.int .i64 (w64 ((w64 (r14.1.distance - (w64 (2 * p_t.LocateTrack.Errors)))) - 1)))) rfl (yl_assign rfl) ?_
    refine T0_nil ?_
    refine hK43 _ _ ?_
    refine WC_ret ?_
    replace h := some_out h
    subst h
    exact ⟨[(.int .i64 (w64 ((w64 (r14.1.distance - (w64 (2 * p_t.LocateTrack.Errors)))) - 1)))], ⟨rfl, trivial⟩, e38, rfl⟩

noncomputable def locate_counted_116_spec (p_t : LocateTrack) : Option (Int × Int) :=
  (Option.bind (locate_open_spec p_t) fun r14 =>
  (bif (!decide (r14.2 = 0)) then (
    some (0, r14.2)
  ) else (
    (Option.bind (locate_track_spare_spec (locate_track.mk (LocateTrack.mk r14.1.LocateTrack.Vanes r14.1.LocateTrack.Window r14.1.LocateTrack.Tooth r14.1.LocateTrack.PerVane r14.1.LocateTrack.First r14.1.LocateTrack.Modulus r14.1.LocateTrack.Slack r14.1.LocateTrack.Errors r14.1.LocateTrack.Round))) fun r49 =>
    some (r49, 0)
    )
  ))
  )
theorem locate_counted_116_ok (L : List Value) (w : World) (hL : LtL L w) (cs_p_t : List Value) (p_t : LocateTrack) (h_p_t : Rep.rd L w cs_p_t p_t) (r : Int × Int) (h : locate_counted_116_spec p_t = some r) :
    CallsTo Tryd.prog 100 [(.agg cs_p_t.toArray), (.func (.func 116) #[] #[])] w (fun v w' => Ext w w' ∧ (.tuple #[(.int .i64 r.1), (.int .i64 r.2)]) = v) := by
  have e0 : Ext w w := Chg.refl _ _
  obtain ⟨v1, h2, rfl⟩ := h_p_t
  refine callsTo_of_WC (n := 19) (rs := [.tmp 4, .tmp 5]) Tryd.func100 rfl rfl rfl rfl rfl ?_
  refine WC_seqK fun K4 hK4 => ?_
  refine WC_region ?_
  refine T0_e rfl (eff_boxC (cs := [v1, (.int .i64 p_t.Window), (.int .i64 p_t.Tooth), (.int .i64 p_t.PerVane), (.int .i64 p_t.First), (.int .i64 p_t.Modulus), (.int .i64 p_t.Slack), (.int .i64 p_t.Errors), (.bool p_t.Round)]) rfl rfl ?_)
  intro b5 wd6 hb7 he8 hB9
  have hbf10 := bfresh e0 hb7
  have e11 := e0.trans he8
  refine T0_q (v := (.int .i64 0)) rfl (yl_assign rfl) ?_
  refine T0_q (v := (.int .i64 0)) rfl (yl_assign rfl) ?_
  refine T0_nil ?_
  refine hK4 _ _ ?_
  refine WC_seqK fun K13 hK13 => ?_
  refine WC_region ?_
  refine T0_q (v := (.agg (List.toArray [v1, (.int .i64 p_t.Window), (.int .i64 p_t.Tooth), (.int .i64 p_t.PerVane), (.int .i64 p_t.First), (.int .i64 p_t.Modulus), (.int .i64 p_t.Slack), (.int .i64 p_t.Errors), (.bool p_t.Round)]))) rfl (yl_loadA (cs := [v1, (.int .i64 p_t.Window), (.int .i64 p_t.Tooth), (.int .i64 p_t.PerVane), (.int .i64 p_t.First), (.int .i64 p_t.Modulus), (.int .i64 p_t.Slack), (.int .i64 p_t.Errors), (.bool p_t.Round)]) ag24 rfl (Box.at hB9)) ?_
  obtain ⟨r14, hr15, h⟩ := bind_elim h
  refine T0_e rfl (eff_call Tryd.func103 nm103 rfl (ev1 rfl) (locate_open_ok L _ (hL.chg e11) [v1, (.int .i64 p_t.Window), (.int .i64 p_t.Tooth), (.int .i64 p_t.PerVane), (.int .i64 p_t.First), (.int .i64 p_t.Modulus), (.int .i64 p_t.Slack), (.int .i64 p_t.Errors), (.bool p_t.Round)] p_t ⟨v1, (h2.ext he8), rfl⟩ r14 hr15) ?_)
  rintro _ wd16 ⟨he17, cs20, rfl, hrd21⟩
  have e22 := he8.trans he17
  have e23 := e11.trans he17
  obtain ⟨v18, h19, rfl⟩ := hrd21
  refine T0_q (v := (.tuple #[(.agg (List.toArray [v18, (.int .i64 r14.1.LocateTrack.Window), (.int .i64 r14.1.LocateTrack.Tooth), (.int .i64 r14.1.LocateTrack.PerVane), (.int .i64 r14.1.LocateTrack.First), (.int .i64 r14.1.LocateTrack.Modulus), (.int .i64 r14.1.LocateTrack.Slack), (.int .i64 r14.1.LocateTrack.Errors), (.bool r14.1.LocateTrack.Round)])), (.int .i64 r14.2)])) rfl (yl_move rfl) ?_
  refine T0_q (v := (.agg (List.toArray [v18, (.int .i64 r14.1.LocateTrack.Window), (.int .i64 r14.1.LocateTrack.Tooth), (.int .i64 r14.1.LocateTrack.PerVane), (.int .i64 r14.1.LocateTrack.First), (.int .i64 r14.1.LocateTrack.Modulus), (.int .i64 r14.1.LocateTrack.Slack), (.int .i64 r14.1.LocateTrack.Errors), (.bool r14.1.LocateTrack.Round)]))) rfl (yl_extract rfl rfl) ?_
  refine T0_q (v := (.int .i64 r14.2)) rfl (yl_extract rfl rfl) ?_
  refine T0_e rfl (eff_allocZ zi130 ?_)
  intro b25 wd26 hb27 he28 hB29
  have hn30 : b25 ≠ b5 := box_ne (hB9.ext he17) hb27
  have hbf31 := bfresh e23 hb27
  have h32 := (h2.ext e22).step (add_box he28 hb27)
  have h33 := h19.step (add_box he28 hb27)
  have e34 := he17.trans he28
  have e35 := e23.trans he28
  refine T0_e rfl (eff_storeC (vs := [v18, (.int .i64 r14.1.LocateTrack.Window), (.int .i64 r14.1.LocateTrack.Tooth), (.int .i64 r14.1.LocateTrack.PerVane), (.int .i64 r14.1.LocateTrack.First), (.int .i64 r14.1.LocateTrack.Modulus), (.int .i64 r14.1.LocateTrack.Slack), (.int .i64 r14.1.LocateTrack.Errors), (.bool r14.1.LocateTrack.Round)]) (cs' := [v18, (.int .i64 r14.1.LocateTrack.Window), (.int .i64 r14.1.LocateTrack.Tooth), (.int .i64 r14.1.LocateTrack.PerVane), (.int .i64 r14.1.LocateTrack.First), (.int .i64 r14.1.LocateTrack.Modulus), (.int .i64 r14.1.LocateTrack.Slack), (.int .i64 r14.1.LocateTrack.Errors), (.bool r14.1.LocateTrack.Round)]) sz130 rfl rfl rfl rfl hB29 rfl (oc_cons h33.one1 (oc_cons rfl (oc_cons rfl (oc_cons rfl (oc_cons rfl (oc_cons rfl (oc_cons rfl (oc_cons rfl (oc_cons rfl oc_nil))))))))) rfl ?_)
  intro wd37 hc38 hB39
  have h40 := h32.step (Stepp.chg_mem hc38 mem0)
  have h41 := (hB9.ext e34).chg hc38 (avoidb hn30)
  have h42 := h33.step (Stepp.chg_mem hc38 mem0)
  have e43 := chg_box e35 hc38 hbf31
  refine T0_q (v := (.int .i64 r14.2)) rfl (yl_assign rfl) ?_
  refine T0_nil ?_
  refine hK13 _ _ ?_
  refine WC_seqK fun K44 hK44 => ?_
  refine WC_seqK fun K45 hK45 => ?_
  refine WC_region ?_
  refine T0_q (v := (.int .i64 r14.2)) rfl (yl_move rfl) ?_
  refine T0_q (v := (.bool (!decide (r14.2 = 0)))) rfl (yl_neq rfl rfl) ?_
  refine T0_nil ?_
  refine hK45 _ _ ?_
  refine WC_cond (b := (!decide (r14.2 = 0))) rfl (fun hb46 => ?_) (fun hb46 => ?_)
  · replace h := cond_t hb46 h
    refine WC_seqK fun K47 hK47 => ?_
    refine WC_region ?_
    refine T0_q (v := (.int .i64 r14.2)) rfl (yl_move rfl) ?_
    refine T0_q (v := (.int .i64 0)) rfl (yl_assign rfl) ?_
    refine T0_q (v := (.int .i64 r14.2)) rfl (yl_assign rfl) ?_
    refine T0_nil ?_
    refine hK47 _ _ ?_
    refine WC_ret ?_
    replace h := some_out h
    subst h
    exact ⟨[(.int .i64 0), (.int .i64 r14.2)], ⟨rfl, rfl, trivial⟩, e43, rfl⟩
  · replace h := cond_f hb46 h
    refine WC_skip ?_
    refine hK44 _ _ ?_
    refine WC_seqK fun K48 hK48 => ?_
    refine WC_region ?_
    refine T0_q (v := (.func (.func 116) #[] #[])) rfl (yl_move rfl) ?_
    refine T0_q (v := (.agg (List.toArray [v18, (.int .i64 r14.1.LocateTrack.Window), (.int .i64 r14.1.LocateTrack.Tooth), (.int .i64 r14.1.LocateTrack.PerVane), (.int .i64 r14.1.LocateTrack.First), (.int .i64 r14.1.LocateTrack.Modulus), (.int .i64 r14.1.LocateTrack.Slack), (.int .i64 r14.1.LocateTrack.Errors), (.bool r14.1.LocateTrack.Round)]))) rfl (yl_loadA (cs := [v18, (.int .i64 r14.1.LocateTrack.Window), (.int .i64 r14.1.LocateTrack.Tooth), (.int .i64 r14.1.LocateTrack.PerVane), (.int .i64 r14.1.LocateTrack.First), (.int .i64 r14.1.LocateTrack.Modulus), (.int .i64 r14.1.LocateTrack.Slack), (.int .i64 r14.1.LocateTrack.Errors), (.bool r14.1.LocateTrack.Round)]) ag130 rfl (Box.at hB39)) ?_
    obtain ⟨r49, hr50, h⟩ := bind_elim h
    refine T0_e rfl (eff_callV rfl Tryd.func116 nm116 rfl (ev1 rfl) (locate_track_spare_ok [] _ (LtL.nil _) [v18, (.int .i64 r14.1.LocateTrack.Window), (.int .i64 r14.1.LocateTrack.Tooth), (.int .i64 r14.1.LocateTrack.PerVane), (.int .i64 r14.1.LocateTrack.First), (.int .i64 r14.1.LocateTrack.Modulus), (.int .i64 r14.1.LocateTrack.Slack), (.int .i64 r14.1.LocateTrack.Errors), (.bool r14.1.LocateTrack.Round)] (locate_track.mk (LocateTrack.mk r14.1.LocateTrack.Vanes r14.1.LocateTrack.Window r14.1.LocateTrack.Tooth r14.1.LocateTrack.PerVane r14.1.LocateTrack.First r14.1.LocateTrack.Modulus r14.1.LocateTrack.Slack r14.1.LocateTrack.Errors r14.1.LocateTrack.Round)) ⟨v18, (h42.sub (fun _ h => by cases h)), rfl⟩ r49 hr50) ?_)
    rintro _ wd51 ⟨he52, rfl⟩
    have e53 := e43.trans he52
    refine T0_q (v := (.int .i64 r49)) rfl (yl_assign rfl) ?_
    refine T0_q (v := (.int .i64 0)) rfl (yl_assign rfl) ?_
    refine T0_nil ?_
    refine hK48 _ _ ?_
    refine WC_ret ?_
    replace h := some_out h
    subst h
    exact ⟨[(.int .i64 r49), (.int .i64 0)], ⟨rfl, rfl, trivial⟩, e53, rfl⟩

noncomputable def locate_DistanceOf_spec (p_t : LocateTrack) : Option (Int × Arr2_Int × Int) :=
  (Option.bind (locate_open_spec p_t) fun r24 =>
  (bif (!decide (r24.2 = 0)) then (
    some (0, (Arr2_Int.mk 0 0), r24.2)
  ) else (
    (Option.bind (locate_track_distance_spec (locate_track.mk (LocateTrack.mk r24.1.LocateTrack.Vanes r24.1.LocateTrack.Window r24.1.LocateTrack.Tooth r24.1.LocateTrack.PerVane r24.1.LocateTrack.First r24.1.LocateTrack.Modulus r24.1.LocateTrack.Slack r24.1.LocateTrack.Errors r24.1.LocateTrack.Round))) fun r70 =>
    (Option.bind (locate_unless_spec r70.2 12) fun r104 =>
    some (r70.1.distance, (Arr2_Int.mk r70.1.pair.e0 r70.1.pair.e1), r104)
    )
    )
  ))
  )
theorem locate_DistanceOf_ok (L : List Value) (w : World) (hL : LtL L w) (cs_p_t : List Value) (p_t : LocateTrack) (h_p_t : Rep.rd L w cs_p_t p_t) (r : Int × Arr2_Int × Int) (h : locate_DistanceOf_spec p_t = some r) :
    CallsTo Tryd.prog 71 [(.agg cs_p_t.toArray)] w (fun v w' => Ext w w' ∧ ∃ (cs1 : List Value), (.tuple #[(.int .i64 r.1), (.agg cs1.toArray), (.int .i64 r.2.2)]) = v ∧ Rep.rd L w' cs1 r.2.1) := by
  have e0 : Ext w w := Chg.refl _ _
  obtain ⟨v1, h2, rfl⟩ := h_p_t
  refine callsTo_of_WC (n := 29) (rs := [.tmp 2, .cell 3 115, .tmp 4]) Tryd.func71 rfl rfl rfl rfl rfl ?_
  refine WC_seqK fun K4 hK4 => ?_
  refine WC_region ?_
  refine T0_e rfl (eff_boxC (cs := [v1, (.int .i64 p_t.Window), (.int .i64 p_t.Tooth), (.int .i64 p_t.PerVane), (.int .i64 p_t.First), (.int .i64 p_t.Modulus), (.int .i64 p_t.Slack), (.int .i64 p_t.Errors), (.bool p_t.Round)]) rfl rfl ?_)
  intro b5 wd6 hb7 he8 hB9
  have hbf10 := bfresh e0 hb7
  have e11 := e0.trans he8
  refine T0_q (v := (.int .i64 0)) rfl (yl_assign rfl) ?_
  refine T0_e rfl (eff_allocZ zi115 ?_)
  intro b13 wd14 hb15 he16 hB17
  have hn18 : b13 ≠ b5 := box_ne hB9 hb15
  have hbf19 := bfresh e11 hb15
  have h20 := (h2.ext he8).step (add_box he16 hb15)
  have e21 := e11.trans he16
  refine T0_q (v := (.int .i64 0)) rfl (yl_assign rfl) ?_
  refine T0_nil ?_
  refine hK4 _ _ ?_
  refine WC_seqK fun K23 hK23 => ?_
  refine WC_region ?_
  refine T0_q (v := (.agg (List.toArray [v1, (.int .i64 p_t.Window), (.int .i64 p_t.Tooth), (.int .i64 p_t.PerVane), (.int .i64 p_t.First), (.int .i64 p_t.Modulus), (.int .i64 p_t.Slack), (.int .i64 p_t.Errors), (.bool p_t.Round)]))) rfl (yl_loadA (cs := [v1, (.int .i64 p_t.Window), (.int .i64 p_t.Tooth), (.int .i64 p_t.PerVane), (.int .i64 p_t.First), (.int .i64 p_t.Modulus), (.int .i64 p_t.Slack), (.int .i64 p_t.Errors), (.bool p_t.Round)]) ag24 rfl (Box.at (hB9.ext he16))) ?_
  obtain ⟨r24, hr25, h⟩ := bind_elim h
  refine T0_e rfl (eff_call Tryd.func103 nm103 rfl (ev1 rfl) (locate_open_ok ((.pointer (some ⟨b13, 0, none⟩)) :: L) _ (ltl_box (hL.chg e21) hB17) [v1, (.int .i64 p_t.Window), (.int .i64 p_t.Tooth), (.int .i64 p_t.PerVane), (.int .i64 p_t.First), (.int .i64 p_t.Modulus), (.int .i64 p_t.Slack), (.int .i64 p_t.Errors), (.bool p_t.Round)] p_t ⟨v1, h20, rfl⟩ r24 hr25) ?_)
  rintro _ wd26 ⟨he27, cs30, rfl, hrd31⟩
  have e32 := he16.trans he27
  have e33 := e21.trans he27
  obtain ⟨v28, h29, rfl⟩ := hrd31
  refine T0_q (v := (.tuple #[(.agg (List.toArray [v28, (.int .i64 r24.1.LocateTrack.Window), (.int .i64 r24.1.LocateTrack.Tooth), (.int .i64 r24.1.LocateTrack.PerVane), (.int .i64 r24.1.LocateTrack.First), (.int .i64 r24.1.LocateTrack.Modulus), (.int .i64 r24.1.LocateTrack.Slack), (.int .i64 r24.1.LocateTrack.Errors), (.bool r24.1.LocateTrack.Round)])), (.int .i64 r24.2)])) rfl (yl_move rfl) ?_
  refine T0_q (v := (.agg (List.toArray [v28, (.int .i64 r24.1.LocateTrack.Window), (.int .i64 r24.1.LocateTrack.Tooth), (.int .i64 r24.1.LocateTrack.PerVane), (.int .i64 r24.1.LocateTrack.First), (.int .i64 r24.1.LocateTrack.Modulus), (.int .i64 r24.1.LocateTrack.Slack), (.int .i64 r24.1.LocateTrack.Errors), (.bool r24.1.LocateTrack.Round)]))) rfl (yl_extract rfl rfl) ?_
  refine T0_q (v := (.int .i64 r24.2)) rfl (yl_extract rfl rfl) ?_
  refine T0_e rfl (eff_allocZ zi130 ?_)
  intro b35 wd36 hb37 he38 hB39
  have hn40 : b35 ≠ b5 := box_ne (hB9.ext e32) hb37
  have hn41 : b35 ≠ b13 := box_ne (hB17.ext he27) hb37
  have hbf42 := bfresh e33 hb37
  have h43 := (h20.ext he27).step (add_box he38 hb37)
  have h44 := h29.step (add_box he38 hb37)
  have e45 := he27.trans he38
  have e46 := e32.trans he38
  have e47 := e33.trans he38
  refine T0_e rfl (eff_storeC (vs := [v28, (.int .i64 r24.1.LocateTrack.Window), (.int .i64 r24.1.LocateTrack.Tooth), (.int .i64 r24.1.LocateTrack.PerVane), (.int .i64 r24.1.LocateTrack.First), (.int .i64 r24.1.LocateTrack.Modulus), (.int .i64 r24.1.LocateTrack.Slack), (.int .i64 r24.1.LocateTrack.Errors), (.bool r24.1.LocateTrack.Round)]) (cs' := [v28, (.int .i64 r24.1.LocateTrack.Window), (.int .i64 r24.1.LocateTrack.Tooth), (.int .i64 r24.1.LocateTrack.PerVane), (.int .i64 r24.1.LocateTrack.First), (.int .i64 r24.1.LocateTrack.Modulus), (.int .i64 r24.1.LocateTrack.Slack), (.int .i64 r24.1.LocateTrack.Errors), (.bool r24.1.LocateTrack.Round)]) sz130 rfl rfl rfl rfl hB39 rfl (oc_cons h44.one1 (oc_cons rfl (oc_cons rfl (oc_cons rfl (oc_cons rfl (oc_cons rfl (oc_cons rfl (oc_cons rfl (oc_cons rfl oc_nil))))))))) rfl ?_)
  intro wd49 hc50 hB51
  have h52 := h43.step (Stepp.chg_mem hc50 mem0)
  have h53 := (hB9.ext e46).chg hc50 (avoidb hn40)
  have h54 := (hB17.ext e45).chg hc50 (avoidb hn41)
  have h55 := h44.step (Stepp.chg_mem hc50 mem0)
  have e56 := chg_box e47 hc50 hbf42
  refine T0_q (v := (.int .i64 r24.2)) rfl (yl_assign rfl) ?_
  refine T0_nil ?_
  refine hK23 _ _ ?_
  refine WC_seqK fun K57 hK57 => ?_
  refine WC_seqK fun K58 hK58 => ?_
  refine WC_region ?_
  refine T0_q (v := (.int .i64 r24.2)) rfl (yl_move rfl) ?_
  refine T0_q (v := (.bool (!decide (r24.2 = 0)))) rfl (yl_neq rfl rfl) ?_
  refine T0_nil ?_
  refine hK58 _ _ ?_
  refine WC_cond (b := (!decide (r24.2 = 0))) rfl (fun hb59 => ?_) (fun hb59 => ?_)
  · replace h := cond_t hb59 h
    refine WC_seqK fun K60 hK60 => ?_
    refine WC_region ?_
    refine T0_q (v := (.agg (List.toArray [(.int .i64 0), (.int .i64 0)]))) rfl (yl_buildA (cells := [(.int .i64 0), (.int .i64 0)]) Tryd.underlying115 sz3 zi115 pc_nil rfl) ?_
    refine T0_q (v := (.int .i64 r24.2)) rfl (yl_move rfl) ?_
    refine T0_q (v := (.int .i64 0)) rfl (yl_assign rfl) ?_
    refine T0_e rfl (eff_storeC (vs := [(.int .i64 0), (.int .i64 0)]) (cs' := [(.int .i64 0), (.int .i64 0)]) sz115 rfl rfl rfl rfl h54 rfl (oc_cons rfl (oc_cons rfl oc_nil)) rfl ?_)
    intro wd61 hc62 hB63
    have h64 := h52.step (Stepp.chg_mem hc62 (memS mem0))
    have h65 := h53.chg hc62 (avoidb hn18)
    have h66 := h55.step (Stepp.chg_mem hc62 (memS mem0))
    have h67 := hB51.chg hc62 (avoidb hn41.symm)
    have e68 := chg_box e56 hc62 hbf19
    refine T0_q (v := (.int .i64 r24.2)) rfl (yl_assign rfl) ?_
    refine T0_nil ?_
    refine hK60 _ _ ?_
    refine WC_ret ?_
    replace h := some_out h
    subst h
    exact ⟨[(.int .i64 0), (.agg (List.toArray [(.int .i64 0), (.int .i64 0)])), (.int .i64 r24.2)], ⟨rfl, ⟨_, rfl, run_loadVarA (cs := [(.int .i64 0), (.int .i64 0)]) ag115 (Box.at hB63)⟩, rfl, trivial⟩, e68, [(.int .i64 0), (.int .i64 0)], rfl, rfl⟩
  · replace h := cond_f hb59 h
    refine WC_skip ?_
    refine hK57 _ _ ?_
    refine WC_seqK fun K69 hK69 => ?_
    refine WC_region ?_
    refine T0_q (v := (.agg (List.toArray [v28, (.int .i64 r24.1.LocateTrack.Window), (.int .i64 r24.1.LocateTrack.Tooth), (.int .i64 r24.1.LocateTrack.PerVane), (.int .i64 r24.1.LocateTrack.First), (.int .i64 r24.1.LocateTrack.Modulus), (.int .i64 r24.1.LocateTrack.Slack), (.int .i64 r24.1.LocateTrack.Errors), (.bool r24.1.LocateTrack.Round)]))) rfl (yl_loadA (cs := [v28, (.int .i64 r24.1.LocateTrack.Window), (.int .i64 r24.1.LocateTrack.Tooth), (.int .i64 r24.1.LocateTrack.PerVane), (.int .i64 r24.1.LocateTrack.First), (.int .i64 r24.1.LocateTrack.Modulus), (.int .i64 r24.1.LocateTrack.Slack), (.int .i64 r24.1.LocateTrack.Errors), (.bool r24.1.LocateTrack.Round)]) ag130 rfl (Box.at hB51)) ?_
    obtain ⟨r70, hr71, h⟩ := bind_elim h
    refine T0_e rfl (eff_call Tryd.func115 nm115 rfl (ev1 rfl) (locate_track_distance_ok [] _ (LtL.nil _) [v28, (.int .i64 r24.1.LocateTrack.Window), (.int .i64 r24.1.LocateTrack.Tooth), (.int .i64 r24.1.LocateTrack.PerVane), (.int .i64 r24.1.LocateTrack.First), (.int .i64 r24.1.LocateTrack.Modulus), (.int .i64 r24.1.LocateTrack.Slack), (.int .i64 r24.1.LocateTrack.Errors), (.bool r24.1.LocateTrack.Round)] (locate_track.mk (LocateTrack.mk r24.1.LocateTrack.Vanes r24.1.LocateTrack.Window r24.1.LocateTrack.Tooth r24.1.LocateTrack.PerVane r24.1.LocateTrack.First r24.1.LocateTrack.Modulus r24.1.LocateTrack.Slack r24.1.LocateTrack.Errors r24.1.LocateTrack.Round)) ⟨v28, (h55.sub (fun _ h => by cases h)), rfl⟩ r70 hr71) ?_)
    rintro _ wd72 ⟨he73, cs74, rfl, hrd75⟩
    have e76 := e56.trans he73
    have hrd75 : cs74 = [(.int .i64 r70.1.distance), (.int .i64 r70.1.pair.e0), (.int .i64 r70.1.pair.e1)] := hrd75
    subst hrd75
    refine T0_q (v := (.tuple #[(.agg (List.toArray [(.int .i64 r70.1.distance), (.int .i64 r70.1.pair.e0), (.int .i64 r70.1.pair.e1)])), (.bool r70.2)])) rfl (yl_move rfl) ?_
    refine T0_q (v := (.agg (List.toArray [(.int .i64 r70.1.distance), (.int .i64 r70.1.pair.e0), (.int .i64 r70.1.pair.e1)]))) rfl (yl_extract rfl rfl) ?_
    refine T0_q (v := (.bool r70.2)) rfl (yl_extract rfl rfl) ?_
    refine T0_e rfl (eff_allocZ zi158 ?_)
    intro b77 wd78 hb79 he80 hB81
    have hn82 : b77 ≠ b5 := box_ne (h53.ext he73) hb79
    have hn83 : b77 ≠ b13 := box_ne (h54.ext he73) hb79
    have hn84 : b77 ≠ b35 := box_ne (hB51.ext he73) hb79
    have hbf85 := bfresh e76 hb79
    have h86 := (h52.ext he73).step (add_box he80 hb79)
    have h87 := (h55.ext he73).step (add_box he80 hb79)
    have e88 := he73.trans he80
    have e89 := e76.trans he80
    refine T0_e rfl (eff_storeC (vs := [(.int .i64 r70.1.distance), (.int .i64 r70.1.pair.e0), (.int .i64 r70.1.pair.e1)]) (cs' := [(.int .i64 r70.1.distance), (.int .i64 r70.1.pair.e0), (.int .i64 r70.1.pair.e1)]) sz158 rfl rfl rfl rfl hB81 rfl (oc_cons rfl (oc_cons rfl (oc_cons rfl oc_nil))) rfl ?_)
    intro wd91 hc92 hB93
    have h94 := h86.step (Stepp.chg_mem hc92 mem0)
    have h95 := (h53.ext e88).chg hc92 (avoidb hn82)
    have h96 := (h54.ext e88).chg hc92 (avoidb hn83)
    have h97 := h87.step (Stepp.chg_mem hc92 mem0)
    have h98 := (hB51.ext e88).chg hc92 (avoidb hn84)
    have e99 := chg_box e89 hc92 hbf85
    refine T0_q (v := (.bool r70.2)) rfl (yl_assign rfl) ?_
    refine T0_nil ?_
    refine hK69 _ _ ?_
    refine WC_seqK fun K100 hK100 => ?_
    refine WC_plan mixed (.p 0 (.p 2 (.p 4 (.q 1 (.q 3 (.e 5 (.p 6 (.b 7 (.p 8 .done))))))))) (by kernel_rfl) ?_
    intro wd101 he102
    have e103 := e99.trans he102
    refine TP_p (v := (.pointer (some ⟨b77, 0, none⟩))) rfl rfl (fun w' => (yl_fa 0 Tryd.underlying158 rfl rfl ⟨0, sz3⟩ rfl rfl)) ?_
    refine TP_p (v := (.pointer (some ⟨b77, 1, none⟩))) rfl rfl (fun w' => (yl_fa 1 Tryd.underlying158 rfl rfl ⟨1, sz115⟩ rfl rfl)) ?_
    refine TP_p (v := (.bool r70.2)) rfl rfl (fun w' => (yl_move rfl)) ?_
    refine TP_q (v := (.int .i64 r70.1.distance)) rfl rfl (fun w' hS => (yl_load sc3 rfl (Box.at (hB93.ext ((he102).trans hS))))) ?_
    refine TP_q (v := (.agg (List.toArray [(.int .i64 r70.1.pair.e0), (.int .i64 r70.1.pair.e1)]))) rfl rfl (fun w' hS => (yl_loadA (cs := [(.int .i64 r70.1.pair.e0), (.int .i64 r70.1.pair.e1)]) ag115 rfl (At.take (At.drop (Box.at (hB93.ext ((he102).trans hS))) 1) 2))) ?_
    obtain ⟨r104, hr105, h⟩ := bind_elim h
    refine TP_e rfl rfl (eff_call Tryd.func85 nm85 rfl (ev2 rfl rfl) (locate_unless_ok [] _ (LtL.nil _) r70.2 12 r104 hr105) ?_)
    rintro _ wd106 ⟨he107, rfl⟩
    have e108 := he102.trans he107
    have e109 := e103.trans he107
    refine ⟨he107, ?_⟩
    refine TP_p (v := (.int .i64 r70.1.distance)) rfl rfl (fun w' => (yl_assign rfl)) ?_
    refine TP_b rfl rfl (eff_storeC (vs := [(.int .i64 r70.1.pair.e0), (.int .i64 r70.1.pair.e1)]) (cs' := [(.int .i64 r70.1.pair.e0), (.int .i64 r70.1.pair.e1)]) sz115 rfl rfl rfl rfl (h96.ext e108) rfl (oc_cons rfl (oc_cons rfl oc_nil)) rfl ?_)
    intro wd110 hc111 hB112
    have h113 := (h94.ext e108).step (Stepp.chg_mem hc111 (memS (memS mem0)))
    have h114 := (h95.ext e108).chg hc111 (avoidb hn18)
    have h115 := (h97.ext e108).step (Stepp.chg_mem hc111 (memS (memS mem0)))
    have h116 := (h98.ext e108).chg hc111 (avoidb hn41.symm)
    have h117 := (hB93.ext e108).chg hc111 (avoidb hn83.symm)
    have e118 := chg_box e109 hc111 hbf19
    refine TP_p (v := (.int .i64 r104)) rfl rfl (fun w' => (yl_assign rfl)) ?_
    refine TP_done ?_
    refine hK100 _ _ ?_
    refine WC_ret ?_
    replace h := some_out h
    subst h
    exact ⟨[(.int .i64 r70.1.distance), (.agg (List.toArray [(.int .i64 r70.1.pair.e0), (.int .i64 r70.1.pair.e1)])), (.int .i64 r104)], ⟨rfl, ⟨_, rfl, run_loadVarA (cs := [(.int .i64 r70.1.pair.e0), (.int .i64 r70.1.pair.e1)]) ag115 (Box.at hB112)⟩, rfl, trivial⟩, e118, [(.int .i64 r70.1.pair.e0), (.int .i64 r70.1.pair.e1)], rfl, rfl⟩

noncomputable def locate_Always_spec (p_t : LocateTrack) : Option (Bool × Int) :=
  (Option.bind (locate_counted_116_spec p_t) fun r14 =>
  some (((decide (r14.2 = 0)) && (decide (0 ≤ r14.1))), r14.2)
  )
theorem locate_Always_ok (L : List Value) (w : World) (hL : LtL L w) (cs_p_t : List Value) (p_t : LocateTrack) (h_p_t : Rep.rd L w cs_p_t p_t) (r : Bool × Int) (h : locate_Always_spec p_t = some r) :
    CallsTo Tryd.prog 75 [(.agg cs_p_t.toArray)] w (fun v w' => Ext w w' ∧ (.tuple #[(.bool r.1), (.int .i64 r.2)]) = v) := by
  have e0 : Ext w w := Chg.refl _ _
  obtain ⟨v1, h2, rfl⟩ := h_p_t
  refine callsTo_of_WC (n := 18) (rs := [.tmp 2, .tmp 3]) Tryd.func75 rfl rfl rfl rfl rfl ?_
  refine WC_seqK fun K4 hK4 => ?_
  refine WC_region ?_
  refine T0_e rfl (eff_boxC (cs := [v1, (.int .i64 p_t.Window), (.int .i64 p_t.Tooth), (.int .i64 p_t.PerVane), (.int .i64 p_t.First), (.int .i64 p_t.Modulus), (.int .i64 p_t.Slack), (.int .i64 p_t.Errors), (.bool p_t.Round)]) rfl rfl ?_)
  intro b5 wd6 hb7 he8 hB9
  have hbf10 := bfresh e0 hb7
  have e11 := e0.trans he8
  refine T0_q (v := (.bool false)) rfl (yl_assign rfl) ?_
  refine T0_q (v := (.int .i64 0)) rfl (yl_assign rfl) ?_
  refine T0_nil ?_
  refine hK4 _ _ ?_
  refine WC_seqK fun K13 hK13 => ?_
  refine WC_region ?_
  refine T0_q (v := (.agg (List.toArray [v1, (.int .i64 p_t.Window), (.int .i64 p_t.Tooth), (.int .i64 p_t.PerVane), (.int .i64 p_t.First), (.int .i64 p_t.Modulus), (.int .i64 p_t.Slack), (.int .i64 p_t.Errors), (.bool p_t.Round)]))) rfl (yl_loadA (cs := [v1, (.int .i64 p_t.Window), (.int .i64 p_t.Tooth), (.int .i64 p_t.PerVane), (.int .i64 p_t.First), (.int .i64 p_t.Modulus), (.int .i64 p_t.Slack), (.int .i64 p_t.Errors), (.bool p_t.Round)]) ag24 rfl (Box.at hB9)) ?_
  obtain ⟨r14, hr15, h⟩ := bind_elim h
  refine T0_e rfl (eff_call Tryd.func100 nm100 rfl (ev2 rfl rfl) (locate_counted_116_ok [] _ (LtL.nil _) [v1, (.int .i64 p_t.Window), (.int .i64 p_t.Tooth), (.int .i64 p_t.PerVane), (.int .i64 p_t.First), (.int .i64 p_t.Modulus), (.int .i64 p_t.Slack), (.int .i64 p_t.Errors), (.bool p_t.Round)] p_t ⟨v1, ((h2.ext he8).sub (fun _ h => by cases h)), rfl⟩ r14 hr15) ?_)
  rintro _ wd16 ⟨he17, rfl⟩
  have e18 := he8.trans he17
  have e19 := e11.trans he17
  refine T0_q (v := (.tuple #[(.int .i64 r14.1), (.int .i64 r14.2)])) rfl (yl_move rfl) ?_
  refine T0_q (v := (.int .i64 r14.1)) rfl (yl_extract rfl rfl) ?_
  refine T0_q (v := (.int .i64 r14.2)) rfl (yl_extract rfl rfl) ?_
  refine T0_q (v := (.int .i64 r14.1)) rfl (yl_assign rfl) ?_
  refine T0_q (v := (.int .i64 r14.2)) rfl (yl_assign rfl) ?_
  refine T0_nil ?_
  refine hK13 _ _ ?_
  refine WC_seqK fun K20 hK20 => ?_
  refine WC_region ?_
  refine T0_q (v := (.int .i64 r14.2)) rfl (yl_move rfl) ?_
  refine T0_q (v := (.bool (decide (r14.2 = 0)))) rfl (yl_eql rfl rfl) ?_
  refine T0_q (v := (.bool (decide (r14.2 = 0)))) rfl (yl_move rfl) ?_
  refine T0_g (v := (.int .i64 r14.1)) (decide (r14.2 = 0)) (wanted_t rfl rfl rfl rfl) (fun hg => (yl_move rfl)) ?_
  refine T0_g (v := (.bool (decide (0 ≤ r14.1)))) (decide (r14.2 = 0)) (wanted_t rfl rfl rfl rfl) (fun hg => (yl_geq (gd_true hg) rfl)) ?_
  refine T0_q (v := (.bool ((decide (r14.2 = 0)) && (decide (0 ≤ r14.1))))) rfl (yl_and rfl (fun hb => (gd_true hb)) rfl) ?_
  refine T0_q (v := (.int .i64 r14.2)) rfl (yl_move rfl) ?_
  refine T0_q (v := (.bool ((decide (r14.2 = 0)) && (decide (0 ≤ r14.1))))) rfl (yl_assign rfl) ?_
  refine T0_q (v := (.int .i64 r14.2)) rfl (yl_assign rfl) ?_
  refine T0_nil ?_
  refine hK20 _ _ ?_
  refine WC_ret ?_
  replace h := some_out h
  subst h
  exact ⟨[(.bool ((decide (r14.2 = 0)) && (decide (0 ≤ r14.1)))), (.int .i64 r14.2)], ⟨rfl, rfl, trivial⟩, e19, rfl⟩

noncomputable def locate_MostUnread_spec (p_t : LocateTrack) : Option (Int × Int) :=
  (Option.bind (locate_counted_116_spec p_t) fun r14 =>
  (Option.bind (locate_unless_spec (decide (0 ≤ r14.1)) 12) fun r22 =>
  (Option.bind (locate_first_spec ([r14.2, r22] : List Int)) fun r37 =>
  (bif (!decide (r37 = 0)) then (
    some (0, r37)
  ) else (
    some (r14.1, 0)
  ))
  )
  )
  )
theorem locate_MostUnread_ok (L : List Value) (w : World) (hL : LtL L w) (cs_p_t : List Value) (p_t : LocateTrack) (h_p_t : Rep.rd L w cs_p_t p_t) (r : Int × Int) (h : locate_MostUnread_spec p_t = some r) :
    CallsTo Tryd.prog 76 [(.agg cs_p_t.toArray)] w (fun v w' => Ext w w' ∧ (.tuple #[(.int .i64 r.1), (.int .i64 r.2)]) = v) := by
  have e0 : Ext w w := Chg.refl _ _
  obtain ⟨v1, h2, rfl⟩ := h_p_t
  refine callsTo_of_WC (n := 21) (rs := [.tmp 2, .tmp 3]) Tryd.func76 rfl rfl rfl rfl rfl ?_
  refine WC_seqK fun K4 hK4 => ?_
  refine WC_region ?_
  refine T0_e rfl (eff_boxC (cs := [v1, (.int .i64 p_t.Window), (.int .i64 p_t.Tooth), (.int .i64 p_t.PerVane), (.int .i64 p_t.First), (.int .i64 p_t.Modulus), (.int .i64 p_t.Slack), (.int .i64 p_t.Errors), (.bool p_t.Round)]) rfl rfl ?_)
  intro b5 wd6 hb7 he8 hB9
  have hbf10 := bfresh e0 hb7
  have e11 := e0.trans he8
  refine T0_q (v := (.int .i64 0)) rfl (yl_assign rfl) ?_
  refine T0_q (v := (.int .i64 0)) rfl (yl_assign rfl) ?_
  refine T0_nil ?_
  refine hK4 _ _ ?_
  refine WC_seqK fun K13 hK13 => ?_
  refine WC_region ?_
  refine T0_q (v := (.agg (List.toArray [v1, (.int .i64 p_t.Window), (.int .i64 p_t.Tooth), (.int .i64 p_t.PerVane), (.int .i64 p_t.First), (.int .i64 p_t.Modulus), (.int .i64 p_t.Slack), (.int .i64 p_t.Errors), (.bool p_t.Round)]))) rfl (yl_loadA (cs := [v1, (.int .i64 p_t.Window), (.int .i64 p_t.Tooth), (.int .i64 p_t.PerVane), (.int .i64 p_t.First), (.int .i64 p_t.Modulus), (.int .i64 p_t.Slack), (.int .i64 p_t.Errors), (.bool p_t.Round)]) ag24 rfl (Box.at hB9)) ?_
  obtain ⟨r14, hr15, h⟩ := bind_elim h
  refine T0_e rfl (eff_call Tryd.func100 nm100 rfl (ev2 rfl rfl) (locate_counted_116_ok [] _ (LtL.nil _) [v1, (.int .i64 p_t.Window), (.int .i64 p_t.Tooth), (.int .i64 p_t.PerVane), (.int .i64 p_t.First), (.int .i64 p_t.Modulus), (.int .i64 p_t.Slack), (.int .i64 p_t.Errors), (.bool p_t.Round)] p_t ⟨v1, ((h2.ext he8).sub (fun _ h => by cases h)), rfl⟩ r14 hr15) ?_)
  rintro _ wd16 ⟨he17, rfl⟩
  have e18 := he8.trans he17
  have e19 := e11.trans he17
  refine T0_q (v := (.tuple #[(.int .i64 r14.1), (.int .i64 r14.2)])) rfl (yl_move rfl) ?_
  refine T0_q (v := (.int .i64 r14.1)) rfl (yl_extract rfl rfl) ?_
  refine T0_q (v := (.int .i64 r14.2)) rfl (yl_extract rfl rfl) ?_
  refine T0_q (v := (.int .i64 r14.1)) rfl (yl_assign rfl) ?_
  refine T0_q (v := (.int .i64 r14.2)) rfl (yl_assign rfl) ?_
  refine T0_nil ?_
  refine hK13 _ _ ?_
  refine WC_seqK fun K20 hK20 => ?_
  refine WC_seqK fun K21 hK21 => ?_
  refine WC_region ?_
  refine T0_q (v := (.int .i64 r14.2)) rfl (yl_move rfl) ?_
  refine T0_q (v := (.int .i64 r14.1)) rfl (yl_move rfl) ?_
  refine T0_q (v := (.bool (decide (0 ≤ r14.1)))) rfl (yl_geq rfl rfl) ?_
  obtain ⟨r22, hr23, h⟩ := bind_elim h
  refine T0_e rfl (eff_call Tryd.func85 nm85 rfl (ev2 rfl rfl) (locate_unless_ok [] _ (LtL.nil _) (decide (0 ≤ r14.1)) 12 r22 hr23) ?_)
  rintro _ wd24 ⟨he25, rfl⟩
  have e26 := e18.trans he25
  have e27 := he17.trans he25
  have e28 := e19.trans he25
  refine T0_e rfl (eff_buildTC (xs := ([r14.2, r22] : List Int)) (cells := [(.int .i64 r14.2), (.int .i64 r22)]) Tryd.underlying164 ei30 rfl (pc_cons rfl rfl (pc_cons rfl rfl pc_nil)) rfl (Elems.cons (cs := [(.int .i64 r14.2)]) rfl (Elems.cons (cs := [(.int .i64 r22)]) rfl Elems.nil)) rfl (hL.chg e28) ?_)
  intro b32 wd29 he30 h31
  have e33 := e26.trans he30
  have e34 := e27.trans he30
  have e35 := e28.trans he30
  obtain ⟨r37, hr38, h⟩ := bind_elim h
  refine T0_e rfl (eff_call Tryd.func84 nm84 rfl (ev1 rfl) (locate_first_ok [] _ (LtL.nil _) (.slice (some ⟨b32, 0, none⟩) 2 2) ([r14.2, r22] : List Int) (h31.sub (fun _ h => by cases h)) r37 hr38) ?_)
  rintro _ wd39 ⟨he40, rfl⟩
  have e41 := e33.trans he40
  have e42 := e34.trans he40
  have e43 := e35.trans he40
  refine T0_q (v := (.int .i64 r37)) rfl (yl_assign rfl) ?_
  refine T0_nil ?_
  refine hK21 _ _ ?_
  refine WC_seqK fun K44 hK44 => ?_
  refine WC_region ?_
  refine T0_q (v := (.int .i64 r37)) rfl (yl_move rfl) ?_
  refine T0_q (v := (.bool (!decide (r37 = 0)))) rfl (yl_neq rfl rfl) ?_
  refine T0_nil ?_
  refine hK44 _ _ ?_
  refine WC_cond (b := (!decide (r37 = 0))) rfl (fun hb45 => ?_) (fun hb45 => ?_)
  · replace h := cond_t hb45 h
    refine WC_seqK fun K46 hK46 => ?_
    refine WC_region ?_
    refine T0_q (v := (.int .i64 r37)) rfl (yl_move rfl) ?_
    refine T0_q (v := (.int .i64 0)) rfl (yl_assign rfl) ?_
    refine T0_q (v := (.int .i64 r37)) rfl (yl_assign rfl) ?_
    refine T0_nil ?_
    refine hK46 _ _ ?_
    refine WC_ret ?_
    replace h := some_out h
    subst h
    exact ⟨[(.int .i64 0), (.int .i64 r37)], ⟨rfl, rfl, trivial⟩, e43, rfl⟩
  · replace h := cond_f hb45 h
    refine WC_skip ?_
    refine hK20 _ _ ?_
    refine WC_seqK fun K47 hK47 => ?_
    refine WC_region ?_
    refine T0_q (v := (.int .i64 r14.1)) rfl (yl_move rfl) ?_
    refine T0_q (v := (.int .i64 r14.1)) rfl (yl_assign rfl) ?_
    refine T0_q (v := (.int .i64 0)) rfl (yl_assign rfl) ?_
    refine T0_nil ?_
    refine hK47 _ _ ?_
    refine WC_ret ?_
    replace h := some_out h
    subst h
    exact ⟨[(.int .i64 r14.1), (.int .i64 0)], ⟨rfl, rfl, trivial⟩, e43, rfl⟩

end Go.Gw
