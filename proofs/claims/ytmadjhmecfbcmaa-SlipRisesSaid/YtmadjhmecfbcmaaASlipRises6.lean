/- The walk of the law SlipRises and what it computes, part 6 of 7: no conditions. -/
import Derived.Test.YtmadjhmecfbcmaaASlipRises5
set_option linter.unusedVariables false
set_option linter.unusedSimpArgs false
section
namespace Go.Proofs.Ytmadjhmecfbcmaa.F
open Go.RowKit Go.Proofs.YtmadjhmecfbcmaaW.PrintWords Go.Proofs.YtmadjhmecfbcmaaW.PrintLast Go.Proofs.YtmadjhmecfbcmaaW.PrintMore
attribute [local go_sem] max2_int min2_int max_two min_two max_three min_three max_four min_four
set_option linter.unusedVariables false
set_option linter.unusedSimpArgs false
set_option maxHeartbeats 8000000
set_option maxRecDepth 100000
def flyballlaw19_works.T3 : Bool × List (List Nat × List Nat) := (true, [([], []), ([0], [0]), ([1, 0], [1]), ([2], [2]), ([2], [2]), ([2], [2]), ([3, 4, 5, 2, 2], [2, 3, 4, 5]), ([6, 2], [2, 6]), ([2, 7], [2, 7]), ([8, 6], [8]), ([9, 9], [9]), ([9], [9]), ([10, 9], [9]), ([10, 11, 12, 12, 9], [9, 10, 11, 12]), ([13, 9], [9]), ([13, 14, 9], [9, 13, 14]), ([9, 15], [9, 15]), ([16, 14], [16]), ([17, 17], [17]), ([18, 17], [17, 18]), ([17, 19], [17, 19]), ([20, 18], [20]), ([21], [21]), ([22, 21, 21], [21, 22]), ([23, 21], [21, 23]), ([21, 24], [21, 24]), ([25, 23], [25]), ([26, 26], [26]), ([27, 26], [26, 27]), ([26, 28], [26, 28]), ([29, 27], [29]), ([30], [30]), ([31, 30, 30], [30, 31]), ([32, 30], [30, 32]), ([30, 33], [30, 33]), ([34, 32], [34]), ([35, 35], [35]), ([36, 35], [35, 36]), ([35, 37], [35, 37]), ([38, 36], [38]), ([39, 39], [39]), ([40, 39], [39]), ([40, 41, 39], [39, 40, 41]), ([39, 42], [39, 42]), ([43, 41], [43]), ([44, 44], [44]), ([45, 44], [44, 45]), ([44, 46], [44, 46]), ([47, 45, 0, 1, 2, 3, 4, 5, 6, 7, 8, 9, 10, 11, 12, 13, 14, 15, 16, 17, 18, 19, 20, 21, 22, 23, 24, 25, 26, 27, 28, 29, 30, 31, 32, 33, 34, 35, 36, 37, 38, 39, 40, 41, 42, 43, 44, 45, 46, 47], [47])])
def flyballlaw19_works.B3 : List Nat := [0, 1, 3, 7, 7, 7, 63, 127, 255, 511, 1023, 1023, 2047, 8191, 16383, 32767, 65535, 131071, 262143, 524287, 1048575, 2097151, 4194303, 8388607, 16777215, 33554431, 67108863, 134217727, 268435455, 536870911, 1073741823, 2147483647, 4294967295, 8589934591, 17179869183, 34359738367, 68719476735, 137438953471, 274877906943, 549755813887, 1099511627775, 2199023255551, 4398046511103, 8796093022207, 17592186044415, 35184372088831, 70368744177663, 140737488355327, 281474976710655]
theorem flyballlaw19_works.tab3 : rtab .any (opsOf Try.f57 3) = flyballlaw19_works.T3 := by kernel_rfl
theorem flyballlaw19_works.bits3 : waitsOk flyballlaw19_works.T3.2 flyballlaw19_works.B3 = true := by kernel_rfl
theorem flyballlaw19_works.calls (k : Nat)  (r : Bool) (w : World) (h : flyballlaw19_works.f k  = some r) (hr_ : r = true) :
  Calls Try.prog 57 #[] w fun e w' => e = .returned (.bool r) ∧ Below w.heap.size w w' := by
 have hu43 := Try.underlying43
 have hfd0_ : ∀ (b : Bool) (x y : Int) (w : World), (Instr.field 43 (.agg #[.bool b, .int .u64 x, .int .u64 y]) 0).run Try.prog w = .ok (.bool b) w := fun _ _ _ _ => by kernel_rfl
 have hfd1_ : ∀ (b : Bool) (x y : Int) (w : World), (Instr.field 43 (.agg #[.bool b, .int .u64 x, .int .u64 y]) 1).run Try.prog w = .ok (.int .u64 x) w := fun _ _ _ _ => by kernel_rfl
 have hfd2_ : ∀ (b : Bool) (x y : Int) (w : World), (Instr.field 43 (.agg #[.bool b, .int .u64 x, .int .u64 y]) 2).run Try.prog w = .ok (.int .u64 y) w := fun _ _ _ _ => by kernel_rfl
 have HB := Aside0.mk (Below.refl w.heap.size w)
 have H := h
 unfold flyballlaw19_works.f at H
 clear h
 obtain ⟨⟨t1559, t1560, t1561⟩, A1, H⟩ := zbs H
 try dsimp only at H
 obtain ⟨⟨t1563, t1564, t1565⟩, A2, H⟩ := zbs H
 try dsimp only at H
 obtain ⟨t1567, A3, H⟩ := zbs H
 try dsimp only at H
 by_cases c4 : t1567 = 4368491638549381120
 ·rw [if_pos c4] at H
  have c4b0 : (t1567 == 4368491638549381120) = true := beq_iff_eq.mpr c4
  have c4b1 : (t1567 != 4368491638549381120) = false := bne_eq_false_iff_eq.mpr c4
  clear c4
  obtain ⟨t1568, A5, H⟩ := zbs H
  try dsimp only at H
  by_cases c6 : t1568 = 4372995238176751616
  ·rw [if_pos c6] at H
   have c6b0 : (t1568 == 4372995238176751616) = true := beq_iff_eq.mpr c6
   have c6b1 : (t1568 != 4372995238176751616) = false := bne_eq_false_iff_eq.mpr c6
   clear c6
   obtain ⟨⟨t1569, t1570, t1571⟩, A7, H⟩ := zbs H
   try dsimp only at H
   obtain ⟨⟨t1572, t1573, t1574⟩, A8, H⟩ := zbs H
   try dsimp only at H
   obtain ⟨t1575, A9, H⟩ := zbs H
   try dsimp only at H
   obtain ⟨t1576, A10, H⟩ := zbs H
   try dsimp only at H
   by_cases c11 : t1575 = t1576
   ·rw [if_pos c11] at H
    have c11b0 : (t1575 == t1576) = true := beq_iff_eq.mpr c11
    have c11b1 : (t1575 != t1576) = false := bne_eq_false_iff_eq.mpr c11
    clear c11
    obtain ⟨t1577, A12, H⟩ := zbs H
    try dsimp only at H
    by_cases c13 : t1577 = 0
    ·rw [if_pos c13] at H
     have c13b0 : (t1577 == 0) = true := beq_iff_eq.mpr c13
     have c13b1 : (t1577 != 0) = false := bne_eq_false_iff_eq.mpr c13
     clear c13
     obtain ⟨y1578, hy1578⟩ : ∃ y_ : List Int, y_ = (([4607182418800017408, 4611686018427387904, 0] : List Int)) := ⟨_, rfl⟩
     replace H : ((slip_Join.f k y1578).bind fun t1581 => (if t1581 = 4611686018427387904 then ((slip_Join.f k ([] : List Int)).bind fun t1582 => (if t1582 = 0 then ((slip_Widen.f k 4607182418800017408 4611686018427387904 (([4616189618054758400] : List Int))).bind fun t1586 => (if t1586 = 4616189618054758400 then ((slip_Widen.f k 4611686018427387904 4607182418800017408 ([] : List Int)).bind fun t1587 => (if t1587 = 4611686018427387904 then ((slip_Good.f k 13830554455654793216).bind fun t1588 => ((pattern_Inf.f k false).bind fun t1589 => (if t1588 = t1589 then ((slip_Good.f k 9223372036854775808).bind fun t1590 => (some (t1590 == 0))) else (some false)))) else (some false))) else (some false))) else (some false))) else (some false))) = some r := by first | (rw [hy1578]; with_reducible exact H) | (have H2_ := (Option.bind_some _ _).symm.trans H; rw [hy1578]; with_reducible exact H2_) | (have H2_ := (Option.bind_some _ _).symm.trans H; with_reducible exact H2_) | with_reducible exact H | (rw [hy1578]; exact H) | exact H
     have Ny1578 := Aside0.mk hy1578
     clear hy1578
     obtain ⟨t1581, A14, H⟩ := zbs H
     try dsimp only at H
     by_cases c15 : t1581 = 4611686018427387904
     ·rw [if_pos c15] at H
      have c15b0 : (t1581 == 4611686018427387904) = true := beq_iff_eq.mpr c15
      have c15b1 : (t1581 != 4611686018427387904) = false := bne_eq_false_iff_eq.mpr c15
      clear c15
      obtain ⟨t1582, A16, H⟩ := zbs H
      try dsimp only at H
      by_cases c17 : t1582 = 0
      ·rw [if_pos c17] at H
       have c17b0 : (t1582 == 0) = true := beq_iff_eq.mpr c17
       have c17b1 : (t1582 != 0) = false := bne_eq_false_iff_eq.mpr c17
       clear c17
       obtain ⟨y1583, hy1583⟩ : ∃ y_ : List Int, y_ = (([4616189618054758400] : List Int)) := ⟨_, rfl⟩
       replace H : ((slip_Widen.f k 4607182418800017408 4611686018427387904 y1583).bind fun t1586 => (if t1586 = 4616189618054758400 then ((slip_Widen.f k 4611686018427387904 4607182418800017408 ([] : List Int)).bind fun t1587 => (if t1587 = 4611686018427387904 then ((slip_Good.f k 13830554455654793216).bind fun t1588 => ((pattern_Inf.f k false).bind fun t1589 => (if t1588 = t1589 then ((slip_Good.f k 9223372036854775808).bind fun t1590 => (some (t1590 == 0))) else (some false)))) else (some false))) else (some false))) = some r := by first | (rw [hy1583]; with_reducible exact H) | (have H2_ := (Option.bind_some _ _).symm.trans H; rw [hy1583]; with_reducible exact H2_) | (have H2_ := (Option.bind_some _ _).symm.trans H; with_reducible exact H2_) | with_reducible exact H | (rw [hy1583]; exact H) | exact H
       have Ny1583 := Aside0.mk hy1583
       clear hy1583
       obtain ⟨t1586, A18, H⟩ := zbs H
       try dsimp only at H
       by_cases c19 : t1586 = 4616189618054758400
       ·rw [if_pos c19] at H
        have c19b0 : (t1586 == 4616189618054758400) = true := beq_iff_eq.mpr c19
        have c19b1 : (t1586 != 4616189618054758400) = false := bne_eq_false_iff_eq.mpr c19
        clear c19
        obtain ⟨t1587, A20, H⟩ := zbs H
        try dsimp only at H
        by_cases c21 : t1587 = 4611686018427387904
        ·rw [if_pos c21] at H
         have c21b0 : (t1587 == 4611686018427387904) = true := beq_iff_eq.mpr c21
         have c21b1 : (t1587 != 4611686018427387904) = false := bne_eq_false_iff_eq.mpr c21
         clear c21
         obtain ⟨t1588, A22, H⟩ := zbs H
         try dsimp only at H
         obtain ⟨t1589, A23, H⟩ := zbs H
         try dsimp only at H
         by_cases c24 : t1588 = t1589
         ·rw [if_pos c24] at H
          have c24b0 : (t1588 == t1589) = true := beq_iff_eq.mpr c24
          have c24b1 : (t1588 != t1589) = false := bne_eq_false_iff_eq.mpr c24
          clear c24
          obtain ⟨t1590, A25, H⟩ := zbs H
          try dsimp only at H
          obtain rfl := Option.some.inj H
          go_enter Try.func57, Try.ntmps57
          try go_wp2_with (first | ((with_reducible refine gtc 37 rfl ?_); refine zgL 3 Try.func37 (span_Make.calls k 0 4607182418800017408 t1559 t1560 t1561 _ A1.out) (h := ?_); rintro w26 hb; replace HB := Aside0.mk (below_step zaB hb); (try clear hb)) | ((with_reducible refine gtd 1 rfl ?_); (try (refine gate_guard (by rfl) ?_; dsimp only)); refine zbx 1 #[.bool false, .int .u64 0, .int .u64 0] 43 (h := ?_); intro gb1562 hg w27 hbox hb; have GW1562 := zkZ hg (zaB (p := Below w.heap.size w _)); replace HB := Aside0.mk (below_step zaB hb); have BK1562 := Aside0.mk (hbox); clear hb hbox hg; refine zu3 BK1562 fun _ _ _ _ _ _ => ?_) | ((with_reducible refine gtc 37 rfl ?_); refine zgL 4 Try.func37 (span_Make.calls k 0 4611686018427387904 t1563 t1564 t1565 _ A2.out) (h := ?_); rintro w29 hb; replace BK1562 := Aside0.mk (blk_below (o := .cells #[.bool t1559, .int .u64 t1560, .int .u64 t1561] 43 (0, 0)) (blk_put (cs := #[.bool t1559, .int .u64 t1560, .int .u64 0]) (blk_put (cs := #[.bool t1559, .int .u64 0, .int .u64 0]) (blk_put BK1562.out 0 _ rfl) 1 _ rfl) 2 _ rfl) hb); replace HB := Aside0.mk (below_step (below_set (below_set (below_set HB.out GW1562.out) GW1562.out) GW1562.out) hb); (try clear hb)) | ((with_reducible refine gtd 2 rfl ?_); (try (refine gate_guard (by rfl) ?_; dsimp only)); refine zbx 2 #[.bool false, .int .u64 0, .int .u64 0] 43 (h := ?_); intro gb1566 hg w30 hbox hb; refine zbn1 HB BK1562 hg hb hbox (c := ?_); clear HB BK1562 hb hbox hg; intro GW1566 NB1562_1566 BK1562 HB BK1566; refine zt1 NB1562_1566 fun _ _ => ?_; refine zu3 BK1566 fun _ _ _ _ _ _ => ?_))
          generalize hW_ : (((w30.setCell ⟨gb1566, 0, none⟩ (.bool t1563)).setCell ⟨gb1566, 1, none⟩ (.int .u64 t1564)).setCell ⟨gb1566, 2, none⟩ (.int .u64 t1565)) = w33
          replace BK1562 := zkg hW_ (zkf (zkf (zkf BK1562.out NB1562_1566.out _) NB1562_1566.out _) NB1562_1566.out _)
          replace BK1566 := zkg hW_ (ob := .cells #[.bool t1563, .int .u64 t1564, .int .u64 t1565] 43 (0, 0)) (blk_put (cs := #[.bool t1563, .int .u64 t1564, .int .u64 0]) (blk_put (cs := #[.bool t1563, .int .u64 0, .int .u64 0]) (blk_put BK1566.out 0 _ rfl) 1 _ rfl) 2 _ rfl)
          replace HB := zkG hW_ (below_set (below_set (below_set HB.out GW1566.out) GW1566.out) GW1566.out)
          clear hW_
          replace BK1562 := Aside0.mk (blk_drew BK1562.out)
          replace BK1566 := Aside0.mk (blk_drew BK1566.out)
          replace HB := Aside0.mk (below_drew1 HB.out)
          refine start_ (n := 49) (S := fun w' => w'.cell? ⟨gb1562, 0, none⟩ = some (.bool t1559) ∧ w'.cell? ⟨gb1562, 1, none⟩ = some (.int .u64 t1560) ∧ w'.cell? ⟨gb1562, 2, none⟩ = some (.int .u64 t1561) ∧ w'.cell? ⟨gb1566, 0, none⟩ = some (.bool t1563) ∧ w'.cell? ⟨gb1566, 1, none⟩ = some (.int .u64 t1564) ∧ w'.cell? ⟨gb1566, 2, none⟩ = some (.int .u64 t1565)) (ds := []) #[false, false, false, false, false, false, false, false, false, false, false, false, false, false, false, false, false, false, false, false, false, false, false, false, false, false, false, false, false, false, false, false, false, false, false, false, false, false, false, false, false, false, false, false, false, false, false, false, false] (by kernel_rfl) rfl rfl (zk3 BK1562 (ze3 BK1566)) (fun hHeld => ?_); refine with_tabW flyballlaw19_works.tab3 flyballlaw19_works.bits3 (fun HT_ HW_ => ?_)
          generalize w33.drew = w34 at BK1562 BK1566 HB hHeld ⊢
          refine zoA 0 5 (h := fun K hK => ?_)
          refine zgA Try.func127 (slip_Round.calls k 4607182418800017408 t1567 _ A3.out) (h := ?_)
          rintro w35 hb
          refine zcn2 HB BK1562 BK1566 hb (c := ?_)
          clear HB BK1562 BK1566 hb
          intro BK1562 BK1566 HB
          refine hK.out _ _ (zk3 BK1562 (ze3 BK1566)) (fun hHeld => ?_)
          clear hK K
          refine znA 5 (h := ?_)
          refine zpA 1 6 (h := ?_)
          refine zpA 2 7 (h := ?_)
          refine ztA 3 8 (h := ?_)
          refine ztA 4 9 (h := ?_)
          refine ztA 5 10 (h := ?_)
          refine zoA 6 11 (h := fun K hK => ?_)
          refine zgA Try.func64 (slip_Do.calls k 5 t1559 t1560 t1561 t1559 t1560 t1561 t1563 t1564 t1565 0 0 t1568 _ A5.out) (h := ?_)
          rintro w36 hb
          refine zcn2 HB BK1562 BK1566 hb (c := ?_)
          clear HB BK1562 BK1566 hb
          intro BK1562 BK1566 HB
          refine hK.out _ _ (zk3 BK1562 (ze3 BK1566)) (fun hHeld => ?_)
          clear hK K
          refine znA 11 (h := ?_)
          refine zpA 7 12 (h := ?_)
          refine zpA 8 13 (h := ?_)
          refine zpA 9 14 (h := ?_)
          refine ztA 11 16 (h := ?_)
          refine zoA 10 15 (h := fun K hK => ?_)
          refine zgA Try.func39 (span_Point.calls k 4607182418800017408 t1569 t1570 t1571 _ A7.out) (h := ?_)
          rintro w37 hb
          refine zcn2 HB BK1562 BK1566 hb (c := ?_)
          clear HB BK1562 BK1566 hb
          intro BK1562 BK1566 HB
          refine hK.out _ _ (zk3 BK1562 (ze3 BK1566)) (fun hHeld => ?_)
          clear hK K
          refine znA 15 (h := ?_)
          refine zoA 12 17 (h := fun K hK => ?_)
          refine zgA Try.func40 (span_All.calls k  t1572 t1573 t1574 _ A8.out) (h := ?_)
          rintro w38 hb
          refine zcn2 HB BK1562 BK1566 hb (c := ?_)
          clear HB BK1562 BK1566 hb
          intro BK1562 BK1566 HB
          refine hK.out _ _ (zk3 BK1562 (ze3 BK1566)) (fun hHeld => ?_)
          clear hK K
          refine znA 17 (h := ?_)
          refine zoA 13 18 (h := fun K hK => ?_)
          refine zgA Try.func64 (slip_Do.calls k 8 t1569 t1570 t1571 t1563 t1564 t1565 t1572 t1573 t1574 0 0 t1575 _ A9.out) (h := ?_)
          rintro w39 hb
          refine zcn2 HB BK1562 BK1566 hb (c := ?_)
          clear HB BK1562 BK1566 hb
          intro BK1562 BK1566 HB
          refine hK.out _ _ (zk3 BK1562 (ze3 BK1566)) (fun hHeld => ?_)
          clear hK K
          refine znA 18 (h := ?_)
          refine zoA 14 19 (h := fun K hK => ?_)
          refine zgA Try.func79 (pattern_Inf.calls k false t1576 _ A10.out) (h := ?_)
          rintro w' ⟨nd, rfl⟩
          refine hK.out _ _ (zk3 BK1562 (ze3 BK1566)) (fun hHeld => ?_)
          clear hK K
          refine znA 19 (h := ?_)
          refine zpA 15 20 (h := ?_)
          refine zpA 16 21 (h := ?_)
          refine zpA 17 22 (h := ?_)
          refine zoA 18 23 (h := fun K hK => ?_)
          refine zgA Try.func127 (slip_Round.calls k 0 t1577 _ A12.out) (h := ?_)
          rintro w40 hb
          refine zcn2 HB BK1562 BK1566 hb (c := ?_)
          clear HB BK1562 BK1566 hb
          intro BK1562 BK1566 HB
          refine hK.out _ _ (zk3 BK1562 (ze3 BK1566)) (fun hHeld => ?_)
          clear hK K
          refine znA 23 (h := ?_)
          refine zpA 19 24 (h := ?_)
          refine zpA 20 25 (h := ?_)
          refine zpA 21 26 (h := ?_)
          refine zoA 22 27 (h := fun K hK => ?_)
          refine Kd.R_lit_step (Kd.int .u64) _ 23 ?hg (N := 27) ?hd (xs := ([4607182418800017408, 4611686018427387904, 0] : List Int)) (inner := [.int .u64 4607182418800017408, .int .u64 4611686018427387904, .int .u64 0]) (ok := fun _ => True) (okp := fun _ => True) ?hr ?hp (fun _ hk => hk) trivial (Below.refl _ _) (Nat.le_refl _) (by simp) ?_; (case hd => rfl); (case hg => rfl); (case hr => first | (go_simp; done) | (go_simp; rfl)); (case hp => exact (Reps.one (show Kd.M (Kd.int .u64) _ _ _ 4607182418800017408 [.int .u64 4607182418800017408] from rfl) (Reps.one (show Kd.M (Kd.int .u64) _ _ _ 4611686018427387904 [.int .u64 4611686018427387904] from rfl) (Reps.one (show Kd.M (Kd.int .u64) _ _ _ 0 [.int .u64 0] from rfl) (Reps.none _ _)))))
          intro v1579 w41 ho42 hb hg_ hnew_
          clear hg_ hnew_
          (first | rw [← Ny1578.out] at ho42 | (simp only [Int.reduceToNat] at ho42; rw [← Ny1578.out] at ho42))
          have HO1580 := Aside0.mk (Kd.R_lower ho42 (below_size zaB))
          replace BK1562 := zkb BK1562 hb
          replace BK1566 := zkb BK1566 hb
          replace HB := zkB HB hb
          clear hb ho42
          obtain ⟨Ao43, co43, eo43⟩ := Kd.R_slice HO1580.out
          (first | subst eo43 | (injection eo43 with f1_ f2_ f3_; have f4_ := f1_.symm; have f5_ := f3_.symm; clear f1_ f2_ f3_; subst f4_; subst f5_))
          refine hK.out _ _ (zk3 BK1562 (ze3 BK1566)) (fun hHeld => ?_)
          clear hK K
          refine znA 27 (h := ?_)
          refine zoA 23 28 (h := fun K hK => ?_)
          refine goes_ Try.func63 (by kernel_rfl) rfl #[.slice Ao43 y1578.length co43] (by rfl) rfl rfl (by (try simp only [List.map_toArray, List.map_cons, List.map_nil]); first | done | rfl | (simp only [List.length_drop, List.length_take]; rfl)) ?_
          with_reducible refine (slip_Join.calls k _ _ y1578 t1581 _ ?side1 ?side2 A14.out).mono ?_
          (case side1 => repeat (first | exact (Kd.R_reads' HO1580.out).2.2 | (with_reducible refine Kd.C_alloc ?_ _) | (with_reducible refine Kd.C_drewN ?_ _) | (with_reducible refine Kd.C_drew ?_)))
          (case side2 => exact (Kd.R_reads' HO1580.out).2.1)
          rintro e w44 ⟨rfl, hb⟩
          refine ⟨_, rfl, ?_⟩
          replace HO1580 := Aside0.mk (Kd.R_below (zRW HO1580.out) hb)
          refine zcn2 HB BK1562 BK1566 hb (c := ?_)
          clear HB BK1562 BK1566 hb
          intro BK1562 BK1566 HB
          refine hK.out _ _ (zk3 BK1562 (ze3 BK1566)) (fun hHeld => ?_)
          clear hK K
          refine znA 28 (h := ?_)
          refine zpA 24 29 (h := ?_)
          refine zpA 25 30 (h := ?_)
          refine zpA 26 31 (h := ?_)
          refine zoA 27 32 (h := fun K hK => ?_)
          refine goes_ Try.func63 (by kernel_rfl) rfl #[.slice none 0 0] (by rfl) rfl rfl (by (try simp only [List.map_toArray, List.map_cons, List.map_nil]); first | done | rfl | (simp only [List.length_drop, List.length_take]; rfl)) ?_
          refine (slip_Join.calls k _ _ ([] : List Int) t1582 _ ?side1 ?side2 A16.out).mono ?_
          (case side1 => exact Kd.C_nil _ _)
          (case side2 => exact Nat.le_refl _)
          rintro e w45 ⟨rfl, hb⟩
          refine ⟨_, rfl, ?_⟩
          replace HO1580 := Aside0.mk (Kd.R_below (zRW HO1580.out) hb)
          refine zcn2 HB BK1562 BK1566 hb (c := ?_)
          clear HB BK1562 BK1566 hb
          intro BK1562 BK1566 HB
          refine hK.out _ _ (zk3 BK1562 (ze3 BK1566)) (fun hHeld => ?_)
          clear hK K
          refine znA 32 (h := ?_)
          refine zpA 28 33 (h := ?_)
          refine zpA 29 34 (h := ?_)
          refine zpA 30 35 (h := ?_)
          refine zoA 31 36 (h := fun K hK => ?_)
          refine Kd.R_lit_step (Kd.int .u64) _ 23 ?hg (N := 36) ?hd (xs := ([4616189618054758400] : List Int)) (inner := [.int .u64 4616189618054758400]) (ok := fun _ => True) (okp := fun _ => True) ?hr ?hp (fun _ hk => hk) trivial (Below.refl _ _) (Nat.le_refl _) (by simp) ?_; (case hd => rfl); (case hg => rfl); (case hr => first | (go_simp; done) | (go_simp; rfl)); (case hp => exact (Reps.one (show Kd.M (Kd.int .u64) _ _ _ 4616189618054758400 [.int .u64 4616189618054758400] from rfl) (Reps.none _ _)))
          intro v1584 w46 ho47 hb hg_ hnew_
          clear hg_ hnew_
          (first | rw [← Ny1583.out] at ho47 | (simp only [Int.reduceToNat] at ho47; rw [← Ny1583.out] at ho47))
          have HO1585 := Aside0.mk (Kd.R_lower (Kd.R_new' ho47 (Kd.R_lt (zRW HO1580.out))) (below_size zaB))
          replace HO1580 := Aside0.mk (Kd.R_elder' (zRW HO1580.out) (Kd.R_base ho47) hb)
          replace BK1562 := zkb BK1562 hb
          replace BK1566 := zkb BK1566 hb
          replace HB := zkB HB hb
          clear hb ho47
          obtain ⟨Ao48, co48, eo48⟩ := Kd.R_slice HO1585.out
          (first | subst eo48 | (injection eo48 with f1_ f2_ f3_; have f4_ := f1_.symm; have f5_ := f3_.symm; clear f1_ f2_ f3_; subst f4_; subst f5_))
          refine hK.out _ _ (zk3 BK1562 (ze3 BK1566)) (fun hHeld => ?_)
          clear hK K
          refine znA 36 (h := ?_)
          refine zoA 32 37 (h := fun K hK => ?_)
          refine goes_ Try.func60 (by kernel_rfl) rfl #[.int .u64 4607182418800017408, .int .u64 4611686018427387904, .slice Ao48 y1583.length co48] (by rfl) rfl rfl (by (try simp only [List.map_toArray, List.map_cons, List.map_nil]); first | done | rfl | (simp only [List.length_drop, List.length_take]; rfl)) ?_
          with_reducible refine (slip_Widen.calls k 4607182418800017408 4611686018427387904 _ _ y1583 t1586 _ ?side1 ?side2 A18.out).mono ?_
          (case side1 => repeat (first | exact (Kd.R_reads' HO1585.out).2.2 | (with_reducible refine Kd.C_alloc ?_ _) | (with_reducible refine Kd.C_drewN ?_ _) | (with_reducible refine Kd.C_drew ?_)))
          (case side2 => exact (Kd.R_reads' HO1585.out).2.1)
          rintro e w' ⟨rfl, ⟨nd, rfl⟩⟩
          refine ⟨_, rfl, ?_⟩
          refine hK.out _ _ (zk3 BK1562 (ze3 BK1566)) (fun hHeld => ?_)
          clear hK K
          refine znA 37 (h := ?_)
          refine zpA 33 38 (h := ?_)
          refine zpA 34 39 (h := ?_)
          refine zpA 35 40 (h := ?_)
          refine zoA 36 41 (h := fun K hK => ?_)
          refine goes_ Try.func60 (by kernel_rfl) rfl #[.int .u64 4611686018427387904, .int .u64 4607182418800017408, .slice none 0 0] (by rfl) rfl rfl (by (try simp only [List.map_toArray, List.map_cons, List.map_nil]); first | done | rfl | (simp only [List.length_drop, List.length_take]; rfl)) ?_
          refine (slip_Widen.calls k 4611686018427387904 4607182418800017408 _ _ ([] : List Int) t1587 _ ?side1 ?side2 A20.out).mono ?_
          (case side1 => exact Kd.C_nil _ _)
          (case side2 => exact Nat.le_refl _)
          rintro e w' ⟨rfl, ⟨nd, rfl⟩⟩
          refine ⟨_, rfl, ?_⟩
          refine hK.out _ _ (zk3 BK1562 (ze3 BK1566)) (fun hHeld => ?_)
          clear hK K
          refine znA 41 (h := ?_)
          refine zpA 37 42 (h := ?_)
          refine zpA 38 43 (h := ?_)
          refine zpA 39 44 (h := ?_)
          refine zoA 40 45 (h := fun K hK => ?_)
          refine zgA Try.func61 (slip_Good.calls k 13830554455654793216 t1588 _ A22.out) (h := ?_)
          rintro w' ⟨nd, rfl⟩
          refine hK.out _ _ (zk3 BK1562 (ze3 BK1566)) (fun hHeld => ?_)
          clear hK K
          refine znA 45 (h := ?_)
          refine zoA 41 46 (h := fun K hK => ?_)
          refine zgA Try.func79 (pattern_Inf.calls k false t1589 _ A23.out) (h := ?_)
          rintro w' ⟨nd, rfl⟩
          refine hK.out _ _ (zk3 BK1562 (ze3 BK1566)) (fun hHeld => ?_)
          clear hK K
          refine znA 46 (h := ?_)
          refine zpA 42 47 (h := ?_)
          refine zpA 43 48 (h := ?_)
          refine zpA 44 49 (h := ?_)
          refine zoA 45 50 (h := fun K hK => ?_)
          refine zgA Try.func61 (slip_Good.calls k 9223372036854775808 t1590 _ A25.out) (h := ?_)
          rintro w' ⟨nd, rfl⟩
          refine hK.out _ _ (zk3 BK1562 (ze3 BK1566)) (fun hHeld => ?_)
          clear hK K
          refine znA 50 (h := ?_)
          refine zpA 46 51 (h := ?_)
          refine zpA 47 52 (h := ?_)
          refine zpA 48 0 (h := ?_)
          refine done_ (done_of HT_.out (by kernel_rfl)) ?_
          try go_wp2
          go_ret
          exact ⟨zaE, zaB⟩
         rw [if_neg c24] at H
         have c24b0 : (t1588 == t1589) = false := beq_eq_false_iff_ne.mpr c24
         have c24b1 : (t1588 != t1589) = true := bne_iff_ne.mpr c24
         subst hr_
         cases H
        rw [if_neg c21] at H
        have c21b0 : (t1587 == 4611686018427387904) = false := beq_eq_false_iff_ne.mpr c21
        have c21b1 : (t1587 != 4611686018427387904) = true := bne_iff_ne.mpr c21
        subst hr_
        cases H
       rw [if_neg c19] at H
       have c19b0 : (t1586 == 4616189618054758400) = false := beq_eq_false_iff_ne.mpr c19
       have c19b1 : (t1586 != 4616189618054758400) = true := bne_iff_ne.mpr c19
       subst hr_
       cases H
      rw [if_neg c17] at H
      have c17b0 : (t1582 == 0) = false := beq_eq_false_iff_ne.mpr c17
      have c17b1 : (t1582 != 0) = true := bne_iff_ne.mpr c17
      subst hr_
      cases H
     rw [if_neg c15] at H
     have c15b0 : (t1581 == 4611686018427387904) = false := beq_eq_false_iff_ne.mpr c15
     have c15b1 : (t1581 != 4611686018427387904) = true := bne_iff_ne.mpr c15
     subst hr_
     cases H
    rw [if_neg c13] at H
    have c13b0 : (t1577 == 0) = false := beq_eq_false_iff_ne.mpr c13
    have c13b1 : (t1577 != 0) = true := bne_iff_ne.mpr c13
    subst hr_
    cases H
   rw [if_neg c11] at H
   have c11b0 : (t1575 == t1576) = false := beq_eq_false_iff_ne.mpr c11
   have c11b1 : (t1575 != t1576) = true := bne_iff_ne.mpr c11
   subst hr_
   cases H
  rw [if_neg c6] at H
  have c6b0 : (t1568 == 4372995238176751616) = false := beq_eq_false_iff_ne.mpr c6
  have c6b1 : (t1568 != 4372995238176751616) = true := bne_iff_ne.mpr c6
  subst hr_
  cases H
 rw [if_neg c4] at H
 have c4b0 : (t1567 == 4368491638549381120) = false := beq_eq_false_iff_ne.mpr c4
 have c4b1 : (t1567 != 4368491638549381120) = true := bne_iff_ne.mpr c4
 subst hr_
 cases H
def flyballlaw19_SlipRises.T10 : Bool × List (List Nat × List Nat) := (true, [([], []), ([], []), ([], []), ([1, 2], [1, 2]), ([3], [3]), ([], []), ([], []), ([5, 6], [5, 6]), ([7, 4], [7]), ([], []), ([], []), ([9, 10], [9, 10]), ([11, 8], [11]), ([], []), ([], []), ([13, 14], [13, 14]), ([15, 12], [15]), ([], []), ([], []), ([17, 18], [17, 18]), ([19, 16], [19]), ([0, 4, 8, 12, 16, 20, 20], [0, 4, 8, 12, 16, 20]), ([21, 21, 0, 1, 2, 3, 4, 5, 6, 7, 8, 9, 10, 11, 12, 13, 14, 15, 16, 17, 18, 19, 20, 21], [21])])
def flyballlaw19_SlipRises.B10 : List Nat := [0, 0, 0, 6, 14, 0, 0, 96, 254, 0, 0, 1536, 4094, 0, 0, 24576, 65534, 0, 0, 393216, 1048574, 2097151, 4194303]
theorem flyballlaw19_SlipRises.tab10 : rtab .any (opsOf Try.f15 10) = flyballlaw19_SlipRises.T10 := by kernel_rfl
theorem flyballlaw19_SlipRises.bits10 : waitsOk flyballlaw19_SlipRises.T10.2 flyballlaw19_SlipRises.B10 = true := by kernel_rfl
theorem flyballlaw19_SlipRises.calls (k : Nat) (a0 : Int) (a1_0 : Bool) (a1_1 : Int) (a1_2 : Int) (a2_0 : Bool) (a2_1 : Int) (a2_2 : Int) (a3_0 : Bool) (a3_1 : Int) (a3_2 : Int) (a4_0 : Bool) (a4_1 : Int) (a4_2 : Int) (a5 : Int) (a6 : Int) (a7 : Int) (r : Bool) (w : World) (h : flyballlaw19_SlipRises.f k a0 a1_0 a1_1 a1_2 a2_0 a2_1 a2_2 a3_0 a3_1 a3_2 a4_0 a4_1 a4_2 a5 a6 a7 = some r) (hr_ : r = true) :
  Calls Try.prog 15 #[.int .u8 a0, .agg #[.bool a1_0, .int .u64 a1_1, .int .u64 a1_2], .agg #[.bool a2_0, .int .u64 a2_1, .int .u64 a2_2], .agg #[.bool a3_0, .int .u64 a3_1, .int .u64 a3_2], .agg #[.bool a4_0, .int .u64 a4_1, .int .u64 a4_2], .int .u64 a5, .int .u64 a6, .int .u64 a7] w fun e w' => e = .returned (.bool r) ∧ Below w.heap.size w w' := by
 have hu43 := Try.underlying43
 have hfd0_ : ∀ (b : Bool) (x y : Int) (w : World), (Instr.field 43 (.agg #[.bool b, .int .u64 x, .int .u64 y]) 0).run Try.prog w = .ok (.bool b) w := fun _ _ _ _ => by kernel_rfl
 have hfd1_ : ∀ (b : Bool) (x y : Int) (w : World), (Instr.field 43 (.agg #[.bool b, .int .u64 x, .int .u64 y]) 1).run Try.prog w = .ok (.int .u64 x) w := fun _ _ _ _ => by kernel_rfl
 have hfd2_ : ∀ (b : Bool) (x y : Int) (w : World), (Instr.field 43 (.agg #[.bool b, .int .u64 x, .int .u64 y]) 2).run Try.prog w = .ok (.int .u64 y) w := fun _ _ _ _ => by kernel_rfl
 have HB := Aside0.mk (Below.refl w.heap.size w)
 have H := h
 unfold flyballlaw19_SlipRises.f at H
 clear h
 obtain ⟨t1619, A9, H⟩ := zbs H
 try dsimp only at H
 by_cases c10 : t1619 = true
 ·subst c10
  replace H := zit H
  obtain ⟨y1620, hy1620⟩ : ∃ y_ : List (S43), y_ = (([(⟨a1_0, a1_1, a1_2⟩ : S43)] : List (S43))) := ⟨_, rfl⟩
  replace H : ((span_Join.f k y1620).bind fun bt1623 => ((span_Join.f k (([(⟨a2_0, a2_1, a2_2⟩ : S43)] : List (S43)))).bind fun bt1630 => ((span_Join.f k (([(⟨a3_0, a3_1, a3_2⟩ : S43)] : List (S43)))).bind fun bt1637 => (if bt1623.1 = true then (flyballlaw19_SlipRises.j0 k a0 a5 a6 a7 true true a1_0 a1_1 a1_2 a2_0 a2_1 a2_2 a3_0 a3_1 a3_2 a4_0 a4_1 a4_2) else (if bt1630.1 = true then (flyballlaw19_SlipRises.j0 k a0 a5 a6 a7 true true a1_0 a1_1 a1_2 a2_0 a2_1 a2_2 a3_0 a3_1 a3_2 a4_0 a4_1 a4_2) else (flyballlaw19_SlipRises.j0 k a0 a5 a6 a7 true bt1637.1 a1_0 a1_1 a1_2 a2_0 a2_1 a2_2 a3_0 a3_1 a3_2 a4_0 a4_1 a4_2)))))) = some r := by first | (rw [hy1620]; with_reducible exact H) | (have H2_ := (Option.bind_some _ _).symm.trans H; rw [hy1620]; with_reducible exact H2_) | (have H2_ := (Option.bind_some _ _).symm.trans H; with_reducible exact H2_) | with_reducible exact H | (rw [hy1620]; exact H) | exact H
  have Ny1620 := Aside0.mk hy1620
  clear hy1620
  obtain ⟨⟨t1623, t1624, t1625⟩, A11, H⟩ := zbs H
  try dsimp only at H
  obtain ⟨y1627, hy1627⟩ : ∃ y_ : List (S43), y_ = (([(⟨a2_0, a2_1, a2_2⟩ : S43)] : List (S43))) := ⟨_, rfl⟩
  replace H : ((span_Join.f k y1627).bind fun bt1630 => ((span_Join.f k (([(⟨a3_0, a3_1, a3_2⟩ : S43)] : List (S43)))).bind fun bt1637 => (if t1623 = true then (flyballlaw19_SlipRises.j0 k a0 a5 a6 a7 true true a1_0 a1_1 a1_2 a2_0 a2_1 a2_2 a3_0 a3_1 a3_2 a4_0 a4_1 a4_2) else (if bt1630.1 = true then (flyballlaw19_SlipRises.j0 k a0 a5 a6 a7 true true a1_0 a1_1 a1_2 a2_0 a2_1 a2_2 a3_0 a3_1 a3_2 a4_0 a4_1 a4_2) else (flyballlaw19_SlipRises.j0 k a0 a5 a6 a7 true bt1637.1 a1_0 a1_1 a1_2 a2_0 a2_1 a2_2 a3_0 a3_1 a3_2 a4_0 a4_1 a4_2))))) = some r := by first | (rw [hy1627]; with_reducible exact H) | (have H2_ := (Option.bind_some _ _).symm.trans H; rw [hy1627]; with_reducible exact H2_) | (have H2_ := (Option.bind_some _ _).symm.trans H; with_reducible exact H2_) | with_reducible exact H | (rw [hy1627]; exact H) | exact H
  have Ny1627 := Aside0.mk hy1627
  clear hy1627
  obtain ⟨⟨t1630, t1631, t1632⟩, A12, H⟩ := zbs H
  try dsimp only at H
  obtain ⟨y1634, hy1634⟩ : ∃ y_ : List (S43), y_ = (([(⟨a3_0, a3_1, a3_2⟩ : S43)] : List (S43))) := ⟨_, rfl⟩
  replace H : ((span_Join.f k y1634).bind fun bt1637 => (if t1623 = true then (flyballlaw19_SlipRises.j0 k a0 a5 a6 a7 true true a1_0 a1_1 a1_2 a2_0 a2_1 a2_2 a3_0 a3_1 a3_2 a4_0 a4_1 a4_2) else (if t1630 = true then (flyballlaw19_SlipRises.j0 k a0 a5 a6 a7 true true a1_0 a1_1 a1_2 a2_0 a2_1 a2_2 a3_0 a3_1 a3_2 a4_0 a4_1 a4_2) else (flyballlaw19_SlipRises.j0 k a0 a5 a6 a7 true bt1637.1 a1_0 a1_1 a1_2 a2_0 a2_1 a2_2 a3_0 a3_1 a3_2 a4_0 a4_1 a4_2)))) = some r := by first | (rw [hy1634]; with_reducible exact H) | (have H2_ := (Option.bind_some _ _).symm.trans H; rw [hy1634]; with_reducible exact H2_) | (have H2_ := (Option.bind_some _ _).symm.trans H; with_reducible exact H2_) | with_reducible exact H | (rw [hy1634]; exact H) | exact H
  have Ny1634 := Aside0.mk hy1634
  clear hy1634
  obtain ⟨⟨t1637, t1638, t1639⟩, A13, H⟩ := zbs H
  try dsimp only at H
  have HC14 := Aside0.mk H
  clear H
  go_enter Try.func15, Try.ntmps15
  go_upto_region 7 with (first | ((with_reducible refine gtd 9 rfl ?_); refine zbx 9 #[.bool a1_0, .int .u64 a1_1, .int .u64 a1_2] 43 (h := ?_); intro gb1615 hg w15 hbox hb; have GW1615 := zkZ hg (zaB (p := Below w.heap.size w _)); replace HB := Aside0.mk (below_step zaB hb); have BK1615 := Aside0.mk (hbox); clear hb hbox hg) | ((with_reducible refine gtd 10 rfl ?_); refine zbx 10 #[.bool a2_0, .int .u64 a2_1, .int .u64 a2_2] 43 (h := ?_); intro gb1616 hg w16 hbox hb; refine zbn1 HB BK1615 hg hb hbox (c := ?_); clear HB BK1615 hb hbox hg; intro GW1616 NB1615_1616 BK1615 HB BK1616) | ((with_reducible refine gtd 11 rfl ?_); refine zbx 11 #[.bool a3_0, .int .u64 a3_1, .int .u64 a3_2] 43 (h := ?_); intro gb1617 hg w17 hbox hb; refine zbn2 HB BK1615 BK1616 hg hb hbox (c := ?_); clear HB BK1615 BK1616 hb hbox hg; intro GW1617 NB1615_1617 NB1616_1617 BK1615 BK1616 HB BK1617) | ((with_reducible refine gtd 12 rfl ?_); refine zbx 12 #[.bool a4_0, .int .u64 a4_1, .int .u64 a4_2] 43 (h := ?_); intro gb1618 hg w18 hbox hb; refine zbn3 HB BK1615 BK1616 BK1617 hg hb hbox (c := ?_); clear HB BK1615 BK1616 BK1617 hb hbox hg; intro GW1618 NB1615_1618 NB1616_1618 NB1617_1618 BK1615 BK1616 BK1617 HB BK1618) | ((with_reducible refine gtc 57 rfl ?_); refine zgL 23 Try.func57 (flyballlaw19_works.calls k  true _ A9.out rfl) (h := ?_); rintro w19 hb; refine zcn4 HB BK1615 BK1616 BK1617 BK1618 hb (c := ?_); clear HB BK1615 BK1616 BK1617 BK1618 hb; intro BK1615 BK1616 BK1617 BK1618 HB; refine zt3 NB1615_1616 NB1615_1617 NB1615_1618 fun _ _ _ _ _ _ => ?_; refine zu3 BK1615 fun z23_0 z23_1 z23_2 f23_0 f23_1 f23_2 => ?_) | ((with_reducible refine gtd 27 rfl ?_); refine Kd.R_lit k43 _ 43 ?hg (N := 27) ?hd (xs := ([(⟨a1_0, a1_1, a1_2⟩ : S43)] : List (S43))) (inner := [.bool a1_0, .int .u64 a1_1, .int .u64 a1_2]) (ok := fun _ => True) (okp := fun _ => True) ?hr ?hp (fun _ hk => hk) trivial (Below.refl _ _) (Nat.le_refl _) (by simp) ?_; (case hd => rfl); (case hg => rfl); (case hr => first | (go_simp; done) | (go_simp; rfl)); (case hp => exact (Reps.c3 (show Kd.M k43 _ _ _ (⟨a1_0, a1_1, a1_2⟩ : S43) [.bool a1_0, .int .u64 a1_1, .int .u64 a1_2] from (k43_mkM _ _ _ (⟨a1_0, a1_1, a1_2⟩ : S43) )) (Reps.none _ _))); intro v1621 w24 ho25 hb hg_ hnew_; clear hg_ hnew_; (first | rw [← Ny1620.out] at ho25 | (simp only [Int.reduceToNat] at ho25; rw [← Ny1620.out] at ho25)); have HO1622 := Aside0.mk (Kd.R_lower (Kd.R_newB (Kd.R_newB (Kd.R_newB (Kd.R_newB ho25 (g := gb1615) (o := .cells #[.bool a1_0, .int .u64 a1_1, .int .u64 a1_2] 43 (0, 0)) (zkq BK1615)) (g := gb1616) (o := .cells #[.bool a2_0, .int .u64 a2_1, .int .u64 a2_2] 43 (0, 0)) (zkq BK1616)) (g := gb1617) (o := .cells #[.bool a3_0, .int .u64 a3_1, .int .u64 a3_2] 43 (0, 0)) (zkq BK1617)) (g := gb1618) (o := .cells #[.bool a4_0, .int .u64 a4_1, .int .u64 a4_2] 43 (0, 0)) (zkq BK1618)) (below_size zaB)); replace BK1615 := zkb BK1615 hb; replace BK1616 := zkb BK1616 hb; replace BK1617 := zkb BK1617 hb; replace BK1618 := zkb BK1618 hb; replace HB := zkB HB hb; clear hb ho25; obtain ⟨Ao26, co26, eo26⟩ := Kd.R_slice HO1622.out; subst eo26) | ((with_reducible refine gtc 45 rfl ?_); refine goesL_ (some 28) rfl rfl Try.func45 (by kernel_rfl) rfl #[.slice Ao26 y1620.length co26] rfl (by (try simp only [List.map_toArray, List.map_cons, List.map_nil]); first | done | rfl | (simp only [List.length_drop, List.length_take]; rfl)) ?_; (with_reducible refine (span_Join.calls k _ _ y1620 t1623 t1624 t1625 _ ?side1 ?side2 A11.out).mono ?_); (case side1 => repeat (first | exact (Kd.R_reads' HO1622.out).2.2 | (with_reducible refine Kd.C_alloc ?_ _) | (with_reducible refine Kd.C_drewN ?_ _) | (with_reducible refine Kd.C_drew ?_))); (case side2 => exact (Kd.R_reads' HO1622.out).2.1); rintro e w27 ⟨rfl, hb⟩; refine ⟨_, rfl, ?_⟩; replace HO1622 := Aside0.mk (Kd.R_below (zRW HO1622.out) hb); refine zcn4 HB BK1615 BK1616 BK1617 BK1618 hb (c := ?_); clear HB BK1615 BK1616 BK1617 BK1618 hb; intro BK1615 BK1616 BK1617 BK1618 HB) | ((with_reducible refine gtd 18 rfl ?_); refine zbx 18 #[.bool false, .int .u64 0, .int .u64 0] 43 (h := ?_); intro gb1626 hg w28 hbox hb; have GW1626 := zkz HB hg; have NB1615_1626 := zkl BK1615 hg; have NB1616_1626 := zkl BK1616 hg; have NB1617_1626 := zkl BK1617 hg; have NB1618_1626 := zkl BK1618 hg; replace HO1622 := Aside0.mk (Kd.R_below (Kd.R_elderB (zRW HO1622.out) gb1626 (Nat.le_of_eq hg.symm)) hb); replace BK1615 := zkb BK1615 hb; replace BK1616 := zkb BK1616 hb; replace BK1617 := zkb BK1617 hb; replace BK1618 := zkb BK1618 hb; replace HB := zkB HB hb; have BK1626 := Aside0.mk (hbox); clear hb hbox hg; refine zt4 NB1615_1626 NB1616_1626 NB1617_1626 NB1618_1626 fun _ _ _ _ _ _ _ _ => ?_; refine zu3 BK1626 fun z33_0 z33_1 z33_2 f33_0 f33_1 f33_2 => ?_; refine zt2 NB1616_1617 NB1616_1618 fun _ _ _ _ => ?_; refine zu3 BK1616 fun z36_0 z36_1 z36_2 f36_0 f36_1 f36_2 => ?_) | ((with_reducible refine gtd 30 rfl ?_); refine Kd.R_lit k43 _ 43 ?hg (N := 30) ?hd (xs := ([(⟨a2_0, a2_1, a2_2⟩ : S43)] : List (S43))) (inner := [.bool a2_0, .int .u64 a2_1, .int .u64 a2_2]) (ok := fun _ => True) (okp := fun _ => True) ?hr ?hp (fun _ hk => hk) trivial (Below.refl _ _) (Nat.le_refl _) (by simp) ?_; (case hd => rfl); (case hg => rfl); (case hr => first | (go_simp; done) | (go_simp; rfl)); (case hp => exact (Reps.c3 (show Kd.M k43 _ _ _ (⟨a2_0, a2_1, a2_2⟩ : S43) [.bool a2_0, .int .u64 a2_1, .int .u64 a2_2] from (k43_mkM _ _ _ (⟨a2_0, a2_1, a2_2⟩ : S43) )) (Reps.none _ _))); intro v1628 w37 ho38 hb hg_ hnew_; clear hg_ hnew_; (first | rw [← Ny1627.out] at ho38 | (simp only [Int.reduceToNat] at ho38; rw [← Ny1627.out] at ho38)); have HO1629 := Aside0.mk (Kd.R_lower (Kd.R_newB (Kd.R_newB (Kd.R_newB (Kd.R_newB (Kd.R_newB (Kd.R_new' ho38 (Kd.R_lt (by (with_reducible repeat (first | apply Kd.R_alloc | apply Kd.R_drewN | apply Kd.R_drew)); exact (Kd.R_mono (Kd.R_far (p := ⟨gb1626, 2, none⟩) (Kd.R_far (p := ⟨gb1626, 1, none⟩) (Kd.R_far (p := ⟨gb1626, 0, none⟩) (Kd.R_mono HO1622.out (fun k_ hk => (⟨hk, hk.2⟩ : _ ∧ k_ ≠ gb1626))) (fun _ hk => hk.2) (.bool t1623)) (fun _ hk => hk.2) (.int .u64 t1624)) (fun _ hk => hk.2) (.int .u64 t1625)) (fun _ h_ => h_.1))))) (g := gb1615) (o := .cells #[.bool a1_0, .int .u64 a1_1, .int .u64 a1_2] 43 (0, 0)) (zkf (zkf (zkf (zkq BK1615) NB1615_1626.out _) NB1615_1626.out _) NB1615_1626.out _)) (g := gb1616) (o := .cells #[.bool a2_0, .int .u64 a2_1, .int .u64 a2_2] 43 (0, 0)) (zkf (zkf (zkf (zkq BK1616) NB1616_1626.out _) NB1616_1626.out _) NB1616_1626.out _)) (g := gb1617) (o := .cells #[.bool a3_0, .int .u64 a3_1, .int .u64 a3_2] 43 (0, 0)) (zkf (zkf (zkf (zkq BK1617) NB1617_1626.out _) NB1617_1626.out _) NB1617_1626.out _)) (g := gb1618) (o := .cells #[.bool a4_0, .int .u64 a4_1, .int .u64 a4_2] 43 (0, 0)) (zkf (zkf (zkf (zkq BK1618) NB1618_1626.out _) NB1618_1626.out _) NB1618_1626.out _)) (g := gb1626) (o := .cells #[.bool t1623, .int .u64 t1624, .int .u64 t1625] 43 (0, 0)) (blk_put (cs := #[.bool t1623, .int .u64 t1624, .int .u64 0]) (blk_put (cs := #[.bool t1623, .int .u64 0, .int .u64 0]) (blk_put (zkq BK1626) 0 _ rfl) 1 _ rfl) 2 _ rfl)) (below_size zaB)); replace HO1622 := Aside0.mk (Kd.R_elder' (by (with_reducible repeat (first | apply Kd.R_alloc | apply Kd.R_drewN | apply Kd.R_drew)); exact (Kd.R_mono (Kd.R_far (p := ⟨gb1626, 2, none⟩) (Kd.R_far (p := ⟨gb1626, 1, none⟩) (Kd.R_far (p := ⟨gb1626, 0, none⟩) (Kd.R_mono HO1622.out (fun k_ hk => (⟨hk, hk.2⟩ : _ ∧ k_ ≠ gb1626))) (fun _ hk => hk.2) (.bool t1623)) (fun _ hk => hk.2) (.int .u64 t1624)) (fun _ hk => hk.2) (.int .u64 t1625)) (fun _ h_ => h_.1))) (Kd.R_base ho38) hb); replace BK1615 := Aside0.mk (blk_below (zkf (zkf (zkf BK1615.out NB1615_1626.out _) NB1615_1626.out _) NB1615_1626.out _) hb); replace BK1616 := Aside0.mk (blk_below (zkf (zkf (zkf BK1616.out NB1616_1626.out _) NB1616_1626.out _) NB1616_1626.out _) hb); replace BK1617 := Aside0.mk (blk_below (zkf (zkf (zkf BK1617.out NB1617_1626.out _) NB1617_1626.out _) NB1617_1626.out _) hb); replace BK1618 := Aside0.mk (blk_below (zkf (zkf (zkf BK1618.out NB1618_1626.out _) NB1618_1626.out _) NB1618_1626.out _) hb); replace BK1626 := Aside0.mk (blk_below (o := .cells #[.bool t1623, .int .u64 t1624, .int .u64 t1625] 43 (0, 0)) (blk_put (cs := #[.bool t1623, .int .u64 t1624, .int .u64 0]) (blk_put (cs := #[.bool t1623, .int .u64 0, .int .u64 0]) (blk_put BK1626.out 0 _ rfl) 1 _ rfl) 2 _ rfl) hb); replace HB := Aside0.mk (below_step (below_set (below_set (below_set HB.out GW1626.out) GW1626.out) GW1626.out) hb); clear hb ho38; obtain ⟨Ao39, co39, eo39⟩ := Kd.R_slice HO1629.out; subst eo39) | ((with_reducible refine gtc 45 rfl ?_); refine goesL_ (some 31) rfl rfl Try.func45 (by kernel_rfl) rfl #[.slice Ao39 y1627.length co39] rfl (by (try simp only [List.map_toArray, List.map_cons, List.map_nil]); first | done | rfl | (simp only [List.length_drop, List.length_take]; rfl)) ?_; (with_reducible refine (span_Join.calls k _ _ y1627 t1630 t1631 t1632 _ ?side1 ?side2 A12.out).mono ?_); (case side1 => repeat (first | exact (Kd.R_reads' HO1629.out).2.2 | (with_reducible refine Kd.C_alloc ?_ _) | (with_reducible refine Kd.C_drewN ?_ _) | (with_reducible refine Kd.C_drew ?_))); (case side2 => exact (Kd.R_reads' HO1629.out).2.1); rintro e w40 ⟨rfl, hb⟩; refine ⟨_, rfl, ?_⟩; replace HO1622 := Aside0.mk (Kd.R_below (zRW HO1622.out) hb); replace HO1629 := Aside0.mk (Kd.R_below (zRW HO1629.out) hb); refine zcn5 HB BK1615 BK1616 BK1617 BK1618 BK1626 hb (c := ?_); clear HB BK1615 BK1616 BK1617 BK1618 BK1626 hb; intro BK1615 BK1616 BK1617 BK1618 BK1626 HB) | ((with_reducible refine gtd 19 rfl ?_); refine zbx 19 #[.bool false, .int .u64 0, .int .u64 0] 43 (h := ?_); intro gb1633 hg w41 hbox hb; have GW1633 := zkz HB hg; have NB1615_1633 := zkl BK1615 hg; have NB1616_1633 := zkl BK1616 hg; have NB1617_1633 := zkl BK1617 hg; have NB1618_1633 := zkl BK1618 hg; have NB1626_1633 := zkl BK1626 hg; replace HO1622 := Aside0.mk (Kd.R_below (Kd.R_elderB (zRW HO1622.out) gb1633 (Nat.le_of_eq hg.symm)) hb); replace HO1629 := Aside0.mk (Kd.R_below (Kd.R_elderB (zRW HO1629.out) gb1633 (Nat.le_of_eq hg.symm)) hb); replace BK1615 := zkb BK1615 hb; replace BK1616 := zkb BK1616 hb; replace BK1617 := zkb BK1617 hb; replace BK1618 := zkb BK1618 hb; replace BK1626 := zkb BK1626 hb; replace HB := zkB HB hb; have BK1633 := Aside0.mk (hbox); clear hb hbox hg; refine zt5 NB1615_1633 NB1616_1633 NB1617_1633 NB1618_1633 NB1626_1633 fun _ _ _ _ _ _ _ _ _ _ => ?_; refine zu3 BK1633 fun z47_0 z47_1 z47_2 f47_0 f47_1 f47_2 => ?_; refine zt1 NB1617_1618 fun _ _ => ?_; refine zu3 BK1617 fun z49_0 z49_1 z49_2 f49_0 f49_1 f49_2 => ?_) | ((with_reducible refine gtd 33 rfl ?_); refine Kd.R_lit k43 _ 43 ?hg (N := 33) ?hd (xs := ([(⟨a3_0, a3_1, a3_2⟩ : S43)] : List (S43))) (inner := [.bool a3_0, .int .u64 a3_1, .int .u64 a3_2]) (ok := fun _ => True) (okp := fun _ => True) ?hr ?hp (fun _ hk => hk) trivial (Below.refl _ _) (Nat.le_refl _) (by simp) ?_; (case hd => rfl); (case hg => rfl); (case hr => first | (go_simp; done) | (go_simp; rfl)); (case hp => exact (Reps.c3 (show Kd.M k43 _ _ _ (⟨a3_0, a3_1, a3_2⟩ : S43) [.bool a3_0, .int .u64 a3_1, .int .u64 a3_2] from (k43_mkM _ _ _ (⟨a3_0, a3_1, a3_2⟩ : S43) )) (Reps.none _ _))); intro v1635 w50 ho51 hb hg_ hnew_; clear hg_ hnew_; (first | rw [← Ny1634.out] at ho51 | (simp only [Int.reduceToNat] at ho51; rw [← Ny1634.out] at ho51)); have HO1636 := Aside0.mk (Kd.R_lower (Kd.R_newB (Kd.R_newB (Kd.R_newB (Kd.R_newB (Kd.R_newB (Kd.R_newB (Kd.R_new' (Kd.R_new' ho51 (Kd.R_lt (by (with_reducible repeat (first | apply Kd.R_alloc | apply Kd.R_drewN | apply Kd.R_drew)); exact (Kd.R_mono (Kd.R_far (p := ⟨gb1633, 2, none⟩) (Kd.R_far (p := ⟨gb1633, 1, none⟩) (Kd.R_far (p := ⟨gb1633, 0, none⟩) (Kd.R_mono HO1622.out (fun k_ hk => (⟨hk, hk.2⟩ : _ ∧ k_ ≠ gb1633))) (fun _ hk => hk.2) (.bool t1630)) (fun _ hk => hk.2) (.int .u64 t1631)) (fun _ hk => hk.2) (.int .u64 t1632)) (fun _ h_ => h_.1))))) (Kd.R_lt (by (with_reducible repeat (first | apply Kd.R_alloc | apply Kd.R_drewN | apply Kd.R_drew)); exact (Kd.R_mono (Kd.R_far (p := ⟨gb1633, 2, none⟩) (Kd.R_far (p := ⟨gb1633, 1, none⟩) (Kd.R_far (p := ⟨gb1633, 0, none⟩) (Kd.R_mono HO1629.out (fun k_ hk => (⟨hk, hk.2⟩ : _ ∧ k_ ≠ gb1633))) (fun _ hk => hk.2) (.bool t1630)) (fun _ hk => hk.2) (.int .u64 t1631)) (fun _ hk => hk.2) (.int .u64 t1632)) (fun _ h_ => h_.1))))) (g := gb1615) (o := .cells #[.bool a1_0, .int .u64 a1_1, .int .u64 a1_2] 43 (0, 0)) (zkf (zkf (zkf (zkq BK1615) NB1615_1633.out _) NB1615_1633.out _) NB1615_1633.out _)) (g := gb1616) (o := .cells #[.bool a2_0, .int .u64 a2_1, .int .u64 a2_2] 43 (0, 0)) (zkf (zkf (zkf (zkq BK1616) NB1616_1633.out _) NB1616_1633.out _) NB1616_1633.out _)) (g := gb1617) (o := .cells #[.bool a3_0, .int .u64 a3_1, .int .u64 a3_2] 43 (0, 0)) (zkf (zkf (zkf (zkq BK1617) NB1617_1633.out _) NB1617_1633.out _) NB1617_1633.out _)) (g := gb1618) (o := .cells #[.bool a4_0, .int .u64 a4_1, .int .u64 a4_2] 43 (0, 0)) (zkf (zkf (zkf (zkq BK1618) NB1618_1633.out _) NB1618_1633.out _) NB1618_1633.out _)) (g := gb1626) (o := .cells #[.bool t1623, .int .u64 t1624, .int .u64 t1625] 43 (0, 0)) (zkf (zkf (zkf (zkq BK1626) NB1626_1633.out _) NB1626_1633.out _) NB1626_1633.out _)) (g := gb1633) (o := .cells #[.bool t1630, .int .u64 t1631, .int .u64 t1632] 43 (0, 0)) (blk_put (cs := #[.bool t1630, .int .u64 t1631, .int .u64 0]) (blk_put (cs := #[.bool t1630, .int .u64 0, .int .u64 0]) (blk_put (zkq BK1633) 0 _ rfl) 1 _ rfl) 2 _ rfl)) (below_size zaB)); replace HO1622 := Aside0.mk (Kd.R_elder' (by (with_reducible repeat (first | apply Kd.R_alloc | apply Kd.R_drewN | apply Kd.R_drew)); exact (Kd.R_mono (Kd.R_far (p := ⟨gb1633, 2, none⟩) (Kd.R_far (p := ⟨gb1633, 1, none⟩) (Kd.R_far (p := ⟨gb1633, 0, none⟩) (Kd.R_mono HO1622.out (fun k_ hk => (⟨hk, hk.2⟩ : _ ∧ k_ ≠ gb1633))) (fun _ hk => hk.2) (.bool t1630)) (fun _ hk => hk.2) (.int .u64 t1631)) (fun _ hk => hk.2) (.int .u64 t1632)) (fun _ h_ => h_.1))) (Kd.R_base ho51) hb); replace HO1629 := Aside0.mk (Kd.R_elder' (by (with_reducible repeat (first | apply Kd.R_alloc | apply Kd.R_drewN | apply Kd.R_drew)); exact (Kd.R_mono (Kd.R_far (p := ⟨gb1633, 2, none⟩) (Kd.R_far (p := ⟨gb1633, 1, none⟩) (Kd.R_far (p := ⟨gb1633, 0, none⟩) (Kd.R_mono HO1629.out (fun k_ hk => (⟨hk, hk.2⟩ : _ ∧ k_ ≠ gb1633))) (fun _ hk => hk.2) (.bool t1630)) (fun _ hk => hk.2) (.int .u64 t1631)) (fun _ hk => hk.2) (.int .u64 t1632)) (fun _ h_ => h_.1))) (Kd.R_base ho51) hb); replace BK1615 := Aside0.mk (blk_below (zkf (zkf (zkf BK1615.out NB1615_1633.out _) NB1615_1633.out _) NB1615_1633.out _) hb); replace BK1616 := Aside0.mk (blk_below (zkf (zkf (zkf BK1616.out NB1616_1633.out _) NB1616_1633.out _) NB1616_1633.out _) hb); replace BK1617 := Aside0.mk (blk_below (zkf (zkf (zkf BK1617.out NB1617_1633.out _) NB1617_1633.out _) NB1617_1633.out _) hb); replace BK1618 := Aside0.mk (blk_below (zkf (zkf (zkf BK1618.out NB1618_1633.out _) NB1618_1633.out _) NB1618_1633.out _) hb); replace BK1626 := Aside0.mk (blk_below (zkf (zkf (zkf BK1626.out NB1626_1633.out _) NB1626_1633.out _) NB1626_1633.out _) hb); replace BK1633 := Aside0.mk (blk_below (o := .cells #[.bool t1630, .int .u64 t1631, .int .u64 t1632] 43 (0, 0)) (blk_put (cs := #[.bool t1630, .int .u64 t1631, .int .u64 0]) (blk_put (cs := #[.bool t1630, .int .u64 0, .int .u64 0]) (blk_put BK1633.out 0 _ rfl) 1 _ rfl) 2 _ rfl) hb); replace HB := Aside0.mk (below_step (below_set (below_set (below_set HB.out GW1633.out) GW1633.out) GW1633.out) hb); clear hb ho51; obtain ⟨Ao52, co52, eo52⟩ := Kd.R_slice HO1636.out; subst eo52) | ((with_reducible refine gtc 45 rfl ?_); refine goesL_ (some 34) rfl rfl Try.func45 (by kernel_rfl) rfl #[.slice Ao52 y1634.length co52] rfl (by (try simp only [List.map_toArray, List.map_cons, List.map_nil]); first | done | rfl | (simp only [List.length_drop, List.length_take]; rfl)) ?_; (with_reducible refine (span_Join.calls k _ _ y1634 t1637 t1638 t1639 _ ?side1 ?side2 A13.out).mono ?_); (case side1 => repeat (first | exact (Kd.R_reads' HO1636.out).2.2 | (with_reducible refine Kd.C_alloc ?_ _) | (with_reducible refine Kd.C_drewN ?_ _) | (with_reducible refine Kd.C_drew ?_))); (case side2 => exact (Kd.R_reads' HO1636.out).2.1); rintro e w53 ⟨rfl, hb⟩; refine ⟨_, rfl, ?_⟩; replace HO1622 := Aside0.mk (Kd.R_below (zRW HO1622.out) hb); replace HO1629 := Aside0.mk (Kd.R_below (zRW HO1629.out) hb); replace HO1636 := Aside0.mk (Kd.R_below (zRW HO1636.out) hb); refine zcn6 HB BK1615 BK1616 BK1617 BK1618 BK1626 BK1633 hb (c := ?_); clear HB BK1615 BK1616 BK1617 BK1618 BK1626 BK1633 hb; intro BK1615 BK1616 BK1617 BK1618 BK1626 BK1633 HB) | ((with_reducible refine gtd 20 rfl ?_); refine zbx 20 #[.bool false, .int .u64 0, .int .u64 0] 43 (h := ?_); intro gb1640 hg w54 hbox hb; have GW1640 := zkz HB hg; have NB1615_1640 := zkl BK1615 hg; have NB1616_1640 := zkl BK1616 hg; have NB1617_1640 := zkl BK1617 hg; have NB1618_1640 := zkl BK1618 hg; have NB1626_1640 := zkl BK1626 hg; have NB1633_1640 := zkl BK1633 hg; replace HO1622 := Aside0.mk (Kd.R_below (Kd.R_elderB (zRW HO1622.out) gb1640 (Nat.le_of_eq hg.symm)) hb); replace HO1629 := Aside0.mk (Kd.R_below (Kd.R_elderB (zRW HO1629.out) gb1640 (Nat.le_of_eq hg.symm)) hb); replace HO1636 := Aside0.mk (Kd.R_below (Kd.R_elderB (zRW HO1636.out) gb1640 (Nat.le_of_eq hg.symm)) hb); replace BK1615 := zkb BK1615 hb; replace BK1616 := zkb BK1616 hb; replace BK1617 := zkb BK1617 hb; replace BK1618 := zkb BK1618 hb; replace BK1626 := zkb BK1626 hb; replace BK1633 := zkb BK1633 hb; replace HB := zkB HB hb; have BK1640 := Aside0.mk (hbox); clear hb hbox hg; refine zt6 NB1615_1640 NB1616_1640 NB1617_1640 NB1618_1640 NB1626_1640 NB1633_1640 fun _ _ _ _ _ _ _ _ _ _ _ _ => ?_; refine zu3 BK1640 fun z61_0 z61_1 z61_2 f61_0 f61_1 f61_2 => ?_))
  (try simp only [Act.put, List.setIfInBounds_toArray, List.set_cons_zero, List.set_cons_succ])
  go_cut [44] (fun v44 wc => ∃ (kq : Nat) (x44_13 : Bool), v44 = .bool x44_13 ∧ Aside0 (flyballlaw19_SlipRises.j0 kq a0 a5 a6 a7 true x44_13 a1_0 a1_1 a1_2 a2_0 a2_1 a2_2 a3_0 a3_1 a3_2 a4_0 a4_1 a4_2 = some r) ∧ Aside0 (kq ≤ k) ∧ Aside0 (wc.heap[gb1615]? = some (.cells #[.bool a1_0, .int .u64 a1_1, .int .u64 a1_2] 43 (0, 0))) ∧ Aside0 (wc.heap[gb1616]? = some (.cells #[.bool a2_0, .int .u64 a2_1, .int .u64 a2_2] 43 (0, 0))) ∧ Aside0 (wc.heap[gb1617]? = some (.cells #[.bool a3_0, .int .u64 a3_1, .int .u64 a3_2] 43 (0, 0))) ∧ Aside0 (wc.heap[gb1618]? = some (.cells #[.bool a4_0, .int .u64 a4_1, .int .u64 a4_2] 43 (0, 0))) ∧ Aside0 (wc.heap[gb1626]? = some (.cells #[.bool t1623, .int .u64 t1624, .int .u64 t1625] 43 (0, 0))) ∧ Aside0 (wc.heap[gb1633]? = some (.cells #[.bool t1630, .int .u64 t1631, .int .u64 t1632] 43 (0, 0))) ∧ Aside0 (wc.heap[gb1640]? = some (.cells #[.bool t1637, .int .u64 t1638, .int .u64 t1639] 43 (0, 0))) ∧ Aside0 (Below w.heap.size w wc))
  case first =>
   have H := HC14.out
   clear HC14
   by_cases c62 : t1623 = true
   ·subst c62
    replace H := zit H
    have H' := Aside0.mk H
    clear H
    refine zt6 NB1615_1626 NB1616_1626 NB1617_1626 NB1618_1626 NB1626_1633 NB1626_1640 fun _ _ _ _ _ _ _ _ _ _ _ _ => ?_
    refine zu3 BK1626 fun z69_0 z69_1 z69_2 f69_0 f69_1 f69_2 => ?_
    go_wp2
    go_meet
    case rel => exact ⟨_, (true), zrl, H', ⟨zle⟩, ⟨(zkf (zkf (zkf (zkq BK1615) NB1615_1640.out _) NB1615_1640.out _) NB1615_1640.out _)⟩, ⟨(zkf (zkf (zkf (zkq BK1616) NB1616_1640.out _) NB1616_1640.out _) NB1616_1640.out _)⟩, ⟨(zkf (zkf (zkf (zkq BK1617) NB1617_1640.out _) NB1617_1640.out _) NB1617_1640.out _)⟩, ⟨(zkf (zkf (zkf (zkq BK1618) NB1618_1640.out _) NB1618_1640.out _) NB1618_1640.out _)⟩, ⟨(zkf (zkf (zkf (zkq BK1626) NB1626_1640.out _) NB1626_1640.out _) NB1626_1640.out _)⟩, ⟨(zkf (zkf (zkf (zkq BK1633) NB1633_1640.out _) NB1633_1640.out _) NB1633_1640.out _)⟩, ⟨(blk_put (cs := #[.bool t1637, .int .u64 t1638, .int .u64 0]) (blk_put (cs := #[.bool t1637, .int .u64 0, .int .u64 0]) (blk_put (zkq BK1640) 0 _ rfl) 1 _ rfl) 2 _ rfl)⟩, ⟨zaB⟩⟩
   replace c62 := Bool.eq_false_iff.mpr c62
   subst c62
   replace H := zif H
   by_cases c70 : t1630 = true
   ·subst c70
    replace H := zit H
    have H' := Aside0.mk H
    clear H
    refine zt6 NB1615_1626 NB1616_1626 NB1617_1626 NB1618_1626 NB1626_1633 NB1626_1640 fun _ _ _ _ _ _ _ _ _ _ _ _ => ?_
    refine zu3 BK1626 fun z77_0 z77_1 z77_2 f77_0 f77_1 f77_2 => ?_
    refine zt5 NB1615_1633 NB1616_1633 NB1617_1633 NB1618_1633 NB1633_1640 fun _ _ _ _ _ _ _ _ _ _ => ?_
    refine zu3 BK1633 fun z83_0 z83_1 z83_2 f83_0 f83_1 f83_2 => ?_
    go_wp2
    go_meet
    case rel => exact ⟨_, (true), zrl, H', ⟨zle⟩, ⟨(zkf (zkf (zkf (zkq BK1615) NB1615_1640.out _) NB1615_1640.out _) NB1615_1640.out _)⟩, ⟨(zkf (zkf (zkf (zkq BK1616) NB1616_1640.out _) NB1616_1640.out _) NB1616_1640.out _)⟩, ⟨(zkf (zkf (zkf (zkq BK1617) NB1617_1640.out _) NB1617_1640.out _) NB1617_1640.out _)⟩, ⟨(zkf (zkf (zkf (zkq BK1618) NB1618_1640.out _) NB1618_1640.out _) NB1618_1640.out _)⟩, ⟨(zkf (zkf (zkf (zkq BK1626) NB1626_1640.out _) NB1626_1640.out _) NB1626_1640.out _)⟩, ⟨(zkf (zkf (zkf (zkq BK1633) NB1633_1640.out _) NB1633_1640.out _) NB1633_1640.out _)⟩, ⟨(blk_put (cs := #[.bool t1637, .int .u64 t1638, .int .u64 0]) (blk_put (cs := #[.bool t1637, .int .u64 0, .int .u64 0]) (blk_put (zkq BK1640) 0 _ rfl) 1 _ rfl) 2 _ rfl)⟩, ⟨zaB⟩⟩
   replace c70 := Bool.eq_false_iff.mpr c70
   subst c70
   replace H := zif H
   have H' := Aside0.mk H
   clear H
   refine zt6 NB1615_1626 NB1616_1626 NB1617_1626 NB1618_1626 NB1626_1633 NB1626_1640 fun _ _ _ _ _ _ _ _ _ _ _ _ => ?_
   refine zu3 BK1626 fun z90_0 z90_1 z90_2 f90_0 f90_1 f90_2 => ?_
   refine zt5 NB1615_1633 NB1616_1633 NB1617_1633 NB1618_1633 NB1633_1640 fun _ _ _ _ _ _ _ _ _ _ => ?_
   refine zu3 BK1633 fun z96_0 z96_1 z96_2 f96_0 f96_1 f96_2 => ?_
   refine zt4 NB1615_1640 NB1616_1640 NB1617_1640 NB1618_1640 fun _ _ _ _ _ _ _ _ => ?_
   refine zu3 BK1640 fun z101_0 z101_1 z101_2 f101_0 f101_1 f101_2 => ?_
   go_wp2
   go_meet
   case rel => exact ⟨_, (t1637), zrl, H', ⟨zle⟩, ⟨(zkf (zkf (zkf (zkq BK1615) NB1615_1640.out _) NB1615_1640.out _) NB1615_1640.out _)⟩, ⟨(zkf (zkf (zkf (zkq BK1616) NB1616_1640.out _) NB1616_1640.out _) NB1616_1640.out _)⟩, ⟨(zkf (zkf (zkf (zkq BK1617) NB1617_1640.out _) NB1617_1640.out _) NB1617_1640.out _)⟩, ⟨(zkf (zkf (zkf (zkq BK1618) NB1618_1640.out _) NB1618_1640.out _) NB1618_1640.out _)⟩, ⟨(zkf (zkf (zkf (zkq BK1626) NB1626_1640.out _) NB1626_1640.out _) NB1626_1640.out _)⟩, ⟨(zkf (zkf (zkf (zkq BK1633) NB1633_1640.out _) NB1633_1640.out _) NB1633_1640.out _)⟩, ⟨(blk_put (cs := #[.bool t1637, .int .u64 t1638, .int .u64 0]) (blk_put (cs := #[.bool t1637, .int .u64 0, .int .u64 0]) (blk_put (zkq BK1640) 0 _ rfl) 1 _ rfl) 2 _ rfl)⟩, ⟨zaB⟩⟩
  case rest =>
   clear HC14
   try clear z101_0 z101_1 z101_2 f101_0 f101_1 f101_2
   try clear z23_0 z23_1 z23_2 f23_0 f23_1 f23_2
   try clear z33_0 z33_1 z33_2 f33_0 f33_1 f33_2
   try clear z36_0 z36_1 z36_2 f36_0 f36_1 f36_2
   try clear z47_0 z47_1 z47_2 f47_0 f47_1 f47_2
   try clear z49_0 z49_1 z49_2 f49_0 f49_1 f49_2
   try clear z61_0 z61_1 z61_2 f61_0 f61_1 f61_2
   try clear z69_0 z69_1 z69_2 f69_0 f69_1 f69_2
   try clear z77_0 z77_1 z77_2 f77_0 f77_1 f77_2
   try clear z83_0 z83_1 z83_2 f83_0 f83_1 f83_2
   try clear z90_0 z90_1 z90_2 f90_0 f90_1 f90_2
   try clear z96_0 z96_1 z96_2 f96_0 f96_1 f96_2
   obtain ⟨kq, x44_13, rfl, HA, HJ13, BK1615, BK1616, BK1617, BK1618, BK1626, BK1633, BK1640, HB⟩ := hcut
   cases kq with
   | zero => exact absurd HA.out (by simp [flyballlaw19_SlipRises.j0])
   | succ kj13 =>
    have H := HA.out
    clear HA
    simp only [flyballlaw19_SlipRises.j0] at H
    by_cases c102 : x44_13 = true
    ·subst c102
     replace H := zit H
     obtain rfl := Option.some.inj H
     go_wp2
     go_ret
     exact ⟨zaE, zaB⟩
    replace c102 := Bool.eq_false_iff.mpr c102
    subst c102
    replace H := zif H
    obtain ⟨t1641, A103, H⟩ := zbs H
    try dsimp only at H
    obtain ⟨y1642, hy1642⟩ : ∃ y_ : List (S43), y_ = (([(⟨a1_0, a1_1, a1_2⟩ : S43), (⟨a4_0, a4_1, a4_2⟩ : S43)] : List (S43))) := ⟨_, rfl⟩
    replace H : ((span_Join.f kj13 y1642).bind fun bt1645 => ((span_Join.f kj13 (([(⟨a2_0, a2_1, a2_2⟩ : S43), (⟨a4_0, a4_1, a4_2⟩ : S43)] : List (S43)))).bind fun bt1651 => ((span_Join.f kj13 (([(⟨a3_0, a3_1, a3_2⟩ : S43), (⟨a4_0, a4_1, a4_2⟩ : S43)] : List (S43)))).bind fun bt1657 => ((slip_Join.f kj13 (([a5, a7] : List Int))).bind fun t1663 => ((slip_Join.f kj13 (([a6, a7] : List Int))).bind fun t1667 => ((slip_Do.f kj13 a0 bt1645.1 bt1645.2.1 bt1645.2.2 bt1651.1 bt1651.2.1 bt1651.2.2 bt1657.1 bt1657.2.1 bt1657.2.2 t1663 t1667).bind fun t1668 => (if true = true then ((pattern_Less.f kj13 t1668 t1641).bind fun t1669 => (some (!t1669))) else (some false)))))))) = some r := by first | (rw [hy1642]; with_reducible exact H) | (have H2_ := (Option.bind_some _ _).symm.trans H; rw [hy1642]; with_reducible exact H2_) | (have H2_ := (Option.bind_some _ _).symm.trans H; with_reducible exact H2_) | with_reducible exact H | (rw [hy1642]; exact H) | exact H
    have Ny1642 := Aside0.mk hy1642
    clear hy1642
    obtain ⟨⟨t1645, t1646, t1647⟩, A104, H⟩ := zbs H
    try dsimp only at H
    obtain ⟨y1648, hy1648⟩ : ∃ y_ : List (S43), y_ = (([(⟨a2_0, a2_1, a2_2⟩ : S43), (⟨a4_0, a4_1, a4_2⟩ : S43)] : List (S43))) := ⟨_, rfl⟩
    replace H : ((span_Join.f kj13 y1648).bind fun bt1651 => ((span_Join.f kj13 (([(⟨a3_0, a3_1, a3_2⟩ : S43), (⟨a4_0, a4_1, a4_2⟩ : S43)] : List (S43)))).bind fun bt1657 => ((slip_Join.f kj13 (([a5, a7] : List Int))).bind fun t1663 => ((slip_Join.f kj13 (([a6, a7] : List Int))).bind fun t1667 => ((slip_Do.f kj13 a0 t1645 t1646 t1647 bt1651.1 bt1651.2.1 bt1651.2.2 bt1657.1 bt1657.2.1 bt1657.2.2 t1663 t1667).bind fun t1668 => (if true = true then ((pattern_Less.f kj13 t1668 t1641).bind fun t1669 => (some (!t1669))) else (some false))))))) = some r := by first | (rw [hy1648]; with_reducible exact H) | (have H2_ := (Option.bind_some _ _).symm.trans H; rw [hy1648]; with_reducible exact H2_) | (have H2_ := (Option.bind_some _ _).symm.trans H; with_reducible exact H2_) | with_reducible exact H | (rw [hy1648]; exact H) | exact H
    have Ny1648 := Aside0.mk hy1648
    clear hy1648
    obtain ⟨⟨t1651, t1652, t1653⟩, A105, H⟩ := zbs H
    try dsimp only at H
    obtain ⟨y1654, hy1654⟩ : ∃ y_ : List (S43), y_ = (([(⟨a3_0, a3_1, a3_2⟩ : S43), (⟨a4_0, a4_1, a4_2⟩ : S43)] : List (S43))) := ⟨_, rfl⟩
    replace H : ((span_Join.f kj13 y1654).bind fun bt1657 => ((slip_Join.f kj13 (([a5, a7] : List Int))).bind fun t1663 => ((slip_Join.f kj13 (([a6, a7] : List Int))).bind fun t1667 => ((slip_Do.f kj13 a0 t1645 t1646 t1647 t1651 t1652 t1653 bt1657.1 bt1657.2.1 bt1657.2.2 t1663 t1667).bind fun t1668 => (if true = true then ((pattern_Less.f kj13 t1668 t1641).bind fun t1669 => (some (!t1669))) else (some false)))))) = some r := by first | (rw [hy1654]; with_reducible exact H) | (have H2_ := (Option.bind_some _ _).symm.trans H; rw [hy1654]; with_reducible exact H2_) | (have H2_ := (Option.bind_some _ _).symm.trans H; with_reducible exact H2_) | with_reducible exact H | (rw [hy1654]; exact H) | exact H
    have Ny1654 := Aside0.mk hy1654
    clear hy1654
    obtain ⟨⟨t1657, t1658, t1659⟩, A106, H⟩ := zbs H
    try dsimp only at H
    obtain ⟨y1660, hy1660⟩ : ∃ y_ : List Int, y_ = (([a5, a7] : List Int)) := ⟨_, rfl⟩
    replace H : ((slip_Join.f kj13 y1660).bind fun t1663 => ((slip_Join.f kj13 (([a6, a7] : List Int))).bind fun t1667 => ((slip_Do.f kj13 a0 t1645 t1646 t1647 t1651 t1652 t1653 t1657 t1658 t1659 t1663 t1667).bind fun t1668 => (if true = true then ((pattern_Less.f kj13 t1668 t1641).bind fun t1669 => (some (!t1669))) else (some false))))) = some r := by first | (rw [hy1660]; with_reducible exact H) | (have H2_ := (Option.bind_some _ _).symm.trans H; rw [hy1660]; with_reducible exact H2_) | (have H2_ := (Option.bind_some _ _).symm.trans H; with_reducible exact H2_) | with_reducible exact H | (rw [hy1660]; exact H) | exact H
    have Ny1660 := Aside0.mk hy1660
    clear hy1660
    obtain ⟨t1663, A107, H⟩ := zbs H
    try dsimp only at H
    obtain ⟨y1664, hy1664⟩ : ∃ y_ : List Int, y_ = (([a6, a7] : List Int)) := ⟨_, rfl⟩
    replace H : ((slip_Join.f kj13 y1664).bind fun t1667 => ((slip_Do.f kj13 a0 t1645 t1646 t1647 t1651 t1652 t1653 t1657 t1658 t1659 t1663 t1667).bind fun t1668 => (if true = true then ((pattern_Less.f kj13 t1668 t1641).bind fun t1669 => (some (!t1669))) else (some false)))) = some r := by first | (rw [hy1664]; with_reducible exact H) | (have H2_ := (Option.bind_some _ _).symm.trans H; rw [hy1664]; with_reducible exact H2_) | (have H2_ := (Option.bind_some _ _).symm.trans H; with_reducible exact H2_) | with_reducible exact H | (rw [hy1664]; exact H) | exact H
    have Ny1664 := Aside0.mk hy1664
    clear hy1664
    obtain ⟨t1667, A108, H⟩ := zbs H
    try dsimp only at H
    obtain ⟨t1668, A109, H⟩ := zbs H
    try dsimp only at H
    by_cases c110 : true = true
    ·skip
     have H1 : ((pattern_Less.f kj13 t1668 t1641).bind fun t1669 => (some (!t1669))) = some r := by first | (rw [if_pos rfl] at H; exact H) | (rw [if_pos trivial] at H; exact H)
     clear H
     have H := H1
     clear H1
     obtain ⟨t1669, A111, H⟩ := zbs H
     try dsimp only at H
     obtain rfl := Option.some.inj H
     refine zt6 NB1615_1616 NB1615_1617 NB1615_1618 NB1615_1626 NB1615_1633 NB1615_1640 fun _ _ _ _ _ _ _ _ _ _ _ _ => ?_
     refine zu3 BK1615 fun _ _ _ _ _ _ => ?_
     refine zt5 NB1616_1617 NB1616_1618 NB1616_1626 NB1616_1633 NB1616_1640 fun _ _ _ _ _ _ _ _ _ _ => ?_
     refine zu3 BK1616 fun _ _ _ _ _ _ => ?_
     refine zt4 NB1617_1618 NB1617_1626 NB1617_1633 NB1617_1640 fun _ _ _ _ _ _ _ _ => ?_
     refine zu3 BK1617 fun _ _ _ _ _ _ => ?_
     try go_wp2_with (first | ((with_reducible refine gtc 64 rfl ?_); refine zgL 52 Try.func64 (slip_Do.calls kj13 a0 a1_0 a1_1 a1_2 a2_0 a2_1 a2_2 a3_0 a3_1 a3_2 a5 a6 t1641 _ A103.out) (h := ?_); rintro w130 hb; refine zcn7 HB BK1615 BK1616 BK1617 BK1618 BK1626 BK1633 BK1640 hb (c := ?_); clear HB BK1615 BK1616 BK1617 BK1618 BK1626 BK1633 BK1640 hb; intro BK1615 BK1616 BK1617 BK1618 BK1626 BK1633 BK1640 HB))
     replace BK1615 := Aside0.mk (blk_drew BK1615.out)
     replace BK1616 := Aside0.mk (blk_drew BK1616.out)
     replace BK1617 := Aside0.mk (blk_drew BK1617.out)
     replace BK1618 := Aside0.mk (blk_drew BK1618.out)
     replace BK1626 := Aside0.mk (blk_drew BK1626.out)
     replace BK1633 := Aside0.mk (blk_drew BK1633.out)
     replace BK1640 := Aside0.mk (blk_drew BK1640.out)
     replace HB := Aside0.mk (below_drew1 HB.out)
     refine start_ (n := 23) (S := fun w' => True) (ds := []) #[false, false, false, false, false, false, false, false, false, false, false, false, false, false, false, false, false, false, false, false, false, false, false] (by kernel_rfl) rfl rfl trivial (fun hHeld => ?_); refine with_tabW flyballlaw19_SlipRises.tab10 flyballlaw19_SlipRises.bits10 (fun HT_ HW_ => ?_)
     generalize w130.drew = w131 at BK1615 BK1616 BK1617 BK1618 BK1626 BK1633 BK1640 HB hHeld ⊢
     refine zpA 0 53 (h := ?_)
     refine zpA 13 66 (h := ?_)
     refine zpA 14 67 (h := ?_)
     refine zpA 17 70 (h := ?_)
     refine zpA 18 71 (h := ?_)
     refine inv_at [1, 2, 3, 4, 5, 6, 7, 8, 9, 10, 11, 12, 15, 16, 19, 20, 21, 22] (fun a0_ b a w' => ∃ (v1643 : Value) (v1649 : Value) (v1655 : Value) (v1661 : Value) (v1665 : Value), a = putSel a0_ b [(1, 54, .agg #[.bool a1_0, .int .u64 a1_1, .int .u64 a1_2]), (2, 55, .agg #[.bool a4_0, .int .u64 a4_1, .int .u64 a4_2]), (3, 56, v1643), (4, 57, .agg #[.bool t1645, .int .u64 t1646, .int .u64 t1647]), (5, 58, .agg #[.bool a2_0, .int .u64 a2_1, .int .u64 a2_2]), (6, 59, .agg #[.bool a4_0, .int .u64 a4_1, .int .u64 a4_2]), (7, 60, v1649), (8, 61, .agg #[.bool t1651, .int .u64 t1652, .int .u64 t1653]), (9, 62, .agg #[.bool a3_0, .int .u64 a3_1, .int .u64 a3_2]), (10, 63, .agg #[.bool a4_0, .int .u64 a4_1, .int .u64 a4_2]), (11, 64, v1655), (12, 65, .agg #[.bool t1657, .int .u64 t1658, .int .u64 t1659]), (15, 68, v1661), (16, 69, .int .u64 t1663), (19, 72, v1665), (20, 73, .int .u64 t1667), (21, 74, .int .u64 t1668), (22, 22, .int .u64 t1668)] ∧ (w'.heap[gb1615]? = some (.cells #[.bool a1_0, .int .u64 a1_1, .int .u64 a1_2] 43 (0, 0))) ∧ (w'.heap[gb1616]? = some (.cells #[.bool a2_0, .int .u64 a2_1, .int .u64 a2_2] 43 (0, 0))) ∧ (w'.heap[gb1617]? = some (.cells #[.bool a3_0, .int .u64 a3_1, .int .u64 a3_2] 43 (0, 0))) ∧ (w'.heap[gb1618]? = some (.cells #[.bool a4_0, .int .u64 a4_1, .int .u64 a4_2] 43 (0, 0))) ∧ (w'.heap[gb1626]? = some (.cells #[.bool t1623, .int .u64 t1624, .int .u64 t1625] 43 (0, 0))) ∧ (w'.heap[gb1633]? = some (.cells #[.bool t1630, .int .u64 t1631, .int .u64 t1632] 43 (0, 0))) ∧ (w'.heap[gb1640]? = some (.cells #[.bool t1637, .int .u64 t1638, .int .u64 t1639] 43 (0, 0))) ∧ (Below w.heap.size w w') ∧ (b 3 = true → Kd.R k43 43 w' w.heap.size (fun k_ => k_ ≠ gb1615 ∧ k_ ≠ gb1616 ∧ k_ ≠ gb1617 ∧ k_ ≠ gb1618 ∧ k_ ≠ gb1626 ∧ k_ ≠ gb1633 ∧ k_ ≠ gb1640) v1643 y1642) ∧ (b 7 = true → Kd.R k43 43 w' w.heap.size (fun k_ => k_ ≠ gb1615 ∧ k_ ≠ gb1616 ∧ k_ ≠ gb1617 ∧ k_ ≠ gb1618 ∧ k_ ≠ gb1626 ∧ k_ ≠ gb1633 ∧ k_ ≠ gb1640) v1649 y1648) ∧ (b 11 = true → Kd.R k43 43 w' w.heap.size (fun k_ => k_ ≠ gb1615 ∧ k_ ≠ gb1616 ∧ k_ ≠ gb1617 ∧ k_ ≠ gb1618 ∧ k_ ≠ gb1626 ∧ k_ ≠ gb1633 ∧ k_ ≠ gb1640) v1655 y1654) ∧ (b 15 = true → Kd.R (Kd.int .u64) 23 w' w.heap.size (fun _ => True) v1661 y1660) ∧ (b 19 = true → Kd.R (Kd.int .u64) 23 w' w.heap.size (fun _ => True) v1665 y1664)) HT_.out HW_.out (by kernel_rfl) (by kernel_rfl) ?_ ?_ ?_
     ·exact ⟨.bool false, .bool false, .bool false, .bool false, .bool false, by simp only [putSel, Bool.false_eq_true, if_false], BK1615.out, BK1616.out, BK1617.out, BK1618.out, BK1626.out, BK1633.out, BK1640.out, HB.out, fun h_ => absurd h_ (by decide), fun h_ => absurd h_ (by decide), fun h_ => absurd h_ (by decide), fun h_ => absurd h_ (by decide), fun h_ => absurd h_ (by decide)⟩
     ·skip
      clear BK1615 BK1616 BK1617 BK1618 BK1626 BK1633 BK1640 HB
      refine steps_cons ?_ ?_
      ·rintro b a w' ⟨v1643, v1649, v1655, v1661, v1665, ha, Q_BK1615, Q_BK1616, Q_BK1617, Q_BK1618, Q_BK1626, Q_BK1633, Q_BK1640, Q_HB, Q_HO1644, Q_HO1650, Q_HO1656, Q_HO1662, Q_HO1666⟩ hb_ hon hoff
       refine ⟨_, rfl, fun K hK => ?_⟩
       have e9 : a.tmps[9]? = some (.pointer (some ⟨gb1615, 0, none⟩)) := by rw [ha]; exact (putSel_off rfl).trans rfl
       replace ha := Aside0.mk ha
       have BK1615 := Aside0.mk Q_BK1615
       have BK1616 := Aside0.mk Q_BK1616
       have BK1617 := Aside0.mk Q_BK1617
       have BK1618 := Aside0.mk Q_BK1618
       have BK1626 := Aside0.mk Q_BK1626
       have BK1633 := Aside0.mk Q_BK1633
       have BK1640 := Aside0.mk Q_BK1640
       have HB := Aside0.mk Q_HB
       have hc0_ : w'.cell? ⟨gb1615, 0, none⟩ = some (.bool a1_0) := (blk_cell BK1615.out 0).trans rfl
       have hc1_ : w'.cell? ⟨gb1615, 1, none⟩ = some (.int .u64 a1_1) := (blk_cell BK1615.out 1).trans rfl
       have hc2_ : w'.cell? ⟨gb1615, 2, none⟩ = some (.int .u64 a1_2) := (blk_cell BK1615.out 2).trans rfl
       refine value_ (w1 := w') (v := .agg #[.bool a1_0, .int .u64 a1_1, .int .u64 a1_2]) (by rfl) rfl ?_ ?_
       ·go_simp
        (try simp only [i64_w])
        try rfl
       refine hK.out _ _ ⟨v1643, v1649, v1655, v1661, v1665, (by rw [ha.out]; exact putSel_upk 0 hb_ rfl rfl rfl), Q_BK1615, Q_BK1616, Q_BK1617, Q_BK1618, Q_BK1626, Q_BK1633, Q_BK1640, Q_HB, fun h0_ => absurd ((hoff 3 (by kernel_rfl)).symm.trans h0_) (by decide), Q_HO1650, Q_HO1656, Q_HO1662, Q_HO1666⟩
      refine steps_cons ?_ ?_
      ·rintro b a w' ⟨v1643, v1649, v1655, v1661, v1665, ha, Q_BK1615, Q_BK1616, Q_BK1617, Q_BK1618, Q_BK1626, Q_BK1633, Q_BK1640, Q_HB, Q_HO1644, Q_HO1650, Q_HO1656, Q_HO1662, Q_HO1666⟩ hb_ hon hoff
       refine ⟨_, rfl, fun K hK => ?_⟩
       have e12 : a.tmps[12]? = some (.pointer (some ⟨gb1618, 0, none⟩)) := by rw [ha]; exact (putSel_off rfl).trans rfl
       replace ha := Aside0.mk ha
       have BK1615 := Aside0.mk Q_BK1615
       have BK1616 := Aside0.mk Q_BK1616
       have BK1617 := Aside0.mk Q_BK1617
       have BK1618 := Aside0.mk Q_BK1618
       have BK1626 := Aside0.mk Q_BK1626
       have BK1633 := Aside0.mk Q_BK1633
       have BK1640 := Aside0.mk Q_BK1640
       have HB := Aside0.mk Q_HB
       have hc0_ : w'.cell? ⟨gb1618, 0, none⟩ = some (.bool a4_0) := (blk_cell BK1618.out 0).trans rfl
       have hc1_ : w'.cell? ⟨gb1618, 1, none⟩ = some (.int .u64 a4_1) := (blk_cell BK1618.out 1).trans rfl
       have hc2_ : w'.cell? ⟨gb1618, 2, none⟩ = some (.int .u64 a4_2) := (blk_cell BK1618.out 2).trans rfl
       refine value_ (w1 := w') (v := .agg #[.bool a4_0, .int .u64 a4_1, .int .u64 a4_2]) (by rfl) rfl ?_ ?_
       ·go_simp
        (try simp only [i64_w])
        try rfl
       refine hK.out _ _ ⟨v1643, v1649, v1655, v1661, v1665, (by rw [ha.out]; exact putSel_upk 1 hb_ rfl rfl rfl), Q_BK1615, Q_BK1616, Q_BK1617, Q_BK1618, Q_BK1626, Q_BK1633, Q_BK1640, Q_HB, fun h0_ => absurd ((hoff 3 (by kernel_rfl)).symm.trans h0_) (by decide), Q_HO1650, Q_HO1656, Q_HO1662, Q_HO1666⟩
      refine steps_cons ?_ ?_
      ·rintro b a w' ⟨v1643, v1649, v1655, v1661, v1665, ha, Q_BK1615, Q_BK1616, Q_BK1617, Q_BK1618, Q_BK1626, Q_BK1633, Q_BK1640, Q_HB, Q_HO1644, Q_HO1650, Q_HO1656, Q_HO1662, Q_HO1666⟩ hb_ hon hoff
       refine ⟨_, rfl, fun K hK => ?_⟩
       have e54 : a.tmps[54]? = some (.agg #[.bool a1_0, .int .u64 a1_1, .int .u64 a1_2]) := by rw [ha]; exact putSel_on (e := (1, 54, .agg #[.bool a1_0, .int .u64 a1_1, .int .u64 a1_2])) 0 rfl rfl (hon 1 (by kernel_rfl)) rfl
       have e55 : a.tmps[55]? = some (.agg #[.bool a4_0, .int .u64 a4_1, .int .u64 a4_2]) := by rw [ha]; exact putSel_on (e := (2, 55, .agg #[.bool a4_0, .int .u64 a4_1, .int .u64 a4_2])) 1 rfl rfl (hon 2 (by kernel_rfl)) rfl
       replace ha := Aside0.mk ha
       have BK1615 := Aside0.mk Q_BK1615
       have BK1616 := Aside0.mk Q_BK1616
       have BK1617 := Aside0.mk Q_BK1617
       have BK1618 := Aside0.mk Q_BK1618
       have BK1626 := Aside0.mk Q_BK1626
       have BK1633 := Aside0.mk Q_BK1633
       have BK1640 := Aside0.mk Q_BK1640
       have HB := Aside0.mk Q_HB
       refine Kd.R_lit_step k43 _ 43 ?hg (N := 56) ?hd (xs := ([(⟨a1_0, a1_1, a1_2⟩ : S43), (⟨a4_0, a4_1, a4_2⟩ : S43)] : List (S43))) (inner := [.bool a1_0, .int .u64 a1_1, .int .u64 a1_2, .bool a4_0, .int .u64 a4_1, .int .u64 a4_2]) (ok := fun _ => True) (okp := fun _ => True) ?hr ?hp (fun _ hk => hk) trivial (Below.refl _ _) (Nat.le_refl _) (by simp) ?_; (case hd => rfl); (case hg => rfl); (case hr => first | (go_simp; done) | (go_simp; rfl)); (case hp => exact (Reps.c3 (show Kd.M k43 _ _ _ (⟨a1_0, a1_1, a1_2⟩ : S43) [.bool a1_0, .int .u64 a1_1, .int .u64 a1_2] from (k43_mkM _ _ _ (⟨a1_0, a1_1, a1_2⟩ : S43) )) (Reps.c3 (show Kd.M k43 _ _ _ (⟨a4_0, a4_1, a4_2⟩ : S43) [.bool a4_0, .int .u64 a4_1, .int .u64 a4_2] from (k43_mkM _ _ _ (⟨a4_0, a4_1, a4_2⟩ : S43) )) (Reps.none _ _))))
       intro v1643 w132 ho133 hb hg_ hnew_
       clear hg_ hnew_
       (first | rw [← Ny1642.out] at ho133 | (simp only [Int.reduceToNat] at ho133; rw [← Ny1642.out] at ho133))
       have n0_ := Aside0.mk (Kd.R_lower (Kd.R_newB (Kd.R_newB (Kd.R_newB (Kd.R_newB (Kd.R_newB (Kd.R_newB (Kd.R_newB ho133 (g := gb1615) (o := .cells #[.bool a1_0, .int .u64 a1_1, .int .u64 a1_2] 43 (0, 0)) (zkq BK1615)) (g := gb1616) (o := .cells #[.bool a2_0, .int .u64 a2_1, .int .u64 a2_2] 43 (0, 0)) (zkq BK1616)) (g := gb1617) (o := .cells #[.bool a3_0, .int .u64 a3_1, .int .u64 a3_2] 43 (0, 0)) (zkq BK1617)) (g := gb1618) (o := .cells #[.bool a4_0, .int .u64 a4_1, .int .u64 a4_2] 43 (0, 0)) (zkq BK1618)) (g := gb1626) (o := .cells #[.bool t1623, .int .u64 t1624, .int .u64 t1625] 43 (0, 0)) (zkq BK1626)) (g := gb1633) (o := .cells #[.bool t1630, .int .u64 t1631, .int .u64 t1632] 43 (0, 0)) (zkq BK1633)) (g := gb1640) (o := .cells #[.bool t1637, .int .u64 t1638, .int .u64 t1639] 43 (0, 0)) (zkq BK1640)) (below_size zaB))
       have n1_ := Aside0.mk (blk_below (g := gb1615) (o := .cells #[.bool a1_0, .int .u64 a1_1, .int .u64 a1_2] 43 (0, 0)) (zkq BK1615) hb)
       have n2_ := Aside0.mk (blk_below (g := gb1616) (o := .cells #[.bool a2_0, .int .u64 a2_1, .int .u64 a2_2] 43 (0, 0)) (zkq BK1616) hb)
       have n3_ := Aside0.mk (blk_below (g := gb1617) (o := .cells #[.bool a3_0, .int .u64 a3_1, .int .u64 a3_2] 43 (0, 0)) (zkq BK1617) hb)
       have n4_ := Aside0.mk (blk_below (g := gb1618) (o := .cells #[.bool a4_0, .int .u64 a4_1, .int .u64 a4_2] 43 (0, 0)) (zkq BK1618) hb)
       have n5_ := Aside0.mk (blk_below (g := gb1626) (o := .cells #[.bool t1623, .int .u64 t1624, .int .u64 t1625] 43 (0, 0)) (zkq BK1626) hb)
       have n6_ := Aside0.mk (blk_below (g := gb1633) (o := .cells #[.bool t1630, .int .u64 t1631, .int .u64 t1632] 43 (0, 0)) (zkq BK1633) hb)
       have n7_ := Aside0.mk (blk_below (g := gb1640) (o := .cells #[.bool t1637, .int .u64 t1638, .int .u64 t1639] 43 (0, 0)) (zkq BK1640) hb)
       have n8_ := Aside0.mk (below_step zaB hb)
       have z_HO1650 := fun (h0_ : b 7 = true) => (show Kd.R k43 43 w132 w.heap.size (fun k_ => k_ ≠ gb1615 ∧ k_ ≠ gb1616 ∧ k_ ≠ gb1617 ∧ k_ ≠ gb1618 ∧ k_ ≠ gb1626 ∧ k_ ≠ gb1633 ∧ k_ ≠ gb1640) v1649 y1648 from by first | exact (Kd.R_elder' (by (with_reducible repeat (first | apply Kd.R_alloc | apply Kd.R_drewN | apply Kd.R_drew)); exact (Q_HO1650 h0_)) (Kd.R_base ho133) hb) | exact Kd.R_mono (Kd.R_elder' (by (with_reducible repeat (first | apply Kd.R_alloc | apply Kd.R_drewN | apply Kd.R_drew)); exact (Q_HO1650 h0_)) (Kd.R_base ho133) hb) (fun _ h_ => by first | trivial | exact h_ | exact h_.1))
       have z_HO1656 := fun (h0_ : b 11 = true) => (show Kd.R k43 43 w132 w.heap.size (fun k_ => k_ ≠ gb1615 ∧ k_ ≠ gb1616 ∧ k_ ≠ gb1617 ∧ k_ ≠ gb1618 ∧ k_ ≠ gb1626 ∧ k_ ≠ gb1633 ∧ k_ ≠ gb1640) v1655 y1654 from by first | exact (Kd.R_elder' (by (with_reducible repeat (first | apply Kd.R_alloc | apply Kd.R_drewN | apply Kd.R_drew)); exact (Q_HO1656 h0_)) (Kd.R_base ho133) hb) | exact Kd.R_mono (Kd.R_elder' (by (with_reducible repeat (first | apply Kd.R_alloc | apply Kd.R_drewN | apply Kd.R_drew)); exact (Q_HO1656 h0_)) (Kd.R_base ho133) hb) (fun _ h_ => by first | trivial | exact h_ | exact h_.1))
       have z_HO1662 := fun (h0_ : b 15 = true) => (show Kd.R (Kd.int .u64) 23 w132 w.heap.size (fun _ => True) v1661 y1660 from by first | exact (Kd.R_below (by (with_reducible repeat (first | apply Kd.R_alloc | apply Kd.R_drewN | apply Kd.R_drew)); exact (Q_HO1662 h0_)) hb) | exact Kd.R_mono (Kd.R_below (by (with_reducible repeat (first | apply Kd.R_alloc | apply Kd.R_drewN | apply Kd.R_drew)); exact (Q_HO1662 h0_)) hb) (fun _ h_ => by first | trivial | exact h_ | exact h_.1))
       have z_HO1666 := fun (h0_ : b 19 = true) => (show Kd.R (Kd.int .u64) 23 w132 w.heap.size (fun _ => True) v1665 y1664 from by first | exact (Kd.R_below (by (with_reducible repeat (first | apply Kd.R_alloc | apply Kd.R_drewN | apply Kd.R_drew)); exact (Q_HO1666 h0_)) hb) | exact Kd.R_mono (Kd.R_below (by (with_reducible repeat (first | apply Kd.R_alloc | apply Kd.R_drewN | apply Kd.R_drew)); exact (Q_HO1666 h0_)) hb) (fun _ h_ => by first | trivial | exact h_ | exact h_.1))
       clear BK1615
       clear BK1616
       clear BK1617
       clear BK1618
       clear BK1626
       clear BK1633
       clear BK1640
       clear HB
       have HO1644 := n0_
       have BK1615 := n1_
       have BK1616 := n2_
       have BK1617 := n3_
       have BK1618 := n4_
       have BK1626 := n5_
       have BK1633 := n6_
       have BK1640 := n7_
       have HB := n8_
       clear n0_ n1_ n2_ n3_ n4_ n5_ n6_ n7_ n8_
       clear hb ho133
       refine hK.out _ _ ⟨v1643, v1649, v1655, v1661, v1665, (by rw [ha.out]; exact putSel_upk 2 hb_ rfl rfl rfl), (zkq BK1615), (zkq BK1616), (zkq BK1617), (zkq BK1618), (zkq BK1626), (zkq BK1633), (zkq BK1640), zaB, fun _ => (by (with_reducible repeat (first | apply Kd.R_alloc | apply Kd.R_drewN | apply Kd.R_drew)); exact Kd.R_mono HO1644.out (fun _ hk => ⟨hk.1.1.1.1.1.1.2, ⟨hk.1.1.1.1.1.2, ⟨hk.1.1.1.1.2, ⟨hk.1.1.1.2, ⟨hk.1.1.2, ⟨hk.1.2, hk.2⟩⟩⟩⟩⟩⟩)), z_HO1650, z_HO1656, z_HO1662, z_HO1666⟩
      refine steps_cons ?_ ?_
      ·rintro b a w' ⟨v1643, v1649, v1655, v1661, v1665, ha, Q_BK1615, Q_BK1616, Q_BK1617, Q_BK1618, Q_BK1626, Q_BK1633, Q_BK1640, Q_HB, Q_HO1644, Q_HO1650, Q_HO1656, Q_HO1662, Q_HO1666⟩ hb_ hon hoff
       refine ⟨_, rfl, fun K hK => ?_⟩
       have e56 : a.tmps[56]? = some (v1643) := by rw [ha]; exact putSel_on (e := (3, 56, v1643)) 2 rfl rfl (hon 3 (by kernel_rfl)) rfl
       replace ha := Aside0.mk ha
       have BK1615 := Aside0.mk Q_BK1615
       have BK1616 := Aside0.mk Q_BK1616
       have BK1617 := Aside0.mk Q_BK1617
       have BK1618 := Aside0.mk Q_BK1618
       have BK1626 := Aside0.mk Q_BK1626
       have BK1633 := Aside0.mk Q_BK1633
       have BK1640 := Aside0.mk Q_BK1640
       have HB := Aside0.mk Q_HB
       have HO1644 := Aside0.mk (Q_HO1644 (hon 3 (by kernel_rfl)))
       obtain ⟨Ao135, co135, eo135⟩ := Kd.R_slice HO1644.out
       (first | subst eo135 | (injection eo135 with f1_ f2_ f3_; have f4_ := f1_.symm; have f5_ := f3_.symm; clear f1_ f2_ f3_; subst f4_; subst f5_))
       refine goes_ Try.func45 (by kernel_rfl) rfl #[.slice Ao135 y1642.length co135] (by rfl) rfl rfl (by first | (simp only [List.map_toArray, List.map_cons, List.map_nil, Act.eval, Array.getD_eq_getD_getElem?, Option.getD_some, e56]; done) | (simp only [List.map_toArray, List.map_cons, List.map_nil, Act.eval, Array.getD_eq_getD_getElem?, Option.getD_some, e56]; rfl)) ?_
       with_reducible refine (span_Join.calls kj13 _ _ y1642 t1645 t1646 t1647 _ ?side1 ?side2 A104.out).mono ?_
       (case side1 => repeat (first | exact (Kd.R_reads' HO1644.out).2.2 | (with_reducible refine Kd.C_alloc ?_ _) | (with_reducible refine Kd.C_drewN ?_ _) | (with_reducible refine Kd.C_drew ?_)))
       (case side2 => exact (Kd.R_reads' HO1644.out).2.1)
       rintro e w136 ⟨rfl, hb⟩
       refine ⟨_, rfl, ?_⟩
       have n0_ := Aside0.mk (Kd.R_below (zRW HO1644.out) hb)
       have n1_ := Aside0.mk (blk_below (g := gb1615) (o := .cells #[.bool a1_0, .int .u64 a1_1, .int .u64 a1_2] 43 (0, 0)) (zkq BK1615) hb)
       have n2_ := Aside0.mk (blk_below (g := gb1616) (o := .cells #[.bool a2_0, .int .u64 a2_1, .int .u64 a2_2] 43 (0, 0)) (zkq BK1616) hb)
       have n3_ := Aside0.mk (blk_below (g := gb1617) (o := .cells #[.bool a3_0, .int .u64 a3_1, .int .u64 a3_2] 43 (0, 0)) (zkq BK1617) hb)
       have n4_ := Aside0.mk (blk_below (g := gb1618) (o := .cells #[.bool a4_0, .int .u64 a4_1, .int .u64 a4_2] 43 (0, 0)) (zkq BK1618) hb)
       have n5_ := Aside0.mk (blk_below (g := gb1626) (o := .cells #[.bool t1623, .int .u64 t1624, .int .u64 t1625] 43 (0, 0)) (zkq BK1626) hb)
       have n6_ := Aside0.mk (blk_below (g := gb1633) (o := .cells #[.bool t1630, .int .u64 t1631, .int .u64 t1632] 43 (0, 0)) (zkq BK1633) hb)
       have n7_ := Aside0.mk (blk_below (g := gb1640) (o := .cells #[.bool t1637, .int .u64 t1638, .int .u64 t1639] 43 (0, 0)) (zkq BK1640) hb)
       have n8_ := Aside0.mk (below_step zaB hb)
       have z_HO1650 := fun (h0_ : b 7 = true) => (show Kd.R k43 43 w136 w.heap.size (fun k_ => k_ ≠ gb1615 ∧ k_ ≠ gb1616 ∧ k_ ≠ gb1617 ∧ k_ ≠ gb1618 ∧ k_ ≠ gb1626 ∧ k_ ≠ gb1633 ∧ k_ ≠ gb1640) v1649 y1648 from by first | exact (Kd.R_below (by (with_reducible repeat (first | apply Kd.R_alloc | apply Kd.R_drewN | apply Kd.R_drew)); exact (Q_HO1650 h0_)) hb) | exact Kd.R_mono (Kd.R_below (by (with_reducible repeat (first | apply Kd.R_alloc | apply Kd.R_drewN | apply Kd.R_drew)); exact (Q_HO1650 h0_)) hb) (fun _ h_ => by first | trivial | exact h_ | exact h_.1))
       have z_HO1656 := fun (h0_ : b 11 = true) => (show Kd.R k43 43 w136 w.heap.size (fun k_ => k_ ≠ gb1615 ∧ k_ ≠ gb1616 ∧ k_ ≠ gb1617 ∧ k_ ≠ gb1618 ∧ k_ ≠ gb1626 ∧ k_ ≠ gb1633 ∧ k_ ≠ gb1640) v1655 y1654 from by first | exact (Kd.R_below (by (with_reducible repeat (first | apply Kd.R_alloc | apply Kd.R_drewN | apply Kd.R_drew)); exact (Q_HO1656 h0_)) hb) | exact Kd.R_mono (Kd.R_below (by (with_reducible repeat (first | apply Kd.R_alloc | apply Kd.R_drewN | apply Kd.R_drew)); exact (Q_HO1656 h0_)) hb) (fun _ h_ => by first | trivial | exact h_ | exact h_.1))
       have z_HO1662 := fun (h0_ : b 15 = true) => (show Kd.R (Kd.int .u64) 23 w136 w.heap.size (fun _ => True) v1661 y1660 from by first | exact (Kd.R_below (by (with_reducible repeat (first | apply Kd.R_alloc | apply Kd.R_drewN | apply Kd.R_drew)); exact (Q_HO1662 h0_)) hb) | exact Kd.R_mono (Kd.R_below (by (with_reducible repeat (first | apply Kd.R_alloc | apply Kd.R_drewN | apply Kd.R_drew)); exact (Q_HO1662 h0_)) hb) (fun _ h_ => by first | trivial | exact h_ | exact h_.1))
       have z_HO1666 := fun (h0_ : b 19 = true) => (show Kd.R (Kd.int .u64) 23 w136 w.heap.size (fun _ => True) v1665 y1664 from by first | exact (Kd.R_below (by (with_reducible repeat (first | apply Kd.R_alloc | apply Kd.R_drewN | apply Kd.R_drew)); exact (Q_HO1666 h0_)) hb) | exact Kd.R_mono (Kd.R_below (by (with_reducible repeat (first | apply Kd.R_alloc | apply Kd.R_drewN | apply Kd.R_drew)); exact (Q_HO1666 h0_)) hb) (fun _ h_ => by first | trivial | exact h_ | exact h_.1))
       clear HO1644
       clear BK1615
       clear BK1616
       clear BK1617
       clear BK1618
       clear BK1626
       clear BK1633
       clear BK1640
       clear HB
       have HO1644 := n0_
       have BK1615 := n1_
       have BK1616 := n2_
       have BK1617 := n3_
       have BK1618 := n4_
       have BK1626 := n5_
       have BK1633 := n6_
       have BK1640 := n7_
       have HB := n8_
       clear n0_ n1_ n2_ n3_ n4_ n5_ n6_ n7_ n8_
       (try clear hb)
       refine hK.out _ _ ⟨.slice Ao135 y1642.length co135, v1649, v1655, v1661, v1665, (by rw [ha.out]; exact putSel_upk 3 hb_ rfl rfl rfl), (zkq BK1615), (zkq BK1616), (zkq BK1617), (zkq BK1618), (zkq BK1626), (zkq BK1633), (zkq BK1640), zaB, fun _ => (zRW HO1644.out), z_HO1650, z_HO1656, z_HO1662, z_HO1666⟩
      refine steps_cons ?_ ?_
      ·rintro b a w' ⟨v1643, v1649, v1655, v1661, v1665, ha, Q_BK1615, Q_BK1616, Q_BK1617, Q_BK1618, Q_BK1626, Q_BK1633, Q_BK1640, Q_HB, Q_HO1644, Q_HO1650, Q_HO1656, Q_HO1662, Q_HO1666⟩ hb_ hon hoff
       refine ⟨_, rfl, fun K hK => ?_⟩
       have e10 : a.tmps[10]? = some (.pointer (some ⟨gb1616, 0, none⟩)) := by rw [ha]; exact (putSel_off rfl).trans rfl
       replace ha := Aside0.mk ha
       have BK1615 := Aside0.mk Q_BK1615
       have BK1616 := Aside0.mk Q_BK1616
       have BK1617 := Aside0.mk Q_BK1617
       have BK1618 := Aside0.mk Q_BK1618
       have BK1626 := Aside0.mk Q_BK1626
       have BK1633 := Aside0.mk Q_BK1633
       have BK1640 := Aside0.mk Q_BK1640
       have HB := Aside0.mk Q_HB
       have hc0_ : w'.cell? ⟨gb1616, 0, none⟩ = some (.bool a2_0) := (blk_cell BK1616.out 0).trans rfl
       have hc1_ : w'.cell? ⟨gb1616, 1, none⟩ = some (.int .u64 a2_1) := (blk_cell BK1616.out 1).trans rfl
       have hc2_ : w'.cell? ⟨gb1616, 2, none⟩ = some (.int .u64 a2_2) := (blk_cell BK1616.out 2).trans rfl
       refine value_ (w1 := w') (v := .agg #[.bool a2_0, .int .u64 a2_1, .int .u64 a2_2]) (by rfl) rfl ?_ ?_
       ·go_simp
        (try simp only [i64_w])
        try rfl
       refine hK.out _ _ ⟨v1643, v1649, v1655, v1661, v1665, (by rw [ha.out]; exact putSel_upk 4 hb_ rfl rfl rfl), Q_BK1615, Q_BK1616, Q_BK1617, Q_BK1618, Q_BK1626, Q_BK1633, Q_BK1640, Q_HB, Q_HO1644, fun h0_ => absurd ((hoff 7 (by kernel_rfl)).symm.trans h0_) (by decide), Q_HO1656, Q_HO1662, Q_HO1666⟩
      refine steps_cons ?_ ?_
      ·rintro b a w' ⟨v1643, v1649, v1655, v1661, v1665, ha, Q_BK1615, Q_BK1616, Q_BK1617, Q_BK1618, Q_BK1626, Q_BK1633, Q_BK1640, Q_HB, Q_HO1644, Q_HO1650, Q_HO1656, Q_HO1662, Q_HO1666⟩ hb_ hon hoff
       refine ⟨_, rfl, fun K hK => ?_⟩
       have e12 : a.tmps[12]? = some (.pointer (some ⟨gb1618, 0, none⟩)) := by rw [ha]; exact (putSel_off rfl).trans rfl
       replace ha := Aside0.mk ha
       have BK1615 := Aside0.mk Q_BK1615
       have BK1616 := Aside0.mk Q_BK1616
       have BK1617 := Aside0.mk Q_BK1617
       have BK1618 := Aside0.mk Q_BK1618
       have BK1626 := Aside0.mk Q_BK1626
       have BK1633 := Aside0.mk Q_BK1633
       have BK1640 := Aside0.mk Q_BK1640
       have HB := Aside0.mk Q_HB
       have hc0_ : w'.cell? ⟨gb1618, 0, none⟩ = some (.bool a4_0) := (blk_cell BK1618.out 0).trans rfl
       have hc1_ : w'.cell? ⟨gb1618, 1, none⟩ = some (.int .u64 a4_1) := (blk_cell BK1618.out 1).trans rfl
       have hc2_ : w'.cell? ⟨gb1618, 2, none⟩ = some (.int .u64 a4_2) := (blk_cell BK1618.out 2).trans rfl
       refine value_ (w1 := w') (v := .agg #[.bool a4_0, .int .u64 a4_1, .int .u64 a4_2]) (by rfl) rfl ?_ ?_
       ·go_simp
        (try simp only [i64_w])
        try rfl
       refine hK.out _ _ ⟨v1643, v1649, v1655, v1661, v1665, (by rw [ha.out]; exact putSel_upk 5 hb_ rfl rfl rfl), Q_BK1615, Q_BK1616, Q_BK1617, Q_BK1618, Q_BK1626, Q_BK1633, Q_BK1640, Q_HB, Q_HO1644, fun h0_ => absurd ((hoff 7 (by kernel_rfl)).symm.trans h0_) (by decide), Q_HO1656, Q_HO1662, Q_HO1666⟩
      refine steps_cons ?_ ?_
      ·rintro b a w' ⟨v1643, v1649, v1655, v1661, v1665, ha, Q_BK1615, Q_BK1616, Q_BK1617, Q_BK1618, Q_BK1626, Q_BK1633, Q_BK1640, Q_HB, Q_HO1644, Q_HO1650, Q_HO1656, Q_HO1662, Q_HO1666⟩ hb_ hon hoff
       refine ⟨_, rfl, fun K hK => ?_⟩
       have e58 : a.tmps[58]? = some (.agg #[.bool a2_0, .int .u64 a2_1, .int .u64 a2_2]) := by rw [ha]; exact putSel_on (e := (5, 58, .agg #[.bool a2_0, .int .u64 a2_1, .int .u64 a2_2])) 4 rfl rfl (hon 5 (by kernel_rfl)) rfl
       have e59 : a.tmps[59]? = some (.agg #[.bool a4_0, .int .u64 a4_1, .int .u64 a4_2]) := by rw [ha]; exact putSel_on (e := (6, 59, .agg #[.bool a4_0, .int .u64 a4_1, .int .u64 a4_2])) 5 rfl rfl (hon 6 (by kernel_rfl)) rfl
       replace ha := Aside0.mk ha
       have BK1615 := Aside0.mk Q_BK1615
       have BK1616 := Aside0.mk Q_BK1616
       have BK1617 := Aside0.mk Q_BK1617
       have BK1618 := Aside0.mk Q_BK1618
       have BK1626 := Aside0.mk Q_BK1626
       have BK1633 := Aside0.mk Q_BK1633
       have BK1640 := Aside0.mk Q_BK1640
       have HB := Aside0.mk Q_HB
       refine Kd.R_lit_step k43 _ 43 ?hg (N := 60) ?hd (xs := ([(⟨a2_0, a2_1, a2_2⟩ : S43), (⟨a4_0, a4_1, a4_2⟩ : S43)] : List (S43))) (inner := [.bool a2_0, .int .u64 a2_1, .int .u64 a2_2, .bool a4_0, .int .u64 a4_1, .int .u64 a4_2]) (ok := fun _ => True) (okp := fun _ => True) ?hr ?hp (fun _ hk => hk) trivial (Below.refl _ _) (Nat.le_refl _) (by simp) ?_; (case hd => rfl); (case hg => rfl); (case hr => first | (go_simp; done) | (go_simp; rfl)); (case hp => exact (Reps.c3 (show Kd.M k43 _ _ _ (⟨a2_0, a2_1, a2_2⟩ : S43) [.bool a2_0, .int .u64 a2_1, .int .u64 a2_2] from (k43_mkM _ _ _ (⟨a2_0, a2_1, a2_2⟩ : S43) )) (Reps.c3 (show Kd.M k43 _ _ _ (⟨a4_0, a4_1, a4_2⟩ : S43) [.bool a4_0, .int .u64 a4_1, .int .u64 a4_2] from (k43_mkM _ _ _ (⟨a4_0, a4_1, a4_2⟩ : S43) )) (Reps.none _ _))))
       intro v1649 w132 ho133 hb hg_ hnew_
       clear hg_ hnew_
       (first | rw [← Ny1648.out] at ho133 | (simp only [Int.reduceToNat] at ho133; rw [← Ny1648.out] at ho133))
       have n0_ := Aside0.mk (Kd.R_lower (Kd.R_newB (Kd.R_newB (Kd.R_newB (Kd.R_newB (Kd.R_newB (Kd.R_newB (Kd.R_newB ho133 (g := gb1615) (o := .cells #[.bool a1_0, .int .u64 a1_1, .int .u64 a1_2] 43 (0, 0)) (zkq BK1615)) (g := gb1616) (o := .cells #[.bool a2_0, .int .u64 a2_1, .int .u64 a2_2] 43 (0, 0)) (zkq BK1616)) (g := gb1617) (o := .cells #[.bool a3_0, .int .u64 a3_1, .int .u64 a3_2] 43 (0, 0)) (zkq BK1617)) (g := gb1618) (o := .cells #[.bool a4_0, .int .u64 a4_1, .int .u64 a4_2] 43 (0, 0)) (zkq BK1618)) (g := gb1626) (o := .cells #[.bool t1623, .int .u64 t1624, .int .u64 t1625] 43 (0, 0)) (zkq BK1626)) (g := gb1633) (o := .cells #[.bool t1630, .int .u64 t1631, .int .u64 t1632] 43 (0, 0)) (zkq BK1633)) (g := gb1640) (o := .cells #[.bool t1637, .int .u64 t1638, .int .u64 t1639] 43 (0, 0)) (zkq BK1640)) (below_size zaB))
       have n1_ := Aside0.mk (blk_below (g := gb1615) (o := .cells #[.bool a1_0, .int .u64 a1_1, .int .u64 a1_2] 43 (0, 0)) (zkq BK1615) hb)
       have n2_ := Aside0.mk (blk_below (g := gb1616) (o := .cells #[.bool a2_0, .int .u64 a2_1, .int .u64 a2_2] 43 (0, 0)) (zkq BK1616) hb)
       have n3_ := Aside0.mk (blk_below (g := gb1617) (o := .cells #[.bool a3_0, .int .u64 a3_1, .int .u64 a3_2] 43 (0, 0)) (zkq BK1617) hb)
       have n4_ := Aside0.mk (blk_below (g := gb1618) (o := .cells #[.bool a4_0, .int .u64 a4_1, .int .u64 a4_2] 43 (0, 0)) (zkq BK1618) hb)
       have n5_ := Aside0.mk (blk_below (g := gb1626) (o := .cells #[.bool t1623, .int .u64 t1624, .int .u64 t1625] 43 (0, 0)) (zkq BK1626) hb)
       have n6_ := Aside0.mk (blk_below (g := gb1633) (o := .cells #[.bool t1630, .int .u64 t1631, .int .u64 t1632] 43 (0, 0)) (zkq BK1633) hb)
       have n7_ := Aside0.mk (blk_below (g := gb1640) (o := .cells #[.bool t1637, .int .u64 t1638, .int .u64 t1639] 43 (0, 0)) (zkq BK1640) hb)
       have n8_ := Aside0.mk (below_step zaB hb)
       have z_HO1644 := fun (h0_ : b 3 = true) => (show Kd.R k43 43 w132 w.heap.size (fun k_ => k_ ≠ gb1615 ∧ k_ ≠ gb1616 ∧ k_ ≠ gb1617 ∧ k_ ≠ gb1618 ∧ k_ ≠ gb1626 ∧ k_ ≠ gb1633 ∧ k_ ≠ gb1640) v1643 y1642 from by first | exact (Kd.R_elder' (by (with_reducible repeat (first | apply Kd.R_alloc | apply Kd.R_drewN | apply Kd.R_drew)); exact (Q_HO1644 h0_)) (Kd.R_base ho133) hb) | exact Kd.R_mono (Kd.R_elder' (by (with_reducible repeat (first | apply Kd.R_alloc | apply Kd.R_drewN | apply Kd.R_drew)); exact (Q_HO1644 h0_)) (Kd.R_base ho133) hb) (fun _ h_ => by first | trivial | exact h_ | exact h_.1))
       have z_HO1656 := fun (h0_ : b 11 = true) => (show Kd.R k43 43 w132 w.heap.size (fun k_ => k_ ≠ gb1615 ∧ k_ ≠ gb1616 ∧ k_ ≠ gb1617 ∧ k_ ≠ gb1618 ∧ k_ ≠ gb1626 ∧ k_ ≠ gb1633 ∧ k_ ≠ gb1640) v1655 y1654 from by first | exact (Kd.R_elder' (by (with_reducible repeat (first | apply Kd.R_alloc | apply Kd.R_drewN | apply Kd.R_drew)); exact (Q_HO1656 h0_)) (Kd.R_base ho133) hb) | exact Kd.R_mono (Kd.R_elder' (by (with_reducible repeat (first | apply Kd.R_alloc | apply Kd.R_drewN | apply Kd.R_drew)); exact (Q_HO1656 h0_)) (Kd.R_base ho133) hb) (fun _ h_ => by first | trivial | exact h_ | exact h_.1))
       have z_HO1662 := fun (h0_ : b 15 = true) => (show Kd.R (Kd.int .u64) 23 w132 w.heap.size (fun _ => True) v1661 y1660 from by first | exact (Kd.R_below (by (with_reducible repeat (first | apply Kd.R_alloc | apply Kd.R_drewN | apply Kd.R_drew)); exact (Q_HO1662 h0_)) hb) | exact Kd.R_mono (Kd.R_below (by (with_reducible repeat (first | apply Kd.R_alloc | apply Kd.R_drewN | apply Kd.R_drew)); exact (Q_HO1662 h0_)) hb) (fun _ h_ => by first | trivial | exact h_ | exact h_.1))
       have z_HO1666 := fun (h0_ : b 19 = true) => (show Kd.R (Kd.int .u64) 23 w132 w.heap.size (fun _ => True) v1665 y1664 from by first | exact (Kd.R_below (by (with_reducible repeat (first | apply Kd.R_alloc | apply Kd.R_drewN | apply Kd.R_drew)); exact (Q_HO1666 h0_)) hb) | exact Kd.R_mono (Kd.R_below (by (with_reducible repeat (first | apply Kd.R_alloc | apply Kd.R_drewN | apply Kd.R_drew)); exact (Q_HO1666 h0_)) hb) (fun _ h_ => by first | trivial | exact h_ | exact h_.1))
       clear BK1615
       clear BK1616
       clear BK1617
       clear BK1618
       clear BK1626
       clear BK1633
       clear BK1640
       clear HB
       have HO1650 := n0_
       have BK1615 := n1_
       have BK1616 := n2_
       have BK1617 := n3_
       have BK1618 := n4_
       have BK1626 := n5_
       have BK1633 := n6_
       have BK1640 := n7_
       have HB := n8_
       clear n0_ n1_ n2_ n3_ n4_ n5_ n6_ n7_ n8_
       clear hb ho133
       refine hK.out _ _ ⟨v1643, v1649, v1655, v1661, v1665, (by rw [ha.out]; exact putSel_upk 6 hb_ rfl rfl rfl), (zkq BK1615), (zkq BK1616), (zkq BK1617), (zkq BK1618), (zkq BK1626), (zkq BK1633), (zkq BK1640), zaB, z_HO1644, fun _ => (by (with_reducible repeat (first | apply Kd.R_alloc | apply Kd.R_drewN | apply Kd.R_drew)); exact Kd.R_mono HO1650.out (fun _ hk => ⟨hk.1.1.1.1.1.1.2, ⟨hk.1.1.1.1.1.2, ⟨hk.1.1.1.1.2, ⟨hk.1.1.1.2, ⟨hk.1.1.2, ⟨hk.1.2, hk.2⟩⟩⟩⟩⟩⟩)), z_HO1656, z_HO1662, z_HO1666⟩
      refine steps_cons ?_ ?_
      ·rintro b a w' ⟨v1643, v1649, v1655, v1661, v1665, ha, Q_BK1615, Q_BK1616, Q_BK1617, Q_BK1618, Q_BK1626, Q_BK1633, Q_BK1640, Q_HB, Q_HO1644, Q_HO1650, Q_HO1656, Q_HO1662, Q_HO1666⟩ hb_ hon hoff
       refine ⟨_, rfl, fun K hK => ?_⟩
       have e60 : a.tmps[60]? = some (v1649) := by rw [ha]; exact putSel_on (e := (7, 60, v1649)) 6 rfl rfl (hon 7 (by kernel_rfl)) rfl
       replace ha := Aside0.mk ha
       have BK1615 := Aside0.mk Q_BK1615
       have BK1616 := Aside0.mk Q_BK1616
       have BK1617 := Aside0.mk Q_BK1617
       have BK1618 := Aside0.mk Q_BK1618
       have BK1626 := Aside0.mk Q_BK1626
       have BK1633 := Aside0.mk Q_BK1633
       have BK1640 := Aside0.mk Q_BK1640
       have HB := Aside0.mk Q_HB
       have HO1644 := Aside0.mk (Q_HO1644 (hon 3 (by kernel_rfl)))
       have HO1650 := Aside0.mk (Q_HO1650 (hon 7 (by kernel_rfl)))
       obtain ⟨Ao139, co139, eo139⟩ := Kd.R_slice HO1650.out
       (first | subst eo139 | (injection eo139 with f1_ f2_ f3_; have f4_ := f1_.symm; have f5_ := f3_.symm; clear f1_ f2_ f3_; subst f4_; subst f5_))
       refine goes_ Try.func45 (by kernel_rfl) rfl #[.slice Ao139 y1648.length co139] (by rfl) rfl rfl (by first | (simp only [List.map_toArray, List.map_cons, List.map_nil, Act.eval, Array.getD_eq_getD_getElem?, Option.getD_some, e60]; done) | (simp only [List.map_toArray, List.map_cons, List.map_nil, Act.eval, Array.getD_eq_getD_getElem?, Option.getD_some, e60]; rfl)) ?_
       with_reducible refine (span_Join.calls kj13 _ _ y1648 t1651 t1652 t1653 _ ?side1 ?side2 A105.out).mono ?_
       (case side1 => repeat (first | exact (Kd.R_reads' HO1650.out).2.2 | (with_reducible refine Kd.C_alloc ?_ _) | (with_reducible refine Kd.C_drewN ?_ _) | (with_reducible refine Kd.C_drew ?_)))
       (case side2 => exact (Kd.R_reads' HO1650.out).2.1)
       rintro e w140 ⟨rfl, hb⟩
       refine ⟨_, rfl, ?_⟩
       have n0_ := Aside0.mk (Kd.R_below (zRW HO1644.out) hb)
       have n1_ := Aside0.mk (Kd.R_below (zRW HO1650.out) hb)
       have n2_ := Aside0.mk (blk_below (g := gb1615) (o := .cells #[.bool a1_0, .int .u64 a1_1, .int .u64 a1_2] 43 (0, 0)) (zkq BK1615) hb)
       have n3_ := Aside0.mk (blk_below (g := gb1616) (o := .cells #[.bool a2_0, .int .u64 a2_1, .int .u64 a2_2] 43 (0, 0)) (zkq BK1616) hb)
       have n4_ := Aside0.mk (blk_below (g := gb1617) (o := .cells #[.bool a3_0, .int .u64 a3_1, .int .u64 a3_2] 43 (0, 0)) (zkq BK1617) hb)
       have n5_ := Aside0.mk (blk_below (g := gb1618) (o := .cells #[.bool a4_0, .int .u64 a4_1, .int .u64 a4_2] 43 (0, 0)) (zkq BK1618) hb)
       have n6_ := Aside0.mk (blk_below (g := gb1626) (o := .cells #[.bool t1623, .int .u64 t1624, .int .u64 t1625] 43 (0, 0)) (zkq BK1626) hb)
       have n7_ := Aside0.mk (blk_below (g := gb1633) (o := .cells #[.bool t1630, .int .u64 t1631, .int .u64 t1632] 43 (0, 0)) (zkq BK1633) hb)
       have n8_ := Aside0.mk (blk_below (g := gb1640) (o := .cells #[.bool t1637, .int .u64 t1638, .int .u64 t1639] 43 (0, 0)) (zkq BK1640) hb)
       have n9_ := Aside0.mk (below_step zaB hb)
       have z_HO1656 := fun (h0_ : b 11 = true) => (show Kd.R k43 43 w140 w.heap.size (fun k_ => k_ ≠ gb1615 ∧ k_ ≠ gb1616 ∧ k_ ≠ gb1617 ∧ k_ ≠ gb1618 ∧ k_ ≠ gb1626 ∧ k_ ≠ gb1633 ∧ k_ ≠ gb1640) v1655 y1654 from by first | exact (Kd.R_below (by (with_reducible repeat (first | apply Kd.R_alloc | apply Kd.R_drewN | apply Kd.R_drew)); exact (Q_HO1656 h0_)) hb) | exact Kd.R_mono (Kd.R_below (by (with_reducible repeat (first | apply Kd.R_alloc | apply Kd.R_drewN | apply Kd.R_drew)); exact (Q_HO1656 h0_)) hb) (fun _ h_ => by first | trivial | exact h_ | exact h_.1))
       have z_HO1662 := fun (h0_ : b 15 = true) => (show Kd.R (Kd.int .u64) 23 w140 w.heap.size (fun _ => True) v1661 y1660 from by first | exact (Kd.R_below (by (with_reducible repeat (first | apply Kd.R_alloc | apply Kd.R_drewN | apply Kd.R_drew)); exact (Q_HO1662 h0_)) hb) | exact Kd.R_mono (Kd.R_below (by (with_reducible repeat (first | apply Kd.R_alloc | apply Kd.R_drewN | apply Kd.R_drew)); exact (Q_HO1662 h0_)) hb) (fun _ h_ => by first | trivial | exact h_ | exact h_.1))
       have z_HO1666 := fun (h0_ : b 19 = true) => (show Kd.R (Kd.int .u64) 23 w140 w.heap.size (fun _ => True) v1665 y1664 from by first | exact (Kd.R_below (by (with_reducible repeat (first | apply Kd.R_alloc | apply Kd.R_drewN | apply Kd.R_drew)); exact (Q_HO1666 h0_)) hb) | exact Kd.R_mono (Kd.R_below (by (with_reducible repeat (first | apply Kd.R_alloc | apply Kd.R_drewN | apply Kd.R_drew)); exact (Q_HO1666 h0_)) hb) (fun _ h_ => by first | trivial | exact h_ | exact h_.1))
       clear HO1644
       clear HO1650
       clear BK1615
       clear BK1616
       clear BK1617
       clear BK1618
       clear BK1626
       clear BK1633
       clear BK1640
       clear HB
       have HO1644 := n0_
       have HO1650 := n1_
       have BK1615 := n2_
       have BK1616 := n3_
       have BK1617 := n4_
       have BK1618 := n5_
       have BK1626 := n6_
       have BK1633 := n7_
       have BK1640 := n8_
       have HB := n9_
       clear n0_ n1_ n2_ n3_ n4_ n5_ n6_ n7_ n8_ n9_
       (try clear hb)
       refine hK.out _ _ ⟨v1643, .slice Ao139 y1648.length co139, v1655, v1661, v1665, (by rw [ha.out]; exact putSel_upk 7 hb_ rfl rfl rfl), (zkq BK1615), (zkq BK1616), (zkq BK1617), (zkq BK1618), (zkq BK1626), (zkq BK1633), (zkq BK1640), zaB, fun _ => (zRW HO1644.out), fun _ => (zRW HO1650.out), z_HO1656, z_HO1662, z_HO1666⟩
      refine steps_cons ?_ ?_
      ·rintro b a w' ⟨v1643, v1649, v1655, v1661, v1665, ha, Q_BK1615, Q_BK1616, Q_BK1617, Q_BK1618, Q_BK1626, Q_BK1633, Q_BK1640, Q_HB, Q_HO1644, Q_HO1650, Q_HO1656, Q_HO1662, Q_HO1666⟩ hb_ hon hoff
       refine ⟨_, rfl, fun K hK => ?_⟩
       have e11 : a.tmps[11]? = some (.pointer (some ⟨gb1617, 0, none⟩)) := by rw [ha]; exact (putSel_off rfl).trans rfl
       replace ha := Aside0.mk ha
       have BK1615 := Aside0.mk Q_BK1615
       have BK1616 := Aside0.mk Q_BK1616
       have BK1617 := Aside0.mk Q_BK1617
       have BK1618 := Aside0.mk Q_BK1618
       have BK1626 := Aside0.mk Q_BK1626
       have BK1633 := Aside0.mk Q_BK1633
       have BK1640 := Aside0.mk Q_BK1640
       have HB := Aside0.mk Q_HB
       have hc0_ : w'.cell? ⟨gb1617, 0, none⟩ = some (.bool a3_0) := (blk_cell BK1617.out 0).trans rfl
       have hc1_ : w'.cell? ⟨gb1617, 1, none⟩ = some (.int .u64 a3_1) := (blk_cell BK1617.out 1).trans rfl
       have hc2_ : w'.cell? ⟨gb1617, 2, none⟩ = some (.int .u64 a3_2) := (blk_cell BK1617.out 2).trans rfl
       refine value_ (w1 := w') (v := .agg #[.bool a3_0, .int .u64 a3_1, .int .u64 a3_2]) (by rfl) rfl ?_ ?_
       ·go_simp
        (try simp only [i64_w])
        try rfl
       refine hK.out _ _ ⟨v1643, v1649, v1655, v1661, v1665, (by rw [ha.out]; exact putSel_upk 8 hb_ rfl rfl rfl), Q_BK1615, Q_BK1616, Q_BK1617, Q_BK1618, Q_BK1626, Q_BK1633, Q_BK1640, Q_HB, Q_HO1644, Q_HO1650, fun h0_ => absurd ((hoff 11 (by kernel_rfl)).symm.trans h0_) (by decide), Q_HO1662, Q_HO1666⟩
      refine steps_cons ?_ ?_
      ·rintro b a w' ⟨v1643, v1649, v1655, v1661, v1665, ha, Q_BK1615, Q_BK1616, Q_BK1617, Q_BK1618, Q_BK1626, Q_BK1633, Q_BK1640, Q_HB, Q_HO1644, Q_HO1650, Q_HO1656, Q_HO1662, Q_HO1666⟩ hb_ hon hoff
       refine ⟨_, rfl, fun K hK => ?_⟩
       have e12 : a.tmps[12]? = some (.pointer (some ⟨gb1618, 0, none⟩)) := by rw [ha]; exact (putSel_off rfl).trans rfl
       replace ha := Aside0.mk ha
       have BK1615 := Aside0.mk Q_BK1615
       have BK1616 := Aside0.mk Q_BK1616
       have BK1617 := Aside0.mk Q_BK1617
       have BK1618 := Aside0.mk Q_BK1618
       have BK1626 := Aside0.mk Q_BK1626
       have BK1633 := Aside0.mk Q_BK1633
       have BK1640 := Aside0.mk Q_BK1640
       have HB := Aside0.mk Q_HB
       have hc0_ : w'.cell? ⟨gb1618, 0, none⟩ = some (.bool a4_0) := (blk_cell BK1618.out 0).trans rfl
       have hc1_ : w'.cell? ⟨gb1618, 1, none⟩ = some (.int .u64 a4_1) := (blk_cell BK1618.out 1).trans rfl
       have hc2_ : w'.cell? ⟨gb1618, 2, none⟩ = some (.int .u64 a4_2) := (blk_cell BK1618.out 2).trans rfl
       refine value_ (w1 := w') (v := .agg #[.bool a4_0, .int .u64 a4_1, .int .u64 a4_2]) (by rfl) rfl ?_ ?_
       ·go_simp
        (try simp only [i64_w])
        try rfl
       refine hK.out _ _ ⟨v1643, v1649, v1655, v1661, v1665, (by rw [ha.out]; exact putSel_upk 9 hb_ rfl rfl rfl), Q_BK1615, Q_BK1616, Q_BK1617, Q_BK1618, Q_BK1626, Q_BK1633, Q_BK1640, Q_HB, Q_HO1644, Q_HO1650, fun h0_ => absurd ((hoff 11 (by kernel_rfl)).symm.trans h0_) (by decide), Q_HO1662, Q_HO1666⟩
      refine steps_cons ?_ ?_
      ·rintro b a w' ⟨v1643, v1649, v1655, v1661, v1665, ha, Q_BK1615, Q_BK1616, Q_BK1617, Q_BK1618, Q_BK1626, Q_BK1633, Q_BK1640, Q_HB, Q_HO1644, Q_HO1650, Q_HO1656, Q_HO1662, Q_HO1666⟩ hb_ hon hoff
       refine ⟨_, rfl, fun K hK => ?_⟩
       have e62 : a.tmps[62]? = some (.agg #[.bool a3_0, .int .u64 a3_1, .int .u64 a3_2]) := by rw [ha]; exact putSel_on (e := (9, 62, .agg #[.bool a3_0, .int .u64 a3_1, .int .u64 a3_2])) 8 rfl rfl (hon 9 (by kernel_rfl)) rfl
       have e63 : a.tmps[63]? = some (.agg #[.bool a4_0, .int .u64 a4_1, .int .u64 a4_2]) := by rw [ha]; exact putSel_on (e := (10, 63, .agg #[.bool a4_0, .int .u64 a4_1, .int .u64 a4_2])) 9 rfl rfl (hon 10 (by kernel_rfl)) rfl
       replace ha := Aside0.mk ha
       have BK1615 := Aside0.mk Q_BK1615
       have BK1616 := Aside0.mk Q_BK1616
       have BK1617 := Aside0.mk Q_BK1617
       have BK1618 := Aside0.mk Q_BK1618
       have BK1626 := Aside0.mk Q_BK1626
       have BK1633 := Aside0.mk Q_BK1633
       have BK1640 := Aside0.mk Q_BK1640
       have HB := Aside0.mk Q_HB
       refine Kd.R_lit_step k43 _ 43 ?hg (N := 64) ?hd (xs := ([(⟨a3_0, a3_1, a3_2⟩ : S43), (⟨a4_0, a4_1, a4_2⟩ : S43)] : List (S43))) (inner := [.bool a3_0, .int .u64 a3_1, .int .u64 a3_2, .bool a4_0, .int .u64 a4_1, .int .u64 a4_2]) (ok := fun _ => True) (okp := fun _ => True) ?hr ?hp (fun _ hk => hk) trivial (Below.refl _ _) (Nat.le_refl _) (by simp) ?_; (case hd => rfl); (case hg => rfl); (case hr => first | (go_simp; done) | (go_simp; rfl)); (case hp => exact (Reps.c3 (show Kd.M k43 _ _ _ (⟨a3_0, a3_1, a3_2⟩ : S43) [.bool a3_0, .int .u64 a3_1, .int .u64 a3_2] from (k43_mkM _ _ _ (⟨a3_0, a3_1, a3_2⟩ : S43) )) (Reps.c3 (show Kd.M k43 _ _ _ (⟨a4_0, a4_1, a4_2⟩ : S43) [.bool a4_0, .int .u64 a4_1, .int .u64 a4_2] from (k43_mkM _ _ _ (⟨a4_0, a4_1, a4_2⟩ : S43) )) (Reps.none _ _))))
       intro v1655 w132 ho133 hb hg_ hnew_
       clear hg_ hnew_
       (first | rw [← Ny1654.out] at ho133 | (simp only [Int.reduceToNat] at ho133; rw [← Ny1654.out] at ho133))
       have n0_ := Aside0.mk (Kd.R_lower (Kd.R_newB (Kd.R_newB (Kd.R_newB (Kd.R_newB (Kd.R_newB (Kd.R_newB (Kd.R_newB ho133 (g := gb1615) (o := .cells #[.bool a1_0, .int .u64 a1_1, .int .u64 a1_2] 43 (0, 0)) (zkq BK1615)) (g := gb1616) (o := .cells #[.bool a2_0, .int .u64 a2_1, .int .u64 a2_2] 43 (0, 0)) (zkq BK1616)) (g := gb1617) (o := .cells #[.bool a3_0, .int .u64 a3_1, .int .u64 a3_2] 43 (0, 0)) (zkq BK1617)) (g := gb1618) (o := .cells #[.bool a4_0, .int .u64 a4_1, .int .u64 a4_2] 43 (0, 0)) (zkq BK1618)) (g := gb1626) (o := .cells #[.bool t1623, .int .u64 t1624, .int .u64 t1625] 43 (0, 0)) (zkq BK1626)) (g := gb1633) (o := .cells #[.bool t1630, .int .u64 t1631, .int .u64 t1632] 43 (0, 0)) (zkq BK1633)) (g := gb1640) (o := .cells #[.bool t1637, .int .u64 t1638, .int .u64 t1639] 43 (0, 0)) (zkq BK1640)) (below_size zaB))
       have n1_ := Aside0.mk (blk_below (g := gb1615) (o := .cells #[.bool a1_0, .int .u64 a1_1, .int .u64 a1_2] 43 (0, 0)) (zkq BK1615) hb)
       have n2_ := Aside0.mk (blk_below (g := gb1616) (o := .cells #[.bool a2_0, .int .u64 a2_1, .int .u64 a2_2] 43 (0, 0)) (zkq BK1616) hb)
       have n3_ := Aside0.mk (blk_below (g := gb1617) (o := .cells #[.bool a3_0, .int .u64 a3_1, .int .u64 a3_2] 43 (0, 0)) (zkq BK1617) hb)
       have n4_ := Aside0.mk (blk_below (g := gb1618) (o := .cells #[.bool a4_0, .int .u64 a4_1, .int .u64 a4_2] 43 (0, 0)) (zkq BK1618) hb)
       have n5_ := Aside0.mk (blk_below (g := gb1626) (o := .cells #[.bool t1623, .int .u64 t1624, .int .u64 t1625] 43 (0, 0)) (zkq BK1626) hb)
       have n6_ := Aside0.mk (blk_below (g := gb1633) (o := .cells #[.bool t1630, .int .u64 t1631, .int .u64 t1632] 43 (0, 0)) (zkq BK1633) hb)
       have n7_ := Aside0.mk (blk_below (g := gb1640) (o := .cells #[.bool t1637, .int .u64 t1638, .int .u64 t1639] 43 (0, 0)) (zkq BK1640) hb)
       have n8_ := Aside0.mk (below_step zaB hb)
       have z_HO1644 := fun (h0_ : b 3 = true) => (show Kd.R k43 43 w132 w.heap.size (fun k_ => k_ ≠ gb1615 ∧ k_ ≠ gb1616 ∧ k_ ≠ gb1617 ∧ k_ ≠ gb1618 ∧ k_ ≠ gb1626 ∧ k_ ≠ gb1633 ∧ k_ ≠ gb1640) v1643 y1642 from by first | exact (Kd.R_elder' (by (with_reducible repeat (first | apply Kd.R_alloc | apply Kd.R_drewN | apply Kd.R_drew)); exact (Q_HO1644 h0_)) (Kd.R_base ho133) hb) | exact Kd.R_mono (Kd.R_elder' (by (with_reducible repeat (first | apply Kd.R_alloc | apply Kd.R_drewN | apply Kd.R_drew)); exact (Q_HO1644 h0_)) (Kd.R_base ho133) hb) (fun _ h_ => by first | trivial | exact h_ | exact h_.1))
       have z_HO1650 := fun (h0_ : b 7 = true) => (show Kd.R k43 43 w132 w.heap.size (fun k_ => k_ ≠ gb1615 ∧ k_ ≠ gb1616 ∧ k_ ≠ gb1617 ∧ k_ ≠ gb1618 ∧ k_ ≠ gb1626 ∧ k_ ≠ gb1633 ∧ k_ ≠ gb1640) v1649 y1648 from by first | exact (Kd.R_elder' (by (with_reducible repeat (first | apply Kd.R_alloc | apply Kd.R_drewN | apply Kd.R_drew)); exact (Q_HO1650 h0_)) (Kd.R_base ho133) hb) | exact Kd.R_mono (Kd.R_elder' (by (with_reducible repeat (first | apply Kd.R_alloc | apply Kd.R_drewN | apply Kd.R_drew)); exact (Q_HO1650 h0_)) (Kd.R_base ho133) hb) (fun _ h_ => by first | trivial | exact h_ | exact h_.1))
       have z_HO1662 := fun (h0_ : b 15 = true) => (show Kd.R (Kd.int .u64) 23 w132 w.heap.size (fun _ => True) v1661 y1660 from by first | exact (Kd.R_below (by (with_reducible repeat (first | apply Kd.R_alloc | apply Kd.R_drewN | apply Kd.R_drew)); exact (Q_HO1662 h0_)) hb) | exact Kd.R_mono (Kd.R_below (by (with_reducible repeat (first | apply Kd.R_alloc | apply Kd.R_drewN | apply Kd.R_drew)); exact (Q_HO1662 h0_)) hb) (fun _ h_ => by first | trivial | exact h_ | exact h_.1))
       have z_HO1666 := fun (h0_ : b 19 = true) => (show Kd.R (Kd.int .u64) 23 w132 w.heap.size (fun _ => True) v1665 y1664 from by first | exact (Kd.R_below (by (with_reducible repeat (first | apply Kd.R_alloc | apply Kd.R_drewN | apply Kd.R_drew)); exact (Q_HO1666 h0_)) hb) | exact Kd.R_mono (Kd.R_below (by (with_reducible repeat (first | apply Kd.R_alloc | apply Kd.R_drewN | apply Kd.R_drew)); exact (Q_HO1666 h0_)) hb) (fun _ h_ => by first | trivial | exact h_ | exact h_.1))
       clear BK1615
       clear BK1616
       clear BK1617
       clear BK1618
       clear BK1626
       clear BK1633
       clear BK1640
       clear HB
       have HO1656 := n0_
       have BK1615 := n1_
       have BK1616 := n2_
       have BK1617 := n3_
       have BK1618 := n4_
       have BK1626 := n5_
       have BK1633 := n6_
       have BK1640 := n7_
       have HB := n8_
       clear n0_ n1_ n2_ n3_ n4_ n5_ n6_ n7_ n8_
       clear hb ho133
       refine hK.out _ _ ⟨v1643, v1649, v1655, v1661, v1665, (by rw [ha.out]; exact putSel_upk 10 hb_ rfl rfl rfl), (zkq BK1615), (zkq BK1616), (zkq BK1617), (zkq BK1618), (zkq BK1626), (zkq BK1633), (zkq BK1640), zaB, z_HO1644, z_HO1650, fun _ => (by (with_reducible repeat (first | apply Kd.R_alloc | apply Kd.R_drewN | apply Kd.R_drew)); exact Kd.R_mono HO1656.out (fun _ hk => ⟨hk.1.1.1.1.1.1.2, ⟨hk.1.1.1.1.1.2, ⟨hk.1.1.1.1.2, ⟨hk.1.1.1.2, ⟨hk.1.1.2, ⟨hk.1.2, hk.2⟩⟩⟩⟩⟩⟩)), z_HO1662, z_HO1666⟩
      refine steps_cons ?_ ?_
      ·rintro b a w' ⟨v1643, v1649, v1655, v1661, v1665, ha, Q_BK1615, Q_BK1616, Q_BK1617, Q_BK1618, Q_BK1626, Q_BK1633, Q_BK1640, Q_HB, Q_HO1644, Q_HO1650, Q_HO1656, Q_HO1662, Q_HO1666⟩ hb_ hon hoff
       refine ⟨_, rfl, fun K hK => ?_⟩
       have e64 : a.tmps[64]? = some (v1655) := by rw [ha]; exact putSel_on (e := (11, 64, v1655)) 10 rfl rfl (hon 11 (by kernel_rfl)) rfl
       replace ha := Aside0.mk ha
       have BK1615 := Aside0.mk Q_BK1615
       have BK1616 := Aside0.mk Q_BK1616
       have BK1617 := Aside0.mk Q_BK1617
       have BK1618 := Aside0.mk Q_BK1618
       have BK1626 := Aside0.mk Q_BK1626
       have BK1633 := Aside0.mk Q_BK1633
       have BK1640 := Aside0.mk Q_BK1640
       have HB := Aside0.mk Q_HB
       have HO1644 := Aside0.mk (Q_HO1644 (hon 3 (by kernel_rfl)))
       have HO1650 := Aside0.mk (Q_HO1650 (hon 7 (by kernel_rfl)))
       have HO1656 := Aside0.mk (Q_HO1656 (hon 11 (by kernel_rfl)))
       obtain ⟨Ao143, co143, eo143⟩ := Kd.R_slice HO1656.out
       (first | subst eo143 | (injection eo143 with f1_ f2_ f3_; have f4_ := f1_.symm; have f5_ := f3_.symm; clear f1_ f2_ f3_; subst f4_; subst f5_))
       refine goes_ Try.func45 (by kernel_rfl) rfl #[.slice Ao143 y1654.length co143] (by rfl) rfl rfl (by first | (simp only [List.map_toArray, List.map_cons, List.map_nil, Act.eval, Array.getD_eq_getD_getElem?, Option.getD_some, e64]; done) | (simp only [List.map_toArray, List.map_cons, List.map_nil, Act.eval, Array.getD_eq_getD_getElem?, Option.getD_some, e64]; rfl)) ?_
       with_reducible refine (span_Join.calls kj13 _ _ y1654 t1657 t1658 t1659 _ ?side1 ?side2 A106.out).mono ?_
       (case side1 => repeat (first | exact (Kd.R_reads' HO1656.out).2.2 | (with_reducible refine Kd.C_alloc ?_ _) | (with_reducible refine Kd.C_drewN ?_ _) | (with_reducible refine Kd.C_drew ?_)))
       (case side2 => exact (Kd.R_reads' HO1656.out).2.1)
       rintro e w144 ⟨rfl, hb⟩
       refine ⟨_, rfl, ?_⟩
       have n0_ := Aside0.mk (Kd.R_below (zRW HO1644.out) hb)
       have n1_ := Aside0.mk (Kd.R_below (zRW HO1650.out) hb)
       have n2_ := Aside0.mk (Kd.R_below (zRW HO1656.out) hb)
       have n3_ := Aside0.mk (blk_below (g := gb1615) (o := .cells #[.bool a1_0, .int .u64 a1_1, .int .u64 a1_2] 43 (0, 0)) (zkq BK1615) hb)
       have n4_ := Aside0.mk (blk_below (g := gb1616) (o := .cells #[.bool a2_0, .int .u64 a2_1, .int .u64 a2_2] 43 (0, 0)) (zkq BK1616) hb)
       have n5_ := Aside0.mk (blk_below (g := gb1617) (o := .cells #[.bool a3_0, .int .u64 a3_1, .int .u64 a3_2] 43 (0, 0)) (zkq BK1617) hb)
       have n6_ := Aside0.mk (blk_below (g := gb1618) (o := .cells #[.bool a4_0, .int .u64 a4_1, .int .u64 a4_2] 43 (0, 0)) (zkq BK1618) hb)
       have n7_ := Aside0.mk (blk_below (g := gb1626) (o := .cells #[.bool t1623, .int .u64 t1624, .int .u64 t1625] 43 (0, 0)) (zkq BK1626) hb)
       have n8_ := Aside0.mk (blk_below (g := gb1633) (o := .cells #[.bool t1630, .int .u64 t1631, .int .u64 t1632] 43 (0, 0)) (zkq BK1633) hb)
       have n9_ := Aside0.mk (blk_below (g := gb1640) (o := .cells #[.bool t1637, .int .u64 t1638, .int .u64 t1639] 43 (0, 0)) (zkq BK1640) hb)
       have n10_ := Aside0.mk (below_step zaB hb)
       have z_HO1662 := fun (h0_ : b 15 = true) => (show Kd.R (Kd.int .u64) 23 w144 w.heap.size (fun _ => True) v1661 y1660 from by first | exact (Kd.R_below (by (with_reducible repeat (first | apply Kd.R_alloc | apply Kd.R_drewN | apply Kd.R_drew)); exact (Q_HO1662 h0_)) hb) | exact Kd.R_mono (Kd.R_below (by (with_reducible repeat (first | apply Kd.R_alloc | apply Kd.R_drewN | apply Kd.R_drew)); exact (Q_HO1662 h0_)) hb) (fun _ h_ => by first | trivial | exact h_ | exact h_.1))
       have z_HO1666 := fun (h0_ : b 19 = true) => (show Kd.R (Kd.int .u64) 23 w144 w.heap.size (fun _ => True) v1665 y1664 from by first | exact (Kd.R_below (by (with_reducible repeat (first | apply Kd.R_alloc | apply Kd.R_drewN | apply Kd.R_drew)); exact (Q_HO1666 h0_)) hb) | exact Kd.R_mono (Kd.R_below (by (with_reducible repeat (first | apply Kd.R_alloc | apply Kd.R_drewN | apply Kd.R_drew)); exact (Q_HO1666 h0_)) hb) (fun _ h_ => by first | trivial | exact h_ | exact h_.1))
       clear HO1644
       clear HO1650
       clear HO1656
       clear BK1615
       clear BK1616
       clear BK1617
       clear BK1618
       clear BK1626
       clear BK1633
       clear BK1640
       clear HB
       have HO1644 := n0_
       have HO1650 := n1_
       have HO1656 := n2_
       have BK1615 := n3_
       have BK1616 := n4_
       have BK1617 := n5_
       have BK1618 := n6_
       have BK1626 := n7_
       have BK1633 := n8_
       have BK1640 := n9_
       have HB := n10_
       clear n0_ n1_ n2_ n3_ n4_ n5_ n6_ n7_ n8_ n9_ n10_
       (try clear hb)
       refine hK.out _ _ ⟨v1643, v1649, .slice Ao143 y1654.length co143, v1661, v1665, (by rw [ha.out]; exact putSel_upk 11 hb_ rfl rfl rfl), (zkq BK1615), (zkq BK1616), (zkq BK1617), (zkq BK1618), (zkq BK1626), (zkq BK1633), (zkq BK1640), zaB, fun _ => (zRW HO1644.out), fun _ => (zRW HO1650.out), fun _ => (zRW HO1656.out), z_HO1662, z_HO1666⟩
      refine steps_cons ?_ ?_
      ·rintro b a w' ⟨v1643, v1649, v1655, v1661, v1665, ha, Q_BK1615, Q_BK1616, Q_BK1617, Q_BK1618, Q_BK1626, Q_BK1633, Q_BK1640, Q_HB, Q_HO1644, Q_HO1650, Q_HO1656, Q_HO1662, Q_HO1666⟩ hb_ hon hoff
       refine ⟨_, rfl, fun K hK => ?_⟩
       have e66 : a.tmps[66]? = some (.int .u64 a5) := by rw [ha]; exact (putSel_off rfl).trans rfl
       have e67 : a.tmps[67]? = some (.int .u64 a7) := by rw [ha]; exact (putSel_off rfl).trans rfl
       replace ha := Aside0.mk ha
       have BK1615 := Aside0.mk Q_BK1615
       have BK1616 := Aside0.mk Q_BK1616
       have BK1617 := Aside0.mk Q_BK1617
       have BK1618 := Aside0.mk Q_BK1618
       have BK1626 := Aside0.mk Q_BK1626
       have BK1633 := Aside0.mk Q_BK1633
       have BK1640 := Aside0.mk Q_BK1640
       have HB := Aside0.mk Q_HB
       refine Kd.R_lit_step (Kd.int .u64) _ 23 ?hg (N := 68) ?hd (xs := ([a5, a7] : List Int)) (inner := [.int .u64 a5, .int .u64 a7]) (ok := fun _ => True) (okp := fun _ => True) ?hr ?hp (fun _ hk => hk) trivial (Below.refl _ _) (Nat.le_refl _) (by simp) ?_; (case hd => rfl); (case hg => rfl); (case hr => first | (go_simp; done) | (go_simp; rfl)); (case hp => exact (Reps.one (show Kd.M (Kd.int .u64) _ _ _ a5 [.int .u64 a5] from rfl) (Reps.one (show Kd.M (Kd.int .u64) _ _ _ a7 [.int .u64 a7] from rfl) (Reps.none _ _))))
       intro v1661 w132 ho133 hb hg_ hnew_
       clear hg_ hnew_
       (first | rw [← Ny1660.out] at ho133 | (simp only [Int.reduceToNat] at ho133; rw [← Ny1660.out] at ho133))
       have n0_ := Aside0.mk (Kd.R_lower ho133 (below_size zaB))
       have n1_ := Aside0.mk (blk_below (g := gb1615) (o := .cells #[.bool a1_0, .int .u64 a1_1, .int .u64 a1_2] 43 (0, 0)) (zkq BK1615) hb)
       have n2_ := Aside0.mk (blk_below (g := gb1616) (o := .cells #[.bool a2_0, .int .u64 a2_1, .int .u64 a2_2] 43 (0, 0)) (zkq BK1616) hb)
       have n3_ := Aside0.mk (blk_below (g := gb1617) (o := .cells #[.bool a3_0, .int .u64 a3_1, .int .u64 a3_2] 43 (0, 0)) (zkq BK1617) hb)
       have n4_ := Aside0.mk (blk_below (g := gb1618) (o := .cells #[.bool a4_0, .int .u64 a4_1, .int .u64 a4_2] 43 (0, 0)) (zkq BK1618) hb)
       have n5_ := Aside0.mk (blk_below (g := gb1626) (o := .cells #[.bool t1623, .int .u64 t1624, .int .u64 t1625] 43 (0, 0)) (zkq BK1626) hb)
       have n6_ := Aside0.mk (blk_below (g := gb1633) (o := .cells #[.bool t1630, .int .u64 t1631, .int .u64 t1632] 43 (0, 0)) (zkq BK1633) hb)
       have n7_ := Aside0.mk (blk_below (g := gb1640) (o := .cells #[.bool t1637, .int .u64 t1638, .int .u64 t1639] 43 (0, 0)) (zkq BK1640) hb)
       have n8_ := Aside0.mk (below_step zaB hb)
       have z_HO1644 := fun (h0_ : b 3 = true) => (show Kd.R k43 43 w132 w.heap.size (fun k_ => k_ ≠ gb1615 ∧ k_ ≠ gb1616 ∧ k_ ≠ gb1617 ∧ k_ ≠ gb1618 ∧ k_ ≠ gb1626 ∧ k_ ≠ gb1633 ∧ k_ ≠ gb1640) v1643 y1642 from by first | exact (Kd.R_below (by (with_reducible repeat (first | apply Kd.R_alloc | apply Kd.R_drewN | apply Kd.R_drew)); exact (Q_HO1644 h0_)) hb) | exact Kd.R_mono (Kd.R_below (by (with_reducible repeat (first | apply Kd.R_alloc | apply Kd.R_drewN | apply Kd.R_drew)); exact (Q_HO1644 h0_)) hb) (fun _ h_ => by first | trivial | exact h_ | exact h_.1))
       have z_HO1650 := fun (h0_ : b 7 = true) => (show Kd.R k43 43 w132 w.heap.size (fun k_ => k_ ≠ gb1615 ∧ k_ ≠ gb1616 ∧ k_ ≠ gb1617 ∧ k_ ≠ gb1618 ∧ k_ ≠ gb1626 ∧ k_ ≠ gb1633 ∧ k_ ≠ gb1640) v1649 y1648 from by first | exact (Kd.R_below (by (with_reducible repeat (first | apply Kd.R_alloc | apply Kd.R_drewN | apply Kd.R_drew)); exact (Q_HO1650 h0_)) hb) | exact Kd.R_mono (Kd.R_below (by (with_reducible repeat (first | apply Kd.R_alloc | apply Kd.R_drewN | apply Kd.R_drew)); exact (Q_HO1650 h0_)) hb) (fun _ h_ => by first | trivial | exact h_ | exact h_.1))
       have z_HO1656 := fun (h0_ : b 11 = true) => (show Kd.R k43 43 w132 w.heap.size (fun k_ => k_ ≠ gb1615 ∧ k_ ≠ gb1616 ∧ k_ ≠ gb1617 ∧ k_ ≠ gb1618 ∧ k_ ≠ gb1626 ∧ k_ ≠ gb1633 ∧ k_ ≠ gb1640) v1655 y1654 from by first | exact (Kd.R_below (by (with_reducible repeat (first | apply Kd.R_alloc | apply Kd.R_drewN | apply Kd.R_drew)); exact (Q_HO1656 h0_)) hb) | exact Kd.R_mono (Kd.R_below (by (with_reducible repeat (first | apply Kd.R_alloc | apply Kd.R_drewN | apply Kd.R_drew)); exact (Q_HO1656 h0_)) hb) (fun _ h_ => by first | trivial | exact h_ | exact h_.1))
       have z_HO1666 := fun (h0_ : b 19 = true) => (show Kd.R (Kd.int .u64) 23 w132 w.heap.size (fun _ => True) v1665 y1664 from by first | exact (Kd.R_elder' (by (with_reducible repeat (first | apply Kd.R_alloc | apply Kd.R_drewN | apply Kd.R_drew)); exact (Q_HO1666 h0_)) (Kd.R_base ho133) hb) | exact Kd.R_mono (Kd.R_elder' (by (with_reducible repeat (first | apply Kd.R_alloc | apply Kd.R_drewN | apply Kd.R_drew)); exact (Q_HO1666 h0_)) (Kd.R_base ho133) hb) (fun _ h_ => by first | trivial | exact h_ | exact h_.1))
       clear BK1615
       clear BK1616
       clear BK1617
       clear BK1618
       clear BK1626
       clear BK1633
       clear BK1640
       clear HB
       have HO1662 := n0_
       have BK1615 := n1_
       have BK1616 := n2_
       have BK1617 := n3_
       have BK1618 := n4_
       have BK1626 := n5_
       have BK1633 := n6_
       have BK1640 := n7_
       have HB := n8_
       clear n0_ n1_ n2_ n3_ n4_ n5_ n6_ n7_ n8_
       clear hb ho133
       refine hK.out _ _ ⟨v1643, v1649, v1655, v1661, v1665, (by rw [ha.out]; exact putSel_upk 12 hb_ rfl rfl rfl), (zkq BK1615), (zkq BK1616), (zkq BK1617), (zkq BK1618), (zkq BK1626), (zkq BK1633), (zkq BK1640), zaB, z_HO1644, z_HO1650, z_HO1656, fun _ => (zRW HO1662.out), z_HO1666⟩
      refine steps_cons ?_ ?_
      ·rintro b a w' ⟨v1643, v1649, v1655, v1661, v1665, ha, Q_BK1615, Q_BK1616, Q_BK1617, Q_BK1618, Q_BK1626, Q_BK1633, Q_BK1640, Q_HB, Q_HO1644, Q_HO1650, Q_HO1656, Q_HO1662, Q_HO1666⟩ hb_ hon hoff
       refine ⟨_, rfl, fun K hK => ?_⟩
       have e68 : a.tmps[68]? = some (v1661) := by rw [ha]; exact putSel_on (e := (15, 68, v1661)) 12 rfl rfl (hon 15 (by kernel_rfl)) rfl
       replace ha := Aside0.mk ha
       have BK1615 := Aside0.mk Q_BK1615
       have BK1616 := Aside0.mk Q_BK1616
       have BK1617 := Aside0.mk Q_BK1617
       have BK1618 := Aside0.mk Q_BK1618
       have BK1626 := Aside0.mk Q_BK1626
       have BK1633 := Aside0.mk Q_BK1633
       have BK1640 := Aside0.mk Q_BK1640
       have HB := Aside0.mk Q_HB
       have HO1644 := Aside0.mk (Q_HO1644 (hon 3 (by kernel_rfl)))
       have HO1650 := Aside0.mk (Q_HO1650 (hon 7 (by kernel_rfl)))
       have HO1656 := Aside0.mk (Q_HO1656 (hon 11 (by kernel_rfl)))
       have HO1662 := Aside0.mk (Q_HO1662 (hon 15 (by kernel_rfl)))
       obtain ⟨Ao147, co147, eo147⟩ := Kd.R_slice HO1662.out
       (first | subst eo147 | (injection eo147 with f1_ f2_ f3_; have f4_ := f1_.symm; have f5_ := f3_.symm; clear f1_ f2_ f3_; subst f4_; subst f5_))
       refine goes_ Try.func63 (by kernel_rfl) rfl #[.slice Ao147 y1660.length co147] (by rfl) rfl rfl (by first | (simp only [List.map_toArray, List.map_cons, List.map_nil, Act.eval, Array.getD_eq_getD_getElem?, Option.getD_some, e68]; done) | (simp only [List.map_toArray, List.map_cons, List.map_nil, Act.eval, Array.getD_eq_getD_getElem?, Option.getD_some, e68]; rfl)) ?_
       with_reducible refine (slip_Join.calls kj13 _ _ y1660 t1663 _ ?side1 ?side2 A107.out).mono ?_
       (case side1 => repeat (first | exact (Kd.R_reads' HO1662.out).2.2 | (with_reducible refine Kd.C_alloc ?_ _) | (with_reducible refine Kd.C_drewN ?_ _) | (with_reducible refine Kd.C_drew ?_)))
       (case side2 => exact (Kd.R_reads' HO1662.out).2.1)
       rintro e w148 ⟨rfl, hb⟩
       refine ⟨_, rfl, ?_⟩
       have n0_ := Aside0.mk (Kd.R_below (zRW HO1644.out) hb)
       have n1_ := Aside0.mk (Kd.R_below (zRW HO1650.out) hb)
       have n2_ := Aside0.mk (Kd.R_below (zRW HO1656.out) hb)
       have n3_ := Aside0.mk (Kd.R_below (zRW HO1662.out) hb)
       have n4_ := Aside0.mk (blk_below (g := gb1615) (o := .cells #[.bool a1_0, .int .u64 a1_1, .int .u64 a1_2] 43 (0, 0)) (zkq BK1615) hb)
       have n5_ := Aside0.mk (blk_below (g := gb1616) (o := .cells #[.bool a2_0, .int .u64 a2_1, .int .u64 a2_2] 43 (0, 0)) (zkq BK1616) hb)
       have n6_ := Aside0.mk (blk_below (g := gb1617) (o := .cells #[.bool a3_0, .int .u64 a3_1, .int .u64 a3_2] 43 (0, 0)) (zkq BK1617) hb)
       have n7_ := Aside0.mk (blk_below (g := gb1618) (o := .cells #[.bool a4_0, .int .u64 a4_1, .int .u64 a4_2] 43 (0, 0)) (zkq BK1618) hb)
       have n8_ := Aside0.mk (blk_below (g := gb1626) (o := .cells #[.bool t1623, .int .u64 t1624, .int .u64 t1625] 43 (0, 0)) (zkq BK1626) hb)
       have n9_ := Aside0.mk (blk_below (g := gb1633) (o := .cells #[.bool t1630, .int .u64 t1631, .int .u64 t1632] 43 (0, 0)) (zkq BK1633) hb)
       have n10_ := Aside0.mk (blk_below (g := gb1640) (o := .cells #[.bool t1637, .int .u64 t1638, .int .u64 t1639] 43 (0, 0)) (zkq BK1640) hb)
       have n11_ := Aside0.mk (below_step zaB hb)
       have z_HO1666 := fun (h0_ : b 19 = true) => (show Kd.R (Kd.int .u64) 23 w148 w.heap.size (fun _ => True) v1665 y1664 from by first | exact (Kd.R_below (by (with_reducible repeat (first | apply Kd.R_alloc | apply Kd.R_drewN | apply Kd.R_drew)); exact (Q_HO1666 h0_)) hb) | exact Kd.R_mono (Kd.R_below (by (with_reducible repeat (first | apply Kd.R_alloc | apply Kd.R_drewN | apply Kd.R_drew)); exact (Q_HO1666 h0_)) hb) (fun _ h_ => by first | trivial | exact h_ | exact h_.1))
       clear HO1644
       clear HO1650
       clear HO1656
       clear HO1662
       clear BK1615
       clear BK1616
       clear BK1617
       clear BK1618
       clear BK1626
       clear BK1633
       clear BK1640
       clear HB
       have HO1644 := n0_
       have HO1650 := n1_
       have HO1656 := n2_
       have HO1662 := n3_
       have BK1615 := n4_
       have BK1616 := n5_
       have BK1617 := n6_
       have BK1618 := n7_
       have BK1626 := n8_
       have BK1633 := n9_
       have BK1640 := n10_
       have HB := n11_
       clear n0_ n1_ n2_ n3_ n4_ n5_ n6_ n7_ n8_ n9_ n10_ n11_
       (try clear hb)
       refine hK.out _ _ ⟨v1643, v1649, v1655, .slice Ao147 y1660.length co147, v1665, (by rw [ha.out]; exact putSel_upk 13 hb_ rfl rfl rfl), (zkq BK1615), (zkq BK1616), (zkq BK1617), (zkq BK1618), (zkq BK1626), (zkq BK1633), (zkq BK1640), zaB, fun _ => (zRW HO1644.out), fun _ => (zRW HO1650.out), fun _ => (zRW HO1656.out), fun _ => (zRW HO1662.out), z_HO1666⟩
      refine steps_cons ?_ ?_
      ·rintro b a w' ⟨v1643, v1649, v1655, v1661, v1665, ha, Q_BK1615, Q_BK1616, Q_BK1617, Q_BK1618, Q_BK1626, Q_BK1633, Q_BK1640, Q_HB, Q_HO1644, Q_HO1650, Q_HO1656, Q_HO1662, Q_HO1666⟩ hb_ hon hoff
       refine ⟨_, rfl, fun K hK => ?_⟩
       have e70 : a.tmps[70]? = some (.int .u64 a6) := by rw [ha]; exact (putSel_off rfl).trans rfl
       have e71 : a.tmps[71]? = some (.int .u64 a7) := by rw [ha]; exact (putSel_off rfl).trans rfl
       replace ha := Aside0.mk ha
       have BK1615 := Aside0.mk Q_BK1615
       have BK1616 := Aside0.mk Q_BK1616
       have BK1617 := Aside0.mk Q_BK1617
       have BK1618 := Aside0.mk Q_BK1618
       have BK1626 := Aside0.mk Q_BK1626
       have BK1633 := Aside0.mk Q_BK1633
       have BK1640 := Aside0.mk Q_BK1640
       have HB := Aside0.mk Q_HB
       refine Kd.R_lit_step (Kd.int .u64) _ 23 ?hg (N := 72) ?hd (xs := ([a6, a7] : List Int)) (inner := [.int .u64 a6, .int .u64 a7]) (ok := fun _ => True) (okp := fun _ => True) ?hr ?hp (fun _ hk => hk) trivial (Below.refl _ _) (Nat.le_refl _) (by simp) ?_; (case hd => rfl); (case hg => rfl); (case hr => first | (go_simp; done) | (go_simp; rfl)); (case hp => exact (Reps.one (show Kd.M (Kd.int .u64) _ _ _ a6 [.int .u64 a6] from rfl) (Reps.one (show Kd.M (Kd.int .u64) _ _ _ a7 [.int .u64 a7] from rfl) (Reps.none _ _))))
       intro v1665 w132 ho133 hb hg_ hnew_
       clear hg_ hnew_
       (first | rw [← Ny1664.out] at ho133 | (simp only [Int.reduceToNat] at ho133; rw [← Ny1664.out] at ho133))
       have n0_ := Aside0.mk (Kd.R_lower ho133 (below_size zaB))
       have n1_ := Aside0.mk (blk_below (g := gb1615) (o := .cells #[.bool a1_0, .int .u64 a1_1, .int .u64 a1_2] 43 (0, 0)) (zkq BK1615) hb)
       have n2_ := Aside0.mk (blk_below (g := gb1616) (o := .cells #[.bool a2_0, .int .u64 a2_1, .int .u64 a2_2] 43 (0, 0)) (zkq BK1616) hb)
       have n3_ := Aside0.mk (blk_below (g := gb1617) (o := .cells #[.bool a3_0, .int .u64 a3_1, .int .u64 a3_2] 43 (0, 0)) (zkq BK1617) hb)
       have n4_ := Aside0.mk (blk_below (g := gb1618) (o := .cells #[.bool a4_0, .int .u64 a4_1, .int .u64 a4_2] 43 (0, 0)) (zkq BK1618) hb)
       have n5_ := Aside0.mk (blk_below (g := gb1626) (o := .cells #[.bool t1623, .int .u64 t1624, .int .u64 t1625] 43 (0, 0)) (zkq BK1626) hb)
       have n6_ := Aside0.mk (blk_below (g := gb1633) (o := .cells #[.bool t1630, .int .u64 t1631, .int .u64 t1632] 43 (0, 0)) (zkq BK1633) hb)
       have n7_ := Aside0.mk (blk_below (g := gb1640) (o := .cells #[.bool t1637, .int .u64 t1638, .int .u64 t1639] 43 (0, 0)) (zkq BK1640) hb)
       have n8_ := Aside0.mk (below_step zaB hb)
       have z_HO1644 := fun (h0_ : b 3 = true) => (show Kd.R k43 43 w132 w.heap.size (fun k_ => k_ ≠ gb1615 ∧ k_ ≠ gb1616 ∧ k_ ≠ gb1617 ∧ k_ ≠ gb1618 ∧ k_ ≠ gb1626 ∧ k_ ≠ gb1633 ∧ k_ ≠ gb1640) v1643 y1642 from by first | exact (Kd.R_below (by (with_reducible repeat (first | apply Kd.R_alloc | apply Kd.R_drewN | apply Kd.R_drew)); exact (Q_HO1644 h0_)) hb) | exact Kd.R_mono (Kd.R_below (by (with_reducible repeat (first | apply Kd.R_alloc | apply Kd.R_drewN | apply Kd.R_drew)); exact (Q_HO1644 h0_)) hb) (fun _ h_ => by first | trivial | exact h_ | exact h_.1))
       have z_HO1650 := fun (h0_ : b 7 = true) => (show Kd.R k43 43 w132 w.heap.size (fun k_ => k_ ≠ gb1615 ∧ k_ ≠ gb1616 ∧ k_ ≠ gb1617 ∧ k_ ≠ gb1618 ∧ k_ ≠ gb1626 ∧ k_ ≠ gb1633 ∧ k_ ≠ gb1640) v1649 y1648 from by first | exact (Kd.R_below (by (with_reducible repeat (first | apply Kd.R_alloc | apply Kd.R_drewN | apply Kd.R_drew)); exact (Q_HO1650 h0_)) hb) | exact Kd.R_mono (Kd.R_below (by (with_reducible repeat (first | apply Kd.R_alloc | apply Kd.R_drewN | apply Kd.R_drew)); exact (Q_HO1650 h0_)) hb) (fun _ h_ => by first | trivial | exact h_ | exact h_.1))
       have z_HO1656 := fun (h0_ : b 11 = true) => (show Kd.R k43 43 w132 w.heap.size (fun k_ => k_ ≠ gb1615 ∧ k_ ≠ gb1616 ∧ k_ ≠ gb1617 ∧ k_ ≠ gb1618 ∧ k_ ≠ gb1626 ∧ k_ ≠ gb1633 ∧ k_ ≠ gb1640) v1655 y1654 from by first | exact (Kd.R_below (by (with_reducible repeat (first | apply Kd.R_alloc | apply Kd.R_drewN | apply Kd.R_drew)); exact (Q_HO1656 h0_)) hb) | exact Kd.R_mono (Kd.R_below (by (with_reducible repeat (first | apply Kd.R_alloc | apply Kd.R_drewN | apply Kd.R_drew)); exact (Q_HO1656 h0_)) hb) (fun _ h_ => by first | trivial | exact h_ | exact h_.1))
       have z_HO1662 := fun (h0_ : b 15 = true) => (show Kd.R (Kd.int .u64) 23 w132 w.heap.size (fun _ => True) v1661 y1660 from by first | exact (Kd.R_elder' (by (with_reducible repeat (first | apply Kd.R_alloc | apply Kd.R_drewN | apply Kd.R_drew)); exact (Q_HO1662 h0_)) (Kd.R_base ho133) hb) | exact Kd.R_mono (Kd.R_elder' (by (with_reducible repeat (first | apply Kd.R_alloc | apply Kd.R_drewN | apply Kd.R_drew)); exact (Q_HO1662 h0_)) (Kd.R_base ho133) hb) (fun _ h_ => by first | trivial | exact h_ | exact h_.1))
       clear BK1615
       clear BK1616
       clear BK1617
       clear BK1618
       clear BK1626
       clear BK1633
       clear BK1640
       clear HB
       have HO1666 := n0_
       have BK1615 := n1_
       have BK1616 := n2_
       have BK1617 := n3_
       have BK1618 := n4_
       have BK1626 := n5_
       have BK1633 := n6_
       have BK1640 := n7_
       have HB := n8_
       clear n0_ n1_ n2_ n3_ n4_ n5_ n6_ n7_ n8_
       clear hb ho133
       refine hK.out _ _ ⟨v1643, v1649, v1655, v1661, v1665, (by rw [ha.out]; exact putSel_upk 14 hb_ rfl rfl rfl), (zkq BK1615), (zkq BK1616), (zkq BK1617), (zkq BK1618), (zkq BK1626), (zkq BK1633), (zkq BK1640), zaB, z_HO1644, z_HO1650, z_HO1656, z_HO1662, fun _ => (zRW HO1666.out)⟩
      refine steps_cons ?_ ?_
      ·rintro b a w' ⟨v1643, v1649, v1655, v1661, v1665, ha, Q_BK1615, Q_BK1616, Q_BK1617, Q_BK1618, Q_BK1626, Q_BK1633, Q_BK1640, Q_HB, Q_HO1644, Q_HO1650, Q_HO1656, Q_HO1662, Q_HO1666⟩ hb_ hon hoff
       refine ⟨_, rfl, fun K hK => ?_⟩
       have e72 : a.tmps[72]? = some (v1665) := by rw [ha]; exact putSel_on (e := (19, 72, v1665)) 14 rfl rfl (hon 19 (by kernel_rfl)) rfl
       replace ha := Aside0.mk ha
       have BK1615 := Aside0.mk Q_BK1615
       have BK1616 := Aside0.mk Q_BK1616
       have BK1617 := Aside0.mk Q_BK1617
       have BK1618 := Aside0.mk Q_BK1618
       have BK1626 := Aside0.mk Q_BK1626
       have BK1633 := Aside0.mk Q_BK1633
       have BK1640 := Aside0.mk Q_BK1640
       have HB := Aside0.mk Q_HB
       have HO1644 := Aside0.mk (Q_HO1644 (hon 3 (by kernel_rfl)))
       have HO1650 := Aside0.mk (Q_HO1650 (hon 7 (by kernel_rfl)))
       have HO1656 := Aside0.mk (Q_HO1656 (hon 11 (by kernel_rfl)))
       have HO1662 := Aside0.mk (Q_HO1662 (hon 15 (by kernel_rfl)))
       have HO1666 := Aside0.mk (Q_HO1666 (hon 19 (by kernel_rfl)))
       obtain ⟨Ao151, co151, eo151⟩ := Kd.R_slice HO1666.out
       (first | subst eo151 | (injection eo151 with f1_ f2_ f3_; have f4_ := f1_.symm; have f5_ := f3_.symm; clear f1_ f2_ f3_; subst f4_; subst f5_))
       refine goes_ Try.func63 (by kernel_rfl) rfl #[.slice Ao151 y1664.length co151] (by rfl) rfl rfl (by first | (simp only [List.map_toArray, List.map_cons, List.map_nil, Act.eval, Array.getD_eq_getD_getElem?, Option.getD_some, e72]; done) | (simp only [List.map_toArray, List.map_cons, List.map_nil, Act.eval, Array.getD_eq_getD_getElem?, Option.getD_some, e72]; rfl)) ?_
       with_reducible refine (slip_Join.calls kj13 _ _ y1664 t1667 _ ?side1 ?side2 A108.out).mono ?_
       (case side1 => repeat (first | exact (Kd.R_reads' HO1666.out).2.2 | (with_reducible refine Kd.C_alloc ?_ _) | (with_reducible refine Kd.C_drewN ?_ _) | (with_reducible refine Kd.C_drew ?_)))
       (case side2 => exact (Kd.R_reads' HO1666.out).2.1)
       rintro e w152 ⟨rfl, hb⟩
       refine ⟨_, rfl, ?_⟩
       replace HO1644 := Aside0.mk (Kd.R_below (zRW HO1644.out) hb)
       replace HO1650 := Aside0.mk (Kd.R_below (zRW HO1650.out) hb)
       replace HO1656 := Aside0.mk (Kd.R_below (zRW HO1656.out) hb)
       replace HO1662 := Aside0.mk (Kd.R_below (zRW HO1662.out) hb)
       replace HO1666 := Aside0.mk (Kd.R_below (zRW HO1666.out) hb)
       refine zcn7 HB BK1615 BK1616 BK1617 BK1618 BK1626 BK1633 BK1640 hb (c := ?_)
       clear HB BK1615 BK1616 BK1617 BK1618 BK1626 BK1633 BK1640 hb
       intro BK1615 BK1616 BK1617 BK1618 BK1626 BK1633 BK1640 HB
       refine hK.out _ _ ⟨v1643, v1649, v1655, v1661, .slice Ao151 y1664.length co151, (by rw [ha.out]; exact putSel_upk 15 hb_ rfl rfl rfl), (zkq BK1615), (zkq BK1616), (zkq BK1617), (zkq BK1618), (zkq BK1626), (zkq BK1633), (zkq BK1640), zaB, fun _ => (zRW HO1644.out), fun _ => (zRW HO1650.out), fun _ => (zRW HO1656.out), fun _ => (zRW HO1662.out), fun _ => (zRW HO1666.out)⟩
      refine steps_cons ?_ ?_
      ·rintro b a w' ⟨v1643, v1649, v1655, v1661, v1665, ha, Q_BK1615, Q_BK1616, Q_BK1617, Q_BK1618, Q_BK1626, Q_BK1633, Q_BK1640, Q_HB, Q_HO1644, Q_HO1650, Q_HO1656, Q_HO1662, Q_HO1666⟩ hb_ hon hoff
       refine ⟨_, rfl, fun K hK => ?_⟩
       have e53 : a.tmps[53]? = some (.int .u8 a0) := by rw [ha]; exact (putSel_off rfl).trans rfl
       have e57 : a.tmps[57]? = some (.agg #[.bool t1645, .int .u64 t1646, .int .u64 t1647]) := by rw [ha]; exact putSel_on (e := (4, 57, .agg #[.bool t1645, .int .u64 t1646, .int .u64 t1647])) 3 rfl rfl (hon 4 (by kernel_rfl)) rfl
       have e61 : a.tmps[61]? = some (.agg #[.bool t1651, .int .u64 t1652, .int .u64 t1653]) := by rw [ha]; exact putSel_on (e := (8, 61, .agg #[.bool t1651, .int .u64 t1652, .int .u64 t1653])) 7 rfl rfl (hon 8 (by kernel_rfl)) rfl
       have e65 : a.tmps[65]? = some (.agg #[.bool t1657, .int .u64 t1658, .int .u64 t1659]) := by rw [ha]; exact putSel_on (e := (12, 65, .agg #[.bool t1657, .int .u64 t1658, .int .u64 t1659])) 11 rfl rfl (hon 12 (by kernel_rfl)) rfl
       have e69 : a.tmps[69]? = some (.int .u64 t1663) := by rw [ha]; exact putSel_on (e := (16, 69, .int .u64 t1663)) 13 rfl rfl (hon 16 (by kernel_rfl)) rfl
       have e73 : a.tmps[73]? = some (.int .u64 t1667) := by rw [ha]; exact putSel_on (e := (20, 73, .int .u64 t1667)) 15 rfl rfl (hon 20 (by kernel_rfl)) rfl
       replace ha := Aside0.mk ha
       have BK1615 := Aside0.mk Q_BK1615
       have BK1616 := Aside0.mk Q_BK1616
       have BK1617 := Aside0.mk Q_BK1617
       have BK1618 := Aside0.mk Q_BK1618
       have BK1626 := Aside0.mk Q_BK1626
       have BK1633 := Aside0.mk Q_BK1633
       have BK1640 := Aside0.mk Q_BK1640
       have HB := Aside0.mk Q_HB
       have HO1644 := Aside0.mk (Q_HO1644 (hon 3 (by kernel_rfl)))
       have HO1650 := Aside0.mk (Q_HO1650 (hon 7 (by kernel_rfl)))
       have HO1656 := Aside0.mk (Q_HO1656 (hon 11 (by kernel_rfl)))
       have HO1662 := Aside0.mk (Q_HO1662 (hon 15 (by kernel_rfl)))
       have HO1666 := Aside0.mk (Q_HO1666 (hon 19 (by kernel_rfl)))
       refine goes_ Try.func64 (by kernel_rfl) rfl #[.int .u8 a0, .agg #[.bool t1645, .int .u64 t1646, .int .u64 t1647], .agg #[.bool t1651, .int .u64 t1652, .int .u64 t1653], .agg #[.bool t1657, .int .u64 t1658, .int .u64 t1659], .int .u64 t1663, .int .u64 t1667] (by rfl) rfl rfl (by first | (simp only [List.map_toArray, List.map_cons, List.map_nil, Act.eval, Array.getD_eq_getD_getElem?, Option.getD_some, e53, e57, e61, e65, e69, e73]; done) | (simp only [List.map_toArray, List.map_cons, List.map_nil, Act.eval, Array.getD_eq_getD_getElem?, Option.getD_some, e53, e57, e61, e65, e69, e73]; rfl)) ?_
       with_reducible refine (slip_Do.calls kj13 a0 t1645 t1646 t1647 t1651 t1652 t1653 t1657 t1658 t1659 t1663 t1667 t1668 _ A109.out).mono ?_
       rintro e w153 ⟨rfl, hb⟩
       refine ⟨_, rfl, ?_⟩
       replace HO1644 := Aside0.mk (Kd.R_below (zRW HO1644.out) hb)
       replace HO1650 := Aside0.mk (Kd.R_below (zRW HO1650.out) hb)
       replace HO1656 := Aside0.mk (Kd.R_below (zRW HO1656.out) hb)
       replace HO1662 := Aside0.mk (Kd.R_below (zRW HO1662.out) hb)
       replace HO1666 := Aside0.mk (Kd.R_below (zRW HO1666.out) hb)
       refine zcn7 HB BK1615 BK1616 BK1617 BK1618 BK1626 BK1633 BK1640 hb (c := ?_)
       clear HB BK1615 BK1616 BK1617 BK1618 BK1626 BK1633 BK1640 hb
       intro BK1615 BK1616 BK1617 BK1618 BK1626 BK1633 BK1640 HB
       refine hK.out _ _ ⟨v1643, v1649, v1655, v1661, v1665, (by rw [ha.out]; exact putSel_upk 16 hb_ rfl rfl rfl), (zkq BK1615), (zkq BK1616), (zkq BK1617), (zkq BK1618), (zkq BK1626), (zkq BK1633), (zkq BK1640), zaB, fun _ => (zRW HO1644.out), fun _ => (zRW HO1650.out), fun _ => (zRW HO1656.out), fun _ => (zRW HO1662.out), fun _ => (zRW HO1666.out)⟩
      refine steps_cons ?_ ?_
      ·rintro b a w' ⟨v1643, v1649, v1655, v1661, v1665, ha, Q_BK1615, Q_BK1616, Q_BK1617, Q_BK1618, Q_BK1626, Q_BK1633, Q_BK1640, Q_HB, Q_HO1644, Q_HO1650, Q_HO1656, Q_HO1662, Q_HO1666⟩ hb_ hon hoff
       refine ⟨_, rfl, fun K hK => ?_⟩
       have e74 : a.tmps[74]? = some (.int .u64 t1668) := by rw [ha]; exact putSel_on (e := (21, 74, .int .u64 t1668)) 16 rfl rfl (hon 21 (by kernel_rfl)) rfl
       replace ha := Aside0.mk ha
       have BK1615 := Aside0.mk Q_BK1615
       have BK1616 := Aside0.mk Q_BK1616
       have BK1617 := Aside0.mk Q_BK1617
       have BK1618 := Aside0.mk Q_BK1618
       have BK1626 := Aside0.mk Q_BK1626
       have BK1633 := Aside0.mk Q_BK1633
       have BK1640 := Aside0.mk Q_BK1640
       have HB := Aside0.mk Q_HB
       have HO1644 := Aside0.mk (Q_HO1644 (hon 3 (by kernel_rfl)))
       have HO1650 := Aside0.mk (Q_HO1650 (hon 7 (by kernel_rfl)))
       have HO1656 := Aside0.mk (Q_HO1656 (hon 11 (by kernel_rfl)))
       have HO1662 := Aside0.mk (Q_HO1662 (hon 15 (by kernel_rfl)))
       have HO1666 := Aside0.mk (Q_HO1666 (hon 19 (by kernel_rfl)))
       refine value_ (w1 := w') (v := .int .u64 t1668) (by rfl) rfl ?_ ?_
       ·go_simp
        (try simp only [i64_w])
        try rfl
       refine hK.out _ _ ⟨v1643, v1649, v1655, v1661, v1665, (by rw [ha.out]; exact putSel_upk 17 hb_ rfl rfl rfl), Q_BK1615, Q_BK1616, Q_BK1617, Q_BK1618, Q_BK1626, Q_BK1633, Q_BK1640, Q_HB, Q_HO1644, Q_HO1650, Q_HO1656, Q_HO1662, Q_HO1666⟩
      exact steps_nil
     rintro b a w153 hall ⟨v1643, v1649, v1655, v1661, v1665, ha, Q_BK1615, Q_BK1616, Q_BK1617, Q_BK1618, Q_BK1626, Q_BK1633, Q_BK1640, Q_HB, Q_HO1644, Q_HO1650, Q_HO1656, Q_HO1662, Q_HO1666⟩
     clear BK1615 BK1616 BK1617 BK1618 BK1626 BK1633 BK1640 HB
     have hb1_ := hall 1 (by kernel_rfl)
     have hb2_ := hall 2 (by kernel_rfl)
     have hb3_ := hall 3 (by kernel_rfl)
     have hb4_ := hall 4 (by kernel_rfl)
     have hb5_ := hall 5 (by kernel_rfl)
     have hb6_ := hall 6 (by kernel_rfl)
     have hb7_ := hall 7 (by kernel_rfl)
     have hb8_ := hall 8 (by kernel_rfl)
     have hb9_ := hall 9 (by kernel_rfl)
     have hb10_ := hall 10 (by kernel_rfl)
     have hb11_ := hall 11 (by kernel_rfl)
     have hb12_ := hall 12 (by kernel_rfl)
     have hb15_ := hall 15 (by kernel_rfl)
     have hb16_ := hall 16 (by kernel_rfl)
     have hb19_ := hall 19 (by kernel_rfl)
     have hb20_ := hall 20 (by kernel_rfl)
     have hb21_ := hall 21 (by kernel_rfl)
     have hb22_ := hall 22 (by kernel_rfl)
     subst ha
     simp only [putSel, hb1_, hb2_, hb3_, hb4_, hb5_, hb6_, hb7_, hb8_, hb9_, hb10_, hb11_, hb12_, hb15_, hb16_, hb19_, hb20_, hb21_, hb22_, if_true, Act.put, List.setIfInBounds_toArray, List.set_cons_zero, List.set_cons_succ]
     have BK1615 := Aside0.mk Q_BK1615
     clear Q_BK1615
     have BK1616 := Aside0.mk Q_BK1616
     clear Q_BK1616
     have BK1617 := Aside0.mk Q_BK1617
     clear Q_BK1617
     have BK1618 := Aside0.mk Q_BK1618
     clear Q_BK1618
     have BK1626 := Aside0.mk Q_BK1626
     clear Q_BK1626
     have BK1633 := Aside0.mk Q_BK1633
     clear Q_BK1633
     have BK1640 := Aside0.mk Q_BK1640
     clear Q_BK1640
     have HB := Aside0.mk Q_HB
     clear Q_HB
     have HO1644 := Aside0.mk (Q_HO1644 hb3_)
     clear Q_HO1644
     have HO1650 := Aside0.mk (Q_HO1650 hb7_)
     clear Q_HO1650
     have HO1656 := Aside0.mk (Q_HO1656 hb11_)
     clear Q_HO1656
     have HO1662 := Aside0.mk (Q_HO1662 hb15_)
     clear Q_HO1662
     have HO1666 := Aside0.mk (Q_HO1666 hb19_)
     clear Q_HO1666
     clear hall hb1_ hb2_ hb3_ hb4_ hb5_ hb6_ hb7_ hb8_ hb9_ hb10_ hb11_ hb12_ hb15_ hb16_ hb19_ hb20_ hb21_ hb22_
     try go_wp2_with (first | (go_at_call 34; (with_reducible refine (pattern_Less.calls kj13 t1668 t1641 t1669 _ A111.out).mono ?_); rintro e w' ⟨rfl, ⟨nd, rfl⟩⟩))
     go_ret
     exact ⟨zaE, zaB⟩
    exact absurd rfl c110
 replace c10 := Bool.eq_false_iff.mpr c10
 subst c10
 replace H := zif H
 subst hr_
 cases H
end Go.Proofs.Ytmadjhmecfbcmaa.F
end
section
namespace Go.Proofs.Ytmadjhmecfbcmaa.M
open Go.RowKit Go.Proofs.YtmadjhmecfbcmaaW.PrintWords Go.Proofs.YtmadjhmecfbcmaaW.PrintLast Go.Proofs.YtmadjhmecfbcmaaW.PrintMore Go.Proofs.Ytmadjhmecfbcmaa.F
def sgn (a : Nat) : Bool := a / 9223372036854775808 == 1
def ex (a : Nat) : Nat := a / 4503599627370496 % 2048
def fr (a : Nat) : Nat := a % 4503599627370496
def cls (a : Nat) : Nat := if ex a = 2047 then (if fr a = 0 then 3 else 4) else if ex a = 0 then (if fr a = 0 then 0 else 1) else 2
def spm (a : Nat) : Nat := if cls a = 2 then 4503599627370496 + fr a else if cls a = 1 then fr a else 0
def spe (a : Nat) : Int := if cls a = 2 then (ex a : Int) - 1075 else if cls a = 1 then -1074 else 0
def key (a : Nat) : Nat := a % 9223372036854775808
def U (a : Nat) : Prop := a < 18446744073709551616
theorem sgn_cast (a : Nat) : ((a : Int) / 9223372036854775808 == 1) = sgn a := by
 unfold sgn
 rw [Bool.eq_iff_iff, beq_iff_eq, beq_iff_eq]; omega
theorem ex_lt (a : Nat) : ex a < 2048 := by unfold ex; omega
theorem fr_lt (a : Nat) : fr a < 4503599627370496 := by unfold fr; omega
theorem key_lt (a : Nat) : key a < 9223372036854775808 := by unfold key; omega
theorem key_parts' (a : Nat) : key a = ex a * 4503599627370496 + fr a := by unfold key ex fr; omega
theorem a_parts (a : Nat) (h : U a) : a = sg (sgn a) + key a := by
 unfold sg sgn key U at *
 by_cases e : a / 9223372036854775808 = 1
 ·rw [beq_iff_eq.2 e, if_pos rfl]; omega
 ·rw [beq_eq_false_iff_ne.2 e, if_neg (by simp)]; omega
theorem Parts_ok (a : Nat) (h : U a) : pattern_Parts.f (a : Int) = some (sgn a, (ex a : Int), (fr a : Int)) := by
 unfold pattern_Parts.f U at *
 rw [sgn_cast, show (a : Int) / 4503599627370496 = ((a / 4503599627370496 : Nat) : Int) from by omega, and_2047 _ (by omega), and_52 _ h, w64 (by omega) (by omega)]
 rfl
theorem Class_ev (a : Nat) (h : U a) : Ev (fun k => pattern_Class.f k (a : Int)) (cls a : Int) := by
 refine Ev.later 2 fun k => ?_
 unfold pattern_Class.f
 rw [bind_of _ (Parts_ok a h)]
 dsimp only
 have e1 : ((fr a : Int) == 0) = decide (fr a = 0) := by rw [Bool.eq_iff_iff]; simp
 rw [e1]
 unfold cls
 by_cases c1 : ex a = 2047
 ·rw [if_pos (by omega), if_pos c1]
  by_cases c2 : fr a = 0
  ·simp [pattern_Class.j0, c2]
  ·simp [pattern_Class.j0, c2, c1]
 ·rw [if_neg (by omega), if_neg c1]
  by_cases c3 : ex a = 0
  ·by_cases c2 : fr a = 0
   ·simp [pattern_Class.j0, pattern_Class.j1, c2, c3]
   ·simp [pattern_Class.j0, pattern_Class.j1, c2, c3]
  ·have : ¬ ((ex a : Int) = 2047) := by omega
   simp [pattern_Class.j0, pattern_Class.j1, this, c3]
theorem cls_le (a : Nat) : cls a ≤ 4 := by unfold cls; (repeat' split) <;> omega
theorem spm_lt (a : Nat) : spm a < 9007199254740992 := by have := fr_lt a; unfold spm; (repeat' split) <;> omega
theorem spe_bd (a : Nat) : -1074 ≤ spe a ∧ spe a ≤ 971 := by
 unfold spe
 split
 ·rename_i h
  have := ex_lt a
  have : 1 ≤ ex a ∧ ex a ≠ 2047 := by unfold cls at h; (repeat' split at h) <;> first | omega | (refine ⟨by omega, by omega⟩)
  omega
 ·split <;> omega
theorem split_mn (a : Nat) : (if (cls a : Int) = 2 then (some ((4503599627370496 : Int) + (fr a : Int), (ex a : Int) - 1075)) else (if (cls a : Int) = 1 then (some ((fr a : Int), (-1074 : Int))) else (some (0, 0)))) = some ((spm a : Int), spe a) := by
 unfold spm spe
 by_cases c1 : cls a = 2
 ·simp only [c1, if_true]; rw [Int.natCast_add]; rfl
 ·have h1 : ¬ (cls a : Int) = 2 := by omega
  by_cases c2 : cls a = 1
  ·have h2 : (cls a : Int) = 1 := by omega
   rw [if_neg h1, if_pos h2, if_neg c1, if_neg c1, if_pos c2, if_pos c2]
  ·have h2 : ¬ (cls a : Int) = 1 := by omega
   rw [if_neg h1, if_neg h2, if_neg c1, if_neg c1, if_neg c2, if_neg c2]; rfl
theorem Split_ev (a : Nat) (h : U a) : Ev (fun k => pattern_Split.f k (a : Int)) ((spm a : Int), spe a) := by
 unfold pattern_Split.f
 refine Ev.b _ (Ev.const (Parts_ok a h)) (Ev.b _ (Class_ev a h) (Ev.const ?_))
 dsimp only
 have h1 := fr_lt a
 have h2 := ex_lt a
 have e1 : bits .or .u64 4503599627370496 (fr a : Int) = 4503599627370496 + (fr a : Int) := by
  have := or_join 4503599627370496 (fr a) 52 (by decide) (by omega) (by decide) (by omega)
  rw [Int.natCast_add] at this; exact this
 have e2 : wrap64 ((ex a : Int) - 1075) = (ex a : Int) - 1075 := w64 (by omega) (by omega)
 refine Eq.trans ?_ (split_mn a)
 rw [e1, e2]
theorem of_ev (a : Nat) (h : U a) : Ev (fun k => soft_of.f k (a : Int)) ((a : Int), (cls a : Int), sgn a, (spm a : Int), spe a) := by
 unfold soft_of.f
 refine Ev.b _ (Split_ev a h) (Ev.b _ (Class_ev a h) (Ev.const ?_))
 rw [sgn_cast]
def mk (neg : Bool) (e f : Nat) : Nat := sg neg + (e * 4503599627370496 + f)
theorem Make_ev (neg : Bool) (e f : Nat) (he : e ≤ 2047) (hf : f < 4503599627370496) : Ev (fun k => pattern_Make.f k neg (e : Int) (f : Int)) ((mk neg e f : Int), 0) := by
 refine Ev.later 1 fun k => ?_
 unfold pattern_Make.f
 rw [if_neg (by omega), if_neg (by omega), decide_eq_false (by omega)]
 simp only [pattern_Make.j0]
 rw [if_neg (by simp), wu64 (n := (e : Int)) (by omega) (by omega), wu64 (n := (e : Int) * 4503599627370496) (by omega) (by omega)]
 rw [show (e : Int) * 4503599627370496 = ((e * 4503599627370496 : Nat) : Int) from by omega]
 rw [or_join (e * 4503599627370496) f 52 (by omega) hf (by omega) (by omega)]
 unfold mk sg
 cases neg
 ·rw [if_neg (by simp)]; simp
 ·rw [if_pos rfl, show (9223372036854775808 : Int) = ((9223372036854775808 : Nat) : Int) from rfl, or_join' 9223372036854775808 _ 63 (by decide) (by omega) (by decide) (by omega)]
  simp
theorem zero_ev (neg : Bool) : Ev (fun k => soft_zero.f k neg) (sg neg : Int) := by
 unfold soft_zero.f
 exact Ev.b _ (Make_ev neg 0 0 (by omega) (by omega)) (Ev.now _)
theorem Inf_ev (neg : Bool) : Ev (fun k => pattern_Inf.f k neg) ((sg neg + 9218868437227405312 : Nat) : Int) := by
 unfold pattern_Inf.f
 exact Ev.b _ (Make_ev neg 2047 0 (by omega) (by omega)) (Ev.now _)
theorem nan_ev (a : Nat) (h : U a) : Ev (fun k => pattern_nan.f k (a : Int)) (decide (cls a = 4)) := by
 unfold pattern_nan.f
 refine Ev.b _ (Class_ev a h) (Ev.const ?_)
 congr 1; rw [Bool.eq_iff_iff, beq_iff_eq, decide_eq_true_iff]; omega
theorem flip_U (a : Nat) (h : U a) : U (flip a) := by unfold U flip at *; split <;> omega
def ng (a : Nat) : Nat := if cls a = 4 then a else flip a
theorem ng_U (a : Nat) (h : U a) : U (ng a) := by unfold ng; split; exact h; exact flip_U a h
theorem Neg_ev (a : Nat) (h : U a) : Ev (fun k => pattern_Neg.f k (a : Int)) (ng a : Int) := by
 unfold pattern_Neg.f
 refine Ev.b _ (nan_ev a h) (Ev.const ?_)
 unfold ng
 by_cases c : cls a = 4
 ·rw [decide_eq_true c, if_pos rfl, if_pos c]
 ·rw [decide_eq_false c, if_neg (by simp), if_neg c, xor_sign a h]
end Go.Proofs.Ytmadjhmecfbcmaa.M
end
section
namespace Go.Proofs.Ytmadjhmecfbcmaa.M
open Go.RowKit Go.Proofs.YtmadjhmecfbcmaaW.PrintWords Go.Proofs.YtmadjhmecfbcmaaW.PrintLast Go.Proofs.YtmadjhmecfbcmaaW.PrintMore Go.Proofs.Ytmadjhmecfbcmaa.F
theorem mod_mul_add (x B d : Nat) (hd : d < B) : (x * B + d) % (B * B) = x % B * B + d := by
 have h1 := Nat.div_add_mod x B
 have hB : 0 < B := by omega
 have h2 : x * B + d = (x % B * B + d) + (B * B) * (x / B) := by
  have : x * B = (B * (x / B) + x % B) * B := by rw [h1]
  rw [this, Nat.add_mul]; grind
 rw [h2, Nat.add_mul_mod_self_left]
 apply Nat.mod_eq_of_lt
 have : x % B + 1 ≤ B := Nat.mod_lt x hB
 have : (x % B + 1) * B ≤ B * B := Nat.mul_le_mul_right B this
 rw [Nat.add_mul] at this; omega
theorem mul_mod_join (hi c B P Q : Nat) (hPQ : P * Q = B) (hQ : 0 < Q) (hc : c < P) : (hi * P + c) % B = hi * P % B + c := by
 have e : hi * P % B = hi % Q * P := by
  rw [← hPQ, Nat.mul_comm hi P, Nat.mul_mod_mul_left, Nat.mul_comm]
 have h1 := Nat.div_add_mod hi Q
 have h2 : hi * P + c = (hi % Q * P + c) + B * (hi / Q) := by
  have : hi * P = (Q * (hi / Q) + hi % Q) * P := by rw [h1]
  rw [this, ← hPQ]; grind
 rw [h2, Nat.add_mul_mod_self_left, e]
 apply Nat.mod_eq_of_lt
 have : hi % Q + 1 ≤ Q := Nat.mod_lt hi hQ
 have : (hi % Q + 1) * P ≤ Q * P := Nat.mul_le_mul_right P this
 rw [Nat.add_mul, Nat.mul_comm Q P] at this; omega
def tw (V : Nat) : Int × Int := (((V / 18446744073709551616 : Nat) : Int), ((V % 18446744073709551616 : Nat) : Int))
theorem tw_join (q d : Nat) (h : d < 18446744073709551616) : tw (q * 18446744073709551616 + d) = ((q : Int), (d : Int)) := by
 rw [tw, show (q * 18446744073709551616 + d) / 18446744073709551616 = q by omega, show (q * 18446744073709551616 + d) % 18446744073709551616 = d by omega]
theorem shl_arith (hi lo n : Nat) (h1 : lo < 18446744073709551616) (hn : n < 64) :
  (hi * 18446744073709551616 + lo) * 2 ^ n % (18446744073709551616 * 18446744073709551616) =
   (hi * 2 ^ n % 18446744073709551616 + lo / 2 ^ (64 - n)) * 18446744073709551616 + lo * 2 ^ n % 18446744073709551616 := by
 have hPQ : 2 ^ n * 2 ^ (64 - n) = 18446744073709551616 := by rw [← Nat.pow_add, show n + (64 - n) = 64 by omega]
 have hc : lo * 2 ^ n / 18446744073709551616 = lo / 2 ^ (64 - n) := by
  rw [← hPQ, Nat.mul_comm lo, Nat.mul_div_mul_left _ _ (two_pos n)]
 have hc2 : lo / 2 ^ (64 - n) < 2 ^ n := by rw [Nat.div_lt_iff_lt_mul (two_pos _), hPQ]; exact h1
 have h2 := Nat.div_add_mod (lo * 2 ^ n) 18446744073709551616
 have e : (hi * 18446744073709551616 + lo) * 2 ^ n = (hi * 2 ^ n + lo / 2 ^ (64 - n)) * 18446744073709551616 + lo * 2 ^ n % 18446744073709551616 := by
  rw [← hc, Nat.add_mul, Nat.add_mul, Nat.mul_right_comm]; omega
 rw [e, mod_mul_add _ _ _ (Nat.mod_lt _ (by decide)), mul_mod_join _ _ _ _ _ hPQ (two_pos _) hc2]
theorem Shl_ev (n : Nat) : ∀ (hi lo : Nat), hi < 18446744073709551616 → lo < 18446744073709551616 → n < 1000000 →
  Ev (fun k => wide_U128_Shl.l0 k (n : Int) (hi : Int) (lo : Int)) (tw ((hi * 18446744073709551616 + lo) * 2 ^ n % (18446744073709551616 * 18446744073709551616))) := by
 induction n using Nat.strongRecOn with
 | _ n ih =>
 intro hi lo hhi hlo hn
 refine Ev.next ?_
 simp only [wide_U128_Shl.l0]
 by_cases c : 64 ≤ n
 ·have hB : 2 ^ n = 18446744073709551616 * 2 ^ (n - 64) := by rw [← show 64 + (n - 64) = n by omega, Nat.pow_add, show 64 + (n - 64) - 64 = n - 64 by omega]
  have e : (hi * 18446744073709551616 + lo) * 2 ^ n % (18446744073709551616 * 18446744073709551616) = (lo * 18446744073709551616 + 0) * 2 ^ (n - 64) % (18446744073709551616 * 18446744073709551616) := by
   have : (hi * 18446744073709551616 + lo) * 2 ^ n = (lo * 18446744073709551616 + 0) * 2 ^ (n - 64) + (18446744073709551616 * 18446744073709551616) * (hi * 2 ^ (n - 64)) := by rw [hB]; grind
   rw [this, Nat.add_mul_mod_self_left]
  rw [e]
  by_cases z : lo = 0
  ·subst z
   refine Ev.all fun k => ?_
   rw [if_pos (by omega), if_pos (by rfl)]
   simp [tw]
  ·have := ih (n - 64) (by omega) lo 0 hlo (by omega) (by omega)
   refine Ev.congr (fun k => ?_) this
   have z' : ¬ ((lo : Int) == 0) = true := by rw [beq_iff_eq]; omega
   rw [if_pos (by omega), if_neg z', w64 (by omega) (by omega), show (n : Int) - 64 = ((n - 64 : Nat) : Int) from by omega]; rfl
 ·refine Ev.all fun k => ?_
  rw [if_neg (by omega)]
  by_cases z : n = 0
  ·subst z
   rw [if_pos (by omega)]
   have : (hi * 18446744073709551616 + lo) * 2 ^ 0 % (18446744073709551616 * 18446744073709551616) = hi * 18446744073709551616 + lo := by omega
   rw [this, tw, show (hi * 18446744073709551616 + lo) / 18446744073709551616 = hi by omega, show (hi * 18446744073709551616 + lo) % 18446744073709551616 = lo by omega]
  ·rw [if_neg (by omega), if_pos (by omega), w64 (by omega) (by omega), if_pos (by omega), shl_arith hi lo n hlo (by omega)]
   rw [show (64 : Int) - (n : Int) = ((64 - n : Nat) : Int) from by omega, shl_nat _ _ (by omega), shl_nat _ _ (by omega), shr_nat _ _ (by omega)]
   have hPQ : 2 ^ n * 2 ^ (64 - n) = 18446744073709551616 := by rw [← Nat.pow_add, show n + (64 - n) = 64 by omega]
   have hc2 : lo / 2 ^ (64 - n) < 2 ^ n := by rw [Nat.div_lt_iff_lt_mul (two_pos _), hPQ]; exact hlo
   have hm : hi * 2 ^ n % 18446744073709551616 % 2 ^ n = 0 := by
    rw [← hPQ, Nat.mul_comm hi, Nat.mul_mod_mul_left, Nat.mul_mod_right]
   have hl : lo / 2 ^ (64 - n) ≤ lo := Nat.div_le_self _ _
   have hlt : hi * 2 ^ n % 18446744073709551616 + lo / 2 ^ (64 - n) < 18446744073709551616 := by
    have := mul_mod_join hi (lo / 2 ^ (64 - n)) 18446744073709551616 (2 ^ n) (2 ^ (64 - n)) hPQ (two_pos _) hc2
    rw [← this]; exact Nat.mod_lt _ (by decide)
   rw [or_join _ _ n (Nat.mod_lt _ (by decide)) hc2 hm (by omega)]
   have hd : lo * 2 ^ n % 18446744073709551616 < 18446744073709551616 := Nat.mod_lt _ (by decide)
   generalize lo * 2 ^ n % 18446744073709551616 = d at *
   generalize hi * 2 ^ n % 18446744073709551616 + lo / 2 ^ (64 - n) = q at *
   rw [tw_join q d hd]
theorem U128_Shl (hi lo n : Nat) (h1 : hi < 18446744073709551616) (h2 : lo < 18446744073709551616) (hn : n < 1000000) :
  Ev (fun k => wide_U128_Shl.f k (hi : Int) (lo : Int) (n : Int)) (tw ((hi * 18446744073709551616 + lo) * 2 ^ n % (18446744073709551616 * 18446744073709551616))) := Shl_ev n hi lo h1 h2 hn
theorem shr_arith (hi lo n : Nat) (hlo : lo < 18446744073709551616) (h0 : 0 < n) (hn : n < 64) :
  (hi * 18446744073709551616 + lo) / 2 ^ n = hi / 2 ^ n * 18446744073709551616 + (hi * 2 ^ (64 - n) % 18446744073709551616 + lo / 2 ^ n) ∧
  (hi * 18446744073709551616 + lo) % 2 ^ n = lo % 2 ^ n ∧ hi * 2 ^ (64 - n) % 18446744073709551616 % 2 ^ (64 - n) = 0 ∧ lo / 2 ^ n < 2 ^ (64 - n) ∧
  hi * 2 ^ (64 - n) % 18446744073709551616 + lo / 2 ^ n < 18446744073709551616 ∧ (lo * 2 ^ (64 - n) % 18446744073709551616 = 0 ↔ lo % 2 ^ n = 0) := by
 have hPQ : 2 ^ n * 2 ^ (64 - n) = 18446744073709551616 := by rw [← Nat.pow_add, show n + (64 - n) = 64 by omega]
 have hQP : 2 ^ (64 - n) * 2 ^ n = 18446744073709551616 := by rw [Nat.mul_comm]; exact hPQ
 have hc2 : lo / 2 ^ n < 2 ^ (64 - n) := by rw [Nat.div_lt_iff_lt_mul (two_pos _), hQP]; exact hlo
 have p1 := two_pos n
 have p2 := two_pos (64 - n)
 have h4 : hi * 2 ^ (64 - n) % 18446744073709551616 = hi % 2 ^ n * 2 ^ (64 - n) := by
  rw [← hQP, Nat.mul_comm hi, Nat.mul_mod_mul_left, Nat.mul_comm]
 have h5 : lo * 2 ^ (64 - n) % 18446744073709551616 = lo % 2 ^ n * 2 ^ (64 - n) := by
  rw [← hQP, Nat.mul_comm lo, Nat.mul_mod_mul_left, Nat.mul_comm]
 have hx : hi % 2 ^ n < 2 ^ n := Nat.mod_lt _ p1
 refine ⟨?_, ?_, ?_, hc2, ?_, ?_⟩
 ·rw [h4]
  have e : hi * 18446744073709551616 + lo = lo + 2 ^ n * (hi * 2 ^ (64 - n)) := by rw [← hPQ]; grind
  rw [e, Nat.add_mul_div_left _ _ p1]
  have := Nat.div_add_mod hi (2 ^ n)
  have e2 : hi * 2 ^ (64 - n) = hi / 2 ^ n * 18446744073709551616 + hi % 2 ^ n * 2 ^ (64 - n) := by
   rw [← hPQ]
   have : hi * 2 ^ (64 - n) = (2 ^ n * (hi / 2 ^ n) + hi % 2 ^ n) * 2 ^ (64 - n) := by rw [this]
   rw [this]; grind
  rw [e2]; omega
 ·have e : hi * 18446744073709551616 + lo = lo + 2 ^ n * (hi * 2 ^ (64 - n)) := by rw [← hPQ]; grind
  rw [e, Nat.add_mul_mod_self_left]
 ·rw [h4, Nat.mul_mod_left]
 ·rw [h4]
  have h6 : (hi % 2 ^ n + 1) * 2 ^ (64 - n) ≤ 2 ^ n * 2 ^ (64 - n) := Nat.mul_le_mul_right _ hx
  rw [hPQ, Nat.add_mul] at h6; omega
 ·rw [h5]
  constructor
  ·intro h; rcases Nat.mul_eq_zero.1 h with h | h <;> omega
  ·intro h; rw [h, Nat.zero_mul]
theorem Shr_ev (n : Nat) : ∀ (hi lo : Nat) (lost : Bool), hi < 18446744073709551616 → lo < 18446744073709551616 → n < 1000000 →
  Ev (fun k => wide_U128_Shr.l0 k (n : Int) lost (hi : Int) (lo : Int)) ((tw ((hi * 18446744073709551616 + lo) / 2 ^ n)).1, (tw ((hi * 18446744073709551616 + lo) / 2 ^ n)).2, lost || decide ((hi * 18446744073709551616 + lo) % 2 ^ n ≠ 0)) := by
 induction n using Nat.strongRecOn with
 | _ n ih =>
 intro hi lo lost hhi hlo hn
 refine Ev.next ?_
 simp only [wide_U128_Shr.l0]
 by_cases c : 64 ≤ n
 ·have hB : 2 ^ n = 18446744073709551616 * 2 ^ (n - 64) := by rw [← show 64 + (n - 64) = n by omega, Nat.pow_add, show 64 + (n - 64) - 64 = n - 64 by omega]
  have e : (hi * 18446744073709551616 + lo) / 2 ^ n = (0 * 18446744073709551616 + hi) / 2 ^ (n - 64) := by
   rw [hB, ← Nat.div_div_eq_div_mul]; congr 1; omega
  have e2 : (hi * 18446744073709551616 + lo) % 2 ^ n ≠ 0 ↔ lo ≠ 0 ∨ (0 * 18446744073709551616 + hi) % 2 ^ (n - 64) ≠ 0 := by
   rw [hB, Nat.mod_mul, show (hi * 18446744073709551616 + lo) % 18446744073709551616 = lo by omega, show (hi * 18446744073709551616 + lo) / 18446744073709551616 = 0 * 18446744073709551616 + hi by omega]
   have := two_pos (n - 64)
   constructor
   ·intro h; by_cases z : lo = 0
    ·right; intro h2; apply h; rw [h2, z]
    ·exact .inl z
   ·rintro (h | h) h2
    ·omega
    ·apply h; rcases Nat.eq_zero_of_add_eq_zero h2 with ⟨_, h3⟩
     rcases Nat.mul_eq_zero.1 h3 with h4 | h4
     ·cases h4
     ·exact h4
  have l1 : ((lo : Int) != 0) = decide (lo ≠ 0) := by rw [Bool.eq_iff_iff]; simp
  have e3 : (lost || decide ((hi * 18446744073709551616 + lo) % 2 ^ n ≠ 0)) = ((lost || decide (lo ≠ 0)) || decide ((0 * 18446744073709551616 + hi) % 2 ^ (n - 64) ≠ 0)) := by
   rw [Bool.eq_iff_iff]; simp only [Bool.or_eq_true, decide_eq_true_iff, e2]; grind
  rw [e, e3]
  by_cases z : hi = 0
  ·subst z
   refine Ev.all fun k => ?_
   rw [if_pos (by omega)]
   cases lost
   ·rw [if_neg (by simp), if_pos (by rfl), l1]; simp [tw]
   ·rw [if_pos rfl, if_pos (by rfl)]; simp [tw]
  ·have z' : ¬ ((hi : Int) == 0) = true := by rw [beq_iff_eq]; omega
   have hc : (n : Int) - 64 = ((n - 64 : Nat) : Int) := by omega
   cases lost
   ·have := ih (n - 64) (by omega) 0 hi (decide (lo ≠ 0)) (by omega) hhi (by omega)
    refine Ev.congr (fun k => ?_) (by rw [Bool.false_or]; exact this)
    rw [if_pos (by omega), if_neg (by simp), if_neg z', w64 (by omega) (by omega), hc, l1]; rfl
   ·have := ih (n - 64) (by omega) 0 hi true (by omega) hhi (by omega)
    refine Ev.congr (fun k => ?_) (by rw [Bool.true_or]; exact this)
    rw [if_pos (by omega), if_pos rfl, if_neg z', w64 (by omega) (by omega), hc]; rfl
 ·refine Ev.all fun k => ?_
  rw [if_neg (by omega)]
  by_cases z : n = 0
  ·subst z
   rw [if_pos (by omega)]
   have : (hi * 18446744073709551616 + lo) / 2 ^ 0 = hi * 18446744073709551616 + lo := by omega
   rw [this, tw, show (hi * 18446744073709551616 + lo) / 18446744073709551616 = hi by omega, show (hi * 18446744073709551616 + lo) % 18446744073709551616 = lo by omega]
   have : (hi * 18446744073709551616 + lo) % 2 ^ 0 = 0 := by omega
   rw [this]; simp
  ·obtain ⟨a1, a2, a3, a4, a5, a6⟩ := shr_arith hi lo n hlo (by omega) (by omega)
   have hl : lo / 2 ^ n ≤ lo := Nat.div_le_self _ _
   have hd : hi / 2 ^ n ≤ hi := Nat.div_le_self _ _
   rw [if_neg (by omega), if_pos (by omega), w64 (by omega) (by omega), if_pos (by omega)]
   rw [show (64 : Int) - (n : Int) = ((64 - n : Nat) : Int) from by omega, shr_nat _ _ (by omega), shr_nat _ _ (by omega), shl_nat _ _ (by omega), shl_nat _ _ (by omega)]
   rw [or_join' _ _ (64 - n) (Nat.mod_lt _ (by decide)) a4 a3 (by omega), a1, a2]
   have l1 : (((lo * 2 ^ (64 - n) % 18446744073709551616 : Nat) : Int) != 0) = decide (lo % 2 ^ n ≠ 0) := by
    rw [Bool.eq_iff_iff]; simp only [bne_iff_ne, decide_eq_true_iff, Ne, ← a6]; omega
   generalize hi * 2 ^ (64 - n) % 18446744073709551616 + lo / 2 ^ n = d at *
   generalize hi / 2 ^ n = q at *
   rw [tw_join q d a5]
   cases lost
   ·rw [if_neg (by simp), l1]; rfl
   ·rw [if_pos rfl]; rfl
theorem U128_Shr (hi lo n : Nat) (h1 : hi < 18446744073709551616) (h2 : lo < 18446744073709551616) (hn : n < 1000000) :
  Ev (fun k => wide_U128_Shr.f k (hi : Int) (lo : Int) (n : Int)) ((tw ((hi * 18446744073709551616 + lo) / 2 ^ n)).1, (tw ((hi * 18446744073709551616 + lo) / 2 ^ n)).2, decide ((hi * 18446744073709551616 + lo) % 2 ^ n ≠ 0)) := by
 have := Shr_ev n hi lo false h1 h2 hn
 rw [Bool.false_or] at this; exact this
def bl (x : Nat) : Nat := if x = 0 then 0 else x.log2 + 1
theorem Len64_ok (x : Nat) (h : x < 18446744073709551616) : bits_Len64.f (x : Int) = some (bl x : Int) := by
 unfold bits_Len64.f bl
 rw [if_pos (by omega), Int.toNat_natCast]
 split
 ·rename_i e; subst e; rfl
 ·rename_i e; rw [bitLen_log2 x e h]
theorem log2_join (hi lo : Nat) (h : hi ≠ 0) (h2 : lo < 18446744073709551616) : (hi * 18446744073709551616 + lo).log2 = hi.log2 + 64 := by
 have a1 := Nat.log2_self_le h
 have a2 : hi < 2 ^ (hi.log2 + 1) := Nat.lt_log2_self
 have n0 : hi * 18446744073709551616 + lo ≠ 0 := by omega
 have b1 : hi.log2 + 64 ≤ (hi * 18446744073709551616 + lo).log2 := by
  rw [Nat.le_log2 n0, Nat.pow_add]; omega
 have b2 : (hi * 18446744073709551616 + lo).log2 < hi.log2 + 1 + 64 := by
  rw [Nat.log2_lt n0, Nat.pow_add]; omega
 omega
theorem bl_le {x n : Nat} (h : x < 2 ^ n) : bl x ≤ n := by
 unfold bl; split
 ·omega
 ·rename_i e; have := (Nat.log2_lt e).2 h; omega
theorem U128_Len (hi lo : Nat) (h1 : hi < 18446744073709551616) (h2 : lo < 18446744073709551616) :
  wide_U128_Len.f (hi : Int) (lo : Int) = some (bl (hi * 18446744073709551616 + lo) : Int) := by
 unfold wide_U128_Len.f
 by_cases c : hi = 0
 ·subst c
  rw [if_neg (by omega), bind_of _ (Len64_ok lo h2), show 0 * 18446744073709551616 + lo = lo by omega]
 ·rw [if_pos (by omega), bind_of _ (Len64_ok hi h1)]
  have := bl_le (x := hi) (n := 64) h1
  rw [w64 (by omega) (by omega)]
  unfold bl
  rw [if_neg c, if_neg (by omega), log2_join hi lo c h2]; congr 1; omega
end Go.Proofs.Ytmadjhmecfbcmaa.M
end
section
namespace Go.Proofs.Ytmadjhmecfbcmaa.M
open Go.RowKit Go.Proofs.YtmadjhmecfbcmaaW.PrintWords Go.Proofs.YtmadjhmecfbcmaaW.PrintLast Go.Proofs.YtmadjhmecfbcmaaW.PrintMore Go.Proofs.Ytmadjhmecfbcmaa.F
def FN (A : Nat) (e : Int) : Nat := A * 2 ^ (e + 1075).toNat
def FD (B : Nat) (e : Int) : Nat := B * 2 ^ (-(e + 1075)).toNat
def FX (A B : Nat) (e : Int) : Nat := FN A e / FD B e
def FS (A B : Nat) (e : Int) (rest : Bool) : Bool := rest || decide (FN A e % FD B e ≠ 0)
theorem shift_div (m p n : Nat) : m * 2 ^ p / 2 ^ n = if p ≤ n then m / 2 ^ (n - p) else m * 2 ^ (p - n) := by
 split
 ·rename_i h
  have : 2 ^ n = 2 ^ p * 2 ^ (n - p) := by rw [← Nat.pow_add, show p + (n - p) = n by omega]
  rw [this, Nat.mul_comm m, Nat.mul_div_mul_left _ _ (two_pos p)]
 ·rename_i h
  have : 2 ^ p = 2 ^ n * 2 ^ (p - n) := by rw [← Nat.pow_add, show n + (p - n) = p by omega]
  rw [this, Nat.mul_left_comm, Nat.mul_div_cancel_left _ (two_pos n)]
theorem shift_mod (m p n : Nat) : m * 2 ^ p % 2 ^ n = 0 ↔ n ≤ p ∨ m % 2 ^ (n - p) = 0 := by
 by_cases h : n ≤ p
 ·have : 2 ^ p = 2 ^ n * 2 ^ (p - n) := by rw [← Nat.pow_add, show n + (p - n) = p by omega]
  rw [this, Nat.mul_left_comm, Nat.mul_mod_right]; simp [h]
 ·have : 2 ^ n = 2 ^ p * 2 ^ (n - p) := by rw [← Nat.pow_add, show p + (n - p) = n by omega]
  rw [this, Nat.mul_comm m, Nat.mul_mod_mul_left, Nat.mul_eq_zero]
  have := two_pos p
  constructor
  ·rintro (h2 | h2)
   ·omega
   ·exact .inr h2
  ·rintro (h2 | h2)
   ·omega
   ·exact .inr h2
theorem FX_one (m : Nat) (e : Int) : FX m 1 e = m * 2 ^ (e + 1075).toNat / 2 ^ (-(e + 1075)).toNat := by unfold FX FN FD; rw [Nat.one_mul]
theorem FS_one (m : Nat) (e : Int) (r : Bool) : FS m 1 e r = (r || decide (m * 2 ^ (e + 1075).toNat % 2 ^ (-(e + 1075)).toNat ≠ 0)) := by unfold FS FN FD; rw [Nat.one_mul]
theorem bl_bd (m : Nat) (h : m ≠ 0) : 1 ≤ bl m ∧ 2 ^ (bl m - 1) ≤ m ∧ m < 2 ^ bl m := by
 unfold bl; rw [if_neg h]
 exact ⟨by omega, by rw [show m.log2 + 1 - 1 = m.log2 by omega]; exact Nat.log2_self_le h, Nat.lt_log2_self⟩
theorem FX_lt (m : Nat) (e : Int) (n : Nat) (h : (bl m : Int) + e + 1075 ≤ n) (h0 : m ≠ 0) : FX m 1 e < 2 ^ n := by
 have hb := bl_bd m h0
 rw [FX_one, Nat.div_lt_iff_lt_mul (two_pos _), ← Nat.pow_add]
 have h1 : m * 2 ^ (e + 1075).toNat < 2 ^ bl m * 2 ^ (e + 1075).toNat := Nat.mul_lt_mul_of_pos_right hb.2.2 (two_pos _)
 rw [← Nat.pow_add] at h1
 have h2 : 2 ^ (bl m + (e + 1075).toNat) ≤ 2 ^ (n + (-(e + 1075)).toNat) := pow_le (by omega)
 omega
theorem FX_ge (m : Nat) (e : Int) (n : Nat) (h : (n : Int) ≤ (bl m : Int) - 1 + e + 1075) (h0 : m ≠ 0) : 2 ^ n ≤ FX m 1 e := by
 have hb := bl_bd m h0
 rw [FX_one, Nat.le_div_iff_mul_le (two_pos _), ← Nat.pow_add]
 have h1 : 2 ^ (bl m - 1) * 2 ^ (e + 1075).toNat ≤ m * 2 ^ (e + 1075).toNat := Nat.mul_le_mul_right _ hb.2.1
 rw [← Nat.pow_add] at h1
 have h2 : 2 ^ (n + (-(e + 1075)).toNat) ≤ 2 ^ (bl m - 1 + (e + 1075).toNat) := pow_le (by omega)
 omega
theorem sh_FX (m : Nat) (e q : Int) (h0 : m ≠ 0) (hq : q = (bl m : Int) - 53 + e ∧ -1074 ≤ q ∨ q = -1074 ∧ (bl m : Int) - 53 + e ≤ -1074) : sh (FX m 1 e) = (q + 1075).toNat := by
 apply sh_unique
 by_cases c : q = -1074
 ·left
  refine ⟨by omega, ?_⟩
  have := FX_lt m e 54 (by omega) h0
  omega
 ·right
  refine ⟨by omega, ?_, ?_⟩
  ·exact FX_ge m e _ (by omega) h0
  ·exact FX_lt m e _ (by omega) h0
theorem keep_out (m : Nat) (e q : Int) (r : Bool) (h : -1074 ≤ q) (hs : sh (FX m 1 e) = (q + 1075).toNat) (hd : 0 < q - e) :
  wd (FX m 1 e) = m / 2 ^ (q - e).toNat ∧ hf (FX m 1 e) = (m / 2 ^ (q - e - 1).toNat % 2 == 1) ∧ rs (FX m 1 e) (FS m 1 e r) = (r || decide (m % 2 ^ (q - e - 1).toNat ≠ 0)) := by
 unfold wd hf rs
 rw [hs, FX_one, FS_one]
 have a1 : ∀ n, m * 2 ^ (e + 1075).toNat / 2 ^ (-(e + 1075)).toNat / 2 ^ n = m * 2 ^ (e + 1075).toNat / 2 ^ ((-(e + 1075)).toNat + n) := by
  intro n; rw [Nat.div_div_eq_div_mul, ← Nat.pow_add]
 refine ⟨?_, ?_, ?_⟩
 ·rw [a1, shift_div, if_pos (by omega), show (-(e + 1075)).toNat + (q + 1075).toNat - (e + 1075).toNat = (q - e).toNat by omega]
 ·rw [a1, shift_div, if_pos (by omega), show (-(e + 1075)).toNat + ((q + 1075).toNat - 1) - (e + 1075).toNat = (q - e - 1).toNat by omega]
 ·rw [Bool.or_assoc]; congr 1
  rw [Bool.eq_iff_iff, Bool.or_eq_true, bne_iff_ne, decide_eq_true_iff, decide_eq_true_iff]
  have k : m * 2 ^ (e + 1075).toNat % 2 ^ ((-(e + 1075)).toNat + ((q + 1075).toNat - 1)) = 0 ↔ m * 2 ^ (e + 1075).toNat % 2 ^ (-(e + 1075)).toNat = 0 ∧ m * 2 ^ (e + 1075).toNat / 2 ^ (-(e + 1075)).toNat % 2 ^ ((q + 1075).toNat - 1) = 0 := by
   rw [Nat.pow_add, Nat.mod_mul]
   have := two_pos (-(e + 1075)).toNat
   constructor
   ·intro h; obtain ⟨h1, h2⟩ := Nat.eq_zero_of_add_eq_zero h
    refine ⟨h1, ?_⟩
    rcases Nat.mul_eq_zero.1 h2 with h3 | h3
    ·omega
    ·exact h3
   ·rintro ⟨h1, h2⟩; rw [h1, h2, Nat.mul_zero]
  rw [shift_mod, show (-(e + 1075)).toNat + ((q + 1075).toNat - 1) - (e + 1075).toNat = (q - e - 1).toNat by omega] at k
  constructor
  ·intro h1 h2
   have := k.1 (.inr h2)
   rcases h1 with h1 | h1
   ·exact h1 this.1
   ·exact h1 this.2
  ·intro h1
   by_cases c : m * 2 ^ (e + 1075).toNat % 2 ^ (-(e + 1075)).toNat = 0
   ·right; intro h2
    rcases k.2 ⟨c, h2⟩ with h3 | h3
    ·have : (q - e - 1).toNat = 0 := by omega
     rw [this] at h1; omega
    ·exact h1 h3
   ·exact .inl c
theorem keep_in (m : Nat) (e q : Int) (h : -1074 ≤ q) (hs : sh (FX m 1 e) = (q + 1075).toNat) (hd : q - e ≤ 0) :
  wd (FX m 1 e) = m * 2 ^ (e - q).toNat ∧ hf (FX m 1 e) = false ∧ rs (FX m 1 e) (FS m 1 e false) = false := by
 unfold wd hf rs
 have h0 : (-(e + 1075)).toNat = 0 := by omega
 rw [hs, FX_one, FS_one, h0]
 have e1 : 2 ^ (e + 1075).toNat = 2 ^ (q + 1075).toNat * 2 ^ (e - q).toNat := by rw [← Nat.pow_add]; congr 1; omega
 have e2 : 2 ^ (q + 1075).toNat = 2 ^ ((q + 1075).toNat - 1) * 2 := by rw [← Nat.pow_succ]; congr 1; omega
 rw [Nat.pow_zero, Nat.div_one]
 refine ⟨?_, ?_, ?_⟩
 ·rw [e1, Nat.mul_left_comm, Nat.mul_div_cancel_left _ (two_pos _)]
 ·rw [e1, e2, show m * (2 ^ ((q + 1075).toNat - 1) * 2 * 2 ^ (e - q).toNat) = 2 ^ ((q + 1075).toNat - 1) * (2 * (m * 2 ^ (e - q).toNat)) by grind, Nat.mul_div_cancel_left _ (two_pos _), beq_eq_false_iff_ne]
  omega
 ·have : m * 2 ^ (e + 1075).toNat % 2 ^ ((q + 1075).toNat - 1) = 0 := by
   rw [e1, e2, show m * (2 ^ ((q + 1075).toNat - 1) * 2 * 2 ^ (e - q).toNat) = 2 ^ ((q + 1075).toNat - 1) * (2 * (m * 2 ^ (e - q).toNat)) by grind, Nat.mul_mod_right]
  rw [this]; simp [Nat.mod_one]
theorem up_ok (neg : Bool) (h l e : Int) (r0 : Bool) (mode : Nat) (odd half rest : Bool) :
  round_number_up.f neg h l e r0 (mode : Int) odd half rest = some (if dir neg mode = 1 then half || rest else if dir neg mode = 2 then false else half && (rest || odd)) := by
 unfold round_number_up.f round_number_away.f round_number_towards.f dir
 by_cases m1 : mode = 1
 ·subst m1
  cases neg <;> cases half <;> cases rest <;> simp
 ·by_cases m2 : mode = 2
  ·subst m2
   cases neg <;> cases half <;> cases rest <;> simp
  ·have c1 : ¬ (mode : Int) = 1 := by omega
   have c2 : ¬ (mode : Int) = 2 := by omega
   cases half <;> cases rest <;> simp [c1, c2, m1, m2]
theorem towards_ok (neg : Bool) (h l e : Int) (r0 : Bool) (mode : Nat) : round_number_towards.f neg h l e r0 (mode : Int) = some (decide (dir neg mode = 2)) := by
 unfold round_number_towards.f dir
 by_cases m1 : mode = 1
 ·subst m1; cases neg <;> simp
 ·by_cases m2 : mode = 2
  ·subst m2; cases neg <;> simp
  ·have c1 : ¬ (mode : Int) = 1 := by omega
   have c2 : ¬ (mode : Int) = 2 := by omega
   simp [c1, c2, m1, m2]
theorem over_ev (neg : Bool) (h l e : Int) (r0 : Bool) (mode : Nat) :
  Ev (fun k => round_number_over.f k neg h l e r0 (mode : Int)) (((sg neg + (if dir neg mode = 2 then 9218868437227405311 else 9218868437227405312) : Nat) : Int), 5) := by
 unfold round_number_over.f
 refine Ev.b _ (Inf_ev neg) (Ev.b _ (Ev.const (towards_ok neg h l e r0 mode)) (Ev.const ?_))
 by_cases c : dir neg mode = 2
 ·rw [decide_eq_true c, if_pos rfl, if_pos c]
  cases neg <;> rfl
 ·rw [decide_eq_false c, if_neg (by simp), if_neg c]
theorem bits_or_1_2 : bits .or .u8 1 2 = 3 := by decide
theorem j3_ev (neg : Bool) (h l e : Int) (r0 : Bool) (n q w : Nat) (inx : Bool) (hq : q ≤ 2045) (hw : w < 9007199254740992) (hn : n ≤ 1000) (he : -5000 ≤ e ∧ e ≤ 5000) :
  Ev (fun k => round_number_float.j3 k (n : Int) ((q : Int) - 1074) (w : Int) 0 inx neg h l e r0)
   (((sg neg + (if 4503599627370496 ≤ w then q * 4503599627370496 + w else w) : Nat) : Int), if inx then (if (n : Int) + e ≤ -1022 then 3 else 1) else 0) := by
 have hm : bits .and .u64 (w : Int) 4503599627370495 = ((w % 4503599627370496 : Nat) : Int) := and_52 w (by omega)
 have e1 : wrap64 (wrap64 ((q : Int) - 1074 - -1074) + 1) = ((q + 1 : Nat) : Int) := by rw [w64 (n := (q : Int) - 1074 - -1074) (by omega) (by omega), w64 (by omega) (by omega)]; omega
 have e2 : wrap64 ((n : Int) + e) = (n : Int) + e := w64 (by omega) (by omega)
 have mk1 : 4503599627370496 ≤ w → mk neg (q + 1) (w % 4503599627370496) = sg neg + (q * 4503599627370496 + w) := by intro hw2; unfold mk; omega
 have mk0 : w < 4503599627370496 → mk neg 0 (w % 4503599627370496) = sg neg + w := by intro hw2; unfold mk; omega
 refine Ev.next ?_
 simp only [round_number_float.j3]
 rw [hm, e1, e2, bits_or_1_2]
 by_cases c1 : 4503599627370496 ≤ w
 ·have d1 : (w : Int) / 4503599627370496 = 1 := by omega
  have M := Make_ev neg (q + 1) (w % 4503599627370496) (by omega) (Nat.mod_lt _ (by decide))
  rw [mk1 c1] at M
  rw [if_pos c1]
  cases inx
  ·exact Ev.congr (fun k => by rw [if_neg (by simp), if_pos d1]) (Ev.b (f := fun _ b => some (b.1, (0 : Int))) _ M (Ev.now _))
  ·by_cases c2 : (n : Int) + e ≤ -1022
   ·rw [if_pos rfl, if_pos c2]
    exact Ev.congr (fun k => by rw [if_pos rfl, if_pos c2, if_pos d1]) (Ev.b (f := fun _ b => some (b.1, (3 : Int))) _ M (Ev.now _))
   ·rw [if_pos rfl, if_neg c2]
    exact Ev.congr (fun k => by rw [if_pos rfl, if_neg c2, if_pos d1]) (Ev.b (f := fun _ b => some (b.1, (1 : Int))) _ M (Ev.now _))
 ·have d1 : ¬ (w : Int) / 4503599627370496 = 1 := by omega
  have M : Ev (fun k => pattern_Make.f k neg 0 ((w % 4503599627370496 : Nat) : Int)) ((mk neg 0 (w % 4503599627370496) : Int), 0) := Make_ev neg 0 (w % 4503599627370496) (by omega) (Nat.mod_lt _ (by decide))
  rw [mk0 (by omega)] at M
  rw [if_neg c1]
  cases inx
  ·exact Ev.congr (fun k => by rw [if_neg (by simp), if_neg d1]) (Ev.b (f := fun _ b => some (b.1, (0 : Int))) _ M (Ev.now _))
  ·by_cases c2 : (n : Int) + e ≤ -1022
   ·rw [if_pos rfl, if_pos c2]
    exact Ev.congr (fun k => by rw [if_pos rfl, if_pos c2, if_neg d1]) (Ev.b (f := fun _ b => some (b.1, (3 : Int))) _ M (Ev.now _))
   ·rw [if_pos rfl, if_neg c2]
    exact Ev.congr (fun k => by rw [if_pos rfl, if_neg c2, if_neg d1]) (Ev.b (f := fun _ b => some (b.1, (1 : Int))) _ M (Ev.now _))
theorem j1_ev (neg : Bool) (h l e : Int) (r0 : Bool) (mode n q w : Nat) (half rest : Bool) (hq : q ≤ 20000) (hw : w ≤ 9007199254740992) (hn : n ≤ 1000) (he : -5000 ≤ e ∧ e ≤ 5000)
    (hp : q = 0 ∨ 4503599627370496 ≤ w) :
    Ev (fun k => round_number_float.j1 k (mode : Int) (n : Int) ((q : Int) - 1074) half rest (w : Int) neg h l e r0)
      (if 9218868437227405312 ≤ q * 4503599627370496 + w then (((sg neg + (if dir neg mode = 2 then 9218868437227405311 else 9218868437227405312) : Nat) : Int), 5)
       else (((sg neg + (q * 4503599627370496 + w) : Nat) : Int), if half || rest then (if (n : Int) + e ≤ -1022 then 3 else 1) else 0)) := by
  have J2 : ∀ (q w : Nat), q ≤ 20001 → w < 9007199254740992 → (q = 0 ∨ 4503599627370496 ≤ w) →
      Ev (fun k => round_number_float.j2 k (mode : Int) (n : Int) ((q : Int) - 1074) half rest (w : Int) neg h l e r0)
      (if 9218868437227405312 ≤ q * 4503599627370496 + w then (((sg neg + (if dir neg mode = 2 then 9218868437227405311 else 9218868437227405312) : Nat) : Int), 5)
       else (((sg neg + (q * 4503599627370496 + w) : Nat) : Int), if half || rest then (if (n : Int) + e ≤ -1022 then 3 else 1) else 0)) := by
    intro q w hq hw hp
    refine Ev.next ?_
    simp only [round_number_float.j2]
    by_cases c : (q : Int) - 1074 > 971
    · rw [if_pos (by omega)]
      exact Ev.congr (fun k => by rw [if_pos c]) (Ev.b _ (over_ev neg h l e r0 mode) (Ev.now _))
    · rw [if_neg (by omega)]
      have J := j3_ev neg h l e r0 n q w (half || rest) (by omega) hw hn he
      have e1 : (if 4503599627370496 ≤ w then q * 4503599627370496 + w else w) = q * 4503599627370496 + w := by split <;> omega
      rw [e1] at J
      cases half
      · exact Ev.congr (fun k => by rw [if_neg c, if_neg (by simp)]; rfl) J
      · exact Ev.congr (fun k => by rw [if_neg c, if_pos rfl]; rfl) J
  refine Ev.next ?_
  simp only [round_number_float.j1]
  by_cases c : w = 9007199254740992
  · have e1 : wrap64 ((q : Int) - 1074 + 1) = ((q + 1 : Nat) : Int) - 1074 := by rw [w64 (by omega) (by omega)]; omega
    have e2 : (w : Int) / 2 = ((4503599627370496 : Nat) : Int) := by omega
    have J := J2 (q + 1) 4503599627370496 (by omega) (by omega) (by omega)
    rw [show (q + 1) * 4503599627370496 + 4503599627370496 = q * 4503599627370496 + w by omega] at J
    exact Ev.congr (fun k => by rw [if_pos (by omega), e1, e2]) J
  · exact Ev.congr (fun k => by rw [if_neg (by omega)]) (J2 q w (by omega) (by omega) hp)
def pr (r : Nat × Nat) : Int × Int := ((r.1 : Int), (r.2 : Int))
theorem tail_ev (neg : Bool) (m : Nat) (e : Int) (rest r0 : Bool) (mode : Nat) (h l hi lo : Int) (q : Nat) (w : Nat) (half rst : Bool) (hm : m ≠ 0) (hL : bl m ≤ 128) (he : -5000 ≤ e ∧ e ≤ 5000) (hq : q ≤ 10000)
    (hs : sh (FX m 1 e) = q + 1) (h1 : wd (FX m 1 e) = w) (h2 : hf (FX m 1 e) = half) (h3 : rs (FX m 1 e) (FS m 1 e rest) = rst) (hlo : lo = (w : Int)) :
    Ev (fun k => round_number_float.j0 k (mode : Int) (bl m : Int) ((q : Int) - 1074) half rst neg h l e r0 hi lo) (pr (RND neg (FX m 1 e) (FS m 1 e rest) mode)) := by
  subst hlo
  have hwl := wd_lt (FX m 1 e)
  rw [h1] at hwl
  have hwg : q = 0 ∨ 4503599627370496 ≤ w := by
    by_cases c : q = 0
    · exact .inl c
    · right; rw [← h1]; exact wd_ge _ (by omega)
  have hfk : fk (FX m 1 e) = q * 4503599627370496 + w := by unfold fk; rw [hs, h1]; congr 1
  have hX : FX m 1 e < 9007199254740992 ↔ (bl m : Int) + e ≤ -1022 := by
    constructor
    · intro hh
      by_cases c : (bl m : Int) + e ≤ -1022
      · exact c
      · have := FX_ge m e 53 (by omega) hm
        omega
    · intro hh
      have := FX_lt m e 53 (by omega) hm
      omega
  have hodd : FX m 1 e / 2 ^ sh (FX m 1 e) = w := h1
  refine Ev.next ?_
  simp only [round_number_float.j0]
  have hand : (bits .and .u64 (w : Int) 1 == 1) = (w % 2 == 1) := by
    rw [and_1 w (by omega), Bool.eq_iff_iff, beq_iff_eq, beq_iff_eq]; omega
  rw [hand]
  have hu := up_ok neg h l e r0 mode (w % 2 == 1) half rst
  refine Ev.b _ (Ev.const hu) ?_
  have hup : upw (FX m 1 e) (FS m 1 e rest) (dir neg mode) = (if dir neg mode = 1 then half || rst else if dir neg mode = 2 then false else half && (rst || (w % 2 == 1))) := by
    unfold upw; rw [h2, h3, hodd]
  rw [← hup]
  have key : ∀ (b : Bool), upw (FX m 1 e) (FS m 1 e rest) (dir neg mode) = b → (if 9218868437227405312 ≤ q * 4503599627370496 + (w + if b then 1 else 0) then (((sg neg + (if dir neg mode = 2 then 9218868437227405311 else 9218868437227405312) : Nat) : Int), 5)
       else (((sg neg + (q * 4503599627370496 + (w + if b then 1 else 0)) : Nat) : Int), if half || rst then (if (bl m : Int) + e ≤ -1022 then 3 else 1) else 0)) = pr (RND neg (FX m 1 e) (FS m 1 e rest) mode) := by
    intro b hb
    have hk : kk (FX m 1 e) (FS m 1 e rest) (dir neg mode) = q * 4503599627370496 + (w + if b = true then 1 else 0) := by
      unfold kk; rw [hb, hfk, Nat.add_assoc]
    by_cases c : 9218868437227405312 ≤ q * 4503599627370496 + (w + if b then 1 else 0)
    · rw [if_pos c, RND_over (by rw [hk]; exact c)]; rfl
    · rw [if_neg c, RND_in (by rw [hk]; exact c), hk, h2, h3]
      have e3 : (if (half || rst) = true then (if (bl m : Int) + e ≤ -1022 then (3 : Int) else 1) else 0) = ((if (half || rst) = true then (if FX m 1 e < 9007199254740992 then 3 else 1) else 0 : Nat) : Int) := by
        cases half || rst
        · rfl
        · by_cases c2 : (bl m : Int) + e ≤ -1022
          · rw [if_pos rfl, if_pos rfl, if_pos c2, if_pos (hX.2 c2)]; rfl
          · rw [if_pos rfl, if_pos rfl, if_neg c2, if_neg (fun hh => c2 (hX.1 hh))]; rfl
      rw [e3]; rfl
  cases hb : upw (FX m 1 e) (FS m 1 e rest) (dir neg mode)
  · have K := key false hb
    rw [show (w + if false = true then 1 else 0) = w from by simp] at K
    rw [← K]
    exact Ev.congr (fun k => by rw [if_neg (by simp)]) (j1_ev neg h l e r0 mode (bl m) q w half rst (by omega) (by omega) (by omega) he (by omega))
  · have K := key true hb
    rw [show (w + if true = true then 1 else 0) = w + 1 from by simp] at K
    rw [← K]
    have e1 : IntKind.u64.wrap ((w : Int) + 1) = ((w + 1 : Nat) : Int) := by rw [wu64 (by omega) (by omega)]; omega
    exact Ev.congr (fun k => by rw [if_pos rfl, e1]) (j1_ev neg h l e r0 mode (bl m) q (w + 1) half rst (by omega) (by omega) (by omega) he (by omega))
end Go.Proofs.Ytmadjhmecfbcmaa.M
end
section
namespace Go.Proofs.Ytmadjhmecfbcmaa.M
open Go.RowKit Go.Proofs.YtmadjhmecfbcmaaW.PrintWords Go.Proofs.YtmadjhmecfbcmaaW.PrintLast Go.Proofs.YtmadjhmecfbcmaaW.PrintMore Go.Proofs.Ytmadjhmecfbcmaa.F
theorem tw_lo (V : Nat) : (tw V).2 = ((V % 18446744073709551616 : Nat) : Int) := rfl
theorem words (m : Nat) : m / 18446744073709551616 * 18446744073709551616 + m % 18446744073709551616 = m := by omega
theorem word_lt (m : Nat) : m % 18446744073709551616 < 18446744073709551616 := Nat.mod_lt _ (by decide)
theorem word_hi_lt {m : Nat} (h : m < 340282366920938463463374607431768211456) : m / 18446744073709551616 < 18446744073709551616 := by omega
theorem bl_small {m n : Nat} (h : bl m ≤ n) : m < 2 ^ n := by
 by_cases c : m = 0
 ·subst c; exact two_pos n
 ·have := (bl_bd m c).2.2
  have : 2 ^ bl m ≤ 2 ^ n := pow_le h
  omega
theorem Shl_tw (m n : Nat) (hm : m < 340282366920938463463374607431768211456) (hn : n < 1000000) :
  Ev (fun k => wide_U128_Shl.f k (tw m).1 (tw m).2 (n : Int)) (tw (m * 2 ^ n % 340282366920938463463374607431768211456)) := by
 have := U128_Shl (m / 18446744073709551616) (m % 18446744073709551616) n (word_hi_lt hm) (word_lt m) hn
 rw [words] at this; exact this
theorem Shr_tw (m n : Nat) (hm : m < 340282366920938463463374607431768211456) (hn : n < 1000000) :
  Ev (fun k => wide_U128_Shr.f k (tw m).1 (tw m).2 (n : Int)) ((tw (m / 2 ^ n)).1, (tw (m / 2 ^ n)).2, decide (m % 2 ^ n ≠ 0)) := by
 have := U128_Shr (m / 18446744073709551616) (m % 18446744073709551616) n (word_hi_lt hm) (word_lt m) hn
 rw [words] at this; exact this
theorem Len_tw (m : Nat) (hm : m < 340282366920938463463374607431768211456) : wide_U128_Len.f (tw m).1 (tw m).2 = some (bl m : Int) := by
 have := U128_Len (m / 18446744073709551616) (m % 18446744073709551616) (word_hi_lt hm) (word_lt m)
 rw [words] at this; exact this
theorem mx_eq (a b : Int) : mx a b = max a b := by unfold mx; omega
theorem mn_eq (a b : Int) : mn a b = min a b := by unfold mn; omega
theorem float_ev (neg : Bool) (m : Nat) (e : Int) (rest : Bool) (mode : Nat) (hm : m ≠ 0) (hm2 : m < 340282366920938463463374607431768211456) (he : -5000 ≤ e ∧ e ≤ 5000) (hr : rest = true → 53 < bl m) :
  Ev (fun k => round_number_float.f k neg (tw m).1 (tw m).2 e rest (mode : Int)) (pr (RND neg (FX m 1 e) (FS m 1 e rest) mode)) := by
 have hL : bl m ≤ 128 := bl_le (n := 128) hm2
 have hL1 := (bl_bd m hm).1
 obtain ⟨q, hq⟩ : ∃ q : Nat, max ((bl m : Int) - 53 + e) (-1074) = (q : Int) - 1074 := ⟨(max ((bl m : Int) - 53 + e) (-1074) + 1074).toNat, by omega⟩
 have hsh : sh (FX m 1 e) = q + 1 := by
  rw [sh_FX m e ((q : Int) - 1074) hm (by omega)]; omega
 have hsh' : sh (FX m 1 e) = ((q : Int) - 1074 + 1075).toNat := by rw [hsh]; omega
 have w1 : wrap64 ((bl m : Int) - 53) = (bl m : Int) - 53 := w64 (by omega) (by omega)
 have w2 : wrap64 ((bl m : Int) - 53 + e) = (bl m : Int) - 53 + e := w64 (by omega) (by omega)
 have w3 : wrap64 ((q : Int) - 1074 - e) = (q : Int) - 1074 - e := w64 (by omega) (by omega)
 unfold round_number_float.f
 refine Ev.b _ (Ev.const (Len_tw m hm2)) ?_
 rw [w1, w2, mx_eq, hq, w3]
 by_cases c : (q : Int) - 1074 - e > 0
 ·have w4 : wrap64 ((q : Int) - 1074 - e - 1) = (((q : Int) - 1074 - e - 1).toNat : Int) := by rw [w64 (by omega) (by omega)]; omega
  obtain ⟨k1, k2, k3⟩ := keep_out m e ((q : Int) - 1074) rest (by omega) hsh' c
  have S1 := Shr_tw m ((q : Int) - 1074 - e - 1).toNat hm2 (by omega)
  have hM : m / 2 ^ ((q : Int) - 1074 - e - 1).toNat ≤ m := Nat.div_le_self _ _
  have S2 := Shr_tw (m / 2 ^ ((q : Int) - 1074 - e - 1).toNat) 1 (by omega) (by omega)
  rw [show ((1 : Nat) : Int) = 1 from rfl] at S2
  have e1 : m / 2 ^ ((q : Int) - 1074 - e - 1).toNat / 2 ^ 1 = m / 2 ^ ((q : Int) - 1074 - e).toNat := by
   rw [Nat.div_div_eq_div_mul, ← Nat.pow_add]; congr 2; omega
  have hh : (bits .and .u64 (tw (m / 2 ^ ((q : Int) - 1074 - e - 1).toNat)).2 1 == 1) = (m / 2 ^ ((q : Int) - 1074 - e - 1).toNat % 2 == 1) := by
   rw [tw_lo, and_1 _ (word_lt _), Bool.eq_iff_iff, beq_iff_eq, beq_iff_eq]; omega
  have hw : m / 2 ^ ((q : Int) - 1074 - e).toNat < 18446744073709551616 := by
   rw [← k1]; have := wd_lt (FX m 1 e); omega
  refine Ev.congr (fun k => by rw [if_pos c, w4]) (Ev.b _ S1 ?_)
  dsimp only
  rw [hh]
  cases rest
  ·refine Ev.congr (fun k => by rw [if_neg (by simp)]) (Ev.b _ S2 ?_)
   dsimp only
   exact tail_ev neg m e false false mode _ _ _ _ q _ _ _ hm hL he (by omega) hsh k1 k2 (by rw [k3, Bool.false_or]) (by rw [tw_lo, e1, Nat.mod_eq_of_lt hw])
  ·refine Ev.congr (fun k => by rw [if_pos rfl]) (Ev.b _ S2 ?_)
   dsimp only
   exact tail_ev neg m e true true mode _ _ _ _ q _ _ _ hm hL he (by omega) hsh k1 k2 (by rw [k3, Bool.true_or]) (by rw [tw_lo, e1, Nat.mod_eq_of_lt hw])
 ·have hr2 : rest = false := by
   cases rest
   ·rfl
   ·have := hr rfl; omega
  subst hr2
  obtain ⟨k1, k2, k3⟩ := keep_in m e ((q : Int) - 1074) (by omega) hsh' (by omega)
  have w4 : wrap64 (-((q : Int) - 1074 - e)) = ((e - ((q : Int) - 1074)).toNat : Int) := by rw [w64 (by omega) (by omega)]; omega
  have S1 := Shl_tw m (e - ((q : Int) - 1074)).toNat hm2 (by omega)
  have hw : m * 2 ^ (e - ((q : Int) - 1074)).toNat < 9007199254740992 := by rw [← k1]; exact wd_lt _
  rw [Nat.mod_eq_of_lt (by omega)] at S1
  refine Ev.congr (fun k => by rw [if_neg c, w4]) (Ev.b _ S1 ?_)
  exact tail_ev neg m e false false mode _ _ _ _ q _ _ _ hm hL he (by omega) hsh k1 k2 k3 (by rw [tw_lo, Nat.mod_eq_of_lt (by omega)])
def cl (e : Int) : Int := min (max e (-5000)) 5000
theorem Round_ev (neg : Bool) (m : Nat) (e : Int) (rest : Bool) (mode : Nat) (hm2 : m < 340282366920938463463374607431768211456) :
  Ev (fun k => round_Round.f k neg (tw m).1 (tw m).2 e rest (mode : Int))
   (if m = 0 then ((sg neg : Int), 0) else pr (RND neg (FX m 1 (cl e)) (FS m 1 (cl e) (rest && decide (53 < bl m))) mode)) := by
 unfold round_Round.f
 refine Ev.b _ (Ev.const (Len_tw m hm2)) ?_
 by_cases c : m = 0
 ·rw [if_pos c]
  have : (bl m : Int) = 0 := by rw [c]; rfl
  refine Ev.congr (fun k => by rw [if_pos this]) (Ev.b (f := fun _ b => some (b.1, (0 : Int))) _ (show Ev (fun k => pattern_Make.f k neg 0 0) ((mk neg 0 0 : Int), 0) from Make_ev neg 0 0 (by omega) (by omega)) (Ev.now _))
 ·rw [if_neg c]
  have h1 := (bl_bd m c).1
  have c2 : ¬ (bl m : Int) = 0 := by omega
  have e1 : mn (mx e (-5000)) 5000 = cl e := by rw [mx_eq, mn_eq]; rfl
  rw [e1]
  have hc : -5000 ≤ cl e ∧ cl e ≤ 5000 := by unfold cl; omega
  have e2 : decide ((bl m : Int) > 53) = decide (53 < bl m) := by rw [Bool.eq_iff_iff, decide_eq_true_iff, decide_eq_true_iff]; omega
  rw [e2]
  cases rest
  ·exact Ev.congr (fun k => by rw [if_neg c2, if_neg (by simp)]) (Ev.b (f := fun _ b => some (b.1, b.2)) _ (float_ev neg m (cl e) false mode c hm2 hc (by simp)) (Ev.now _))
  ·exact Ev.congr (fun k => by rw [if_neg c2, if_pos rfl]) (Ev.b (f := fun _ b => some (b.1, b.2)) _ (float_ev neg m (cl e) (decide (53 < bl m)) mode c hm2 hc (by simp)) (Ev.now _))
end Go.Proofs.Ytmadjhmecfbcmaa.M
end
section
namespace Go.Proofs.Ytmadjhmecfbcmaa.M
open Go.RowKit Go.Proofs.YtmadjhmecfbcmaaW.PrintWords Go.Proofs.YtmadjhmecfbcmaaW.PrintLast Go.Proofs.YtmadjhmecfbcmaaW.PrintMore Go.Proofs.Ytmadjhmecfbcmaa.F
def QN : Nat := 9221120237041090560
def INF : Nat := 9218868437227405312
def mg (a : Nat) : Nat := magk (key a)
def sv (a : Nat) : Int := if sgn a then -(mg a : Int) else mg a
theorem key_cls (a : Nat) : (cls a ≤ 2 ↔ key a < 9218868437227405312) ∧ (cls a = 3 ↔ key a = 9218868437227405312) ∧ (cls a = 4 ↔ 9218868437227405312 < key a) ∧ (cls a = 0 ↔ key a = 0) := by
 rw [key_parts' a]
 have h1 := ex_lt a
 have h2 := fr_lt a
 unfold cls
 refine ⟨?_, ?_, ?_, ?_⟩ <;> (repeat' split) <;> omega
theorem mg_split (a : Nat) (h : cls a ≤ 2) : mg a = spm a * 2 ^ (spe a + 1074).toNat := by
 have h2 := fr_lt a
 have e1 : key a / 4503599627370496 = ex a := by rw [key_parts' a]; omega
 have e2 : key a % 4503599627370496 = fr a := by rw [key_parts' a]; omega
 unfold mg magk
 rw [e1, e2]
 unfold spm spe
 unfold cls at h ⊢
 by_cases c1 : ex a = 2047
 ·rw [if_pos c1] at h; split at h <;> omega
 ·rw [if_neg c1]
  by_cases c2 : ex a = 0
  ·rw [if_pos c2, if_pos c2]
   by_cases c3 : fr a = 0
   ·rw [if_pos c3, c3, if_neg (by decide), if_neg (by decide), Nat.zero_mul]
   ·rw [if_neg c3, if_neg (by decide), if_pos rfl, if_neg (by decide), if_pos rfl, show ((-1074 : Int) + 1074).toNat = 0 from rfl, Nat.pow_zero, Nat.mul_one]
  ·rw [if_neg c2, if_neg c2, if_pos rfl, if_pos rfl, show ((ex a : Int) - 1075 + 1074).toNat = ex a - 1 by omega]
theorem mg_zero (a : Nat) : mg a = 0 ↔ cls a = 0 := by
 rw [(key_cls a).2.2.2]
 have h0 : magk 0 = 0 := by unfold magk; simp
 constructor
 ·intro h; apply magk_inj; rw [h0]; exact h
 ·intro h; unfold mg; rw [h, h0]
theorem spm_zero (a : Nat) (h : cls a ≤ 2) : spm a = 0 ↔ cls a = 0 := by
 rw [← mg_zero, mg_split a h, Nat.mul_eq_zero]
 have := two_pos (spe a + 1074).toNat
 omega
theorem fk_magk (k : Nat) : fk (2 * magk k) = k := by
 have h1 : k ≤ fk (2 * magk k) := (fk_iff _ _).1 (Nat.le_refl _)
 have h2 := fk_le (2 * magk k)
 have h3 := magk_le_iff.1 (show magk (fk (2 * magk k)) ≤ magk k by omega)
 omega
theorem RND_exact (neg : Bool) (k mode : Nat) (h : k < 9218868437227405312) : RND neg (2 * magk k) false mode = (sg neg + k, 0) := by
 have hx : (hf (2 * magk k) || rs (2 * magk k) false) = false := by rw [exact_iff, fk_magk]; exact ⟨rfl, rfl⟩
 have hu : upw (2 * magk k) false (dir neg mode) = false := by
  unfold upw
  rw [Bool.or_eq_false_iff] at hx
  rw [hx.1, hx.2]; simp
 have hk : kk (2 * magk k) false (dir neg mode) = k := by unfold kk; rw [hu, fk_magk]; rfl
 rw [RND_in (by rw [hk]; omega), hk, hx]; rfl
theorem RND_sticky (neg : Bool) (X Y g : Nat) (s : Bool) (mode : Nat) (h1 : X / 2 ^ g = Y / 2 ^ g) (h2 : X % 2 ^ g = 0) (h3 : 9007199254740992 ≤ X / 2 ^ g) (h4 : s = true ∨ Y % 2 ^ g ≠ 0) :
  RND neg X true mode = RND neg Y s mode := by
 by_cases g0 : g = 0
 ·subst g0
  rw [Nat.pow_zero, Nat.div_one, Nat.div_one] at h1
  rw [Nat.pow_zero, Nat.mod_one] at h4
  have : s = true := by rcases h4 with h4 | h4; exact h4; exact absurd rfl h4
  rw [h1, this]
 have hz : X / 2 ^ g ≠ 0 := by omega
 have pg := two_pos g
 have hX := Nat.div_add_mod X (2 ^ g)
 have hY := Nat.div_add_mod Y (2 ^ g)
 have mX := Nat.mod_lt X pg
 have mY := Nat.mod_lt Y pg
 obtain ⟨Z, hZ⟩ : ∃ Z, X / 2 ^ g = Z := ⟨_, rfl⟩
 rw [← h1] at hY
 rw [hZ] at h1 h3 hz hX hY
 have zl := Nat.log2_self_le hz
 have zu : Z < 2 ^ (Z.log2 + 1) := Nat.lt_log2_self
 have z53 : 53 ≤ Z.log2 := by rw [Nat.le_log2 hz]; omega
 have lo : ∀ W, 2 ^ g * Z ≤ W → W < 2 ^ g * (Z + 1) → sh W = Z.log2 + g - 52 := by
  intro W w1 w2
  apply sh_unique
  right
  refine ⟨by omega, ?_, ?_⟩
  ·have : 2 ^ g * 2 ^ Z.log2 ≤ 2 ^ g * Z := Nat.mul_le_mul_left _ zl
   rw [← Nat.pow_add, show g + Z.log2 = Z.log2 + g - 52 + 52 by omega] at this; exact Nat.le_trans this w1
  ·have : 2 ^ g * (Z + 1) ≤ 2 ^ g * 2 ^ (Z.log2 + 1) := Nat.mul_le_mul_left _ zu
   rw [← Nat.pow_add, show g + (Z.log2 + 1) = Z.log2 + g - 52 + 53 by omega] at this; exact Nat.lt_of_lt_of_le w2 this
 have e0 : 2 ^ g * (Z + 1) = 2 ^ g * Z + 2 ^ g := by rw [Nat.mul_add, Nat.mul_one]
 have sX := lo X (by omega) (by omega)
 have sY := lo Y (by omega) (by omega)
 obtain ⟨v, hv⟩ : ∃ v, Z.log2 + g - 52 = g + (v + 1) := ⟨Z.log2 - 53, by omega⟩
 rw [hv] at sX sY
 have dX : ∀ n, X / 2 ^ (g + n) = Z / 2 ^ n := by intro n; rw [Nat.pow_add, ← Nat.div_div_eq_div_mul, hZ]
 have dY : ∀ n, Y / 2 ^ (g + n) = Z / 2 ^ n := by intro n; rw [Nat.pow_add, ← Nat.div_div_eq_div_mul, ← h1]
 have ew : wd X = wd Y := by unfold wd; rw [sX, sY, dX, dY]
 have eh : hf X = hf Y := by unfold hf; rw [sX, sY, show g + (v + 1) - 1 = g + v by omega, dX, dY]
 have er1 : rs X true = true := rfl
 have er2 : rs Y s = true := by
  unfold rs
  rcases h4 with h4 | h4
  ·rw [h4]; rfl
  ·have : Y % 2 ^ (sh Y - 1) ≠ 0 := by
    rw [sY, show g + (v + 1) - 1 = g + v by omega, Nat.pow_add, Nat.mod_mul]; omega
   rw [bne_iff_ne.2 this, Bool.or_true]
 have ef : fk X = fk Y := by unfold fk; rw [ew, sX, sY]
 have eu : upw X true (dir neg mode) = upw Y s (dir neg mode) := by unfold upw; rw [eh, er1, er2, sX, sY, dX, dY]
 have ek : kk X true (dir neg mode) = kk Y s (dir neg mode) := by unfold kk; rw [ef, eu]
 have gX : ¬ X < 9007199254740992 := by
  have : 1 * Z ≤ 2 ^ g * Z := Nat.mul_le_mul_right _ pg
  omega
 have gY : ¬ Y < 9007199254740992 := by
  have : 1 * Z ≤ 2 ^ g * Z := Nat.mul_le_mul_right _ pg
  omega
 unfold RND rnd
 rw [ek, eh, er1, er2, if_neg gX, if_neg gY]
theorem two_step (neg : Bool) (A B : Nat) (E : Int) (mode : Nat) (hB : 0 < B) (h : A % B = 0 ∨ 9007199254740992 ≤ A / B) :
  RND neg (FX (A / B) 1 E) (FS (A / B) 1 E (decide (A % B ≠ 0))) mode = RND neg (FX A B E) (FS A B E false) mode := by
 rw [FX_one, FS_one]
 unfold FX FS FN FD
 rw [Bool.false_or]
 have hAB := Nat.div_add_mod A B
 by_cases c : 0 ≤ E + 1075
 ·have h0 : (-(E + 1075)).toNat = 0 := by omega
  rw [h0, Nat.pow_zero, Nat.div_one, Nat.mul_one]
  generalize (E + 1075).toNat = g at *
  have pg := two_pos g
  have hm1 : A / B * 2 ^ g % 1 = 0 := Nat.mod_one _
  rw [hm1]
  by_cases z : A % B = 0
  ·have e1 : A * 2 ^ g = B * (A / B * 2 ^ g) := by rw [← Nat.mul_assoc]; congr 1; omega
   rw [e1, Nat.mul_div_cancel_left _ hB, Nat.mul_mod_right, z]; rfl
  ·have hq : 9007199254740992 ≤ A / B := by omega
   rw [decide_eq_true z, Bool.true_or]
   have d1 : A / B * 2 ^ g / 2 ^ g = A / B := Nat.mul_div_cancel _ pg
   have d2 : A * 2 ^ g / B / 2 ^ g = A / B := by rw [Nat.div_div_eq_div_mul, Nat.mul_div_mul_right _ _ pg]
   apply RND_sticky neg _ _ g
   ·rw [d1, d2]
   ·exact Nat.mul_mod_left _ _
   ·rw [d1]; exact hq
   ·by_cases y : A * 2 ^ g % B = 0
    ·right
     intro y2
     have k1 := Nat.div_add_mod (A * 2 ^ g) B
     have k2 := Nat.div_add_mod (A * 2 ^ g / B) (2 ^ g)
     rw [d2] at k2
     have k3 : A * 2 ^ g = B * (A / B) * 2 ^ g := by
      have : A * 2 ^ g / B = 2 ^ g * (A / B) := by omega
      rw [this] at k1
      have k4 : B * (2 ^ g * (A / B)) = B * (A / B) * 2 ^ g := by grind
      omega
     have := Nat.eq_of_mul_eq_mul_right pg k3
     omega
    ·left; rw [decide_eq_true y]
 ·have h0 : (E + 1075).toNat = 0 := by omega
  rw [h0, Nat.pow_zero, Nat.mul_one, Nat.mul_one]
  generalize (-(E + 1075)).toNat = r at *
  rw [Nat.div_div_eq_div_mul]
  congr 1
  rw [Bool.eq_iff_iff, Bool.or_eq_true, decide_eq_true_iff, decide_eq_true_iff, decide_eq_true_iff, Nat.mod_mul]
  constructor
  ·rintro (h1 | h1) h2
   ·omega
   ·obtain ⟨_, h3⟩ := Nat.eq_zero_of_add_eq_zero h2
    rcases Nat.mul_eq_zero.1 h3 with h4 | h4
    ·omega
    ·exact h1 h4
  ·intro h1
   by_cases y : A % B = 0
   ·right; intro y2; apply h1; rw [y, y2, Nat.mul_zero]
   ·exact .inl y
theorem FXS_scale (A B T : Nat) (E : Int) (r : Bool) : FX (A * 2 ^ T) B (E - T) = FX A B E ∧ FS (A * 2 ^ T) B (E - T) r = FS A B E r := by
 have key : ∃ u, FN (A * 2 ^ T) (E - T) = 2 ^ u * FN A E ∧ FD B (E - T) = 2 ^ u * FD B E := by
  refine ⟨T + (E - T + 1075).toNat - (E + 1075).toNat, ?_, ?_⟩
  ·unfold FN
   rw [Nat.mul_assoc, ← Nat.pow_add, Nat.mul_left_comm, ← Nat.pow_add]; congr 2; omega
  ·unfold FD
   rw [Nat.mul_left_comm, ← Nat.pow_add]; congr 2; omega
 obtain ⟨u, k1, k2⟩ := key
 unfold FX FS
 rw [k1, k2, Nat.mul_div_mul_left _ _ (two_pos u), Nat.mul_mod_mul_left]
 refine ⟨rfl, ?_⟩
 congr 2
 rw [Ne, Nat.mul_eq_zero, eq_iff_iff]
 have := two_pos u
 constructor
 ·intro h1 h2; exact h1 (.inr h2)
 ·rintro h1 (h2 | h2)
  ·omega
  ·exact h1 h2
def sAdd (a b mode : Nat) : Nat × Nat :=
 if cls a = 4 ∨ cls b = 4 then (QN, 0)
 else if cls a = 3 ∧ cls b = 3 ∧ sgn a ≠ sgn b then (QN, 16)
 else if cls a = 3 then (a, 0)
 else if cls b = 3 then (b, 0)
 else if sv a + sv b = 0 then (sg (if sgn a = sgn b then sgn a else decide (mode = 2)), 0)
 else RND (decide (sv a + sv b < 0)) (2 * (sv a + sv b).natAbs) false mode
def sMul (a b mode : Nat) : Nat × Nat :=
 if cls a = 4 ∨ cls b = 4 then (QN, 0)
 else if cls a = 3 ∧ cls b = 0 ∨ cls a = 0 ∧ cls b = 3 then (QN, 16)
 else if cls a = 3 ∨ cls b = 3 then (sg (sgn a != sgn b) + INF, 0)
 else if spm a * spm b = 0 then (sg (sgn a != sgn b), 0)
 else RND (sgn a != sgn b) (FX (spm a * spm b) 1 (spe a + spe b)) (FS (spm a * spm b) 1 (spe a + spe b) false) mode
def sDiv (a b mode : Nat) : Nat × Nat :=
 if cls a = 4 ∨ cls b = 4 then (QN, 0)
 else if cls a = 3 ∧ cls b = 3 ∨ cls a = 0 ∧ cls b = 0 then (QN, 16)
 else if cls a = 3 then (sg (sgn a != sgn b) + INF, 0)
 else if cls b = 0 then (sg (sgn a != sgn b) + INF, 8)
 else if cls a = 0 ∨ cls b = 3 then (sg (sgn a != sgn b), 0)
 else RND (sgn a != sgn b) (FX (spm a) (spm b) (spe a - spe b)) (FS (spm a) (spm b) (spe a - spe b) false) mode
end Go.Proofs.Ytmadjhmecfbcmaa.M
end
section
namespace Go.Proofs.Ytmadjhmecfbcmaa.M
open Go.RowKit Go.Proofs.YtmadjhmecfbcmaaW.PrintWords Go.Proofs.YtmadjhmecfbcmaaW.PrintLast Go.Proofs.YtmadjhmecfbcmaaW.PrintMore Go.Proofs.Ytmadjhmecfbcmaa.F
theorem tw_word {m : Nat} (h : m < 18446744073709551616) : tw m = (0, (m : Int)) := by
 unfold tw; rw [Nat.div_eq_of_lt h, Nat.mod_eq_of_lt h]; rfl
theorem U128_Add (p q : Nat) (h : p + q < 340282366920938463463374607431768211456) :
  wide_U128_Add.f (tw p).1 (tw p).2 (tw q).1 (tw q).2 = some ((tw (p + q)).1, (tw (p + q)).2, 0) := by
 unfold wide_U128_Add.f tw
 dsimp only
 rw [if_pos (by omega)]
 congr 1
 ext <;> dsimp only <;> omega
theorem U128_Sub (p q : Nat) (_hp : p < 340282366920938463463374607431768211456) (h : q ≤ p) :
  wide_U128_Sub.f (tw p).1 (tw p).2 (tw q).1 (tw q).2 = some ((tw (p - q)).1, (tw (p - q)).2, 0) := by
 unfold wide_U128_Sub.f tw
 dsimp only
 rw [if_pos (by omega)]
 congr 1
 by_cases c : p % 18446744073709551616 < q % 18446744073709551616
 ·rw [if_pos (by omega)]
  ext <;> dsimp only <;> (try split) <;> omega
 ·rw [if_neg (by omega)]
  ext <;> dsimp only <;> (try split) <;> omega
theorem tw_eq_zero (p : Nat) (_hp : p < 340282366920938463463374607431768211456) : ((tw p).1 == 0 && ((tw p).2 == 0)) = decide (p = 0) := by
 unfold tw
 rw [Bool.eq_iff_iff, Bool.and_eq_true, beq_iff_eq, beq_iff_eq, decide_eq_true_iff]; dsimp only; omega
theorem cl_id {e : Int} (h : -5000 ≤ e) (h2 : e ≤ 5000) : cl e = e := by unfold cl; omega
theorem exact_scale (N d : Nat) (ea eb : Int) (he : ea = eb + d) (hb : -1074 ≤ eb) : FX N (2 ^ d) ea = 2 * (N * 2 ^ (eb + 1074).toNat) ∧ FS N (2 ^ d) ea false = false := by
 have h0 : (-(ea + 1075)).toNat = 0 := by omega
 have e1 : N * 2 ^ (ea + 1075).toNat = 2 ^ d * (2 * (N * 2 ^ (eb + 1074).toNat)) := by
  have : 2 ^ (ea + 1075).toNat = 2 ^ d * (2 ^ (eb + 1074).toNat * 2) := by rw [← Nat.pow_succ, ← Nat.pow_add]; congr 1; omega
  rw [this]; grind
 unfold FX FS FN FD
 rw [h0, Nat.pow_zero, Nat.mul_one, e1, Nat.mul_div_cancel_left _ (two_pos d), Nat.mul_mod_right]
 exact ⟨rfl, rfl⟩
theorem ar1 {n m P Q r : Nat} (h1 : n + m = P) (h2 : Q + r = m) (h3 : r = 0) : n = P - Q := by omega
theorem ar3 {m D : Nat} (h1 : m < 9007199254740992) (h2 : 2 ^ 71 ≤ D) : m * 1180591620717411303424 < 9007199254740992 * D := by
 have h3 : 2361183241434822606848 ≤ D := h2
 have := Nat.mul_le_mul_left 9007199254740992 h3; omega
theorem ar2 {n m P Q r D : Nat} (h1 : n + m = P) (h2 : Q + r = m) (h3 : Q + D ≤ P) (h4 : r < D) : n = (D - r) + (P - Q - D) := by omega
theorem num_add_ev (fa fb ca cb : Int) (na nb : Bool) (ma mb : Nat) (ea eb : Int) (mode : Nat) (h1 : 1 ≤ ma) (h2 : ma < 9007199254740992) (h3 : 1 ≤ mb) (h4 : mb < 9007199254740992)
    (h5 : -1074 ≤ eb) (h6 : eb ≤ ea) (h7 : ea ≤ 971) (h8 : ea = eb → mb ≤ ma) (h9 : -1074 < ea → 4503599627370496 ≤ ma) :
    mb ≤ ma * 2 ^ (ea - eb).toNat ∧
    Ev (fun k => soft_num_add.f k fa ca na (ma : Int) ea fb cb nb (mb : Int) eb (mode : Int))
      (if na = nb then pr (RND na (2 * ((ma * 2 ^ (ea - eb).toNat + mb) * 2 ^ (eb + 1074).toNat)) false mode)
       else if ma * 2 ^ (ea - eb).toNat = mb then ((sg (decide (mode = 2)) : Int), 0)
       else pr (RND na (2 * ((ma * 2 ^ (ea - eb).toNat - mb) * 2 ^ (eb + 1074).toNat)) false mode)) := by
  obtain ⟨d, hd⟩ : ∃ d : Nat, ea - eb = d := ⟨(ea - eb).toNat, by omega⟩
  rw [show (ea - eb).toNat = d by omega]
  have pd := two_pos d
  have hge : mb ≤ ma * 2 ^ d := by
    by_cases c : d = 0
    · subst c; have := h8 (by omega); omega
    · have := h9 (by omega)
      obtain ⟨u, rfl⟩ : ∃ u, d = u + 1 := ⟨d - 1, by omega⟩
      have pu := two_pos u
      have : ma * 1 ≤ ma * 2 ^ u := Nat.mul_le_mul_left _ pu
      rw [Nat.pow_succ, ← Nat.mul_assoc]; omega
  refine ⟨hge, ?_⟩
  have S1 : Ev (fun k => wide_U128_Shl.f k 0 (ma : Int) 70) (tw (ma * 1180591620717411303424)) := by
    have := Shl_tw ma 70 (by omega) (by omega)
    rw [tw_word (by omega), show (2 : Nat) ^ 70 = 1180591620717411303424 from rfl, Nat.mod_eq_of_lt (by omega)] at this; exact this
  have S2 : Ev (fun k => wide_U128_Shl.f k 0 (mb : Int) 70) (tw (mb * 1180591620717411303424)) := by
    have := Shl_tw mb 70 (by omega) (by omega)
    rw [tw_word (by omega), show (2 : Nat) ^ 70 = 1180591620717411303424 from rfl, Nat.mod_eq_of_lt (by omega)] at this; exact this
  have S3 := Shr_tw (mb * 1180591620717411303424) d (by omega) (by omega)
  have w1 : wrap64 (ea - eb) = (d : Int) := by rw [w64 (by omega) (by omega)]; omega
  have w2 : wrap64 (ea - 70) = ea - 70 := w64 (by omega) (by omega)
  have hc : cl (ea - 70) = ea - 70 := cl_id (by omega) (by omega)
  have hqd := Nat.div_add_mod (mb * 1180591620717411303424) (2 ^ d)
  have hqm := Nat.mod_lt (mb * 1180591620717411303424) pd
  have hql : mb * 1180591620717411303424 / 2 ^ d ≤ mb * 1180591620717411303424 := Nat.div_le_self _ _
  have hqp : mb * 1180591620717411303424 / 2 ^ d ≤ ma * 1180591620717411303424 := by
    have h10 : mb * 1180591620717411303424 ≤ 2 ^ d * (ma * 1180591620717411303424) := by
      have : mb * 1180591620717411303424 ≤ ma * 2 ^ d * 1180591620717411303424 := Nat.mul_le_mul_right _ hge
      rw [show ma * 2 ^ d * 1180591620717411303424 = 2 ^ d * (ma * 1180591620717411303424) by grind] at this; exact this
    exact Nat.div_le_of_le_mul h10
  have hlostd : mb * 1180591620717411303424 % 2 ^ d ≠ 0 → 71 ≤ d := by
    intro hne
    by_cases c : d ≤ 70
    · exfalso; apply hne
      have : (1180591620717411303424 : Nat) = 2 ^ d * 2 ^ (70 - d) := by rw [← Nat.pow_add, show d + (70 - d) = 70 by omega]
      rw [this, Nat.mul_left_comm, Nat.mul_mod_right]
    · omega
  have fin : ∀ (N s : Nat) (lost : Bool), N ≠ 0 → s < 340282366920938463463374607431768211456 → N * 1180591620717411303424 / 2 ^ d = s → lost = decide (N * 1180591620717411303424 % 2 ^ d ≠ 0) → s ≠ 0 →
      (lost = true → 9007199254740992 ≤ s) →
      Ev (fun k => round_Round.f k na (tw s).1 (tw s).2 (ea - 70) lost (mode : Int)) (pr (RND na (2 * (N * 2 ^ (eb + 1074).toNat)) false mode)) := by
    intro N s lost hN hs e1 e2 hs0 hl
    have R := Round_ev na s (ea - 70) lost mode hs
    rw [if_neg hs0, hc] at R
    have e3 : (lost && decide (53 < bl s)) = lost := by
      cases lost
      · rfl
      · rw [Bool.true_and, decide_eq_true_iff]
        have h11 := hl rfl
        by_cases c : bl s ≤ 53
        · have := bl_small c; omega
        · omega
    rw [e3] at R
    have T := two_step na (N * 1180591620717411303424) (2 ^ d) (ea - 70) mode pd (by
      by_cases c : N * 1180591620717411303424 % 2 ^ d = 0
      · exact .inl c
      · right; rw [e1]; apply hl; rw [e2, decide_eq_true c])
    rw [e1, ← e2] at T
    have K := FXS_scale N (2 ^ d) 70 ea false
    rw [show (2 : Nat) ^ 70 = 1180591620717411303424 from rfl, show ((70 : Nat) : Int) = 70 from rfl] at K
    have X := exact_scale N d ea eb (by omega) h5
    rw [K.1, K.2, X.1, X.2] at T
    rw [T] at R
    exact R
  unfold soft_num_add.f
  refine Ev.b _ S1 (Ev.b _ S2 ?_)
  rw [w1]
  refine Ev.b _ S3 ?_
  dsimp only
  rw [w2]
  by_cases hs : na = nb
  · rw [if_pos hs]
    have hs' : (na == nb) = true := by rw [beq_iff_eq]; exact hs
    have hq : (ma * 2 ^ d + mb) * 1180591620717411303424 / 2 ^ d = ma * 1180591620717411303424 + mb * 1180591620717411303424 / 2 ^ d := by
      rw [show (ma * 2 ^ d + mb) * 1180591620717411303424 = mb * 1180591620717411303424 + 2 ^ d * (ma * 1180591620717411303424) by grind, Nat.add_mul_div_left _ _ pd]; omega
    have hm : (ma * 2 ^ d + mb) * 1180591620717411303424 % 2 ^ d = mb * 1180591620717411303424 % 2 ^ d := by
      rw [show (ma * 2 ^ d + mb) * 1180591620717411303424 = mb * 1180591620717411303424 + 2 ^ d * (ma * 1180591620717411303424) by grind, Nat.add_mul_mod_self_left]
    have g1 : ma * 1180591620717411303424 + mb * 1180591620717411303424 / 2 ^ d < 340282366920938463463374607431768211456 := by omega
    have g2 : 9007199254740992 ≤ ma * 1180591620717411303424 + mb * 1180591620717411303424 / 2 ^ d := Nat.le_trans (by omega) (Nat.le_add_right _ _)
    have F := fin (ma * 2 ^ d + mb) _ (decide (mb * 1180591620717411303424 % 2 ^ d ≠ 0)) (by omega) g1 hq (by rw [hm]) (Nat.ne_of_gt (Nat.lt_of_lt_of_le (by decide) g2)) (fun _ => g2)
    have UA := U128_Add _ _ g1
    refine Ev.congr (fun k => by rw [if_pos hs']) (Ev.b _ (Ev.const UA) ?_)
    dsimp only
    exact Ev.b (f := fun _ b => some (b.1, b.2)) _ F (Ev.now _)
  · rw [if_neg hs]
    have hs' : ¬ (na == nb) = true := by rw [beq_iff_eq]; exact hs
    have g0 : ma * 1180591620717411303424 < 340282366920938463463374607431768211456 := by omega
    have US := U128_Sub _ _ g0 hqp
    refine Ev.congr (fun k => by rw [if_neg hs']) (Ev.b _ (Ev.const US) ?_)
    dsimp only
    rw [tw_eq_zero _ (Nat.lt_of_le_of_lt (Nat.sub_le _ _) g0)]
    by_cases hz : ma * 2 ^ d = mb
    · rw [if_pos hz]
      have z : ma * 1180591620717411303424 - mb * 1180591620717411303424 / 2 ^ d = 0 := by
        rw [← hz, show ma * 2 ^ d * 1180591620717411303424 = 2 ^ d * (ma * 1180591620717411303424) by grind, Nat.mul_div_cancel_left _ pd]; omega
      have hmz : ((mode : Int) == 2) = decide (mode = 2) := by rw [Bool.eq_iff_iff, beq_iff_eq, decide_eq_true_iff]; omega
      rw [decide_eq_true z]
      refine Ev.congr (fun k => by rw [if_pos rfl, hmz]) (Ev.b (f := fun _ b => some (b, (0 : Int))) _ (zero_ev _) (Ev.now _))
    · rw [if_neg hz]
      have hlt : mb < ma * 2 ^ d := by omega
      have hA : (ma * 2 ^ d - mb) * 1180591620717411303424 + mb * 1180591620717411303424 = 2 ^ d * (ma * 1180591620717411303424) := by
        rw [← Nat.add_mul, Nat.sub_add_cancel hge]; grind
      have hqlt : mb * 1180591620717411303424 / 2 ^ d < ma * 1180591620717411303424 := by
        rw [Nat.div_lt_iff_lt_mul pd, Nat.mul_right_comm]
        exact Nat.mul_lt_mul_of_pos_right hlt (by decide)
      have hN : ma * 2 ^ d - mb ≠ 0 := by omega
      obtain ⟨N, hNN⟩ : ∃ N, ma * 2 ^ d - mb = N := ⟨_, rfl⟩
      obtain ⟨p, hpp⟩ : ∃ p, ma * 1180591620717411303424 = p := ⟨_, rfl⟩
      obtain ⟨q, hqq⟩ : ∃ q, mb * 1180591620717411303424 / 2 ^ d = q := ⟨_, rfl⟩
      obtain ⟨r, hrr⟩ : ∃ r, mb * 1180591620717411303424 % 2 ^ d = r := ⟨_, rfl⟩
      rw [hNN, hpp] at hA
      rw [hpp, hqq] at hqlt hqp
      rw [hqq, hrr] at hqd
      rw [hrr] at hlostd hqm
      rw [hNN] at hN
      rw [hNN, hpp, hqq, hrr]
      have z : ¬ p - q = 0 := Nat.sub_ne_zero_of_lt hqlt
      rw [decide_eq_false z]
      by_cases hr : r = 0
      · have hA2 : N * 1180591620717411303424 = 2 ^ d * (p - q) := by rw [Nat.mul_sub]; exact ar1 hA hqd hr
        have F := fin N (p - q) false hN (by omega) (by rw [hA2, Nat.mul_div_cancel_left _ pd]) (by rw [hA2, Nat.mul_mod_right]; rfl) z (by simp)
        rw [decide_eq_false (show ¬ r ≠ 0 by omega)]
        exact Ev.congr (fun k => by rw [if_neg (by simp), if_neg (by simp)]) (Ev.b (f := fun _ b => some (b.1, b.2)) _ F (Ev.now _))
      · have h71 := hlostd hr
        have hma := h9 (by omega)
        have hA2 : N * 1180591620717411303424 = (2 ^ d - r) + 2 ^ d * (p - q - 1) := by
          rw [Nat.mul_sub, Nat.mul_sub, Nat.mul_one]
          have h12 : 2 ^ d * q + 2 ^ d ≤ 2 ^ d * p := by
            have : 2 ^ d * (q + 1) ≤ 2 ^ d * p := Nat.mul_le_mul_left _ hqlt
            rw [Nat.mul_add, Nat.mul_one] at this; exact this
          exact ar2 hA hqd h12 hqm
        have hdq : N * 1180591620717411303424 / 2 ^ d = p - q - 1 := by
          rw [hA2, Nat.add_mul_div_left _ _ pd, Nat.div_eq_of_lt (by omega)]; omega
        have hdm : N * 1180591620717411303424 % 2 ^ d = 2 ^ d - r := by
          rw [hA2, Nat.add_mul_mod_self_left, Nat.mod_eq_of_lt (by omega)]
        have hqs : q < 9007199254740992 := by
          rw [← hqq, Nat.div_lt_iff_lt_mul pd]
          exact ar3 h4 (pow_le h71)
        have F := fin N (p - q - 1) true hN (by omega) hdq (by rw [hdm, decide_eq_true (show 2 ^ d - r ≠ 0 by omega)]) (by omega) (by intro _; omega)
        rw [decide_eq_true (show r ≠ 0 from hr)]
        have U := U128_Sub (p - q) 1 (by omega) (by omega)
        rw [tw_word (show 1 < 18446744073709551616 by decide), show ((1 : Nat) : Int) = 1 from rfl] at U
        dsimp only at U
        refine Ev.congr (fun k => by rw [if_neg (by simp), if_pos rfl]) (Ev.b _ (Ev.const U) ?_)
        dsimp only
        exact Ev.b (f := fun _ b => some (b.1, b.2)) _ F (Ev.now _)
end Go.Proofs.Ytmadjhmecfbcmaa.M
end
section
namespace Go.Proofs.Ytmadjhmecfbcmaa.M
open Go.RowKit Go.Proofs.YtmadjhmecfbcmaaW.PrintWords Go.Proofs.YtmadjhmecfbcmaaW.PrintLast Go.Proofs.YtmadjhmecfbcmaaW.PrintMore Go.Proofs.Ytmadjhmecfbcmaa.F
theorem either_ok (x0 : Int) (cx : Nat) (x2 : Bool) (x3 x4 y0 : Int) (cy : Nat) (y2 : Bool) (y3 y4 : Int) (c : Nat) :
  soft_either.f x0 (cx : Int) x2 x3 x4 y0 (cy : Int) y2 y3 y4 (c : Int) = some (decide (cx = c ∨ cy = c)) := by
 unfold soft_either.f
 by_cases h : cx = c
 ·rw [if_pos (by omega), decide_eq_true (.inl h)]
 ·rw [if_neg (by omega)]; congr 1; rw [Bool.eq_iff_iff, beq_iff_eq, decide_eq_true_iff]; omega
theorem eq_nat (a b : Nat) : ((a : Int) == (b : Int)) = decide (a = b) := by rw [Bool.eq_iff_iff, beq_iff_eq, decide_eq_true_iff]; omega
theorem sgn_zero {a : Nat} (h : U a) (hz : cls a = 0) : a = sg (sgn a) := by
 have h1 := a_parts a h
 have h2 := (key_cls a).2.2.2.1 hz
 omega
theorem sv_eq (a : Nat) : sv a = if sgn a then -(mg a : Int) else mg a := rfl
theorem RND_self (a mode : Nat) (h : U a) (hf : cls a ≤ 2) : RND (sgn a) (2 * mg a) false mode = (a, 0) := by
 unfold mg
 rw [RND_exact _ _ _ ((key_cls a).1.1 hf), ← a_parts a h]
theorem sAdd_fin {a b : Nat} (mode : Nat) (ca : cls a ≤ 2) (cb : cls b ≤ 2) :
  sAdd a b mode = if sv a + sv b = 0 then (sg (if sgn a = sgn b then sgn a else decide (mode = 2)), 0) else RND (decide (sv a + sv b < 0)) (2 * (sv a + sv b).natAbs) false mode := by
 have c1 : ¬ (cls a = 4 ∨ cls b = 4) := by omega
 have c2 : ¬ (cls a = 3 ∧ cls b = 3 ∧ sgn a ≠ sgn b) := fun h => by have := h.1; omega
 have c3 : ¬ cls a = 3 := by omega
 have c4 : ¬ cls b = 3 := by omega
 unfold sAdd
 rw [if_neg c1, if_neg c2, if_neg c3, if_neg c4]
theorem sAdd_zero_left (a b mode : Nat) (hb : U b) (ca : cls a = 0) (cb : cls b ≤ 2) (cb0 : cls b ≠ 0) : sAdd a b mode = (b, 0) := by
 have m0 : mg a = 0 := (mg_zero a).2 ca
 have mb : mg b ≠ 0 := fun h => cb0 ((mg_zero b).1 h)
 have ha0 : sv a = 0 := by rw [sv_eq, m0]; split <;> rfl
 rw [sAdd_fin mode (by omega) cb, ha0, Int.zero_add, if_neg (by rw [sv_eq]; split <;> omega)]
 rw [← RND_self b mode hb cb]
 have e1 : decide (sv b < 0) = sgn b := by
  rw [sv_eq]; cases sgn b
  ·rw [decide_eq_false]; simp
  ·rw [decide_eq_true]; simp; omega
 have e2 : (sv b).natAbs = mg b := by rw [sv_eq]; split <;> omega
 rw [e1, e2]
theorem sAdd_zero_right (a b mode : Nat) (ha : U a) (cb : cls b = 0) (ca : cls a ≤ 2) (ca0 : cls a ≠ 0) : sAdd a b mode = (a, 0) := by
 have m0 : mg b = 0 := (mg_zero b).2 cb
 have ma : mg a ≠ 0 := fun h => ca0 ((mg_zero a).1 h)
 have hb0 : sv b = 0 := by rw [sv_eq, m0]; split <;> rfl
 rw [sAdd_fin mode ca (by omega), hb0, Int.add_zero, if_neg (by rw [sv_eq]; split <;> omega)]
 rw [← RND_self a mode ha ca]
 have e1 : decide (sv a < 0) = sgn a := by
  rw [sv_eq]; cases sgn a
  ·rw [decide_eq_false]; simp
  ·rw [decide_eq_true]; simp; omega
 have e2 : (sv a).natAbs = mg a := by rw [sv_eq]; split <;> omega
 rw [e1, e2]
theorem big_small (a b mode : Nat) (ca : cls a ≤ 2) (ca0 : cls a ≠ 0) (cb : cls b ≤ 2) (cb0 : cls b ≠ 0) (he : spe b ≤ spe a) (hge : spm b ≤ spm a * 2 ^ (spe a - spe b).toNat) :
    (if sgn a = sgn b then pr (RND (sgn a) (2 * ((spm a * 2 ^ (spe a - spe b).toNat + spm b) * 2 ^ (spe b + 1074).toNat)) false mode)
       else if spm a * 2 ^ (spe a - spe b).toNat = spm b then ((sg (decide (mode = 2)) : Int), 0)
       else pr (RND (sgn a) (2 * ((spm a * 2 ^ (spe a - spe b).toNat - spm b) * 2 ^ (spe b + 1074).toNat)) false mode)) = pr (sAdd a b mode) ∧
    sAdd a b mode = sAdd b a mode := by
  have hb := spe_bd b
  have h1 := mg_split a ca
  have h2 := mg_split b cb
  have ma : mg a ≠ 0 := fun h => ca0 ((mg_zero a).1 h)
  have mb : mg b ≠ 0 := fun h => cb0 ((mg_zero b).1 h)
  have e1 : 2 ^ (spe a + 1074).toNat = 2 ^ (spe a - spe b).toNat * 2 ^ (spe b + 1074).toNat := by rw [← Nat.pow_add]; congr 1; omega
  have h3 : mg a = spm a * 2 ^ (spe a - spe b).toNat * 2 ^ (spe b + 1074).toNat := by rw [h1, e1, Nat.mul_assoc]
  have pp := two_pos (spe b + 1074).toNat
  generalize 2 ^ (spe b + 1074).toNat = P at *
  generalize spm a * 2 ^ (spe a - spe b).toNat = A at *
  generalize spm b = B at *
  have hle : mg b ≤ mg a := by rw [h2, h3]; exact Nat.mul_le_mul_right _ hge
  have hadd : (A + B) * P = mg a + mg b := by rw [Nat.add_mul, h2, h3]
  have hsub : (A - B) * P = mg a - mg b := by rw [Nat.sub_mul, h2, h3]
  have heq : A = B ↔ mg a = mg b := by
    rw [h2, h3]
    exact ⟨fun h => by rw [h], fun h => Nat.eq_of_mul_eq_mul_right pp h⟩
  have swap : sAdd a b mode = sAdd b a mode := by
    rw [sAdd_fin mode ca cb, sAdd_fin mode cb ca, Int.add_comm (sv b)]
    have : (if sgn a = sgn b then sgn a else decide (mode = 2)) = (if sgn b = sgn a then sgn b else decide (mode = 2)) := by
      by_cases h : sgn a = sgn b
      · rw [if_pos h, if_pos h.symm, h]
      · rw [if_neg h, if_neg (Ne.symm h)]
    rw [this]
  refine ⟨?_, swap⟩
  rw [hadd, hsub, sAdd_fin mode ca cb]
  by_cases hs : sgn a = sgn b
  · have hsv : sv a + sv b = if sgn a then -((mg a + mg b : Nat) : Int) else ((mg a + mg b : Nat) : Int) := by
      rw [sv_eq, sv_eq, ← hs]; split <;> omega
    have hne : ¬ sv a + sv b = 0 := by rw [hsv]; split <;> omega
    rw [if_pos hs, if_neg hne]
    have e1 : decide (sv a + sv b < 0) = sgn a := by
      rw [hsv]; cases sgn a
      · rw [decide_eq_false]; simp; omega
      · rw [decide_eq_true]; simp; omega
    have e2 : (sv a + sv b).natAbs = mg a + mg b := by rw [hsv]; split <;> omega
    rw [e1, e2]
  · have hb2 : sgn b = !sgn a := by revert hs; cases sgn a <;> cases sgn b <;> simp
    have hsv : sv a + sv b = if sgn a then -((mg a - mg b : Nat) : Int) else ((mg a - mg b : Nat) : Int) := by
      rw [sv_eq, sv_eq, hb2]; cases sgn a <;> simp <;> omega
    rw [if_neg hs]
    by_cases hz : A = B
    · have hz' := heq.1 hz
      rw [if_pos hz, if_pos (by rw [hsv, hz']; split <;> omega), if_neg hs]; rfl
    · have hz' : ¬ mg a = mg b := fun h => hz (heq.2 h)
      have hne : ¬ sv a + sv b = 0 := by rw [hsv]; split <;> omega
      rw [if_neg hz, if_neg hne]
      have e1 : decide (sv a + sv b < 0) = sgn a := by
        rw [hsv]; cases sgn a
        · rw [decide_eq_false]; simp
        · rw [decide_eq_true]; simp; omega
      have e2 : (sv a + sv b).natAbs = mg a - mg b := by rw [hsv]; split <;> omega
      rw [e1, e2]
theorem spe_cls (a : Nat) (h : cls a ≤ 2) (h2 : -1074 < spe a) (h0 : cls a ≠ 0) : 4503599627370496 ≤ spm a := by
 unfold spe at h2; unfold spm
 split
 ·omega
 ·rename_i c; rw [if_neg c] at h2; split at h2 <;> omega
theorem add_big (a b mode : Nat) (k0 : cls a ≤ 2) (ca0 : cls a ≠ 0) (cb : cls b ≤ 2) (cb0 : cls b ≠ 0) (h : spe b < spe a ∨ spe a = spe b ∧ spm b ≤ spm a) (fa fb xa xb : Int) :
  Ev (fun k => soft_num_add.f k fa xa (sgn a) (spm a : Int) (spe a) fb xb (sgn b) (spm b : Int) (spe b) (mode : Int)) (pr (sAdd a b mode)) ∧ sAdd a b mode = sAdd b a mode := by
 have ha := spe_bd a
 have hb := spe_bd b
 have ma : spm a ≠ 0 := fun h => ca0 ((spm_zero a k0).1 h)
 have mb : spm b ≠ 0 := fun h => cb0 ((spm_zero b cb).1 h)
 have N := num_add_ev fa fb xa xb (sgn a) (sgn b) (spm a) (spm b) (spe a) (spe b) mode (by omega) (spm_lt a) (by omega) (spm_lt b) hb.1 (by omega) ha.2 (by omega) (fun h => spe_cls a k0 h ca0)
 have B := big_small a b mode k0 ca0 cb cb0 (by omega) N.1
 rw [B.1] at N
 exact ⟨N.2, B.2⟩
theorem Add_ev (a b mode : Nat) (ha : U a) (hb : U b) : Ev (fun k => soft_Add.f k (a : Int) (b : Int) (mode : Int)) (pr (sAdd a b mode)) := by
 have la := cls_le a
 have lb := cls_le b
 have m2 : ((mode : Int) == 2) = decide (mode = 2) := eq_nat mode 2
 have ne : (sgn a != sgn b) = decide (sgn a ≠ sgn b) := by rw [Bool.eq_iff_iff, bne_iff_ne, decide_eq_true_iff]
 have za : ((spm a : Int) == 0) = decide (spm a = 0) := eq_nat _ 0
 have zb : ((spm b : Int) == 0) = decide (spm b = 0) := eq_nat _ 0
 unfold soft_Add.f
 refine Ev.b _ (of_ev a ha) (Ev.b _ (of_ev b hb) ?_)
 dsimp only
 have E4 := either_ok (a : Int) (cls a) (sgn a) (spm a : Int) (spe a) (b : Int) (cls b) (sgn b) (spm b : Int) (spe b) 4
 refine Ev.b _ (Ev.const E4) ?_
 by_cases c4 : cls a = 4 ∨ cls b = 4
 ·have hS : sAdd a b mode = (QN, 0) := by unfold sAdd; rw [if_pos c4]
  rw [hS, decide_eq_true c4]
  exact Ev.congr (fun k => by rw [if_pos rfl]) (Ev.b (f := fun _ x => some (x, (0 : Int))) _ (Ev.const (show pattern_Quiet.f = some (QN : Int) from rfl)) (Ev.now _))
 rw [decide_eq_false c4]
 have J2 : cls a ≤ 2 → cls b ≤ 2 → ¬ (cls a = 0 ∧ cls b = 0 ∧ sgn a = sgn b) → Ev (fun k => soft_Add.j2 k (a : Int) (b : Int) (mode : Int) (if spm a = 0 then decide (spm b = 0) else false) (a : Int) (cls a : Int) (sgn a) (spm a : Int) (spe a) (b : Int) (cls b : Int) (sgn b) (spm b : Int) (spe b)) (pr (sAdd a b mode)) := by
  intro ka kb hn
  have sa := spm_zero a ka
  have sb := spm_zero b kb
  refine Ev.next ?_
  simp only [soft_Add.j2]
  rw [m2]
  by_cases a0 : cls a = 0
  ·by_cases b0 : cls b = 0
   ·have hS : sAdd a b mode = (sg (decide (mode = 2)), 0) := by
     have m0 : mg a = 0 := (mg_zero a).2 a0
     have m1 : mg b = 0 := (mg_zero b).2 b0
     rw [sAdd_fin mode ka kb, if_pos (by rw [sv_eq, sv_eq, m0, m1]; split <;> split <;> rfl), if_neg (fun h => hn ⟨a0, b0, h⟩)]
    rw [hS, if_pos (sa.2 a0), decide_eq_true (sb.2 b0)]
    exact Ev.congr (fun k => by rw [if_pos rfl]) (Ev.b (f := fun _ x => some (x, (0 : Int))) _ (zero_ev _) (Ev.now _))
   ·have sb' : ¬ spm b = 0 := fun h => b0 (sb.1 h)
    rw [sAdd_zero_left a b mode hb a0 kb b0, if_pos (sa.2 a0), decide_eq_false sb']
    have : (spm a : Int) = 0 := by rw [sa.2 a0]; rfl
    exact Ev.all fun k => by rw [if_neg (by simp), if_pos this]; rfl
  ·have sa' : ¬ spm a = 0 := fun h => a0 (sa.1 h)
   have sa2 : ¬ (spm a : Int) = 0 := by omega
   rw [if_neg sa']
   by_cases b0 : cls b = 0
   ·have : (spm b : Int) = 0 := by rw [sb.2 b0]; rfl
    rw [sAdd_zero_right a b mode ha b0 ka a0]
    exact Ev.all fun k => by rw [if_neg (by simp), if_neg sa2, if_pos this]; rfl
   ·have sb2 : ¬ (spm b : Int) = 0 := by have : ¬ spm b = 0 := fun h => b0 (sb.1 h); omega
    by_cases h1 : spe a < spe b
    ·have A := add_big b a mode kb b0 ka a0 (.inl h1) (b : Int) (a : Int) (cls b : Int) (cls a : Int)
     rw [A.2] at A
     exact Ev.congr (fun k => by rw [if_neg (by simp), if_neg sa2, if_neg sb2, if_pos h1]) (Ev.b (f := fun _ x => some (x.1, x.2)) _ A.1 (Ev.now _))
    ·by_cases h2 : spe a = spe b
     ·by_cases h3 : (spm a : Int) < (spm b : Int)
      ·have A := add_big b a mode kb b0 ka a0 (.inr ⟨h2.symm, by omega⟩) (b : Int) (a : Int) (cls b : Int) (cls a : Int)
       rw [A.2] at A
       exact Ev.congr (fun k => by rw [if_neg (by simp), if_neg sa2, if_neg sb2, if_neg h1, if_pos h2, if_pos h3]) (Ev.b (f := fun _ x => some (x.1, x.2)) _ A.1 (Ev.now _))
      ·have A := add_big a b mode ka a0 kb b0 (.inr ⟨h2, by omega⟩) (a : Int) (b : Int) (cls a : Int) (cls b : Int)
       exact Ev.congr (fun k => by rw [if_neg (by simp), if_neg sa2, if_neg sb2, if_neg h1, if_pos h2, if_neg h3]) (Ev.b (f := fun _ x => some (x.1, x.2)) _ A.1 (Ev.now _))
     ·have A := add_big a b mode ka a0 kb b0 (.inl (by omega)) (a : Int) (b : Int) (cls a : Int) (cls b : Int)
      exact Ev.congr (fun k => by rw [if_neg (by simp), if_neg sa2, if_neg sb2, if_neg h1, if_neg h2]) (Ev.b (f := fun _ x => some (x.1, x.2)) _ A.1 (Ev.now _))
 have J1 : cls a ≤ 2 → cls b ≤ 2 → Ev (fun k => soft_Add.j1 k (a : Int) (b : Int) (mode : Int) (if spm a = 0 then (if spm b = 0 then sgn a == sgn b else false) else false) (a : Int) (cls a : Int) (sgn a) (spm a : Int) (spe a) (b : Int) (cls b : Int) (sgn b) (spm b : Int) (spe b)) (pr (sAdd a b mode)) := by
  intro ka kb
  have sa := spm_zero a ka
  have sb := spm_zero b kb
  refine Ev.next ?_
  simp only [soft_Add.j1]
  by_cases z : cls a = 0 ∧ cls b = 0 ∧ sgn a = sgn b
  ·obtain ⟨z1, z2, z3⟩ := z
   have hS : sAdd a b mode = (a, 0) := by
    have m0 : mg a = 0 := (mg_zero a).2 z1
    have m1 : mg b = 0 := (mg_zero b).2 z2
    rw [sAdd_fin mode ka kb, if_pos (by rw [sv_eq, sv_eq, m0, m1]; split <;> split <;> rfl), if_pos z3, ← sgn_zero ha z1]
   rw [hS, if_pos (sa.2 z1), if_pos (sb.2 z2), beq_iff_eq.2 z3]
   exact Ev.all fun k => by rw [if_pos rfl]; rfl
  ·have hb0 : (if spm a = 0 then (if spm b = 0 then sgn a == sgn b else false) else false) = false := by
    split
    ·split
     ·rw [beq_eq_false_iff_ne]; intro h; exact z ⟨sa.1 (by assumption), sb.1 (by assumption), h⟩
     ·rfl
    ·rfl
   rw [hb0]
   have J := J2 ka kb z
   rw [zb]
   by_cases a0 : spm a = 0
   ·rw [if_pos a0] at J
    exact Ev.congr (fun k => by rw [if_neg (by simp), if_pos (by omega)]) J
   ·rw [if_neg a0] at J
    exact Ev.congr (fun k => by rw [if_neg (by simp), if_neg (by omega)]) J
 have J0 : Ev (fun k => soft_Add.j0 k (a : Int) (b : Int) (mode : Int) (if cls a = 3 then (if cls b = 3 then sgn a != sgn b else false) else false) (a : Int) (cls a : Int) (sgn a) (spm a : Int) (spe a) (b : Int) (cls b : Int) (sgn b) (spm b : Int) (spe b)) (pr (sAdd a b mode)) := by
  refine Ev.next ?_
  simp only [soft_Add.j0]
  by_cases a3 : cls a = 3
  ·rw [if_pos a3]
   by_cases b3 : cls b = 3
   ·rw [if_pos b3, ne]
    by_cases hs : sgn a = sgn b
    ·have hS : sAdd a b mode = (a, 0) := by unfold sAdd; rw [if_neg c4, if_neg (by intro h; exact h.2.2 hs), if_pos a3]
     rw [hS, decide_eq_false (by intro h; exact h hs)]
     exact Ev.all fun k => by rw [if_neg (by simp), if_pos (by omega)]; rfl
    ·have hS : sAdd a b mode = (QN, 16) := by unfold sAdd; rw [if_neg c4, if_pos ⟨a3, b3, hs⟩]
     rw [hS, decide_eq_true hs]
     exact Ev.all fun k => by rw [if_pos rfl]; rfl
   ·have hS : sAdd a b mode = (a, 0) := by unfold sAdd; rw [if_neg c4, if_neg (by omega), if_pos a3]
    rw [hS, if_neg b3]
    exact Ev.all fun k => by rw [if_neg (by simp), if_pos (by omega)]; rfl
  ·rw [if_neg a3]
   by_cases b3 : cls b = 3
   ·have hS : sAdd a b mode = (b, 0) := by unfold sAdd; rw [if_neg c4, if_neg (by omega), if_neg a3, if_pos b3]
    rw [hS]
    exact Ev.all fun k => by rw [if_neg (by simp), if_neg (by omega), if_pos (by omega)]; rfl
   ·have J := J1 (by omega) (by omega)
    by_cases a0 : spm a = 0
    ·rw [if_pos a0] at J
     by_cases b0 : spm b = 0
     ·rw [if_pos b0] at J
      exact Ev.congr (fun k => by rw [if_neg (by simp), if_neg (by omega), if_neg (by omega), if_pos (by omega), if_pos (by omega)]) J
     ·rw [if_neg b0] at J
      exact Ev.congr (fun k => by rw [if_neg (by simp), if_neg (by omega), if_neg (by omega), if_pos (by omega), if_neg (by omega)]) J
    ·rw [if_neg a0] at J
     exact Ev.congr (fun k => by rw [if_neg (by simp), if_neg (by omega), if_neg (by omega), if_neg (by omega)]) J
 by_cases a3 : cls a = 3
 ·rw [if_pos a3] at J0
  by_cases b3 : cls b = 3
  ·rw [if_pos b3] at J0
   exact Ev.congr (fun k => by rw [if_neg (by simp), if_pos (by omega), if_pos (by omega)]) J0
  ·rw [if_neg b3] at J0
   exact Ev.congr (fun k => by rw [if_neg (by simp), if_pos (by omega), if_neg (by omega)]) J0
 ·rw [if_neg a3] at J0
  exact Ev.congr (fun k => by rw [if_neg (by simp), if_neg (by omega)]) J0
theorem Sub_ev (a b mode : Nat) (ha : U a) (hb : U b) : Ev (fun k => soft_Sub.f k (a : Int) (b : Int) (mode : Int)) (pr (sAdd a (ng b) mode)) := by
 unfold soft_Sub.f
 exact Ev.b _ (Neg_ev b hb) (Ev.b (f := fun _ x => some (x.1, x.2)) _ (Add_ev a (ng b) mode ha (ng_U b hb)) (Ev.now _))
end Go.Proofs.Ytmadjhmecfbcmaa.M
end
section
namespace Go.Proofs.Ytmadjhmecfbcmaa.M
theorem upw_mono {X Y : Nat} {s t : Bool} (d : Nat) (h : X < Y ∨ X = Y ∧ (s = true → t = true)) (hf' : fk X = fk Y) (hu : upw X s d = true) : upw Y t d = true := by
 have hXY : X ≤ Y := by omega
 by_cases d1 : d = 1
 ·subst d1
  have hu : (hf X || rs X s) = true := hu
  show (hf Y || rs Y t) = true
  rw [← Bool.not_eq_false] at hu ⊢
  rw [exact_iff] at hu ⊢
  rintro ⟨h1, h2⟩
  have h3 := fk_le X
  rw [hf', ← h1] at h3
  apply hu
  have e : X = Y := by omega
  rw [hf', e]
  refine ⟨h1, ?_⟩
  rcases h with h | ⟨_, h⟩
  ·omega
  ·cases s
   ·rfl
   ·rw [h rfl] at h2; exact h2
 ·by_cases d2 : d = 2
  ·subst d2; unfold upw at hu; rw [if_neg (by decide), if_pos rfl] at hu; cases hu
  ·unfold upw at hu ⊢
   rw [if_neg d1, if_neg d2, Bool.and_eq_true, Bool.or_eq_true, beq_iff_eq, ← odd_fk] at hu
   rw [if_neg d1, if_neg d2, Bool.and_eq_true, Bool.or_eq_true, beq_iff_eq, ← odd_fk, ← hf']
   obtain ⟨u1, u2⟩ := hu
   have a1 : ¬ X < magk (fk X) + magk (fk X + 1) := by rw [mid_lt, u1]; decide
   have b1 : hf Y = true := by
    have : ¬ Y < magk (fk Y) + magk (fk Y + 1) := by rw [← hf']; omega
    rw [mid_lt] at this; cases hh : hf Y
    ·exact absurd hh this
    ·rfl
   refine ⟨b1, ?_⟩
   rcases u2 with u2 | u2
   ·by_cases c : Y ≤ magk (fk Y) + magk (fk Y + 1)
    ·left
     rw [← hf'] at c
     have e : X = Y := by omega
     have c2 := c
     rw [hf', mid_le, b1] at c2
     have c3 : Y % 2 ^ (sh Y - 1) = 0 := by rcases c2 with c2 | c2; cases c2; exact c2
     unfold rs at u2 ⊢
     rw [e, c3] at u2
     rcases h with h | ⟨_, h⟩
     ·omega
     ·cases s
      ·simp at u2
      ·rw [h rfl]; rfl
    ·left
     unfold rs
     have c3 : Y % 2 ^ (sh Y - 1) ≠ 0 := fun h => c ((mid_le Y).2 (.inr h))
     rw [bne_iff_ne.2 c3, Bool.or_true]
   ·exact .inr u2
theorem kk_mono {X Y : Nat} {s t : Bool} (d : Nat) (h : X < Y ∨ X = Y ∧ (s = true → t = true)) : kk X s d ≤ kk Y t d := by
 have hm : fk X ≤ fk Y := fk_mono (by omega)
 unfold kk
 by_cases e : fk X = fk Y
 ·rw [e]
  cases hu : upw X s d
  ·rw [if_neg (by decide)]; omega
  ·rw [upw_mono d h e hu]; exact Nat.le_refl _
 ·split <;> split <;> omega
def lim (d : Nat) : Nat := if d = 2 then 9218868437227405311 else 9218868437227405312
def cap (X : Nat) (s : Bool) (d : Nat) : Nat := if 9218868437227405312 ≤ kk X s d then lim d else kk X s d
theorem cap_over' {X : Nat} {s : Bool} {d : Nat} (h : 9218868437227405312 ≤ kk X s d) : cap X s d = lim d := by unfold cap; rw [if_pos h]
theorem cap_in {X : Nat} {s : Bool} {d : Nat} (h : ¬ 9218868437227405312 ≤ kk X s d) : cap X s d = kk X s d := by unfold cap; rw [if_neg h]
theorem cap_over {X : Nat} {s : Bool} {d : Nat} (h : 9218868437227405312 ≤ kk X s d) : cap X s d = if d = 2 then 9218868437227405311 else 9218868437227405312 := by rw [cap_over' h]; unfold lim; rfl
theorem RND_cap (neg : Bool) (X : Nat) (s : Bool) (m : Nat) : ∃ f, RND neg X s m = (sg neg + cap X s (dir neg m), f) := by
 by_cases c : 9218868437227405312 ≤ kk X s (dir neg m)
 ·exact ⟨_, by rw [RND_over c, cap_over c]⟩
 ·exact ⟨_, by rw [RND_in c, cap_in c]⟩
theorem cap_of {X Y : Nat} {s t : Bool} {d e : Nat} (h : kk X s d ≤ kk Y t e) (hd : e = 2 → d = 2) : cap X s d ≤ cap Y t e := by
 by_cases c1 : 9218868437227405312 ≤ kk X s d
 ·rw [cap_over c1, cap_over (Nat.le_trans c1 h)]
  by_cases c2 : e = 2
  ·rw [if_pos c2, if_pos (hd c2)]; exact Nat.le_refl _
  ·rw [if_neg c2]; split <;> decide
 ·rw [cap_in c1]
  by_cases c2 : 9218868437227405312 ≤ kk Y t e
  ·rw [cap_over c2]; split <;> omega
  ·rw [cap_in c2]; exact h
theorem cap_le (X : Nat) (s : Bool) (d : Nat) : cap X s d ≤ 9218868437227405312 := by
 by_cases c1 : 9218868437227405312 ≤ kk X s d
 ·rw [cap_over c1]; split <;> decide
 ·rw [cap_in c1]; omega
theorem cap_mono {X Y : Nat} {s t : Bool} (d : Nat) (h : X < Y ∨ X = Y ∧ (s = true → t = true)) : cap X s d ≤ cap Y t d := cap_of (kk_mono d h) id
def ord (a : Nat) : Int := if sgn a then -(key a : Int) else key a
theorem sgn_sg (neg : Bool) (k : Nat) (h : k < 9223372036854775808) : sgn (sg neg + k) = neg := by
 unfold sgn sg; cases neg
 ·rw [if_neg (by decide)]; rw [show (0 + k) / 9223372036854775808 = 0 by omega]; rfl
 ·rw [if_pos rfl, show (9223372036854775808 + k) / 9223372036854775808 = 1 by omega]; rfl
theorem key_sg (neg : Bool) (k : Nat) (h : k < 9223372036854775808) : key (sg neg + k) = k := by
 unfold key sg; cases neg
 ·rw [if_neg (by decide)]; omega
 ·rw [if_pos rfl]; omega
theorem ord_sg (neg : Bool) (k : Nat) (h : k < 9223372036854775808) : ord (sg neg + k) = if neg then -(k : Int) else k := by
 unfold ord; rw [sgn_sg neg k h, key_sg neg k h]
theorem cls_sg (neg : Bool) (k : Nat) (h : k ≤ 9218868437227405312) : cls (sg neg + k) ≤ 3 := by
 have := (key_cls (sg neg + k)).2.2.1
 rw [key_sg neg k (by omega)] at this
 have h2 := cls_le (sg neg + k)
 omega
theorem RND_fst (neg : Bool) (X : Nat) (s : Bool) (m : Nat) : (RND neg X s m).1 = sg neg + cap X s (dir neg m) := by
 obtain ⟨f, h⟩ := RND_cap neg X s m
 rw [h]
theorem ord_RND (neg : Bool) (X : Nat) (s : Bool) (m : Nat) : ord (RND neg X s m).1 = if neg then -(cap X s (dir neg m) : Int) else cap X s (dir neg m) := by
 have := cap_le X s (dir neg m)
 rw [RND_fst, ord_sg _ _ (by omega)]
theorem cls_RND (neg : Bool) (X : Nat) (s : Bool) (m : Nat) : cls (RND neg X s m).1 ≤ 3 := by
 rw [RND_fst]; exact cls_sg _ _ (cap_le _ _ _)
theorem U_RND (neg : Bool) (X : Nat) (s : Bool) (m : Nat) : U (RND neg X s m).1 := by
 have := cap_le X s (dir neg m)
 rw [RND_fst]; unfold U sg; split <;> omega
theorem ord_neg_le (a : Nat) (h : sgn a = true) : ord a ≤ 0 := by unfold ord; rw [h, if_pos rfl]; omega
theorem ord_pos_ge (a : Nat) (h : sgn a = false) : 0 ≤ ord a := by unfold ord; rw [h, if_neg (by decide)]; omega
theorem ord_bd (a : Nat) (h : cls a ≠ 4) : -9218868437227405312 ≤ ord a ∧ ord a ≤ 9218868437227405312 := by
 have h1 := (key_cls a).2.2.1
 have : ¬ 9218868437227405312 < key a := fun h2 => h (h1.2 h2)
 unfold ord; split <;> omega
theorem ord_inf (a : Nat) (h : cls a = 3) : ord a = if sgn a then -9218868437227405312 else 9218868437227405312 := by
 have h1 := (key_cls a).2.1.1 h
 unfold ord; rw [h1]; rfl
theorem ord_zero (a : Nat) : ord a = 0 ↔ cls a = 0 := by
 rw [(key_cls a).2.2.2]; unfold ord; split <;> omega
theorem ord_fin (a : Nat) (h : cls a ≤ 2) : -9218868437227405312 < ord a ∧ ord a < 9218868437227405312 := by
 have := (key_cls a).1.1 h
 unfold ord; split <;> omega
theorem magk_zero : magk 0 = 0 := by unfold magk; simp
theorem sv_mono {a b : Nat} (h : ord a ≤ ord b) : sv a ≤ sv b := by
 have ha := magk_le_iff (a := key a) (b := key b)
 have hb := magk_le_iff (a := key b) (b := key a)
 have ha0 := magk_le_iff (a := key a) (b := 0)
 have hb0 := magk_le_iff (a := key b) (b := 0)
 rw [magk_zero] at ha0
 rw [magk_zero] at hb0
 unfold ord at h; unfold sv mg
 generalize sgn a = sa at h ⊢
 generalize sgn b = sb at h ⊢
 cases sa <;> cases sb <;> simp only [Bool.false_eq_true, if_false, if_true] at h ⊢ <;> omega
theorem sv_ord {a b : Nat} (h : sv a ≤ sv b) : ord a ≤ ord b := by
 have ha := magk_le_iff (a := key a) (b := key b)
 have hb := magk_le_iff (a := key b) (b := key a)
 have ha0 := magk_le_iff (a := key a) (b := 0)
 have hb0 := magk_le_iff (a := key b) (b := 0)
 rw [magk_zero] at ha0
 rw [magk_zero] at hb0
 unfold ord; unfold sv mg at h
 generalize sgn a = sa at h ⊢
 generalize sgn b = sb at h ⊢
 cases sa <;> cases sb <;> simp only [Bool.false_eq_true, if_false, if_true] at h ⊢ <;> omega
theorem sv_zero (a : Nat) : sv a = 0 ↔ cls a = 0 := by
 rw [← mg_zero]; unfold sv; split <;> omega
def ro (neg : Bool) (X : Nat) (s : Bool) (m : Nat) : Int := if neg then -(cap X s (dir neg m) : Int) else cap X s (dir neg m)
theorem ro_mono {n1 n2 : Bool} {X Y : Nat} {s t : Bool} (m : Nat)
  (h : n1 = true ∧ n2 = false ∨ (n1 = false ∧ n2 = false ∧ (X < Y ∨ X = Y ∧ (s = true → t = true))) ∨ (n1 = true ∧ n2 = true ∧ (Y < X ∨ Y = X ∧ (t = true → s = true)))) :
  ro n1 X s m ≤ ro n2 Y t m := by
 unfold ro
 rcases h with ⟨rfl, rfl⟩ | ⟨rfl, rfl, h⟩ | ⟨rfl, rfl, h⟩
 ·rw [if_pos rfl, if_neg (by decide)]; omega
 ·rw [if_neg (by decide), if_neg (by decide)]
  have := cap_mono (dir false m) h; omega
 ·rw [if_pos rfl, if_pos rfl]
  have := cap_mono (dir true m) h; omega
def rq (v : Int) (D m : Nat) : Int := ro (decide (v < 0)) (v.natAbs / D) (decide (v.natAbs % D ≠ 0)) m
theorem rq_mono {v w : Int} (D m : Nat) (h : v ≤ w) : rq v D m ≤ rq w D m := by
 have key : ∀ {a b : Nat}, a ≤ b → a / D < b / D ∨ a / D = b / D ∧ (decide (a % D ≠ 0) = true → decide (b % D ≠ 0) = true) := by
  intro a b hab
  have h1 : a / D ≤ b / D := Nat.div_le_div_right hab
  by_cases e : a / D = b / D
  ·right
   refine ⟨e, ?_⟩
   rw [decide_eq_true_iff, decide_eq_true_iff]
   have h2 := Nat.div_add_mod a D
   have h3 := Nat.div_add_mod b D
   rw [e] at h2
   omega
  ·left; omega
 apply ro_mono
 by_cases c1 : v < 0
 ·by_cases c2 : w < 0
  ·right; right
   refine ⟨decide_eq_true c1, decide_eq_true c2, key (by omega)⟩
  ·left; exact ⟨decide_eq_true c1, decide_eq_false c2⟩
 ·right; left
  refine ⟨decide_eq_false c1, decide_eq_false (by omega), key (by omega)⟩
theorem cap_zero (d : Nat) : cap 0 false d = 0 := by
 have h : sh 0 = 1 := rfl
 have hw : wd 0 = 0 := by unfold wd; simp
 have hfk : fk 0 = 0 := by unfold fk; rw [h, hw]
 have hh : hf 0 = false := by unfold hf; simp
 have hr : rs 0 false = false := by unfold rs; simp
 have hk : kk 0 false d = 0 := by unfold kk upw; rw [hfk, hh, hr]; simp
 rw [cap_in (by rw [hk]; decide), hk]
theorem rq_zero (D m : Nat) : rq 0 D m = 0 := by
 unfold rq ro
 simp [cap_zero]
theorem ite0 (p : Prop) [Decidable p] : (if p then -((0 : Nat) : Int) else ((0 : Nat) : Int)) = 0 := by split <;> rfl
theorem ord_sAdd (a b m : Nat) (ca : cls a ≤ 2) (cb : cls b ≤ 2) : ord (sAdd a b m).1 = rq (2 * (sv a + sv b)) 1 m := by
 rw [sAdd_fin m ca cb]
 split
 ·rename_i h
  rw [h, show (2 * 0 : Int) = 0 from rfl, rq_zero]
  have := ord_sg (if sgn a = sgn b then sgn a else decide (m = 2)) 0 (by decide)
  rw [Nat.add_zero] at this
  rw [this]; exact ite0 _
 ·rename_i h
  rw [ord_RND]
  unfold rq
  have e1 : (2 * (sv a + sv b)).natAbs = 2 * (sv a + sv b).natAbs := by omega
  have e2 : decide (2 * (sv a + sv b) < 0) = decide (sv a + sv b < 0) := by rw [decide_eq_decide]; omega
  rw [e1, e2, Nat.div_one, Nat.mod_one]
  rfl
theorem FX_mul (a b : Nat) (ca : cls a ≤ 2) (cb : cls b ≤ 2) : FX (spm a * spm b) 1 (spe a + spe b) = mg a * mg b / 2 ^ 1073 ∧ FS (spm a * spm b) 1 (spe a + spe b) false = decide (mg a * mg b % 2 ^ 1073 ≠ 0) := by
 have ha := spe_bd a
 have hb := spe_bd b
 obtain ⟨T, hT⟩ : ∃ T : Nat, T = (spe a + 1074).toNat + (spe b + 1074).toNat := ⟨_, rfl⟩
 have e1 : mg a * mg b = spm a * spm b * 2 ^ T := by
  rw [mg_split a ca, mg_split b cb, hT, Nat.pow_add]; grind
 have S := FXS_scale (spm a * spm b) 1 T (spe a + spe b) false
 have e2 : spe a + spe b - (T : Int) = -2148 := by omega
 rw [e2, ← e1] at S
 rw [← S.1, ← S.2, FX_one, FS_one]
 have e3 : ((-2148 : Int) + 1075).toNat = 0 := by decide
 have e4 : (-((-2148 : Int) + 1075)).toNat = 1073 := by decide
 rw [e3, e4, Nat.pow_zero, Nat.mul_one]
 exact ⟨rfl, rfl⟩
theorem sv_mul (a b : Nat) : (sv a * sv b).natAbs = mg a * mg b := by
 rw [Int.natAbs_mul]; unfold sv
 have e : ∀ (x : Bool) (y : Nat), (if x then -(y : Int) else y).natAbs = y := by intro x y; split <;> omega
 rw [e, e]
theorem sMul_fin {a b : Nat} (m : Nat) (ca : cls a ≤ 2) (cb : cls b ≤ 2) :
  sMul a b m = if mg a * mg b = 0 then (sg (sgn a != sgn b), 0) else RND (sgn a != sgn b) (mg a * mg b / 2 ^ 1073) (decide (mg a * mg b % 2 ^ 1073 ≠ 0)) m := by
 unfold sMul
 have c1 : ¬ (cls a = 4 ∨ cls b = 4) := by omega
 have c2 : ¬ (cls a = 3 ∧ cls b = 0 ∨ cls a = 0 ∧ cls b = 3) := by omega
 have c3 : ¬ (cls a = 3 ∨ cls b = 3) := by omega
 have F := FX_mul a b ca cb
 have z : spm a * spm b = 0 ↔ mg a * mg b = 0 := by
  rw [Nat.mul_eq_zero, Nat.mul_eq_zero, spm_zero a ca, spm_zero b cb, mg_zero, mg_zero]
 rw [if_neg c1, if_neg c2, if_neg c3, F.1, F.2]
 by_cases c : mg a * mg b = 0
 ·rw [if_pos c, if_pos (z.2 c)]
 ·rw [if_neg c, if_neg (fun h => c (z.1 h))]
theorem ord_sMul (a b m : Nat) (ca : cls a ≤ 2) (cb : cls b ≤ 2) : ord (sMul a b m).1 = rq (sv a * sv b) (2 ^ 1073) m := by
 rw [sMul_fin m ca cb]
 have hn := sv_mul a b
 split
 ·rename_i h
  have e : sv a * sv b = 0 := by omega
  rw [e, rq_zero]
  have := ord_sg (sgn a != sgn b) 0 (by decide)
  rw [Nat.add_zero] at this
  rw [this]; exact ite0 _
 ·rename_i h
  rw [ord_RND]
  unfold rq
  rw [hn]
  have e2 : decide (sv a * sv b < 0) = (sgn a != sgn b) := by
   have ha : 0 < mg a := Nat.pos_of_ne_zero (fun h2 => h (by rw [h2, Nat.zero_mul]))
   have hb : 0 < mg b := Nat.pos_of_ne_zero (fun h2 => h (by rw [h2, Nat.mul_zero]))
   have hp : 0 < (mg a : Int) * (mg b : Int) := Int.mul_pos (by omega) (by omega)
   unfold sv
   generalize sgn a = sa
   generalize sgn b = sb
   cases sa <;> cases sb <;> simp only [Bool.false_eq_true, if_false, if_true, Int.neg_mul, Int.mul_neg, Int.neg_neg]
   ·rw [decide_eq_false (by omega)]; rfl
   ·rw [decide_eq_true (by omega)]; rfl
   ·rw [decide_eq_true (by omega)]; rfl
   ·rw [decide_eq_false (by omega)]; rfl
  rw [e2]; rfl
end Go.Proofs.Ytmadjhmecfbcmaa.M
end
section
namespace Go.Proofs.Ytmadjhmecfbcmaa.M
open Go.RowKit Go.Proofs.YtmadjhmecfbcmaaW.PrintWords Go.Proofs.YtmadjhmecfbcmaaW.PrintLast Go.Proofs.YtmadjhmecfbcmaaW.PrintMore Go.Proofs.Ytmadjhmecfbcmaa.F
def cmpI (a b : Nat) : Int × Bool := if cls a = 4 ∨ cls b = 4 then (0, false) else (if ord a < ord b then -1 else if ord b < ord a then 1 else 0, true)
def less (a b : Nat) : Bool := decide (cls a ≠ 4 ∧ cls b ≠ 4 ∧ ord a < ord b)
theorem pkey_ok (a : Nat) (h : U a) : pattern_key.f (a : Int) = some (ord a) := by
 have hk := key_lt a
 unfold pattern_key.f
 rw [andNot_sign a h]
 have e0 : ((a % 9223372036854775808 : Nat) : Int) = (key a : Int) := rfl
 rw [e0, w64 (n := (key a : Int)) (by omega) (by omega), w64 (by omega) (by omega)]
 have es : ((a : Int) / 9223372036854775808 = 1) ↔ sgn a = true := by rw [← sgn_cast, beq_iff_eq]
 unfold ord
 by_cases c : sgn a = true
 ·rw [if_pos (es.2 c), if_pos c]
 ·rw [if_neg (fun h2 => c (es.1 h2)), if_neg c]
theorem Cmp_ev (a b : Nat) (ha : U a) (hb : U b) : Ev (fun k => pattern_Cmp.f k (a : Int) (b : Int)) (cmpI a b) := by
 have J1 : Ev (fun k => pattern_Cmp.j0 k (a : Int) (b : Int) true) (0, false) := by
  refine Ev.next ?_
  simp only [pattern_Cmp.j0]
  exact Ev.congr (fun k => by rw [if_pos trivial]) (Ev.now _)
 unfold pattern_Cmp.f
 refine Ev.b _ (nan_ev a ha) ?_
 by_cases c1 : cls a = 4
 ·have e : cmpI a b = (0, false) := by unfold cmpI; rw [if_pos (.inl c1)]
  rw [e]
  exact Ev.congr (fun k => by rw [decide_eq_true c1, if_pos rfl]) J1
 ·refine Ev.congr (fun k => by rw [decide_eq_false c1, if_neg (by decide)]) ?_
  refine Ev.b _ (nan_ev b hb) ?_
  by_cases c2 : cls b = 4
  ·have e : cmpI a b = (0, false) := by unfold cmpI; rw [if_pos (.inr c2)]
   rw [e]
   exact Ev.congr (fun k => by rw [decide_eq_true c2]) J1
  ·refine Ev.congr (fun k => by rw [decide_eq_false c2]) ?_
   refine Ev.next ?_
   simp only [pattern_Cmp.j0]
   refine Ev.congr (fun k => by rw [if_neg (by decide)]) ?_
   refine Ev.b _ (Ev.const (pkey_ok a ha)) (Ev.b _ (Ev.const (pkey_ok b hb)) (Ev.const ?_))
   unfold cmpI
   rw [if_neg (show ¬ (cls a = 4 ∨ cls b = 4) by omega)]
   by_cases c3 : ord a < ord b
   ·rw [if_pos c3, if_pos c3]
   ·rw [if_neg c3, if_neg c3]
    by_cases c4 : ord a > ord b
    ·rw [if_pos c4, if_pos c4]
    ·rw [if_neg c4, if_neg c4]
theorem Less_ev (a b : Nat) (ha : U a) (hb : U b) : Ev (fun k => pattern_Less.f k (a : Int) (b : Int)) (less a b) := by
 unfold pattern_Less.f
 refine Ev.b _ (Cmp_ev a b ha hb) (Ev.const ?_)
 unfold cmpI less
 by_cases c : cls a = 4 ∨ cls b = 4
 ·rw [if_pos c, if_neg (by decide)]
  congr 1; symm; rw [decide_eq_false_iff_not]; omega
 ·rw [if_neg c, if_pos rfl]
  congr 1; rw [decide_eq_decide]; dsimp only
  by_cases c3 : ord a < ord b
  ·rw [if_pos c3]
   exact ⟨fun _ => ⟨fun h => c (.inl h), fun h => c (.inr h), c3⟩, fun _ => by decide⟩
  ·rw [if_neg c3]
   refine ⟨fun h => ?_, fun h => absurd h.2.2 c3⟩
   split at h
   ·exact absurd h (by decide)
   ·exact absurd h (by decide)
def ab (a : Nat) : Nat := if cls a = 4 then a else key a
end Go.Proofs.Ytmadjhmecfbcmaa.M
end
section
namespace Go.Proofs.Ytmadjhmecfbcmaa.M
open Go.RowKit Go.Proofs.YtmadjhmecfbcmaaW.PrintWords Go.Proofs.YtmadjhmecfbcmaaW.PrintLast Go.Proofs.YtmadjhmecfbcmaaW.PrintMore Go.Proofs.Ytmadjhmecfbcmaa.F
theorem Quiet_ok : pattern_Quiet.f = some (QN : Int) := rfl
theorem invalid_ok : soft_invalid.f = some ((QN : Int), 16) := rfl
theorem wMul_ok (x y : Nat) (hx : x < 18446744073709551616) (hy : y < 18446744073709551616) : wide_Mul.f (x : Int) (y : Int) = some ((tw (x * y)).1, (tw (x * y)).2) := by
 unfold wide_Mul.f bits_Mul64.f
 rw [if_pos (by omega)]
 unfold tw
 simp only [Option.bind_some]
 rw [← Int.natCast_mul]
 congr 1
theorem Mul_ev (a b mode : Nat) (ha : U a) (hb : U b) : Ev (fun k => soft_Mul.f k (a : Int) (b : Int) (mode : Int)) (pr (sMul a b mode)) := by
 unfold soft_Mul.f
 refine Ev.b _ (of_ev a ha) (Ev.b _ (of_ev b hb) ?_)
 dsimp only
 have E := fun c => either_ok (a : Int) (cls a) (sgn a) (spm a : Int) (spe a) (b : Int) (cls b) (sgn b) (spm b : Int) (spe b) c
 have E4 := E 4
 have E3 := E 3
 have E0 := E 0
 rw [show ((4 : Nat) : Int) = 4 from rfl] at E4
 rw [show ((3 : Nat) : Int) = 3 from rfl] at E3
 rw [show ((0 : Nat) : Int) = 0 from rfl] at E0
 refine Ev.b _ (Ev.const E4) ?_
 by_cases c4 : cls a = 4 ∨ cls b = 4
 ·have hS : sMul a b mode = (QN, 0) := by unfold sMul; rw [if_pos c4]
  rw [hS, decide_eq_true c4]
  exact Ev.congr (fun k => by rw [if_pos rfl]) (Ev.b (f := fun _ x => some (x, (0 : Int))) _ (Ev.const Quiet_ok) (Ev.now _))
 rw [decide_eq_false c4]
 have J : Ev (fun k => soft_Mul.j0 k (mode : Int) (sgn a != sgn b) (if cls a = 3 ∨ cls b = 3 then decide (cls a = 0 ∨ cls b = 0) else false) (a : Int) (cls a : Int) (sgn a) (spm a : Int) (spe a) (b : Int) (cls b : Int) (sgn b) (spm b : Int) (spe b)) (pr (sMul a b mode)) := by
  refine Ev.next ?_
  simp only [soft_Mul.j0]
  by_cases c3 : cls a = 3 ∨ cls b = 3
  ·rw [if_pos c3]
   by_cases c0 : cls a = 0 ∨ cls b = 0
   ·have hS : sMul a b mode = (QN, 16) := by unfold sMul; rw [if_neg c4, if_pos (show cls a = 3 ∧ cls b = 0 ∨ cls a = 0 ∧ cls b = 3 by omega)]
    rw [hS, decide_eq_true c0]
    exact Ev.congr (fun k => by rw [if_pos rfl]) (Ev.b (f := fun _ x => some (x.1, x.2)) _ (Ev.const invalid_ok) (Ev.now _))
   ·have hS : sMul a b mode = (sg (sgn a != sgn b) + INF, 0) := by unfold sMul; rw [if_neg c4, if_neg (show ¬ (cls a = 3 ∧ cls b = 0 ∨ cls a = 0 ∧ cls b = 3) by omega), if_pos c3]
    rw [hS, decide_eq_false c0]
    refine Ev.congr (fun k => by rw [if_neg (by simp)]) (Ev.b _ (Ev.const E3) ?_)
    rw [decide_eq_true c3]
    exact Ev.congr (fun k => by rw [if_pos rfl]) (Ev.b (f := fun _ x => some (x, (0 : Int))) _ (Inf_ev _) (Ev.now _))
  ·have c0 : ¬ (cls a = 3 ∧ cls b = 0 ∨ cls a = 0 ∧ cls b = 3) := by omega
   have la := spm_lt a
   have lb := spm_lt b
   have ea := spe_bd a
   have eb := spe_bd b
   have hM : spm a * spm b < 340282366920938463463374607431768211456 := by
    have h1 : spm a * spm b ≤ 9007199254740992 * spm b := Nat.mul_le_mul_right _ (by omega)
    have h2 : 9007199254740992 * spm b ≤ 9007199254740992 * 9007199254740992 := Nat.mul_le_mul_left _ (by omega)
    omega
   have R := Round_ev (sgn a != sgn b) (spm a * spm b) (spe a + spe b) false mode hM
   rw [cl_id (by omega) (by omega), Bool.false_and] at R
   have hS : (if spm a * spm b = 0 then ((sg (sgn a != sgn b) : Int), (0 : Int)) else pr (RND (sgn a != sgn b) (FX (spm a * spm b) 1 (spe a + spe b)) (FS (spm a * spm b) 1 (spe a + spe b) false) mode)) = pr (sMul a b mode) := by
    unfold sMul; rw [if_neg c4, if_neg c0, if_neg c3]
    by_cases z : spm a * spm b = 0
    ·rw [if_pos z, if_pos z]; rfl
    ·rw [if_neg z, if_neg z]
   rw [hS] at R
   have w1 : wrap64 (spe a + spe b) = spe a + spe b := w64 (by omega) (by omega)
   rw [if_neg c3]
   refine Ev.congr (fun k => by rw [if_neg (by simp)]) (Ev.b _ (Ev.const E3) ?_)
   rw [decide_eq_false c3]
   refine Ev.congr (fun k => by rw [if_neg (by simp)]) (Ev.b _ (Ev.const (wMul_ok _ _ (by omega) (by omega))) ?_)
   dsimp only
   rw [w1]
   exact Ev.b (f := fun _ x => some (x.1, x.2)) _ R (Ev.now _)
 refine Ev.congr (fun k => by rw [if_neg (by simp)]) (Ev.b _ (Ev.const E3) ?_)
 by_cases c3 : cls a = 3 ∨ cls b = 3
 ·rw [if_pos c3] at J
  rw [decide_eq_true c3]
  refine Ev.congr (fun k => by rw [if_pos rfl]) (Ev.b _ (Ev.const E0) ?_)
  exact J
 ·rw [if_neg c3] at J
  rw [decide_eq_false c3]
  exact Ev.congr (fun k => by rw [if_neg (by simp)]) J
theorem Div64_ok (x y z : Nat) (h1 : x < z) (h2 : z < 18446744073709551616) (h3 : y < 18446744073709551616) :
  bits_Div64.f (x : Int) (y : Int) (z : Int) = some ((((x * 18446744073709551616 + y) / z : Nat) : Int), (((x * 18446744073709551616 + y) % z : Nat) : Int)) := by
 unfold bits_Div64.f
 rw [if_pos (by omega), Int.natCast_ediv, Int.natCast_emod, Int.natCast_add, Int.natCast_mul]; rfl
theorem U128_Div (hi z : Nat) (h1 : hi < 18446744073709551616) (hz : 0 < z) (h2 : z < 18446744073709551616) :
  wide_U128_Div.f (hi : Int) 0 (z : Int) = some ((tw (hi * 18446744073709551616 / z)).1, (tw (hi * 18446744073709551616 / z)).2, ((hi * 18446744073709551616 % z : Nat) : Int)) := by
 have hm := Nat.mod_lt hi hz
 have hl : hi % z * 18446744073709551616 / z < 18446744073709551616 := by
  rw [Nat.div_lt_iff_lt_mul hz, Nat.mul_comm 18446744073709551616]
  exact Nat.mul_lt_mul_of_pos_right hm (by decide)
 have e : hi * 18446744073709551616 = hi % z * 18446744073709551616 + z * (hi / z * 18446744073709551616) := by
  have := Nat.div_add_mod hi z
  have h4 : hi * 18446744073709551616 = (z * (hi / z) + hi % z) * 18446744073709551616 := by rw [this]
  rw [h4, Nat.add_mul]; grind
 have eq : hi * 18446744073709551616 / z = hi / z * 18446744073709551616 + hi % z * 18446744073709551616 / z := by
  rw [e, Nat.add_mul_div_left _ _ hz, Nat.add_comm]
 have er : hi * 18446744073709551616 % z = hi % z * 18446744073709551616 % z := by
  rw [e, Nat.add_mul_mod_self_left]
 unfold wide_U128_Div.f
 have D1 := Div64_ok 0 hi z hz h2 h1
 rw [Nat.zero_mul, Nat.zero_add] at D1
 have D2 := Div64_ok (hi % z) 0 z hm h2 (by decide)
 rw [Nat.add_zero] at D2
 rw [if_neg (by omega), bind_of _ (show bits_Div64.f 0 (hi : Int) (z : Int) = _ from D1)]
 dsimp only
 rw [bind_of _ (show bits_Div64.f ((hi % z : Nat) : Int) 0 (z : Int) = _ from D2), eq, er, tw_join _ _ hl]
theorem dv1 {b x : Nat} (h1 : b < 9007199254740992) (h2 : 9223372036854775808 ≤ x) : 9007199254740992 * b ≤ x * 18446744073709551616 := by omega
theorem Div_ev (a b mode : Nat) (ha : U a) (hb : U b) : Ev (fun k => soft_Div.f k (a : Int) (b : Int) (mode : Int)) (pr (sDiv a b mode)) := by
 unfold soft_Div.f
 refine Ev.b _ (of_ev a ha) (Ev.b _ (of_ev b hb) ?_)
 dsimp only
 have E4 := either_ok (a : Int) (cls a) (sgn a) (spm a : Int) (spe a) (b : Int) (cls b) (sgn b) (spm b : Int) (spe b) 4
 rw [show ((4 : Nat) : Int) = 4 from rfl] at E4
 refine Ev.b _ (Ev.const E4) ?_
 have a0e : ((cls a : Int) == 0) = decide (cls a = 0) := eq_nat _ 0
 have b3e : ((cls b : Int) == 3) = decide (cls b = 3) := eq_nat _ 3
 by_cases c4 : cls a = 4 ∨ cls b = 4
 ·have hS : sDiv a b mode = (QN, 0) := by unfold sDiv; rw [if_pos c4]
  rw [hS, decide_eq_true c4]
  exact Ev.congr (fun k => by rw [if_pos rfl]) (Ev.b (f := fun _ x => some (x, (0 : Int))) _ (Ev.const Quiet_ok) (Ev.now _))
 rw [decide_eq_false c4, a0e]
 have J1 : ¬ (cls a = 3 ∧ cls b = 3 ∨ cls a = 0 ∧ cls b = 0) → ¬ cls a = 3 → ¬ cls b = 0 → Ev (fun k => soft_Div.j1 k (mode : Int) (sgn a != sgn b) (decide (cls a = 0 ∨ cls b = 3)) (a : Int) (cls a : Int) (sgn a) (spm a : Int) (spe a) (b : Int) (cls b : Int) (sgn b) (spm b : Int) (spe b)) (pr (sDiv a b mode)) := by
  intro n1 n2 n3
  refine Ev.next ?_
  simp only [soft_Div.j1]
  by_cases c : cls a = 0 ∨ cls b = 3
  ·have hS : sDiv a b mode = (sg (sgn a != sgn b), 0) := by unfold sDiv; rw [if_neg c4, if_neg n1, if_neg n2, if_neg n3, if_pos c]
   rw [hS, decide_eq_true c]
   exact Ev.congr (fun k => by rw [if_pos rfl]) (Ev.b (f := fun _ x => some (x, (0 : Int))) _ (zero_ev _) (Ev.now _))
  ·have ka : cls a ≤ 2 := by have := cls_le a; omega
   have kb : cls b ≤ 2 := by have := cls_le b; omega
   have za : spm a ≠ 0 := fun h => by have := (spm_zero a ka).1 h; omega
   have zb : spm b ≠ 0 := fun h => by have := (spm_zero b kb).1 h; omega
   have la := spm_lt a
   have lb := spm_lt b
   have ea := spe_bd a
   have eb := spe_bd b
   have hbl := bl_bd (spm a) za
   have hbl2 : bl (spm a) ≤ 53 := bl_le (n := 53) la
   have L : wide_U128_Len.f 0 (spm a : Int) = some (bl (spm a) : Int) := by
    have := Len_tw (spm a) (by omega)
    rw [tw_word (by omega)] at this; exact this
   obtain ⟨sh', hsh⟩ : ∃ n : Nat, n = 64 - bl (spm a) := ⟨_, rfl⟩
   have w1 : wrap64 (64 - (bl (spm a) : Int)) = (sh' : Int) := by rw [w64 (by omega) (by omega)]; omega
   have hx : spm a * 2 ^ sh' < 18446744073709551616 := by
    have : spm a * 2 ^ sh' < 2 ^ bl (spm a) * 2 ^ sh' := Nat.mul_lt_mul_of_pos_right hbl.2.2 (two_pos _)
    rw [← Nat.pow_add, show bl (spm a) + sh' = 64 by omega] at this; exact this
   have hx2 : 9223372036854775808 ≤ spm a * 2 ^ sh' := by
    have : 2 ^ (bl (spm a) - 1) * 2 ^ sh' ≤ spm a * 2 ^ sh' := Nat.mul_le_mul_right _ hbl.2.1
    rw [← Nat.pow_add, show bl (spm a) - 1 + sh' = 63 by omega] at this; exact this
   have S : shl .u64 (spm a : Int) (sh' : Int) = ((spm a * 2 ^ sh' : Nat) : Int) := by rw [shl_nat _ _ (by omega), Nat.mod_eq_of_lt hx]
   have D := U128_Div (spm a * 2 ^ sh') (spm b) hx (by omega) (by omega)
   have hA : spm a * 2 ^ sh' * 18446744073709551616 = spm a * 2 ^ (sh' + 64) := by rw [Nat.pow_add, Nat.mul_assoc]
   have hq1 : 9007199254740992 ≤ spm a * 2 ^ sh' * 18446744073709551616 / spm b := by
    rw [Nat.le_div_iff_mul_le (by omega)]
    exact dv1 lb hx2
   have hq2 : spm a * 2 ^ sh' * 18446744073709551616 / spm b < 340282366920938463463374607431768211456 := by
    exact Nat.lt_of_le_of_lt (Nat.div_le_self _ _) (Nat.mul_lt_mul_of_pos_right hx (by decide))
   obtain ⟨A, hAA⟩ : ∃ A, spm a * 2 ^ sh' * 18446744073709551616 = A := ⟨_, rfl⟩
   rw [hAA] at D hA hq1 hq2
   have w2 : wrap64 (wrap64 (wrap64 (spe a - (sh' : Int)) - 64) - spe b) = spe a - spe b - (sh' + 64 : Nat) := by
    rw [w64 (n := spe a - (sh' : Int)) (by omega) (by omega), w64 (n := spe a - (sh' : Int) - 64) (by omega) (by omega), w64 (by omega) (by omega)]; omega
   have hbl54 : 53 < bl (A / spm b) := by
    by_cases c9 : bl (A / spm b) ≤ 53
    ·have := bl_small c9; omega
    ·omega
   have hl : (((A % spm b : Nat) : Int) != 0) = decide (A % spm b ≠ 0) := by rw [Bool.eq_iff_iff, bne_iff_ne, decide_eq_true_iff]; omega
   have R := Round_ev (sgn a != sgn b) (A / spm b) (spe a - spe b - (sh' + 64 : Nat)) (decide (A % spm b ≠ 0)) mode hq2
   rw [if_neg (by omega), cl_id (by omega) (by omega), decide_eq_true hbl54, Bool.and_true] at R
   have T := two_step (sgn a != sgn b) A (spm b) (spe a - spe b - (sh' + 64 : Nat)) mode (by omega) (.inr hq1)
   have K := FXS_scale (spm a) (spm b) (sh' + 64) (spe a - spe b) false
   rw [← hA] at K
   rw [T, K.1, K.2] at R
   have hS : RND (sgn a != sgn b) (FX (spm a) (spm b) (spe a - spe b)) (FS (spm a) (spm b) (spe a - spe b) false) mode = sDiv a b mode := by
    unfold sDiv; rw [if_neg c4, if_neg n1, if_neg n2, if_neg n3, if_neg c]
   rw [hS] at R
   rw [decide_eq_false c]
   refine Ev.congr (fun k => by rw [if_neg (by simp)]) (Ev.b _ (Ev.const L) ?_)
   rw [w1, S]
   refine Ev.congr (fun k => by rw [if_pos (by omega)]) (Ev.b _ (Ev.const D) ?_)
   dsimp only
   rw [w2, hl]
   exact Ev.b (f := fun _ x => some (x.1, x.2)) _ R (Ev.now _)
 have J0 : Ev (fun k => soft_Div.j0 k (mode : Int) (sgn a != sgn b) (decide (cls a = 3 ∧ cls b = 3 ∨ cls a = 0 ∧ cls b = 0)) (a : Int) (cls a : Int) (sgn a) (spm a : Int) (spe a) (b : Int) (cls b : Int) (sgn b) (spm b : Int) (spe b)) (pr (sDiv a b mode)) := by
  refine Ev.next ?_
  simp only [soft_Div.j0]
  rw [a0e, b3e]
  by_cases n1 : cls a = 3 ∧ cls b = 3 ∨ cls a = 0 ∧ cls b = 0
  ·have hS : sDiv a b mode = (QN, 16) := by unfold sDiv; rw [if_neg c4, if_pos n1]
   rw [hS, decide_eq_true n1]
   exact Ev.congr (fun k => by rw [if_pos rfl]) (Ev.b (f := fun _ x => some (x.1, x.2)) _ (Ev.const invalid_ok) (Ev.now _))
  rw [decide_eq_false n1]
  by_cases n2 : cls a = 3
  ·have hS : sDiv a b mode = (sg (sgn a != sgn b) + INF, 0) := by unfold sDiv; rw [if_neg c4, if_neg n1, if_pos n2]
   rw [hS]
   exact Ev.congr (fun k => by rw [if_neg (by simp), if_pos (by omega)]) (Ev.b (f := fun _ x => some (x, (0 : Int))) _ (Inf_ev _) (Ev.now _))
  by_cases n3 : cls b = 0
  ·have hS : sDiv a b mode = (sg (sgn a != sgn b) + INF, 8) := by unfold sDiv; rw [if_neg c4, if_neg n1, if_neg n2, if_pos n3]
   rw [hS]
   exact Ev.congr (fun k => by rw [if_neg (by simp), if_neg (by omega), if_pos (by omega)]) (Ev.b (f := fun _ x => some (x, (8 : Int))) _ (Inf_ev _) (Ev.now _))
  have J := J1 n1 n2 n3
  by_cases a0 : cls a = 0
  ·rw [decide_eq_true (.inl a0)] at J
   rw [decide_eq_true a0]
   exact Ev.congr (fun k => by rw [if_neg (by simp), if_neg (by omega), if_neg (by omega), if_pos (by omega)]) J
  ·rw [show decide (cls a = 0 ∨ cls b = 3) = decide (cls b = 3) by rw [Bool.eq_iff_iff, decide_eq_true_iff, decide_eq_true_iff]; omega] at J
   exact Ev.congr (fun k => by rw [if_neg (by simp), if_neg (by omega), if_neg (by omega), if_neg (by omega)]) J
 by_cases h1 : cls a = cls b
 ·by_cases h2 : cls a = 3
  ·rw [decide_eq_true (show cls a = 3 ∧ cls b = 3 ∨ cls a = 0 ∧ cls b = 0 by omega)] at J0
   exact Ev.congr (fun k => by rw [if_neg (by simp), if_pos (by omega), if_pos (by omega)]) J0
  ·rw [show decide (cls a = 3 ∧ cls b = 3 ∨ cls a = 0 ∧ cls b = 0) = decide (cls a = 0) by rw [Bool.eq_iff_iff, decide_eq_true_iff, decide_eq_true_iff]; omega] at J0
   exact Ev.congr (fun k => by rw [if_neg (by simp), if_pos (by omega), if_neg (by omega)]) J0
 ·rw [decide_eq_false (show ¬ (cls a = 3 ∧ cls b = 3 ∨ cls a = 0 ∧ cls b = 0) by omega)] at J0
  exact Ev.congr (fun k => by rw [if_neg (by simp), if_neg (by omega)]) J0
end Go.Proofs.Ytmadjhmecfbcmaa.M
end
section
namespace Go.Proofs.Ytmadjhmecfbcmaa.M
open Go.RowKit Go.Proofs.YtmadjhmecfbcmaaW.PrintWords Go.Proofs.YtmadjhmecfbcmaaW.PrintLast Go.Proofs.YtmadjhmecfbcmaaW.PrintMore Go.Proofs.Ytmadjhmecfbcmaa.F
def sSum (mode : Nat) : Nat → List Nat → Nat
 | s, [] => s
 | s, f :: l => sSum mode (sAdd s f mode).1 l
theorem RND_U (neg : Bool) (X : Nat) (s : Bool) (mode : Nat) : U (RND neg X s mode).1 := by
 unfold U
 by_cases h : 9218868437227405312 ≤ kk X s (dir neg mode)
 ·rw [RND_over h]; unfold sg; dsimp only; (repeat' split) <;> omega
 ·rw [RND_in h]; unfold sg; dsimp only; split <;> omega
theorem sg_U (b : Bool) : U (sg b) := by unfold U sg; split <;> omega
theorem sAdd_U (a b mode : Nat) (ha : U a) (hb : U b) : U (sAdd a b mode).1 := by
 unfold sAdd
 (repeat' split) <;> first | assumption | exact RND_U _ _ _ _ | exact sg_U _ | (show QN < _; decide)
end Go.Proofs.Ytmadjhmecfbcmaa.M
end
section
namespace Go.Proofs.Ytmadjhmecfbcmaa.M
open Go.RowKit Go.Proofs.YtmadjhmecfbcmaaW.PrintWords Go.Proofs.YtmadjhmecfbcmaaW.PrintLast Go.Proofs.YtmadjhmecfbcmaaW.PrintMore Go.Proofs.Ytmadjhmecfbcmaa.F
theorem c1 : sAdd 4607182418800017408 4368491638549381120 0 = (4607182418800017408, 1) := by decide +kernel
theorem c2 : (sAdd 4607182418800017408 4368491638549381120 1).1 = 4607182418800017409 := by decide +kernel
theorem c3 : (sAdd 4607182418800017408 (ng 4607182418800017408) 0).1 = 0 := by decide +kernel
theorem c4' : (sAdd 4607182418800017408 (ng 4607182418800017408) 2).1 = 9223372036854775808 := by decide +kernel
theorem c5 : sDiv 13830554455654793216 0 0 = (18442240474082181120, 8) := by decide +kernel
theorem c7 : sMul 0 9218868437227405312 0 = (QN, 16) := by decide +kernel
theorem c8 : sSum 0 0 [4607182418800017408, 4607182418800017408, 4607182418800017408] = 4613937818241073152 := by decide +kernel
theorem wf_u64 {x : Int} (h : (Lit.int .u64 x).wf = true) : ∃ a : Nat, x = a ∧ U a := by
 have h2 := (Bool.and_eq_true _ _).mp h
 have h0 : (0 : Int) ≤ x := of_decide_eq_true h2.1
 have h1 : x ≤ 18446744073709551615 := of_decide_eq_true h2.2
 exact ⟨x.toNat, by omega, by unfold U; omega⟩
theorem Ev.ex {α : Type} {g : Nat → Option α} {r : α} (h : Ev g r) : ∃ k, g k = some r := by
 obtain ⟨k, hk⟩ := h; exact ⟨k, hk k (Nat.le_refl _)⟩
instance (a : Nat) : Decidable (U a) := by unfold U; infer_instance
theorem w1 : Ev (fun k => soft_Add.f k 4607182418800017408 4368491638549381120 0) (4607182418800017408, 1) := by
 have := Add_ev 4607182418800017408 4368491638549381120 0 (by decide) (by decide)
 rw [c1] at this; exact this
theorem w2 : ∃ y, Ev (fun k => soft_Add.f k 4607182418800017408 4368491638549381120 1) (4607182418800017409, y) := by
 have := Add_ev 4607182418800017408 4368491638549381120 1 (by decide) (by decide)
 unfold pr at this
 rw [c2] at this; exact ⟨_, this⟩
theorem w3 : ∃ y, Ev (fun k => soft_Sub.f k 4607182418800017408 4607182418800017408 0) (0, y) := by
 have := Sub_ev 4607182418800017408 4607182418800017408 0 (by decide) (by decide)
 unfold pr at this
 rw [c3] at this; exact ⟨_, this⟩
theorem w4 : ∃ y, Ev (fun k => soft_Sub.f k 4607182418800017408 4607182418800017408 2) (9223372036854775808, y) := by
 have := Sub_ev 4607182418800017408 4607182418800017408 2 (by decide) (by decide)
 unfold pr at this
 rw [c4'] at this; exact ⟨_, this⟩
end Go.Proofs.Ytmadjhmecfbcmaa.M
end
section
namespace Go.Proofs.Ytmadjhmecfbcmaa.M
open Go.RowKit Go.Proofs.YtmadjhmecfbcmaaW.PrintWords Go.Proofs.YtmadjhmecfbcmaaW.PrintLast Go.Proofs.YtmadjhmecfbcmaaW.PrintMore Go.Proofs.Ytmadjhmecfbcmaa.F
theorem inf_eq {a : Nat} (h : U a) (c : cls a = 3) : a = sg (sgn a) + INF := by
 have h1 := a_parts a h
 have h2 := (key_cls a).2.1.1 c
 unfold INF; omega
theorem sAdd_nan {a b : Nat} (m : Nat) (h : cls a = 4 ∨ cls b = 4) : sAdd a b m = (QN, 0) := by unfold sAdd; rw [if_pos h]
theorem sAdd_inv {a b : Nat} (m : Nat) (h : cls a = 3 ∧ cls b = 3 ∧ sgn a ≠ sgn b) : sAdd a b m = (QN, 16) := by
 unfold sAdd; rw [if_neg (show ¬ (cls a = 4 ∨ cls b = 4) by omega), if_pos h]
theorem sAdd_infl {a b : Nat} (m : Nat) (h : ¬ (cls a = 4 ∨ cls b = 4)) (h2 : ¬ (cls a = 3 ∧ cls b = 3 ∧ sgn a ≠ sgn b)) (c : cls a = 3) : sAdd a b m = (a, 0) := by
 unfold sAdd; rw [if_neg h, if_neg h2, if_pos c]
theorem sAdd_infr {a b : Nat} (m : Nat) (h : ¬ (cls a = 4 ∨ cls b = 4)) (c : cls a ≠ 3) (c2 : cls b = 3) : sAdd a b m = (b, 0) := by
 unfold sAdd; rw [if_neg h, if_neg (show ¬ (cls a = 3 ∧ cls b = 3 ∧ sgn a ≠ sgn b) from fun x => c x.1), if_neg c, if_pos c2]
theorem sMul_comm (a b m : Nat) : sMul a b m = sMul b a m := by
 have e1 : (sgn a != sgn b) = (sgn b != sgn a) := by cases sgn a <;> cases sgn b <;> rfl
 unfold sMul
 rw [e1, Nat.mul_comm (spm a), Int.add_comm (spe a)]
 congr 1
 ·exact propext ⟨Or.symm, Or.symm⟩
 ·congr 1
  ·exact propext ⟨fun h => h.symm.imp And.symm And.symm, fun h => h.symm.imp And.symm And.symm⟩
  ·congr 1
   exact propext ⟨Or.symm, Or.symm⟩
theorem flip_parts (a : Nat) (h : U a) : sgn (flip a) = !sgn a ∧ key (flip a) = key a := by
 unfold U at h
 unfold flip sgn key
 by_cases c : a < 9223372036854775808
 ·rw [if_pos c, show (a + 9223372036854775808) / 9223372036854775808 = 1 by omega, show a / 9223372036854775808 = 0 by omega]
  exact ⟨rfl, by omega⟩
 ·rw [if_neg c, show (a - 9223372036854775808) / 9223372036854775808 = 0 by omega, show a / 9223372036854775808 = 1 by omega]
  exact ⟨rfl, by omega⟩
theorem cls_key {a b : Nat} (h : key a = key b) : cls a = cls b := by
 have h1 := key_parts' a
 have h2 := key_parts' b
 have a1 := fr_lt a
 have a2 := fr_lt b
 have e1 : ex a = ex b := by omega
 have e2 : fr a = fr b := by omega
 unfold cls; rw [e1, e2]
theorem ng_cls (a : Nat) (h : U a) : cls (ng a) = cls a := by
 unfold ng; split
 ·rfl
 ·exact cls_key (flip_parts a h).2
theorem ng_ord (a : Nat) (h : U a) (c : cls a ≠ 4) : ord (ng a) = -ord a := by
 unfold ng; rw [if_neg c]
 have := flip_parts a h
 unfold ord; rw [this.1, this.2]
 cases sgn a
 ·rfl
 ·simp
theorem ng_sv (a : Nat) (h : U a) (c : cls a ≠ 4) : sv (ng a) = -sv a := by
 unfold ng; rw [if_neg c]
 have := flip_parts a h
 unfold sv mg; rw [this.1, this.2]
 cases sgn a
 ·rfl
 ·simp
theorem QN_cls : cls QN = 4 := by decide
theorem cls_sg0 (n : Bool) : cls (sg n) = 0 := by cases n <;> decide
theorem cls_sAdd (a b m : Nat) : cls (sAdd a b m).1 = 4 ↔ cls a = 4 ∨ cls b = 4 ∨ (cls a = 3 ∧ cls b = 3 ∧ sgn a ≠ sgn b) := by
 have la := cls_le a
 have lb := cls_le b
 by_cases c4 : cls a = 4 ∨ cls b = 4
 ·rw [sAdd_nan m c4]; exact ⟨fun _ => by rcases c4 with h | h; exact .inl h; exact .inr (.inl h), fun _ => QN_cls⟩
 ·by_cases c1 : cls a = 3 ∧ cls b = 3 ∧ sgn a ≠ sgn b
  ·rw [sAdd_inv m c1]; exact ⟨fun _ => .inr (.inr c1), fun _ => QN_cls⟩
  ·refine ⟨fun h => ?_, fun h => ?_⟩
   ·exfalso
    by_cases c2 : cls a = 3
    ·rw [sAdd_infl m c4 c1 c2] at h; dsimp only at h; omega
    ·by_cases c3 : cls b = 3
     ·rw [sAdd_infr m c4 c2 c3] at h; dsimp only at h; omega
     ·rw [sAdd_fin m (by omega) (by omega)] at h
      split at h
      ·dsimp only at h; rw [cls_sg0] at h; omega
      ·have := cls_RND (decide (sv a + sv b < 0)) (2 * (sv a + sv b).natAbs) false m; omega
   ·rcases h with h | h | h
    ·exact absurd (.inl h) c4
    ·exact absurd (.inr h) c4
    ·exact absurd h c1
theorem sMul_U (a b m : Nat) : U (sMul a b m).1 := by
 unfold sMul
 (repeat' split)
 ·decide
 ·decide
 ·unfold U sg INF; split <;> omega
 ·unfold U sg; dsimp only; split <;> omega
 ·exact U_RND _ _ _ _
end Go.Proofs.Ytmadjhmecfbcmaa.M
end
section
namespace Go.Proofs.Ytmadjhmecfbcmaa.M
open Go.RowKit Go.Proofs.YtmadjhmecfbcmaaW.PrintWords Go.Proofs.YtmadjhmecfbcmaaW.PrintLast Go.Proofs.YtmadjhmecfbcmaaW.PrintMore Go.Proofs.Ytmadjhmecfbcmaa.F
theorem cls_inf (a : Nat) (c : cls a ≠ 4) (h : ord a = 9218868437227405312 ∨ ord a = -9218868437227405312) : cls a = 3 := by
 have la := cls_le a
 by_cases c3 : cls a = 3
 ·exact c3
 ·have := ord_fin a (by omega); omega
theorem ord_INF (n : Bool) : ord (sg n + INF) = if n then -9218868437227405312 else 9218868437227405312 := by
 have := ord_sg n INF (by decide)
 rw [this]; cases n <;> rfl
theorem sMul_inf {a b : Nat} (m : Nat) (h : ¬ (cls a = 4 ∨ cls b = 4)) (h2 : ¬ (cls a = 3 ∧ cls b = 0 ∨ cls a = 0 ∧ cls b = 3)) (c : cls a = 3 ∨ cls b = 3) : sMul a b m = (sg (sgn a != sgn b) + INF, 0) := by
 unfold sMul; rw [if_neg h, if_neg h2, if_pos c]
end Go.Proofs.Ytmadjhmecfbcmaa.M
end
section
namespace Go.Proofs.Ytmadjhmecfbcmaa.M
open Go.RowKit Go.Proofs.YtmadjhmecfbcmaaW.PrintWords Go.Proofs.YtmadjhmecfbcmaaW.PrintLast Go.Proofs.YtmadjhmecfbcmaaW.PrintMore Go.Proofs.Ytmadjhmecfbcmaa.F
def NINF : Nat := 18442240474082181120
def le (a b : Nat) : Bool := decide (cls a ≠ 4 ∧ cls b ≠ 4 ∧ ord a ≤ ord b)
abbrev Sp : Type := Option (Nat × Nat)
def enc : Sp → Bool × Int × Int
 | none => (true, 0, 0)
 | some p => (false, (p.1 : Int), (p.2 : Int))
def nz (a : Nat) : Nat := if cls a = 0 then 0 else a
def norm (e : Bool) (lo hi : Nat) : Sp := if e = true ∨ le lo hi = false ∨ lo = INF ∨ hi = NINF then none else some (nz lo, nz hi)
def WF : Sp → Prop
 | none => True
 | some p => U p.1 ∧ U p.2 ∧ le p.1 p.2 = true ∧ p.1 ≠ INF ∧ p.2 ≠ NINF ∧ nz p.1 = p.1 ∧ nz p.2 = p.2
theorem cls0 : cls 0 = 0 := by decide
theorem nz_cls (a : Nat) : cls (nz a) = cls a := by unfold nz; split; (rename_i h; rw [h]; exact cls0); rfl
theorem nz_ord (a : Nat) : ord (nz a) = ord a := by
 unfold nz; split
 ·rename_i h; rw [(ord_zero a).2 h]; exact (ord_zero 0).2 cls0
 ·rfl
theorem nz_U (a : Nat) (h : U a) : U (nz a) := by unfold nz; split; decide; exact h
theorem nz_nz (a : Nat) : nz (nz a) = nz a := by
 by_cases h : cls a = 0
 ·have e : nz a = 0 := by unfold nz; rw [if_pos h]
  rw [e]; unfold nz; rw [if_pos cls0]
 ·have e : nz a = a := by unfold nz; rw [if_neg h]
  rw [e, e]
theorem nz_le (a b : Nat) : le (nz a) (nz b) = le a b := by unfold le; rw [nz_cls, nz_cls, nz_ord, nz_ord]
theorem nz_ne {a x : Nat} (hx : cls x = 3) (h : a ≠ x) : nz a ≠ x := by
 unfold nz; split
 ·intro e; rw [← e, cls0] at hx; cases hx
 ·exact h
theorem INF_cls : cls INF = 3 := by decide
theorem NINF_cls : cls NINF = 3 := by decide
theorem norm_WF (e : Bool) (lo hi : Nat) (h1 : U lo) (h2 : U hi) : WF (norm e lo hi) := by
 unfold norm
 by_cases c : e = true ∨ le lo hi = false ∨ lo = INF ∨ hi = NINF
 ·rw [if_pos c]; trivial
 ·rw [if_neg c]
  refine ⟨nz_U lo h1, nz_U hi h2, ?_, nz_ne INF_cls (fun x => c (.inr (.inr (.inl x)))), nz_ne NINF_cls (fun x => c (.inr (.inr (.inr x)))), nz_nz _, nz_nz _⟩
  rw [nz_le]
  cases h : le lo hi
  ·exact absurd (.inr (.inl h)) c
  ·rfl
theorem norm_id {p : Nat × Nat} (h : WF (some p)) : norm false p.1 p.2 = some p := by
 obtain ⟨_, _, h3, h4, h5, h6, h7⟩ := h
 unfold norm
 rw [if_neg (by rintro (x | x | x | x); cases x; rw [h3] at x; cases x; exact h4 x; exact h5 x), h6, h7]
theorem le_cmp (a b : Nat) : le a b = ((cmpI a b).2 && decide ((cmpI a b).1 ≤ 0)) := by
 unfold le cmpI
 by_cases c : cls a = 4 ∨ cls b = 4
 ·rw [if_pos c, decide_eq_false (by omega)]; rfl
 ·rw [if_neg c]
  dsimp only
  rw [Bool.true_and, decide_eq_decide]
  by_cases c3 : ord a < ord b
  ·rw [if_pos c3]; exact ⟨fun _ => by decide, fun _ => ⟨fun h => c (.inl h), fun h => c (.inr h), by omega⟩⟩
  ·rw [if_neg c3]
   by_cases c4 : ord b < ord a
   ·rw [if_pos c4]; exact ⟨fun h => absurd h.2.2 (by omega), fun h => absurd h (by decide)⟩
   ·rw [if_neg c4]; exact ⟨fun _ => by decide, fun _ => ⟨fun h => c (.inl h), fun h => c (.inr h), by omega⟩⟩
theorem atMost_ev (a b : Nat) (ha : U a) (hb : U b) : Ev (fun k => span_atMost.f k (a : Int) (b : Int)) (le a b) := by
 unfold span_atMost.f
 refine Ev.b _ (Cmp_ev a b ha hb) (Ev.const ?_)
 rw [le_cmp]
 cases (cmpI a b).2
 ·rw [if_neg (by decide)]; rfl
 ·rw [if_pos rfl]; rfl
theorem sinf_ev : Ev (fun k => span_inf.f k) (INF : Int) := by unfold span_inf.f; exact Ev.b _ (Inf_ev false) (Ev.now _)
theorem sninf_ev : Ev (fun k => span_ninf.f k) (NINF : Int) := by unfold span_ninf.f; exact Ev.b _ (Inf_ev true) (Ev.now _)
theorem snorm_ev (e : Bool) (lo hi : Nat) (h1 : U lo) (h2 : U hi) : Ev (fun k => span_norm.f k e (lo : Int) (hi : Int)) (enc (norm e lo hi)) := by
 unfold span_norm.f
 by_cases c1 : e = true
 ·have n : norm e lo hi = none := by unfold norm; rw [if_pos (.inl c1)]
  rw [n]
  exact Ev.congr (fun k => by rw [if_pos c1]; rfl) (Ev.now _)
 ·refine Ev.congr (fun k => by rw [if_neg c1]) ?_
  refine Ev.b _ (atMost_ev lo hi h1 h2) ?_
  by_cases c2 : le lo hi = true
  ·refine Ev.congr (fun k => by rw [if_pos c2]) ?_
   refine Ev.b _ sinf_ev ?_
   by_cases c3 : lo = INF
   ·have n : norm e lo hi = none := by unfold norm; rw [if_pos (.inr (.inr (.inl c3)))]
    rw [n]
    exact Ev.congr (fun k => by rw [if_pos (by rw [c3])]; rfl) (Ev.now _)
   ·refine Ev.congr (fun k => by rw [if_neg (by omega)]) ?_
    refine Ev.b _ sninf_ev ?_
    by_cases c4 : hi = NINF
    ·have n : norm e lo hi = none := by unfold norm; rw [if_pos (.inr (.inr (.inr c4)))]
     rw [n]
     exact Ev.congr (fun k => by rw [if_pos (by rw [c4])]; rfl) (Ev.now _)
    ·refine Ev.congr (fun k => by rw [if_neg (by omega)]) ?_
     have n : norm e lo hi = some (nz lo, nz hi) := by
      unfold norm; rw [if_neg (by rintro (x | x | x | x); exact c1 x; rw [c2] at x; cases x; exact c3 x; exact c4 x)]
     rw [n]
     refine Ev.b _ (Class_ev lo h1) (Ev.b _ (Class_ev hi h2) (Ev.const ?_))
     have q : ∀ x : Nat, (if (cls x : Int) = 0 then (0 : Int) else (x : Int)) = ((nz x : Nat) : Int) := by
      intro x; unfold nz
      by_cases z : cls x = 0
      ·rw [if_pos (by omega), if_pos z]; rfl
      ·rw [if_neg (by omega), if_neg z]
     rw [q, q, Bool.eq_false_iff.2 c1]; rfl
  ·have n : norm e lo hi = none := by unfold norm; rw [if_pos (.inr (.inl (Bool.eq_false_iff.2 c2)))]
   rw [n]
   exact Ev.congr (fun k => by rw [if_neg c2]; rfl) (Ev.now _)
theorem sMake_ev (lo hi : Nat) (h1 : U lo) (h2 : U hi) : Ev (fun k => span_Make.f k (lo : Int) (hi : Int)) (enc (norm false lo hi)) := by
 unfold span_Make.f
 exact Ev.b _ (snorm_ev false lo hi h1 h2) (Ev.now _)
theorem sPoint_ev (f : Nat) (h : U f) : Ev (fun k => span_Point.f k (f : Int)) (enc (norm false f f)) := by
 unfold span_Point.f
 exact Ev.b _ (sMake_ev f f h h) (Ev.now _)
theorem sAll_ev : Ev (fun k => span_All.f k) (enc (norm false NINF INF)) := by
 unfold span_All.f
 exact Ev.b _ sninf_ev (Ev.b _ sinf_ev (Ev.b _ (sMake_ev NINF INF (by decide) (by decide)) (Ev.now _)))
def ins (a b : Sp) : Bool := match a, b with
 | none, _ => true
 | some _, none => false
 | some p, some q => le q.1 p.1 && le p.2 q.2
theorem sInside_ev (e1 : Bool) (l1 h1 : Nat) (e2 : Bool) (l2 h2 : Nat) (a1 : U l1) (a2 : U h1) (b1 : U l2) (b2 : U h2) :
  Ev (fun k => span_Inside.f k e1 (l1 : Int) (h1 : Int) e2 (l2 : Int) (h2 : Int)) (ins (norm e1 l1 h1) (norm e2 l2 h2)) := by
 have W1 := norm_WF e1 l1 h1 a1 a2
 have W2 := norm_WF e2 l2 h2 b1 b2
 unfold span_Inside.f
 refine Ev.b _ (snorm_ev e1 l1 h1 a1 a2) (Ev.b _ (snorm_ev e2 l2 h2 b1 b2) ?_)
 cases hp : norm e1 l1 h1 with
 | none => exact Ev.congr (fun k => by rw [if_pos (show (enc none).1 = true from rfl)]; rfl) (Ev.now _)
 | some p =>
  cases hq : norm e2 l2 h2 with
  | none => exact Ev.congr (fun k => by rw [if_neg (show ¬ (enc (some p)).1 = true by simp [enc]), if_pos (show (enc none).1 = true from rfl)]; rfl) (Ev.now _)
  | some q =>
   rw [hp] at W1
   rw [hq] at W2
   refine Ev.congr (fun k => by rw [if_neg (show ¬ (enc (some p)).1 = true by simp [enc]), if_neg (show ¬ (enc (some q)).1 = true by simp [enc])]) ?_
   refine Ev.b _ (atMost_ev q.1 p.1 W2.1 W1.1) ?_
   unfold ins
   dsimp only
   cases le q.1 p.1
   ·exact Ev.congr (fun k => by rw [if_neg (by decide)]; rfl) (Ev.now _)
   ·refine Ev.congr (fun k => by rw [if_pos rfl]) ?_
    exact Ev.b _ (atMost_ev p.2 q.2 W1.2.1 W2.2.1) (Ev.now _)
end Go.Proofs.Ytmadjhmecfbcmaa.M
end
section
namespace Go.Proofs.Ytmadjhmecfbcmaa.M
open Go.RowKit Go.Proofs.YtmadjhmecfbcmaaW.PrintWords Go.Proofs.YtmadjhmecfbcmaaW.PrintLast Go.Proofs.YtmadjhmecfbcmaaW.PrintMore Go.Proofs.Ytmadjhmecfbcmaa.F
theorem oINF : ord INF = 9218868437227405312 := by decide +kernel
theorem oNINF : ord NINF = -9218868437227405312 := by decide +kernel
theorem ord_inj {a b : Nat} (ha : U a) (hb : U b) (na : nz a = a) (nb : nz b = b) (h : ord a = ord b) : a = b := by
 by_cases c : cls a = 0
 ·have c2 : cls b = 0 := (ord_zero b).1 (by rw [← h]; exact (ord_zero a).2 c)
  unfold nz at na nb
  rw [if_pos c] at na
  rw [if_pos c2] at nb
  rw [← na, ← nb]
 ·have h0 : ord a ≠ 0 := fun x => c ((ord_zero a).1 x)
  have pa := a_parts a ha
  have pb := a_parts b hb
  have k : sgn a = sgn b ∧ key a = key b := by
   unfold ord at h h0
   generalize sgn a = sa at h h0 ⊢
   generalize sgn b = sb at h h0 ⊢
   cases sa <;> cases sb <;> simp only [Bool.false_eq_true, if_false, if_true] at h h0
   ·exact ⟨rfl, by omega⟩
   ·exfalso; omega
   ·exfalso; omega
   ·exact ⟨rfl, by omega⟩
  rw [pa, pb, k.1, k.2]
theorem le_iff {a b : Nat} (na : cls a ≠ 4) (nb : cls b ≠ 4) : le a b = true ↔ ord a ≤ ord b := by
 unfold le; rw [decide_eq_true_iff]; exact ⟨fun h => h.2.2, fun h => ⟨na, nb, h⟩⟩
theorem le_no {a b : Nat} (na : cls a ≠ 4) (nb : cls b ≠ 4) : le a b = false ↔ ord b < ord a := by
 unfold le; rw [decide_eq_false_iff_not]
 exact ⟨fun h => by by_cases c : ord a ≤ ord b; exact absurd ⟨na, nb, c⟩ h; omega, fun h x => absurd x.2.2 (by omega)⟩
theorem eq_INF {a : Nat} (ha : U a) (na : cls a ≠ 4) : a = INF ↔ ord a = 9218868437227405312 := by
 constructor
 ·intro h; rw [h]; exact oINF
 ·intro h
  have c := cls_inf a na (.inl h)
  have o := ord_inf a c
  have e := inf_eq ha c
  cases s : sgn a
  ·rw [s] at e; rw [e]; decide
  ·rw [s, if_pos rfl] at o; omega
theorem eq_NINF {a : Nat} (ha : U a) (na : cls a ≠ 4) : a = NINF ↔ ord a = -9218868437227405312 := by
 constructor
 ·intro h; rw [h]; exact oNINF
 ·intro h
  have c := cls_inf a na (.inr h)
  have o := ord_inf a c
  have e := inf_eq ha c
  cases s : sgn a
  ·rw [s, if_neg (by decide)] at o; omega
  ·rw [s] at e; rw [e]; decide
structure W2 (p : Nat × Nat) : Prop where
 u1 : U p.1
 u2 : U p.2
 n1 : cls p.1 ≠ 4
 n2 : cls p.2 ≠ 4
 o : ord p.1 ≤ ord p.2
 l : ord p.1 < 9218868437227405312
 g : -9218868437227405312 < ord p.2
 z1 : nz p.1 = p.1
 z2 : nz p.2 = p.2
theorem le_nan {a b : Nat} (h : le a b = true) : cls a ≠ 4 ∧ cls b ≠ 4 ∧ ord a ≤ ord b := by
 unfold le at h; rw [decide_eq_true_iff] at h; exact h
theorem W2.of {p : Nat × Nat} (h : WF (some p)) : W2 p := by
 obtain ⟨h1, h2, h3, h4, h5, h6, h7⟩ := h
 obtain ⟨n1, n2, o⟩ := le_nan h3
 have b1 := ord_bd p.1 n1
 have b2 := ord_bd p.2 n2
 have e1 : ord p.1 ≠ 9218868437227405312 := fun x => h4 ((eq_INF h1 n1).2 x)
 have e2 : ord p.2 ≠ -9218868437227405312 := fun x => h5 ((eq_NINF h2 n2).2 x)
 exact ⟨h1, h2, n1, n2, o, by omega, by omega, h6, h7⟩
theorem W2.wf {p : Nat × Nat} (h : W2 p) : WF (some p) := by
 refine ⟨h.u1, h.u2, (le_iff h.n1 h.n2).2 h.o, fun e => ?_, fun e => ?_, h.z1, h.z2⟩
 ·have := h.l; rw [e, oINF] at this; omega
 ·have := h.g; rw [e, oNINF] at this; omega
structure Fl (a : Nat) : Prop where
 u : U a
 n : cls a ≠ 4
theorem Fl.bd {a : Nat} (h : Fl a) : -9218868437227405312 ≤ ord a ∧ ord a ≤ 9218868437227405312 := ord_bd a h.n
theorem W2.f1 {p : Nat × Nat} (h : W2 p) : Fl p.1 := ⟨h.u1, h.n1⟩
theorem W2.f2 {p : Nat × Nat} (h : W2 p) : Fl p.2 := ⟨h.u2, h.n2⟩
theorem Fl.nz {a : Nat} (h : Fl a) : Fl (nz a) := ⟨nz_U a h.u, by rw [nz_cls]; exact h.n⟩
theorem Fl0 : Fl 0 := ⟨by decide, by decide⟩
theorem FlINF : Fl INF := ⟨by decide, by decide⟩
theorem FlNINF : Fl NINF := ⟨by decide, by decide⟩
theorem ord0 : ord 0 = 0 := by decide
theorem norm_some {a b : Nat} (ha : Fl a) (hb : Fl b) (o : ord a ≤ ord b) (l : ord a < 9218868437227405312) (g : -9218868437227405312 < ord b) :
  norm false a b = some (nz a, nz b) ∧ W2 (nz a, nz b) := by
 refine ⟨?_, ha.nz.u, hb.nz.u, ha.nz.n, hb.nz.n, by rw [nz_ord, nz_ord]; exact o, by rw [nz_ord]; exact l, by rw [nz_ord]; exact g, nz_nz a, nz_nz b⟩
 unfold norm
 rw [if_neg]
 rintro (x | x | x | x)
 ·cases x
 ·rw [le_no ha.n hb.n] at x; omega
 ·rw [x, oINF] at l; omega
 ·rw [x, oNINF] at g; omega
theorem W2.norm {p : Nat × Nat} (h : W2 p) : M.norm false p.1 p.2 = some p := norm_id h.wf
def lw (a b : Nat) : Nat := if ord b < ord a then b else a
def hr (a b : Nat) : Nat := if ord a < ord b then b else a
theorem lw_spec (a b : Nat) : (ord (lw a b) = ord a ∨ ord (lw a b) = ord b) ∧ ord (lw a b) ≤ ord a ∧ ord (lw a b) ≤ ord b := by unfold lw; split <;> omega
theorem hr_spec (a b : Nat) : (ord (hr a b) = ord a ∨ ord (hr a b) = ord b) ∧ ord a ≤ ord (hr a b) ∧ ord b ≤ ord (hr a b) := by unfold hr; split <;> omega
theorem lw_p {P : Nat → Prop} {a b : Nat} (h : P a) (k : P b) : P (lw a b) := by unfold lw; split; exact k; exact h
theorem hr_p {P : Nat → Prop} {a b : Nat} (h : P a) (k : P b) : P (hr a b) := by unfold hr; split; exact k; exact h
def join : Sp → Sp → Sp
 | none, s => s
 | some p, none => some p
 | some p, some q => some (lw p.1 q.1, hr p.2 q.2)
theorem W2.join {p q : Nat × Nat} (h : W2 p) (k : W2 q) : W2 (lw p.1 q.1, hr p.2 q.2) := by
 have s1 := lw_spec p.1 q.1
 have s2 := hr_spec p.2 q.2
 have a1 := h.o
 have a2 := h.l
 have a3 := h.g
 exact ⟨lw_p (P := U) h.u1 k.u1, hr_p (P := U) h.u2 k.u2, lw_p (P := fun x => cls x ≠ 4) h.n1 k.n1, hr_p (P := fun x => cls x ≠ 4) h.n2 k.n2,
  by dsimp only; omega, by dsimp only; omega, by dsimp only; omega, lw_p (P := fun x => nz x = x) h.z1 k.z1, hr_p (P := fun x => nz x = x) h.z2 k.z2⟩
theorem join_WF {s t : Sp} (h : WF s) (k : WF t) : WF (join s t) := by
 cases s with
 | none => exact k
 | some p => cases t with
  | none => exact h
  | some q => exact ((W2.of h).join (W2.of k)).wf
theorem join_none (s : Sp) : join s none = s := by cases s <;> rfl
theorem Fl.ng {a : Nat} (h : Fl a) : Fl (ng a) := ⟨ng_U a h.u, by rw [ng_cls a h.u]; exact h.n⟩
theorem Fl.ng_ord {a : Nat} (h : Fl a) : ord (M.ng a) = -ord a := M.ng_ord a h.u h.n
def neg : Sp → Sp
 | none => none
 | some p => norm false (ng p.2) (ng p.1)
theorem W2.neg {p : Nat × Nat} (h : W2 p) : M.neg (some p) = some (nz (ng p.2), nz (ng p.1)) ∧ W2 (nz (ng p.2), nz (ng p.1)) := by
 have o := h.o
 have l := h.l
 have g := h.g
 exact norm_some h.f2.ng h.f1.ng (by rw [h.f1.ng_ord, h.f2.ng_ord]; omega) (by rw [h.f2.ng_ord]; omega) (by rw [h.f1.ng_ord]; omega)
def absS : Sp → Sp
 | none => none
 | some p => if 0 ≤ ord p.1 then some p else if ord p.2 ≤ 0 then neg (some p) else norm false 0 (hr (ng p.1) p.2)
theorem W2.abs3 {p : Nat × Nat} (h : W2 p) (h1 : ord p.1 < 0) (h2 : 0 < ord p.2) : M.norm false 0 (hr (M.ng p.1) p.2) = some (0, nz (hr (M.ng p.1) p.2)) ∧ W2 (0, nz (hr (M.ng p.1) p.2)) := by
 have F : Fl (hr (M.ng p.1) p.2) := hr_p h.f1.ng h.f2
 have s := hr_spec (M.ng p.1) p.2
 have e0 : nz 0 = 0 := by decide
 have := norm_some Fl0 F (by rw [ord0]; omega) (by rw [ord0]; omega) (by omega)
 rw [e0] at this; exact this
def mostS (s : Sp) : Nat := match absS s with | none => 0 | some p => p.2
def outer (lo hi : Nat) : Sp := if lo = INF then norm false 9218868437227405311 hi else if hi = NINF then norm false lo 18442240474082181119 else norm false lo hi
def cornP (l1 h1 l2 h2 l3 h3 l4 h4 : Nat) : Sp := join (join (join (join none (outer l1 h1)) (outer l2 h2)) (outer l3 h3)) (outer l4 h4)
end Go.Proofs.Ytmadjhmecfbcmaa.M
end
