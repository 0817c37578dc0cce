/- The walk of the law SoftTurns and what it computes, part 4 of 5: no conditions. -/
import Derived.Test.YtmadjhmecfbcmaaASoftTurns3
import Derived.Handy
set_option linter.unusedVariables false
set_option linter.unusedSimpArgs false
section
namespace Go.Proofs.Ytmadjhmecfbcmaa.F
open Go.RowKit Go.Proofs.YtmadjhmecfbcmaaW.PrintWords Go.Proofs.YtmadjhmecfbcmaaW.PrintLast Go.Proofs.YtmadjhmecfbcmaaW.PrintMore
attribute [local go_sem] max2_int min2_int max_two min_two max_three min_three max_four min_four
set_option linter.unusedVariables false
set_option linter.unusedSimpArgs false
def soft_Div.T15 : Bool × List (List Nat × List Nat) := (true, [([], []), ([0], [0]), ([], []), ([1, 2], [1, 2]), ([3], [3]), ([], []), ([5], [5]), ([4, 6], [4, 6]), ([7], [7]), ([8], [8]), ([8], [8]), ([], []), ([11, 9, 7, 0, 1, 2, 3, 4, 5, 6, 7, 8, 9, 11], [9, 11]), ([10, 12, 0, 1, 2, 3, 4, 5, 6, 7, 8, 9, 10, 11, 12], [10])])
def soft_Div.B15 : List Nat := [0, 1, 0, 7, 15, 0, 32, 127, 255, 511, 511, 0, 3071, 8191]
theorem soft_Div.tab15 : rtab .any (opsOf Try.f27 15) = soft_Div.T15 := by kernel_rfl
theorem soft_Div.bits15 : waitsOk soft_Div.T15.2 soft_Div.B15 = true := by kernel_rfl
set_option maxHeartbeats 8000000 in
set_option maxRecDepth 100000 in
theorem soft_Div.calls (k : Nat) (a0 : Int) (a1 : Int) (a2 : Int) (r1 : Int) (r2 : Int) (w : World) (h : soft_Div.f k a0 a1 a2 = some (r1, r2)) :
  Calls Try.prog 27 #[.int .u64 a0, .int .u64 a1, .int .u8 a2] w fun e w' => e = .returned (.tuple #[.int .u64 r1, .int .u8 r2]) ∧ Below w.heap.size w w' := by
 have hu88 := Try.underlying88
 have hu109 := Try.underlying109
 have HB := Aside0.mk (Below.refl w.heap.size w)
 have H : ((soft_of.f k a0).bind fun bt262 => ((soft_of.f k a1).bind fun bt267 => ((soft_either.f bt262.1 bt262.2.1 bt262.2.2.1 bt262.2.2.2.1 bt262.2.2.2.2 bt267.1 bt267.2.1 bt267.2.2.1 bt267.2.2.2.1 bt267.2.2.2.2 4).bind fun t274 => (if t274 = true then ((pattern_Quiet.f).bind fun t275 => (some (t275, 0))) else (if bt262.2.1 = bt267.2.1 then (if bt262.2.1 = 3 then (soft_Div.j0 k a2 (bt262.2.2.1 != bt267.2.2.1) true bt262.1 bt262.2.1 bt262.2.2.1 bt262.2.2.2.1 bt262.2.2.2.2 bt267.1 bt267.2.1 bt267.2.2.1 bt267.2.2.2.1 bt267.2.2.2.2) else (soft_Div.j0 k a2 (bt262.2.2.1 != bt267.2.2.1) (bt262.2.1 == 0) bt262.1 bt262.2.1 bt262.2.2.1 bt262.2.2.2.1 bt262.2.2.2.2 bt267.1 bt267.2.1 bt267.2.2.1 bt267.2.2.2.1 bt267.2.2.2.2)) else (soft_Div.j0 k a2 (bt262.2.2.1 != bt267.2.2.1) false bt262.1 bt262.2.1 bt262.2.2.1 bt262.2.2.2.1 bt262.2.2.2.2 bt267.1 bt267.2.1 bt267.2.2.1 bt267.2.2.2.1 bt267.2.2.2.2)))))) = some (r1, r2) := h
 clear h
 obtain ⟨⟨t262, t263, t264, t265, t266⟩, A4, H⟩ := zbs H
 try dsimp only at H
 obtain ⟨⟨t267, t268, t269, t270, t271⟩, A5, H⟩ := zbs H
 try dsimp only at H
 obtain ⟨t274, A6, H⟩ := zbs H
 try dsimp only at H
 by_cases c7 : t274 = true
 ·subst c7
  have H1 : ((pattern_Quiet.f).bind fun t275 => (some (t275, 0))) = some (r1, r2) := by rw [if_pos rfl] at H; exact H
  clear H
  have H := H1
  clear H1
  obtain ⟨t275, A8, H⟩ := zbs H
  try dsimp only at H
  simp only [Option.some.injEq, Prod.mk.injEq] at H
  obtain ⟨rfl, rfl⟩ := H
  go_enter Try.func27, Try.ntmps27
  go_wp2_with (first | ((with_reducible refine gate_callee (f := 82) rfl ?_); refine zgL 15 Try.func82 (soft_of.calls k a0 t262 t263 t264 t265 t266 _ A4.out) (h := ?_); rintro w9 hb; replace HB := Aside0.mk (below_step zaB hb); (try clear hb)) | ((with_reducible refine gate_callee (f := 82) rfl ?_); refine zgL 17 Try.func82 (soft_of.calls k a1 t267 t268 t269 t270 t271 _ A5.out) (h := ?_); rintro w10 hb; replace HB := Aside0.mk (below_step zaB hb); (try clear hb)) | ((with_reducible refine gate_dst (N := 8) rfl ?_); refine zbx 8 #[.int .u64 0, .int .u8 0, .bool false, .int .u64 0, .int .i64 0] 88 (h := ?_); intro gb272 hg w11 hbox hb; have GW272 := zkZ hg (zaB (p := Below w.heap.size w _)); have GE272 := GW272; replace HB := Aside0.mk (below_step zaB hb); have BK272 := Aside0.mk (hbox); clear hb hbox hg) | ((with_reducible refine gate_dst (N := 9) rfl ?_); refine zbx 9 #[.int .u64 0, .int .u8 0, .bool false, .int .u64 0, .int .i64 0] 88 (h := ?_); intro gb273 hg w12 hbox hb; have GW273 := zkz HB hg; have GE273 := GW273; have NB272_273 := zkl BK272 hg; have NB273_272 := zkr BK272 hg; replace BK272 := zkb BK272 hb; replace HB := zkB HB hb; have BK273 := Aside0.mk (hbox); clear hb hbox hg; have hnb13 := NB272_273.out; have hnc13 := NB273_272.out; have hcz14_0 := zc0 BK272; have hcz14_1 := zc1 BK272; have hcz14_2 := zc2 BK272; have hcz14_3 := zc3 BK272; have hcz14_4 := zc4 BK272; have hfz14_0 := blk_frozen BK272.out 0; have hfz14_1 := blk_frozen BK272.out 1; have hfz14_2 := blk_frozen BK272.out 2; have hfz14_3 := blk_frozen BK272.out 3; have hfz14_4 := blk_frozen BK272.out 4; have hcz15_0 := zc0 BK273; have hcz15_1 := zc1 BK273; have hcz15_2 := zc2 BK273; have hcz15_3 := zc3 BK273; have hcz15_4 := zc4 BK273; have hfz15_0 := blk_frozen BK273.out 0; have hfz15_1 := blk_frozen BK273.out 1; have hfz15_2 := blk_frozen BK273.out 2; have hfz15_3 := blk_frozen BK273.out 3; have hfz15_4 := blk_frozen BK273.out 4) | ((with_reducible refine gate_callee (f := 83) rfl ?_); refine zgL 26 Try.func83 (soft_either.calls t262 t263 t264 t265 t266 t267 t268 t269 t270 t271 4 true _ A6.out) (h := ?_); rintro w16 hb; replace BK272 := Aside0.mk (blk_below (o := .cells #[.int .u64 t262, .int .u8 t263, .bool t264, .int .u64 t265, .int .i64 t266] 88 (0, 0)) (zkf (zkf (zkf (zkf (zkf (blk_put (cs := #[.int .u64 t262, .int .u8 t263, .bool t264, .int .u64 t265, .int .i64 0]) (blk_put (cs := #[.int .u64 t262, .int .u8 t263, .bool t264, .int .u64 0, .int .i64 0]) (blk_put (cs := #[.int .u64 t262, .int .u8 t263, .bool false, .int .u64 0, .int .i64 0]) (blk_put (cs := #[.int .u64 t262, .int .u8 0, .bool false, .int .u64 0, .int .i64 0]) (blk_put BK272.out 0 _ rfl) 1 _ rfl) 2 _ rfl) 3 _ rfl) 4 _ rfl) NB272_273.out _) NB272_273.out _) NB272_273.out _) NB272_273.out _) NB272_273.out _) hb); replace BK273 := Aside0.mk (blk_below (o := .cells #[.int .u64 t267, .int .u8 t268, .bool t269, .int .u64 t270, .int .i64 t271] 88 (0, 0)) (blk_put (cs := #[.int .u64 t267, .int .u8 t268, .bool t269, .int .u64 t270, .int .i64 0]) (blk_put (cs := #[.int .u64 t267, .int .u8 t268, .bool t269, .int .u64 0, .int .i64 0]) (blk_put (cs := #[.int .u64 t267, .int .u8 t268, .bool false, .int .u64 0, .int .i64 0]) (blk_put (cs := #[.int .u64 t267, .int .u8 0, .bool false, .int .u64 0, .int .i64 0]) (blk_put (zkf (zkf (zkf (zkf (zkf BK273.out NB273_272.out _) NB273_272.out _) NB273_272.out _) NB273_272.out _) NB273_272.out _) 0 _ rfl) 1 _ rfl) 2 _ rfl) 3 _ rfl) 4 _ rfl) hb); replace HB := Aside0.mk (below_step (below_set (below_set (below_set (below_set (below_set (below_set (below_set (below_set (below_set (below_set HB.out GE272.out) GE272.out) GE272.out) GE272.out) GE272.out) GE273.out) GE273.out) GE273.out) GE273.out) GE273.out) hb); (try clear hb)) | ((with_reducible refine gate_callee (f := 81) rfl ?_); refine zgL 27 Try.func81 (pattern_Quiet.calls  t275 _ A8.out) (h := ?_); rintro w' ⟨nd, rfl⟩))
  go_ret2
  exact ⟨zaE, zaB⟩
 ·replace c7 := Bool.eq_false_iff.mpr c7
  subst c7
  have H1 : (if t263 = t268 then (if t263 = 3 then (soft_Div.j0 k a2 (t264 != t269) true t262 t263 t264 t265 t266 t267 t268 t269 t270 t271) else (soft_Div.j0 k a2 (t264 != t269) (t263 == 0) t262 t263 t264 t265 t266 t267 t268 t269 t270 t271)) else (soft_Div.j0 k a2 (t264 != t269) false t262 t263 t264 t265 t266 t267 t268 t269 t270 t271)) = some (r1, r2) := by rw [if_neg (show ¬ (false = true) by decide)] at H; exact H
  clear H
  have H := H1
  clear H1
  have HC17 := Aside0.mk H
  clear H
  go_enter Try.func27, Try.ntmps27
  go_upto_region 5 with (first | ((with_reducible refine gate_callee (f := 82) rfl ?_); refine zgL 15 Try.func82 (soft_of.calls k a0 t262 t263 t264 t265 t266 _ A4.out) (h := ?_); rintro w18 hb; replace HB := Aside0.mk (below_step zaB hb); (try clear hb)) | ((with_reducible refine gate_callee (f := 82) rfl ?_); refine zgL 17 Try.func82 (soft_of.calls k a1 t267 t268 t269 t270 t271 _ A5.out) (h := ?_); rintro w19 hb; replace HB := Aside0.mk (below_step zaB hb); (try clear hb)) | ((with_reducible refine gate_dst (N := 8) rfl ?_); refine zbx 8 #[.int .u64 0, .int .u8 0, .bool false, .int .u64 0, .int .i64 0] 88 (h := ?_); intro gb272 hg w20 hbox hb; have GW272 := zkZ hg (zaB (p := Below w.heap.size w _)); have GE272 := GW272; replace HB := Aside0.mk (below_step zaB hb); have BK272 := Aside0.mk (hbox); clear hb hbox hg) | ((with_reducible refine gate_dst (N := 9) rfl ?_); refine zbx 9 #[.int .u64 0, .int .u8 0, .bool false, .int .u64 0, .int .i64 0] 88 (h := ?_); intro gb273 hg w21 hbox hb; have GW273 := zkz HB hg; have GE273 := GW273; have NB272_273 := zkl BK272 hg; have NB273_272 := zkr BK272 hg; replace BK272 := zkb BK272 hb; replace HB := zkB HB hb; have BK273 := Aside0.mk (hbox); clear hb hbox hg; have hnb22 := NB272_273.out; have hnc22 := NB273_272.out; have hcz23_0 := zc0 BK272; have hcz23_1 := zc1 BK272; have hcz23_2 := zc2 BK272; have hcz23_3 := zc3 BK272; have hcz23_4 := zc4 BK272; have hfz23_0 := blk_frozen BK272.out 0; have hfz23_1 := blk_frozen BK272.out 1; have hfz23_2 := blk_frozen BK272.out 2; have hfz23_3 := blk_frozen BK272.out 3; have hfz23_4 := blk_frozen BK272.out 4; have hcz24_0 := zc0 BK273; have hcz24_1 := zc1 BK273; have hcz24_2 := zc2 BK273; have hcz24_3 := zc3 BK273; have hcz24_4 := zc4 BK273; have hfz24_0 := blk_frozen BK273.out 0; have hfz24_1 := blk_frozen BK273.out 1; have hfz24_2 := blk_frozen BK273.out 2; have hfz24_3 := blk_frozen BK273.out 3; have hfz24_4 := blk_frozen BK273.out 4) | ((with_reducible refine gate_callee (f := 83) rfl ?_); refine zgL 26 Try.func83 (soft_either.calls t262 t263 t264 t265 t266 t267 t268 t269 t270 t271 4 false _ A6.out) (h := ?_); rintro w25 hb; replace BK272 := Aside0.mk (blk_below (o := .cells #[.int .u64 t262, .int .u8 t263, .bool t264, .int .u64 t265, .int .i64 t266] 88 (0, 0)) (zkf (zkf (zkf (zkf (zkf (blk_put (cs := #[.int .u64 t262, .int .u8 t263, .bool t264, .int .u64 t265, .int .i64 0]) (blk_put (cs := #[.int .u64 t262, .int .u8 t263, .bool t264, .int .u64 0, .int .i64 0]) (blk_put (cs := #[.int .u64 t262, .int .u8 t263, .bool false, .int .u64 0, .int .i64 0]) (blk_put (cs := #[.int .u64 t262, .int .u8 0, .bool false, .int .u64 0, .int .i64 0]) (blk_put BK272.out 0 _ rfl) 1 _ rfl) 2 _ rfl) 3 _ rfl) 4 _ rfl) NB272_273.out _) NB272_273.out _) NB272_273.out _) NB272_273.out _) NB272_273.out _) hb); replace BK273 := Aside0.mk (blk_below (o := .cells #[.int .u64 t267, .int .u8 t268, .bool t269, .int .u64 t270, .int .i64 t271] 88 (0, 0)) (blk_put (cs := #[.int .u64 t267, .int .u8 t268, .bool t269, .int .u64 t270, .int .i64 0]) (blk_put (cs := #[.int .u64 t267, .int .u8 t268, .bool t269, .int .u64 0, .int .i64 0]) (blk_put (cs := #[.int .u64 t267, .int .u8 t268, .bool false, .int .u64 0, .int .i64 0]) (blk_put (cs := #[.int .u64 t267, .int .u8 0, .bool false, .int .u64 0, .int .i64 0]) (blk_put (zkf (zkf (zkf (zkf (zkf BK273.out NB273_272.out _) NB273_272.out _) NB273_272.out _) NB273_272.out _) NB273_272.out _) 0 _ rfl) 1 _ rfl) 2 _ rfl) 3 _ rfl) 4 _ rfl) hb); replace HB := Aside0.mk (below_step (below_set (below_set (below_set (below_set (below_set (below_set (below_set (below_set (below_set (below_set HB.out GE272.out) GE272.out) GE272.out) GE272.out) GE272.out) GE273.out) GE273.out) GE273.out) GE273.out) GE273.out) hb); (try clear hb)))
  (try simp only [Act.put, List.setIfInBounds_toArray, List.set_cons_zero, List.set_cons_succ])
  go_cut [28] (fun v28 wc => ∃ (kq : Nat) (x28_16 : Bool), v28 = .bool x28_16 ∧ Aside0 (soft_Div.j0 kq a2 (t264 != t269) x28_16 t262 t263 t264 t265 t266 t267 t268 t269 t270 t271 = some (r1, r2)) ∧ Aside0 (kq ≤ k) ∧ Aside0 (wc.heap[gb272]? = some (.cells #[.int .u64 t262, .int .u8 t263, .bool t264, .int .u64 t265, .int .i64 t266] 88 (0, 0))) ∧ Aside0 (wc.heap[gb273]? = some (.cells #[.int .u64 t267, .int .u8 t268, .bool t269, .int .u64 t270, .int .i64 t271] 88 (0, 0))) ∧ Aside0 (Below w.heap.size w wc))
  case first =>
   have H := HC17.out
   clear HC17
   by_cases c26 : t263 = t268
   ·rw [if_pos c26] at H
    have c26b0 : (t263 == t268) = true := beq_iff_eq.mpr c26
    have c26b1 : (t263 != t268) = false := bne_eq_false_iff_eq.mpr c26
    clear c26
    (first | rw [c26b0] | (simp only [i64_w, i32_w]; rw [c26b0]) | skip)
    by_cases c27 : t263 = 3
    ·rw [if_pos c27] at H
     have c27b0 : (t263 == 3) = true := beq_iff_eq.mpr c27
     have c27b1 : (t263 != 3) = false := bne_eq_false_iff_eq.mpr c27
     clear c27
     have H' := Aside0.mk H
     clear H
     have hnb28 := NB272_273.out
     have hnc28 := NB273_272.out
     have hcz29_0 := zc0 BK272
     have hcz29_1 := zc1 BK272
     have hcz29_2 := zc2 BK272
     have hcz29_3 := zc3 BK272
     have hcz29_4 := zc4 BK272
     have hfz29_0 := blk_frozen BK272.out 0
     have hfz29_1 := blk_frozen BK272.out 1
     have hfz29_2 := blk_frozen BK272.out 2
     have hfz29_3 := blk_frozen BK272.out 3
     have hfz29_4 := blk_frozen BK272.out 4
     have hcz30_0 := zc0 BK273
     have hcz30_1 := zc1 BK273
     have hcz30_2 := zc2 BK273
     have hcz30_3 := zc3 BK273
     have hcz30_4 := zc4 BK273
     have hfz30_0 := blk_frozen BK273.out 0
     have hfz30_1 := blk_frozen BK273.out 1
     have hfz30_2 := blk_frozen BK273.out 2
     have hfz30_3 := blk_frozen BK273.out 3
     have hfz30_4 := blk_frozen BK273.out 4
     go_wp2
     go_meet
     case rel => exact ⟨_, (true), (by first | rfl | (simp; done) | (simp [*]; done)), H', ⟨by first | omega | exact Nat.le_refl _⟩, ⟨(zkq BK272)⟩, ⟨(zkq BK273)⟩, ⟨zaB⟩⟩
    ·rw [if_neg c27] at H
     have c27b0 : (t263 == 3) = false := beq_eq_false_iff_ne.mpr c27
     have c27b1 : (t263 != 3) = true := bne_iff_ne.mpr c27
     have H' := Aside0.mk H
     clear H
     have hnb31 := NB272_273.out
     have hnc31 := NB273_272.out
     have hcz32_0 := zc0 BK272
     have hcz32_1 := zc1 BK272
     have hcz32_2 := zc2 BK272
     have hcz32_3 := zc3 BK272
     have hcz32_4 := zc4 BK272
     have hfz32_0 := blk_frozen BK272.out 0
     have hfz32_1 := blk_frozen BK272.out 1
     have hfz32_2 := blk_frozen BK272.out 2
     have hfz32_3 := blk_frozen BK272.out 3
     have hfz32_4 := blk_frozen BK272.out 4
     have hcz33_0 := zc0 BK273
     have hcz33_1 := zc1 BK273
     have hcz33_2 := zc2 BK273
     have hcz33_3 := zc3 BK273
     have hcz33_4 := zc4 BK273
     have hfz33_0 := blk_frozen BK273.out 0
     have hfz33_1 := blk_frozen BK273.out 1
     have hfz33_2 := blk_frozen BK273.out 2
     have hfz33_3 := blk_frozen BK273.out 3
     have hfz33_4 := blk_frozen BK273.out 4
     go_wp2
     go_meet
     case rel => exact ⟨_, ((t263 == 0)), (by first | rfl | (simp; done) | (simp [*]; done)), H', ⟨by first | omega | exact Nat.le_refl _⟩, ⟨(zkq BK272)⟩, ⟨(zkq BK273)⟩, ⟨zaB⟩⟩
   ·rw [if_neg c26] at H
    have c26b0 : (t263 == t268) = false := beq_eq_false_iff_ne.mpr c26
    have c26b1 : (t263 != t268) = true := bne_iff_ne.mpr c26
    (first | rw [c26b0] | (simp only [i64_w, i32_w]; rw [c26b0]) | skip)
    have H' := Aside0.mk H
    clear H
    have hnb34 := NB272_273.out
    have hnc34 := NB273_272.out
    have hcz35_0 := zc0 BK272
    have hcz35_1 := zc1 BK272
    have hcz35_2 := zc2 BK272
    have hcz35_3 := zc3 BK272
    have hcz35_4 := zc4 BK272
    have hfz35_0 := blk_frozen BK272.out 0
    have hfz35_1 := blk_frozen BK272.out 1
    have hfz35_2 := blk_frozen BK272.out 2
    have hfz35_3 := blk_frozen BK272.out 3
    have hfz35_4 := blk_frozen BK272.out 4
    have hcz36_0 := zc0 BK273
    have hcz36_1 := zc1 BK273
    have hcz36_2 := zc2 BK273
    have hcz36_3 := zc3 BK273
    have hcz36_4 := zc4 BK273
    have hfz36_0 := blk_frozen BK273.out 0
    have hfz36_1 := blk_frozen BK273.out 1
    have hfz36_2 := blk_frozen BK273.out 2
    have hfz36_3 := blk_frozen BK273.out 3
    have hfz36_4 := blk_frozen BK273.out 4
    go_wp2
    go_meet
    case rel => exact ⟨_, (false), (by first | rfl | (simp; done) | (simp [*]; done)), H', ⟨by first | omega | exact Nat.le_refl _⟩, ⟨(zkq BK272)⟩, ⟨(zkq BK273)⟩, ⟨zaB⟩⟩
  case rest =>
   clear HC17
   try clear c1
   try clear c2
   try clear p2
   try clear c3
   try clear c7
   try clear c8
   try clear c13
   try clear c22
   try clear c26
   try clear c26b0
   try clear c26b1
   try clear c27
   try clear c27b0
   try clear c27b1
   try clear c28
   try clear c31
   try clear c34
   try clear hcz14_0
   try clear hcz14_1
   try clear hcz14_2
   try clear hcz14_3
   try clear hcz14_4
   try clear hcz15_0
   try clear hcz15_1
   try clear hcz15_2
   try clear hcz15_3
   try clear hcz15_4
   try clear hcz23_0
   try clear hcz23_1
   try clear hcz23_2
   try clear hcz23_3
   try clear hcz23_4
   try clear hcz24_0
   try clear hcz24_1
   try clear hcz24_2
   try clear hcz24_3
   try clear hcz24_4
   try clear hcz29_0
   try clear hcz29_1
   try clear hcz29_2
   try clear hcz29_3
   try clear hcz29_4
   try clear hcz30_0
   try clear hcz30_1
   try clear hcz30_2
   try clear hcz30_3
   try clear hcz30_4
   try clear hcz32_0
   try clear hcz32_1
   try clear hcz32_2
   try clear hcz32_3
   try clear hcz32_4
   try clear hcz33_0
   try clear hcz33_1
   try clear hcz33_2
   try clear hcz33_3
   try clear hcz33_4
   try clear hcz35_0
   try clear hcz35_1
   try clear hcz35_2
   try clear hcz35_3
   try clear hcz35_4
   try clear hcz36_0
   try clear hcz36_1
   try clear hcz36_2
   try clear hcz36_3
   try clear hcz36_4
   try clear hfz14_0
   try clear hfz14_1
   try clear hfz14_2
   try clear hfz14_3
   try clear hfz14_4
   try clear hfz15_0
   try clear hfz15_1
   try clear hfz15_2
   try clear hfz15_3
   try clear hfz15_4
   try clear hfz23_0
   try clear hfz23_1
   try clear hfz23_2
   try clear hfz23_3
   try clear hfz23_4
   try clear hfz24_0
   try clear hfz24_1
   try clear hfz24_2
   try clear hfz24_3
   try clear hfz24_4
   try clear hfz29_0
   try clear hfz29_1
   try clear hfz29_2
   try clear hfz29_3
   try clear hfz29_4
   try clear hfz30_0
   try clear hfz30_1
   try clear hfz30_2
   try clear hfz30_3
   try clear hfz30_4
   try clear hfz32_0
   try clear hfz32_1
   try clear hfz32_2
   try clear hfz32_3
   try clear hfz32_4
   try clear hfz33_0
   try clear hfz33_1
   try clear hfz33_2
   try clear hfz33_3
   try clear hfz33_4
   try clear hfz35_0
   try clear hfz35_1
   try clear hfz35_2
   try clear hfz35_3
   try clear hfz35_4
   try clear hfz36_0
   try clear hfz36_1
   try clear hfz36_2
   try clear hfz36_3
   try clear hfz36_4
   obtain ⟨kq, x28_16, rfl, HA, HJ16, BK272, BK273, HB⟩ := hcut
   cases kq with
   | zero => exact absurd HA.out (by simp [soft_Div.j0])
   | succ kj16 =>
    have H := HA.out
    clear HA
    simp only [soft_Div.j0] at H
    by_cases c37 : x28_16 = true
    ·subst c37
     have H1 : ((soft_invalid.f).bind fun bt276 => (some (bt276.1, bt276.2))) = some (r1, r2) := by rw [if_pos rfl] at H; exact H
     clear H
     have H := H1
     clear H1
     obtain ⟨⟨t276, t277⟩, A38, H⟩ := zbs H
     try dsimp only at H
     simp only [Option.some.injEq, Prod.mk.injEq] at H
     obtain ⟨rfl, rfl⟩ := H
     go_wp2_with (first | ((with_reducible refine gate_callee (f := 84) rfl ?_); refine zgL 44 Try.func84 (soft_invalid.calls  t276 t277 _ A38.out) (h := ?_); rintro w' ⟨nd, rfl⟩))
     go_ret2
     exact ⟨zaE, zaB⟩
    ·replace c37 := Bool.eq_false_iff.mpr c37
     subst c37
     have H1 : (if t263 = 3 then ((pattern_Inf.f kj16 (t264 != t269)).bind fun t278 => (some (t278, 0))) else (if t268 = 0 then ((pattern_Inf.f kj16 (t264 != t269)).bind fun t279 => (some (t279, 8))) else (if t263 = 0 then (soft_Div.j1 kj16 a2 (t264 != t269) (t263 == 0) t262 t263 t264 t265 t266 t267 t268 t269 t270 t271) else (soft_Div.j1 kj16 a2 (t264 != t269) (t268 == 3) t262 t263 t264 t265 t266 t267 t268 t269 t270 t271)))) = some (r1, r2) := by rw [if_neg (show ¬ (false = true) by decide)] at H; exact H
     clear H
     have H := H1
     clear H1
     by_cases c39 : t263 = 3
     ·rw [if_pos c39] at H
      have c39b0 : (t263 == 3) = true := beq_iff_eq.mpr c39
      have c39b1 : (t263 != 3) = false := bne_eq_false_iff_eq.mpr c39
      clear c39
      obtain ⟨t278, A40, H⟩ := zbs H
      try dsimp only at H
      simp only [Option.some.injEq, Prod.mk.injEq] at H
      obtain ⟨rfl, rfl⟩ := H
      have hnb41 := NB272_273.out
      have hnc41 := NB273_272.out
      have hcz42_0 := zc0 BK272
      have hcz42_1 := zc1 BK272
      have hcz42_2 := zc2 BK272
      have hcz42_3 := zc3 BK272
      have hcz42_4 := zc4 BK272
      have hfz42_0 := blk_frozen BK272.out 0
      have hfz42_1 := blk_frozen BK272.out 1
      have hfz42_2 := blk_frozen BK272.out 2
      have hfz42_3 := blk_frozen BK272.out 3
      have hfz42_4 := blk_frozen BK272.out 4
      go_wp2_with (first | ((with_reducible refine gate_callee (f := 79) rfl ?_); refine zgL 52 Try.func79 (pattern_Inf.calls kj16 (t264 != t269) t278 _ A40.out) (h := ?_); rintro w' ⟨nd, rfl⟩))
      go_ret2
      exact ⟨zaE, zaB⟩
     ·rw [if_neg c39] at H
      have c39b0 : (t263 == 3) = false := beq_eq_false_iff_ne.mpr c39
      have c39b1 : (t263 != 3) = true := bne_iff_ne.mpr c39
      by_cases c43 : t268 = 0
      ·rw [if_pos c43] at H
       have c43b0 : (t268 == 0) = true := beq_iff_eq.mpr c43
       have c43b1 : (t268 != 0) = false := bne_eq_false_iff_eq.mpr c43
       clear c43
       obtain ⟨t279, A44, H⟩ := zbs H
       try dsimp only at H
       simp only [Option.some.injEq, Prod.mk.injEq] at H
       obtain ⟨rfl, rfl⟩ := H
       have hnb45 := NB272_273.out
       have hnc45 := NB273_272.out
       have hcz46_0 := zc0 BK272
       have hcz46_1 := zc1 BK272
       have hcz46_2 := zc2 BK272
       have hcz46_3 := zc3 BK272
       have hcz46_4 := zc4 BK272
       have hfz46_0 := blk_frozen BK272.out 0
       have hfz46_1 := blk_frozen BK272.out 1
       have hfz46_2 := blk_frozen BK272.out 2
       have hfz46_3 := blk_frozen BK272.out 3
       have hfz46_4 := blk_frozen BK272.out 4
       have hcz47_0 := zc0 BK273
       have hcz47_1 := zc1 BK273
       have hcz47_2 := zc2 BK273
       have hcz47_3 := zc3 BK273
       have hcz47_4 := zc4 BK273
       have hfz47_0 := blk_frozen BK273.out 0
       have hfz47_1 := blk_frozen BK273.out 1
       have hfz47_2 := blk_frozen BK273.out 2
       have hfz47_3 := blk_frozen BK273.out 3
       have hfz47_4 := blk_frozen BK273.out 4
       go_wp2_with (first | ((with_reducible refine gate_callee (f := 79) rfl ?_); refine zgL 58 Try.func79 (pattern_Inf.calls kj16 (t264 != t269) t279 _ A44.out) (h := ?_); rintro w' ⟨nd, rfl⟩))
       go_ret2
       exact ⟨zaE, zaB⟩
      ·rw [if_neg c43] at H
       have c43b0 : (t268 == 0) = false := beq_eq_false_iff_ne.mpr c43
       have c43b1 : (t268 != 0) = true := bne_iff_ne.mpr c43
       have HC48 := Aside0.mk H
       clear H
       have hnb49 := NB272_273.out
       have hnc49 := NB273_272.out
       have hcz50_0 := zc0 BK272
       have hcz50_1 := zc1 BK272
       have hcz50_2 := zc2 BK272
       have hcz50_3 := zc3 BK272
       have hcz50_4 := zc4 BK272
       have hfz50_0 := blk_frozen BK272.out 0
       have hfz50_1 := blk_frozen BK272.out 1
       have hfz50_2 := blk_frozen BK272.out 2
       have hfz50_3 := blk_frozen BK272.out 3
       have hfz50_4 := blk_frozen BK272.out 4
       have hcz51_0 := zc0 BK273
       have hcz51_1 := zc1 BK273
       have hcz51_2 := zc2 BK273
       have hcz51_3 := zc3 BK273
       have hcz51_4 := zc4 BK273
       have hfz51_0 := blk_frozen BK273.out 0
       have hfz51_1 := blk_frozen BK273.out 1
       have hfz51_2 := blk_frozen BK273.out 2
       have hfz51_3 := blk_frozen BK273.out 3
       have hfz51_4 := blk_frozen BK273.out 4
       go_upto_if 59 with (fail)
       go_cut [59] (fun v59 wc => ∃ (kq : Nat) (x59_47 : Bool), v59 = .bool x59_47 ∧ Aside0 (soft_Div.j1 kq a2 (t264 != t269) x59_47 t262 t263 t264 t265 t266 t267 t268 t269 t270 t271 = some (r1, r2)) ∧ Aside0 (kq ≤ kj16) ∧ Aside0 (wc.heap[gb272]? = some (.cells #[.int .u64 t262, .int .u8 t263, .bool t264, .int .u64 t265, .int .i64 t266] 88 (0, 0))) ∧ Aside0 (wc.heap[gb273]? = some (.cells #[.int .u64 t267, .int .u8 t268, .bool t269, .int .u64 t270, .int .i64 t271] 88 (0, 0))) ∧ Aside0 (Below w.heap.size w wc))
       case first =>
        have H := HC48.out
        clear HC48
        by_cases c52 : t263 = 0
        ·rw [if_pos c52] at H
         have c52b0 : (t263 == 0) = true := beq_iff_eq.mpr c52
         have c52b1 : (t263 != 0) = false := bne_eq_false_iff_eq.mpr c52
         clear c52
         (first | rw [c52b0] | (simp only [i64_w, i32_w]; rw [c52b0]) | skip)
         have H' := Aside0.mk H
         clear H
         go_wp2
         go_meet
         case rel => exact ⟨_, ((t263 == 0)), (by first | rfl | (simp; done) | (simp [*]; done)), H', ⟨by have := HJ16.out; first | omega | exact Nat.le_refl _⟩, ⟨(zkq BK272)⟩, ⟨(zkq BK273)⟩, ⟨zaB⟩⟩
        ·rw [if_neg c52] at H
         have c52b0 : (t263 == 0) = false := beq_eq_false_iff_ne.mpr c52
         have c52b1 : (t263 != 0) = true := bne_iff_ne.mpr c52
         (first | rw [c52b0] | (simp only [i64_w, i32_w]; rw [c52b0]) | skip)
         have H' := Aside0.mk H
         clear H
         have hnb53 := NB273_272.out
         have hnc53 := NB272_273.out
         have hcz54_0 := zc0 BK273
         have hcz54_1 := zc1 BK273
         have hcz54_2 := zc2 BK273
         have hcz54_3 := zc3 BK273
         have hcz54_4 := zc4 BK273
         have hfz54_0 := blk_frozen BK273.out 0
         have hfz54_1 := blk_frozen BK273.out 1
         have hfz54_2 := blk_frozen BK273.out 2
         have hfz54_3 := blk_frozen BK273.out 3
         have hfz54_4 := blk_frozen BK273.out 4
         go_wp2
         go_meet
         case rel => exact ⟨_, ((t268 == 3)), (by first | rfl | (simp; done) | (simp [*]; done)), H', ⟨by have := HJ16.out; first | omega | exact Nat.le_refl _⟩, ⟨(zkq BK272)⟩, ⟨(zkq BK273)⟩, ⟨zaB⟩⟩
       case rest =>
        clear HC48
        try clear c1
        try clear c2
        try clear p2
        try clear c3
        try clear c4
        try clear c5
        try clear c7
        try clear c8
        try clear c13
        try clear c22
        try clear c26
        try clear c26b0
        try clear c26b1
        try clear c27
        try clear c27b0
        try clear c27b1
        try clear c28
        try clear c31
        try clear c34
        try clear c37
        try clear c39
        try clear c39b0
        try clear c39b1
        try clear c41
        try clear c43
        try clear c43b0
        try clear c43b1
        try clear c45
        try clear c49
        try clear c52
        try clear c52b0
        try clear c52b1
        try clear c53
        try clear hcz14_0
        try clear hcz14_1
        try clear hcz14_2
        try clear hcz14_3
        try clear hcz14_4
        try clear hcz15_0
        try clear hcz15_1
        try clear hcz15_2
        try clear hcz15_3
        try clear hcz15_4
        try clear hcz23_0
        try clear hcz23_1
        try clear hcz23_2
        try clear hcz23_3
        try clear hcz23_4
        try clear hcz24_0
        try clear hcz24_1
        try clear hcz24_2
        try clear hcz24_3
        try clear hcz24_4
        try clear hcz29_0
        try clear hcz29_1
        try clear hcz29_2
        try clear hcz29_3
        try clear hcz29_4
        try clear hcz30_0
        try clear hcz30_1
        try clear hcz30_2
        try clear hcz30_3
        try clear hcz30_4
        try clear hcz32_0
        try clear hcz32_1
        try clear hcz32_2
        try clear hcz32_3
        try clear hcz32_4
        try clear hcz33_0
        try clear hcz33_1
        try clear hcz33_2
        try clear hcz33_3
        try clear hcz33_4
        try clear hcz35_0
        try clear hcz35_1
        try clear hcz35_2
        try clear hcz35_3
        try clear hcz35_4
        try clear hcz36_0
        try clear hcz36_1
        try clear hcz36_2
        try clear hcz36_3
        try clear hcz36_4
        try clear hcz42_0
        try clear hcz42_1
        try clear hcz42_2
        try clear hcz42_3
        try clear hcz42_4
        try clear hcz46_0
        try clear hcz46_1
        try clear hcz46_2
        try clear hcz46_3
        try clear hcz46_4
        try clear hcz47_0
        try clear hcz47_1
        try clear hcz47_2
        try clear hcz47_3
        try clear hcz47_4
        try clear hcz50_0
        try clear hcz50_1
        try clear hcz50_2
        try clear hcz50_3
        try clear hcz50_4
        try clear hcz51_0
        try clear hcz51_1
        try clear hcz51_2
        try clear hcz51_3
        try clear hcz51_4
        try clear hcz54_0
        try clear hcz54_1
        try clear hcz54_2
        try clear hcz54_3
        try clear hcz54_4
        try clear hfz14_0
        try clear hfz14_1
        try clear hfz14_2
        try clear hfz14_3
        try clear hfz14_4
        try clear hfz15_0
        try clear hfz15_1
        try clear hfz15_2
        try clear hfz15_3
        try clear hfz15_4
        try clear hfz23_0
        try clear hfz23_1
        try clear hfz23_2
        try clear hfz23_3
        try clear hfz23_4
        try clear hfz24_0
        try clear hfz24_1
        try clear hfz24_2
        try clear hfz24_3
        try clear hfz24_4
        try clear hfz29_0
        try clear hfz29_1
        try clear hfz29_2
        try clear hfz29_3
        try clear hfz29_4
        try clear hfz30_0
        try clear hfz30_1
        try clear hfz30_2
        try clear hfz30_3
        try clear hfz30_4
        try clear hfz32_0
        try clear hfz32_1
        try clear hfz32_2
        try clear hfz32_3
        try clear hfz32_4
        try clear hfz33_0
        try clear hfz33_1
        try clear hfz33_2
        try clear hfz33_3
        try clear hfz33_4
        try clear hfz35_0
        try clear hfz35_1
        try clear hfz35_2
        try clear hfz35_3
        try clear hfz35_4
        try clear hfz36_0
        try clear hfz36_1
        try clear hfz36_2
        try clear hfz36_3
        try clear hfz36_4
        try clear hfz42_0
        try clear hfz42_1
        try clear hfz42_2
        try clear hfz42_3
        try clear hfz42_4
        try clear hfz46_0
        try clear hfz46_1
        try clear hfz46_2
        try clear hfz46_3
        try clear hfz46_4
        try clear hfz47_0
        try clear hfz47_1
        try clear hfz47_2
        try clear hfz47_3
        try clear hfz47_4
        try clear hfz50_0
        try clear hfz50_1
        try clear hfz50_2
        try clear hfz50_3
        try clear hfz50_4
        try clear hfz51_0
        try clear hfz51_1
        try clear hfz51_2
        try clear hfz51_3
        try clear hfz51_4
        try clear hfz54_0
        try clear hfz54_1
        try clear hfz54_2
        try clear hfz54_3
        try clear hfz54_4
        try clear p2
        obtain ⟨kq, x59_47, rfl, HA, HJ47, BK272, BK273, HB⟩ := hcut
        cases kq with
        | zero => exact absurd HA.out (by simp [soft_Div.j1])
        | succ kj47 =>
         have H := HA.out
         clear HA
         simp only [soft_Div.j1] at H
         by_cases c55 : x59_47 = true
         ·subst c55
          have H1 : ((soft_zero.f kj47 (t264 != t269)).bind fun t280 => (some (t280, 0))) = some (r1, r2) := by rw [if_pos rfl] at H; exact H
          clear H
          have H := H1
          clear H1
          obtain ⟨t280, A56, H⟩ := zbs H
          try dsimp only at H
          simp only [Option.some.injEq, Prod.mk.injEq] at H
          obtain ⟨rfl, rfl⟩ := H
          go_wp2_with (first | ((with_reducible refine gate_callee (f := 85) rfl ?_); refine zgL 67 Try.func85 (soft_zero.calls kj47 (t264 != t269) t280 _ A56.out) (h := ?_); rintro w' ⟨nd, rfl⟩))
          go_ret2
          exact ⟨zaE, zaB⟩
         ·replace c55 := Bool.eq_false_iff.mpr c55
          subst c55
          have H1 : ((wide_U128_Len.f 0 t265).bind fun t281 => (if 0 ≤ (wrap64 (64 - t281)) then ((wide_U128_Div.f (shl .u64 t265 (wrap64 (64 - t281))) 0 t270).bind fun bt282 => ((round_Round.f kj47 (t264 != t269) bt282.1 bt282.2.1 (wrap64 ((wrap64 ((wrap64 (t266 - (wrap64 (64 - t281)))) - 64)) - t271)) (bt282.2.2 != 0) a2).bind fun bt286 => (some (bt286.1, bt286.2)))) else (none))) = some (r1, r2) := by rw [if_neg (show ¬ (false = true) by decide)] at H; exact H
          clear H
          have H := H1
          clear H1
          obtain ⟨t281, A57, H⟩ := zbs H
          try dsimp only at H
          obtain ⟨ji58, hji58⟩ : ∃ j_ : Int, (wrap64 (64 - t281)) = j_ := ⟨_, rfl⟩
          replace H : (if 0 ≤ (ji58) then ((wide_U128_Div.f (shl .u64 t265 (ji58)) 0 t270).bind fun bt282 => ((round_Round.f kj47 (t264 != t269) bt282.1 bt282.2.1 (wrap64 ((wrap64 ((wrap64 (t266 - (ji58))) - 64)) - t271)) (bt282.2.2 != 0) a2).bind fun bt286 => (some (bt286.1, bt286.2)))) else (none)) = some (r1, r2) := by first | (rw [hji58] at H; exact H) | (simp only [hji58] at H ⊢; exact H)
          (try rw [hji58] at A57)
          have hji58w : (IntKind.i64.wrap (64 - t281)) = ji58 := (i64_w _).trans hji58
          by_cases c59 : 0 ≤ (ji58)
          ·rw [if_pos c59] at H
           have c59b0 := eq_true c59
           have c59b1 : decide (0 ≤ (ji58)) = true := decide_eq_true c59
           clear c59
           obtain ⟨ji60, hji60⟩ : ∃ j_ : Int, (shl .u64 t265 (ji58)) = j_ := ⟨_, rfl⟩
           replace H : ((wide_U128_Div.f (ji60) 0 t270).bind fun bt282 => ((round_Round.f kj47 (t264 != t269) bt282.1 bt282.2.1 (wrap64 ((wrap64 ((wrap64 (t266 - (ji58))) - 64)) - t271)) (bt282.2.2 != 0) a2).bind fun bt286 => (some (bt286.1, bt286.2)))) = some (r1, r2) := by first | (rw [hji60] at H; exact H) | (simp only [hji60] at H ⊢; exact H)
           (try rw [hji60] at A57)
           have hji60_ : (IntKind.u64.wrap (t265 * 2 ^ min (ji58).toNat 64)) = ji60 := hji60
           have hji60z : (ji58) ≤ 64 → (IntKind.u64.wrap (t265 * 2 ^ (ji58).toNat)) = ji60 := shl_small hji60
           obtain ⟨⟨t282, t283, t284⟩, A61, H⟩ := zbs H
           try dsimp only at H
           obtain ⟨⟨t286, t287⟩, A62, H⟩ := zbs H
           try dsimp only at H
           simp only [Option.some.injEq, Prod.mk.injEq] at H
           obtain ⟨rfl, rfl⟩ := H
           have hnb63 := NB272_273.out
           have hnc63 := NB273_272.out
           have hcz64_0 := zc0 BK272
           have hcz64_1 := zc1 BK272
           have hcz64_2 := zc2 BK272
           have hcz64_3 := zc3 BK272
           have hcz64_4 := zc4 BK272
           have hfz64_0 := blk_frozen BK272.out 0
           have hfz64_1 := blk_frozen BK272.out 1
           have hfz64_2 := blk_frozen BK272.out 2
           have hfz64_3 := blk_frozen BK272.out 3
           have hfz64_4 := blk_frozen BK272.out 4
           try go_wp2_with (first | ((with_reducible refine gate_callee (f := 103) rfl ?_); refine zgL 71 Try.func103 (wide_U128_Len.calls 0 t265 t281 _ A57.out) (h := ?_); rintro w65 hb; replace BK272 := zkb BK272 hb; replace BK273 := zkb BK273 hb; replace HB := zkB HB hb; (try clear hb)))
           replace BK272 := Aside0.mk (blk_drew BK272.out)
           replace BK273 := Aside0.mk (blk_drew BK273.out)
           replace HB := Aside0.mk (below_drew1 HB.out)
           refine start_ (n := 14) (S := fun w' => w'.cell? ⟨gb272, 0, none⟩ = some (.int .u64 t262) ∧ w'.cell? ⟨gb272, 1, none⟩ = some (.int .u8 t263) ∧ w'.cell? ⟨gb272, 2, none⟩ = some (.bool t264) ∧ w'.cell? ⟨gb272, 3, none⟩ = some (.int .u64 t265) ∧ w'.cell? ⟨gb272, 4, none⟩ = some (.int .i64 t266) ∧ w'.cell? ⟨gb273, 0, none⟩ = some (.int .u64 t267) ∧ w'.cell? ⟨gb273, 1, none⟩ = some (.int .u8 t268) ∧ w'.cell? ⟨gb273, 2, none⟩ = some (.bool t269) ∧ w'.cell? ⟨gb273, 3, none⟩ = some (.int .u64 t270) ∧ w'.cell? ⟨gb273, 4, none⟩ = some (.int .i64 t271)) (ds := []) #[false, false, false, false, false, false, false, false, false, false, false, false, false, false] (by kernel_rfl) rfl rfl (zk5 BK272 (ze5 BK273)) (fun hHeld => ?_); refine with_tabW soft_Div.tab15 soft_Div.bits15 (fun HT_ HW_ => ?_)
           generalize w65.drew = w66 at BK272 BK273 HB hHeld ⊢
           refine zpA 0 74 (h := ?_)
           refine zpA 2 76 (h := ?_)
           refine zpA 5 79 (h := ?_)
           refine ztA 1 75 (h := ?_)
           refine zpA 3 77 (h := ?_)
           refine zpA 4 78 (h := ?_)
           refine ztA 6 80 (h := ?_)
           refine join_ (σ := Nat) 2 #[true, true, true, true, true, true, true, true, true, true, true, true, false, false] (fun s_ => [(81, .tuple #[.agg #[.int .u64 t282, .int .u64 t283], .int .u64 t284]), (12, .pointer (some ⟨s_, 0, none⟩)), (73, .tuple #[.agg #[.int .u64 t282, .int .u64 t283], .int .u64 t284]), (82, .agg #[.int .u64 t282, .int .u64 t283]), (83, .int .u64 t284)]) (fun s_ w' => (w'.cell? ⟨gb272, 0, none⟩ = some (.int .u64 t262) ∧ w'.cell? ⟨gb272, 1, none⟩ = some (.int .u8 t263) ∧ w'.cell? ⟨gb272, 2, none⟩ = some (.bool t264) ∧ w'.cell? ⟨gb272, 3, none⟩ = some (.int .u64 t265) ∧ w'.cell? ⟨gb272, 4, none⟩ = some (.int .i64 t266) ∧ w'.cell? ⟨gb273, 0, none⟩ = some (.int .u64 t267) ∧ w'.cell? ⟨gb273, 1, none⟩ = some (.int .u8 t268) ∧ w'.cell? ⟨gb273, 2, none⟩ = some (.bool t269) ∧ w'.cell? ⟨gb273, 3, none⟩ = some (.int .u64 t270) ∧ w'.cell? ⟨gb273, 4, none⟩ = some (.int .i64 t271)) ∧ (w'.heap[gb272]? = some (.cells #[.int .u64 t262, .int .u8 t263, .bool t264, .int .u64 t265, .int .i64 t266] 88 (0, 0))) ∧ (w'.heap[gb273]? = some (.cells #[.int .u64 t267, .int .u8 t268, .bool t269, .int .u64 t270, .int .i64 t271] 88 (0, 0))) ∧ (w'.heap[s_]? = some (.cells #[.int .u64 0, .int .u64 0] 109 (0, 0))) ∧ (w.heap.size ≤ s_) ∧ (w.heap.size ≤ s_) ∧ (gb272 ≠ s_) ∧ (s_ ≠ gb272) ∧ (gb273 ≠ s_) ∧ (s_ ≠ gb273) ∧ (Below w.heap.size w w')) ?_ ?_
           rotate_left
           ·intro hCont
            refine two_ (i := 7) (j := 11) (Ni := some 81) (Nj := some 12) #[true, true, true, true, true, true, true, true, false, false, false, false, false, false] #[true, true, true, true, true, true, true, false, false, false, false, true, false, false] rfl rfl rfl rfl (two_of HT_.out (by kernel_rfl)) (by decide) (by decide) (fun K hK => ?_) (fun K hK => ?_)
            ·skip
             refine goes_ Try.func104 (by kernel_rfl) rfl #[.agg #[.int .u64 ji60, .int .u64 0], .int .u64 t270] (by rfl) rfl rfl (by (try simp only [List.map_toArray, List.map_cons, List.map_nil]); first | done | (simp only [hji60]; rfl) | rfl | (simp only [List.length_drop, List.length_take]; rfl)) ?_
             with_reducible refine (wide_U128_Div.calls ji60 0 t270 t282 t283 t284 _ A61.out).mono ?_
             rintro e w67 ⟨rfl, hb⟩
             refine ⟨_, rfl, ?_⟩
             replace BK272 := zkb BK272 hb
             replace BK273 := zkb BK273 hb
             replace HB := zkB HB hb
             (try clear hb)
             refine hK.out _ _ (zk5 BK272 (ze5 BK273)) (fun hHeld => ?_)
             clear hK K
             refine znA 81 (h := ?_)
             refine zpA 8 73 (h := ?_)
             refine zpA 9 82 (h := ?_)
             refine zpA 10 83 (h := ?_)
             refine zoA 11 12 (h := fun K hK => ?_)
             refine box_step ?hg (N := 12) ?hd (cs := #[.int .u64 0, .int .u64 0]) (t := 109) ?hr ?_; (case hd => rfl); (case hg => rfl); (case hr => first | (go_simp; done) | (go_simp; rfl))
             intro gb285 hg w68 hbox hb
             have GW285 := zkz HB hg
             have GE285 := GW285
             have NB272_285 := zkl BK272 hg
             have NB285_272 := zkr BK272 hg
             have NB273_285 := zkl BK273 hg
             have NB285_273 := zkr BK273 hg
             replace BK272 := zkb BK272 hb
             replace BK273 := zkb BK273 hb
             replace HB := zkB HB hb
             have BK285 := Aside0.mk (hbox)
             clear hb hbox hg
             refine hK.out _ _ (zk5 BK272 (ze5 BK273)) (fun hHeld => ?_)
             clear hK K
             refine znA 12 (h := ?_)
             exact norm_ (by simp only [putAll, Act.put, List.setIfInBounds_toArray, List.set_cons_zero, List.set_cons_succ]) (hCont (gb285) _ ⟨hHeld, (zkq BK272), (zkq BK273), (zkq BK285), GW285.out, GE285.out, NB272_285.out, NB285_272.out, NB273_285.out, NB285_273.out, zaB⟩)
            ·skip
             refine box_step ?hg (N := 12) ?hd (cs := #[.int .u64 0, .int .u64 0]) (t := 109) ?hr ?_; (case hd => rfl); (case hg => rfl); (case hr => first | (go_simp; done) | (go_simp; rfl))
             intro gb285 hg w67 hbox hb
             have GW285 := zkz HB hg
             have GE285 := GW285
             have NB272_285 := zkl BK272 hg
             have NB285_272 := zkr BK272 hg
             have NB273_285 := zkl BK273 hg
             have NB285_273 := zkr BK273 hg
             replace BK272 := zkb BK272 hb
             replace BK273 := zkb BK273 hb
             replace HB := zkB HB hb
             have BK285 := Aside0.mk (hbox)
             clear hb hbox hg
             refine hK.out _ _ (zk5 BK272 (ze5 BK273)) (fun hHeld => ?_)
             clear hK K
             refine znA 12 (h := ?_)
             refine zoA 7 81 (h := fun K hK => ?_)
             refine goes_ Try.func104 (by kernel_rfl) rfl #[.agg #[.int .u64 ji60, .int .u64 0], .int .u64 t270] (by rfl) rfl rfl (by (try simp only [List.map_toArray, List.map_cons, List.map_nil]); first | done | (simp only [hji60]; rfl) | rfl | (simp only [List.length_drop, List.length_take]; rfl)) ?_
             with_reducible refine (wide_U128_Div.calls ji60 0 t270 t282 t283 t284 _ A61.out).mono ?_
             rintro e w68 ⟨rfl, hb⟩
             refine ⟨_, rfl, ?_⟩
             replace BK272 := zkb BK272 hb
             replace BK273 := zkb BK273 hb
             replace BK285 := zkb BK285 hb
             replace HB := zkB HB hb
             (try clear hb)
             refine hK.out _ _ (zk5 BK272 (ze5 BK273)) (fun hHeld => ?_)
             clear hK K
             refine znA 81 (h := ?_)
             refine zpA 8 73 (h := ?_)
             refine zpA 9 82 (h := ?_)
             refine zpA 10 83 (h := ?_)
             exact norm_ (by simp only [putAll, Act.put, List.setIfInBounds_toArray, List.set_cons_zero, List.set_cons_succ]) (hCont (gb285) _ ⟨hHeld, (zkq BK272), (zkq BK273), (zkq BK285), GW285.out, GE285.out, NB272_285.out, NB285_272.out, NB273_285.out, NB285_273.out, zaB⟩)
           rintro gb285 w69 ⟨hS_, h0_, h1_, h2_, h3_, h4_, h5_, h6_, h7_, h8_, h9_⟩
           have n0_ : Aside0 (w69.heap[gb272]? = some (.cells #[.int .u64 t262, .int .u8 t263, .bool t264, .int .u64 t265, .int .i64 t266] 88 (0, 0))) := ⟨h0_⟩
           have n1_ : Aside0 (w69.heap[gb273]? = some (.cells #[.int .u64 t267, .int .u8 t268, .bool t269, .int .u64 t270, .int .i64 t271] 88 (0, 0))) := ⟨h1_⟩
           have n2_ : Aside0 (w69.heap[gb285]? = some (.cells #[.int .u64 0, .int .u64 0] 109 (0, 0))) := ⟨h2_⟩
           have n3_ : Aside0 (w.heap.size ≤ gb285) := ⟨h3_⟩
           have n4_ : Aside0 (w.heap.size ≤ gb285) := ⟨h4_⟩
           have n5_ : Aside0 (gb272 ≠ gb285) := ⟨h5_⟩
           have n6_ : Aside0 (gb285 ≠ gb272) := ⟨h6_⟩
           have n7_ : Aside0 (gb273 ≠ gb285) := ⟨h7_⟩
           have n8_ : Aside0 (gb285 ≠ gb273) := ⟨h8_⟩
           have n9_ : Aside0 (Below w.heap.size w w69) := ⟨h9_⟩
           clear BK272
           clear BK273
           clear HB
           clear h0_ h1_ h2_ h3_ h4_ h5_ h6_ h7_ h8_ h9_
           have BK272 := n0_
           have BK273 := n1_
           have BK285 := n2_
           have GW285 := n3_
           have GE285 := n4_
           have NB272_285 := n5_
           have NB285_272 := n6_
           have NB273_285 := n7_
           have NB285_273 := n8_
           have HB := n9_
           clear n0_ n1_ n2_ n3_ n4_ n5_ n6_ n7_ n8_ n9_
           have hHeld : w69.cell? ⟨gb272, 0, none⟩ = some (.int .u64 t262) ∧ w69.cell? ⟨gb272, 1, none⟩ = some (.int .u8 t263) ∧ w69.cell? ⟨gb272, 2, none⟩ = some (.bool t264) ∧ w69.cell? ⟨gb272, 3, none⟩ = some (.int .u64 t265) ∧ w69.cell? ⟨gb272, 4, none⟩ = some (.int .i64 t266) ∧ w69.cell? ⟨gb273, 0, none⟩ = some (.int .u64 t267) ∧ w69.cell? ⟨gb273, 1, none⟩ = some (.int .u8 t268) ∧ w69.cell? ⟨gb273, 2, none⟩ = some (.bool t269) ∧ w69.cell? ⟨gb273, 3, none⟩ = some (.int .u64 t270) ∧ w69.cell? ⟨gb273, 4, none⟩ = some (.int .i64 t271) := hS_
           refine norm_ (a' := ?_) ?_ ?_
           rotate_left
           ·simp only [putAll, Act.put, List.setIfInBounds_toArray, List.set_cons_zero, List.set_cons_succ]
            rfl
           refine one_ (i := 12) (N := none) #[true, true, true, true, true, true, true, true, true, true, true, true, true, false] rfl rfl (one_of HT_.out (by kernel_rfl)) (by decide) (fun K hK => ?_)
           have hs70 := zc0 BK285
           have hfs70 := blk_frozen BK285.out 0
           have hns70_0 := NB272_285.out
           have hns70_1 := NB273_285.out
           have hms70_0 := NB285_272.out
           have hms70_1 := NB285_273.out
           have hs71 := zc1 BK285
           have hfs71 := blk_frozen BK285.out 1
           have hns71_0 := NB272_285.out
           have hns71_1 := NB273_285.out
           have hms71_0 := NB285_272.out
           have hms71_1 := NB285_273.out
           refine skip_ (w1 := ?_) (by rfl) rfl ?_ ?_
           rotate_left
           ·go_simp
            rfl
           refine hK.out _ _ ⟨(zff NB272_285 (zff NB272_285 hHeld.1)), (zff NB272_285 (zff NB272_285 hHeld.2.1)), (zff NB272_285 (zff NB272_285 hHeld.2.2.1)), (zff NB272_285 (zff NB272_285 hHeld.2.2.2.1)), (zff NB272_285 (zff NB272_285 hHeld.2.2.2.2.1)), (zff NB273_285 (zff NB273_285 hHeld.2.2.2.2.2.1)), (zff NB273_285 (zff NB273_285 hHeld.2.2.2.2.2.2.1)), (zff NB273_285 (zff NB273_285 hHeld.2.2.2.2.2.2.2.1)), (zff NB273_285 (zff NB273_285 hHeld.2.2.2.2.2.2.2.2.1)), (zff NB273_285 (zff NB273_285 hHeld.2.2.2.2.2.2.2.2.2))⟩ (fun hHeld => ?_)
           clear hK K
           refine zpA 13 13 (h := ?_)
           refine done_ (done_of HT_.out (by kernel_rfl)) ?_
           have hnb72 := NB285_272.out
           have hnc72 := NB272_285.out
           have hnb73 := NB285_273.out
           have hnc73 := NB273_285.out
           have hcz74_0 := zc0 BK285
           have hcz74_1 := zc1 BK285
           have hfz74_0 := blk_frozen BK285.out 0
           have hfz74_1 := blk_frozen BK285.out 1
           have hcz75_0 := zc0 BK272
           have hcz75_1 := zc1 BK272
           have hcz75_2 := zc2 BK272
           have hcz75_3 := zc3 BK272
           have hcz75_4 := zc4 BK272
           have hfz75_0 := blk_frozen BK272.out 0
           have hfz75_1 := blk_frozen BK272.out 1
           have hfz75_2 := blk_frozen BK272.out 2
           have hfz75_3 := blk_frozen BK272.out 3
           have hfz75_4 := blk_frozen BK272.out 4
           have hcz76_0 := zc0 BK273
           have hcz76_1 := zc1 BK273
           have hcz76_2 := zc2 BK273
           have hcz76_3 := zc3 BK273
           have hcz76_4 := zc4 BK273
           have hfz76_0 := blk_frozen BK273.out 0
           have hfz76_1 := blk_frozen BK273.out 1
           have hfz76_2 := blk_frozen BK273.out 2
           have hfz76_3 := blk_frozen BK273.out 3
           have hfz76_4 := blk_frozen BK273.out 4
           try go_wp2_with (first | ((with_reducible refine gate_callee (f := 99) rfl ?_); refine goesL_ (some 97) rfl rfl Try.func99 (by kernel_rfl) rfl #[.bool (t264 != t269), .agg #[.int .u64 t282, .int .u64 t283], .int .i64 (wrap64 ((wrap64 ((wrap64 (t266 - (ji58))) - 64)) - t271)), .bool (t284 != 0), .int .u8 a2] rfl (by (try simp only [List.map_toArray, List.map_cons, List.map_nil]); first | done | (simp only [hji58]; rfl) | rfl | (simp only [List.length_drop, List.length_take]; rfl)) ?_; (with_reducible refine (round_Round.calls kj47 (t264 != t269) t282 t283 (wrap64 ((wrap64 ((wrap64 (t266 - (ji58))) - 64)) - t271)) (t284 != 0) a2 t286 t287 _ A62.out).mono ?_); rintro e w77 ⟨rfl, hb⟩; refine ⟨_, rfl, ?_⟩; replace BK272 := Aside0.mk (blk_below (zkf (zkf BK272.out NB272_285.out _) NB272_285.out _) hb); replace BK273 := Aside0.mk (blk_below (zkf (zkf BK273.out NB273_285.out _) NB273_285.out _) hb); replace BK285 := Aside0.mk (blk_below (o := .cells #[.int .u64 t282, .int .u64 t283] 109 (0, 0)) (blk_put (cs := #[.int .u64 t282, .int .u64 0]) (blk_put BK285.out 0 _ rfl) 1 _ rfl) hb); replace HB := Aside0.mk (below_step (below_set (below_set HB.out GE285.out) GE285.out) hb); (try clear hb)))
           go_ret2
           exact ⟨by first | rfl | (simp [errW_none, errW_some] <;> rfl) | (simp only [← hji58, ← hji60]; first | rfl | (simp [errW_none, errW_some] <;> rfl)) | (simp [*, errW_none, errW_some] <;> rfl), zaB⟩
          ·rw [if_neg c59] at H
           exact absurd H (by simp)
end Go.Proofs.Ytmadjhmecfbcmaa.F
end
section
namespace Go.Proofs.Ytmadjhmecfbcmaa.F
open Go.RowKit Go.Proofs.YtmadjhmecfbcmaaW.PrintWords Go.Proofs.YtmadjhmecfbcmaaW.PrintLast Go.Proofs.YtmadjhmecfbcmaaW.PrintMore
attribute [local go_sem] max2_int min2_int max_two min_two max_three min_three max_four min_four
set_option linter.unusedVariables false
set_option linter.unusedSimpArgs false
set_option maxHeartbeats 8000000 in
set_option maxRecDepth 100000 in
theorem wide_U128_Cmp.order (x0 y0 x1 y1 : Int) (g : Nat) (w : World) (hw : w.heap[g]? = some (.cells #[.int .u64 x0, .int .u64 y0, .int .u64 x1, .int .u64 y1] 181 (0, 0))) :
  Calls Try.prog 190 #[.slice (some ⟨g, 0, none⟩) 2 2] w fun e w' => e = .returned (.int .i64 (if x0 < y0 then -1 else if y0 < x0 then 1 else if x1 < y1 then -1 else if y1 < x1 then 1 else 0)) ∧ Below w.heap.size w w' := by
 have hu181 := Try.underlying181
 have z0 : w.cell? ⟨g, 0, none⟩ = some (.int .u64 x0) := (blk_cell hw 0).trans rfl
 have f0 := blk_frozen hw 0
 have z1 : w.cell? ⟨g, 1, none⟩ = some (.int .u64 y0) := (blk_cell hw 1).trans rfl
 have f1 := blk_frozen hw 1
 have z2 : w.cell? ⟨g, 2, none⟩ = some (.int .u64 x1) := (blk_cell hw 2).trans rfl
 have f2 := blk_frozen hw 2
 have z3 : w.cell? ⟨g, 3, none⟩ = some (.int .u64 y1) := (blk_cell hw 3).trans rfl
 have f3 := blk_frozen hw 3
 by_cases c0 : x0 < y0
 ·have c0b : decide (x0 < y0) = true := decide_eq_true c0
  go_enter Try.func190, Try.ntmps190
  go_wp2
  refine wp_loop_rounds 1 ?_
  rw [rounds_succ]
  go_wp2
  refine bodyPost_ret (results_tmp rfl _ _ _) rfl ⟨?_, below_alloc (Below.refl w.heap.size w) _⟩
  first | rfl | (rw [if_pos c0]; rfl)
 have c0b : decide (x0 < y0) = false := decide_eq_false c0
 by_cases c1 : y0 < x0
 ·have c1b : decide (y0 < x0) = true := decide_eq_true c1
  go_enter Try.func190, Try.ntmps190
  go_wp2
  refine wp_loop_rounds 1 ?_
  rw [rounds_succ]
  go_wp2
  refine bodyPost_ret (results_tmp rfl _ _ _) rfl ⟨?_, below_alloc (Below.refl w.heap.size w) _⟩
  first | rfl | (rw [if_neg c0, if_pos c1]; rfl)
 have c1b : decide (y0 < x0) = false := decide_eq_false c1
 by_cases c2 : x1 < y1
 ·have c2b : decide (x1 < y1) = true := decide_eq_true c2
  go_enter Try.func190, Try.ntmps190
  go_wp2
  refine wp_loop_rounds 2 ?_
  rw [rounds_succ]
  go_wp2
  have hw1 := blk_alloc hw (.cells #[.int .u64 x0, .int .u64 y0] 181 (0, 0))
  have HB1 := below_alloc (Below.refl w.heap.size w) (.cells #[.int .u64 x0, .int .u64 y0] 181 (0, 0))
  generalize w.alloc (.cells #[.int .u64 x0, .int .u64 y0] 181 (0, 0)) = w1 at hw1 HB1 ⊢
  have z10 : w1.cell? ⟨g, 0, none⟩ = some (.int .u64 x0) := (blk_cell hw1 0).trans rfl
  have z11 : w1.cell? ⟨g, 1, none⟩ = some (.int .u64 y0) := (blk_cell hw1 1).trans rfl
  have z12 : w1.cell? ⟨g, 2, none⟩ = some (.int .u64 x1) := (blk_cell hw1 2).trans rfl
  have z13 : w1.cell? ⟨g, 3, none⟩ = some (.int .u64 y1) := (blk_cell hw1 3).trans rfl
  rw [rounds_succ]
  go_wp2
  refine bodyPost_ret (results_tmp rfl _ _ _) rfl ⟨?_, below_alloc HB1 _⟩
  first | rfl | (rw [if_neg c0, if_neg c1, if_pos c2]; rfl)
 have c2b : decide (x1 < y1) = false := decide_eq_false c2
 by_cases c3 : y1 < x1
 ·have c3b : decide (y1 < x1) = true := decide_eq_true c3
  go_enter Try.func190, Try.ntmps190
  go_wp2
  refine wp_loop_rounds 2 ?_
  rw [rounds_succ]
  go_wp2
  have hw1 := blk_alloc hw (.cells #[.int .u64 x0, .int .u64 y0] 181 (0, 0))
  have HB1 := below_alloc (Below.refl w.heap.size w) (.cells #[.int .u64 x0, .int .u64 y0] 181 (0, 0))
  generalize w.alloc (.cells #[.int .u64 x0, .int .u64 y0] 181 (0, 0)) = w1 at hw1 HB1 ⊢
  have z10 : w1.cell? ⟨g, 0, none⟩ = some (.int .u64 x0) := (blk_cell hw1 0).trans rfl
  have z11 : w1.cell? ⟨g, 1, none⟩ = some (.int .u64 y0) := (blk_cell hw1 1).trans rfl
  have z12 : w1.cell? ⟨g, 2, none⟩ = some (.int .u64 x1) := (blk_cell hw1 2).trans rfl
  have z13 : w1.cell? ⟨g, 3, none⟩ = some (.int .u64 y1) := (blk_cell hw1 3).trans rfl
  rw [rounds_succ]
  go_wp2
  refine bodyPost_ret (results_tmp rfl _ _ _) rfl ⟨?_, below_alloc HB1 _⟩
  first | rfl | (rw [if_neg c0, if_neg c1, if_neg c2, if_pos c3]; rfl)
 have c3b : decide (y1 < x1) = false := decide_eq_false c3
 go_enter Try.func190, Try.ntmps190
 go_wp2
 refine wp_loop_rounds 3 ?_
 rw [rounds_succ]
 go_wp2
 have hw1 := blk_alloc hw (.cells #[.int .u64 x0, .int .u64 y0] 181 (0, 0))
 have HB1 := below_alloc (Below.refl w.heap.size w) (.cells #[.int .u64 x0, .int .u64 y0] 181 (0, 0))
 generalize w.alloc (.cells #[.int .u64 x0, .int .u64 y0] 181 (0, 0)) = w1 at hw1 HB1 ⊢
 have z10 : w1.cell? ⟨g, 0, none⟩ = some (.int .u64 x0) := (blk_cell hw1 0).trans rfl
 have z11 : w1.cell? ⟨g, 1, none⟩ = some (.int .u64 y0) := (blk_cell hw1 1).trans rfl
 have z12 : w1.cell? ⟨g, 2, none⟩ = some (.int .u64 x1) := (blk_cell hw1 2).trans rfl
 have z13 : w1.cell? ⟨g, 3, none⟩ = some (.int .u64 y1) := (blk_cell hw1 3).trans rfl
 rw [rounds_succ]
 go_wp2
 have hw2 := blk_alloc hw1 (.cells #[.int .u64 x1, .int .u64 y1] 181 (0, 0))
 have HB2 := below_alloc HB1 (.cells #[.int .u64 x1, .int .u64 y1] 181 (0, 0))
 generalize w1.alloc (.cells #[.int .u64 x1, .int .u64 y1] 181 (0, 0)) = w2 at hw2 HB2 ⊢
 have z20 : w2.cell? ⟨g, 0, none⟩ = some (.int .u64 x0) := (blk_cell hw2 0).trans rfl
 have z21 : w2.cell? ⟨g, 1, none⟩ = some (.int .u64 y0) := (blk_cell hw2 1).trans rfl
 have z22 : w2.cell? ⟨g, 2, none⟩ = some (.int .u64 x1) := (blk_cell hw2 2).trans rfl
 have z23 : w2.cell? ⟨g, 3, none⟩ = some (.int .u64 y1) := (blk_cell hw2 3).trans rfl
 rw [rounds_succ]
 go_wp2
 refine bodyPost_ret (results_tmp rfl _ _ _) rfl ⟨?_, HB2⟩
 first | rfl | (rw [if_neg c0, if_neg c1, if_neg c2, if_neg c3]; rfl)
set_option maxHeartbeats 8000000 in
set_option maxRecDepth 100000 in
theorem wide_U128_Cmp.walk (a0_0 : Int) (a0_1 : Int) (a1_0 : Int) (a1_1 : Int) (w : World) :
  Calls Try.prog 164 #[.agg #[.int .u64 a0_0, .int .u64 a0_1], .agg #[.int .u64 a1_0, .int .u64 a1_1]] w fun e w' => e = .returned (.int .i64 (if a0_0 < a1_0 then -1 else if a1_0 < a0_0 then 1 else if a0_1 < a1_1 then -1 else if a1_1 < a0_1 then 1 else 0)) ∧ Below w.heap.size w w' := by
 have hu109 := Try.underlying109
 have hu181 := Try.underlying181
 have O := wide_U128_Cmp.order a0_0 a1_0 a0_1 a1_1
 generalize (if a0_0 < a1_0 then (-1 : Int) else if a1_0 < a0_0 then 1 else if a0_1 < a1_1 then -1 else if a1_1 < a0_1 then 1 else 0) = r at O ⊢
 go_enter Try.func164, Try.ntmps164
 have hb0 : ((((w.alloc (Obj.cells #[.int .u64 a0_0, .int .u64 a0_1] 109 (0, 0))).alloc (Obj.cells #[.int .u64 a1_0, .int .u64 a1_1] 109 (0, 0))).alloc (Obj.cells #[.int .u64 a0_0, .int .u64 a1_0, .int .u64 a0_1, .int .u64 a1_1] 181 (0, 0)))).heap[w.heap.size + 1 + 1]? = some (.cells #[.int .u64 a0_0, .int .u64 a1_0, .int .u64 a0_1, .int .u64 a1_1] 181 (0, 0)) := by
  have h := blk_new ((w.alloc (Obj.cells #[.int .u64 a0_0, .int .u64 a0_1] 109 (0, 0))).alloc (Obj.cells #[.int .u64 a1_0, .int .u64 a1_1] 109 (0, 0))) (.cells #[.int .u64 a0_0, .int .u64 a1_0, .int .u64 a0_1, .int .u64 a1_1] 181 (0, 0))
  have e : ((w.alloc (Obj.cells #[.int .u64 a0_0, .int .u64 a0_1] 109 (0, 0))).alloc (Obj.cells #[.int .u64 a1_0, .int .u64 a1_1] 109 (0, 0))).heap.size = w.heap.size + 1 + 1 := by rw [World.alloc, World.alloc]; simp only [Array.size_push]
  rw [e] at h; exact h
 have HB0 : Below w.heap.size w ((((w.alloc (Obj.cells #[.int .u64 a0_0, .int .u64 a0_1] 109 (0, 0))).alloc (Obj.cells #[.int .u64 a1_0, .int .u64 a1_1] 109 (0, 0))).alloc (Obj.cells #[.int .u64 a0_0, .int .u64 a1_0, .int .u64 a0_1, .int .u64 a1_1] 181 (0, 0)))) := below_alloc (below_alloc (below_alloc (Below.refl w.heap.size w) _) _) _
 go_wp2_with (fail)
 rename_i K hK
 refine (O _ _ hb0).mono ?_
 rintro e w' ⟨rfl, hb⟩
 refine hK _ _ ?_
 go_wp2
 exact bodyPost_ret (results_tmp rfl _ _ _) rfl ⟨rfl, below_step HB0 hb⟩
theorem wide_U128_Cmp.calls (a0_0 : Int) (a0_1 : Int) (a1_0 : Int) (a1_1 : Int) (r : Int) (w : World) (h : wide_U128_Cmp.f a0_0 a0_1 a1_0 a1_1 = some r) :
  Calls Try.prog 164 #[.agg #[.int .u64 a0_0, .int .u64 a0_1], .agg #[.int .u64 a1_0, .int .u64 a1_1]] w fun e w' => e = .returned (.int .i64 r) ∧ Below w.heap.size w w' := by
 obtain rfl := Option.some.inj h
 exact wide_U128_Cmp.walk a0_0 a0_1 a1_0 a1_1 w
end Go.Proofs.Ytmadjhmecfbcmaa.F
end
section
namespace Go.Proofs.Ytmadjhmecfbcmaa.F
open Go.RowKit Go.Proofs.YtmadjhmecfbcmaaW.PrintWords Go.Proofs.YtmadjhmecfbcmaaW.PrintLast Go.Proofs.YtmadjhmecfbcmaaW.PrintMore
attribute [local go_sem] max2_int min2_int max_two min_two max_three min_three max_four min_four
set_option linter.unusedVariables false
set_option linter.unusedSimpArgs false
def wide_U128_Sqrt.T5 : Bool × List (List Nat × List Nat) := (true, [([], []), ([], []), ([0, 1], [0, 1]), ([], []), ([], []), ([3, 4], [3, 4]), ([2, 5], [2, 5]), ([], []), ([6, 7, 6], [6, 7]), ([8], [8])])
def wide_U128_Sqrt.B5 : List Nat := [0, 0, 3, 0, 0, 24, 63, 0, 255, 511]
theorem wide_U128_Sqrt.tab5 : rtab .any (opsOf Try.f107 5) = wide_U128_Sqrt.T5 := by kernel_rfl
theorem wide_U128_Sqrt.bits5 : waitsOk wide_U128_Sqrt.T5.2 wide_U128_Sqrt.B5 = true := by kernel_rfl
def wide_U128_Sqrt.T7 : Bool × List (List Nat × List Nat) := (true, [([], []), ([], []), ([], []), ([1, 2], [1, 2]), ([0, 3, 3], [0, 3]), ([4], [4]), ([5], [5]), ([5], [5]), ([], []), ([8, 6, 4, 0, 1, 2, 3, 4, 5, 6, 8], [6, 8]), ([7, 9, 0, 1, 2, 3, 4, 5, 6, 7, 8, 9], [7])])
def wide_U128_Sqrt.B7 : List Nat := [0, 0, 0, 6, 15, 31, 63, 63, 0, 383, 1023]
theorem wide_U128_Sqrt.tab7 : rtab .any (opsOf Try.f107 7) = wide_U128_Sqrt.T7 := by kernel_rfl
theorem wide_U128_Sqrt.bits7 : waitsOk wide_U128_Sqrt.T7.2 wide_U128_Sqrt.B7 = true := by kernel_rfl
set_option maxHeartbeats 8000000 in
set_option maxRecDepth 100000 in
theorem wide_U128_Sqrt.calls (k : Nat) (a0_0 : Int) (a0_1 : Int) (r1 : Int) (r2 : Int) (r3 : Int) (w : World) (h : wide_U128_Sqrt.f k a0_0 a0_1 = some (r1, r2, r3)) :
  Calls Try.prog 107 #[.agg #[.int .u64 a0_0, .int .u64 a0_1]] w fun e w' => e = .returned (.tuple #[.int .u64 r1, .agg #[.int .u64 r2, .int .u64 r3]]) ∧ Below w.heap.size w w' := by
 have hu109 := Try.underlying109
 have HB := Aside0.mk (Below.refl w.heap.size w)
 have H : (wide_U128_Sqrt.l0 k 0 9223372036854775808 a0_0 a0_1) = some (r1, r2, r3) := h
 clear h
 have H' := Aside0.mk H
 clear H
 go_enter Try.func107, Try.ntmps107
 go_wp2_with (first | ((with_reducible refine gate_dst (N := 1) rfl ?_); refine zbx 1 #[.int .u64 a0_0, .int .u64 a0_1] 109 (h := ?_); intro gb288 hg w2 hbox hb; have GW288 := zkZ hg (zaB (p := Below w.heap.size w _)); have GE288 := GW288; replace HB := Aside0.mk (below_step zaB hb); have BK288 := Aside0.mk (hbox); clear hb hbox hg) | ((with_reducible refine gate_dst (N := 3) rfl ?_); refine zbx 3 #[.int .u64 0, .int .u64 0] 109 (h := ?_); intro gb289 hg w3 hbox hb; have GW289 := zkz HB hg; have GE289 := GW289; have NB288_289 := zkl BK288 hg; have NB289_288 := zkr BK288 hg; replace BK288 := zkb BK288 hb; replace HB := zkB HB hb; have BK289 := Aside0.mk (hbox); clear hb hbox hg))
 (try simp only [Act.put, List.setIfInBounds_toArray, List.set_cons_zero, List.set_cons_succ])
 go_loopg [4, 5] k (fun kq v4 v5 w' => ∃ (x4_1 : Int) (x5_1 : Int), v4 = .int .u64 x4_1 ∧ v5 = .int .u64 x5_1 ∧ Aside0 (wide_U128_Sqrt.l0 kq x4_1 x5_1 a0_0 a0_1 = some (r1, r2, r3)) ∧ Aside0 (kq ≤ k) ∧ Aside0 (w'.heap[gb288]? = some (.cells #[.int .u64 a0_0, .int .u64 a0_1] 109 (0, 0))) ∧ Aside0 (w'.heap[gb289]? = some (.cells #[.int .u64 0, .int .u64 0] 109 (0, 0))) ∧ Aside0 (Below w.heap.size w w'))
 case atStart => exact ⟨(0), (9223372036854775808), (by first | rfl | (simp; done) | (simp [*]; done)), (by first | rfl | (simp; done) | (simp [*]; done)), H', ⟨Nat.le_refl _⟩, ⟨(zkq BK288)⟩, ⟨(zkq BK289)⟩, ⟨zaB⟩⟩
 case round =>
  clear H'
  try clear c1
  try clear p2
  obtain ⟨x4_1, x5_1, rfl, rfl, HA, HK1, BK288, BK289, HB⟩ := hrel
  cases gk with
  | zero => exact absurd HA.out (by simp [wide_U128_Sqrt.l0])
  | succ k1 =>
   have H := HA.out
   clear HA
   simp only [wide_U128_Sqrt.l0] at H
   by_cases c4 : x5_1 > 0
   ·rw [if_pos c4] at H
    have c4b0 : decide (0 < x5_1) = true := decide_eq_true c4
    clear c4
    obtain ⟨⟨t296, t297⟩, A5, H⟩ := zbs H
    try dsimp only at H
    obtain ⟨t298, A6, H⟩ := zbs H
    try dsimp only at H
    by_cases c7 : t298 ≤ 0
    ·rw [if_pos c7] at H
     have c7b0 : decide (t298 ≤ 0) = true := decide_eq_true c7
     clear c7
     have H' := Aside0.mk H
     clear H
     try go_wp2
     replace BK288 := Aside0.mk (blk_drew BK288.out)
     replace BK289 := Aside0.mk (blk_drew BK289.out)
     replace HB := Aside0.mk (below_drew1 HB.out)
     refine start_ (n := 10) (S := fun w' => w'.cell? ⟨gb288, 0, none⟩ = some (.int .u64 a0_0) ∧ w'.cell? ⟨gb288, 1, none⟩ = some (.int .u64 a0_1)) (ds := []) #[false, false, false, false, false, false, false, false, false, false] (by kernel_rfl) rfl rfl (ze2 BK288) (fun hHeld => ?_); refine with_tabW wide_U128_Sqrt.tab5 wide_U128_Sqrt.bits5 (fun HT_ HW_ => ?_)
     generalize wr.drew = w8 at BK288 BK289 HB hHeld ⊢
     refine zpA 0 12 (h := ?_)
     refine zpA 1 13 (h := ?_)
     refine zpA 2 14 (h := ?_)
     refine zpA 3 15 (h := ?_)
     refine zpA 4 16 (h := ?_)
     refine zpA 5 17 (h := ?_)
     refine ztA 7 19 (h := ?_)
     refine zoA 6 18 (h := fun K hK => ?_)
     refine zgA Try.func100 (wide_Mul.calls (Go.bits .or .u64 x4_1 x5_1) (Go.bits .or .u64 x4_1 x5_1) t296 t297 _ A5.out) (h := ?_)
     rintro w9 hb
     replace BK288 := zkb BK288 hb
     replace BK289 := zkb BK289 hb
     replace HB := zkB HB hb
     (try clear hb)
     refine hK.out _ _ (ze2 BK288) (fun hHeld => ?_)
     clear hK K
     refine znA 18 (h := ?_)
     refine zoA 8 20 (h := fun K hK => ?_)
     refine zgA Try.func164 (wide_U128_Cmp.calls t296 t297 a0_0 a0_1 t298 _ A6.out) (h := ?_)
     rintro w10 hb
     replace BK288 := zkb BK288 hb
     replace BK289 := zkb BK289 hb
     replace HB := zkB HB hb
     (try clear hb)
     refine hK.out _ _ (ze2 BK288) (fun hHeld => ?_)
     clear hK K
     refine znA 20 (h := ?_)
     refine zpA 9 21 (h := ?_)
     refine done_ (done_of HT_.out (by kernel_rfl)) ?_
     try go_wp2
     go_roundg k1
     case measure => have := HK1.out; omega
     case rel => exact ⟨(Go.bits .or .u64 x4_1 x5_1), (x5_1 / 2), (by first | rfl | (simp; done) | (simp [*]; done)), (by first | rfl | (simp; done) | (simp [*]; done)), H', ⟨by have := HK1.out; omega⟩, ⟨(zkq BK288)⟩, ⟨(zkq BK289)⟩, ⟨zaB⟩⟩
    ·rw [if_neg c7] at H
     have c7b0 : decide (t298 ≤ 0) = false := decide_eq_false c7
     clear c7
     have H' := Aside0.mk H
     clear H
     try go_wp2
     replace BK288 := Aside0.mk (blk_drew BK288.out)
     replace BK289 := Aside0.mk (blk_drew BK289.out)
     replace HB := Aside0.mk (below_drew1 HB.out)
     refine start_ (n := 10) (S := fun w' => w'.cell? ⟨gb288, 0, none⟩ = some (.int .u64 a0_0) ∧ w'.cell? ⟨gb288, 1, none⟩ = some (.int .u64 a0_1)) (ds := []) #[false, false, false, false, false, false, false, false, false, false] (by kernel_rfl) rfl rfl (ze2 BK288) (fun hHeld => ?_); refine with_tabW wide_U128_Sqrt.tab5 wide_U128_Sqrt.bits5 (fun HT_ HW_ => ?_)
     generalize wr.drew = w11 at BK288 BK289 HB hHeld ⊢
     refine zpA 0 12 (h := ?_)
     refine zpA 1 13 (h := ?_)
     refine zpA 2 14 (h := ?_)
     refine zpA 3 15 (h := ?_)
     refine zpA 4 16 (h := ?_)
     refine zpA 5 17 (h := ?_)
     refine ztA 7 19 (h := ?_)
     refine zoA 6 18 (h := fun K hK => ?_)
     refine zgA Try.func100 (wide_Mul.calls (Go.bits .or .u64 x4_1 x5_1) (Go.bits .or .u64 x4_1 x5_1) t296 t297 _ A5.out) (h := ?_)
     rintro w12 hb
     replace BK288 := zkb BK288 hb
     replace BK289 := zkb BK289 hb
     replace HB := zkB HB hb
     (try clear hb)
     refine hK.out _ _ (ze2 BK288) (fun hHeld => ?_)
     clear hK K
     refine znA 18 (h := ?_)
     refine zoA 8 20 (h := fun K hK => ?_)
     refine zgA Try.func164 (wide_U128_Cmp.calls t296 t297 a0_0 a0_1 t298 _ A6.out) (h := ?_)
     rintro w13 hb
     replace BK288 := zkb BK288 hb
     replace BK289 := zkb BK289 hb
     replace HB := zkB HB hb
     (try clear hb)
     refine hK.out _ _ (ze2 BK288) (fun hHeld => ?_)
     clear hK K
     refine znA 20 (h := ?_)
     refine zpA 9 21 (h := ?_)
     refine done_ (done_of HT_.out (by kernel_rfl)) ?_
     try go_wp2
     go_roundg k1
     case measure => have := HK1.out; omega
     case rel => exact ⟨(x4_1), (x5_1 / 2), (by first | rfl | (simp; done) | (simp [*]; done)), (by first | rfl | (simp; done) | (simp [*]; done)), H', ⟨by have := HK1.out; omega⟩, ⟨(zkq BK288)⟩, ⟨(zkq BK289)⟩, ⟨zaB⟩⟩
   ·rw [if_neg c4] at H
    have c4b0 : decide (0 < x5_1) = false := decide_eq_false c4
    clear c4
    obtain ⟨⟨t290, t291⟩, A14, H⟩ := zbs H
    try dsimp only at H
    obtain ⟨⟨t292, t293, t294⟩, A15, H⟩ := zbs H
    try dsimp only at H
    simp only [Option.some.injEq, Prod.mk.injEq] at H
    obtain ⟨rfl, rfl, rfl⟩ := H
    try go_wp2
    replace BK288 := Aside0.mk (blk_drew BK288.out)
    replace BK289 := Aside0.mk (blk_drew BK289.out)
    replace HB := Aside0.mk (below_drew1 HB.out)
    refine start_ (n := 11) (S := fun w' => w'.cell? ⟨gb288, 0, none⟩ = some (.int .u64 a0_0) ∧ w'.cell? ⟨gb288, 1, none⟩ = some (.int .u64 a0_1)) (ds := []) #[false, false, false, false, false, false, false, false, false, false, false] (by kernel_rfl) rfl rfl (ze2 BK288) (fun hHeld => ?_); refine with_tabW wide_U128_Sqrt.tab7 wide_U128_Sqrt.bits7 (fun HT_ HW_ => ?_)
    generalize wr.drew = w16 at BK288 BK289 HB hHeld ⊢
    refine zpA 1 27 (h := ?_)
    refine zpA 2 28 (h := ?_)
    refine ztA 0 26 (h := ?_)
    refine join_ (σ := Nat) 2 #[true, true, true, true, true, true, true, true, true, false, false] (fun s_ => [(29, .agg #[.int .u64 t290, .int .u64 t291]), (30, .tuple #[.agg #[.int .u64 t292, .int .u64 t293], .int .u64 t294]), (6, .pointer (some ⟨s_, 0, none⟩)), (25, .tuple #[.agg #[.int .u64 t292, .int .u64 t293], .int .u64 t294]), (31, .agg #[.int .u64 t292, .int .u64 t293]), (32, .int .u64 t294)]) (fun s_ w' => (w'.cell? ⟨gb288, 0, none⟩ = some (.int .u64 a0_0) ∧ w'.cell? ⟨gb288, 1, none⟩ = some (.int .u64 a0_1)) ∧ (w'.heap[gb288]? = some (.cells #[.int .u64 a0_0, .int .u64 a0_1] 109 (0, 0))) ∧ (w'.heap[gb289]? = some (.cells #[.int .u64 0, .int .u64 0] 109 (0, 0))) ∧ (w'.heap[s_]? = some (.cells #[.int .u64 0, .int .u64 0] 109 (0, 0))) ∧ (w.heap.size ≤ s_) ∧ (w.heap.size ≤ s_) ∧ (gb288 ≠ s_) ∧ (s_ ≠ gb288) ∧ (gb289 ≠ s_) ∧ (s_ ≠ gb289) ∧ (Below w.heap.size w w')) ?_ ?_
    rotate_left
    ·intro hCont
     refine two_ (i := 3) (j := 8) (Ni := some 29) (Nj := some 6) #[true, true, true, true, false, false, false, false, false, false, false] #[true, true, true, false, false, false, false, false, true, false, false] rfl rfl rfl rfl (two_of HT_.out (by kernel_rfl)) (by decide) (by decide) (fun K hK => ?_) (fun K hK => ?_)
     ·skip
      refine zgA Try.func100 (wide_Mul.calls x4_1 x4_1 t290 t291 _ A14.out) (h := ?_)
      rintro w17 hb
      replace BK288 := zkb BK288 hb
      replace BK289 := zkb BK289 hb
      replace HB := zkB HB hb
      (try clear hb)
      refine hK.out _ _ (ze2 BK288) (fun hHeld => ?_)
      clear hK K
      refine znA 29 (h := ?_)
      refine two_ (i := 4) (j := 8) (Ni := some 30) (Nj := some 6) #[true, true, true, true, true, false, false, false, false, false, false] #[true, true, true, true, false, false, false, false, true, false, false] rfl rfl rfl rfl (two_of HT_.out (by kernel_rfl)) (by decide) (by decide) (fun K hK => ?_) (fun K hK => ?_)
      ·skip
       refine zgA Try.func153 (wide_U128_Sub.calls a0_0 a0_1 t290 t291 t292 t293 t294 _ A15.out) (h := ?_)
       rintro w18 hb
       replace BK288 := zkb BK288 hb
       replace BK289 := zkb BK289 hb
       replace HB := zkB HB hb
       (try clear hb)
       refine hK.out _ _ (ze2 BK288) (fun hHeld => ?_)
       clear hK K
       refine znA 30 (h := ?_)
       refine zpA 5 25 (h := ?_)
       refine zpA 6 31 (h := ?_)
       refine zpA 7 32 (h := ?_)
       refine zoA 8 6 (h := fun K hK => ?_)
       refine box_step ?hg (N := 6) ?hd (cs := #[.int .u64 0, .int .u64 0]) (t := 109) ?hr ?_; (case hd => rfl); (case hg => rfl); (case hr => first | (go_simp; done) | (go_simp; rfl))
       intro gb295 hg w19 hbox hb
       have GW295 := zkz HB hg
       have GE295 := GW295
       have NB288_295 := zkl BK288 hg
       have NB295_288 := zkr BK288 hg
       have NB289_295 := zkl BK289 hg
       have NB295_289 := zkr BK289 hg
       replace BK288 := zkb BK288 hb
       replace BK289 := zkb BK289 hb
       replace HB := zkB HB hb
       have BK295 := Aside0.mk (hbox)
       clear hb hbox hg
       refine hK.out _ _ (ze2 BK288) (fun hHeld => ?_)
       clear hK K
       refine znA 6 (h := ?_)
       exact norm_ (by simp only [putAll, Act.put, List.setIfInBounds_toArray, List.set_cons_zero, List.set_cons_succ]) (hCont (gb295) _ ⟨hHeld, (zkq BK288), (zkq BK289), (zkq BK295), GW295.out, GE295.out, NB288_295.out, NB295_288.out, NB289_295.out, NB295_289.out, zaB⟩)
      ·skip
       refine box_step ?hg (N := 6) ?hd (cs := #[.int .u64 0, .int .u64 0]) (t := 109) ?hr ?_; (case hd => rfl); (case hg => rfl); (case hr => first | (go_simp; done) | (go_simp; rfl))
       intro gb295 hg w18 hbox hb
       have GW295 := zkz HB hg
       have GE295 := GW295
       have NB288_295 := zkl BK288 hg
       have NB295_288 := zkr BK288 hg
       have NB289_295 := zkl BK289 hg
       have NB295_289 := zkr BK289 hg
       replace BK288 := zkb BK288 hb
       replace BK289 := zkb BK289 hb
       replace HB := zkB HB hb
       have BK295 := Aside0.mk (hbox)
       clear hb hbox hg
       refine hK.out _ _ (ze2 BK288) (fun hHeld => ?_)
       clear hK K
       refine znA 6 (h := ?_)
       refine zoA 4 30 (h := fun K hK => ?_)
       refine zgA Try.func153 (wide_U128_Sub.calls a0_0 a0_1 t290 t291 t292 t293 t294 _ A15.out) (h := ?_)
       rintro w19 hb
       replace BK288 := zkb BK288 hb
       replace BK289 := zkb BK289 hb
       replace BK295 := zkb BK295 hb
       replace HB := zkB HB hb
       (try clear hb)
       refine hK.out _ _ (ze2 BK288) (fun hHeld => ?_)
       clear hK K
       refine znA 30 (h := ?_)
       refine zpA 5 25 (h := ?_)
       refine zpA 6 31 (h := ?_)
       refine zpA 7 32 (h := ?_)
       exact norm_ (by simp only [putAll, Act.put, List.setIfInBounds_toArray, List.set_cons_zero, List.set_cons_succ]) (hCont (gb295) _ ⟨hHeld, (zkq BK288), (zkq BK289), (zkq BK295), GW295.out, GE295.out, NB288_295.out, NB295_288.out, NB289_295.out, NB295_289.out, zaB⟩)
     ·skip
      refine box_step ?hg (N := 6) ?hd (cs := #[.int .u64 0, .int .u64 0]) (t := 109) ?hr ?_; (case hd => rfl); (case hg => rfl); (case hr => first | (go_simp; done) | (go_simp; rfl))
      intro gb295 hg w17 hbox hb
      have GW295 := zkz HB hg
      have GE295 := GW295
      have NB288_295 := zkl BK288 hg
      have NB295_288 := zkr BK288 hg
      have NB289_295 := zkl BK289 hg
      have NB295_289 := zkr BK289 hg
      replace BK288 := zkb BK288 hb
      replace BK289 := zkb BK289 hb
      replace HB := zkB HB hb
      have BK295 := Aside0.mk (hbox)
      clear hb hbox hg
      refine hK.out _ _ (ze2 BK288) (fun hHeld => ?_)
      clear hK K
      refine znA 6 (h := ?_)
      refine zoA 3 29 (h := fun K hK => ?_)
      refine zgA Try.func100 (wide_Mul.calls x4_1 x4_1 t290 t291 _ A14.out) (h := ?_)
      rintro w18 hb
      replace BK288 := zkb BK288 hb
      replace BK289 := zkb BK289 hb
      replace BK295 := zkb BK295 hb
      replace HB := zkB HB hb
      (try clear hb)
      refine hK.out _ _ (ze2 BK288) (fun hHeld => ?_)
      clear hK K
      refine znA 29 (h := ?_)
      refine zoA 4 30 (h := fun K hK => ?_)
      refine zgA Try.func153 (wide_U128_Sub.calls a0_0 a0_1 t290 t291 t292 t293 t294 _ A15.out) (h := ?_)
      rintro w19 hb
      replace BK288 := zkb BK288 hb
      replace BK289 := zkb BK289 hb
      replace BK295 := zkb BK295 hb
      replace HB := zkB HB hb
      (try clear hb)
      refine hK.out _ _ (ze2 BK288) (fun hHeld => ?_)
      clear hK K
      refine znA 30 (h := ?_)
      refine zpA 5 25 (h := ?_)
      refine zpA 6 31 (h := ?_)
      refine zpA 7 32 (h := ?_)
      exact norm_ (by simp only [putAll, Act.put, List.setIfInBounds_toArray, List.set_cons_zero, List.set_cons_succ]) (hCont (gb295) _ ⟨hHeld, (zkq BK288), (zkq BK289), (zkq BK295), GW295.out, GE295.out, NB288_295.out, NB295_288.out, NB289_295.out, NB295_289.out, zaB⟩)
    rintro gb295 w20 ⟨hS_, h0_, h1_, h2_, h3_, h4_, h5_, h6_, h7_, h8_, h9_⟩
    have n0_ : Aside0 (w20.heap[gb288]? = some (.cells #[.int .u64 a0_0, .int .u64 a0_1] 109 (0, 0))) := ⟨h0_⟩
    have n1_ : Aside0 (w20.heap[gb289]? = some (.cells #[.int .u64 0, .int .u64 0] 109 (0, 0))) := ⟨h1_⟩
    have n2_ : Aside0 (w20.heap[gb295]? = some (.cells #[.int .u64 0, .int .u64 0] 109 (0, 0))) := ⟨h2_⟩
    have n3_ : Aside0 (w.heap.size ≤ gb295) := ⟨h3_⟩
    have n4_ : Aside0 (w.heap.size ≤ gb295) := ⟨h4_⟩
    have n5_ : Aside0 (gb288 ≠ gb295) := ⟨h5_⟩
    have n6_ : Aside0 (gb295 ≠ gb288) := ⟨h6_⟩
    have n7_ : Aside0 (gb289 ≠ gb295) := ⟨h7_⟩
    have n8_ : Aside0 (gb295 ≠ gb289) := ⟨h8_⟩
    have n9_ : Aside0 (Below w.heap.size w w20) := ⟨h9_⟩
    clear BK288
    clear BK289
    clear HB
    clear h0_ h1_ h2_ h3_ h4_ h5_ h6_ h7_ h8_ h9_
    have BK288 := n0_
    have BK289 := n1_
    have BK295 := n2_
    have GW295 := n3_
    have GE295 := n4_
    have NB288_295 := n5_
    have NB295_288 := n6_
    have NB289_295 := n7_
    have NB295_289 := n8_
    have HB := n9_
    clear n0_ n1_ n2_ n3_ n4_ n5_ n6_ n7_ n8_ n9_
    have hHeld : w20.cell? ⟨gb288, 0, none⟩ = some (.int .u64 a0_0) ∧ w20.cell? ⟨gb288, 1, none⟩ = some (.int .u64 a0_1) := hS_
    refine norm_ (a' := ?_) ?_ ?_
    rotate_left
    ·simp only [putAll, Act.put, List.setIfInBounds_toArray, List.set_cons_zero, List.set_cons_succ]
     rfl
    refine one_ (i := 9) (N := none) #[true, true, true, true, true, true, true, true, true, true, false] rfl rfl (one_of HT_.out (by kernel_rfl)) (by decide) (fun K hK => ?_)
    have hs21 := zc0 BK295
    have hfs21 := blk_frozen BK295.out 0
    have hns21_0 := NB288_295.out
    have hns21_1 := NB289_295.out
    have hms21_0 := NB295_288.out
    have hms21_1 := NB295_289.out
    have hs22 := zc1 BK295
    have hfs22 := blk_frozen BK295.out 1
    have hns22_0 := NB288_295.out
    have hns22_1 := NB289_295.out
    have hms22_0 := NB295_288.out
    have hms22_1 := NB295_289.out
    refine skip_ (w1 := ?_) (by rfl) rfl ?_ ?_
    rotate_left
    ·go_simp
     rfl
    refine hK.out _ _ ⟨(zff NB288_295 (zff NB288_295 hHeld.1)), (zff NB288_295 (zff NB288_295 hHeld.2))⟩ (fun hHeld => ?_)
    clear hK K
    refine zpA 10 7 (h := ?_)
    refine done_ (done_of HT_.out (by kernel_rfl)) ?_
    try go_wp2
    generalize hW_ : ((w20.setCell ⟨gb295, 0, none⟩ (.int .u64 t292)).setCell ⟨gb295, 1, none⟩ (.int .u64 t293)) = w23
    replace BK288 := zkg hW_ (zkf (zkf BK288.out NB288_295.out _) NB288_295.out _)
    replace BK289 := zkg hW_ (zkf (zkf BK289.out NB289_295.out _) NB289_295.out _)
    replace BK295 := zkg hW_ (ob := .cells #[.int .u64 t292, .int .u64 t293] 109 (0, 0)) (blk_put (cs := #[.int .u64 t292, .int .u64 0]) (blk_put BK295.out 0 _ rfl) 1 _ rfl)
    replace HB := zkG hW_ (below_set (below_set HB.out GE295.out) GE295.out)
    clear hW_
    replace BK288 := Aside0.mk (blk_drew BK288.out)
    replace BK289 := Aside0.mk (blk_drew BK289.out)
    replace BK295 := Aside0.mk (blk_drew BK295.out)
    replace HB := Aside0.mk (below_drew1 HB.out)
    refine start_ (n := 4) (S := fun w' => w'.cell? ⟨gb295, 0, none⟩ = some (.int .u64 t292) ∧ w'.cell? ⟨gb295, 1, none⟩ = some (.int .u64 t293)) (ds := []) #[false, false, false, false] (by kernel_rfl) rfl rfl (ze2 BK295) (fun hHeld => ?_)
    generalize w23.drew = w24 at BK288 BK289 BK295 HB hHeld ⊢
    refine pure_ (i := 0) (N := some 33) (v := ?_) (a' := ?_) #[true, false, false, false] rfl rfl (by kernel_rfl) (fun _ _ _ h => h) (Or.inl ⟨by rfl, ?_⟩) ?_ ?_
    rotate_left
    ·intro w'
     go_simp
     with_reducible rfl
    rotate_left
    ·simp only [Act.put, List.setIfInBounds_toArray, List.set_cons_zero, List.set_cons_succ, i64_w, i32_w]
     rfl
    refine pure_ (i := 2) (N := some 2) (v := ?_) (a' := ?_) #[true, false, true, false] rfl rfl (by kernel_rfl) (fun _ _ _ h => h) (Or.inl ⟨by rfl, ?_⟩) ?_ ?_
    rotate_left
    ·intro w'
     go_simp
     with_reducible rfl
    rotate_left
    ·simp only [Act.put, List.setIfInBounds_toArray, List.set_cons_zero, List.set_cons_succ, i64_w, i32_w]
     rfl
    refine take_ (i := 1) (N := some 34) (v := ?_) (a' := ?_) #[true, true, true, false] rfl rfl (by kernel_rfl) (fun _ _ _ h => h) (Or.inl ⟨by rfl, ?_⟩) hHeld ?_ ?_
    rotate_left
    ·rintro w' ⟨s0, s1⟩
     go_simp
     with_reducible rfl
    rotate_left
    ·simp only [Act.put, List.setIfInBounds_toArray, List.set_cons_zero, List.set_cons_succ, i64_w, i32_w]
     rfl
    refine one_ (i := 3) (N := none) #[true, true, true, true] rfl rfl (by kernel_rfl) (by decide) (fun K hK => ?_)
    have hs25 := zc0 BK289
    have hfs25 := blk_frozen BK289.out 0
    have hns25_0 := NB288_289.out
    have hns25_2 := NB295_289.out
    have hms25_0 := NB289_288.out
    have hms25_2 := NB289_295.out
    have hs26 := zc1 BK289
    have hfs26 := blk_frozen BK289.out 1
    have hns26_0 := NB288_289.out
    have hns26_2 := NB295_289.out
    have hms26_0 := NB289_288.out
    have hms26_2 := NB289_295.out
    refine skip_ (w1 := ?_) (by rfl) rfl ?_ ?_
    rotate_left
    ·go_simp
     rfl
    refine hK.out _ _ ⟨(zff NB295_289 (zff NB295_289 hHeld.1)), (zff NB295_289 (zff NB295_289 hHeld.2))⟩ (fun hHeld => ?_)
    clear hK K
    refine done_ (by kernel_rfl) ?_
    try go_wp2
    refine bodyPost_ret (results_tc rfl _ _ gb289 109 #[.int .u64 t292, .int .u64 t293] (0, 0) _ rfl (blk_put (cs := #[.int .u64 t292, .int .u64 0]) (blk_put (zkq BK289) 0 _ rfl) 1 _ rfl) Try.underlying109 rfl (by kernel_rfl)) rfl ?_
    exact ⟨zaE, zaB⟩
end Go.Proofs.Ytmadjhmecfbcmaa.F
end
section
namespace Go.Proofs.Ytmadjhmecfbcmaa.F
open Go.RowKit Go.Proofs.YtmadjhmecfbcmaaW.PrintWords Go.Proofs.YtmadjhmecfbcmaaW.PrintLast Go.Proofs.YtmadjhmecfbcmaaW.PrintMore
attribute [local go_sem] max2_int min2_int max_two min_two max_three min_three max_four min_four
set_option linter.unusedVariables false
set_option linter.unusedSimpArgs false
attribute [local go_sem high] eqA109
def soft_Sqrt.T14 : Bool × List (List Nat × List Nat) := (true, [([], []), ([0], [0]), ([], []), ([2], [2]), ([], []), ([3, 4], [3, 4]), ([5], [5]), ([], []), ([], []), ([7, 8], [7, 8]), ([], []), ([1, 6, 9, 10], [1, 6, 9, 10]), ([11], [11]), ([11], [11]), ([12, 11, 0, 1, 2, 3, 4, 5, 6, 7, 8, 9, 10, 11, 12, 13], [12]), ([13, 14, 0, 1, 2, 3, 4, 5, 6, 7, 8, 9, 10, 11, 12, 13, 14], [13])])
def soft_Sqrt.B14 : List Nat := [0, 1, 0, 4, 0, 28, 60, 0, 0, 384, 0, 2047, 4095, 4095, 16383, 32767]
theorem soft_Sqrt.tab14 : rtab .any (opsOf Try.f29 14) = soft_Sqrt.T14 := by kernel_rfl
theorem soft_Sqrt.bits14 : waitsOk soft_Sqrt.T14.2 soft_Sqrt.B14 = true := by kernel_rfl
set_option maxHeartbeats 8000000 in
set_option maxRecDepth 100000 in
theorem soft_Sqrt.calls (k : Nat) (a0 : Int) (a1 : Int) (r1 : Int) (r2 : Int) (w : World) (h : soft_Sqrt.f k a0 a1 = some (r1, r2)) :
  Calls Try.prog 29 #[.int .u64 a0, .int .u8 a1] w fun e w' => e = .returned (.tuple #[.int .u64 r1, .int .u8 r2]) ∧ Below w.heap.size w w' := by
 have hu88 := Try.underlying88
 have hu109 := Try.underlying109
 have HB := Aside0.mk (Below.refl w.heap.size w)
 have H : ((soft_of.f k a0).bind fun bt299 => (if bt299.2.1 = 4 then ((pattern_Quiet.f).bind fun t305 => (some (t305, 0))) else (if bt299.2.1 = 0 then (soft_Sqrt.j0 k a0 a1 (bt299.2.1 == 0) bt299.1 bt299.2.1 bt299.2.2.1 bt299.2.2.2.1 bt299.2.2.2.2) else (if bt299.2.1 = 3 then (soft_Sqrt.j0 k a0 a1 (!bt299.2.2.1) bt299.1 bt299.2.1 bt299.2.2.1 bt299.2.2.2.1 bt299.2.2.2.2) else (soft_Sqrt.j0 k a0 a1 false bt299.1 bt299.2.1 bt299.2.2.1 bt299.2.2.2.1 bt299.2.2.2.2))))) = some (r1, r2) := h
 clear h
 obtain ⟨⟨t299, t300, t301, t302, t303⟩, A3, H⟩ := zbs H
 try dsimp only at H
 by_cases c4 : t300 = 4
 ·rw [if_pos c4] at H
  have c4b0 : (t300 == 4) = true := beq_iff_eq.mpr c4
  have c4b1 : (t300 != 4) = false := bne_eq_false_iff_eq.mpr c4
  clear c4
  obtain ⟨t305, A5, H⟩ := zbs H
  try dsimp only at H
  simp only [Option.some.injEq, Prod.mk.injEq] at H
  obtain ⟨rfl, rfl⟩ := H
  go_enter Try.func29, Try.ntmps29
  go_wp2_with (first | ((with_reducible refine gate_callee (f := 82) rfl ?_); refine zgL 12 Try.func82 (soft_of.calls k a0 t299 t300 t301 t302 t303 _ A3.out) (h := ?_); rintro w6 hb; replace HB := Aside0.mk (below_step zaB hb); (try clear hb)) | ((with_reducible refine gate_dst (N := 6) rfl ?_); refine zbx 6 #[.int .u64 0, .int .u8 0, .bool false, .int .u64 0, .int .i64 0] 88 (h := ?_); intro gb304 hg w7 hbox hb; have GW304 := zkZ hg (zaB (p := Below w.heap.size w _)); have GE304 := GW304; replace HB := Aside0.mk (below_step zaB hb); have BK304 := Aside0.mk (hbox); clear hb hbox hg; have hcz8_0 := zc0 BK304; have hcz8_1 := zc1 BK304; have hcz8_2 := zc2 BK304; have hcz8_3 := zc3 BK304; have hcz8_4 := zc4 BK304; have hfz8_0 := blk_frozen BK304.out 0; have hfz8_1 := blk_frozen BK304.out 1; have hfz8_2 := blk_frozen BK304.out 2; have hfz8_3 := blk_frozen BK304.out 3; have hfz8_4 := blk_frozen BK304.out 4) | ((with_reducible refine gate_callee (f := 81) rfl ?_); refine zgL 17 Try.func81 (pattern_Quiet.calls  t305 _ A5.out) (h := ?_); rintro w' ⟨nd, rfl⟩))
  go_ret2
  exact ⟨zaE, zaB⟩
 ·rw [if_neg c4] at H
  have c4b0 : (t300 == 4) = false := beq_eq_false_iff_ne.mpr c4
  have c4b1 : (t300 != 4) = true := bne_iff_ne.mpr c4
  have HC9 := Aside0.mk H
  clear H
  go_enter Try.func29, Try.ntmps29
  go_upto_if 18 with (first | ((with_reducible refine gate_callee (f := 82) rfl ?_); refine zgL 12 Try.func82 (soft_of.calls k a0 t299 t300 t301 t302 t303 _ A3.out) (h := ?_); rintro w10 hb; replace HB := Aside0.mk (below_step zaB hb); (try clear hb)) | ((with_reducible refine gate_dst (N := 6) rfl ?_); refine zbx 6 #[.int .u64 0, .int .u8 0, .bool false, .int .u64 0, .int .i64 0] 88 (h := ?_); intro gb304 hg w11 hbox hb; have GW304 := zkZ hg (zaB (p := Below w.heap.size w _)); have GE304 := GW304; replace HB := Aside0.mk (below_step zaB hb); have BK304 := Aside0.mk (hbox); clear hb hbox hg; have hcz12_0 := zc0 BK304; have hcz12_1 := zc1 BK304; have hcz12_2 := zc2 BK304; have hcz12_3 := zc3 BK304; have hcz12_4 := zc4 BK304; have hfz12_0 := blk_frozen BK304.out 0; have hfz12_1 := blk_frozen BK304.out 1; have hfz12_2 := blk_frozen BK304.out 2; have hfz12_3 := blk_frozen BK304.out 3; have hfz12_4 := blk_frozen BK304.out 4))
  (try simp only [Act.put, List.setIfInBounds_toArray, List.set_cons_zero, List.set_cons_succ])
  go_cut [18] (fun v18 wc => ∃ (kq : Nat) (x18_8 : Bool), v18 = .bool x18_8 ∧ Aside0 (soft_Sqrt.j0 kq a0 a1 x18_8 t299 t300 t301 t302 t303 = some (r1, r2)) ∧ Aside0 (kq ≤ k) ∧ Aside0 (wc.heap[gb304]? = some (.cells #[.int .u64 t299, .int .u8 t300, .bool t301, .int .u64 t302, .int .i64 t303] 88 (0, 0))) ∧ Aside0 (Below w.heap.size w wc))
  case first =>
   have H := HC9.out
   clear HC9
   by_cases c13 : t300 = 0
   ·rw [if_pos c13] at H
    have c13b0 : (t300 == 0) = true := beq_iff_eq.mpr c13
    have c13b1 : (t300 != 0) = false := bne_eq_false_iff_eq.mpr c13
    clear c13
    (first | rw [c13b0] | (simp only [i64_w, i32_w]; rw [c13b0]) | skip)
    have H' := Aside0.mk H
    clear H
    go_wp2
    go_meet
    case rel => exact ⟨_, ((t300 == 0)), (by first | rfl | (simp; done) | (simp [*]; done)), H', ⟨by first | omega | exact Nat.le_refl _⟩, ⟨(blk_put (cs := #[.int .u64 t299, .int .u8 t300, .bool t301, .int .u64 t302, .int .i64 0]) (blk_put (cs := #[.int .u64 t299, .int .u8 t300, .bool t301, .int .u64 0, .int .i64 0]) (blk_put (cs := #[.int .u64 t299, .int .u8 t300, .bool false, .int .u64 0, .int .i64 0]) (blk_put (cs := #[.int .u64 t299, .int .u8 0, .bool false, .int .u64 0, .int .i64 0]) (blk_put (zkq BK304) 0 _ rfl) 1 _ rfl) 2 _ rfl) 3 _ rfl) 4 _ rfl)⟩, ⟨zaB⟩⟩
   ·rw [if_neg c13] at H
    have c13b0 : (t300 == 0) = false := beq_eq_false_iff_ne.mpr c13
    have c13b1 : (t300 != 0) = true := bne_iff_ne.mpr c13
    (first | rw [c13b0] | (simp only [i64_w, i32_w]; rw [c13b0]) | skip)
    by_cases c14 : t300 = 3
    ·rw [if_pos c14] at H
     have c14b0 : (t300 == 3) = true := beq_iff_eq.mpr c14
     have c14b1 : (t300 != 3) = false := bne_eq_false_iff_eq.mpr c14
     clear c14
     have H' := Aside0.mk H
     clear H
     have hcz15_0 := zc0 BK304
     have hcz15_1 := zc1 BK304
     have hcz15_2 := zc2 BK304
     have hcz15_3 := zc3 BK304
     have hcz15_4 := zc4 BK304
     have hfz15_0 := blk_frozen BK304.out 0
     have hfz15_1 := blk_frozen BK304.out 1
     have hfz15_2 := blk_frozen BK304.out 2
     have hfz15_3 := blk_frozen BK304.out 3
     have hfz15_4 := blk_frozen BK304.out 4
     go_wp2
     go_meet
     case rel => exact ⟨_, (!t301), (by first | rfl | (simp; done) | (simp [*]; done)), H', ⟨by first | omega | exact Nat.le_refl _⟩, ⟨(blk_put (cs := #[.int .u64 t299, .int .u8 t300, .bool t301, .int .u64 t302, .int .i64 0]) (blk_put (cs := #[.int .u64 t299, .int .u8 t300, .bool t301, .int .u64 0, .int .i64 0]) (blk_put (cs := #[.int .u64 t299, .int .u8 t300, .bool false, .int .u64 0, .int .i64 0]) (blk_put (cs := #[.int .u64 t299, .int .u8 0, .bool false, .int .u64 0, .int .i64 0]) (blk_put (zkq BK304) 0 _ rfl) 1 _ rfl) 2 _ rfl) 3 _ rfl) 4 _ rfl)⟩, ⟨zaB⟩⟩
    ·rw [if_neg c14] at H
     have c14b0 : (t300 == 3) = false := beq_eq_false_iff_ne.mpr c14
     have c14b1 : (t300 != 3) = true := bne_iff_ne.mpr c14
     have H' := Aside0.mk H
     clear H
     have hcz16_0 := zc0 BK304
     have hcz16_1 := zc1 BK304
     have hcz16_2 := zc2 BK304
     have hcz16_3 := zc3 BK304
     have hcz16_4 := zc4 BK304
     have hfz16_0 := blk_frozen BK304.out 0
     have hfz16_1 := blk_frozen BK304.out 1
     have hfz16_2 := blk_frozen BK304.out 2
     have hfz16_3 := blk_frozen BK304.out 3
     have hfz16_4 := blk_frozen BK304.out 4
     go_wp2
     go_meet
     case rel => exact ⟨_, (false), (by first | rfl | (simp; done) | (simp [*]; done)), H', ⟨by first | omega | exact Nat.le_refl _⟩, ⟨(blk_put (cs := #[.int .u64 t299, .int .u8 t300, .bool t301, .int .u64 t302, .int .i64 0]) (blk_put (cs := #[.int .u64 t299, .int .u8 t300, .bool t301, .int .u64 0, .int .i64 0]) (blk_put (cs := #[.int .u64 t299, .int .u8 t300, .bool false, .int .u64 0, .int .i64 0]) (blk_put (cs := #[.int .u64 t299, .int .u8 0, .bool false, .int .u64 0, .int .i64 0]) (blk_put (zkq BK304) 0 _ rfl) 1 _ rfl) 2 _ rfl) 3 _ rfl) 4 _ rfl)⟩, ⟨zaB⟩⟩
  case rest =>
   clear HC9
   try clear c1
   try clear c2
   try clear p2
   try clear c4
   try clear c4b0
   try clear c4b1
   try clear c8
   try clear c13
   try clear c13b0
   try clear c13b1
   try clear c14
   try clear c14b0
   try clear c14b1
   try clear hcz12_0
   try clear hcz12_1
   try clear hcz12_2
   try clear hcz12_3
   try clear hcz12_4
   try clear hcz15_0
   try clear hcz15_1
   try clear hcz15_2
   try clear hcz15_3
   try clear hcz15_4
   try clear hcz16_0
   try clear hcz16_1
   try clear hcz16_2
   try clear hcz16_3
   try clear hcz16_4
   try clear hcz8_0
   try clear hcz8_1
   try clear hcz8_2
   try clear hcz8_3
   try clear hcz8_4
   try clear hfz12_0
   try clear hfz12_1
   try clear hfz12_2
   try clear hfz12_3
   try clear hfz12_4
   try clear hfz15_0
   try clear hfz15_1
   try clear hfz15_2
   try clear hfz15_3
   try clear hfz15_4
   try clear hfz16_0
   try clear hfz16_1
   try clear hfz16_2
   try clear hfz16_3
   try clear hfz16_4
   try clear hfz8_0
   try clear hfz8_1
   try clear hfz8_2
   try clear hfz8_3
   try clear hfz8_4
   obtain ⟨kq, x18_8, rfl, HA, HJ8, BK304, HB⟩ := hcut
   cases kq with
   | zero => exact absurd HA.out (by simp [soft_Sqrt.j0])
   | succ kj8 =>
    have H := HA.out
    clear HA
    simp only [soft_Sqrt.j0] at H
    by_cases c17 : x18_8 = true
    ·subst c17
     have H1 : (some (a0, 0)) = some (r1, r2) := by rw [if_pos rfl] at H; exact H
     clear H
     have H := H1
     clear H1
     simp only [Option.some.injEq, Prod.mk.injEq] at H
     obtain ⟨rfl, rfl⟩ := H
     go_wp2
     go_ret2
     exact ⟨zaE, zaB⟩
    ·replace c17 := Bool.eq_false_iff.mpr c17
     subst c17
     have H1 : (if t301 = true then ((soft_invalid.f).bind fun bt306 => (some (bt306.1, bt306.2))) else ((wide_U128_Len.f 0 t302).bind fun t309 => (if (Int.tmod (wrap64 (t303 - (wrap64 (126 - t309)))) 2) = 0 then ((wide_U128_Shl.f kj8 0 t302 (wrap64 (126 - t309))).bind fun bt310 => ((wide_U128_Sqrt.f kj8 bt310.1 bt310.2).bind fun bt312 => ((round_Round.f kj8 false 0 bt312.1 (wrap64 (Int.tdiv (wrap64 (t303 - (wrap64 (126 - t309)))) 2)) (!(bt312.2.1 == 0) || (!(bt312.2.2 == 0))) a1).bind fun bt316 => (some (bt316.1, bt316.2))))) else ((wide_U128_Shl.f kj8 0 t302 (wrap64 ((wrap64 (126 - t309)) + 1))).bind fun bt318 => ((wide_U128_Sqrt.f kj8 bt318.1 bt318.2).bind fun bt320 => ((round_Round.f kj8 false 0 bt320.1 (wrap64 (Int.tdiv (wrap64 (t303 - (wrap64 ((wrap64 (126 - t309)) + 1)))) 2)) (!(bt320.2.1 == 0) || (!(bt320.2.2 == 0))) a1).bind fun bt324 => (some (bt324.1, bt324.2)))))))) = some (r1, r2) := by rw [if_neg (show ¬ (false = true) by decide)] at H; exact H
     clear H
     have H := H1
     clear H1
     by_cases c18 : t301 = true
     ·subst c18
      have H1 : ((soft_invalid.f).bind fun bt306 => (some (bt306.1, bt306.2))) = some (r1, r2) := by rw [if_pos rfl] at H; exact H
      clear H
      have H := H1
      clear H1
      obtain ⟨⟨t306, t307⟩, A19, H⟩ := zbs H
      try dsimp only at H
      simp only [Option.some.injEq, Prod.mk.injEq] at H
      obtain ⟨rfl, rfl⟩ := H
      have hcz20_0 := zc0 BK304
      have hcz20_1 := zc1 BK304
      have hcz20_2 := zc2 BK304
      have hcz20_3 := zc3 BK304
      have hcz20_4 := zc4 BK304
      have hfz20_0 := blk_frozen BK304.out 0
      have hfz20_1 := blk_frozen BK304.out 1
      have hfz20_2 := blk_frozen BK304.out 2
      have hfz20_3 := blk_frozen BK304.out 3
      have hfz20_4 := blk_frozen BK304.out 4
      go_wp2_with (first | ((with_reducible refine gate_callee (f := 84) rfl ?_); refine zgL 34 Try.func84 (soft_invalid.calls  t306 t307 _ A19.out) (h := ?_); rintro w' ⟨nd, rfl⟩))
      go_ret2
      exact ⟨zaE, zaB⟩
     ·replace c18 := Bool.eq_false_iff.mpr c18
      subst c18
      have H1 : ((wide_U128_Len.f 0 t302).bind fun t309 => (if (Int.tmod (wrap64 (t303 - (wrap64 (126 - t309)))) 2) = 0 then ((wide_U128_Shl.f kj8 0 t302 (wrap64 (126 - t309))).bind fun bt310 => ((wide_U128_Sqrt.f kj8 bt310.1 bt310.2).bind fun bt312 => ((round_Round.f kj8 false 0 bt312.1 (wrap64 (Int.tdiv (wrap64 (t303 - (wrap64 (126 - t309)))) 2)) (!(bt312.2.1 == 0) || (!(bt312.2.2 == 0))) a1).bind fun bt316 => (some (bt316.1, bt316.2))))) else ((wide_U128_Shl.f kj8 0 t302 (wrap64 ((wrap64 (126 - t309)) + 1))).bind fun bt318 => ((wide_U128_Sqrt.f kj8 bt318.1 bt318.2).bind fun bt320 => ((round_Round.f kj8 false 0 bt320.1 (wrap64 (Int.tdiv (wrap64 (t303 - (wrap64 ((wrap64 (126 - t309)) + 1)))) 2)) (!(bt320.2.1 == 0) || (!(bt320.2.2 == 0))) a1).bind fun bt324 => (some (bt324.1, bt324.2))))))) = some (r1, r2) := by rw [if_neg (show ¬ (false = true) by decide)] at H; exact H
      clear H
      have H := H1
      clear H1
      obtain ⟨t309, A21, H⟩ := zbs H
      try dsimp only at H
      by_cases c22 : (Int.tmod (wrap64 (t303 - (wrap64 (126 - t309)))) 2) = 0
      ·rw [if_pos c22] at H
       have c22b0 : ((Int.tmod (wrap64 (t303 - (wrap64 (126 - t309)))) 2) == 0) = true := beq_iff_eq.mpr c22
       have c22b1 : ((Int.tmod (wrap64 (t303 - (wrap64 (126 - t309)))) 2) != 0) = false := bne_eq_false_iff_eq.mpr c22
       clear c22
       obtain ⟨⟨t310, t311⟩, A23, H⟩ := zbs H
       try dsimp only at H
       obtain ⟨⟨t312, t313, t314⟩, A24, H⟩ := zbs H
       try dsimp only at H
       obtain ⟨⟨t316, t317⟩, A25, H⟩ := zbs H
       try dsimp only at H
       simp only [Option.some.injEq, Prod.mk.injEq] at H
       obtain ⟨rfl, rfl⟩ := H
       have hcz26_0 := zc0 BK304
       have hcz26_1 := zc1 BK304
       have hcz26_2 := zc2 BK304
       have hcz26_3 := zc3 BK304
       have hcz26_4 := zc4 BK304
       have hfz26_0 := blk_frozen BK304.out 0
       have hfz26_1 := blk_frozen BK304.out 1
       have hfz26_2 := blk_frozen BK304.out 2
       have hfz26_3 := blk_frozen BK304.out 3
       have hfz26_4 := blk_frozen BK304.out 4
       try go_wp2_with (first | ((with_reducible refine gate_dst (N := 7) rfl ?_); refine zbx 7 #[.int .u64 0, .int .u64 0] 109 (h := ?_); intro gb308 hg w27 hbox hb; have GW308 := zkz HB hg; have GE308 := GW308; have NB304_308 := zkl BK304 hg; have NB308_304 := zkr BK304 hg; replace BK304 := zkb BK304 hb; replace HB := zkB HB hb; have BK308 := Aside0.mk (hbox); clear hb hbox hg; have hnb28 := NB308_304.out; have hnc28 := NB304_308.out; have hcz29_0 := zc0 BK308; have hcz29_1 := zc1 BK308; have hfz29_0 := blk_frozen BK308.out 0; have hfz29_1 := blk_frozen BK308.out 1) | ((with_reducible refine gate_callee (f := 103) rfl ?_); refine zgL 41 Try.func103 (wide_U128_Len.calls 0 t302 t309 _ A21.out) (h := ?_); rintro w30 hb; replace BK304 := Aside0.mk (blk_below (zkf (zkf BK304.out NB304_308.out _) NB304_308.out _) hb); replace BK308 := Aside0.mk (blk_below (o := .cells #[.int .u64 0, .int .u64 t302] 109 (0, 0)) (blk_put (cs := #[.int .u64 0, .int .u64 0]) (blk_put BK308.out 0 _ rfl) 1 _ rfl) hb); replace HB := Aside0.mk (below_step (below_set (below_set HB.out GE308.out) GE308.out) hb); (try clear hb); have hcz31_0 := zc0 BK304; have hcz31_1 := zc1 BK304; have hcz31_2 := zc2 BK304; have hcz31_3 := zc3 BK304; have hcz31_4 := zc4 BK304; have hfz31_0 := blk_frozen BK304.out 0; have hfz31_1 := blk_frozen BK304.out 1; have hfz31_2 := blk_frozen BK304.out 2; have hfz31_3 := blk_frozen BK304.out 3; have hfz31_4 := blk_frozen BK304.out 4; have hcz32_0 := zc0 BK308; have hcz32_1 := zc1 BK308; have hfz32_0 := blk_frozen BK308.out 0; have hfz32_1 := blk_frozen BK308.out 1) | ((with_reducible refine gate_callee (f := 106) rfl ?_); refine zgL 54 Try.func106 (wide_U128_Shl.calls kj8 0 t302 (wrap64 (126 - t309)) t310 t311 _ A23.out) (h := ?_); rintro w33 hb; replace BK304 := zkb BK304 hb; replace BK308 := zkb BK308 hb; replace HB := zkB HB hb; (try clear hb)) | ((with_reducible refine gate_callee (f := 107) rfl ?_); refine zgL 55 Try.func107 (wide_U128_Sqrt.calls kj8 t310 t311 t312 t313 t314 _ A24.out) (h := ?_); rintro w34 hb; replace BK304 := zkb BK304 hb; replace BK308 := zkb BK308 hb; replace HB := zkB HB hb; (try clear hb)) | ((with_reducible refine gate_dst (N := 10) rfl ?_); refine zbx 10 #[.int .u64 0, .int .u64 0] 109 (h := ?_); intro gb315 hg w35 hbox hb; have GW315 := zkz HB hg; have GE315 := GW315; have NB304_315 := zkl BK304 hg; have NB315_304 := zkr BK304 hg; have NB308_315 := zkl BK308 hg; have NB315_308 := zkr BK308 hg; replace BK304 := zkb BK304 hb; replace BK308 := zkb BK308 hb; replace HB := zkB HB hb; have BK315 := Aside0.mk (hbox); clear hb hbox hg; have hnb36 := NB315_304.out; have hnc36 := NB304_315.out; have hnb37 := NB315_308.out; have hnc37 := NB308_315.out; have hcz38_0 := zc0 BK315; have hcz38_1 := zc1 BK315; have hfz38_0 := blk_frozen BK315.out 0; have hfz38_1 := blk_frozen BK315.out 1))
       generalize hW_ : ((w35.setCell ⟨gb315, 0, none⟩ (.int .u64 t313)).setCell ⟨gb315, 1, none⟩ (.int .u64 t314)) = w39
       replace BK304 := zkg hW_ (zkf (zkf BK304.out NB304_315.out _) NB304_315.out _)
       replace BK308 := zkg hW_ (zkf (zkf BK308.out NB308_315.out _) NB308_315.out _)
       replace BK315 := zkg hW_ (ob := .cells #[.int .u64 t313, .int .u64 t314] 109 (0, 0)) (blk_put (cs := #[.int .u64 t313, .int .u64 0]) (blk_put BK315.out 0 _ rfl) 1 _ rfl)
       replace HB := zkG hW_ (below_set (below_set HB.out GE315.out) GE315.out)
       clear hW_
       replace BK304 := Aside0.mk (blk_drew BK304.out)
       replace BK308 := Aside0.mk (blk_drew BK308.out)
       replace BK315 := Aside0.mk (blk_drew BK315.out)
       replace HB := Aside0.mk (below_drew1 HB.out)
       refine start_ (n := 16) (S := fun w' => w'.cell? ⟨gb304, 0, none⟩ = some (.int .u64 t299) ∧ w'.cell? ⟨gb304, 1, none⟩ = some (.int .u8 t300) ∧ w'.cell? ⟨gb304, 2, none⟩ = some (.bool false) ∧ w'.cell? ⟨gb304, 3, none⟩ = some (.int .u64 t302) ∧ w'.cell? ⟨gb304, 4, none⟩ = some (.int .i64 t303) ∧ w'.cell? ⟨gb315, 0, none⟩ = some (.int .u64 t313) ∧ w'.cell? ⟨gb315, 1, none⟩ = some (.int .u64 t314)) (ds := []) #[false, false, false, false, false, false, false, false, false, false, false, false, false, false, false, false] (by kernel_rfl) rfl rfl (zk5 BK304 (ze2 BK315)) (fun hHeld => ?_); refine with_tabW soft_Sqrt.tab14 soft_Sqrt.bits14 (fun HT_ HW_ => ?_)
       generalize w39.drew = w40 at BK304 BK308 BK315 HB hHeld ⊢
       refine zpA 0 58 (h := ?_)
       refine zpA 1 59 (h := ?_)
       refine zpA 2 60 (h := ?_)
       refine zpA 4 62 (h := ?_)
       refine zpA 8 66 (h := ?_)
       refine zpA 10 68 (h := ?_)
       refine ztA 3 61 (h := ?_)
       refine zpA 5 63 (h := ?_)
       refine zpA 6 64 (h := ?_)
       refine ztA 7 65 (h := ?_)
       refine zpA 9 67 (h := ?_)
       refine zoA 11 69 (h := fun K hK => ?_)
       refine zgA Try.func99 (round_Round.calls kj8 false 0 t312 (wrap64 (Int.tdiv (wrap64 (t303 - (wrap64 (126 - t309)))) 2)) (!(t313 == 0) || (!(t314 == 0))) a1 t316 t317 _ A25.out) (h := ?_)
       rintro w41 hb
       replace BK304 := zkb BK304 hb
       replace BK308 := zkb BK308 hb
       replace BK315 := zkb BK315 hb
       replace HB := zkB HB hb
       (try clear hb)
       refine hK.out _ _ (zk5 BK304 (ze2 BK315)) (fun hHeld => ?_)
       clear hK K
       refine znA 69 (h := ?_)
       refine zpA 12 70 (h := ?_)
       refine zpA 13 71 (h := ?_)
       refine zpA 14 4 (h := ?_)
       refine zpA 15 5 (h := ?_)
       refine done_ (done_of HT_.out (by kernel_rfl)) ?_
       try go_wp2
       go_ret2
       exact ⟨zaE, zaB⟩
      ·rw [if_neg c22] at H
       have c22b0 : ((Int.tmod (wrap64 (t303 - (wrap64 (126 - t309)))) 2) == 0) = false := beq_eq_false_iff_ne.mpr c22
       have c22b1 : ((Int.tmod (wrap64 (t303 - (wrap64 (126 - t309)))) 2) != 0) = true := bne_iff_ne.mpr c22
       obtain ⟨⟨t318, t319⟩, A42, H⟩ := zbs H
       try dsimp only at H
       obtain ⟨⟨t320, t321, t322⟩, A43, H⟩ := zbs H
       try dsimp only at H
       obtain ⟨⟨t324, t325⟩, A44, H⟩ := zbs H
       try dsimp only at H
       simp only [Option.some.injEq, Prod.mk.injEq] at H
       obtain ⟨rfl, rfl⟩ := H
       have hcz45_0 := zc0 BK304
       have hcz45_1 := zc1 BK304
       have hcz45_2 := zc2 BK304
       have hcz45_3 := zc3 BK304
       have hcz45_4 := zc4 BK304
       have hfz45_0 := blk_frozen BK304.out 0
       have hfz45_1 := blk_frozen BK304.out 1
       have hfz45_2 := blk_frozen BK304.out 2
       have hfz45_3 := blk_frozen BK304.out 3
       have hfz45_4 := blk_frozen BK304.out 4
       try go_wp2_with (first | ((with_reducible refine gate_dst (N := 7) rfl ?_); refine zbx 7 #[.int .u64 0, .int .u64 0] 109 (h := ?_); intro gb308 hg w46 hbox hb; have GW308 := zkz HB hg; have GE308 := GW308; have NB304_308 := zkl BK304 hg; have NB308_304 := zkr BK304 hg; replace BK304 := zkb BK304 hb; replace HB := zkB HB hb; have BK308 := Aside0.mk (hbox); clear hb hbox hg; have hnb47 := NB308_304.out; have hnc47 := NB304_308.out; have hcz48_0 := zc0 BK308; have hcz48_1 := zc1 BK308; have hfz48_0 := blk_frozen BK308.out 0; have hfz48_1 := blk_frozen BK308.out 1) | ((with_reducible refine gate_callee (f := 103) rfl ?_); refine zgL 41 Try.func103 (wide_U128_Len.calls 0 t302 t309 _ A21.out) (h := ?_); rintro w49 hb; replace BK304 := Aside0.mk (blk_below (zkf (zkf BK304.out NB304_308.out _) NB304_308.out _) hb); replace BK308 := Aside0.mk (blk_below (o := .cells #[.int .u64 0, .int .u64 t302] 109 (0, 0)) (blk_put (cs := #[.int .u64 0, .int .u64 0]) (blk_put BK308.out 0 _ rfl) 1 _ rfl) hb); replace HB := Aside0.mk (below_step (below_set (below_set HB.out GE308.out) GE308.out) hb); (try clear hb); have hcz50_0 := zc0 BK304; have hcz50_1 := zc1 BK304; have hcz50_2 := zc2 BK304; have hcz50_3 := zc3 BK304; have hcz50_4 := zc4 BK304; have hfz50_0 := blk_frozen BK304.out 0; have hfz50_1 := blk_frozen BK304.out 1; have hfz50_2 := blk_frozen BK304.out 2; have hfz50_3 := blk_frozen BK304.out 3; have hfz50_4 := blk_frozen BK304.out 4; have hcz51_0 := zc0 BK308; have hcz51_1 := zc1 BK308; have hfz51_0 := blk_frozen BK308.out 0; have hfz51_1 := blk_frozen BK308.out 1) | ((with_reducible refine gate_callee (f := 106) rfl ?_); refine zgL 54 Try.func106 (wide_U128_Shl.calls kj8 0 t302 (wrap64 ((wrap64 (126 - t309)) + 1)) t318 t319 _ A42.out) (h := ?_); rintro w52 hb; replace BK304 := zkb BK304 hb; replace BK308 := zkb BK308 hb; replace HB := zkB HB hb; (try clear hb)) | ((with_reducible refine gate_callee (f := 107) rfl ?_); refine zgL 55 Try.func107 (wide_U128_Sqrt.calls kj8 t318 t319 t320 t321 t322 _ A43.out) (h := ?_); rintro w53 hb; replace BK304 := zkb BK304 hb; replace BK308 := zkb BK308 hb; replace HB := zkB HB hb; (try clear hb)) | ((with_reducible refine gate_dst (N := 10) rfl ?_); refine zbx 10 #[.int .u64 0, .int .u64 0] 109 (h := ?_); intro gb323 hg w54 hbox hb; have GW323 := zkz HB hg; have GE323 := GW323; have NB304_323 := zkl BK304 hg; have NB323_304 := zkr BK304 hg; have NB308_323 := zkl BK308 hg; have NB323_308 := zkr BK308 hg; replace BK304 := zkb BK304 hb; replace BK308 := zkb BK308 hb; replace HB := zkB HB hb; have BK323 := Aside0.mk (hbox); clear hb hbox hg; have hnb55 := NB323_304.out; have hnc55 := NB304_323.out; have hnb56 := NB323_308.out; have hnc56 := NB308_323.out; have hcz57_0 := zc0 BK323; have hcz57_1 := zc1 BK323; have hfz57_0 := blk_frozen BK323.out 0; have hfz57_1 := blk_frozen BK323.out 1))
       generalize hW_ : ((w54.setCell ⟨gb323, 0, none⟩ (.int .u64 t321)).setCell ⟨gb323, 1, none⟩ (.int .u64 t322)) = w58
       replace BK304 := zkg hW_ (zkf (zkf BK304.out NB304_323.out _) NB304_323.out _)
       replace BK308 := zkg hW_ (zkf (zkf BK308.out NB308_323.out _) NB308_323.out _)
       replace BK323 := zkg hW_ (ob := .cells #[.int .u64 t321, .int .u64 t322] 109 (0, 0)) (blk_put (cs := #[.int .u64 t321, .int .u64 0]) (blk_put BK323.out 0 _ rfl) 1 _ rfl)
       replace HB := zkG hW_ (below_set (below_set HB.out GE323.out) GE323.out)
       clear hW_
       replace BK304 := Aside0.mk (blk_drew BK304.out)
       replace BK308 := Aside0.mk (blk_drew BK308.out)
       replace BK323 := Aside0.mk (blk_drew BK323.out)
       replace HB := Aside0.mk (below_drew1 HB.out)
       refine start_ (n := 16) (S := fun w' => w'.cell? ⟨gb304, 0, none⟩ = some (.int .u64 t299) ∧ w'.cell? ⟨gb304, 1, none⟩ = some (.int .u8 t300) ∧ w'.cell? ⟨gb304, 2, none⟩ = some (.bool false) ∧ w'.cell? ⟨gb304, 3, none⟩ = some (.int .u64 t302) ∧ w'.cell? ⟨gb304, 4, none⟩ = some (.int .i64 t303) ∧ w'.cell? ⟨gb323, 0, none⟩ = some (.int .u64 t321) ∧ w'.cell? ⟨gb323, 1, none⟩ = some (.int .u64 t322)) (ds := []) #[false, false, false, false, false, false, false, false, false, false, false, false, false, false, false, false] (by kernel_rfl) rfl rfl (zk5 BK304 (ze2 BK323)) (fun hHeld => ?_); refine with_tabW soft_Sqrt.tab14 soft_Sqrt.bits14 (fun HT_ HW_ => ?_)
       generalize w58.drew = w59 at BK304 BK308 BK323 HB hHeld ⊢
       refine zpA 0 58 (h := ?_)
       refine zpA 1 59 (h := ?_)
       refine zpA 2 60 (h := ?_)
       refine zpA 4 62 (h := ?_)
       refine zpA 8 66 (h := ?_)
       refine zpA 10 68 (h := ?_)
       refine ztA 3 61 (h := ?_)
       refine zpA 5 63 (h := ?_)
       refine zpA 6 64 (h := ?_)
       refine ztA 7 65 (h := ?_)
       refine zpA 9 67 (h := ?_)
       refine zoA 11 69 (h := fun K hK => ?_)
       refine zgA Try.func99 (round_Round.calls kj8 false 0 t320 (wrap64 (Int.tdiv (wrap64 (t303 - (wrap64 ((wrap64 (126 - t309)) + 1)))) 2)) (!(t321 == 0) || (!(t322 == 0))) a1 t324 t325 _ A44.out) (h := ?_)
       rintro w60 hb
       replace BK304 := zkb BK304 hb
       replace BK308 := zkb BK308 hb
       replace BK323 := zkb BK323 hb
       replace HB := zkB HB hb
       (try clear hb)
       refine hK.out _ _ (zk5 BK304 (ze2 BK323)) (fun hHeld => ?_)
       clear hK K
       refine znA 69 (h := ?_)
       refine zpA 12 70 (h := ?_)
       refine zpA 13 71 (h := ?_)
       refine zpA 14 4 (h := ?_)
       refine zpA 15 5 (h := ?_)
       refine done_ (done_of HT_.out (by kernel_rfl)) ?_
       try go_wp2
       go_ret2
       exact ⟨zaE, zaB⟩
end Go.Proofs.Ytmadjhmecfbcmaa.F
end
section
namespace Go.Proofs.Ytmadjhmecfbcmaa.F
open Go.RowKit Go.Proofs.YtmadjhmecfbcmaaW.PrintWords Go.Proofs.YtmadjhmecfbcmaaW.PrintLast Go.Proofs.YtmadjhmecfbcmaaW.PrintMore
attribute [local go_sem] max2_int min2_int max_two min_two max_three min_three max_four min_four
set_option linter.unusedVariables false
set_option linter.unusedSimpArgs false
set_option maxHeartbeats 8000000 in
set_option maxRecDepth 100000 in
theorem soft_Sum.calls (k : Nat) (a0 : Int) (A1 : Option Addr) (c1 : Nat) (l1 : List Int) (r : Int) (w : World) (hr1 : Kd.C (Kd.int .u64) w A1 l1.length l1) (hc1 : l1.length ≤ c1) (h : soft_Sum.f k a0 l1 = some r) :
  Calls Try.prog 31 #[.int .u8 a0, .slice A1 l1.length c1] w fun e w' => e = .returned (.int .u64 r) ∧ Below w.heap.size w w' := by
 have HR1 := Aside0.mk hr1
 have HC1 := Aside0.mk hc1
 clear hr1 hc1
 have HB := Aside0.mk (Below.refl w.heap.size w)
 have H : (soft_Sum.l0 k a0 0 l1 (l1.length : Int) 0) = some r := h
 clear h
 have H' := Aside0.mk H
 clear H
 go_enter Try.func31, Try.ntmps31
 go_wp2
 (try simp only [Act.put, List.setIfInBounds_toArray, List.set_cons_zero, List.set_cons_succ])
 go_loopg [5, 10] k (fun kq v5 v10 w' => ∃ (x5_1 : Int) (x10_1 : Int), v5 = .int .u64 x5_1 ∧ v10 = .int .i64 x10_1 ∧ Aside0 (soft_Sum.l0 kq a0 x5_1 l1 (l1.length : Int) x10_1 = some r) ∧ Aside0 (kq ≤ k) ∧ Aside0 (Below w.heap.size w w'))
 case atStart => exact ⟨(0), (0), (by first | rfl | (simp; done) | (simp [*]; done)), (by first | rfl | (simp; done) | (simp [*]; done)), H', ⟨Nat.le_refl _⟩, ⟨zaB⟩⟩
 case round =>
  clear H'
  try clear c1
  try clear p2
  obtain ⟨x5_1, x10_1, rfl, rfl, HA, HK1, HB⟩ := hrel
  cases gk with
  | zero => exact absurd HA.out (by simp [soft_Sum.l0])
  | succ k1 =>
   have H := HA.out
   clear HA
   simp only [soft_Sum.l0] at H
   by_cases c3 : x10_1 < (l1.length : Int)
   ·rw [if_pos c3] at H
    have c3b0 : decide (x10_1 < (l1.length : Int)) = true := decide_eq_true c3
    clear c3
    by_cases c4 : 0 ≤ x10_1
    ·rw [if_pos c4] at H
     have c4b0 : decide (0 ≤ x10_1) = true := decide_eq_true c4
     clear c4
     by_cases c5 : x10_1 < (l1.length : Int)
     ·rw [if_pos c5] at H
      have c5b0 : decide (x10_1 < (l1.length : Int)) = true := decide_eq_true c5
      clear c5
      obtain ⟨⟨t327, t328⟩, A6, H⟩ := zbs H
      try dsimp only at H
      have H' := Aside0.mk H
      clear H
      have p326 : 0 ≤ (x10_1 : Int) := of_decide_eq_true (by first | (with_reducible assumption) | assumption)
      have q326 : x10_1 < (l1.length : Int) := of_decide_eq_true (by first | (with_reducible assumption) | assumption)
      obtain ⟨ad326, e326, hx326_0⟩ := Kd.at_int HR1.out x10_1 p326 q326
      cases e326
      replace hx326_0 := (HB.out.cell (World.block_lt_of_cell? w _ hx326_0)).trans hx326_0
      replace p326 := eq_true p326
      replace q326 := eq_true q326
      go_wp2_with (first | ((with_reducible refine gate_callee (f := 21) rfl ?_); refine zgL 18 Try.func21 (soft_Add.calls k1 x5_1 (rd l1 x10_1) a0 t327 t328 _ A6.out) (h := ?_); rintro w7 hb; replace HB := Aside0.mk (below_step zaB hb); (try clear hb)))
      go_roundg k1
      case measure => have := HK1.out; omega
      case rel => exact ⟨(t327), (wrap64 (x10_1 + 1)), (by first | rfl | (simp; done) | (simp [*]; done)), (by first | rfl | (simp; done) | (simp [*]; done)), H', ⟨by have := HK1.out; omega⟩, ⟨zaB⟩⟩
     ·rw [if_neg c5] at H
      exact absurd H (by simp)
    ·rw [if_neg c4] at H
     exact absurd H (by simp)
   ·rw [if_neg c3] at H
    have c3b0 : decide (x10_1 < (l1.length : Int)) = false := decide_eq_false c3
    clear c3
    obtain rfl := Option.some.inj H
    go_wp2
    go_ret
    exact ⟨zaE, zaB⟩
end Go.Proofs.Ytmadjhmecfbcmaa.F
end
section
namespace Go.Proofs.Ytmadjhmecfbcmaa.F
open Go.RowKit Go.Proofs.YtmadjhmecfbcmaaW.PrintWords Go.Proofs.YtmadjhmecfbcmaaW.PrintLast Go.Proofs.YtmadjhmecfbcmaaW.PrintMore
attribute [local go_sem] max2_int min2_int max_two min_two max_three min_three max_four min_four
set_option linter.unusedVariables false
set_option linter.unusedSimpArgs false
set_option maxHeartbeats 8000000 in
set_option maxRecDepth 100000 in
theorem flyballlaw06_works.calls (k : Nat)  (r : Bool) (w : World) (h : flyballlaw06_works.f k  = some r) :
  Calls Try.prog 20 #[] w fun e w' => e = .returned (.bool r) ∧ Below w.heap.size w w' := by
 have HB := Aside0.mk (Below.refl w.heap.size w)
 have H : ((soft_Add.f k 4607182418800017408 4368491638549381120 0).bind fun bt329 => ((soft_Add.f k 4607182418800017408 4368491638549381120 1).bind fun bt331 => ((soft_Sub.f k 4607182418800017408 4607182418800017408 0).bind fun bt333 => ((soft_Sub.f k 4607182418800017408 4607182418800017408 2).bind fun bt335 => ((soft_Div.f k 13830554455654793216 0 0).bind fun bt337 => ((soft_Sqrt.f k 4611686018427387904 0).bind fun bt339 => ((pattern_Inf.f k false).bind fun t341 => ((soft_Mul.f k 0 t341 0).bind fun bt342 => ((soft_Sum.f k 0 (([4607182418800017408, 4607182418800017408, 4607182418800017408] : List Int))).bind fun t347 => (if bt329.1 = 4607182418800017408 then (if bt329.2 = 1 then (if bt331.1 = 4607182418800017409 then (if bt333.1 = 0 then (if bt335.1 = 9223372036854775808 then ((pattern_Inf.f k true).bind fun t348 => (if bt337.1 = t348 then (if bt337.2 = 8 then (if bt339.1 = 4609047870845172685 then ((pattern_Quiet.f).bind fun t349 => (if bt342.1 = t349 then (if bt342.2 = 16 then (some (t347 == 4613937818241073152)) else (some false)) else (some false))) else (some false)) else (some false)) else (some false))) else (some false)) else (some false)) else (some false)) else (some false)) else (some false))))))))))) = some r := h
 clear h
 obtain ⟨⟨t329, t330⟩, A1, H⟩ := zbs H
 try dsimp only at H
 obtain ⟨⟨t331, t332⟩, A2, H⟩ := zbs H
 try dsimp only at H
 obtain ⟨⟨t333, t334⟩, A3, H⟩ := zbs H
 try dsimp only at H
 obtain ⟨⟨t335, t336⟩, A4, H⟩ := zbs H
 try dsimp only at H
 obtain ⟨⟨t337, t338⟩, A5, H⟩ := zbs H
 try dsimp only at H
 obtain ⟨⟨t339, t340⟩, A6, H⟩ := zbs H
 try dsimp only at H
 obtain ⟨t341, A7, H⟩ := zbs H
 try dsimp only at H
 obtain ⟨⟨t342, t343⟩, A8, H⟩ := zbs H
 try dsimp only at H
 obtain ⟨y344, hy344⟩ : ∃ y_ : List Int, y_ = (([4607182418800017408, 4607182418800017408, 4607182418800017408] : List Int)) := ⟨_, rfl⟩
 replace H : ((soft_Sum.f k 0 y344).bind fun t347 => (if t329 = 4607182418800017408 then (if t330 = 1 then (if t331 = 4607182418800017409 then (if t333 = 0 then (if t335 = 9223372036854775808 then ((pattern_Inf.f k true).bind fun t348 => (if t337 = t348 then (if t338 = 8 then (if t339 = 4609047870845172685 then ((pattern_Quiet.f).bind fun t349 => (if t342 = t349 then (if t343 = 16 then (some (t347 == 4613937818241073152)) else (some false)) else (some false))) else (some false)) else (some false)) else (some false))) else (some false)) else (some false)) else (some false)) else (some false)) else (some false))) = some r := by first | (rw [hy344]; with_reducible exact H) | (have H2_ := (Option.bind_some _ _).symm.trans H; rw [hy344]; with_reducible exact H2_) | (have H2_ := (Option.bind_some _ _).symm.trans H; with_reducible exact H2_) | with_reducible exact H | (rw [hy344]; exact H) | exact H
 have Ny344 := Aside0.mk hy344
 clear hy344
 obtain ⟨t347, A9, H⟩ := zbs H
 try dsimp only at H
 by_cases c10 : t329 = 4607182418800017408
 ·rw [if_pos c10] at H
  have c10b0 : (t329 == 4607182418800017408) = true := beq_iff_eq.mpr c10
  have c10b1 : (t329 != 4607182418800017408) = false := bne_eq_false_iff_eq.mpr c10
  clear c10
  by_cases c11 : t330 = 1
  ·rw [if_pos c11] at H
   have c11b0 : (t330 == 1) = true := beq_iff_eq.mpr c11
   have c11b1 : (t330 != 1) = false := bne_eq_false_iff_eq.mpr c11
   clear c11
   by_cases c12 : t331 = 4607182418800017409
   ·rw [if_pos c12] at H
    have c12b0 : (t331 == 4607182418800017409) = true := beq_iff_eq.mpr c12
    have c12b1 : (t331 != 4607182418800017409) = false := bne_eq_false_iff_eq.mpr c12
    clear c12
    by_cases c13 : t333 = 0
    ·rw [if_pos c13] at H
     have c13b0 : (t333 == 0) = true := beq_iff_eq.mpr c13
     have c13b1 : (t333 != 0) = false := bne_eq_false_iff_eq.mpr c13
     clear c13
     by_cases c14 : t335 = 9223372036854775808
     ·rw [if_pos c14] at H
      have c14b0 : (t335 == 9223372036854775808) = true := beq_iff_eq.mpr c14
      have c14b1 : (t335 != 9223372036854775808) = false := bne_eq_false_iff_eq.mpr c14
      clear c14
      obtain ⟨t348, A15, H⟩ := zbs H
      try dsimp only at H
      by_cases c16 : t337 = t348
      ·rw [if_pos c16] at H
       have c16b0 : (t337 == t348) = true := beq_iff_eq.mpr c16
       have c16b1 : (t337 != t348) = false := bne_eq_false_iff_eq.mpr c16
       clear c16
       by_cases c17 : t338 = 8
       ·rw [if_pos c17] at H
        have c17b0 : (t338 == 8) = true := beq_iff_eq.mpr c17
        have c17b1 : (t338 != 8) = false := bne_eq_false_iff_eq.mpr c17
        clear c17
        by_cases c18 : t339 = 4609047870845172685
        ·rw [if_pos c18] at H
         have c18b0 : (t339 == 4609047870845172685) = true := beq_iff_eq.mpr c18
         have c18b1 : (t339 != 4609047870845172685) = false := bne_eq_false_iff_eq.mpr c18
         clear c18
         obtain ⟨t349, A19, H⟩ := zbs H
         try dsimp only at H
         by_cases c20 : t342 = t349
         ·rw [if_pos c20] at H
          have c20b0 : (t342 == t349) = true := beq_iff_eq.mpr c20
          have c20b1 : (t342 != t349) = false := bne_eq_false_iff_eq.mpr c20
          clear c20
          by_cases c21 : t343 = 16
          ·rw [if_pos c21] at H
           have c21b0 : (t343 == 16) = true := beq_iff_eq.mpr c21
           have c21b1 : (t343 != 16) = false := bne_eq_false_iff_eq.mpr c21
           clear c21
           obtain rfl := Option.some.inj H
           go_enter Try.func20, Try.ntmps20
           go_wp2_with (first | ((with_reducible refine gate_callee (f := 21) rfl ?_); refine zgL 17 Try.func21 (soft_Add.calls k 4607182418800017408 4368491638549381120 0 t329 t330 _ A1.out) (h := ?_); rintro w22 hb; replace HB := Aside0.mk (below_step zaB hb); (try clear hb)) | ((with_reducible refine gate_callee (f := 21) rfl ?_); refine zgL 21 Try.func21 (soft_Add.calls k 4607182418800017408 4368491638549381120 1 t331 t332 _ A2.out) (h := ?_); rintro w23 hb; replace HB := Aside0.mk (below_step zaB hb); (try clear hb)) | ((with_reducible refine gate_callee (f := 23) rfl ?_); refine zgL 25 Try.func23 (soft_Sub.calls k 4607182418800017408 4607182418800017408 0 t333 t334 _ A3.out) (h := ?_); rintro w24 hb; replace HB := Aside0.mk (below_step zaB hb); (try clear hb)) | ((with_reducible refine gate_callee (f := 23) rfl ?_); refine zgL 29 Try.func23 (soft_Sub.calls k 4607182418800017408 4607182418800017408 2 t335 t336 _ A4.out) (h := ?_); rintro w25 hb; replace HB := Aside0.mk (below_step zaB hb); (try clear hb)) | ((with_reducible refine gate_callee (f := 27) rfl ?_); refine zgL 33 Try.func27 (soft_Div.calls k 13830554455654793216 0 0 t337 t338 _ A5.out) (h := ?_); rintro w26 hb; replace HB := Aside0.mk (below_step zaB hb); (try clear hb)) | ((with_reducible refine gate_callee (f := 29) rfl ?_); refine zgL 37 Try.func29 (soft_Sqrt.calls k 4611686018427387904 0 t339 t340 _ A6.out) (h := ?_); rintro w27 hb; replace HB := Aside0.mk (below_step zaB hb); (try clear hb)) | ((with_reducible refine gate_callee (f := 79) rfl ?_); refine zgL 41 Try.func79 (pattern_Inf.calls k false t341 _ A7.out) (h := ?_); rintro w' ⟨nd, rfl⟩) | ((with_reducible refine gate_callee (f := 25) rfl ?_); refine zgL 42 Try.func25 (soft_Mul.calls k 0 t341 0 t342 t343 _ A8.out) (h := ?_); rintro w28 hb; replace HB := Aside0.mk (below_step zaB hb); (try clear hb)) | ((with_reducible refine gate_dst (N := 45) rfl ?_); refine Kd.R_lit (Kd.int .u64) _ 23 ?hg (N := 45) ?hd (xs := ([4607182418800017408, 4607182418800017408, 4607182418800017408] : List Int)) (inner := [.int .u64 4607182418800017408, .int .u64 4607182418800017408, .int .u64 4607182418800017408]) (ok := fun _ => True) (okp := fun _ => True) ?hr ?hp (fun _ hk => hk) trivial (Below.refl _ _) (Nat.le_refl _) (by simp) ?_; (case hd => rfl); (case hg => rfl); (case hr => first | (go_simp; done) | (go_simp; rfl)); (case hp => exact (Reps.one (show Kd.M (Kd.int .u64) _ _ _ 4607182418800017408 [.int .u64 4607182418800017408] from rfl) (Reps.one (show Kd.M (Kd.int .u64) _ _ _ 4607182418800017408 [.int .u64 4607182418800017408] from rfl) (Reps.one (show Kd.M (Kd.int .u64) _ _ _ 4607182418800017408 [.int .u64 4607182418800017408] from rfl) (Reps.none _ _))))); intro v345 w29 ho30 hb hg_ hnew_; clear hg_ hnew_; (first | rw [← Ny344.out] at ho30 | (simp only [Int.reduceToNat] at ho30; rw [← Ny344.out] at ho30)); have HO346 := Aside0.mk (Kd.R_lower ho30 (below_size zaB)); replace HB := Aside0.mk (below_step zaB hb); clear hb ho30; obtain ⟨Ao31, co31, eo31⟩ := Kd.R_slice HO346.out; subst eo31) | ((with_reducible refine gate_callee (f := 31) rfl ?_); refine goesL_ (some 46) rfl rfl Try.func31 (by kernel_rfl) rfl #[.int .u8 0, .slice Ao31 y344.length co31] rfl (by (try simp only [List.map_toArray, List.map_cons, List.map_nil]); first | done | rfl | (simp only [List.length_drop, List.length_take]; rfl)) ?_; (with_reducible refine (soft_Sum.calls k 0 _ _ y344 t347 _ ?side1 ?side2 A9.out).mono ?_); (case side1 => repeat (first | exact (Kd.R_reads' HO346.out).2.2 | (with_reducible refine Kd.C_alloc ?_ _) | (with_reducible refine Kd.C_drewN ?_ _) | (with_reducible refine Kd.C_drew ?_))); (case side2 => exact (Kd.R_reads' HO346.out).2.1); rintro e w32 ⟨rfl, hb⟩; refine ⟨_, rfl, ?_⟩; replace HO346 := Aside0.mk (Kd.R_below (by (with_reducible repeat (first | apply Kd.R_alloc | apply Kd.R_drewN | apply Kd.R_drew)); exact HO346.out) hb); replace HB := Aside0.mk (below_step zaB hb); (try clear hb)) | (go_at_call 79; (with_reducible refine (pattern_Inf.calls k true t348 _ A15.out).mono ?_); rintro e w' ⟨rfl, ⟨nd, rfl⟩⟩) | (go_at_call 81; (with_reducible refine (pattern_Quiet.calls  t349 _ A19.out).mono ?_); rintro e w' ⟨rfl, ⟨nd, rfl⟩⟩))
           go_ret
           exact ⟨zaE, zaB⟩
          ·rw [if_neg c21] at H
           have c21b0 : (t343 == 16) = false := beq_eq_false_iff_ne.mpr c21
           have c21b1 : (t343 != 16) = true := bne_iff_ne.mpr c21
           obtain rfl := Option.some.inj H
           go_enter Try.func20, Try.ntmps20
           go_wp2_with (first | ((with_reducible refine gate_callee (f := 21) rfl ?_); refine zgL 17 Try.func21 (soft_Add.calls k 4607182418800017408 4368491638549381120 0 t329 t330 _ A1.out) (h := ?_); rintro w33 hb; replace HB := Aside0.mk (below_step zaB hb); (try clear hb)) | ((with_reducible refine gate_callee (f := 21) rfl ?_); refine zgL 21 Try.func21 (soft_Add.calls k 4607182418800017408 4368491638549381120 1 t331 t332 _ A2.out) (h := ?_); rintro w34 hb; replace HB := Aside0.mk (below_step zaB hb); (try clear hb)) | ((with_reducible refine gate_callee (f := 23) rfl ?_); refine zgL 25 Try.func23 (soft_Sub.calls k 4607182418800017408 4607182418800017408 0 t333 t334 _ A3.out) (h := ?_); rintro w35 hb; replace HB := Aside0.mk (below_step zaB hb); (try clear hb)) | ((with_reducible refine gate_callee (f := 23) rfl ?_); refine zgL 29 Try.func23 (soft_Sub.calls k 4607182418800017408 4607182418800017408 2 t335 t336 _ A4.out) (h := ?_); rintro w36 hb; replace HB := Aside0.mk (below_step zaB hb); (try clear hb)) | ((with_reducible refine gate_callee (f := 27) rfl ?_); refine zgL 33 Try.func27 (soft_Div.calls k 13830554455654793216 0 0 t337 t338 _ A5.out) (h := ?_); rintro w37 hb; replace HB := Aside0.mk (below_step zaB hb); (try clear hb)) | ((with_reducible refine gate_callee (f := 29) rfl ?_); refine zgL 37 Try.func29 (soft_Sqrt.calls k 4611686018427387904 0 t339 t340 _ A6.out) (h := ?_); rintro w38 hb; replace HB := Aside0.mk (below_step zaB hb); (try clear hb)) | ((with_reducible refine gate_callee (f := 79) rfl ?_); refine zgL 41 Try.func79 (pattern_Inf.calls k false t341 _ A7.out) (h := ?_); rintro w' ⟨nd, rfl⟩) | ((with_reducible refine gate_callee (f := 25) rfl ?_); refine zgL 42 Try.func25 (soft_Mul.calls k 0 t341 0 t342 t343 _ A8.out) (h := ?_); rintro w39 hb; replace HB := Aside0.mk (below_step zaB hb); (try clear hb)) | ((with_reducible refine gate_dst (N := 45) rfl ?_); refine Kd.R_lit (Kd.int .u64) _ 23 ?hg (N := 45) ?hd (xs := ([4607182418800017408, 4607182418800017408, 4607182418800017408] : List Int)) (inner := [.int .u64 4607182418800017408, .int .u64 4607182418800017408, .int .u64 4607182418800017408]) (ok := fun _ => True) (okp := fun _ => True) ?hr ?hp (fun _ hk => hk) trivial (Below.refl _ _) (Nat.le_refl _) (by simp) ?_; (case hd => rfl); (case hg => rfl); (case hr => first | (go_simp; done) | (go_simp; rfl)); (case hp => exact (Reps.one (show Kd.M (Kd.int .u64) _ _ _ 4607182418800017408 [.int .u64 4607182418800017408] from rfl) (Reps.one (show Kd.M (Kd.int .u64) _ _ _ 4607182418800017408 [.int .u64 4607182418800017408] from rfl) (Reps.one (show Kd.M (Kd.int .u64) _ _ _ 4607182418800017408 [.int .u64 4607182418800017408] from rfl) (Reps.none _ _))))); intro v345 w40 ho41 hb hg_ hnew_; clear hg_ hnew_; (first | rw [← Ny344.out] at ho41 | (simp only [Int.reduceToNat] at ho41; rw [← Ny344.out] at ho41)); have HO346 := Aside0.mk (Kd.R_lower ho41 (below_size zaB)); replace HB := Aside0.mk (below_step zaB hb); clear hb ho41; obtain ⟨Ao42, co42, eo42⟩ := Kd.R_slice HO346.out; subst eo42) | ((with_reducible refine gate_callee (f := 31) rfl ?_); refine goesL_ (some 46) rfl rfl Try.func31 (by kernel_rfl) rfl #[.int .u8 0, .slice Ao42 y344.length co42] rfl (by (try simp only [List.map_toArray, List.map_cons, List.map_nil]); first | done | rfl | (simp only [List.length_drop, List.length_take]; rfl)) ?_; (with_reducible refine (soft_Sum.calls k 0 _ _ y344 t347 _ ?side1 ?side2 A9.out).mono ?_); (case side1 => repeat (first | exact (Kd.R_reads' HO346.out).2.2 | (with_reducible refine Kd.C_alloc ?_ _) | (with_reducible refine Kd.C_drewN ?_ _) | (with_reducible refine Kd.C_drew ?_))); (case side2 => exact (Kd.R_reads' HO346.out).2.1); rintro e w43 ⟨rfl, hb⟩; refine ⟨_, rfl, ?_⟩; replace HO346 := Aside0.mk (Kd.R_below (by (with_reducible repeat (first | apply Kd.R_alloc | apply Kd.R_drewN | apply Kd.R_drew)); exact HO346.out) hb); replace HB := Aside0.mk (below_step zaB hb); (try clear hb)) | (go_at_call 79; (with_reducible refine (pattern_Inf.calls k true t348 _ A15.out).mono ?_); rintro e w' ⟨rfl, ⟨nd, rfl⟩⟩) | (go_at_call 81; (with_reducible refine (pattern_Quiet.calls  t349 _ A19.out).mono ?_); rintro e w' ⟨rfl, ⟨nd, rfl⟩⟩))
           go_ret
           exact ⟨zaE, zaB⟩
         ·rw [if_neg c20] at H
          have c20b0 : (t342 == t349) = false := beq_eq_false_iff_ne.mpr c20
          have c20b1 : (t342 != t349) = true := bne_iff_ne.mpr c20
          obtain rfl := Option.some.inj H
          go_enter Try.func20, Try.ntmps20
          go_wp2_with (first | ((with_reducible refine gate_callee (f := 21) rfl ?_); refine zgL 17 Try.func21 (soft_Add.calls k 4607182418800017408 4368491638549381120 0 t329 t330 _ A1.out) (h := ?_); rintro w44 hb; replace HB := Aside0.mk (below_step zaB hb); (try clear hb)) | ((with_reducible refine gate_callee (f := 21) rfl ?_); refine zgL 21 Try.func21 (soft_Add.calls k 4607182418800017408 4368491638549381120 1 t331 t332 _ A2.out) (h := ?_); rintro w45 hb; replace HB := Aside0.mk (below_step zaB hb); (try clear hb)) | ((with_reducible refine gate_callee (f := 23) rfl ?_); refine zgL 25 Try.func23 (soft_Sub.calls k 4607182418800017408 4607182418800017408 0 t333 t334 _ A3.out) (h := ?_); rintro w46 hb; replace HB := Aside0.mk (below_step zaB hb); (try clear hb)) | ((with_reducible refine gate_callee (f := 23) rfl ?_); refine zgL 29 Try.func23 (soft_Sub.calls k 4607182418800017408 4607182418800017408 2 t335 t336 _ A4.out) (h := ?_); rintro w47 hb; replace HB := Aside0.mk (below_step zaB hb); (try clear hb)) | ((with_reducible refine gate_callee (f := 27) rfl ?_); refine zgL 33 Try.func27 (soft_Div.calls k 13830554455654793216 0 0 t337 t338 _ A5.out) (h := ?_); rintro w48 hb; replace HB := Aside0.mk (below_step zaB hb); (try clear hb)) | ((with_reducible refine gate_callee (f := 29) rfl ?_); refine zgL 37 Try.func29 (soft_Sqrt.calls k 4611686018427387904 0 t339 t340 _ A6.out) (h := ?_); rintro w49 hb; replace HB := Aside0.mk (below_step zaB hb); (try clear hb)) | ((with_reducible refine gate_callee (f := 79) rfl ?_); refine zgL 41 Try.func79 (pattern_Inf.calls k false t341 _ A7.out) (h := ?_); rintro w' ⟨nd, rfl⟩) | ((with_reducible refine gate_callee (f := 25) rfl ?_); refine zgL 42 Try.func25 (soft_Mul.calls k 0 t341 0 t342 t343 _ A8.out) (h := ?_); rintro w50 hb; replace HB := Aside0.mk (below_step zaB hb); (try clear hb)) | ((with_reducible refine gate_dst (N := 45) rfl ?_); refine Kd.R_lit (Kd.int .u64) _ 23 ?hg (N := 45) ?hd (xs := ([4607182418800017408, 4607182418800017408, 4607182418800017408] : List Int)) (inner := [.int .u64 4607182418800017408, .int .u64 4607182418800017408, .int .u64 4607182418800017408]) (ok := fun _ => True) (okp := fun _ => True) ?hr ?hp (fun _ hk => hk) trivial (Below.refl _ _) (Nat.le_refl _) (by simp) ?_; (case hd => rfl); (case hg => rfl); (case hr => first | (go_simp; done) | (go_simp; rfl)); (case hp => exact (Reps.one (show Kd.M (Kd.int .u64) _ _ _ 4607182418800017408 [.int .u64 4607182418800017408] from rfl) (Reps.one (show Kd.M (Kd.int .u64) _ _ _ 4607182418800017408 [.int .u64 4607182418800017408] from rfl) (Reps.one (show Kd.M (Kd.int .u64) _ _ _ 4607182418800017408 [.int .u64 4607182418800017408] from rfl) (Reps.none _ _))))); intro v345 w51 ho52 hb hg_ hnew_; clear hg_ hnew_; (first | rw [← Ny344.out] at ho52 | (simp only [Int.reduceToNat] at ho52; rw [← Ny344.out] at ho52)); have HO346 := Aside0.mk (Kd.R_lower ho52 (below_size zaB)); replace HB := Aside0.mk (below_step zaB hb); clear hb ho52; obtain ⟨Ao53, co53, eo53⟩ := Kd.R_slice HO346.out; subst eo53) | ((with_reducible refine gate_callee (f := 31) rfl ?_); refine goesL_ (some 46) rfl rfl Try.func31 (by kernel_rfl) rfl #[.int .u8 0, .slice Ao53 y344.length co53] rfl (by (try simp only [List.map_toArray, List.map_cons, List.map_nil]); first | done | rfl | (simp only [List.length_drop, List.length_take]; rfl)) ?_; (with_reducible refine (soft_Sum.calls k 0 _ _ y344 t347 _ ?side1 ?side2 A9.out).mono ?_); (case side1 => repeat (first | exact (Kd.R_reads' HO346.out).2.2 | (with_reducible refine Kd.C_alloc ?_ _) | (with_reducible refine Kd.C_drewN ?_ _) | (with_reducible refine Kd.C_drew ?_))); (case side2 => exact (Kd.R_reads' HO346.out).2.1); rintro e w54 ⟨rfl, hb⟩; refine ⟨_, rfl, ?_⟩; replace HO346 := Aside0.mk (Kd.R_below (by (with_reducible repeat (first | apply Kd.R_alloc | apply Kd.R_drewN | apply Kd.R_drew)); exact HO346.out) hb); replace HB := Aside0.mk (below_step zaB hb); (try clear hb)) | (go_at_call 79; (with_reducible refine (pattern_Inf.calls k true t348 _ A15.out).mono ?_); rintro e w' ⟨rfl, ⟨nd, rfl⟩⟩) | (go_at_call 81; (with_reducible refine (pattern_Quiet.calls  t349 _ A19.out).mono ?_); rintro e w' ⟨rfl, ⟨nd, rfl⟩⟩))
          go_ret
          exact ⟨zaE, zaB⟩
        ·rw [if_neg c18] at H
         have c18b0 : (t339 == 4609047870845172685) = false := beq_eq_false_iff_ne.mpr c18
         have c18b1 : (t339 != 4609047870845172685) = true := bne_iff_ne.mpr c18
         obtain rfl := Option.some.inj H
         go_enter Try.func20, Try.ntmps20
         go_wp2_with (first | ((with_reducible refine gate_callee (f := 21) rfl ?_); refine zgL 17 Try.func21 (soft_Add.calls k 4607182418800017408 4368491638549381120 0 t329 t330 _ A1.out) (h := ?_); rintro w55 hb; replace HB := Aside0.mk (below_step zaB hb); (try clear hb)) | ((with_reducible refine gate_callee (f := 21) rfl ?_); refine zgL 21 Try.func21 (soft_Add.calls k 4607182418800017408 4368491638549381120 1 t331 t332 _ A2.out) (h := ?_); rintro w56 hb; replace HB := Aside0.mk (below_step zaB hb); (try clear hb)) | ((with_reducible refine gate_callee (f := 23) rfl ?_); refine zgL 25 Try.func23 (soft_Sub.calls k 4607182418800017408 4607182418800017408 0 t333 t334 _ A3.out) (h := ?_); rintro w57 hb; replace HB := Aside0.mk (below_step zaB hb); (try clear hb)) | ((with_reducible refine gate_callee (f := 23) rfl ?_); refine zgL 29 Try.func23 (soft_Sub.calls k 4607182418800017408 4607182418800017408 2 t335 t336 _ A4.out) (h := ?_); rintro w58 hb; replace HB := Aside0.mk (below_step zaB hb); (try clear hb)) | ((with_reducible refine gate_callee (f := 27) rfl ?_); refine zgL 33 Try.func27 (soft_Div.calls k 13830554455654793216 0 0 t337 t338 _ A5.out) (h := ?_); rintro w59 hb; replace HB := Aside0.mk (below_step zaB hb); (try clear hb)) | ((with_reducible refine gate_callee (f := 29) rfl ?_); refine zgL 37 Try.func29 (soft_Sqrt.calls k 4611686018427387904 0 t339 t340 _ A6.out) (h := ?_); rintro w60 hb; replace HB := Aside0.mk (below_step zaB hb); (try clear hb)) | ((with_reducible refine gate_callee (f := 79) rfl ?_); refine zgL 41 Try.func79 (pattern_Inf.calls k false t341 _ A7.out) (h := ?_); rintro w' ⟨nd, rfl⟩) | ((with_reducible refine gate_callee (f := 25) rfl ?_); refine zgL 42 Try.func25 (soft_Mul.calls k 0 t341 0 t342 t343 _ A8.out) (h := ?_); rintro w61 hb; replace HB := Aside0.mk (below_step zaB hb); (try clear hb)) | ((with_reducible refine gate_dst (N := 45) rfl ?_); refine Kd.R_lit (Kd.int .u64) _ 23 ?hg (N := 45) ?hd (xs := ([4607182418800017408, 4607182418800017408, 4607182418800017408] : List Int)) (inner := [.int .u64 4607182418800017408, .int .u64 4607182418800017408, .int .u64 4607182418800017408]) (ok := fun _ => True) (okp := fun _ => True) ?hr ?hp (fun _ hk => hk) trivial (Below.refl _ _) (Nat.le_refl _) (by simp) ?_; (case hd => rfl); (case hg => rfl); (case hr => first | (go_simp; done) | (go_simp; rfl)); (case hp => exact (Reps.one (show Kd.M (Kd.int .u64) _ _ _ 4607182418800017408 [.int .u64 4607182418800017408] from rfl) (Reps.one (show Kd.M (Kd.int .u64) _ _ _ 4607182418800017408 [.int .u64 4607182418800017408] from rfl) (Reps.one (show Kd.M (Kd.int .u64) _ _ _ 4607182418800017408 [.int .u64 4607182418800017408] from rfl) (Reps.none _ _))))); intro v345 w62 ho63 hb hg_ hnew_; clear hg_ hnew_; (first | rw [← Ny344.out] at ho63 | (simp only [Int.reduceToNat] at ho63; rw [← Ny344.out] at ho63)); have HO346 := Aside0.mk (Kd.R_lower ho63 (below_size zaB)); replace HB := Aside0.mk (below_step zaB hb); clear hb ho63; obtain ⟨Ao64, co64, eo64⟩ := Kd.R_slice HO346.out; subst eo64) | ((with_reducible refine gate_callee (f := 31) rfl ?_); refine goesL_ (some 46) rfl rfl Try.func31 (by kernel_rfl) rfl #[.int .u8 0, .slice Ao64 y344.length co64] rfl (by (try simp only [List.map_toArray, List.map_cons, List.map_nil]); first | done | rfl | (simp only [List.length_drop, List.length_take]; rfl)) ?_; (with_reducible refine (soft_Sum.calls k 0 _ _ y344 t347 _ ?side1 ?side2 A9.out).mono ?_); (case side1 => repeat (first | exact (Kd.R_reads' HO346.out).2.2 | (with_reducible refine Kd.C_alloc ?_ _) | (with_reducible refine Kd.C_drewN ?_ _) | (with_reducible refine Kd.C_drew ?_))); (case side2 => exact (Kd.R_reads' HO346.out).2.1); rintro e w65 ⟨rfl, hb⟩; refine ⟨_, rfl, ?_⟩; replace HO346 := Aside0.mk (Kd.R_below (by (with_reducible repeat (first | apply Kd.R_alloc | apply Kd.R_drewN | apply Kd.R_drew)); exact HO346.out) hb); replace HB := Aside0.mk (below_step zaB hb); (try clear hb)) | (go_at_call 79; (with_reducible refine (pattern_Inf.calls k true t348 _ A15.out).mono ?_); rintro e w' ⟨rfl, ⟨nd, rfl⟩⟩))
         go_ret
         exact ⟨zaE, zaB⟩
       ·rw [if_neg c17] at H
        have c17b0 : (t338 == 8) = false := beq_eq_false_iff_ne.mpr c17
        have c17b1 : (t338 != 8) = true := bne_iff_ne.mpr c17
        obtain rfl := Option.some.inj H
        go_enter Try.func20, Try.ntmps20
        go_wp2_with (first | ((with_reducible refine gate_callee (f := 21) rfl ?_); refine zgL 17 Try.func21 (soft_Add.calls k 4607182418800017408 4368491638549381120 0 t329 t330 _ A1.out) (h := ?_); rintro w66 hb; replace HB := Aside0.mk (below_step zaB hb); (try clear hb)) | ((with_reducible refine gate_callee (f := 21) rfl ?_); refine zgL 21 Try.func21 (soft_Add.calls k 4607182418800017408 4368491638549381120 1 t331 t332 _ A2.out) (h := ?_); rintro w67 hb; replace HB := Aside0.mk (below_step zaB hb); (try clear hb)) | ((with_reducible refine gate_callee (f := 23) rfl ?_); refine zgL 25 Try.func23 (soft_Sub.calls k 4607182418800017408 4607182418800017408 0 t333 t334 _ A3.out) (h := ?_); rintro w68 hb; replace HB := Aside0.mk (below_step zaB hb); (try clear hb)) | ((with_reducible refine gate_callee (f := 23) rfl ?_); refine zgL 29 Try.func23 (soft_Sub.calls k 4607182418800017408 4607182418800017408 2 t335 t336 _ A4.out) (h := ?_); rintro w69 hb; replace HB := Aside0.mk (below_step zaB hb); (try clear hb)) | ((with_reducible refine gate_callee (f := 27) rfl ?_); refine zgL 33 Try.func27 (soft_Div.calls k 13830554455654793216 0 0 t337 t338 _ A5.out) (h := ?_); rintro w70 hb; replace HB := Aside0.mk (below_step zaB hb); (try clear hb)) | ((with_reducible refine gate_callee (f := 29) rfl ?_); refine zgL 37 Try.func29 (soft_Sqrt.calls k 4611686018427387904 0 t339 t340 _ A6.out) (h := ?_); rintro w71 hb; replace HB := Aside0.mk (below_step zaB hb); (try clear hb)) | ((with_reducible refine gate_callee (f := 79) rfl ?_); refine zgL 41 Try.func79 (pattern_Inf.calls k false t341 _ A7.out) (h := ?_); rintro w' ⟨nd, rfl⟩) | ((with_reducible refine gate_callee (f := 25) rfl ?_); refine zgL 42 Try.func25 (soft_Mul.calls k 0 t341 0 t342 t343 _ A8.out) (h := ?_); rintro w72 hb; replace HB := Aside0.mk (below_step zaB hb); (try clear hb)) | ((with_reducible refine gate_dst (N := 45) rfl ?_); refine Kd.R_lit (Kd.int .u64) _ 23 ?hg (N := 45) ?hd (xs := ([4607182418800017408, 4607182418800017408, 4607182418800017408] : List Int)) (inner := [.int .u64 4607182418800017408, .int .u64 4607182418800017408, .int .u64 4607182418800017408]) (ok := fun _ => True) (okp := fun _ => True) ?hr ?hp (fun _ hk => hk) trivial (Below.refl _ _) (Nat.le_refl _) (by simp) ?_; (case hd => rfl); (case hg => rfl); (case hr => first | (go_simp; done) | (go_simp; rfl)); (case hp => exact (Reps.one (show Kd.M (Kd.int .u64) _ _ _ 4607182418800017408 [.int .u64 4607182418800017408] from rfl) (Reps.one (show Kd.M (Kd.int .u64) _ _ _ 4607182418800017408 [.int .u64 4607182418800017408] from rfl) (Reps.one (show Kd.M (Kd.int .u64) _ _ _ 4607182418800017408 [.int .u64 4607182418800017408] from rfl) (Reps.none _ _))))); intro v345 w73 ho74 hb hg_ hnew_; clear hg_ hnew_; (first | rw [← Ny344.out] at ho74 | (simp only [Int.reduceToNat] at ho74; rw [← Ny344.out] at ho74)); have HO346 := Aside0.mk (Kd.R_lower ho74 (below_size zaB)); replace HB := Aside0.mk (below_step zaB hb); clear hb ho74; obtain ⟨Ao75, co75, eo75⟩ := Kd.R_slice HO346.out; subst eo75) | ((with_reducible refine gate_callee (f := 31) rfl ?_); refine goesL_ (some 46) rfl rfl Try.func31 (by kernel_rfl) rfl #[.int .u8 0, .slice Ao75 y344.length co75] rfl (by (try simp only [List.map_toArray, List.map_cons, List.map_nil]); first | done | rfl | (simp only [List.length_drop, List.length_take]; rfl)) ?_; (with_reducible refine (soft_Sum.calls k 0 _ _ y344 t347 _ ?side1 ?side2 A9.out).mono ?_); (case side1 => repeat (first | exact (Kd.R_reads' HO346.out).2.2 | (with_reducible refine Kd.C_alloc ?_ _) | (with_reducible refine Kd.C_drewN ?_ _) | (with_reducible refine Kd.C_drew ?_))); (case side2 => exact (Kd.R_reads' HO346.out).2.1); rintro e w76 ⟨rfl, hb⟩; refine ⟨_, rfl, ?_⟩; replace HO346 := Aside0.mk (Kd.R_below (by (with_reducible repeat (first | apply Kd.R_alloc | apply Kd.R_drewN | apply Kd.R_drew)); exact HO346.out) hb); replace HB := Aside0.mk (below_step zaB hb); (try clear hb)) | (go_at_call 79; (with_reducible refine (pattern_Inf.calls k true t348 _ A15.out).mono ?_); rintro e w' ⟨rfl, ⟨nd, rfl⟩⟩))
        go_ret
        exact ⟨zaE, zaB⟩
      ·rw [if_neg c16] at H
       have c16b0 : (t337 == t348) = false := beq_eq_false_iff_ne.mpr c16
       have c16b1 : (t337 != t348) = true := bne_iff_ne.mpr c16
       obtain rfl := Option.some.inj H
       go_enter Try.func20, Try.ntmps20
       go_wp2_with (first | ((with_reducible refine gate_callee (f := 21) rfl ?_); refine zgL 17 Try.func21 (soft_Add.calls k 4607182418800017408 4368491638549381120 0 t329 t330 _ A1.out) (h := ?_); rintro w77 hb; replace HB := Aside0.mk (below_step zaB hb); (try clear hb)) | ((with_reducible refine gate_callee (f := 21) rfl ?_); refine zgL 21 Try.func21 (soft_Add.calls k 4607182418800017408 4368491638549381120 1 t331 t332 _ A2.out) (h := ?_); rintro w78 hb; replace HB := Aside0.mk (below_step zaB hb); (try clear hb)) | ((with_reducible refine gate_callee (f := 23) rfl ?_); refine zgL 25 Try.func23 (soft_Sub.calls k 4607182418800017408 4607182418800017408 0 t333 t334 _ A3.out) (h := ?_); rintro w79 hb; replace HB := Aside0.mk (below_step zaB hb); (try clear hb)) | ((with_reducible refine gate_callee (f := 23) rfl ?_); refine zgL 29 Try.func23 (soft_Sub.calls k 4607182418800017408 4607182418800017408 2 t335 t336 _ A4.out) (h := ?_); rintro w80 hb; replace HB := Aside0.mk (below_step zaB hb); (try clear hb)) | ((with_reducible refine gate_callee (f := 27) rfl ?_); refine zgL 33 Try.func27 (soft_Div.calls k 13830554455654793216 0 0 t337 t338 _ A5.out) (h := ?_); rintro w81 hb; replace HB := Aside0.mk (below_step zaB hb); (try clear hb)) | ((with_reducible refine gate_callee (f := 29) rfl ?_); refine zgL 37 Try.func29 (soft_Sqrt.calls k 4611686018427387904 0 t339 t340 _ A6.out) (h := ?_); rintro w82 hb; replace HB := Aside0.mk (below_step zaB hb); (try clear hb)) | ((with_reducible refine gate_callee (f := 79) rfl ?_); refine zgL 41 Try.func79 (pattern_Inf.calls k false t341 _ A7.out) (h := ?_); rintro w' ⟨nd, rfl⟩) | ((with_reducible refine gate_callee (f := 25) rfl ?_); refine zgL 42 Try.func25 (soft_Mul.calls k 0 t341 0 t342 t343 _ A8.out) (h := ?_); rintro w83 hb; replace HB := Aside0.mk (below_step zaB hb); (try clear hb)) | ((with_reducible refine gate_dst (N := 45) rfl ?_); refine Kd.R_lit (Kd.int .u64) _ 23 ?hg (N := 45) ?hd (xs := ([4607182418800017408, 4607182418800017408, 4607182418800017408] : List Int)) (inner := [.int .u64 4607182418800017408, .int .u64 4607182418800017408, .int .u64 4607182418800017408]) (ok := fun _ => True) (okp := fun _ => True) ?hr ?hp (fun _ hk => hk) trivial (Below.refl _ _) (Nat.le_refl _) (by simp) ?_; (case hd => rfl); (case hg => rfl); (case hr => first | (go_simp; done) | (go_simp; rfl)); (case hp => exact (Reps.one (show Kd.M (Kd.int .u64) _ _ _ 4607182418800017408 [.int .u64 4607182418800017408] from rfl) (Reps.one (show Kd.M (Kd.int .u64) _ _ _ 4607182418800017408 [.int .u64 4607182418800017408] from rfl) (Reps.one (show Kd.M (Kd.int .u64) _ _ _ 4607182418800017408 [.int .u64 4607182418800017408] from rfl) (Reps.none _ _))))); intro v345 w84 ho85 hb hg_ hnew_; clear hg_ hnew_; (first | rw [← Ny344.out] at ho85 | (simp only [Int.reduceToNat] at ho85; rw [← Ny344.out] at ho85)); have HO346 := Aside0.mk (Kd.R_lower ho85 (below_size zaB)); replace HB := Aside0.mk (below_step zaB hb); clear hb ho85; obtain ⟨Ao86, co86, eo86⟩ := Kd.R_slice HO346.out; subst eo86) | ((with_reducible refine gate_callee (f := 31) rfl ?_); refine goesL_ (some 46) rfl rfl Try.func31 (by kernel_rfl) rfl #[.int .u8 0, .slice Ao86 y344.length co86] rfl (by (try simp only [List.map_toArray, List.map_cons, List.map_nil]); first | done | rfl | (simp only [List.length_drop, List.length_take]; rfl)) ?_; (with_reducible refine (soft_Sum.calls k 0 _ _ y344 t347 _ ?side1 ?side2 A9.out).mono ?_); (case side1 => repeat (first | exact (Kd.R_reads' HO346.out).2.2 | (with_reducible refine Kd.C_alloc ?_ _) | (with_reducible refine Kd.C_drewN ?_ _) | (with_reducible refine Kd.C_drew ?_))); (case side2 => exact (Kd.R_reads' HO346.out).2.1); rintro e w87 ⟨rfl, hb⟩; refine ⟨_, rfl, ?_⟩; replace HO346 := Aside0.mk (Kd.R_below (by (with_reducible repeat (first | apply Kd.R_alloc | apply Kd.R_drewN | apply Kd.R_drew)); exact HO346.out) hb); replace HB := Aside0.mk (below_step zaB hb); (try clear hb)) | (go_at_call 79; (with_reducible refine (pattern_Inf.calls k true t348 _ A15.out).mono ?_); rintro e w' ⟨rfl, ⟨nd, rfl⟩⟩))
       go_ret
       exact ⟨zaE, zaB⟩
     ·rw [if_neg c14] at H
      have c14b0 : (t335 == 9223372036854775808) = false := beq_eq_false_iff_ne.mpr c14
      have c14b1 : (t335 != 9223372036854775808) = true := bne_iff_ne.mpr c14
      obtain rfl := Option.some.inj H
      go_enter Try.func20, Try.ntmps20
      go_wp2_with (first | ((with_reducible refine gate_callee (f := 21) rfl ?_); refine zgL 17 Try.func21 (soft_Add.calls k 4607182418800017408 4368491638549381120 0 t329 t330 _ A1.out) (h := ?_); rintro w88 hb; replace HB := Aside0.mk (below_step zaB hb); (try clear hb)) | ((with_reducible refine gate_callee (f := 21) rfl ?_); refine zgL 21 Try.func21 (soft_Add.calls k 4607182418800017408 4368491638549381120 1 t331 t332 _ A2.out) (h := ?_); rintro w89 hb; replace HB := Aside0.mk (below_step zaB hb); (try clear hb)) | ((with_reducible refine gate_callee (f := 23) rfl ?_); refine zgL 25 Try.func23 (soft_Sub.calls k 4607182418800017408 4607182418800017408 0 t333 t334 _ A3.out) (h := ?_); rintro w90 hb; replace HB := Aside0.mk (below_step zaB hb); (try clear hb)) | ((with_reducible refine gate_callee (f := 23) rfl ?_); refine zgL 29 Try.func23 (soft_Sub.calls k 4607182418800017408 4607182418800017408 2 t335 t336 _ A4.out) (h := ?_); rintro w91 hb; replace HB := Aside0.mk (below_step zaB hb); (try clear hb)) | ((with_reducible refine gate_callee (f := 27) rfl ?_); refine zgL 33 Try.func27 (soft_Div.calls k 13830554455654793216 0 0 t337 t338 _ A5.out) (h := ?_); rintro w92 hb; replace HB := Aside0.mk (below_step zaB hb); (try clear hb)) | ((with_reducible refine gate_callee (f := 29) rfl ?_); refine zgL 37 Try.func29 (soft_Sqrt.calls k 4611686018427387904 0 t339 t340 _ A6.out) (h := ?_); rintro w93 hb; replace HB := Aside0.mk (below_step zaB hb); (try clear hb)) | ((with_reducible refine gate_callee (f := 79) rfl ?_); refine zgL 41 Try.func79 (pattern_Inf.calls k false t341 _ A7.out) (h := ?_); rintro w' ⟨nd, rfl⟩) | ((with_reducible refine gate_callee (f := 25) rfl ?_); refine zgL 42 Try.func25 (soft_Mul.calls k 0 t341 0 t342 t343 _ A8.out) (h := ?_); rintro w94 hb; replace HB := Aside0.mk (below_step zaB hb); (try clear hb)) | ((with_reducible refine gate_dst (N := 45) rfl ?_); refine Kd.R_lit (Kd.int .u64) _ 23 ?hg (N := 45) ?hd (xs := ([4607182418800017408, 4607182418800017408, 4607182418800017408] : List Int)) (inner := [.int .u64 4607182418800017408, .int .u64 4607182418800017408, .int .u64 4607182418800017408]) (ok := fun _ => True) (okp := fun _ => True) ?hr ?hp (fun _ hk => hk) trivial (Below.refl _ _) (Nat.le_refl _) (by simp) ?_; (case hd => rfl); (case hg => rfl); (case hr => first | (go_simp; done) | (go_simp; rfl)); (case hp => exact (Reps.one (show Kd.M (Kd.int .u64) _ _ _ 4607182418800017408 [.int .u64 4607182418800017408] from rfl) (Reps.one (show Kd.M (Kd.int .u64) _ _ _ 4607182418800017408 [.int .u64 4607182418800017408] from rfl) (Reps.one (show Kd.M (Kd.int .u64) _ _ _ 4607182418800017408 [.int .u64 4607182418800017408] from rfl) (Reps.none _ _))))); intro v345 w95 ho96 hb hg_ hnew_; clear hg_ hnew_; (first | rw [← Ny344.out] at ho96 | (simp only [Int.reduceToNat] at ho96; rw [← Ny344.out] at ho96)); have HO346 := Aside0.mk (Kd.R_lower ho96 (below_size zaB)); replace HB := Aside0.mk (below_step zaB hb); clear hb ho96; obtain ⟨Ao97, co97, eo97⟩ := Kd.R_slice HO346.out; subst eo97) | ((with_reducible refine gate_callee (f := 31) rfl ?_); refine goesL_ (some 46) rfl rfl Try.func31 (by kernel_rfl) rfl #[.int .u8 0, .slice Ao97 y344.length co97] rfl (by (try simp only [List.map_toArray, List.map_cons, List.map_nil]); first | done | rfl | (simp only [List.length_drop, List.length_take]; rfl)) ?_; (with_reducible refine (soft_Sum.calls k 0 _ _ y344 t347 _ ?side1 ?side2 A9.out).mono ?_); (case side1 => repeat (first | exact (Kd.R_reads' HO346.out).2.2 | (with_reducible refine Kd.C_alloc ?_ _) | (with_reducible refine Kd.C_drewN ?_ _) | (with_reducible refine Kd.C_drew ?_))); (case side2 => exact (Kd.R_reads' HO346.out).2.1); rintro e w98 ⟨rfl, hb⟩; refine ⟨_, rfl, ?_⟩; replace HO346 := Aside0.mk (Kd.R_below (by (with_reducible repeat (first | apply Kd.R_alloc | apply Kd.R_drewN | apply Kd.R_drew)); exact HO346.out) hb); replace HB := Aside0.mk (below_step zaB hb); (try clear hb)))
      go_ret
      exact ⟨zaE, zaB⟩
    ·rw [if_neg c13] at H
     have c13b0 : (t333 == 0) = false := beq_eq_false_iff_ne.mpr c13
     have c13b1 : (t333 != 0) = true := bne_iff_ne.mpr c13
     obtain rfl := Option.some.inj H
     go_enter Try.func20, Try.ntmps20
     go_wp2_with (first | ((with_reducible refine gate_callee (f := 21) rfl ?_); refine zgL 17 Try.func21 (soft_Add.calls k 4607182418800017408 4368491638549381120 0 t329 t330 _ A1.out) (h := ?_); rintro w99 hb; replace HB := Aside0.mk (below_step zaB hb); (try clear hb)) | ((with_reducible refine gate_callee (f := 21) rfl ?_); refine zgL 21 Try.func21 (soft_Add.calls k 4607182418800017408 4368491638549381120 1 t331 t332 _ A2.out) (h := ?_); rintro w100 hb; replace HB := Aside0.mk (below_step zaB hb); (try clear hb)) | ((with_reducible refine gate_callee (f := 23) rfl ?_); refine zgL 25 Try.func23 (soft_Sub.calls k 4607182418800017408 4607182418800017408 0 t333 t334 _ A3.out) (h := ?_); rintro w101 hb; replace HB := Aside0.mk (below_step zaB hb); (try clear hb)) | ((with_reducible refine gate_callee (f := 23) rfl ?_); refine zgL 29 Try.func23 (soft_Sub.calls k 4607182418800017408 4607182418800017408 2 t335 t336 _ A4.out) (h := ?_); rintro w102 hb; replace HB := Aside0.mk (below_step zaB hb); (try clear hb)) | ((with_reducible refine gate_callee (f := 27) rfl ?_); refine zgL 33 Try.func27 (soft_Div.calls k 13830554455654793216 0 0 t337 t338 _ A5.out) (h := ?_); rintro w103 hb; replace HB := Aside0.mk (below_step zaB hb); (try clear hb)) | ((with_reducible refine gate_callee (f := 29) rfl ?_); refine zgL 37 Try.func29 (soft_Sqrt.calls k 4611686018427387904 0 t339 t340 _ A6.out) (h := ?_); rintro w104 hb; replace HB := Aside0.mk (below_step zaB hb); (try clear hb)) | ((with_reducible refine gate_callee (f := 79) rfl ?_); refine zgL 41 Try.func79 (pattern_Inf.calls k false t341 _ A7.out) (h := ?_); rintro w' ⟨nd, rfl⟩) | ((with_reducible refine gate_callee (f := 25) rfl ?_); refine zgL 42 Try.func25 (soft_Mul.calls k 0 t341 0 t342 t343 _ A8.out) (h := ?_); rintro w105 hb; replace HB := Aside0.mk (below_step zaB hb); (try clear hb)) | ((with_reducible refine gate_dst (N := 45) rfl ?_); refine Kd.R_lit (Kd.int .u64) _ 23 ?hg (N := 45) ?hd (xs := ([4607182418800017408, 4607182418800017408, 4607182418800017408] : List Int)) (inner := [.int .u64 4607182418800017408, .int .u64 4607182418800017408, .int .u64 4607182418800017408]) (ok := fun _ => True) (okp := fun _ => True) ?hr ?hp (fun _ hk => hk) trivial (Below.refl _ _) (Nat.le_refl _) (by simp) ?_; (case hd => rfl); (case hg => rfl); (case hr => first | (go_simp; done) | (go_simp; rfl)); (case hp => exact (Reps.one (show Kd.M (Kd.int .u64) _ _ _ 4607182418800017408 [.int .u64 4607182418800017408] from rfl) (Reps.one (show Kd.M (Kd.int .u64) _ _ _ 4607182418800017408 [.int .u64 4607182418800017408] from rfl) (Reps.one (show Kd.M (Kd.int .u64) _ _ _ 4607182418800017408 [.int .u64 4607182418800017408] from rfl) (Reps.none _ _))))); intro v345 w106 ho107 hb hg_ hnew_; clear hg_ hnew_; (first | rw [← Ny344.out] at ho107 | (simp only [Int.reduceToNat] at ho107; rw [← Ny344.out] at ho107)); have HO346 := Aside0.mk (Kd.R_lower ho107 (below_size zaB)); replace HB := Aside0.mk (below_step zaB hb); clear hb ho107; obtain ⟨Ao108, co108, eo108⟩ := Kd.R_slice HO346.out; subst eo108) | ((with_reducible refine gate_callee (f := 31) rfl ?_); refine goesL_ (some 46) rfl rfl Try.func31 (by kernel_rfl) rfl #[.int .u8 0, .slice Ao108 y344.length co108] rfl (by (try simp only [List.map_toArray, List.map_cons, List.map_nil]); first | done | rfl | (simp only [List.length_drop, List.length_take]; rfl)) ?_; (with_reducible refine (soft_Sum.calls k 0 _ _ y344 t347 _ ?side1 ?side2 A9.out).mono ?_); (case side1 => repeat (first | exact (Kd.R_reads' HO346.out).2.2 | (with_reducible refine Kd.C_alloc ?_ _) | (with_reducible refine Kd.C_drewN ?_ _) | (with_reducible refine Kd.C_drew ?_))); (case side2 => exact (Kd.R_reads' HO346.out).2.1); rintro e w109 ⟨rfl, hb⟩; refine ⟨_, rfl, ?_⟩; replace HO346 := Aside0.mk (Kd.R_below (by (with_reducible repeat (first | apply Kd.R_alloc | apply Kd.R_drewN | apply Kd.R_drew)); exact HO346.out) hb); replace HB := Aside0.mk (below_step zaB hb); (try clear hb)))
     go_ret
     exact ⟨zaE, zaB⟩
   ·rw [if_neg c12] at H
    have c12b0 : (t331 == 4607182418800017409) = false := beq_eq_false_iff_ne.mpr c12
    have c12b1 : (t331 != 4607182418800017409) = true := bne_iff_ne.mpr c12
    obtain rfl := Option.some.inj H
    go_enter Try.func20, Try.ntmps20
    go_wp2_with (first | ((with_reducible refine gate_callee (f := 21) rfl ?_); refine zgL 17 Try.func21 (soft_Add.calls k 4607182418800017408 4368491638549381120 0 t329 t330 _ A1.out) (h := ?_); rintro w110 hb; replace HB := Aside0.mk (below_step zaB hb); (try clear hb)) | ((with_reducible refine gate_callee (f := 21) rfl ?_); refine zgL 21 Try.func21 (soft_Add.calls k 4607182418800017408 4368491638549381120 1 t331 t332 _ A2.out) (h := ?_); rintro w111 hb; replace HB := Aside0.mk (below_step zaB hb); (try clear hb)) | ((with_reducible refine gate_callee (f := 23) rfl ?_); refine zgL 25 Try.func23 (soft_Sub.calls k 4607182418800017408 4607182418800017408 0 t333 t334 _ A3.out) (h := ?_); rintro w112 hb; replace HB := Aside0.mk (below_step zaB hb); (try clear hb)) | ((with_reducible refine gate_callee (f := 23) rfl ?_); refine zgL 29 Try.func23 (soft_Sub.calls k 4607182418800017408 4607182418800017408 2 t335 t336 _ A4.out) (h := ?_); rintro w113 hb; replace HB := Aside0.mk (below_step zaB hb); (try clear hb)) | ((with_reducible refine gate_callee (f := 27) rfl ?_); refine zgL 33 Try.func27 (soft_Div.calls k 13830554455654793216 0 0 t337 t338 _ A5.out) (h := ?_); rintro w114 hb; replace HB := Aside0.mk (below_step zaB hb); (try clear hb)) | ((with_reducible refine gate_callee (f := 29) rfl ?_); refine zgL 37 Try.func29 (soft_Sqrt.calls k 4611686018427387904 0 t339 t340 _ A6.out) (h := ?_); rintro w115 hb; replace HB := Aside0.mk (below_step zaB hb); (try clear hb)) | ((with_reducible refine gate_callee (f := 79) rfl ?_); refine zgL 41 Try.func79 (pattern_Inf.calls k false t341 _ A7.out) (h := ?_); rintro w' ⟨nd, rfl⟩) | ((with_reducible refine gate_callee (f := 25) rfl ?_); refine zgL 42 Try.func25 (soft_Mul.calls k 0 t341 0 t342 t343 _ A8.out) (h := ?_); rintro w116 hb; replace HB := Aside0.mk (below_step zaB hb); (try clear hb)) | ((with_reducible refine gate_dst (N := 45) rfl ?_); refine Kd.R_lit (Kd.int .u64) _ 23 ?hg (N := 45) ?hd (xs := ([4607182418800017408, 4607182418800017408, 4607182418800017408] : List Int)) (inner := [.int .u64 4607182418800017408, .int .u64 4607182418800017408, .int .u64 4607182418800017408]) (ok := fun _ => True) (okp := fun _ => True) ?hr ?hp (fun _ hk => hk) trivial (Below.refl _ _) (Nat.le_refl _) (by simp) ?_; (case hd => rfl); (case hg => rfl); (case hr => first | (go_simp; done) | (go_simp; rfl)); (case hp => exact (Reps.one (show Kd.M (Kd.int .u64) _ _ _ 4607182418800017408 [.int .u64 4607182418800017408] from rfl) (Reps.one (show Kd.M (Kd.int .u64) _ _ _ 4607182418800017408 [.int .u64 4607182418800017408] from rfl) (Reps.one (show Kd.M (Kd.int .u64) _ _ _ 4607182418800017408 [.int .u64 4607182418800017408] from rfl) (Reps.none _ _))))); intro v345 w117 ho118 hb hg_ hnew_; clear hg_ hnew_; (first | rw [← Ny344.out] at ho118 | (simp only [Int.reduceToNat] at ho118; rw [← Ny344.out] at ho118)); have HO346 := Aside0.mk (Kd.R_lower ho118 (below_size zaB)); replace HB := Aside0.mk (below_step zaB hb); clear hb ho118; obtain ⟨Ao119, co119, eo119⟩ := Kd.R_slice HO346.out; subst eo119) | ((with_reducible refine gate_callee (f := 31) rfl ?_); refine goesL_ (some 46) rfl rfl Try.func31 (by kernel_rfl) rfl #[.int .u8 0, .slice Ao119 y344.length co119] rfl (by (try simp only [List.map_toArray, List.map_cons, List.map_nil]); first | done | rfl | (simp only [List.length_drop, List.length_take]; rfl)) ?_; (with_reducible refine (soft_Sum.calls k 0 _ _ y344 t347 _ ?side1 ?side2 A9.out).mono ?_); (case side1 => repeat (first | exact (Kd.R_reads' HO346.out).2.2 | (with_reducible refine Kd.C_alloc ?_ _) | (with_reducible refine Kd.C_drewN ?_ _) | (with_reducible refine Kd.C_drew ?_))); (case side2 => exact (Kd.R_reads' HO346.out).2.1); rintro e w120 ⟨rfl, hb⟩; refine ⟨_, rfl, ?_⟩; replace HO346 := Aside0.mk (Kd.R_below (by (with_reducible repeat (first | apply Kd.R_alloc | apply Kd.R_drewN | apply Kd.R_drew)); exact HO346.out) hb); replace HB := Aside0.mk (below_step zaB hb); (try clear hb)))
    go_ret
    exact ⟨zaE, zaB⟩
  ·rw [if_neg c11] at H
   have c11b0 : (t330 == 1) = false := beq_eq_false_iff_ne.mpr c11
   have c11b1 : (t330 != 1) = true := bne_iff_ne.mpr c11
   obtain rfl := Option.some.inj H
   go_enter Try.func20, Try.ntmps20
   go_wp2_with (first | ((with_reducible refine gate_callee (f := 21) rfl ?_); refine zgL 17 Try.func21 (soft_Add.calls k 4607182418800017408 4368491638549381120 0 t329 t330 _ A1.out) (h := ?_); rintro w121 hb; replace HB := Aside0.mk (below_step zaB hb); (try clear hb)) | ((with_reducible refine gate_callee (f := 21) rfl ?_); refine zgL 21 Try.func21 (soft_Add.calls k 4607182418800017408 4368491638549381120 1 t331 t332 _ A2.out) (h := ?_); rintro w122 hb; replace HB := Aside0.mk (below_step zaB hb); (try clear hb)) | ((with_reducible refine gate_callee (f := 23) rfl ?_); refine zgL 25 Try.func23 (soft_Sub.calls k 4607182418800017408 4607182418800017408 0 t333 t334 _ A3.out) (h := ?_); rintro w123 hb; replace HB := Aside0.mk (below_step zaB hb); (try clear hb)) | ((with_reducible refine gate_callee (f := 23) rfl ?_); refine zgL 29 Try.func23 (soft_Sub.calls k 4607182418800017408 4607182418800017408 2 t335 t336 _ A4.out) (h := ?_); rintro w124 hb; replace HB := Aside0.mk (below_step zaB hb); (try clear hb)) | ((with_reducible refine gate_callee (f := 27) rfl ?_); refine zgL 33 Try.func27 (soft_Div.calls k 13830554455654793216 0 0 t337 t338 _ A5.out) (h := ?_); rintro w125 hb; replace HB := Aside0.mk (below_step zaB hb); (try clear hb)) | ((with_reducible refine gate_callee (f := 29) rfl ?_); refine zgL 37 Try.func29 (soft_Sqrt.calls k 4611686018427387904 0 t339 t340 _ A6.out) (h := ?_); rintro w126 hb; replace HB := Aside0.mk (below_step zaB hb); (try clear hb)) | ((with_reducible refine gate_callee (f := 79) rfl ?_); refine zgL 41 Try.func79 (pattern_Inf.calls k false t341 _ A7.out) (h := ?_); rintro w' ⟨nd, rfl⟩) | ((with_reducible refine gate_callee (f := 25) rfl ?_); refine zgL 42 Try.func25 (soft_Mul.calls k 0 t341 0 t342 t343 _ A8.out) (h := ?_); rintro w127 hb; replace HB := Aside0.mk (below_step zaB hb); (try clear hb)) | ((with_reducible refine gate_dst (N := 45) rfl ?_); refine Kd.R_lit (Kd.int .u64) _ 23 ?hg (N := 45) ?hd (xs := ([4607182418800017408, 4607182418800017408, 4607182418800017408] : List Int)) (inner := [.int .u64 4607182418800017408, .int .u64 4607182418800017408, .int .u64 4607182418800017408]) (ok := fun _ => True) (okp := fun _ => True) ?hr ?hp (fun _ hk => hk) trivial (Below.refl _ _) (Nat.le_refl _) (by simp) ?_; (case hd => rfl); (case hg => rfl); (case hr => first | (go_simp; done) | (go_simp; rfl)); (case hp => exact (Reps.one (show Kd.M (Kd.int .u64) _ _ _ 4607182418800017408 [.int .u64 4607182418800017408] from rfl) (Reps.one (show Kd.M (Kd.int .u64) _ _ _ 4607182418800017408 [.int .u64 4607182418800017408] from rfl) (Reps.one (show Kd.M (Kd.int .u64) _ _ _ 4607182418800017408 [.int .u64 4607182418800017408] from rfl) (Reps.none _ _))))); intro v345 w128 ho129 hb hg_ hnew_; clear hg_ hnew_; (first | rw [← Ny344.out] at ho129 | (simp only [Int.reduceToNat] at ho129; rw [← Ny344.out] at ho129)); have HO346 := Aside0.mk (Kd.R_lower ho129 (below_size zaB)); replace HB := Aside0.mk (below_step zaB hb); clear hb ho129; obtain ⟨Ao130, co130, eo130⟩ := Kd.R_slice HO346.out; subst eo130) | ((with_reducible refine gate_callee (f := 31) rfl ?_); refine goesL_ (some 46) rfl rfl Try.func31 (by kernel_rfl) rfl #[.int .u8 0, .slice Ao130 y344.length co130] rfl (by (try simp only [List.map_toArray, List.map_cons, List.map_nil]); first | done | rfl | (simp only [List.length_drop, List.length_take]; rfl)) ?_; (with_reducible refine (soft_Sum.calls k 0 _ _ y344 t347 _ ?side1 ?side2 A9.out).mono ?_); (case side1 => repeat (first | exact (Kd.R_reads' HO346.out).2.2 | (with_reducible refine Kd.C_alloc ?_ _) | (with_reducible refine Kd.C_drewN ?_ _) | (with_reducible refine Kd.C_drew ?_))); (case side2 => exact (Kd.R_reads' HO346.out).2.1); rintro e w131 ⟨rfl, hb⟩; refine ⟨_, rfl, ?_⟩; replace HO346 := Aside0.mk (Kd.R_below (by (with_reducible repeat (first | apply Kd.R_alloc | apply Kd.R_drewN | apply Kd.R_drew)); exact HO346.out) hb); replace HB := Aside0.mk (below_step zaB hb); (try clear hb)))
   go_ret
   exact ⟨zaE, zaB⟩
 ·rw [if_neg c10] at H
  have c10b0 : (t329 == 4607182418800017408) = false := beq_eq_false_iff_ne.mpr c10
  have c10b1 : (t329 != 4607182418800017408) = true := bne_iff_ne.mpr c10
  obtain rfl := Option.some.inj H
  go_enter Try.func20, Try.ntmps20
  go_wp2_with (first | ((with_reducible refine gate_callee (f := 21) rfl ?_); refine zgL 17 Try.func21 (soft_Add.calls k 4607182418800017408 4368491638549381120 0 t329 t330 _ A1.out) (h := ?_); rintro w132 hb; replace HB := Aside0.mk (below_step zaB hb); (try clear hb)) | ((with_reducible refine gate_callee (f := 21) rfl ?_); refine zgL 21 Try.func21 (soft_Add.calls k 4607182418800017408 4368491638549381120 1 t331 t332 _ A2.out) (h := ?_); rintro w133 hb; replace HB := Aside0.mk (below_step zaB hb); (try clear hb)) | ((with_reducible refine gate_callee (f := 23) rfl ?_); refine zgL 25 Try.func23 (soft_Sub.calls k 4607182418800017408 4607182418800017408 0 t333 t334 _ A3.out) (h := ?_); rintro w134 hb; replace HB := Aside0.mk (below_step zaB hb); (try clear hb)) | ((with_reducible refine gate_callee (f := 23) rfl ?_); refine zgL 29 Try.func23 (soft_Sub.calls k 4607182418800017408 4607182418800017408 2 t335 t336 _ A4.out) (h := ?_); rintro w135 hb; replace HB := Aside0.mk (below_step zaB hb); (try clear hb)) | ((with_reducible refine gate_callee (f := 27) rfl ?_); refine zgL 33 Try.func27 (soft_Div.calls k 13830554455654793216 0 0 t337 t338 _ A5.out) (h := ?_); rintro w136 hb; replace HB := Aside0.mk (below_step zaB hb); (try clear hb)) | ((with_reducible refine gate_callee (f := 29) rfl ?_); refine zgL 37 Try.func29 (soft_Sqrt.calls k 4611686018427387904 0 t339 t340 _ A6.out) (h := ?_); rintro w137 hb; replace HB := Aside0.mk (below_step zaB hb); (try clear hb)) | ((with_reducible refine gate_callee (f := 79) rfl ?_); refine zgL 41 Try.func79 (pattern_Inf.calls k false t341 _ A7.out) (h := ?_); rintro w' ⟨nd, rfl⟩) | ((with_reducible refine gate_callee (f := 25) rfl ?_); refine zgL 42 Try.func25 (soft_Mul.calls k 0 t341 0 t342 t343 _ A8.out) (h := ?_); rintro w138 hb; replace HB := Aside0.mk (below_step zaB hb); (try clear hb)) | ((with_reducible refine gate_dst (N := 45) rfl ?_); refine Kd.R_lit (Kd.int .u64) _ 23 ?hg (N := 45) ?hd (xs := ([4607182418800017408, 4607182418800017408, 4607182418800017408] : List Int)) (inner := [.int .u64 4607182418800017408, .int .u64 4607182418800017408, .int .u64 4607182418800017408]) (ok := fun _ => True) (okp := fun _ => True) ?hr ?hp (fun _ hk => hk) trivial (Below.refl _ _) (Nat.le_refl _) (by simp) ?_; (case hd => rfl); (case hg => rfl); (case hr => first | (go_simp; done) | (go_simp; rfl)); (case hp => exact (Reps.one (show Kd.M (Kd.int .u64) _ _ _ 4607182418800017408 [.int .u64 4607182418800017408] from rfl) (Reps.one (show Kd.M (Kd.int .u64) _ _ _ 4607182418800017408 [.int .u64 4607182418800017408] from rfl) (Reps.one (show Kd.M (Kd.int .u64) _ _ _ 4607182418800017408 [.int .u64 4607182418800017408] from rfl) (Reps.none _ _))))); intro v345 w139 ho140 hb hg_ hnew_; clear hg_ hnew_; (first | rw [← Ny344.out] at ho140 | (simp only [Int.reduceToNat] at ho140; rw [← Ny344.out] at ho140)); have HO346 := Aside0.mk (Kd.R_lower ho140 (below_size zaB)); replace HB := Aside0.mk (below_step zaB hb); clear hb ho140; obtain ⟨Ao141, co141, eo141⟩ := Kd.R_slice HO346.out; subst eo141) | ((with_reducible refine gate_callee (f := 31) rfl ?_); refine goesL_ (some 46) rfl rfl Try.func31 (by kernel_rfl) rfl #[.int .u8 0, .slice Ao141 y344.length co141] rfl (by (try simp only [List.map_toArray, List.map_cons, List.map_nil]); first | done | rfl | (simp only [List.length_drop, List.length_take]; rfl)) ?_; (with_reducible refine (soft_Sum.calls k 0 _ _ y344 t347 _ ?side1 ?side2 A9.out).mono ?_); (case side1 => repeat (first | exact (Kd.R_reads' HO346.out).2.2 | (with_reducible refine Kd.C_alloc ?_ _) | (with_reducible refine Kd.C_drewN ?_ _) | (with_reducible refine Kd.C_drew ?_))); (case side2 => exact (Kd.R_reads' HO346.out).2.1); rintro e w142 ⟨rfl, hb⟩; refine ⟨_, rfl, ?_⟩; replace HO346 := Aside0.mk (Kd.R_below (by (with_reducible repeat (first | apply Kd.R_alloc | apply Kd.R_drewN | apply Kd.R_drew)); exact HO346.out) hb); replace HB := Aside0.mk (below_step zaB hb); (try clear hb)))
  go_ret
  exact ⟨zaE, zaB⟩
end Go.Proofs.Ytmadjhmecfbcmaa.F
end
section
namespace Go.Proofs.Ytmadjhmecfbcmaa.F
open Go.RowKit Go.Proofs.YtmadjhmecfbcmaaW.PrintWords Go.Proofs.YtmadjhmecfbcmaaW.PrintLast Go.Proofs.YtmadjhmecfbcmaaW.PrintMore
attribute [local go_sem] max2_int min2_int max_two min_two max_three min_three max_four min_four
set_option linter.unusedVariables false
set_option linter.unusedSimpArgs false
set_option maxHeartbeats 8000000 in
set_option maxRecDepth 100000 in
theorem pattern_key.calls (a0 : Int) (r : Int) (w : World) (h : pattern_key.f a0 = some r) :
  Calls Try.prog 110 #[.int .u64 a0] w fun e w' => e = .returned (.int .i64 r) ∧ Drawn0 w w' := by
 have H : (if (a0 / 9223372036854775808) = 1 then (some (wrap64 (-(wrap64 (Go.bits .andNot .u64 a0 9223372036854775808))))) else (some (wrap64 (Go.bits .andNot .u64 a0 9223372036854775808)))) = some r := h
 clear h
 by_cases c2 : (a0 / 9223372036854775808) = 1
 ·rw [if_pos c2] at H
  have c2b0 : ((a0 / 9223372036854775808) == 1) = true := beq_iff_eq.mpr c2
  have c2b1 : ((a0 / 9223372036854775808) != 1) = false := bne_eq_false_iff_eq.mpr c2
  clear c2
  obtain rfl := Option.some.inj H
  go_enter Try.func110, Try.ntmps110
  go_wp2
  go_ret
  exact ⟨by first | rfl | (simp; done) | (simp [*]; done), by repeat (first | exact Drawn0.refl _ | apply Drawn0.step)⟩
 ·rw [if_neg c2] at H
  have c2b0 : ((a0 / 9223372036854775808) == 1) = false := beq_eq_false_iff_ne.mpr c2
  have c2b1 : ((a0 / 9223372036854775808) != 1) = true := bne_iff_ne.mpr c2
  obtain rfl := Option.some.inj H
  go_enter Try.func110, Try.ntmps110
  go_wp2
  go_ret
  exact ⟨by first | rfl | (simp; done) | (simp [*]; done), by repeat (first | exact Drawn0.refl _ | apply Drawn0.step)⟩
end Go.Proofs.Ytmadjhmecfbcmaa.F
end
section
namespace Go.Proofs.Ytmadjhmecfbcmaa.F
open Go.RowKit Go.Proofs.YtmadjhmecfbcmaaW.PrintWords Go.Proofs.YtmadjhmecfbcmaaW.PrintLast Go.Proofs.YtmadjhmecfbcmaaW.PrintMore
attribute [local go_sem] max2_int min2_int max_two min_two max_three min_three max_four min_four
set_option linter.unusedVariables false
set_option linter.unusedSimpArgs false
set_option maxHeartbeats 8000000 in
set_option maxRecDepth 100000 in
theorem pattern_Cmp.calls (k : Nat) (a0 : Int) (a1 : Int) (r1 : Int) (r2 : Bool) (w : World) (h : pattern_Cmp.f k a0 a1 = some (r1, r2)) :
  Calls Try.prog 33 #[.int .u64 a0, .int .u64 a1] w fun e w' => e = .returned (.tuple #[.int .i64 r1, .bool r2]) ∧ Drawn0 w w' := by
 have H : ((pattern_nan.f k a0).bind fun t664 => (if t664 = true then (pattern_Cmp.j0 k a0 a1 true) else ((pattern_nan.f k a1).bind fun t665 => (pattern_Cmp.j0 k a0 a1 t665)))) = some (r1, r2) := h
 clear h
 have HC3 := Aside0.mk H
 clear H
 go_enter Try.func33, Try.ntmps33
 go_upto_region 1 with (fail)
 go_cut [13] (fun v13 wc => ∃ (kq : Nat) (x13_2 : Bool), v13 = .bool x13_2 ∧ Aside0 (pattern_Cmp.j0 kq a0 a1 x13_2 = some (r1, r2)) ∧ Aside0 (kq ≤ k) ∧ Drawn0 w wc)
 case first =>
  have H := HC3.out
  clear HC3
  obtain ⟨t664, A4, H⟩ := zbs H
  try dsimp only at H
  by_cases c5 : t664 = true
  ·subst c5
   have H1 : (pattern_Cmp.j0 k a0 a1 true) = some (r1, r2) := by rw [if_pos rfl] at H; exact H
   clear H
   have H := H1
   clear H1
   have H' := Aside0.mk H
   clear H
   go_wp2_with (first | ((with_reducible refine gate_callee (f := 109) rfl ?_); refine zgL 9 Try.func109 (pattern_nan.calls k a0 true _ A4.out) (h := ?_); rintro w' ⟨nd, rfl⟩))
   go_meet
   case rel => exact ⟨_, (true), (by first | rfl | (simp; done) | (simp [*]; done)), H', ⟨by first | omega | exact Nat.le_refl _⟩, by repeat (first | exact Drawn0.refl _ | apply Drawn0.step)⟩
  ·replace c5 := Bool.eq_false_iff.mpr c5
   subst c5
   have H1 : ((pattern_nan.f k a1).bind fun t665 => (pattern_Cmp.j0 k a0 a1 t665)) = some (r1, r2) := by rw [if_neg (show ¬ (false = true) by decide)] at H; exact H
   clear H
   have H := H1
   clear H1
   obtain ⟨t665, A6, H⟩ := zbs H
   try dsimp only at H
   have H' := Aside0.mk H
   clear H
   go_wp2_with (first | ((with_reducible refine gate_callee (f := 109) rfl ?_); refine zgL 9 Try.func109 (pattern_nan.calls k a0 false _ A4.out) (h := ?_); rintro w' ⟨nd, rfl⟩) | (go_at_call 109; (with_reducible refine (pattern_nan.calls k a1 t665 _ A6.out).mono ?_); rintro e w' ⟨rfl, ⟨nd, rfl⟩⟩))
   go_meet
   case rel => exact ⟨_, (t665), (by first | rfl | (simp; done) | (simp [*]; done)), H', ⟨by first | omega | exact Nat.le_refl _⟩, by repeat (first | exact Drawn0.refl _ | apply Drawn0.step)⟩
 case rest =>
  clear HC3
  try clear c1
  try clear p2
  try clear c3
  try clear c5
  obtain ⟨kq, x13_2, rfl, HA, HJ2, ⟨mc2, rfl⟩⟩ := hcut
  cases kq with
  | zero => exact absurd HA.out (by simp [pattern_Cmp.j0])
  | succ kj2 =>
   have H := HA.out
   clear HA
   simp only [pattern_Cmp.j0] at H
   by_cases c7 : x13_2 = true
   ·subst c7
    have H1 : (some (0, false)) = some (r1, r2) := by rw [if_pos rfl] at H; exact H
    clear H
    have H := H1
    clear H1
    simp only [Option.some.injEq, Prod.mk.injEq] at H
    obtain ⟨rfl, rfl⟩ := H
    go_wp2
    go_ret2
    exact ⟨by first | rfl | (simp; done) | (simp [*]; done), by repeat (first | exact Drawn0.refl _ | apply Drawn0.step)⟩
   ·replace c7 := Bool.eq_false_iff.mpr c7
    subst c7
    have H1 : ((pattern_key.f a0).bind fun t666 => ((pattern_key.f a1).bind fun t667 => (if t666 < t667 then (some ((-1), true)) else (if t666 > t667 then (some (1, true)) else (some (0, true)))))) = some (r1, r2) := by rw [if_neg (show ¬ (false = true) by decide)] at H; exact H
    clear H
    have H := H1
    clear H1
    obtain ⟨t666, A8, H⟩ := zbs H
    try dsimp only at H
    obtain ⟨t667, A9, H⟩ := zbs H
    try dsimp only at H
    by_cases c10 : t666 < t667
    ·rw [if_pos c10] at H
     have c10b0 : decide (t666 < t667) = true := decide_eq_true c10
     clear c10
     simp only [Option.some.injEq, Prod.mk.injEq] at H
     obtain ⟨rfl, rfl⟩ := H
     go_wp2_with (first | ((with_reducible refine gate_callee (f := 110) rfl ?_); refine zgL 15 Try.func110 (pattern_key.calls a0 t666 _ A8.out) (h := ?_); rintro w' ⟨nd, rfl⟩) | ((with_reducible refine gate_callee (f := 110) rfl ?_); refine zgL 17 Try.func110 (pattern_key.calls a1 t667 _ A9.out) (h := ?_); rintro w' ⟨nd, rfl⟩))
     go_ret2
     exact ⟨by first | rfl | (simp; done) | (simp [*]; done), by repeat (first | exact Drawn0.refl _ | apply Drawn0.step)⟩
    ·rw [if_neg c10] at H
     have c10b0 : decide (t666 < t667) = false := decide_eq_false c10
     clear c10
     by_cases c11 : t666 > t667
     ·rw [if_pos c11] at H
      have c11b0 : decide (t667 < t666) = true := decide_eq_true c11
      clear c11
      simp only [Option.some.injEq, Prod.mk.injEq] at H
      obtain ⟨rfl, rfl⟩ := H
      go_wp2_with (first | ((with_reducible refine gate_callee (f := 110) rfl ?_); refine zgL 15 Try.func110 (pattern_key.calls a0 t666 _ A8.out) (h := ?_); rintro w' ⟨nd, rfl⟩) | ((with_reducible refine gate_callee (f := 110) rfl ?_); refine zgL 17 Try.func110 (pattern_key.calls a1 t667 _ A9.out) (h := ?_); rintro w' ⟨nd, rfl⟩))
      go_ret2
      exact ⟨by first | rfl | (simp; done) | (simp [*]; done), by repeat (first | exact Drawn0.refl _ | apply Drawn0.step)⟩
     ·rw [if_neg c11] at H
      have c11b0 : decide (t667 < t666) = false := decide_eq_false c11
      clear c11
      simp only [Option.some.injEq, Prod.mk.injEq] at H
      obtain ⟨rfl, rfl⟩ := H
      go_wp2_with (first | ((with_reducible refine gate_callee (f := 110) rfl ?_); refine zgL 15 Try.func110 (pattern_key.calls a0 t666 _ A8.out) (h := ?_); rintro w' ⟨nd, rfl⟩) | ((with_reducible refine gate_callee (f := 110) rfl ?_); refine zgL 17 Try.func110 (pattern_key.calls a1 t667 _ A9.out) (h := ?_); rintro w' ⟨nd, rfl⟩))
      go_ret2
      exact ⟨by first | rfl | (simp; done) | (simp [*]; done), by repeat (first | exact Drawn0.refl _ | apply Drawn0.step)⟩
end Go.Proofs.Ytmadjhmecfbcmaa.F
end
section
namespace Go.Proofs.Ytmadjhmecfbcmaa.F
open Go.RowKit Go.Proofs.YtmadjhmecfbcmaaW.PrintWords Go.Proofs.YtmadjhmecfbcmaaW.PrintLast Go.Proofs.YtmadjhmecfbcmaaW.PrintMore
attribute [local go_sem] max2_int min2_int max_two min_two max_three min_three max_four min_four
set_option linter.unusedVariables false
set_option linter.unusedSimpArgs false
set_option maxHeartbeats 8000000 in
set_option maxRecDepth 100000 in
theorem flyballlaw06_SoftTurns.calls (k : Nat) (a0 : Int) (a1 : Int) (a2 : Int) (r : Bool) (w : World) (h : flyballlaw06_SoftTurns.f k a0 a1 a2 = some r) :
  Calls Try.prog 8 #[.int .u64 a0, .int .u64 a1, .int .u8 a2] w fun e w' => e = .returned (.bool r) ∧ Below w.heap.size w w' := by
 have HB := Aside0.mk (Below.refl w.heap.size w)
 have H : ((flyballlaw06_works.f k).bind fun t668 => (if t668 = true then ((soft_Add.f k a0 a1 a2).bind fun bt669 => ((soft_Add.f k a1 a0 a2).bind fun bt671 => ((soft_Mul.f k a0 a1 a2).bind fun bt673 => ((soft_Mul.f k a1 a0 a2).bind fun bt675 => (if a2 = 1 then (flyballlaw06_SoftTurns.j0 k a0 a1 t668 bt669.1 bt669.2 bt671.1 bt671.2 bt673.1 bt673.2 bt675.1 bt675.2 2) else (if a2 = 2 then (flyballlaw06_SoftTurns.j0 k a0 a1 t668 bt669.1 bt669.2 bt671.1 bt671.2 bt673.1 bt673.2 bt675.1 bt675.2 1) else (flyballlaw06_SoftTurns.j0 k a0 a1 t668 bt669.1 bt669.2 bt671.1 bt671.2 bt673.1 bt673.2 bt675.1 bt675.2 a2))))))) else (some false))) = some r := h
 clear h
 obtain ⟨t668, A4, H⟩ := zbs H
 try dsimp only at H
 by_cases c5 : t668 = true
 ·subst c5
  have H1 : ((soft_Add.f k a0 a1 a2).bind fun bt669 => ((soft_Add.f k a1 a0 a2).bind fun bt671 => ((soft_Mul.f k a0 a1 a2).bind fun bt673 => ((soft_Mul.f k a1 a0 a2).bind fun bt675 => (if a2 = 1 then (flyballlaw06_SoftTurns.j0 k a0 a1 true bt669.1 bt669.2 bt671.1 bt671.2 bt673.1 bt673.2 bt675.1 bt675.2 2) else (if a2 = 2 then (flyballlaw06_SoftTurns.j0 k a0 a1 true bt669.1 bt669.2 bt671.1 bt671.2 bt673.1 bt673.2 bt675.1 bt675.2 1) else (flyballlaw06_SoftTurns.j0 k a0 a1 true bt669.1 bt669.2 bt671.1 bt671.2 bt673.1 bt673.2 bt675.1 bt675.2 a2))))))) = some r := by rw [if_pos rfl] at H; exact H
  clear H
  have H := H1
  clear H1
  obtain ⟨⟨t669, t670⟩, A6, H⟩ := zbs H
  try dsimp only at H
  obtain ⟨⟨t671, t672⟩, A7, H⟩ := zbs H
  try dsimp only at H
  obtain ⟨⟨t673, t674⟩, A8, H⟩ := zbs H
  try dsimp only at H
  obtain ⟨⟨t675, t676⟩, A9, H⟩ := zbs H
  try dsimp only at H
  have HC10 := Aside0.mk H
  clear H
  go_enter Try.func8, Try.ntmps8
  go_upto_if 54 with (first | ((with_reducible refine gate_callee (f := 20) rfl ?_); refine zgL 21 Try.func20 (flyballlaw06_works.calls k  true _ A4.out) (h := ?_); rintro w11 hb; replace HB := Aside0.mk (below_step zaB hb); (try clear hb)) | ((with_reducible refine gate_callee (f := 21) rfl ?_); refine zgL 28 Try.func21 (soft_Add.calls k a0 a1 a2 t669 t670 _ A6.out) (h := ?_); rintro w12 hb; replace HB := Aside0.mk (below_step zaB hb); (try clear hb)) | ((with_reducible refine gate_callee (f := 21) rfl ?_); refine zgL 35 Try.func21 (soft_Add.calls k a1 a0 a2 t671 t672 _ A7.out) (h := ?_); rintro w13 hb; replace HB := Aside0.mk (below_step zaB hb); (try clear hb)) | ((with_reducible refine gate_callee (f := 25) rfl ?_); refine zgL 42 Try.func25 (soft_Mul.calls k a0 a1 a2 t673 t674 _ A8.out) (h := ?_); rintro w14 hb; replace HB := Aside0.mk (below_step zaB hb); (try clear hb)) | ((with_reducible refine gate_callee (f := 25) rfl ?_); refine zgL 49 Try.func25 (soft_Mul.calls k a1 a0 a2 t675 t676 _ A9.out) (h := ?_); rintro w15 hb; replace HB := Aside0.mk (below_step zaB hb); (try clear hb)))
  (try simp only [Act.put, List.setIfInBounds_toArray, List.set_cons_zero, List.set_cons_succ])
  go_cut [16] (fun v16 wc => ∃ (kq : Nat) (x16_9 : Int), v16 = .int .u8 x16_9 ∧ Aside0 (flyballlaw06_SoftTurns.j0 kq a0 a1 true t669 t670 t671 t672 t673 t674 t675 t676 x16_9 = some r) ∧ Aside0 (kq ≤ k) ∧ Aside0 (Below w.heap.size w wc))
  case first =>
   have H := HC10.out
   clear HC10
   by_cases c16 : a2 = 1
   ·rw [if_pos c16] at H
    have c16b0 : (a2 == 1) = true := beq_iff_eq.mpr c16
    have c16b1 : (a2 != 1) = false := bne_eq_false_iff_eq.mpr c16
    clear c16
    (first | rw [c16b0] | (simp only [i64_w, i32_w]; rw [c16b0]) | skip)
    have H' := Aside0.mk H
    clear H
    go_wp2
    go_meet
    case rel => exact ⟨_, (2), (by first | rfl | (simp; done) | (simp [*]; done)), H', ⟨by first | omega | exact Nat.le_refl _⟩, ⟨zaB⟩⟩
   ·rw [if_neg c16] at H
    have c16b0 : (a2 == 1) = false := beq_eq_false_iff_ne.mpr c16
    have c16b1 : (a2 != 1) = true := bne_iff_ne.mpr c16
    (first | rw [c16b0] | (simp only [i64_w, i32_w]; rw [c16b0]) | skip)
    by_cases c17 : a2 = 2
    ·rw [if_pos c17] at H
     have c17b0 : (a2 == 2) = true := beq_iff_eq.mpr c17
     have c17b1 : (a2 != 2) = false := bne_eq_false_iff_eq.mpr c17
     clear c17
     have H' := Aside0.mk H
     clear H
     go_wp2
     go_meet
     case rel => exact ⟨_, (1), (by first | rfl | (simp; done) | (simp [*]; done)), H', ⟨by first | omega | exact Nat.le_refl _⟩, ⟨zaB⟩⟩
    ·rw [if_neg c17] at H
     have c17b0 : (a2 == 2) = false := beq_eq_false_iff_ne.mpr c17
     have c17b1 : (a2 != 2) = true := bne_iff_ne.mpr c17
     have H' := Aside0.mk H
     clear H
     go_wp2
     go_meet
     case rel => exact ⟨_, (a2), (by first | rfl | (simp; done) | (simp [*]; done)), H', ⟨by first | omega | exact Nat.le_refl _⟩, ⟨zaB⟩⟩
  case rest =>
   clear HC10
   try clear c1
   try clear c2
   try clear p2
   try clear c5
   try clear c8
   try clear c16
   try clear c16b0
   try clear c16b1
   try clear c17
   try clear c17b0
   try clear c17b1
   obtain ⟨kq, x16_9, rfl, HA, HJ9, HB⟩ := hcut
   cases kq with
   | zero => exact absurd HA.out (by simp [flyballlaw06_SoftTurns.j0])
   | succ kj9 =>
    have H := HA.out
    clear HA
    simp only [flyballlaw06_SoftTurns.j0] at H
    obtain ⟨t677, A18, H⟩ := zbs H
    try dsimp only at H
    obtain ⟨t678, A19, H⟩ := zbs H
    try dsimp only at H
    obtain ⟨⟨t679, t680⟩, A20, H⟩ := zbs H
    try dsimp only at H
    obtain ⟨t681, A21, H⟩ := zbs H
    try dsimp only at H
    obtain ⟨⟨t682, t683⟩, A22, H⟩ := zbs H
    try dsimp only at H
    obtain ⟨t684, A23, H⟩ := zbs H
    try dsimp only at H
    by_cases c24 : t684 = 4
    ·rw [if_pos c24] at H
     have c24b0 : (t684 == 4) = true := beq_iff_eq.mpr c24
     have c24b1 : (t684 != 4) = false := bne_eq_false_iff_eq.mpr c24
     clear c24
     by_cases c25 : true = true
     ·skip
      have H1 : (if t669 = t671 then (if t670 = t672 then (if t673 = t675 then (if t674 = t676 then (some (t679 == t669)) else (some false)) else (some false)) else (some false)) else (some false)) = some r := by first | (rw [if_pos rfl] at H; exact H) | (rw [if_pos trivial] at H; exact H)
      clear H
      have H := H1
      clear H1
      by_cases c26 : t669 = t671
      ·rw [if_pos c26] at H
       have c26b0 : (t669 == t671) = true := beq_iff_eq.mpr c26
       have c26b1 : (t669 != t671) = false := bne_eq_false_iff_eq.mpr c26
       clear c26
       by_cases c27 : t670 = t672
       ·rw [if_pos c27] at H
        have c27b0 : (t670 == t672) = true := beq_iff_eq.mpr c27
        have c27b1 : (t670 != t672) = false := bne_eq_false_iff_eq.mpr c27
        clear c27
        by_cases c28 : t673 = t675
        ·rw [if_pos c28] at H
         have c28b0 : (t673 == t675) = true := beq_iff_eq.mpr c28
         have c28b1 : (t673 != t675) = false := bne_eq_false_iff_eq.mpr c28
         clear c28
         by_cases c29 : t674 = t676
         ·rw [if_pos c29] at H
          have c29b0 : (t674 == t676) = true := beq_iff_eq.mpr c29
          have c29b1 : (t674 != t676) = false := bne_eq_false_iff_eq.mpr c29
          clear c29
          obtain rfl := Option.some.inj H
          go_wp2_with (first | ((with_reducible refine gate_callee (f := 32) rfl ?_); refine zgL 59 Try.func32 (pattern_Neg.calls kj9 a0 t677 _ A18.out) (h := ?_); rintro w' ⟨nd, rfl⟩) | ((with_reducible refine gate_callee (f := 32) rfl ?_); refine zgL 61 Try.func32 (pattern_Neg.calls kj9 a1 t678 _ A19.out) (h := ?_); rintro w' ⟨nd, rfl⟩) | ((with_reducible refine gate_callee (f := 21) rfl ?_); refine zgL 63 Try.func21 (soft_Add.calls kj9 t677 t678 x16_9 t679 t680 _ A20.out) (h := ?_); rintro w30 hb; replace HB := Aside0.mk (below_step zaB hb); (try clear hb)) | ((with_reducible refine gate_callee (f := 32) rfl ?_); refine zgL 68 Try.func32 (pattern_Neg.calls kj9 t679 t681 _ A21.out) (h := ?_); rintro w' ⟨nd, rfl⟩) | ((with_reducible refine gate_callee (f := 33) rfl ?_); refine zgL 70 Try.func33 (pattern_Cmp.calls kj9 t681 t669 t682 t683 _ A22.out) (h := ?_); rintro w' ⟨nd, rfl⟩) | ((with_reducible refine gate_callee (f := 24) rfl ?_); refine zgL 74 Try.func24 (pattern_Class.calls kj9 t669 t684 _ A23.out) (h := ?_); rintro w' ⟨nd, rfl⟩))
          go_ret
          exact ⟨zaE, zaB⟩
         ·rw [if_neg c29] at H
          have c29b0 : (t674 == t676) = false := beq_eq_false_iff_ne.mpr c29
          have c29b1 : (t674 != t676) = true := bne_iff_ne.mpr c29
          obtain rfl := Option.some.inj H
          go_wp2_with (first | ((with_reducible refine gate_callee (f := 32) rfl ?_); refine zgL 59 Try.func32 (pattern_Neg.calls kj9 a0 t677 _ A18.out) (h := ?_); rintro w' ⟨nd, rfl⟩) | ((with_reducible refine gate_callee (f := 32) rfl ?_); refine zgL 61 Try.func32 (pattern_Neg.calls kj9 a1 t678 _ A19.out) (h := ?_); rintro w' ⟨nd, rfl⟩) | ((with_reducible refine gate_callee (f := 21) rfl ?_); refine zgL 63 Try.func21 (soft_Add.calls kj9 t677 t678 x16_9 t679 t680 _ A20.out) (h := ?_); rintro w31 hb; replace HB := Aside0.mk (below_step zaB hb); (try clear hb)) | ((with_reducible refine gate_callee (f := 32) rfl ?_); refine zgL 68 Try.func32 (pattern_Neg.calls kj9 t679 t681 _ A21.out) (h := ?_); rintro w' ⟨nd, rfl⟩) | ((with_reducible refine gate_callee (f := 33) rfl ?_); refine zgL 70 Try.func33 (pattern_Cmp.calls kj9 t681 t669 t682 t683 _ A22.out) (h := ?_); rintro w' ⟨nd, rfl⟩) | ((with_reducible refine gate_callee (f := 24) rfl ?_); refine zgL 74 Try.func24 (pattern_Class.calls kj9 t669 t684 _ A23.out) (h := ?_); rintro w' ⟨nd, rfl⟩))
          go_ret
          exact ⟨zaE, zaB⟩
        ·rw [if_neg c28] at H
         have c28b0 : (t673 == t675) = false := beq_eq_false_iff_ne.mpr c28
         have c28b1 : (t673 != t675) = true := bne_iff_ne.mpr c28
         obtain rfl := Option.some.inj H
         go_wp2_with (first | ((with_reducible refine gate_callee (f := 32) rfl ?_); refine zgL 59 Try.func32 (pattern_Neg.calls kj9 a0 t677 _ A18.out) (h := ?_); rintro w' ⟨nd, rfl⟩) | ((with_reducible refine gate_callee (f := 32) rfl ?_); refine zgL 61 Try.func32 (pattern_Neg.calls kj9 a1 t678 _ A19.out) (h := ?_); rintro w' ⟨nd, rfl⟩) | ((with_reducible refine gate_callee (f := 21) rfl ?_); refine zgL 63 Try.func21 (soft_Add.calls kj9 t677 t678 x16_9 t679 t680 _ A20.out) (h := ?_); rintro w32 hb; replace HB := Aside0.mk (below_step zaB hb); (try clear hb)) | ((with_reducible refine gate_callee (f := 32) rfl ?_); refine zgL 68 Try.func32 (pattern_Neg.calls kj9 t679 t681 _ A21.out) (h := ?_); rintro w' ⟨nd, rfl⟩) | ((with_reducible refine gate_callee (f := 33) rfl ?_); refine zgL 70 Try.func33 (pattern_Cmp.calls kj9 t681 t669 t682 t683 _ A22.out) (h := ?_); rintro w' ⟨nd, rfl⟩) | ((with_reducible refine gate_callee (f := 24) rfl ?_); refine zgL 74 Try.func24 (pattern_Class.calls kj9 t669 t684 _ A23.out) (h := ?_); rintro w' ⟨nd, rfl⟩))
         go_ret
         exact ⟨zaE, zaB⟩
       ·rw [if_neg c27] at H
        have c27b0 : (t670 == t672) = false := beq_eq_false_iff_ne.mpr c27
        have c27b1 : (t670 != t672) = true := bne_iff_ne.mpr c27
        obtain rfl := Option.some.inj H
        go_wp2_with (first | ((with_reducible refine gate_callee (f := 32) rfl ?_); refine zgL 59 Try.func32 (pattern_Neg.calls kj9 a0 t677 _ A18.out) (h := ?_); rintro w' ⟨nd, rfl⟩) | ((with_reducible refine gate_callee (f := 32) rfl ?_); refine zgL 61 Try.func32 (pattern_Neg.calls kj9 a1 t678 _ A19.out) (h := ?_); rintro w' ⟨nd, rfl⟩) | ((with_reducible refine gate_callee (f := 21) rfl ?_); refine zgL 63 Try.func21 (soft_Add.calls kj9 t677 t678 x16_9 t679 t680 _ A20.out) (h := ?_); rintro w33 hb; replace HB := Aside0.mk (below_step zaB hb); (try clear hb)) | ((with_reducible refine gate_callee (f := 32) rfl ?_); refine zgL 68 Try.func32 (pattern_Neg.calls kj9 t679 t681 _ A21.out) (h := ?_); rintro w' ⟨nd, rfl⟩) | ((with_reducible refine gate_callee (f := 33) rfl ?_); refine zgL 70 Try.func33 (pattern_Cmp.calls kj9 t681 t669 t682 t683 _ A22.out) (h := ?_); rintro w' ⟨nd, rfl⟩) | ((with_reducible refine gate_callee (f := 24) rfl ?_); refine zgL 74 Try.func24 (pattern_Class.calls kj9 t669 t684 _ A23.out) (h := ?_); rintro w' ⟨nd, rfl⟩))
        go_ret
        exact ⟨zaE, zaB⟩
      ·rw [if_neg c26] at H
       have c26b0 : (t669 == t671) = false := beq_eq_false_iff_ne.mpr c26
       have c26b1 : (t669 != t671) = true := bne_iff_ne.mpr c26
       obtain rfl := Option.some.inj H
       go_wp2_with (first | ((with_reducible refine gate_callee (f := 32) rfl ?_); refine zgL 59 Try.func32 (pattern_Neg.calls kj9 a0 t677 _ A18.out) (h := ?_); rintro w' ⟨nd, rfl⟩) | ((with_reducible refine gate_callee (f := 32) rfl ?_); refine zgL 61 Try.func32 (pattern_Neg.calls kj9 a1 t678 _ A19.out) (h := ?_); rintro w' ⟨nd, rfl⟩) | ((with_reducible refine gate_callee (f := 21) rfl ?_); refine zgL 63 Try.func21 (soft_Add.calls kj9 t677 t678 x16_9 t679 t680 _ A20.out) (h := ?_); rintro w34 hb; replace HB := Aside0.mk (below_step zaB hb); (try clear hb)) | ((with_reducible refine gate_callee (f := 32) rfl ?_); refine zgL 68 Try.func32 (pattern_Neg.calls kj9 t679 t681 _ A21.out) (h := ?_); rintro w' ⟨nd, rfl⟩) | ((with_reducible refine gate_callee (f := 33) rfl ?_); refine zgL 70 Try.func33 (pattern_Cmp.calls kj9 t681 t669 t682 t683 _ A22.out) (h := ?_); rintro w' ⟨nd, rfl⟩) | ((with_reducible refine gate_callee (f := 24) rfl ?_); refine zgL 74 Try.func24 (pattern_Class.calls kj9 t669 t684 _ A23.out) (h := ?_); rintro w' ⟨nd, rfl⟩))
       go_ret
       exact ⟨zaE, zaB⟩
     ·exact absurd rfl c25
    ·rw [if_neg c24] at H
     have c24b0 : (t684 == 4) = false := beq_eq_false_iff_ne.mpr c24
     have c24b1 : (t684 != 4) = true := bne_iff_ne.mpr c24
     by_cases c36 : true = true
     ·skip
      have H1 : (if t669 = t671 then (if t670 = t672 then (if t673 = t675 then (if t674 = t676 then (if t682 = 0 then (some t683) else (some false)) else (some false)) else (some false)) else (some false)) else (some false)) = some r := by first | (rw [if_pos rfl] at H; exact H) | (rw [if_pos trivial] at H; exact H)
      clear H
      have H := H1
      clear H1
      by_cases c37 : t669 = t671
      ·rw [if_pos c37] at H
       have c37b0 : (t669 == t671) = true := beq_iff_eq.mpr c37
       have c37b1 : (t669 != t671) = false := bne_eq_false_iff_eq.mpr c37
       clear c37
       by_cases c38 : t670 = t672
       ·rw [if_pos c38] at H
        have c38b0 : (t670 == t672) = true := beq_iff_eq.mpr c38
        have c38b1 : (t670 != t672) = false := bne_eq_false_iff_eq.mpr c38
        clear c38
        by_cases c39 : t673 = t675
        ·rw [if_pos c39] at H
         have c39b0 : (t673 == t675) = true := beq_iff_eq.mpr c39
         have c39b1 : (t673 != t675) = false := bne_eq_false_iff_eq.mpr c39
         clear c39
         by_cases c40 : t674 = t676
         ·rw [if_pos c40] at H
          have c40b0 : (t674 == t676) = true := beq_iff_eq.mpr c40
          have c40b1 : (t674 != t676) = false := bne_eq_false_iff_eq.mpr c40
          clear c40
          by_cases c41 : t682 = 0
          ·rw [if_pos c41] at H
           have c41b0 : (t682 == 0) = true := beq_iff_eq.mpr c41
           have c41b1 : (t682 != 0) = false := bne_eq_false_iff_eq.mpr c41
           clear c41
           obtain rfl := Option.some.inj H
           go_wp2_with (first | ((with_reducible refine gate_callee (f := 32) rfl ?_); refine zgL 59 Try.func32 (pattern_Neg.calls kj9 a0 t677 _ A18.out) (h := ?_); rintro w' ⟨nd, rfl⟩) | ((with_reducible refine gate_callee (f := 32) rfl ?_); refine zgL 61 Try.func32 (pattern_Neg.calls kj9 a1 t678 _ A19.out) (h := ?_); rintro w' ⟨nd, rfl⟩) | ((with_reducible refine gate_callee (f := 21) rfl ?_); refine zgL 63 Try.func21 (soft_Add.calls kj9 t677 t678 x16_9 t679 t680 _ A20.out) (h := ?_); rintro w42 hb; replace HB := Aside0.mk (below_step zaB hb); (try clear hb)) | ((with_reducible refine gate_callee (f := 32) rfl ?_); refine zgL 68 Try.func32 (pattern_Neg.calls kj9 t679 t681 _ A21.out) (h := ?_); rintro w' ⟨nd, rfl⟩) | ((with_reducible refine gate_callee (f := 33) rfl ?_); refine zgL 70 Try.func33 (pattern_Cmp.calls kj9 t681 t669 t682 t683 _ A22.out) (h := ?_); rintro w' ⟨nd, rfl⟩) | ((with_reducible refine gate_callee (f := 24) rfl ?_); refine zgL 74 Try.func24 (pattern_Class.calls kj9 t669 t684 _ A23.out) (h := ?_); rintro w' ⟨nd, rfl⟩))
           go_ret
           exact ⟨zaE, zaB⟩
          ·rw [if_neg c41] at H
           have c41b0 : (t682 == 0) = false := beq_eq_false_iff_ne.mpr c41
           have c41b1 : (t682 != 0) = true := bne_iff_ne.mpr c41
           obtain rfl := Option.some.inj H
           go_wp2_with (first | ((with_reducible refine gate_callee (f := 32) rfl ?_); refine zgL 59 Try.func32 (pattern_Neg.calls kj9 a0 t677 _ A18.out) (h := ?_); rintro w' ⟨nd, rfl⟩) | ((with_reducible refine gate_callee (f := 32) rfl ?_); refine zgL 61 Try.func32 (pattern_Neg.calls kj9 a1 t678 _ A19.out) (h := ?_); rintro w' ⟨nd, rfl⟩) | ((with_reducible refine gate_callee (f := 21) rfl ?_); refine zgL 63 Try.func21 (soft_Add.calls kj9 t677 t678 x16_9 t679 t680 _ A20.out) (h := ?_); rintro w43 hb; replace HB := Aside0.mk (below_step zaB hb); (try clear hb)) | ((with_reducible refine gate_callee (f := 32) rfl ?_); refine zgL 68 Try.func32 (pattern_Neg.calls kj9 t679 t681 _ A21.out) (h := ?_); rintro w' ⟨nd, rfl⟩) | ((with_reducible refine gate_callee (f := 33) rfl ?_); refine zgL 70 Try.func33 (pattern_Cmp.calls kj9 t681 t669 t682 t683 _ A22.out) (h := ?_); rintro w' ⟨nd, rfl⟩) | ((with_reducible refine gate_callee (f := 24) rfl ?_); refine zgL 74 Try.func24 (pattern_Class.calls kj9 t669 t684 _ A23.out) (h := ?_); rintro w' ⟨nd, rfl⟩))
           go_ret
           exact ⟨zaE, zaB⟩
         ·rw [if_neg c40] at H
          have c40b0 : (t674 == t676) = false := beq_eq_false_iff_ne.mpr c40
          have c40b1 : (t674 != t676) = true := bne_iff_ne.mpr c40
          obtain rfl := Option.some.inj H
          go_wp2_with (first | ((with_reducible refine gate_callee (f := 32) rfl ?_); refine zgL 59 Try.func32 (pattern_Neg.calls kj9 a0 t677 _ A18.out) (h := ?_); rintro w' ⟨nd, rfl⟩) | ((with_reducible refine gate_callee (f := 32) rfl ?_); refine zgL 61 Try.func32 (pattern_Neg.calls kj9 a1 t678 _ A19.out) (h := ?_); rintro w' ⟨nd, rfl⟩) | ((with_reducible refine gate_callee (f := 21) rfl ?_); refine zgL 63 Try.func21 (soft_Add.calls kj9 t677 t678 x16_9 t679 t680 _ A20.out) (h := ?_); rintro w44 hb; replace HB := Aside0.mk (below_step zaB hb); (try clear hb)) | ((with_reducible refine gate_callee (f := 32) rfl ?_); refine zgL 68 Try.func32 (pattern_Neg.calls kj9 t679 t681 _ A21.out) (h := ?_); rintro w' ⟨nd, rfl⟩) | ((with_reducible refine gate_callee (f := 33) rfl ?_); refine zgL 70 Try.func33 (pattern_Cmp.calls kj9 t681 t669 t682 t683 _ A22.out) (h := ?_); rintro w' ⟨nd, rfl⟩) | ((with_reducible refine gate_callee (f := 24) rfl ?_); refine zgL 74 Try.func24 (pattern_Class.calls kj9 t669 t684 _ A23.out) (h := ?_); rintro w' ⟨nd, rfl⟩))
          go_ret
          exact ⟨zaE, zaB⟩
        ·rw [if_neg c39] at H
         have c39b0 : (t673 == t675) = false := beq_eq_false_iff_ne.mpr c39
         have c39b1 : (t673 != t675) = true := bne_iff_ne.mpr c39
         obtain rfl := Option.some.inj H
         go_wp2_with (first | ((with_reducible refine gate_callee (f := 32) rfl ?_); refine zgL 59 Try.func32 (pattern_Neg.calls kj9 a0 t677 _ A18.out) (h := ?_); rintro w' ⟨nd, rfl⟩) | ((with_reducible refine gate_callee (f := 32) rfl ?_); refine zgL 61 Try.func32 (pattern_Neg.calls kj9 a1 t678 _ A19.out) (h := ?_); rintro w' ⟨nd, rfl⟩) | ((with_reducible refine gate_callee (f := 21) rfl ?_); refine zgL 63 Try.func21 (soft_Add.calls kj9 t677 t678 x16_9 t679 t680 _ A20.out) (h := ?_); rintro w45 hb; replace HB := Aside0.mk (below_step zaB hb); (try clear hb)) | ((with_reducible refine gate_callee (f := 32) rfl ?_); refine zgL 68 Try.func32 (pattern_Neg.calls kj9 t679 t681 _ A21.out) (h := ?_); rintro w' ⟨nd, rfl⟩) | ((with_reducible refine gate_callee (f := 33) rfl ?_); refine zgL 70 Try.func33 (pattern_Cmp.calls kj9 t681 t669 t682 t683 _ A22.out) (h := ?_); rintro w' ⟨nd, rfl⟩) | ((with_reducible refine gate_callee (f := 24) rfl ?_); refine zgL 74 Try.func24 (pattern_Class.calls kj9 t669 t684 _ A23.out) (h := ?_); rintro w' ⟨nd, rfl⟩))
         go_ret
         exact ⟨zaE, zaB⟩
       ·rw [if_neg c38] at H
        have c38b0 : (t670 == t672) = false := beq_eq_false_iff_ne.mpr c38
        have c38b1 : (t670 != t672) = true := bne_iff_ne.mpr c38
        obtain rfl := Option.some.inj H
        go_wp2_with (first | ((with_reducible refine gate_callee (f := 32) rfl ?_); refine zgL 59 Try.func32 (pattern_Neg.calls kj9 a0 t677 _ A18.out) (h := ?_); rintro w' ⟨nd, rfl⟩) | ((with_reducible refine gate_callee (f := 32) rfl ?_); refine zgL 61 Try.func32 (pattern_Neg.calls kj9 a1 t678 _ A19.out) (h := ?_); rintro w' ⟨nd, rfl⟩) | ((with_reducible refine gate_callee (f := 21) rfl ?_); refine zgL 63 Try.func21 (soft_Add.calls kj9 t677 t678 x16_9 t679 t680 _ A20.out) (h := ?_); rintro w46 hb; replace HB := Aside0.mk (below_step zaB hb); (try clear hb)) | ((with_reducible refine gate_callee (f := 32) rfl ?_); refine zgL 68 Try.func32 (pattern_Neg.calls kj9 t679 t681 _ A21.out) (h := ?_); rintro w' ⟨nd, rfl⟩) | ((with_reducible refine gate_callee (f := 33) rfl ?_); refine zgL 70 Try.func33 (pattern_Cmp.calls kj9 t681 t669 t682 t683 _ A22.out) (h := ?_); rintro w' ⟨nd, rfl⟩) | ((with_reducible refine gate_callee (f := 24) rfl ?_); refine zgL 74 Try.func24 (pattern_Class.calls kj9 t669 t684 _ A23.out) (h := ?_); rintro w' ⟨nd, rfl⟩))
        go_ret
        exact ⟨zaE, zaB⟩
      ·rw [if_neg c37] at H
       have c37b0 : (t669 == t671) = false := beq_eq_false_iff_ne.mpr c37
       have c37b1 : (t669 != t671) = true := bne_iff_ne.mpr c37
       obtain rfl := Option.some.inj H
       go_wp2_with (first | ((with_reducible refine gate_callee (f := 32) rfl ?_); refine zgL 59 Try.func32 (pattern_Neg.calls kj9 a0 t677 _ A18.out) (h := ?_); rintro w' ⟨nd, rfl⟩) | ((with_reducible refine gate_callee (f := 32) rfl ?_); refine zgL 61 Try.func32 (pattern_Neg.calls kj9 a1 t678 _ A19.out) (h := ?_); rintro w' ⟨nd, rfl⟩) | ((with_reducible refine gate_callee (f := 21) rfl ?_); refine zgL 63 Try.func21 (soft_Add.calls kj9 t677 t678 x16_9 t679 t680 _ A20.out) (h := ?_); rintro w47 hb; replace HB := Aside0.mk (below_step zaB hb); (try clear hb)) | ((with_reducible refine gate_callee (f := 32) rfl ?_); refine zgL 68 Try.func32 (pattern_Neg.calls kj9 t679 t681 _ A21.out) (h := ?_); rintro w' ⟨nd, rfl⟩) | ((with_reducible refine gate_callee (f := 33) rfl ?_); refine zgL 70 Try.func33 (pattern_Cmp.calls kj9 t681 t669 t682 t683 _ A22.out) (h := ?_); rintro w' ⟨nd, rfl⟩) | ((with_reducible refine gate_callee (f := 24) rfl ?_); refine zgL 74 Try.func24 (pattern_Class.calls kj9 t669 t684 _ A23.out) (h := ?_); rintro w' ⟨nd, rfl⟩))
       go_ret
       exact ⟨zaE, zaB⟩
     ·exact absurd rfl c36
 ·replace c5 := Bool.eq_false_iff.mpr c5
  subst c5
  have H1 : (some false) = some r := by rw [if_neg (show ¬ (false = true) by decide)] at H; exact H
  clear H
  have H := H1
  clear H1
  obtain rfl := Option.some.inj H
  go_enter Try.func8, Try.ntmps8
  go_wp2_with (first | ((with_reducible refine gate_callee (f := 20) rfl ?_); refine zgL 21 Try.func20 (flyballlaw06_works.calls k  false _ A4.out) (h := ?_); rintro w49 hb; replace HB := Aside0.mk (below_step zaB hb); (try clear hb)))
  go_ret
  exact ⟨zaE, zaB⟩
theorem flyballlaw06_SoftTurns.walk (P : flyballlaw06_SoftTurns.Pure) (a0 : Int) (a1 : Int) (a2 : Int) (w : World) (w0 : (Lit.int .u64 a0).wf = true) (w1 : (Lit.int .u64 a1).wf = true) (w2 : (Lit.int .u8 a2).wf = true) :
  Calls Try.prog 8 #[.int .u64 a0, .int .u64 a1, .int .u8 a2] w fun e w' => e = .returned (.bool true) ∧ Below w.heap.size w w' := by
 obtain ⟨k, h⟩ := P a0 a1 a2 w0 w1 w2
 refine (flyballlaw06_SoftTurns.calls k a0 a1 a2 true w h).mono ?_
 rintro e w' ⟨rfl, hd⟩
 exact ⟨rfl, hd⟩
end Go.Proofs.Ytmadjhmecfbcmaa.F
end
section
namespace Go.Proofs.Ytmadjhmecfbcmaa.M
open Go.RowKit Go.Proofs.YtmadjhmecfbcmaaW.PrintWords Go.Proofs.YtmadjhmecfbcmaaW.PrintLast Go.Proofs.YtmadjhmecfbcmaaW.PrintMore Go.Proofs.Ytmadjhmecfbcmaa.F
def sgn (a : Nat) : Bool := a / 9223372036854775808 == 1
def ex (a : Nat) : Nat := a / 4503599627370496 % 2048
def fr (a : Nat) : Nat := a % 4503599627370496
def cls (a : Nat) : Nat := if ex a = 2047 then (if fr a = 0 then 3 else 4) else if ex a = 0 then (if fr a = 0 then 0 else 1) else 2
def spm (a : Nat) : Nat := if cls a = 2 then 4503599627370496 + fr a else if cls a = 1 then fr a else 0
def spe (a : Nat) : Int := if cls a = 2 then (ex a : Int) - 1075 else if cls a = 1 then -1074 else 0
def key (a : Nat) : Nat := a % 9223372036854775808
def U (a : Nat) : Prop := a < 18446744073709551616
theorem sgn_cast (a : Nat) : ((a : Int) / 9223372036854775808 == 1) = sgn a := by
  unfold sgn
  rw [Bool.eq_iff_iff, beq_iff_eq, beq_iff_eq]; omega
theorem ex_lt (a : Nat) : ex a < 2048 := by unfold ex; omega
theorem fr_lt (a : Nat) : fr a < 4503599627370496 := by unfold fr; omega
theorem key_lt (a : Nat) : key a < 9223372036854775808 := by unfold key; omega
theorem key_parts' (a : Nat) : key a = ex a * 4503599627370496 + fr a := by unfold key ex fr; omega
theorem a_parts (a : Nat) (h : U a) : a = sg (sgn a) + key a := by
  unfold sg sgn key U at *
  by_cases e : a / 9223372036854775808 = 1
  · rw [beq_iff_eq.2 e, if_pos rfl]; omega
  · rw [beq_eq_false_iff_ne.2 e, if_neg (by simp)]; omega
theorem Parts_ok (a : Nat) (h : U a) : pattern_Parts.f (a : Int) = some (sgn a, (ex a : Int), (fr a : Int)) := by
  unfold pattern_Parts.f U at *
  rw [sgn_cast, show (a : Int) / 4503599627370496 = ((a / 4503599627370496 : Nat) : Int) from by omega, and_2047 _ (by omega), and_52 _ h, w64 (by omega) (by omega)]
  rfl
theorem Class_ev (a : Nat) (h : U a) : Ev (fun k => pattern_Class.f k (a : Int)) (cls a : Int) := by
  refine Ev.later 2 fun k => ?_
  unfold pattern_Class.f
  rw [bind_of _ (Parts_ok a h)]
  dsimp only
  have e1 : ((fr a : Int) == 0) = decide (fr a = 0) := by rw [Bool.eq_iff_iff]; simp
  rw [e1]
  unfold cls
  by_cases c1 : ex a = 2047
  · rw [if_pos (by omega), if_pos c1]
    by_cases c2 : fr a = 0
    · simp [pattern_Class.j0, c2]
    · simp [pattern_Class.j0, c2, c1]
  · rw [if_neg (by omega), if_neg c1]
    by_cases c3 : ex a = 0
    · by_cases c2 : fr a = 0
      · simp [pattern_Class.j0, pattern_Class.j1, c2, c3]
      · simp [pattern_Class.j0, pattern_Class.j1, c2, c3]
    · have : ¬ ((ex a : Int) = 2047) := by omega
      simp [pattern_Class.j0, pattern_Class.j1, this, c3]
theorem cls_le (a : Nat) : cls a ≤ 4 := by unfold cls; (repeat' split) <;> omega
theorem spm_lt (a : Nat) : spm a < 9007199254740992 := by have := fr_lt a; unfold spm; (repeat' split) <;> omega
theorem spe_bd (a : Nat) : -1074 ≤ spe a ∧ spe a ≤ 971 := by
  unfold spe
  split
  · rename_i h
    have := ex_lt a
    have : 1 ≤ ex a ∧ ex a ≠ 2047 := by unfold cls at h; (repeat' split at h) <;> first | omega | (refine ⟨by omega, by omega⟩)
    omega
  · split <;> omega
theorem split_mn (a : Nat) : (if (cls a : Int) = 2 then (some ((4503599627370496 : Int) + (fr a : Int), (ex a : Int) - 1075)) else (if (cls a : Int) = 1 then (some ((fr a : Int), (-1074 : Int))) else (some (0, 0)))) = some ((spm a : Int), spe a) := by
  unfold spm spe
  by_cases c1 : cls a = 2
  · simp only [c1, if_true]; rw [Int.natCast_add]; rfl
  · have h1 : ¬ (cls a : Int) = 2 := by omega
    by_cases c2 : cls a = 1
    · have h2 : (cls a : Int) = 1 := by omega
      rw [if_neg h1, if_pos h2, if_neg c1, if_neg c1, if_pos c2, if_pos c2]
    · have h2 : ¬ (cls a : Int) = 1 := by omega
      rw [if_neg h1, if_neg h2, if_neg c1, if_neg c1, if_neg c2, if_neg c2]; rfl
theorem Split_ev (a : Nat) (h : U a) : Ev (fun k => pattern_Split.f k (a : Int)) ((spm a : Int), spe a) := by
  unfold pattern_Split.f
  refine Ev.b _ (Ev.const (Parts_ok a h)) (Ev.b _ (Class_ev a h) (Ev.const ?_))
  dsimp only
  have h1 := fr_lt a
  have h2 := ex_lt a
  have e1 : bits .or .u64 4503599627370496 (fr a : Int) = 4503599627370496 + (fr a : Int) := by
    have := or_join 4503599627370496 (fr a) 52 (by decide) (by omega) (by decide) (by omega)
    rw [Int.natCast_add] at this; exact this
  have e2 : wrap64 ((ex a : Int) - 1075) = (ex a : Int) - 1075 := w64 (by omega) (by omega)
  refine Eq.trans ?_ (split_mn a)
  rw [e1, e2]
theorem of_ev (a : Nat) (h : U a) : Ev (fun k => soft_of.f k (a : Int)) ((a : Int), (cls a : Int), sgn a, (spm a : Int), spe a) := by
  unfold soft_of.f
  refine Ev.b _ (Split_ev a h) (Ev.b _ (Class_ev a h) (Ev.const ?_))
  rw [sgn_cast]
def mk (neg : Bool) (e f : Nat) : Nat := sg neg + (e * 4503599627370496 + f)
theorem Make_ev (neg : Bool) (e f : Nat) (he : e ≤ 2047) (hf : f < 4503599627370496) : Ev (fun k => pattern_Make.f k neg (e : Int) (f : Int)) ((mk neg e f : Int), 0) := by
  refine Ev.later 1 fun k => ?_
  unfold pattern_Make.f
  rw [if_neg (by omega), if_neg (by omega), decide_eq_false (by omega)]
  simp only [pattern_Make.j0]
  rw [if_neg (by simp), wu64 (n := (e : Int)) (by omega) (by omega), wu64 (n := (e : Int) * 4503599627370496) (by omega) (by omega)]
  rw [show (e : Int) * 4503599627370496 = ((e * 4503599627370496 : Nat) : Int) from by omega]
  rw [or_join (e * 4503599627370496) f 52 (by omega) hf (by omega) (by omega)]
  unfold mk sg
  cases neg
  · rw [if_neg (by simp)]; simp
  · rw [if_pos rfl, show (9223372036854775808 : Int) = ((9223372036854775808 : Nat) : Int) from rfl, or_join' 9223372036854775808 _ 63 (by decide) (by omega) (by decide) (by omega)]
    simp
theorem zero_ev (neg : Bool) : Ev (fun k => soft_zero.f k neg) (sg neg : Int) := by
  unfold soft_zero.f
  exact Ev.b _ (Make_ev neg 0 0 (by omega) (by omega)) (Ev.now _)
theorem Inf_ev (neg : Bool) : Ev (fun k => pattern_Inf.f k neg) ((sg neg + 9218868437227405312 : Nat) : Int) := by
  unfold pattern_Inf.f
  exact Ev.b _ (Make_ev neg 2047 0 (by omega) (by omega)) (Ev.now _)
theorem nan_ev (a : Nat) (h : U a) : Ev (fun k => pattern_nan.f k (a : Int)) (decide (cls a = 4)) := by
  unfold pattern_nan.f
  refine Ev.b _ (Class_ev a h) (Ev.const ?_)
  congr 1; rw [Bool.eq_iff_iff, beq_iff_eq, decide_eq_true_iff]; omega
theorem flip_U (a : Nat) (h : U a) : U (flip a) := by unfold U flip at *; split <;> omega
def ng (a : Nat) : Nat := if cls a = 4 then a else flip a
theorem ng_U (a : Nat) (h : U a) : U (ng a) := by unfold ng; split; exact h; exact flip_U a h
theorem Neg_ev (a : Nat) (h : U a) : Ev (fun k => pattern_Neg.f k (a : Int)) (ng a : Int) := by
  unfold pattern_Neg.f
  refine Ev.b _ (nan_ev a h) (Ev.const ?_)
  unfold ng
  by_cases c : cls a = 4
  · rw [decide_eq_true c, if_pos rfl, if_pos c]
  · rw [decide_eq_false c, if_neg (by simp), if_neg c, xor_sign a h]
end Go.Proofs.Ytmadjhmecfbcmaa.M
end
section
namespace Go.Proofs.Ytmadjhmecfbcmaa.M
open Go.RowKit Go.Proofs.YtmadjhmecfbcmaaW.PrintWords Go.Proofs.YtmadjhmecfbcmaaW.PrintLast Go.Proofs.YtmadjhmecfbcmaaW.PrintMore Go.Proofs.Ytmadjhmecfbcmaa.F
theorem mod_mul_add (x B d : Nat) (hd : d < B) : (x * B + d) % (B * B) = x % B * B + d := by
  have h1 := Nat.div_add_mod x B
  have hB : 0 < B := by omega
  have h2 : x * B + d = (x % B * B + d) + (B * B) * (x / B) := by
    have : x * B = (B * (x / B) + x % B) * B := by rw [h1]
    rw [this, Nat.add_mul]; grind
  rw [h2, Nat.add_mul_mod_self_left]
  apply Nat.mod_eq_of_lt
  have : x % B + 1 ≤ B := Nat.mod_lt x hB
  have : (x % B + 1) * B ≤ B * B := Nat.mul_le_mul_right B this
  rw [Nat.add_mul] at this; omega
theorem mul_mod_join (hi c B P Q : Nat) (hPQ : P * Q = B) (hQ : 0 < Q) (hc : c < P) : (hi * P + c) % B = hi * P % B + c := by
  have e : hi * P % B = hi % Q * P := by
    rw [← hPQ, Nat.mul_comm hi P, Nat.mul_mod_mul_left, Nat.mul_comm]
  have h1 := Nat.div_add_mod hi Q
  have h2 : hi * P + c = (hi % Q * P + c) + B * (hi / Q) := by
    have : hi * P = (Q * (hi / Q) + hi % Q) * P := by rw [h1]
    rw [this, ← hPQ]; grind
  rw [h2, Nat.add_mul_mod_self_left, e]
  apply Nat.mod_eq_of_lt
  have : hi % Q + 1 ≤ Q := Nat.mod_lt hi hQ
  have : (hi % Q + 1) * P ≤ Q * P := Nat.mul_le_mul_right P this
  rw [Nat.add_mul, Nat.mul_comm Q P] at this; omega
def tw (V : Nat) : Int × Int := (((V / 18446744073709551616 : Nat) : Int), ((V % 18446744073709551616 : Nat) : Int))
theorem tw_join (q d : Nat) (h : d < 18446744073709551616) : tw (q * 18446744073709551616 + d) = ((q : Int), (d : Int)) := by
  rw [tw, show (q * 18446744073709551616 + d) / 18446744073709551616 = q by omega, show (q * 18446744073709551616 + d) % 18446744073709551616 = d by omega]
theorem shl_arith (hi lo n : Nat) (h1 : lo < 18446744073709551616) (hn : n < 64) :
    (hi * 18446744073709551616 + lo) * 2 ^ n % (18446744073709551616 * 18446744073709551616) =
      (hi * 2 ^ n % 18446744073709551616 + lo / 2 ^ (64 - n)) * 18446744073709551616 + lo * 2 ^ n % 18446744073709551616 := by
  have hPQ : 2 ^ n * 2 ^ (64 - n) = 18446744073709551616 := by rw [← Nat.pow_add, show n + (64 - n) = 64 by omega]
  have hc : lo * 2 ^ n / 18446744073709551616 = lo / 2 ^ (64 - n) := by
    rw [← hPQ, Nat.mul_comm lo, Nat.mul_div_mul_left _ _ (two_pos n)]
  have hc2 : lo / 2 ^ (64 - n) < 2 ^ n := by rw [Nat.div_lt_iff_lt_mul (two_pos _), hPQ]; exact h1
  have h2 := Nat.div_add_mod (lo * 2 ^ n) 18446744073709551616
  have e : (hi * 18446744073709551616 + lo) * 2 ^ n = (hi * 2 ^ n + lo / 2 ^ (64 - n)) * 18446744073709551616 + lo * 2 ^ n % 18446744073709551616 := by
    rw [← hc, Nat.add_mul, Nat.add_mul, Nat.mul_right_comm]; omega
  rw [e, mod_mul_add _ _ _ (Nat.mod_lt _ (by decide)), mul_mod_join _ _ _ _ _ hPQ (two_pos _) hc2]
theorem Shl_ev (n : Nat) : ∀ (hi lo : Nat), hi < 18446744073709551616 → lo < 18446744073709551616 → n < 1000000 →
    Ev (fun k => wide_U128_Shl.l0 k (n : Int) (hi : Int) (lo : Int)) (tw ((hi * 18446744073709551616 + lo) * 2 ^ n % (18446744073709551616 * 18446744073709551616))) := by
  induction n using Nat.strongRecOn with
  | _ n ih =>
  intro hi lo hhi hlo hn
  refine Ev.next ?_
  simp only [wide_U128_Shl.l0]
  by_cases c : 64 ≤ n
  · have hB : 2 ^ n = 18446744073709551616 * 2 ^ (n - 64) := by rw [← show 64 + (n - 64) = n by omega, Nat.pow_add, show 64 + (n - 64) - 64 = n - 64 by omega]
    have e : (hi * 18446744073709551616 + lo) * 2 ^ n % (18446744073709551616 * 18446744073709551616) = (lo * 18446744073709551616 + 0) * 2 ^ (n - 64) % (18446744073709551616 * 18446744073709551616) := by
      have : (hi * 18446744073709551616 + lo) * 2 ^ n = (lo * 18446744073709551616 + 0) * 2 ^ (n - 64) + (18446744073709551616 * 18446744073709551616) * (hi * 2 ^ (n - 64)) := by rw [hB]; grind
      rw [this, Nat.add_mul_mod_self_left]
    rw [e]
    by_cases z : lo = 0
    · subst z
      refine Ev.all fun k => ?_
      rw [if_pos (by omega), if_pos (by rfl)]
      simp [tw]
    · have := ih (n - 64) (by omega) lo 0 hlo (by omega) (by omega)
      refine Ev.congr (fun k => ?_) this
      have z' : ¬ ((lo : Int) == 0) = true := by rw [beq_iff_eq]; omega
      rw [if_pos (by omega), if_neg z', w64 (by omega) (by omega), show (n : Int) - 64 = ((n - 64 : Nat) : Int) from by omega]; rfl
  · refine Ev.all fun k => ?_
    rw [if_neg (by omega)]
    by_cases z : n = 0
    · subst z
      rw [if_pos (by omega)]
      have : (hi * 18446744073709551616 + lo) * 2 ^ 0 % (18446744073709551616 * 18446744073709551616) = hi * 18446744073709551616 + lo := by omega
      rw [this, tw, show (hi * 18446744073709551616 + lo) / 18446744073709551616 = hi by omega, show (hi * 18446744073709551616 + lo) % 18446744073709551616 = lo by omega]
    · rw [if_neg (by omega), if_pos (by omega), w64 (by omega) (by omega), if_pos (by omega), shl_arith hi lo n hlo (by omega)]
      rw [show (64 : Int) - (n : Int) = ((64 - n : Nat) : Int) from by omega, shl_nat _ _ (by omega), shl_nat _ _ (by omega), shr_nat _ _ (by omega)]
      have hPQ : 2 ^ n * 2 ^ (64 - n) = 18446744073709551616 := by rw [← Nat.pow_add, show n + (64 - n) = 64 by omega]
      have hc2 : lo / 2 ^ (64 - n) < 2 ^ n := by rw [Nat.div_lt_iff_lt_mul (two_pos _), hPQ]; exact hlo
      have hm : hi * 2 ^ n % 18446744073709551616 % 2 ^ n = 0 := by
        rw [← hPQ, Nat.mul_comm hi, Nat.mul_mod_mul_left, Nat.mul_mod_right]
      have hl : lo / 2 ^ (64 - n) ≤ lo := Nat.div_le_self _ _
      have hlt : hi * 2 ^ n % 18446744073709551616 + lo / 2 ^ (64 - n) < 18446744073709551616 := by
        have := mul_mod_join hi (lo / 2 ^ (64 - n)) 18446744073709551616 (2 ^ n) (2 ^ (64 - n)) hPQ (two_pos _) hc2
        rw [← this]; exact Nat.mod_lt _ (by decide)
      rw [or_join _ _ n (Nat.mod_lt _ (by decide)) hc2 hm (by omega)]
      have hd : lo * 2 ^ n % 18446744073709551616 < 18446744073709551616 := Nat.mod_lt _ (by decide)
      generalize lo * 2 ^ n % 18446744073709551616 = d at *
      generalize hi * 2 ^ n % 18446744073709551616 + lo / 2 ^ (64 - n) = q at *
      rw [tw_join q d hd]
theorem U128_Shl (hi lo n : Nat) (h1 : hi < 18446744073709551616) (h2 : lo < 18446744073709551616) (hn : n < 1000000) :
    Ev (fun k => wide_U128_Shl.f k (hi : Int) (lo : Int) (n : Int)) (tw ((hi * 18446744073709551616 + lo) * 2 ^ n % (18446744073709551616 * 18446744073709551616))) := Shl_ev n hi lo h1 h2 hn
theorem shr_arith (hi lo n : Nat) (hlo : lo < 18446744073709551616) (h0 : 0 < n) (hn : n < 64) :
    (hi * 18446744073709551616 + lo) / 2 ^ n = hi / 2 ^ n * 18446744073709551616 + (hi * 2 ^ (64 - n) % 18446744073709551616 + lo / 2 ^ n) ∧
    (hi * 18446744073709551616 + lo) % 2 ^ n = lo % 2 ^ n ∧ hi * 2 ^ (64 - n) % 18446744073709551616 % 2 ^ (64 - n) = 0 ∧ lo / 2 ^ n < 2 ^ (64 - n) ∧
    hi * 2 ^ (64 - n) % 18446744073709551616 + lo / 2 ^ n < 18446744073709551616 ∧ (lo * 2 ^ (64 - n) % 18446744073709551616 = 0 ↔ lo % 2 ^ n = 0) := by
  have hPQ : 2 ^ n * 2 ^ (64 - n) = 18446744073709551616 := by rw [← Nat.pow_add, show n + (64 - n) = 64 by omega]
  have hQP : 2 ^ (64 - n) * 2 ^ n = 18446744073709551616 := by rw [Nat.mul_comm]; exact hPQ
  have hc2 : lo / 2 ^ n < 2 ^ (64 - n) := by rw [Nat.div_lt_iff_lt_mul (two_pos _), hQP]; exact hlo
  have p1 := two_pos n
  have p2 := two_pos (64 - n)
  have h4 : hi * 2 ^ (64 - n) % 18446744073709551616 = hi % 2 ^ n * 2 ^ (64 - n) := by
    rw [← hQP, Nat.mul_comm hi, Nat.mul_mod_mul_left, Nat.mul_comm]
  have h5 : lo * 2 ^ (64 - n) % 18446744073709551616 = lo % 2 ^ n * 2 ^ (64 - n) := by
    rw [← hQP, Nat.mul_comm lo, Nat.mul_mod_mul_left, Nat.mul_comm]
  have hx : hi % 2 ^ n < 2 ^ n := Nat.mod_lt _ p1
  refine ⟨?_, ?_, ?_, hc2, ?_, ?_⟩
  · rw [h4]
    have e : hi * 18446744073709551616 + lo = lo + 2 ^ n * (hi * 2 ^ (64 - n)) := by rw [← hPQ]; grind
    rw [e, Nat.add_mul_div_left _ _ p1]
    have := Nat.div_add_mod hi (2 ^ n)
    have e2 : hi * 2 ^ (64 - n) = hi / 2 ^ n * 18446744073709551616 + hi % 2 ^ n * 2 ^ (64 - n) := by
      rw [← hPQ]
      have : hi * 2 ^ (64 - n) = (2 ^ n * (hi / 2 ^ n) + hi % 2 ^ n) * 2 ^ (64 - n) := by rw [this]
      rw [this]; grind
    rw [e2]; omega
  · have e : hi * 18446744073709551616 + lo = lo + 2 ^ n * (hi * 2 ^ (64 - n)) := by rw [← hPQ]; grind
    rw [e, Nat.add_mul_mod_self_left]
  · rw [h4, Nat.mul_mod_left]
  · rw [h4]
    have h6 : (hi % 2 ^ n + 1) * 2 ^ (64 - n) ≤ 2 ^ n * 2 ^ (64 - n) := Nat.mul_le_mul_right _ hx
    rw [hPQ, Nat.add_mul] at h6; omega
  · rw [h5]
    constructor
    · intro h; rcases Nat.mul_eq_zero.1 h with h | h <;> omega
    · intro h; rw [h, Nat.zero_mul]
theorem Shr_ev (n : Nat) : ∀ (hi lo : Nat) (lost : Bool), hi < 18446744073709551616 → lo < 18446744073709551616 → n < 1000000 →
    Ev (fun k => wide_U128_Shr.l0 k (n : Int) lost (hi : Int) (lo : Int)) ((tw ((hi * 18446744073709551616 + lo) / 2 ^ n)).1, (tw ((hi * 18446744073709551616 + lo) / 2 ^ n)).2, lost || decide ((hi * 18446744073709551616 + lo) % 2 ^ n ≠ 0)) := by
  induction n using Nat.strongRecOn with
  | _ n ih =>
  intro hi lo lost hhi hlo hn
  refine Ev.next ?_
  simp only [wide_U128_Shr.l0]
  by_cases c : 64 ≤ n
  · have hB : 2 ^ n = 18446744073709551616 * 2 ^ (n - 64) := by rw [← show 64 + (n - 64) = n by omega, Nat.pow_add, show 64 + (n - 64) - 64 = n - 64 by omega]
    have e : (hi * 18446744073709551616 + lo) / 2 ^ n = (0 * 18446744073709551616 + hi) / 2 ^ (n - 64) := by
      rw [hB, ← Nat.div_div_eq_div_mul]; congr 1; omega
    have e2 : (hi * 18446744073709551616 + lo) % 2 ^ n ≠ 0 ↔ lo ≠ 0 ∨ (0 * 18446744073709551616 + hi) % 2 ^ (n - 64) ≠ 0 := by
      rw [hB, Nat.mod_mul, show (hi * 18446744073709551616 + lo) % 18446744073709551616 = lo by omega, show (hi * 18446744073709551616 + lo) / 18446744073709551616 = 0 * 18446744073709551616 + hi by omega]
      have := two_pos (n - 64)
      constructor
      · intro h; by_cases z : lo = 0
        · right; intro h2; apply h; rw [h2, z]
        · exact .inl z
      · rintro (h | h) h2
        · omega
        · apply h; rcases Nat.eq_zero_of_add_eq_zero h2 with ⟨_, h3⟩
          rcases Nat.mul_eq_zero.1 h3 with h4 | h4
          · cases h4
          · exact h4
    have l1 : ((lo : Int) != 0) = decide (lo ≠ 0) := by rw [Bool.eq_iff_iff]; simp
    have e3 : (lost || decide ((hi * 18446744073709551616 + lo) % 2 ^ n ≠ 0)) = ((lost || decide (lo ≠ 0)) || decide ((0 * 18446744073709551616 + hi) % 2 ^ (n - 64) ≠ 0)) := by
      rw [Bool.eq_iff_iff]; simp only [Bool.or_eq_true, decide_eq_true_iff, e2]; grind
    rw [e, e3]
    by_cases z : hi = 0
    · subst z
      refine Ev.all fun k => ?_
      rw [if_pos (by omega)]
      cases lost
      · rw [if_neg (by simp), if_pos (by rfl), l1]; simp [tw]
      · rw [if_pos rfl, if_pos (by rfl)]; simp [tw]
    · have z' : ¬ ((hi : Int) == 0) = true := by rw [beq_iff_eq]; omega
      have hc : (n : Int) - 64 = ((n - 64 : Nat) : Int) := by omega
      cases lost
      · have := ih (n - 64) (by omega) 0 hi (decide (lo ≠ 0)) (by omega) hhi (by omega)
        refine Ev.congr (fun k => ?_) (by rw [Bool.false_or]; exact this)
        rw [if_pos (by omega), if_neg (by simp), if_neg z', w64 (by omega) (by omega), hc, l1]; rfl
      · have := ih (n - 64) (by omega) 0 hi true (by omega) hhi (by omega)
        refine Ev.congr (fun k => ?_) (by rw [Bool.true_or]; exact this)
        rw [if_pos (by omega), if_pos rfl, if_neg z', w64 (by omega) (by omega), hc]; rfl
  · refine Ev.all fun k => ?_
    rw [if_neg (by omega)]
    by_cases z : n = 0
    · subst z
      rw [if_pos (by omega)]
      have : (hi * 18446744073709551616 + lo) / 2 ^ 0 = hi * 18446744073709551616 + lo := by omega
      rw [this, tw, show (hi * 18446744073709551616 + lo) / 18446744073709551616 = hi by omega, show (hi * 18446744073709551616 + lo) % 18446744073709551616 = lo by omega]
      have : (hi * 18446744073709551616 + lo) % 2 ^ 0 = 0 := by omega
      rw [this]; simp
    · obtain ⟨a1, a2, a3, a4, a5, a6⟩ := shr_arith hi lo n hlo (by omega) (by omega)
      have hl : lo / 2 ^ n ≤ lo := Nat.div_le_self _ _
      have hd : hi / 2 ^ n ≤ hi := Nat.div_le_self _ _
      rw [if_neg (by omega), if_pos (by omega), w64 (by omega) (by omega), if_pos (by omega)]
      rw [show (64 : Int) - (n : Int) = ((64 - n : Nat) : Int) from by omega, shr_nat _ _ (by omega), shr_nat _ _ (by omega), shl_nat _ _ (by omega), shl_nat _ _ (by omega)]
      rw [or_join' _ _ (64 - n) (Nat.mod_lt _ (by decide)) a4 a3 (by omega), a1, a2]
      have l1 : (((lo * 2 ^ (64 - n) % 18446744073709551616 : Nat) : Int) != 0) = decide (lo % 2 ^ n ≠ 0) := by
        rw [Bool.eq_iff_iff]; simp only [bne_iff_ne, decide_eq_true_iff, Ne, ← a6]; omega
      generalize hi * 2 ^ (64 - n) % 18446744073709551616 + lo / 2 ^ n = d at *
      generalize hi / 2 ^ n = q at *
      rw [tw_join q d a5]
      cases lost
      · rw [if_neg (by simp), l1]; rfl
      · rw [if_pos rfl]; rfl
theorem U128_Shr (hi lo n : Nat) (h1 : hi < 18446744073709551616) (h2 : lo < 18446744073709551616) (hn : n < 1000000) :
    Ev (fun k => wide_U128_Shr.f k (hi : Int) (lo : Int) (n : Int)) ((tw ((hi * 18446744073709551616 + lo) / 2 ^ n)).1, (tw ((hi * 18446744073709551616 + lo) / 2 ^ n)).2, decide ((hi * 18446744073709551616 + lo) % 2 ^ n ≠ 0)) := by
  have := Shr_ev n hi lo false h1 h2 hn
  rw [Bool.false_or] at this; exact this
def bl (x : Nat) : Nat := if x = 0 then 0 else x.log2 + 1
theorem Len64_ok (x : Nat) (h : x < 18446744073709551616) : bits_Len64.f (x : Int) = some (bl x : Int) := by
  unfold bits_Len64.f bl
  rw [if_pos (by omega), Int.toNat_natCast]
  split
  · rename_i e; subst e; rfl
  · rename_i e; rw [bitLen_log2 x e h]
theorem log2_join (hi lo : Nat) (h : hi ≠ 0) (h2 : lo < 18446744073709551616) : (hi * 18446744073709551616 + lo).log2 = hi.log2 + 64 := by
  have a1 := Nat.log2_self_le h
  have a2 : hi < 2 ^ (hi.log2 + 1) := Nat.lt_log2_self
  have n0 : hi * 18446744073709551616 + lo ≠ 0 := by omega
  have b1 : hi.log2 + 64 ≤ (hi * 18446744073709551616 + lo).log2 := by
    rw [Nat.le_log2 n0, Nat.pow_add]; omega
  have b2 : (hi * 18446744073709551616 + lo).log2 < hi.log2 + 1 + 64 := by
    rw [Nat.log2_lt n0, Nat.pow_add]; omega
  omega
theorem bl_le {x n : Nat} (h : x < 2 ^ n) : bl x ≤ n := by
  unfold bl; split
  · omega
  · rename_i e; have := (Nat.log2_lt e).2 h; omega
theorem U128_Len (hi lo : Nat) (h1 : hi < 18446744073709551616) (h2 : lo < 18446744073709551616) :
    wide_U128_Len.f (hi : Int) (lo : Int) = some (bl (hi * 18446744073709551616 + lo) : Int) := by
  unfold wide_U128_Len.f
  by_cases c : hi = 0
  · subst c
    rw [if_neg (by omega), bind_of _ (Len64_ok lo h2), show 0 * 18446744073709551616 + lo = lo by omega]
  · rw [if_pos (by omega), bind_of _ (Len64_ok hi h1)]
    have := bl_le (x := hi) (n := 64) h1
    rw [w64 (by omega) (by omega)]
    unfold bl
    rw [if_neg c, if_neg (by omega), log2_join hi lo c h2]; congr 1; omega
end Go.Proofs.Ytmadjhmecfbcmaa.M
end
section
namespace Go.Proofs.Ytmadjhmecfbcmaa.M
open Go.RowKit Go.Proofs.YtmadjhmecfbcmaaW.PrintWords Go.Proofs.YtmadjhmecfbcmaaW.PrintLast Go.Proofs.YtmadjhmecfbcmaaW.PrintMore Go.Proofs.Ytmadjhmecfbcmaa.F
def FN (A : Nat) (e : Int) : Nat := A * 2 ^ (e + 1075).toNat
def FD (B : Nat) (e : Int) : Nat := B * 2 ^ (-(e + 1075)).toNat
def FX (A B : Nat) (e : Int) : Nat := FN A e / FD B e
def FS (A B : Nat) (e : Int) (rest : Bool) : Bool := rest || decide (FN A e % FD B e ≠ 0)
theorem shift_div (m p n : Nat) : m * 2 ^ p / 2 ^ n = if p ≤ n then m / 2 ^ (n - p) else m * 2 ^ (p - n) := by
  split
  · rename_i h
    have : 2 ^ n = 2 ^ p * 2 ^ (n - p) := by rw [← Nat.pow_add, show p + (n - p) = n by omega]
    rw [this, Nat.mul_comm m, Nat.mul_div_mul_left _ _ (two_pos p)]
  · rename_i h
    have : 2 ^ p = 2 ^ n * 2 ^ (p - n) := by rw [← Nat.pow_add, show n + (p - n) = p by omega]
    rw [this, Nat.mul_left_comm, Nat.mul_div_cancel_left _ (two_pos n)]
theorem shift_mod (m p n : Nat) : m * 2 ^ p % 2 ^ n = 0 ↔ n ≤ p ∨ m % 2 ^ (n - p) = 0 := by
  by_cases h : n ≤ p
  · have : 2 ^ p = 2 ^ n * 2 ^ (p - n) := by rw [← Nat.pow_add, show n + (p - n) = p by omega]
    rw [this, Nat.mul_left_comm, Nat.mul_mod_right]; simp [h]
  · have : 2 ^ n = 2 ^ p * 2 ^ (n - p) := by rw [← Nat.pow_add, show p + (n - p) = n by omega]
    rw [this, Nat.mul_comm m, Nat.mul_mod_mul_left, Nat.mul_eq_zero]
    have := two_pos p
    constructor
    · rintro (h2 | h2)
      · omega
      · exact .inr h2
    · rintro (h2 | h2)
      · omega
      · exact .inr h2
theorem FX_one (m : Nat) (e : Int) : FX m 1 e = m * 2 ^ (e + 1075).toNat / 2 ^ (-(e + 1075)).toNat := by unfold FX FN FD; rw [Nat.one_mul]
theorem FS_one (m : Nat) (e : Int) (r : Bool) : FS m 1 e r = (r || decide (m * 2 ^ (e + 1075).toNat % 2 ^ (-(e + 1075)).toNat ≠ 0)) := by unfold FS FN FD; rw [Nat.one_mul]
theorem bl_bd (m : Nat) (h : m ≠ 0) : 1 ≤ bl m ∧ 2 ^ (bl m - 1) ≤ m ∧ m < 2 ^ bl m := by
  unfold bl; rw [if_neg h]
  exact ⟨by omega, by rw [show m.log2 + 1 - 1 = m.log2 by omega]; exact Nat.log2_self_le h, Nat.lt_log2_self⟩
theorem FX_lt (m : Nat) (e : Int) (n : Nat) (h : (bl m : Int) + e + 1075 ≤ n) (h0 : m ≠ 0) : FX m 1 e < 2 ^ n := by
  have hb := bl_bd m h0
  rw [FX_one, Nat.div_lt_iff_lt_mul (two_pos _), ← Nat.pow_add]
  have h1 : m * 2 ^ (e + 1075).toNat < 2 ^ bl m * 2 ^ (e + 1075).toNat := Nat.mul_lt_mul_of_pos_right hb.2.2 (two_pos _)
  rw [← Nat.pow_add] at h1
  have h2 : 2 ^ (bl m + (e + 1075).toNat) ≤ 2 ^ (n + (-(e + 1075)).toNat) := pow_le (by omega)
  omega
theorem FX_ge (m : Nat) (e : Int) (n : Nat) (h : (n : Int) ≤ (bl m : Int) - 1 + e + 1075) (h0 : m ≠ 0) : 2 ^ n ≤ FX m 1 e := by
  have hb := bl_bd m h0
  rw [FX_one, Nat.le_div_iff_mul_le (two_pos _), ← Nat.pow_add]
  have h1 : 2 ^ (bl m - 1) * 2 ^ (e + 1075).toNat ≤ m * 2 ^ (e + 1075).toNat := Nat.mul_le_mul_right _ hb.2.1
  rw [← Nat.pow_add] at h1
  have h2 : 2 ^ (n + (-(e + 1075)).toNat) ≤ 2 ^ (bl m - 1 + (e + 1075).toNat) := pow_le (by omega)
  omega
theorem sh_FX (m : Nat) (e q : Int) (h0 : m ≠ 0) (hq : q = (bl m : Int) - 53 + e ∧ -1074 ≤ q ∨ q = -1074 ∧ (bl m : Int) - 53 + e ≤ -1074) : sh (FX m 1 e) = (q + 1075).toNat := by
  apply sh_unique
  by_cases c : q = -1074
  · left
    refine ⟨by omega, ?_⟩
    have := FX_lt m e 54 (by omega) h0
    omega
  · right
    refine ⟨by omega, ?_, ?_⟩
    · exact FX_ge m e _ (by omega) h0
    · exact FX_lt m e _ (by omega) h0
theorem keep_out (m : Nat) (e q : Int) (r : Bool) (h : -1074 ≤ q) (hs : sh (FX m 1 e) = (q + 1075).toNat) (hd : 0 < q - e) :
    wd (FX m 1 e) = m / 2 ^ (q - e).toNat ∧ hf (FX m 1 e) = (m / 2 ^ (q - e - 1).toNat % 2 == 1) ∧ rs (FX m 1 e) (FS m 1 e r) = (r || decide (m % 2 ^ (q - e - 1).toNat ≠ 0)) := by
  unfold wd hf rs
  rw [hs, FX_one, FS_one]
  have a1 : ∀ n, m * 2 ^ (e + 1075).toNat / 2 ^ (-(e + 1075)).toNat / 2 ^ n = m * 2 ^ (e + 1075).toNat / 2 ^ ((-(e + 1075)).toNat + n) := by
    intro n; rw [Nat.div_div_eq_div_mul, ← Nat.pow_add]
  refine ⟨?_, ?_, ?_⟩
  · rw [a1, shift_div, if_pos (by omega), show (-(e + 1075)).toNat + (q + 1075).toNat - (e + 1075).toNat = (q - e).toNat by omega]
  · rw [a1, shift_div, if_pos (by omega), show (-(e + 1075)).toNat + ((q + 1075).toNat - 1) - (e + 1075).toNat = (q - e - 1).toNat by omega]
  · rw [Bool.or_assoc]; congr 1
    rw [Bool.eq_iff_iff, Bool.or_eq_true, bne_iff_ne, decide_eq_true_iff, decide_eq_true_iff]
    have k : m * 2 ^ (e + 1075).toNat % 2 ^ ((-(e + 1075)).toNat + ((q + 1075).toNat - 1)) = 0 ↔ m * 2 ^ (e + 1075).toNat % 2 ^ (-(e + 1075)).toNat = 0 ∧ m * 2 ^ (e + 1075).toNat / 2 ^ (-(e + 1075)).toNat % 2 ^ ((q + 1075).toNat - 1) = 0 := by
      rw [Nat.pow_add, Nat.mod_mul]
      have := two_pos (-(e + 1075)).toNat
      constructor
      · intro h; obtain ⟨h1, h2⟩ := Nat.eq_zero_of_add_eq_zero h
        refine ⟨h1, ?_⟩
        rcases Nat.mul_eq_zero.1 h2 with h3 | h3
        · omega
        · exact h3
      · rintro ⟨h1, h2⟩; rw [h1, h2, Nat.mul_zero]
    rw [shift_mod, show (-(e + 1075)).toNat + ((q + 1075).toNat - 1) - (e + 1075).toNat = (q - e - 1).toNat by omega] at k
    constructor
    · intro h1 h2
      have := k.1 (.inr h2)
      rcases h1 with h1 | h1
      · exact h1 this.1
      · exact h1 this.2
    · intro h1
      by_cases c : m * 2 ^ (e + 1075).toNat % 2 ^ (-(e + 1075)).toNat = 0
      · right; intro h2
        rcases k.2 ⟨c, h2⟩ with h3 | h3
        · have : (q - e - 1).toNat = 0 := by omega
          rw [this] at h1; omega
        · exact h1 h3
      · exact .inl c
theorem keep_in (m : Nat) (e q : Int) (h : -1074 ≤ q) (hs : sh (FX m 1 e) = (q + 1075).toNat) (hd : q - e ≤ 0) :
    wd (FX m 1 e) = m * 2 ^ (e - q).toNat ∧ hf (FX m 1 e) = false ∧ rs (FX m 1 e) (FS m 1 e false) = false := by
  unfold wd hf rs
  have h0 : (-(e + 1075)).toNat = 0 := by omega
  rw [hs, FX_one, FS_one, h0]
  have e1 : 2 ^ (e + 1075).toNat = 2 ^ (q + 1075).toNat * 2 ^ (e - q).toNat := by rw [← Nat.pow_add]; congr 1; omega
  have e2 : 2 ^ (q + 1075).toNat = 2 ^ ((q + 1075).toNat - 1) * 2 := by rw [← Nat.pow_succ]; congr 1; omega
  rw [Nat.pow_zero, Nat.div_one]
  refine ⟨?_, ?_, ?_⟩
  · rw [e1, Nat.mul_left_comm, Nat.mul_div_cancel_left _ (two_pos _)]
  · rw [e1, e2, show m * (2 ^ ((q + 1075).toNat - 1) * 2 * 2 ^ (e - q).toNat) = 2 ^ ((q + 1075).toNat - 1) * (2 * (m * 2 ^ (e - q).toNat)) by grind, Nat.mul_div_cancel_left _ (two_pos _), beq_eq_false_iff_ne]
    omega
  · have : m * 2 ^ (e + 1075).toNat % 2 ^ ((q + 1075).toNat - 1) = 0 := by
      rw [e1, e2, show m * (2 ^ ((q + 1075).toNat - 1) * 2 * 2 ^ (e - q).toNat) = 2 ^ ((q + 1075).toNat - 1) * (2 * (m * 2 ^ (e - q).toNat)) by grind, Nat.mul_mod_right]
    rw [this]; simp [Nat.mod_one]
theorem up_ok (neg : Bool) (h l e : Int) (r0 : Bool) (mode : Nat) (odd half rest : Bool) :
    round_number_up.f neg h l e r0 (mode : Int) odd half rest = some (if dir neg mode = 1 then half || rest else if dir neg mode = 2 then false else half && (rest || odd)) := by
  unfold round_number_up.f round_number_away.f round_number_towards.f dir
  by_cases m1 : mode = 1
  · subst m1
    cases neg <;> cases half <;> cases rest <;> simp
  · by_cases m2 : mode = 2
    · subst m2
      cases neg <;> cases half <;> cases rest <;> simp
    · have c1 : ¬ (mode : Int) = 1 := by omega
      have c2 : ¬ (mode : Int) = 2 := by omega
      cases half <;> cases rest <;> simp [c1, c2, m1, m2]
theorem towards_ok (neg : Bool) (h l e : Int) (r0 : Bool) (mode : Nat) : round_number_towards.f neg h l e r0 (mode : Int) = some (decide (dir neg mode = 2)) := by
  unfold round_number_towards.f dir
  by_cases m1 : mode = 1
  · subst m1; cases neg <;> simp
  · by_cases m2 : mode = 2
    · subst m2; cases neg <;> simp
    · have c1 : ¬ (mode : Int) = 1 := by omega
      have c2 : ¬ (mode : Int) = 2 := by omega
      simp [c1, c2, m1, m2]
theorem over_ev (neg : Bool) (h l e : Int) (r0 : Bool) (mode : Nat) :
    Ev (fun k => round_number_over.f k neg h l e r0 (mode : Int)) (((sg neg + (if dir neg mode = 2 then 9218868437227405311 else 9218868437227405312) : Nat) : Int), 5) := by
  unfold round_number_over.f
  refine Ev.b _ (Inf_ev neg) (Ev.b _ (Ev.const (towards_ok neg h l e r0 mode)) (Ev.const ?_))
  by_cases c : dir neg mode = 2
  · rw [decide_eq_true c, if_pos rfl, if_pos c]
    cases neg <;> rfl
  · rw [decide_eq_false c, if_neg (by simp), if_neg c]
theorem bits_or_1_2 : bits .or .u8 1 2 = 3 := by decide
theorem j3_ev (neg : Bool) (h l e : Int) (r0 : Bool) (n q w : Nat) (inx : Bool) (hq : q ≤ 2045) (hw : w < 9007199254740992) (hn : n ≤ 1000) (he : -5000 ≤ e ∧ e ≤ 5000) :
    Ev (fun k => round_number_float.j3 k (n : Int) ((q : Int) - 1074) (w : Int) 0 inx neg h l e r0)
      (((sg neg + (if 4503599627370496 ≤ w then q * 4503599627370496 + w else w) : Nat) : Int), if inx then (if (n : Int) + e ≤ -1022 then 3 else 1) else 0) := by
  have hm : bits .and .u64 (w : Int) 4503599627370495 = ((w % 4503599627370496 : Nat) : Int) := and_52 w (by omega)
  have e1 : wrap64 (wrap64 ((q : Int) - 1074 - -1074) + 1) = ((q + 1 : Nat) : Int) := by rw [w64 (n := (q : Int) - 1074 - -1074) (by omega) (by omega), w64 (by omega) (by omega)]; omega
  have e2 : wrap64 ((n : Int) + e) = (n : Int) + e := w64 (by omega) (by omega)
  have mk1 : 4503599627370496 ≤ w → mk neg (q + 1) (w % 4503599627370496) = sg neg + (q * 4503599627370496 + w) := by intro hw2; unfold mk; omega
  have mk0 : w < 4503599627370496 → mk neg 0 (w % 4503599627370496) = sg neg + w := by intro hw2; unfold mk; omega
  refine Ev.next ?_
  simp only [round_number_float.j3]
  rw [hm, e1, e2, bits_or_1_2]
  by_cases c1 : 4503599627370496 ≤ w
  · have d1 : (w : Int) / 4503599627370496 = 1 := by omega
    have M := Make_ev neg (q + 1) (w % 4503599627370496) (by omega) (Nat.mod_lt _ (by decide))
    rw [mk1 c1] at M
    rw [if_pos c1]
    cases inx
    · exact Ev.congr (fun k => by rw [if_neg (by simp), if_pos d1]) (Ev.b (f := fun _ b => some (b.1, (0 : Int))) _ M (Ev.now _))
    · by_cases c2 : (n : Int) + e ≤ -1022
      · rw [if_pos rfl, if_pos c2]
        exact Ev.congr (fun k => by rw [if_pos rfl, if_pos c2, if_pos d1]) (Ev.b (f := fun _ b => some (b.1, (3 : Int))) _ M (Ev.now _))
      · rw [if_pos rfl, if_neg c2]
        exact Ev.congr (fun k => by rw [if_pos rfl, if_neg c2, if_pos d1]) (Ev.b (f := fun _ b => some (b.1, (1 : Int))) _ M (Ev.now _))
  · have d1 : ¬ (w : Int) / 4503599627370496 = 1 := by omega
    have M : Ev (fun k => pattern_Make.f k neg 0 ((w % 4503599627370496 : Nat) : Int)) ((mk neg 0 (w % 4503599627370496) : Int), 0) := Make_ev neg 0 (w % 4503599627370496) (by omega) (Nat.mod_lt _ (by decide))
    rw [mk0 (by omega)] at M
    rw [if_neg c1]
    cases inx
    · exact Ev.congr (fun k => by rw [if_neg (by simp), if_neg d1]) (Ev.b (f := fun _ b => some (b.1, (0 : Int))) _ M (Ev.now _))
    · by_cases c2 : (n : Int) + e ≤ -1022
      · rw [if_pos rfl, if_pos c2]
        exact Ev.congr (fun k => by rw [if_pos rfl, if_pos c2, if_neg d1]) (Ev.b (f := fun _ b => some (b.1, (3 : Int))) _ M (Ev.now _))
      · rw [if_pos rfl, if_neg c2]
        exact Ev.congr (fun k => by rw [if_pos rfl, if_neg c2, if_neg d1]) (Ev.b (f := fun _ b => some (b.1, (1 : Int))) _ M (Ev.now _))
theorem j1_ev (neg : Bool) (h l e : Int) (r0 : Bool) (mode n q w : Nat) (half rest : Bool) (hq : q ≤ 20000) (hw : w ≤ 9007199254740992) (hn : n ≤ 1000) (he : -5000 ≤ e ∧ e ≤ 5000)
    (hp : q = 0 ∨ 4503599627370496 ≤ w) :
    Ev (fun k => round_number_float.j1 k (mode : Int) (n : Int) ((q : Int) - 1074) half rest (w : Int) neg h l e r0)
      (if 9218868437227405312 ≤ q * 4503599627370496 + w then (((sg neg + (if dir neg mode = 2 then 9218868437227405311 else 9218868437227405312) : Nat) : Int), 5)
       else (((sg neg + (q * 4503599627370496 + w) : Nat) : Int), if half || rest then (if (n : Int) + e ≤ -1022 then 3 else 1) else 0)) := by
  have J2 : ∀ (q w : Nat), q ≤ 20001 → w < 9007199254740992 → (q = 0 ∨ 4503599627370496 ≤ w) →
      Ev (fun k => round_number_float.j2 k (mode : Int) (n : Int) ((q : Int) - 1074) half rest (w : Int) neg h l e r0)
      (if 9218868437227405312 ≤ q * 4503599627370496 + w then (((sg neg + (if dir neg mode = 2 then 9218868437227405311 else 9218868437227405312) : Nat) : Int), 5)
       else (((sg neg + (q * 4503599627370496 + w) : Nat) : Int), if half || rest then (if (n : Int) + e ≤ -1022 then 3 else 1) else 0)) := by
    intro q w hq hw hp
    refine Ev.next ?_
    simp only [round_number_float.j2]
    by_cases c : (q : Int) - 1074 > 971
    · rw [if_pos (by omega)]
      exact Ev.congr (fun k => by rw [if_pos c]) (Ev.b _ (over_ev neg h l e r0 mode) (Ev.now _))
    · rw [if_neg (by omega)]
      have J := j3_ev neg h l e r0 n q w (half || rest) (by omega) hw hn he
      have e1 : (if 4503599627370496 ≤ w then q * 4503599627370496 + w else w) = q * 4503599627370496 + w := by split <;> omega
      rw [e1] at J
      cases half
      · exact Ev.congr (fun k => by rw [if_neg c, if_neg (by simp)]; rfl) J
      · exact Ev.congr (fun k => by rw [if_neg c, if_pos rfl]; rfl) J
  refine Ev.next ?_
  simp only [round_number_float.j1]
  by_cases c : w = 9007199254740992
  · have e1 : wrap64 ((q : Int) - 1074 + 1) = ((q + 1 : Nat) : Int) - 1074 := by rw [w64 (by omega) (by omega)]; omega
    have e2 : (w : Int) / 2 = ((4503599627370496 : Nat) : Int) := by omega
    have J := J2 (q + 1) 4503599627370496 (by omega) (by omega) (by omega)
    rw [show (q + 1) * 4503599627370496 + 4503599627370496 = q * 4503599627370496 + w by omega] at J
    exact Ev.congr (fun k => by rw [if_pos (by omega), e1, e2]) J
  · exact Ev.congr (fun k => by rw [if_neg (by omega)]) (J2 q w (by omega) (by omega) hp)
def pr (r : Nat × Nat) : Int × Int := ((r.1 : Int), (r.2 : Int))
theorem tail_ev (neg : Bool) (m : Nat) (e : Int) (rest r0 : Bool) (mode : Nat) (h l hi lo : Int) (q : Nat) (w : Nat) (half rst : Bool) (hm : m ≠ 0) (hL : bl m ≤ 128) (he : -5000 ≤ e ∧ e ≤ 5000) (hq : q ≤ 10000)
    (hs : sh (FX m 1 e) = q + 1) (h1 : wd (FX m 1 e) = w) (h2 : hf (FX m 1 e) = half) (h3 : rs (FX m 1 e) (FS m 1 e rest) = rst) (hlo : lo = (w : Int)) :
    Ev (fun k => round_number_float.j0 k (mode : Int) (bl m : Int) ((q : Int) - 1074) half rst neg h l e r0 hi lo) (pr (RND neg (FX m 1 e) (FS m 1 e rest) mode)) := by
  subst hlo
  have hwl := wd_lt (FX m 1 e)
  rw [h1] at hwl
  have hwg : q = 0 ∨ 4503599627370496 ≤ w := by
    by_cases c : q = 0
    · exact .inl c
    · right; rw [← h1]; exact wd_ge _ (by omega)
  have hfk : fk (FX m 1 e) = q * 4503599627370496 + w := by unfold fk; rw [hs, h1]; congr 1
  have hX : FX m 1 e < 9007199254740992 ↔ (bl m : Int) + e ≤ -1022 := by
    constructor
    · intro hh
      by_cases c : (bl m : Int) + e ≤ -1022
      · exact c
      · have := FX_ge m e 53 (by omega) hm
        omega
    · intro hh
      have := FX_lt m e 53 (by omega) hm
      omega
  have hodd : FX m 1 e / 2 ^ sh (FX m 1 e) = w := h1
  refine Ev.next ?_
  simp only [round_number_float.j0]
  have hand : (bits .and .u64 (w : Int) 1 == 1) = (w % 2 == 1) := by
    rw [and_1 w (by omega), Bool.eq_iff_iff, beq_iff_eq, beq_iff_eq]; omega
  rw [hand]
  have hu := up_ok neg h l e r0 mode (w % 2 == 1) half rst
  refine Ev.b _ (Ev.const hu) ?_
  have hup : upw (FX m 1 e) (FS m 1 e rest) (dir neg mode) = (if dir neg mode = 1 then half || rst else if dir neg mode = 2 then false else half && (rst || (w % 2 == 1))) := by
    unfold upw; rw [h2, h3, hodd]
  rw [← hup]
  have key : ∀ (b : Bool), upw (FX m 1 e) (FS m 1 e rest) (dir neg mode) = b → (if 9218868437227405312 ≤ q * 4503599627370496 + (w + if b then 1 else 0) then (((sg neg + (if dir neg mode = 2 then 9218868437227405311 else 9218868437227405312) : Nat) : Int), 5)
       else (((sg neg + (q * 4503599627370496 + (w + if b then 1 else 0)) : Nat) : Int), if half || rst then (if (bl m : Int) + e ≤ -1022 then 3 else 1) else 0)) = pr (RND neg (FX m 1 e) (FS m 1 e rest) mode) := by
    intro b hb
    have hk : kk (FX m 1 e) (FS m 1 e rest) (dir neg mode) = q * 4503599627370496 + (w + if b = true then 1 else 0) := by
      unfold kk; rw [hb, hfk, Nat.add_assoc]
    by_cases c : 9218868437227405312 ≤ q * 4503599627370496 + (w + if b then 1 else 0)
    · rw [if_pos c, RND_over (by rw [hk]; exact c)]; rfl
    · rw [if_neg c, RND_in (by rw [hk]; exact c), hk, h2, h3]
      have e3 : (if (half || rst) = true then (if (bl m : Int) + e ≤ -1022 then (3 : Int) else 1) else 0) = ((if (half || rst) = true then (if FX m 1 e < 9007199254740992 then 3 else 1) else 0 : Nat) : Int) := by
        cases half || rst
        · rfl
        · by_cases c2 : (bl m : Int) + e ≤ -1022
          · rw [if_pos rfl, if_pos rfl, if_pos c2, if_pos (hX.2 c2)]; rfl
          · rw [if_pos rfl, if_pos rfl, if_neg c2, if_neg (fun hh => c2 (hX.1 hh))]; rfl
      rw [e3]; rfl
  cases hb : upw (FX m 1 e) (FS m 1 e rest) (dir neg mode)
  · have K := key false hb
    rw [show (w + if false = true then 1 else 0) = w from by simp] at K
    rw [← K]
    exact Ev.congr (fun k => by rw [if_neg (by simp)]) (j1_ev neg h l e r0 mode (bl m) q w half rst (by omega) (by omega) (by omega) he (by omega))
  · have K := key true hb
    rw [show (w + if true = true then 1 else 0) = w + 1 from by simp] at K
    rw [← K]
    have e1 : IntKind.u64.wrap ((w : Int) + 1) = ((w + 1 : Nat) : Int) := by rw [wu64 (by omega) (by omega)]; omega
    exact Ev.congr (fun k => by rw [if_pos rfl, e1]) (j1_ev neg h l e r0 mode (bl m) q (w + 1) half rst (by omega) (by omega) (by omega) he (by omega))
end Go.Proofs.Ytmadjhmecfbcmaa.M
end
section
namespace Go.Proofs.Ytmadjhmecfbcmaa.M
open Go.RowKit Go.Proofs.YtmadjhmecfbcmaaW.PrintWords Go.Proofs.YtmadjhmecfbcmaaW.PrintLast Go.Proofs.YtmadjhmecfbcmaaW.PrintMore Go.Proofs.Ytmadjhmecfbcmaa.F
theorem tw_lo (V : Nat) : (tw V).2 = ((V % 18446744073709551616 : Nat) : Int) := rfl
theorem words (m : Nat) : m / 18446744073709551616 * 18446744073709551616 + m % 18446744073709551616 = m := by omega
theorem word_lt (m : Nat) : m % 18446744073709551616 < 18446744073709551616 := Nat.mod_lt _ (by decide)
theorem word_hi_lt {m : Nat} (h : m < 340282366920938463463374607431768211456) : m / 18446744073709551616 < 18446744073709551616 := by omega
theorem bl_small {m n : Nat} (h : bl m ≤ n) : m < 2 ^ n := by
  by_cases c : m = 0
  · subst c; exact two_pos n
  · have := (bl_bd m c).2.2
    have : 2 ^ bl m ≤ 2 ^ n := pow_le h
    omega
theorem Shl_tw (m n : Nat) (hm : m < 340282366920938463463374607431768211456) (hn : n < 1000000) :
    Ev (fun k => wide_U128_Shl.f k (tw m).1 (tw m).2 (n : Int)) (tw (m * 2 ^ n % 340282366920938463463374607431768211456)) := by
  have := U128_Shl (m / 18446744073709551616) (m % 18446744073709551616) n (word_hi_lt hm) (word_lt m) hn
  rw [words] at this; exact this
theorem Shr_tw (m n : Nat) (hm : m < 340282366920938463463374607431768211456) (hn : n < 1000000) :
    Ev (fun k => wide_U128_Shr.f k (tw m).1 (tw m).2 (n : Int)) ((tw (m / 2 ^ n)).1, (tw (m / 2 ^ n)).2, decide (m % 2 ^ n ≠ 0)) := by
  have := U128_Shr (m / 18446744073709551616) (m % 18446744073709551616) n (word_hi_lt hm) (word_lt m) hn
  rw [words] at this; exact this
theorem Len_tw (m : Nat) (hm : m < 340282366920938463463374607431768211456) : wide_U128_Len.f (tw m).1 (tw m).2 = some (bl m : Int) := by
  have := U128_Len (m / 18446744073709551616) (m % 18446744073709551616) (word_hi_lt hm) (word_lt m)
  rw [words] at this; exact this
theorem mx_eq (a b : Int) : mx a b = max a b := by unfold mx; omega
theorem mn_eq (a b : Int) : mn a b = min a b := by unfold mn; omega
theorem float_ev (neg : Bool) (m : Nat) (e : Int) (rest : Bool) (mode : Nat) (hm : m ≠ 0) (hm2 : m < 340282366920938463463374607431768211456) (he : -5000 ≤ e ∧ e ≤ 5000) (hr : rest = true → 53 < bl m) :
    Ev (fun k => round_number_float.f k neg (tw m).1 (tw m).2 e rest (mode : Int)) (pr (RND neg (FX m 1 e) (FS m 1 e rest) mode)) := by
  have hL : bl m ≤ 128 := bl_le (n := 128) hm2
  have hL1 := (bl_bd m hm).1
  obtain ⟨q, hq⟩ : ∃ q : Nat, max ((bl m : Int) - 53 + e) (-1074) = (q : Int) - 1074 := ⟨(max ((bl m : Int) - 53 + e) (-1074) + 1074).toNat, by omega⟩
  have hsh : sh (FX m 1 e) = q + 1 := by
    rw [sh_FX m e ((q : Int) - 1074) hm (by omega)]; omega
  have hsh' : sh (FX m 1 e) = ((q : Int) - 1074 + 1075).toNat := by rw [hsh]; omega
  have w1 : wrap64 ((bl m : Int) - 53) = (bl m : Int) - 53 := w64 (by omega) (by omega)
  have w2 : wrap64 ((bl m : Int) - 53 + e) = (bl m : Int) - 53 + e := w64 (by omega) (by omega)
  have w3 : wrap64 ((q : Int) - 1074 - e) = (q : Int) - 1074 - e := w64 (by omega) (by omega)
  unfold round_number_float.f
  refine Ev.b _ (Ev.const (Len_tw m hm2)) ?_
  rw [w1, w2, mx_eq, hq, w3]
  by_cases c : (q : Int) - 1074 - e > 0
  · have w4 : wrap64 ((q : Int) - 1074 - e - 1) = (((q : Int) - 1074 - e - 1).toNat : Int) := by rw [w64 (by omega) (by omega)]; omega
    obtain ⟨k1, k2, k3⟩ := keep_out m e ((q : Int) - 1074) rest (by omega) hsh' c
    have S1 := Shr_tw m ((q : Int) - 1074 - e - 1).toNat hm2 (by omega)
    have hM : m / 2 ^ ((q : Int) - 1074 - e - 1).toNat ≤ m := Nat.div_le_self _ _
    have S2 := Shr_tw (m / 2 ^ ((q : Int) - 1074 - e - 1).toNat) 1 (by omega) (by omega)
    rw [show ((1 : Nat) : Int) = 1 from rfl] at S2
    have e1 : m / 2 ^ ((q : Int) - 1074 - e - 1).toNat / 2 ^ 1 = m / 2 ^ ((q : Int) - 1074 - e).toNat := by
      rw [Nat.div_div_eq_div_mul, ← Nat.pow_add]; congr 2; omega
    have hh : (bits .and .u64 (tw (m / 2 ^ ((q : Int) - 1074 - e - 1).toNat)).2 1 == 1) = (m / 2 ^ ((q : Int) - 1074 - e - 1).toNat % 2 == 1) := by
      rw [tw_lo, and_1 _ (word_lt _), Bool.eq_iff_iff, beq_iff_eq, beq_iff_eq]; omega
    have hw : m / 2 ^ ((q : Int) - 1074 - e).toNat < 18446744073709551616 := by
      rw [← k1]; have := wd_lt (FX m 1 e); omega
    refine Ev.congr (fun k => by rw [if_pos c, w4]) (Ev.b _ S1 ?_)
    dsimp only
    rw [hh]
    cases rest
    · refine Ev.congr (fun k => by rw [if_neg (by simp)]) (Ev.b _ S2 ?_)
      dsimp only
      exact tail_ev neg m e false false mode _ _ _ _ q _ _ _ hm hL he (by omega) hsh k1 k2 (by rw [k3, Bool.false_or]) (by rw [tw_lo, e1, Nat.mod_eq_of_lt hw])
    · refine Ev.congr (fun k => by rw [if_pos rfl]) (Ev.b _ S2 ?_)
      dsimp only
      exact tail_ev neg m e true true mode _ _ _ _ q _ _ _ hm hL he (by omega) hsh k1 k2 (by rw [k3, Bool.true_or]) (by rw [tw_lo, e1, Nat.mod_eq_of_lt hw])
  · have hr2 : rest = false := by
      cases rest
      · rfl
      · have := hr rfl; omega
    subst hr2
    obtain ⟨k1, k2, k3⟩ := keep_in m e ((q : Int) - 1074) (by omega) hsh' (by omega)
    have w4 : wrap64 (-((q : Int) - 1074 - e)) = ((e - ((q : Int) - 1074)).toNat : Int) := by rw [w64 (by omega) (by omega)]; omega
    have S1 := Shl_tw m (e - ((q : Int) - 1074)).toNat hm2 (by omega)
    have hw : m * 2 ^ (e - ((q : Int) - 1074)).toNat < 9007199254740992 := by rw [← k1]; exact wd_lt _
    rw [Nat.mod_eq_of_lt (by omega)] at S1
    refine Ev.congr (fun k => by rw [if_neg c, w4]) (Ev.b _ S1 ?_)
    exact tail_ev neg m e false false mode _ _ _ _ q _ _ _ hm hL he (by omega) hsh k1 k2 k3 (by rw [tw_lo, Nat.mod_eq_of_lt (by omega)])
def cl (e : Int) : Int := min (max e (-5000)) 5000
theorem Round_ev (neg : Bool) (m : Nat) (e : Int) (rest : Bool) (mode : Nat) (hm2 : m < 340282366920938463463374607431768211456) :
    Ev (fun k => round_Round.f k neg (tw m).1 (tw m).2 e rest (mode : Int))
      (if m = 0 then ((sg neg : Int), 0) else pr (RND neg (FX m 1 (cl e)) (FS m 1 (cl e) (rest && decide (53 < bl m))) mode)) := by
  unfold round_Round.f
  refine Ev.b _ (Ev.const (Len_tw m hm2)) ?_
  by_cases c : m = 0
  · rw [if_pos c]
    have : (bl m : Int) = 0 := by rw [c]; rfl
    refine Ev.congr (fun k => by rw [if_pos this]) (Ev.b (f := fun _ b => some (b.1, (0 : Int))) _ (show Ev (fun k => pattern_Make.f k neg 0 0) ((mk neg 0 0 : Int), 0) from Make_ev neg 0 0 (by omega) (by omega)) (Ev.now _))
  · rw [if_neg c]
    have h1 := (bl_bd m c).1
    have c2 : ¬ (bl m : Int) = 0 := by omega
    have e1 : mn (mx e (-5000)) 5000 = cl e := by rw [mx_eq, mn_eq]; rfl
    rw [e1]
    have hc : -5000 ≤ cl e ∧ cl e ≤ 5000 := by unfold cl; omega
    have e2 : decide ((bl m : Int) > 53) = decide (53 < bl m) := by rw [Bool.eq_iff_iff, decide_eq_true_iff, decide_eq_true_iff]; omega
    rw [e2]
    cases rest
    · exact Ev.congr (fun k => by rw [if_neg c2, if_neg (by simp)]) (Ev.b (f := fun _ b => some (b.1, b.2)) _ (float_ev neg m (cl e) false mode c hm2 hc (by simp)) (Ev.now _))
    · exact Ev.congr (fun k => by rw [if_neg c2, if_pos rfl]) (Ev.b (f := fun _ b => some (b.1, b.2)) _ (float_ev neg m (cl e) (decide (53 < bl m)) mode c hm2 hc (by simp)) (Ev.now _))
end Go.Proofs.Ytmadjhmecfbcmaa.M
end
section
namespace Go.Proofs.Ytmadjhmecfbcmaa.M
open Go.RowKit Go.Proofs.YtmadjhmecfbcmaaW.PrintWords Go.Proofs.YtmadjhmecfbcmaaW.PrintLast Go.Proofs.YtmadjhmecfbcmaaW.PrintMore Go.Proofs.Ytmadjhmecfbcmaa.F
def QN : Nat := 9221120237041090560
def INF : Nat := 9218868437227405312
def mg (a : Nat) : Nat := magk (key a)
def sv (a : Nat) : Int := if sgn a then -(mg a : Int) else mg a
theorem key_cls (a : Nat) : (cls a ≤ 2 ↔ key a < 9218868437227405312) ∧ (cls a = 3 ↔ key a = 9218868437227405312) ∧ (cls a = 4 ↔ 9218868437227405312 < key a) ∧ (cls a = 0 ↔ key a = 0) := by
  rw [key_parts' a]
  have h1 := ex_lt a
  have h2 := fr_lt a
  unfold cls
  refine ⟨?_, ?_, ?_, ?_⟩ <;> (repeat' split) <;> omega
theorem mg_split (a : Nat) (h : cls a ≤ 2) : mg a = spm a * 2 ^ (spe a + 1074).toNat := by
  have h2 := fr_lt a
  have e1 : key a / 4503599627370496 = ex a := by rw [key_parts' a]; omega
  have e2 : key a % 4503599627370496 = fr a := by rw [key_parts' a]; omega
  unfold mg magk
  rw [e1, e2]
  unfold spm spe
  unfold cls at h ⊢
  by_cases c1 : ex a = 2047
  · rw [if_pos c1] at h; split at h <;> omega
  · rw [if_neg c1]
    by_cases c2 : ex a = 0
    · rw [if_pos c2, if_pos c2]
      by_cases c3 : fr a = 0
      · rw [if_pos c3, c3, if_neg (by decide), if_neg (by decide), Nat.zero_mul]
      · rw [if_neg c3, if_neg (by decide), if_pos rfl, if_neg (by decide), if_pos rfl, show ((-1074 : Int) + 1074).toNat = 0 from rfl, Nat.pow_zero, Nat.mul_one]
    · rw [if_neg c2, if_neg c2, if_pos rfl, if_pos rfl, show ((ex a : Int) - 1075 + 1074).toNat = ex a - 1 by omega]
theorem mg_zero (a : Nat) : mg a = 0 ↔ cls a = 0 := by
  rw [(key_cls a).2.2.2]
  have h0 : magk 0 = 0 := by unfold magk; simp
  constructor
  · intro h; apply magk_inj; rw [h0]; exact h
  · intro h; unfold mg; rw [h, h0]
theorem spm_zero (a : Nat) (h : cls a ≤ 2) : spm a = 0 ↔ cls a = 0 := by
  rw [← mg_zero, mg_split a h, Nat.mul_eq_zero]
  have := two_pos (spe a + 1074).toNat
  omega
theorem fk_magk (k : Nat) : fk (2 * magk k) = k := by
  have h1 : k ≤ fk (2 * magk k) := (fk_iff _ _).1 (Nat.le_refl _)
  have h2 := fk_le (2 * magk k)
  have h3 := magk_le_iff.1 (show magk (fk (2 * magk k)) ≤ magk k by omega)
  omega
theorem RND_exact (neg : Bool) (k mode : Nat) (h : k < 9218868437227405312) : RND neg (2 * magk k) false mode = (sg neg + k, 0) := by
  have hx : (hf (2 * magk k) || rs (2 * magk k) false) = false := by rw [exact_iff, fk_magk]; exact ⟨rfl, rfl⟩
  have hu : upw (2 * magk k) false (dir neg mode) = false := by
    unfold upw
    rw [Bool.or_eq_false_iff] at hx
    rw [hx.1, hx.2]; simp
  have hk : kk (2 * magk k) false (dir neg mode) = k := by unfold kk; rw [hu, fk_magk]; rfl
  rw [RND_in (by rw [hk]; omega), hk, hx]; rfl
theorem RND_sticky (neg : Bool) (X Y g : Nat) (s : Bool) (mode : Nat) (h1 : X / 2 ^ g = Y / 2 ^ g) (h2 : X % 2 ^ g = 0) (h3 : 9007199254740992 ≤ X / 2 ^ g) (h4 : s = true ∨ Y % 2 ^ g ≠ 0) :
    RND neg X true mode = RND neg Y s mode := by
  by_cases g0 : g = 0
  · subst g0
    rw [Nat.pow_zero, Nat.div_one, Nat.div_one] at h1
    rw [Nat.pow_zero, Nat.mod_one] at h4
    have : s = true := by rcases h4 with h4 | h4; exact h4; exact absurd rfl h4
    rw [h1, this]
  have hz : X / 2 ^ g ≠ 0 := by omega
  have pg := two_pos g
  have hX := Nat.div_add_mod X (2 ^ g)
  have hY := Nat.div_add_mod Y (2 ^ g)
  have mX := Nat.mod_lt X pg
  have mY := Nat.mod_lt Y pg
  obtain ⟨Z, hZ⟩ : ∃ Z, X / 2 ^ g = Z := ⟨_, rfl⟩
  rw [← h1] at hY
  rw [hZ] at h1 h3 hz hX hY
  have zl := Nat.log2_self_le hz
  have zu : Z < 2 ^ (Z.log2 + 1) := Nat.lt_log2_self
  have z53 : 53 ≤ Z.log2 := by rw [Nat.le_log2 hz]; omega
  have lo : ∀ W, 2 ^ g * Z ≤ W → W < 2 ^ g * (Z + 1) → sh W = Z.log2 + g - 52 := by
    intro W w1 w2
    apply sh_unique
    right
    refine ⟨by omega, ?_, ?_⟩
    · have : 2 ^ g * 2 ^ Z.log2 ≤ 2 ^ g * Z := Nat.mul_le_mul_left _ zl
      rw [← Nat.pow_add, show g + Z.log2 = Z.log2 + g - 52 + 52 by omega] at this; exact Nat.le_trans this w1
    · have : 2 ^ g * (Z + 1) ≤ 2 ^ g * 2 ^ (Z.log2 + 1) := Nat.mul_le_mul_left _ zu
      rw [← Nat.pow_add, show g + (Z.log2 + 1) = Z.log2 + g - 52 + 53 by omega] at this; exact Nat.lt_of_lt_of_le w2 this
  have e0 : 2 ^ g * (Z + 1) = 2 ^ g * Z + 2 ^ g := by rw [Nat.mul_add, Nat.mul_one]
  have sX := lo X (by omega) (by omega)
  have sY := lo Y (by omega) (by omega)
  obtain ⟨v, hv⟩ : ∃ v, Z.log2 + g - 52 = g + (v + 1) := ⟨Z.log2 - 53, by omega⟩
  rw [hv] at sX sY
  have dX : ∀ n, X / 2 ^ (g + n) = Z / 2 ^ n := by intro n; rw [Nat.pow_add, ← Nat.div_div_eq_div_mul, hZ]
  have dY : ∀ n, Y / 2 ^ (g + n) = Z / 2 ^ n := by intro n; rw [Nat.pow_add, ← Nat.div_div_eq_div_mul, ← h1]
  have ew : wd X = wd Y := by unfold wd; rw [sX, sY, dX, dY]
  have eh : hf X = hf Y := by unfold hf; rw [sX, sY, show g + (v + 1) - 1 = g + v by omega, dX, dY]
  have er1 : rs X true = true := rfl
  have er2 : rs Y s = true := by
    unfold rs
    rcases h4 with h4 | h4
    · rw [h4]; rfl
    · have : Y % 2 ^ (sh Y - 1) ≠ 0 := by
        rw [sY, show g + (v + 1) - 1 = g + v by omega, Nat.pow_add, Nat.mod_mul]; omega
      rw [bne_iff_ne.2 this, Bool.or_true]
  have ef : fk X = fk Y := by unfold fk; rw [ew, sX, sY]
  have eu : upw X true (dir neg mode) = upw Y s (dir neg mode) := by unfold upw; rw [eh, er1, er2, sX, sY, dX, dY]
  have ek : kk X true (dir neg mode) = kk Y s (dir neg mode) := by unfold kk; rw [ef, eu]
  have gX : ¬ X < 9007199254740992 := by
    have : 1 * Z ≤ 2 ^ g * Z := Nat.mul_le_mul_right _ pg
    omega
  have gY : ¬ Y < 9007199254740992 := by
    have : 1 * Z ≤ 2 ^ g * Z := Nat.mul_le_mul_right _ pg
    omega
  unfold RND rnd
  rw [ek, eh, er1, er2, if_neg gX, if_neg gY]
theorem two_step (neg : Bool) (A B : Nat) (E : Int) (mode : Nat) (hB : 0 < B) (h : A % B = 0 ∨ 9007199254740992 ≤ A / B) :
    RND neg (FX (A / B) 1 E) (FS (A / B) 1 E (decide (A % B ≠ 0))) mode = RND neg (FX A B E) (FS A B E false) mode := by
  rw [FX_one, FS_one]
  unfold FX FS FN FD
  rw [Bool.false_or]
  have hAB := Nat.div_add_mod A B
  by_cases c : 0 ≤ E + 1075
  · have h0 : (-(E + 1075)).toNat = 0 := by omega
    rw [h0, Nat.pow_zero, Nat.div_one, Nat.mul_one]
    generalize (E + 1075).toNat = g at *
    have pg := two_pos g
    have hm1 : A / B * 2 ^ g % 1 = 0 := Nat.mod_one _
    rw [hm1]
    by_cases z : A % B = 0
    · have e1 : A * 2 ^ g = B * (A / B * 2 ^ g) := by rw [← Nat.mul_assoc]; congr 1; omega
      rw [e1, Nat.mul_div_cancel_left _ hB, Nat.mul_mod_right, z]; rfl
    · have hq : 9007199254740992 ≤ A / B := by omega
      rw [decide_eq_true z, Bool.true_or]
      have d1 : A / B * 2 ^ g / 2 ^ g = A / B := Nat.mul_div_cancel _ pg
      have d2 : A * 2 ^ g / B / 2 ^ g = A / B := by rw [Nat.div_div_eq_div_mul, Nat.mul_div_mul_right _ _ pg]
      apply RND_sticky neg _ _ g
      · rw [d1, d2]
      · exact Nat.mul_mod_left _ _
      · rw [d1]; exact hq
      · by_cases y : A * 2 ^ g % B = 0
        · right
          intro y2
          have k1 := Nat.div_add_mod (A * 2 ^ g) B
          have k2 := Nat.div_add_mod (A * 2 ^ g / B) (2 ^ g)
          rw [d2] at k2
          have k3 : A * 2 ^ g = B * (A / B) * 2 ^ g := by
            have : A * 2 ^ g / B = 2 ^ g * (A / B) := by omega
            rw [this] at k1
            have k4 : B * (2 ^ g * (A / B)) = B * (A / B) * 2 ^ g := by grind
            omega
          have := Nat.eq_of_mul_eq_mul_right pg k3
          omega
        · left; rw [decide_eq_true y]
  · have h0 : (E + 1075).toNat = 0 := by omega
    rw [h0, Nat.pow_zero, Nat.mul_one, Nat.mul_one]
    generalize (-(E + 1075)).toNat = r at *
    rw [Nat.div_div_eq_div_mul]
    congr 1
    rw [Bool.eq_iff_iff, Bool.or_eq_true, decide_eq_true_iff, decide_eq_true_iff, decide_eq_true_iff, Nat.mod_mul]
    constructor
    · rintro (h1 | h1) h2
      · omega
      · obtain ⟨_, h3⟩ := Nat.eq_zero_of_add_eq_zero h2
        rcases Nat.mul_eq_zero.1 h3 with h4 | h4
        · omega
        · exact h1 h4
    · intro h1
      by_cases y : A % B = 0
      · right; intro y2; apply h1; rw [y, y2, Nat.mul_zero]
      · exact .inl y
theorem FXS_scale (A B T : Nat) (E : Int) (r : Bool) : FX (A * 2 ^ T) B (E - T) = FX A B E ∧ FS (A * 2 ^ T) B (E - T) r = FS A B E r := by
  have key : ∃ u, FN (A * 2 ^ T) (E - T) = 2 ^ u * FN A E ∧ FD B (E - T) = 2 ^ u * FD B E := by
    refine ⟨T + (E - T + 1075).toNat - (E + 1075).toNat, ?_, ?_⟩
    · unfold FN
      rw [Nat.mul_assoc, ← Nat.pow_add, Nat.mul_left_comm, ← Nat.pow_add]; congr 2; omega
    · unfold FD
      rw [Nat.mul_left_comm, ← Nat.pow_add]; congr 2; omega
  obtain ⟨u, k1, k2⟩ := key
  unfold FX FS
  rw [k1, k2, Nat.mul_div_mul_left _ _ (two_pos u), Nat.mul_mod_mul_left]
  refine ⟨rfl, ?_⟩
  congr 2
  rw [Ne, Nat.mul_eq_zero, eq_iff_iff]
  have := two_pos u
  constructor
  · intro h1 h2; exact h1 (.inr h2)
  · rintro h1 (h2 | h2)
    · omega
    · exact h1 h2
def sAdd (a b mode : Nat) : Nat × Nat :=
  if cls a = 4 ∨ cls b = 4 then (QN, 0)
  else if cls a = 3 ∧ cls b = 3 ∧ sgn a ≠ sgn b then (QN, 16)
  else if cls a = 3 then (a, 0)
  else if cls b = 3 then (b, 0)
  else if sv a + sv b = 0 then (sg (if sgn a = sgn b then sgn a else decide (mode = 2)), 0)
  else RND (decide (sv a + sv b < 0)) (2 * (sv a + sv b).natAbs) false mode
def sMul (a b mode : Nat) : Nat × Nat :=
  if cls a = 4 ∨ cls b = 4 then (QN, 0)
  else if cls a = 3 ∧ cls b = 0 ∨ cls a = 0 ∧ cls b = 3 then (QN, 16)
  else if cls a = 3 ∨ cls b = 3 then (sg (sgn a != sgn b) + INF, 0)
  else if spm a * spm b = 0 then (sg (sgn a != sgn b), 0)
  else RND (sgn a != sgn b) (FX (spm a * spm b) 1 (spe a + spe b)) (FS (spm a * spm b) 1 (spe a + spe b) false) mode
def sDiv (a b mode : Nat) : Nat × Nat :=
  if cls a = 4 ∨ cls b = 4 then (QN, 0)
  else if cls a = 3 ∧ cls b = 3 ∨ cls a = 0 ∧ cls b = 0 then (QN, 16)
  else if cls a = 3 then (sg (sgn a != sgn b) + INF, 0)
  else if cls b = 0 then (sg (sgn a != sgn b) + INF, 8)
  else if cls a = 0 ∨ cls b = 3 then (sg (sgn a != sgn b), 0)
  else RND (sgn a != sgn b) (FX (spm a) (spm b) (spe a - spe b)) (FS (spm a) (spm b) (spe a - spe b) false) mode
end Go.Proofs.Ytmadjhmecfbcmaa.M
end
section
namespace Go.Proofs.Ytmadjhmecfbcmaa.M
open Go.RowKit Go.Proofs.YtmadjhmecfbcmaaW.PrintWords Go.Proofs.YtmadjhmecfbcmaaW.PrintLast Go.Proofs.YtmadjhmecfbcmaaW.PrintMore Go.Proofs.Ytmadjhmecfbcmaa.F
theorem tw_word {m : Nat} (h : m < 18446744073709551616) : tw m = (0, (m : Int)) := by
  unfold tw; rw [Nat.div_eq_of_lt h, Nat.mod_eq_of_lt h]; rfl
theorem U128_Add (p q : Nat) (h : p + q < 340282366920938463463374607431768211456) :
    wide_U128_Add.f (tw p).1 (tw p).2 (tw q).1 (tw q).2 = some ((tw (p + q)).1, (tw (p + q)).2, 0) := by
  unfold wide_U128_Add.f tw
  dsimp only
  rw [if_pos (by omega)]
  congr 1
  ext <;> dsimp only <;> omega
theorem U128_Sub (p q : Nat) (_hp : p < 340282366920938463463374607431768211456) (h : q ≤ p) :
    wide_U128_Sub.f (tw p).1 (tw p).2 (tw q).1 (tw q).2 = some ((tw (p - q)).1, (tw (p - q)).2, 0) := by
  unfold wide_U128_Sub.f tw
  dsimp only
  rw [if_pos (by omega)]
  congr 1
  by_cases c : p % 18446744073709551616 < q % 18446744073709551616
  · rw [if_pos (by omega)]
    ext <;> dsimp only <;> (try split) <;> omega
  · rw [if_neg (by omega)]
    ext <;> dsimp only <;> (try split) <;> omega
theorem tw_eq_zero (p : Nat) (_hp : p < 340282366920938463463374607431768211456) : ((tw p).1 == 0 && ((tw p).2 == 0)) = decide (p = 0) := by
  unfold tw
  rw [Bool.eq_iff_iff, Bool.and_eq_true, beq_iff_eq, beq_iff_eq, decide_eq_true_iff]; dsimp only; omega
theorem cl_id {e : Int} (h : -5000 ≤ e) (h2 : e ≤ 5000) : cl e = e := by unfold cl; omega
theorem exact_scale (N d : Nat) (ea eb : Int) (he : ea = eb + d) (hb : -1074 ≤ eb) : FX N (2 ^ d) ea = 2 * (N * 2 ^ (eb + 1074).toNat) ∧ FS N (2 ^ d) ea false = false := by
  have h0 : (-(ea + 1075)).toNat = 0 := by omega
  have e1 : N * 2 ^ (ea + 1075).toNat = 2 ^ d * (2 * (N * 2 ^ (eb + 1074).toNat)) := by
    have : 2 ^ (ea + 1075).toNat = 2 ^ d * (2 ^ (eb + 1074).toNat * 2) := by rw [← Nat.pow_succ, ← Nat.pow_add]; congr 1; omega
    rw [this]; grind
  unfold FX FS FN FD
  rw [h0, Nat.pow_zero, Nat.mul_one, e1, Nat.mul_div_cancel_left _ (two_pos d), Nat.mul_mod_right]
  exact ⟨rfl, rfl⟩
theorem ar1 {n m P Q r : Nat} (h1 : n + m = P) (h2 : Q + r = m) (h3 : r = 0) : n = P - Q := by omega
theorem ar3 {m D : Nat} (h1 : m < 9007199254740992) (h2 : 2 ^ 71 ≤ D) : m * 1180591620717411303424 < 9007199254740992 * D := by
  have h3 : 2361183241434822606848 ≤ D := h2
  have := Nat.mul_le_mul_left 9007199254740992 h3; omega
theorem ar2 {n m P Q r D : Nat} (h1 : n + m = P) (h2 : Q + r = m) (h3 : Q + D ≤ P) (h4 : r < D) : n = (D - r) + (P - Q - D) := by omega
theorem num_add_ev (fa fb ca cb : Int) (na nb : Bool) (ma mb : Nat) (ea eb : Int) (mode : Nat) (h1 : 1 ≤ ma) (h2 : ma < 9007199254740992) (h3 : 1 ≤ mb) (h4 : mb < 9007199254740992)
    (h5 : -1074 ≤ eb) (h6 : eb ≤ ea) (h7 : ea ≤ 971) (h8 : ea = eb → mb ≤ ma) (h9 : -1074 < ea → 4503599627370496 ≤ ma) :
    mb ≤ ma * 2 ^ (ea - eb).toNat ∧
    Ev (fun k => soft_num_add.f k fa ca na (ma : Int) ea fb cb nb (mb : Int) eb (mode : Int))
      (if na = nb then pr (RND na (2 * ((ma * 2 ^ (ea - eb).toNat + mb) * 2 ^ (eb + 1074).toNat)) false mode)
       else if ma * 2 ^ (ea - eb).toNat = mb then ((sg (decide (mode = 2)) : Int), 0)
       else pr (RND na (2 * ((ma * 2 ^ (ea - eb).toNat - mb) * 2 ^ (eb + 1074).toNat)) false mode)) := by
  obtain ⟨d, hd⟩ : ∃ d : Nat, ea - eb = d := ⟨(ea - eb).toNat, by omega⟩
  rw [show (ea - eb).toNat = d by omega]
  have pd := two_pos d
  have hge : mb ≤ ma * 2 ^ d := by
    by_cases c : d = 0
    · subst c; have := h8 (by omega); omega
    · have := h9 (by omega)
      obtain ⟨u, rfl⟩ : ∃ u, d = u + 1 := ⟨d - 1, by omega⟩
      have pu := two_pos u
      have : ma * 1 ≤ ma * 2 ^ u := Nat.mul_le_mul_left _ pu
      rw [Nat.pow_succ, ← Nat.mul_assoc]; omega
  refine ⟨hge, ?_⟩
  have S1 : Ev (fun k => wide_U128_Shl.f k 0 (ma : Int) 70) (tw (ma * 1180591620717411303424)) := by
    have := Shl_tw ma 70 (by omega) (by omega)
    rw [tw_word (by omega), show (2 : Nat) ^ 70 = 1180591620717411303424 from rfl, Nat.mod_eq_of_lt (by omega)] at this; exact this
  have S2 : Ev (fun k => wide_U128_Shl.f k 0 (mb : Int) 70) (tw (mb * 1180591620717411303424)) := by
    have := Shl_tw mb 70 (by omega) (by omega)
    rw [tw_word (by omega), show (2 : Nat) ^ 70 = 1180591620717411303424 from rfl, Nat.mod_eq_of_lt (by omega)] at this; exact this
  have S3 := Shr_tw (mb * 1180591620717411303424) d (by omega) (by omega)
  have w1 : wrap64 (ea - eb) = (d : Int) := by rw [w64 (by omega) (by omega)]; omega
  have w2 : wrap64 (ea - 70) = ea - 70 := w64 (by omega) (by omega)
  have hc : cl (ea - 70) = ea - 70 := cl_id (by omega) (by omega)
  have hqd := Nat.div_add_mod (mb * 1180591620717411303424) (2 ^ d)
  have hqm := Nat.mod_lt (mb * 1180591620717411303424) pd
  have hql : mb * 1180591620717411303424 / 2 ^ d ≤ mb * 1180591620717411303424 := Nat.div_le_self _ _
  have hqp : mb * 1180591620717411303424 / 2 ^ d ≤ ma * 1180591620717411303424 := by
    have h10 : mb * 1180591620717411303424 ≤ 2 ^ d * (ma * 1180591620717411303424) := by
      have : mb * 1180591620717411303424 ≤ ma * 2 ^ d * 1180591620717411303424 := Nat.mul_le_mul_right _ hge
      rw [show ma * 2 ^ d * 1180591620717411303424 = 2 ^ d * (ma * 1180591620717411303424) by grind] at this; exact this
    exact Nat.div_le_of_le_mul h10
  have hlostd : mb * 1180591620717411303424 % 2 ^ d ≠ 0 → 71 ≤ d := by
    intro hne
    by_cases c : d ≤ 70
    · exfalso; apply hne
      have : (1180591620717411303424 : Nat) = 2 ^ d * 2 ^ (70 - d) := by rw [← Nat.pow_add, show d + (70 - d) = 70 by omega]
      rw [this, Nat.mul_left_comm, Nat.mul_mod_right]
    · omega
  have fin : ∀ (N s : Nat) (lost : Bool), N ≠ 0 → s < 340282366920938463463374607431768211456 → N * 1180591620717411303424 / 2 ^ d = s → lost = decide (N * 1180591620717411303424 % 2 ^ d ≠ 0) → s ≠ 0 →
      (lost = true → 9007199254740992 ≤ s) →
      Ev (fun k => round_Round.f k na (tw s).1 (tw s).2 (ea - 70) lost (mode : Int)) (pr (RND na (2 * (N * 2 ^ (eb + 1074).toNat)) false mode)) := by
    intro N s lost hN hs e1 e2 hs0 hl
    have R := Round_ev na s (ea - 70) lost mode hs
    rw [if_neg hs0, hc] at R
    have e3 : (lost && decide (53 < bl s)) = lost := by
      cases lost
      · rfl
      · rw [Bool.true_and, decide_eq_true_iff]
        have h11 := hl rfl
        by_cases c : bl s ≤ 53
        · have := bl_small c; omega
        · omega
    rw [e3] at R
    have T := two_step na (N * 1180591620717411303424) (2 ^ d) (ea - 70) mode pd (by
      by_cases c : N * 1180591620717411303424 % 2 ^ d = 0
      · exact .inl c
      · right; rw [e1]; apply hl; rw [e2, decide_eq_true c])
    rw [e1, ← e2] at T
    have K := FXS_scale N (2 ^ d) 70 ea false
    rw [show (2 : Nat) ^ 70 = 1180591620717411303424 from rfl, show ((70 : Nat) : Int) = 70 from rfl] at K
    have X := exact_scale N d ea eb (by omega) h5
    rw [K.1, K.2, X.1, X.2] at T
    rw [T] at R
    exact R
  unfold soft_num_add.f
  refine Ev.b _ S1 (Ev.b _ S2 ?_)
  rw [w1]
  refine Ev.b _ S3 ?_
  dsimp only
  rw [w2]
  by_cases hs : na = nb
  · rw [if_pos hs]
    have hs' : (na == nb) = true := by rw [beq_iff_eq]; exact hs
    have hq : (ma * 2 ^ d + mb) * 1180591620717411303424 / 2 ^ d = ma * 1180591620717411303424 + mb * 1180591620717411303424 / 2 ^ d := by
      rw [show (ma * 2 ^ d + mb) * 1180591620717411303424 = mb * 1180591620717411303424 + 2 ^ d * (ma * 1180591620717411303424) by grind, Nat.add_mul_div_left _ _ pd]; omega
    have hm : (ma * 2 ^ d + mb) * 1180591620717411303424 % 2 ^ d = mb * 1180591620717411303424 % 2 ^ d := by
      rw [show (ma * 2 ^ d + mb) * 1180591620717411303424 = mb * 1180591620717411303424 + 2 ^ d * (ma * 1180591620717411303424) by grind, Nat.add_mul_mod_self_left]
    have g1 : ma * 1180591620717411303424 + mb * 1180591620717411303424 / 2 ^ d < 340282366920938463463374607431768211456 := by omega
    have g2 : 9007199254740992 ≤ ma * 1180591620717411303424 + mb * 1180591620717411303424 / 2 ^ d := Nat.le_trans (by omega) (Nat.le_add_right _ _)
    have F := fin (ma * 2 ^ d + mb) _ (decide (mb * 1180591620717411303424 % 2 ^ d ≠ 0)) (by omega) g1 hq (by rw [hm]) (Nat.ne_of_gt (Nat.lt_of_lt_of_le (by decide) g2)) (fun _ => g2)
    have UA := U128_Add _ _ g1
    refine Ev.congr (fun k => by rw [if_pos hs']) (Ev.b _ (Ev.const UA) ?_)
    dsimp only
    exact Ev.b (f := fun _ b => some (b.1, b.2)) _ F (Ev.now _)
  · rw [if_neg hs]
    have hs' : ¬ (na == nb) = true := by rw [beq_iff_eq]; exact hs
    have g0 : ma * 1180591620717411303424 < 340282366920938463463374607431768211456 := by omega
    have US := U128_Sub _ _ g0 hqp
    refine Ev.congr (fun k => by rw [if_neg hs']) (Ev.b _ (Ev.const US) ?_)
    dsimp only
    rw [tw_eq_zero _ (Nat.lt_of_le_of_lt (Nat.sub_le _ _) g0)]
    by_cases hz : ma * 2 ^ d = mb
    · rw [if_pos hz]
      have z : ma * 1180591620717411303424 - mb * 1180591620717411303424 / 2 ^ d = 0 := by
        rw [← hz, show ma * 2 ^ d * 1180591620717411303424 = 2 ^ d * (ma * 1180591620717411303424) by grind, Nat.mul_div_cancel_left _ pd]; omega
      have hmz : ((mode : Int) == 2) = decide (mode = 2) := by rw [Bool.eq_iff_iff, beq_iff_eq, decide_eq_true_iff]; omega
      rw [decide_eq_true z]
      refine Ev.congr (fun k => by rw [if_pos rfl, hmz]) (Ev.b (f := fun _ b => some (b, (0 : Int))) _ (zero_ev _) (Ev.now _))
    · rw [if_neg hz]
      have hlt : mb < ma * 2 ^ d := by omega
      have hA : (ma * 2 ^ d - mb) * 1180591620717411303424 + mb * 1180591620717411303424 = 2 ^ d * (ma * 1180591620717411303424) := by
        rw [← Nat.add_mul, Nat.sub_add_cancel hge]; grind
      have hqlt : mb * 1180591620717411303424 / 2 ^ d < ma * 1180591620717411303424 := by
        rw [Nat.div_lt_iff_lt_mul pd, Nat.mul_right_comm]
        exact Nat.mul_lt_mul_of_pos_right hlt (by decide)
      have hN : ma * 2 ^ d - mb ≠ 0 := by omega
      obtain ⟨N, hNN⟩ : ∃ N, ma * 2 ^ d - mb = N := ⟨_, rfl⟩
      obtain ⟨p, hpp⟩ : ∃ p, ma * 1180591620717411303424 = p := ⟨_, rfl⟩
      obtain ⟨q, hqq⟩ : ∃ q, mb * 1180591620717411303424 / 2 ^ d = q := ⟨_, rfl⟩
      obtain ⟨r, hrr⟩ : ∃ r, mb * 1180591620717411303424 % 2 ^ d = r := ⟨_, rfl⟩
      rw [hNN, hpp] at hA
      rw [hpp, hqq] at hqlt hqp
      rw [hqq, hrr] at hqd
      rw [hrr] at hlostd hqm
      rw [hNN] at hN
      rw [hNN, hpp, hqq, hrr]
      have z : ¬ p - q = 0 := Nat.sub_ne_zero_of_lt hqlt
      rw [decide_eq_false z]
      by_cases hr : r = 0
      · have hA2 : N * 1180591620717411303424 = 2 ^ d * (p - q) := by rw [Nat.mul_sub]; exact ar1 hA hqd hr
        have F := fin N (p - q) false hN (by omega) (by rw [hA2, Nat.mul_div_cancel_left _ pd]) (by rw [hA2, Nat.mul_mod_right]; rfl) z (by simp)
        rw [decide_eq_false (show ¬ r ≠ 0 by omega)]
        exact Ev.congr (fun k => by rw [if_neg (by simp), if_neg (by simp)]) (Ev.b (f := fun _ b => some (b.1, b.2)) _ F (Ev.now _))
      · have h71 := hlostd hr
        have hma := h9 (by omega)
        have hA2 : N * 1180591620717411303424 = (2 ^ d - r) + 2 ^ d * (p - q - 1) := by
          rw [Nat.mul_sub, Nat.mul_sub, Nat.mul_one]
          have h12 : 2 ^ d * q + 2 ^ d ≤ 2 ^ d * p := by
            have : 2 ^ d * (q + 1) ≤ 2 ^ d * p := Nat.mul_le_mul_left _ hqlt
            rw [Nat.mul_add, Nat.mul_one] at this; exact this
          exact ar2 hA hqd h12 hqm
        have hdq : N * 1180591620717411303424 / 2 ^ d = p - q - 1 := by
          rw [hA2, Nat.add_mul_div_left _ _ pd, Nat.div_eq_of_lt (by omega)]; omega
        have hdm : N * 1180591620717411303424 % 2 ^ d = 2 ^ d - r := by
          rw [hA2, Nat.add_mul_mod_self_left, Nat.mod_eq_of_lt (by omega)]
        have hqs : q < 9007199254740992 := by
          rw [← hqq, Nat.div_lt_iff_lt_mul pd]
          exact ar3 h4 (pow_le h71)
        have F := fin N (p - q - 1) true hN (by omega) hdq (by rw [hdm, decide_eq_true (show 2 ^ d - r ≠ 0 by omega)]) (by omega) (by intro _; omega)
        rw [decide_eq_true (show r ≠ 0 from hr)]
        have U := U128_Sub (p - q) 1 (by omega) (by omega)
        rw [tw_word (show 1 < 18446744073709551616 by decide), show ((1 : Nat) : Int) = 1 from rfl] at U
        dsimp only at U
        refine Ev.congr (fun k => by rw [if_neg (by simp), if_pos rfl]) (Ev.b _ (Ev.const U) ?_)
        dsimp only
        exact Ev.b (f := fun _ b => some (b.1, b.2)) _ F (Ev.now _)
end Go.Proofs.Ytmadjhmecfbcmaa.M
end
section
namespace Go.Proofs.Ytmadjhmecfbcmaa.M
open Go.RowKit Go.Proofs.YtmadjhmecfbcmaaW.PrintWords Go.Proofs.YtmadjhmecfbcmaaW.PrintLast Go.Proofs.YtmadjhmecfbcmaaW.PrintMore Go.Proofs.Ytmadjhmecfbcmaa.F
theorem either_ok (x0 : Int) (cx : Nat) (x2 : Bool) (x3 x4 y0 : Int) (cy : Nat) (y2 : Bool) (y3 y4 : Int) (c : Nat) :
    soft_either.f x0 (cx : Int) x2 x3 x4 y0 (cy : Int) y2 y3 y4 (c : Int) = some (decide (cx = c ∨ cy = c)) := by
  unfold soft_either.f
  by_cases h : cx = c
  · rw [if_pos (by omega), decide_eq_true (.inl h)]
  · rw [if_neg (by omega)]; congr 1; rw [Bool.eq_iff_iff, beq_iff_eq, decide_eq_true_iff]; omega
theorem eq_nat (a b : Nat) : ((a : Int) == (b : Int)) = decide (a = b) := by rw [Bool.eq_iff_iff, beq_iff_eq, decide_eq_true_iff]; omega
theorem sgn_zero {a : Nat} (h : U a) (hz : cls a = 0) : a = sg (sgn a) := by
  have h1 := a_parts a h
  have h2 := (key_cls a).2.2.2.1 hz
  omega
theorem sv_eq (a : Nat) : sv a = if sgn a then -(mg a : Int) else mg a := rfl
theorem RND_self (a mode : Nat) (h : U a) (hf : cls a ≤ 2) : RND (sgn a) (2 * mg a) false mode = (a, 0) := by
  unfold mg
  rw [RND_exact _ _ _ ((key_cls a).1.1 hf), ← a_parts a h]
theorem sAdd_fin {a b : Nat} (mode : Nat) (ca : cls a ≤ 2) (cb : cls b ≤ 2) :
    sAdd a b mode = if sv a + sv b = 0 then (sg (if sgn a = sgn b then sgn a else decide (mode = 2)), 0) else RND (decide (sv a + sv b < 0)) (2 * (sv a + sv b).natAbs) false mode := by
  have c1 : ¬ (cls a = 4 ∨ cls b = 4) := by omega
  have c2 : ¬ (cls a = 3 ∧ cls b = 3 ∧ sgn a ≠ sgn b) := fun h => by have := h.1; omega
  have c3 : ¬ cls a = 3 := by omega
  have c4 : ¬ cls b = 3 := by omega
  unfold sAdd
  rw [if_neg c1, if_neg c2, if_neg c3, if_neg c4]
theorem sAdd_zero_left (a b mode : Nat) (hb : U b) (ca : cls a = 0) (cb : cls b ≤ 2) (cb0 : cls b ≠ 0) : sAdd a b mode = (b, 0) := by
  have m0 : mg a = 0 := (mg_zero a).2 ca
  have mb : mg b ≠ 0 := fun h => cb0 ((mg_zero b).1 h)
  have ha0 : sv a = 0 := by rw [sv_eq, m0]; split <;> rfl
  rw [sAdd_fin mode (by omega) cb, ha0, Int.zero_add, if_neg (by rw [sv_eq]; split <;> omega)]
  rw [← RND_self b mode hb cb]
  have e1 : decide (sv b < 0) = sgn b := by
    rw [sv_eq]; cases sgn b
    · rw [decide_eq_false]; simp
    · rw [decide_eq_true]; simp; omega
  have e2 : (sv b).natAbs = mg b := by rw [sv_eq]; split <;> omega
  rw [e1, e2]
theorem sAdd_zero_right (a b mode : Nat) (ha : U a) (cb : cls b = 0) (ca : cls a ≤ 2) (ca0 : cls a ≠ 0) : sAdd a b mode = (a, 0) := by
  have m0 : mg b = 0 := (mg_zero b).2 cb
  have ma : mg a ≠ 0 := fun h => ca0 ((mg_zero a).1 h)
  have hb0 : sv b = 0 := by rw [sv_eq, m0]; split <;> rfl
  rw [sAdd_fin mode ca (by omega), hb0, Int.add_zero, if_neg (by rw [sv_eq]; split <;> omega)]
  rw [← RND_self a mode ha ca]
  have e1 : decide (sv a < 0) = sgn a := by
    rw [sv_eq]; cases sgn a
    · rw [decide_eq_false]; simp
    · rw [decide_eq_true]; simp; omega
  have e2 : (sv a).natAbs = mg a := by rw [sv_eq]; split <;> omega
  rw [e1, e2]
theorem big_small (a b mode : Nat) (ca : cls a ≤ 2) (ca0 : cls a ≠ 0) (cb : cls b ≤ 2) (cb0 : cls b ≠ 0) (he : spe b ≤ spe a) (hge : spm b ≤ spm a * 2 ^ (spe a - spe b).toNat) :
    (if sgn a = sgn b then pr (RND (sgn a) (2 * ((spm a * 2 ^ (spe a - spe b).toNat + spm b) * 2 ^ (spe b + 1074).toNat)) false mode)
       else if spm a * 2 ^ (spe a - spe b).toNat = spm b then ((sg (decide (mode = 2)) : Int), 0)
       else pr (RND (sgn a) (2 * ((spm a * 2 ^ (spe a - spe b).toNat - spm b) * 2 ^ (spe b + 1074).toNat)) false mode)) = pr (sAdd a b mode) ∧
    sAdd a b mode = sAdd b a mode := by
  have hb := spe_bd b
  have h1 := mg_split a ca
  have h2 := mg_split b cb
  have ma : mg a ≠ 0 := fun h => ca0 ((mg_zero a).1 h)
  have mb : mg b ≠ 0 := fun h => cb0 ((mg_zero b).1 h)
  have e1 : 2 ^ (spe a + 1074).toNat = 2 ^ (spe a - spe b).toNat * 2 ^ (spe b + 1074).toNat := by rw [← Nat.pow_add]; congr 1; omega
  have h3 : mg a = spm a * 2 ^ (spe a - spe b).toNat * 2 ^ (spe b + 1074).toNat := by rw [h1, e1, Nat.mul_assoc]
  have pp := two_pos (spe b + 1074).toNat
  generalize 2 ^ (spe b + 1074).toNat = P at *
  generalize spm a * 2 ^ (spe a - spe b).toNat = A at *
  generalize spm b = B at *
  have hle : mg b ≤ mg a := by rw [h2, h3]; exact Nat.mul_le_mul_right _ hge
  have hadd : (A + B) * P = mg a + mg b := by rw [Nat.add_mul, h2, h3]
  have hsub : (A - B) * P = mg a - mg b := by rw [Nat.sub_mul, h2, h3]
  have heq : A = B ↔ mg a = mg b := by
    rw [h2, h3]
    exact ⟨fun h => by rw [h], fun h => Nat.eq_of_mul_eq_mul_right pp h⟩
  have swap : sAdd a b mode = sAdd b a mode := by
    rw [sAdd_fin mode ca cb, sAdd_fin mode cb ca, Int.add_comm (sv b)]
    have : (if sgn a = sgn b then sgn a else decide (mode = 2)) = (if sgn b = sgn a then sgn b else decide (mode = 2)) := by
      by_cases h : sgn a = sgn b
      · rw [if_pos h, if_pos h.symm, h]
      · rw [if_neg h, if_neg (Ne.symm h)]
    rw [this]
  refine ⟨?_, swap⟩
  rw [hadd, hsub, sAdd_fin mode ca cb]
  by_cases hs : sgn a = sgn b
  · have hsv : sv a + sv b = if sgn a then -((mg a + mg b : Nat) : Int) else ((mg a + mg b : Nat) : Int) := by
      rw [sv_eq, sv_eq, ← hs]; split <;> omega
    have hne : ¬ sv a + sv b = 0 := by rw [hsv]; split <;> omega
    rw [if_pos hs, if_neg hne]
    have e1 : decide (sv a + sv b < 0) = sgn a := by
      rw [hsv]; cases sgn a
      · rw [decide_eq_false]; simp; omega
      · rw [decide_eq_true]; simp; omega
    have e2 : (sv a + sv b).natAbs = mg a + mg b := by rw [hsv]; split <;> omega
    rw [e1, e2]
  · have hb2 : sgn b = !sgn a := by revert hs; cases sgn a <;> cases sgn b <;> simp
    have hsv : sv a + sv b = if sgn a then -((mg a - mg b : Nat) : Int) else ((mg a - mg b : Nat) : Int) := by
      rw [sv_eq, sv_eq, hb2]; cases sgn a <;> simp <;> omega
    rw [if_neg hs]
    by_cases hz : A = B
    · have hz' := heq.1 hz
      rw [if_pos hz, if_pos (by rw [hsv, hz']; split <;> omega), if_neg hs]; rfl
    · have hz' : ¬ mg a = mg b := fun h => hz (heq.2 h)
      have hne : ¬ sv a + sv b = 0 := by rw [hsv]; split <;> omega
      rw [if_neg hz, if_neg hne]
      have e1 : decide (sv a + sv b < 0) = sgn a := by
        rw [hsv]; cases sgn a
        · rw [decide_eq_false]; simp
        · rw [decide_eq_true]; simp; omega
      have e2 : (sv a + sv b).natAbs = mg a - mg b := by rw [hsv]; split <;> omega
      rw [e1, e2]
theorem spe_cls (a : Nat) (h : cls a ≤ 2) (h2 : -1074 < spe a) (h0 : cls a ≠ 0) : 4503599627370496 ≤ spm a := by
  unfold spe at h2; unfold spm
  split
  · omega
  · rename_i c; rw [if_neg c] at h2; split at h2 <;> omega
theorem add_big (a b mode : Nat) (k0 : cls a ≤ 2) (ca0 : cls a ≠ 0) (cb : cls b ≤ 2) (cb0 : cls b ≠ 0) (h : spe b < spe a ∨ spe a = spe b ∧ spm b ≤ spm a) (fa fb xa xb : Int) :
    Ev (fun k => soft_num_add.f k fa xa (sgn a) (spm a : Int) (spe a) fb xb (sgn b) (spm b : Int) (spe b) (mode : Int)) (pr (sAdd a b mode)) ∧ sAdd a b mode = sAdd b a mode := by
  have ha := spe_bd a
  have hb := spe_bd b
  have ma : spm a ≠ 0 := fun h => ca0 ((spm_zero a k0).1 h)
  have mb : spm b ≠ 0 := fun h => cb0 ((spm_zero b cb).1 h)
  have N := num_add_ev fa fb xa xb (sgn a) (sgn b) (spm a) (spm b) (spe a) (spe b) mode (by omega) (spm_lt a) (by omega) (spm_lt b) hb.1 (by omega) ha.2 (by omega) (fun h => spe_cls a k0 h ca0)
  have B := big_small a b mode k0 ca0 cb cb0 (by omega) N.1
  rw [B.1] at N
  exact ⟨N.2, B.2⟩
theorem Add_ev (a b mode : Nat) (ha : U a) (hb : U b) : Ev (fun k => soft_Add.f k (a : Int) (b : Int) (mode : Int)) (pr (sAdd a b mode)) := by
  have la := cls_le a
  have lb := cls_le b
  have m2 : ((mode : Int) == 2) = decide (mode = 2) := eq_nat mode 2
  have ne : (sgn a != sgn b) = decide (sgn a ≠ sgn b) := by rw [Bool.eq_iff_iff, bne_iff_ne, decide_eq_true_iff]
  have za : ((spm a : Int) == 0) = decide (spm a = 0) := eq_nat _ 0
  have zb : ((spm b : Int) == 0) = decide (spm b = 0) := eq_nat _ 0
  unfold soft_Add.f
  refine Ev.b _ (of_ev a ha) (Ev.b _ (of_ev b hb) ?_)
  dsimp only
  have E4 := either_ok (a : Int) (cls a) (sgn a) (spm a : Int) (spe a) (b : Int) (cls b) (sgn b) (spm b : Int) (spe b) 4
  refine Ev.b _ (Ev.const E4) ?_
  by_cases c4 : cls a = 4 ∨ cls b = 4
  · have hS : sAdd a b mode = (QN, 0) := by unfold sAdd; rw [if_pos c4]
    rw [hS, decide_eq_true c4]
    exact Ev.congr (fun k => by rw [if_pos rfl]) (Ev.b (f := fun _ x => some (x, (0 : Int))) _ (Ev.const (show pattern_Quiet.f = some (QN : Int) from rfl)) (Ev.now _))
  rw [decide_eq_false c4]
  have J2 : cls a ≤ 2 → cls b ≤ 2 → ¬ (cls a = 0 ∧ cls b = 0 ∧ sgn a = sgn b) → Ev (fun k => soft_Add.j2 k (a : Int) (b : Int) (mode : Int) (if spm a = 0 then decide (spm b = 0) else false) (a : Int) (cls a : Int) (sgn a) (spm a : Int) (spe a) (b : Int) (cls b : Int) (sgn b) (spm b : Int) (spe b)) (pr (sAdd a b mode)) := by
    intro ka kb hn
    have sa := spm_zero a ka
    have sb := spm_zero b kb
    refine Ev.next ?_
    simp only [soft_Add.j2]
    rw [m2]
    by_cases a0 : cls a = 0
    · by_cases b0 : cls b = 0
      · have hS : sAdd a b mode = (sg (decide (mode = 2)), 0) := by
          have m0 : mg a = 0 := (mg_zero a).2 a0
          have m1 : mg b = 0 := (mg_zero b).2 b0
          rw [sAdd_fin mode ka kb, if_pos (by rw [sv_eq, sv_eq, m0, m1]; split <;> split <;> rfl), if_neg (fun h => hn ⟨a0, b0, h⟩)]
        rw [hS, if_pos (sa.2 a0), decide_eq_true (sb.2 b0)]
        exact Ev.congr (fun k => by rw [if_pos rfl]) (Ev.b (f := fun _ x => some (x, (0 : Int))) _ (zero_ev _) (Ev.now _))
      · have sb' : ¬ spm b = 0 := fun h => b0 (sb.1 h)
        rw [sAdd_zero_left a b mode hb a0 kb b0, if_pos (sa.2 a0), decide_eq_false sb']
        have : (spm a : Int) = 0 := by rw [sa.2 a0]; rfl
        exact Ev.all fun k => by rw [if_neg (by simp), if_pos this]; rfl
    · have sa' : ¬ spm a = 0 := fun h => a0 (sa.1 h)
      have sa2 : ¬ (spm a : Int) = 0 := by omega
      rw [if_neg sa']
      by_cases b0 : cls b = 0
      · have : (spm b : Int) = 0 := by rw [sb.2 b0]; rfl
        rw [sAdd_zero_right a b mode ha b0 ka a0]
        exact Ev.all fun k => by rw [if_neg (by simp), if_neg sa2, if_pos this]; rfl
      · have sb2 : ¬ (spm b : Int) = 0 := by have : ¬ spm b = 0 := fun h => b0 (sb.1 h); omega
        by_cases h1 : spe a < spe b
        · have A := add_big b a mode kb b0 ka a0 (.inl h1) (b : Int) (a : Int) (cls b : Int) (cls a : Int)
          rw [A.2] at A
          exact Ev.congr (fun k => by rw [if_neg (by simp), if_neg sa2, if_neg sb2, if_pos h1]) (Ev.b (f := fun _ x => some (x.1, x.2)) _ A.1 (Ev.now _))
        · by_cases h2 : spe a = spe b
          · by_cases h3 : (spm a : Int) < (spm b : Int)
            · have A := add_big b a mode kb b0 ka a0 (.inr ⟨h2.symm, by omega⟩) (b : Int) (a : Int) (cls b : Int) (cls a : Int)
              rw [A.2] at A
              exact Ev.congr (fun k => by rw [if_neg (by simp), if_neg sa2, if_neg sb2, if_neg h1, if_pos h2, if_pos h3]) (Ev.b (f := fun _ x => some (x.1, x.2)) _ A.1 (Ev.now _))
            · have A := add_big a b mode ka a0 kb b0 (.inr ⟨h2, by omega⟩) (a : Int) (b : Int) (cls a : Int) (cls b : Int)
              exact Ev.congr (fun k => by rw [if_neg (by simp), if_neg sa2, if_neg sb2, if_neg h1, if_pos h2, if_neg h3]) (Ev.b (f := fun _ x => some (x.1, x.2)) _ A.1 (Ev.now _))
          · have A := add_big a b mode ka a0 kb b0 (.inl (by omega)) (a : Int) (b : Int) (cls a : Int) (cls b : Int)
            exact Ev.congr (fun k => by rw [if_neg (by simp), if_neg sa2, if_neg sb2, if_neg h1, if_neg h2]) (Ev.b (f := fun _ x => some (x.1, x.2)) _ A.1 (Ev.now _))
  have J1 : cls a ≤ 2 → cls b ≤ 2 → Ev (fun k => soft_Add.j1 k (a : Int) (b : Int) (mode : Int) (if spm a = 0 then (if spm b = 0 then sgn a == sgn b else false) else false) (a : Int) (cls a : Int) (sgn a) (spm a : Int) (spe a) (b : Int) (cls b : Int) (sgn b) (spm b : Int) (spe b)) (pr (sAdd a b mode)) := by
    intro ka kb
    have sa := spm_zero a ka
    have sb := spm_zero b kb
    refine Ev.next ?_
    simp only [soft_Add.j1]
    by_cases z : cls a = 0 ∧ cls b = 0 ∧ sgn a = sgn b
    · obtain ⟨z1, z2, z3⟩ := z
      have hS : sAdd a b mode = (a, 0) := by
        have m0 : mg a = 0 := (mg_zero a).2 z1
        have m1 : mg b = 0 := (mg_zero b).2 z2
        rw [sAdd_fin mode ka kb, if_pos (by rw [sv_eq, sv_eq, m0, m1]; split <;> split <;> rfl), if_pos z3, ← sgn_zero ha z1]
      rw [hS, if_pos (sa.2 z1), if_pos (sb.2 z2), beq_iff_eq.2 z3]
      exact Ev.all fun k => by rw [if_pos rfl]; rfl
    · have hb0 : (if spm a = 0 then (if spm b = 0 then sgn a == sgn b else false) else false) = false := by
        split
        · split
          · rw [beq_eq_false_iff_ne]; intro h; exact z ⟨sa.1 (by assumption), sb.1 (by assumption), h⟩
          · rfl
        · rfl
      rw [hb0]
      have J := J2 ka kb z
      rw [zb]
      by_cases a0 : spm a = 0
      · rw [if_pos a0] at J
        exact Ev.congr (fun k => by rw [if_neg (by simp), if_pos (by omega)]) J
      · rw [if_neg a0] at J
        exact Ev.congr (fun k => by rw [if_neg (by simp), if_neg (by omega)]) J
  have J0 : Ev (fun k => soft_Add.j0 k (a : Int) (b : Int) (mode : Int) (if cls a = 3 then (if cls b = 3 then sgn a != sgn b else false) else false) (a : Int) (cls a : Int) (sgn a) (spm a : Int) (spe a) (b : Int) (cls b : Int) (sgn b) (spm b : Int) (spe b)) (pr (sAdd a b mode)) := by
    refine Ev.next ?_
    simp only [soft_Add.j0]
    by_cases a3 : cls a = 3
    · rw [if_pos a3]
      by_cases b3 : cls b = 3
      · rw [if_pos b3, ne]
        by_cases hs : sgn a = sgn b
        · have hS : sAdd a b mode = (a, 0) := by unfold sAdd; rw [if_neg c4, if_neg (by intro h; exact h.2.2 hs), if_pos a3]
          rw [hS, decide_eq_false (by intro h; exact h hs)]
          exact Ev.all fun k => by rw [if_neg (by simp), if_pos (by omega)]; rfl
        · have hS : sAdd a b mode = (QN, 16) := by unfold sAdd; rw [if_neg c4, if_pos ⟨a3, b3, hs⟩]
          rw [hS, decide_eq_true hs]
          exact Ev.all fun k => by rw [if_pos rfl]; rfl
      · have hS : sAdd a b mode = (a, 0) := by unfold sAdd; rw [if_neg c4, if_neg (by omega), if_pos a3]
        rw [hS, if_neg b3]
        exact Ev.all fun k => by rw [if_neg (by simp), if_pos (by omega)]; rfl
    · rw [if_neg a3]
      by_cases b3 : cls b = 3
      · have hS : sAdd a b mode = (b, 0) := by unfold sAdd; rw [if_neg c4, if_neg (by omega), if_neg a3, if_pos b3]
        rw [hS]
        exact Ev.all fun k => by rw [if_neg (by simp), if_neg (by omega), if_pos (by omega)]; rfl
      · have J := J1 (by omega) (by omega)
        by_cases a0 : spm a = 0
        · rw [if_pos a0] at J
          by_cases b0 : spm b = 0
          · rw [if_pos b0] at J
            exact Ev.congr (fun k => by rw [if_neg (by simp), if_neg (by omega), if_neg (by omega), if_pos (by omega), if_pos (by omega)]) J
          · rw [if_neg b0] at J
            exact Ev.congr (fun k => by rw [if_neg (by simp), if_neg (by omega), if_neg (by omega), if_pos (by omega), if_neg (by omega)]) J
        · rw [if_neg a0] at J
          exact Ev.congr (fun k => by rw [if_neg (by simp), if_neg (by omega), if_neg (by omega), if_neg (by omega)]) J
  by_cases a3 : cls a = 3
  · rw [if_pos a3] at J0
    by_cases b3 : cls b = 3
    · rw [if_pos b3] at J0
      exact Ev.congr (fun k => by rw [if_neg (by simp), if_pos (by omega), if_pos (by omega)]) J0
    · rw [if_neg b3] at J0
      exact Ev.congr (fun k => by rw [if_neg (by simp), if_pos (by omega), if_neg (by omega)]) J0
  · rw [if_neg a3] at J0
    exact Ev.congr (fun k => by rw [if_neg (by simp), if_neg (by omega)]) J0
theorem Sub_ev (a b mode : Nat) (ha : U a) (hb : U b) : Ev (fun k => soft_Sub.f k (a : Int) (b : Int) (mode : Int)) (pr (sAdd a (ng b) mode)) := by
  unfold soft_Sub.f
  exact Ev.b _ (Neg_ev b hb) (Ev.b (f := fun _ x => some (x.1, x.2)) _ (Add_ev a (ng b) mode ha (ng_U b hb)) (Ev.now _))
end Go.Proofs.Ytmadjhmecfbcmaa.M
end
section
namespace Go.Proofs.Ytmadjhmecfbcmaa.M
def lim (d : Nat) : Nat := if d = 2 then 9218868437227405311 else 9218868437227405312
def cap (X : Nat) (s : Bool) (d : Nat) : Nat := if 9218868437227405312 ≤ kk X s d then lim d else kk X s d
theorem cap_over' {X : Nat} {s : Bool} {d : Nat} (h : 9218868437227405312 ≤ kk X s d) : cap X s d = lim d := by unfold cap; rw [if_pos h]
theorem cap_in {X : Nat} {s : Bool} {d : Nat} (h : ¬ 9218868437227405312 ≤ kk X s d) : cap X s d = kk X s d := by unfold cap; rw [if_neg h]
theorem cap_over {X : Nat} {s : Bool} {d : Nat} (h : 9218868437227405312 ≤ kk X s d) : cap X s d = if d = 2 then 9218868437227405311 else 9218868437227405312 := by rw [cap_over' h]; unfold lim; rfl
theorem RND_cap (neg : Bool) (X : Nat) (s : Bool) (m : Nat) : ∃ f, RND neg X s m = (sg neg + cap X s (dir neg m), f) := by
  by_cases c : 9218868437227405312 ≤ kk X s (dir neg m)
  · exact ⟨_, by rw [RND_over c, cap_over c]⟩
  · exact ⟨_, by rw [RND_in c, cap_in c]⟩
theorem cap_le (X : Nat) (s : Bool) (d : Nat) : cap X s d ≤ 9218868437227405312 := by
  by_cases c1 : 9218868437227405312 ≤ kk X s d
  · rw [cap_over c1]; split <;> decide
  · rw [cap_in c1]; omega
def ord (a : Nat) : Int := if sgn a then -(key a : Int) else key a
theorem sgn_sg (neg : Bool) (k : Nat) (h : k < 9223372036854775808) : sgn (sg neg + k) = neg := by
  unfold sgn sg; cases neg
  · rw [if_neg (by decide)]; rw [show (0 + k) / 9223372036854775808 = 0 by omega]; rfl
  · rw [if_pos rfl, show (9223372036854775808 + k) / 9223372036854775808 = 1 by omega]; rfl
theorem key_sg (neg : Bool) (k : Nat) (h : k < 9223372036854775808) : key (sg neg + k) = k := by
  unfold key sg; cases neg
  · rw [if_neg (by decide)]; omega
  · rw [if_pos rfl]; omega
theorem ord_sg (neg : Bool) (k : Nat) (h : k < 9223372036854775808) : ord (sg neg + k) = if neg then -(k : Int) else k := by
  unfold ord; rw [sgn_sg neg k h, key_sg neg k h]
theorem cls_sg (neg : Bool) (k : Nat) (h : k ≤ 9218868437227405312) : cls (sg neg + k) ≤ 3 := by
  have := (key_cls (sg neg + k)).2.2.1
  rw [key_sg neg k (by omega)] at this
  have h2 := cls_le (sg neg + k)
  omega
theorem RND_fst (neg : Bool) (X : Nat) (s : Bool) (m : Nat) : (RND neg X s m).1 = sg neg + cap X s (dir neg m) := by
  obtain ⟨f, h⟩ := RND_cap neg X s m
  rw [h]
theorem ord_RND (neg : Bool) (X : Nat) (s : Bool) (m : Nat) : ord (RND neg X s m).1 = if neg then -(cap X s (dir neg m) : Int) else cap X s (dir neg m) := by
  have := cap_le X s (dir neg m)
  rw [RND_fst, ord_sg _ _ (by omega)]
theorem cls_RND (neg : Bool) (X : Nat) (s : Bool) (m : Nat) : cls (RND neg X s m).1 ≤ 3 := by
  rw [RND_fst]; exact cls_sg _ _ (cap_le _ _ _)
def ro (neg : Bool) (X : Nat) (s : Bool) (m : Nat) : Int := if neg then -(cap X s (dir neg m) : Int) else cap X s (dir neg m)
def rq (v : Int) (D m : Nat) : Int := ro (decide (v < 0)) (v.natAbs / D) (decide (v.natAbs % D ≠ 0)) m
theorem cap_zero (d : Nat) : cap 0 false d = 0 := by
  have h : sh 0 = 1 := rfl
  have hw : wd 0 = 0 := by unfold wd; simp
  have hfk : fk 0 = 0 := by unfold fk; rw [h, hw]
  have hh : hf 0 = false := by unfold hf; simp
  have hr : rs 0 false = false := by unfold rs; simp
  have hk : kk 0 false d = 0 := by unfold kk upw; rw [hfk, hh, hr]; simp
  rw [cap_in (by rw [hk]; decide), hk]
theorem rq_zero (D m : Nat) : rq 0 D m = 0 := by
  unfold rq ro
  simp [cap_zero]
theorem ite0 (p : Prop) [Decidable p] : (if p then -((0 : Nat) : Int) else ((0 : Nat) : Int)) = 0 := by split <;> rfl
theorem ord_sAdd (a b m : Nat) (ca : cls a ≤ 2) (cb : cls b ≤ 2) : ord (sAdd a b m).1 = rq (2 * (sv a + sv b)) 1 m := by
  rw [sAdd_fin m ca cb]
  split
  · rename_i h
    rw [h, show (2 * 0 : Int) = 0 from rfl, rq_zero]
    have := ord_sg (if sgn a = sgn b then sgn a else decide (m = 2)) 0 (by decide)
    rw [Nat.add_zero] at this
    rw [this]; exact ite0 _
  · rename_i h
    rw [ord_RND]
    unfold rq
    have e1 : (2 * (sv a + sv b)).natAbs = 2 * (sv a + sv b).natAbs := by omega
    have e2 : decide (2 * (sv a + sv b) < 0) = decide (sv a + sv b < 0) := by rw [decide_eq_decide]; omega
    rw [e1, e2, Nat.div_one, Nat.mod_one]
    rfl
end Go.Proofs.Ytmadjhmecfbcmaa.M
end
section
namespace Go.Proofs.Ytmadjhmecfbcmaa.M
open Go.RowKit Go.Proofs.YtmadjhmecfbcmaaW.PrintWords Go.Proofs.YtmadjhmecfbcmaaW.PrintLast Go.Proofs.YtmadjhmecfbcmaaW.PrintMore Go.Proofs.Ytmadjhmecfbcmaa.F
def cmpI (a b : Nat) : Int × Bool := if cls a = 4 ∨ cls b = 4 then (0, false) else (if ord a < ord b then -1 else if ord b < ord a then 1 else 0, true)
theorem pkey_ok (a : Nat) (h : U a) : pattern_key.f (a : Int) = some (ord a) := by
  have hk := key_lt a
  unfold pattern_key.f
  rw [andNot_sign a h]
  have e0 : ((a % 9223372036854775808 : Nat) : Int) = (key a : Int) := rfl
  rw [e0, w64 (n := (key a : Int)) (by omega) (by omega), w64 (by omega) (by omega)]
  have es : ((a : Int) / 9223372036854775808 = 1) ↔ sgn a = true := by rw [← sgn_cast, beq_iff_eq]
  unfold ord
  by_cases c : sgn a = true
  · rw [if_pos (es.2 c), if_pos c]
  · rw [if_neg (fun h2 => c (es.1 h2)), if_neg c]
theorem Cmp_ev (a b : Nat) (ha : U a) (hb : U b) : Ev (fun k => pattern_Cmp.f k (a : Int) (b : Int)) (cmpI a b) := by
  have J1 : Ev (fun k => pattern_Cmp.j0 k (a : Int) (b : Int) true) (0, false) := by
    refine Ev.next ?_
    simp only [pattern_Cmp.j0]
    exact Ev.congr (fun k => by rw [if_pos trivial]) (Ev.now _)
  unfold pattern_Cmp.f
  refine Ev.b _ (nan_ev a ha) ?_
  by_cases c1 : cls a = 4
  · have e : cmpI a b = (0, false) := by unfold cmpI; rw [if_pos (.inl c1)]
    rw [e]
    exact Ev.congr (fun k => by rw [decide_eq_true c1, if_pos rfl]) J1
  · refine Ev.congr (fun k => by rw [decide_eq_false c1, if_neg (by decide)]) ?_
    refine Ev.b _ (nan_ev b hb) ?_
    by_cases c2 : cls b = 4
    · have e : cmpI a b = (0, false) := by unfold cmpI; rw [if_pos (.inr c2)]
      rw [e]
      exact Ev.congr (fun k => by rw [decide_eq_true c2]) J1
    · refine Ev.congr (fun k => by rw [decide_eq_false c2]) ?_
      refine Ev.next ?_
      simp only [pattern_Cmp.j0]
      refine Ev.congr (fun k => by rw [if_neg (by decide)]) ?_
      refine Ev.b _ (Ev.const (pkey_ok a ha)) (Ev.b _ (Ev.const (pkey_ok b hb)) (Ev.const ?_))
      unfold cmpI
      rw [if_neg (show ¬ (cls a = 4 ∨ cls b = 4) by omega)]
      by_cases c3 : ord a < ord b
      · rw [if_pos c3, if_pos c3]
      · rw [if_neg c3, if_neg c3]
        by_cases c4 : ord a > ord b
        · rw [if_pos c4, if_pos c4]
        · rw [if_neg c4, if_neg c4]
end Go.Proofs.Ytmadjhmecfbcmaa.M
end
