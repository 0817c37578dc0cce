/- The walk of the law SoftSums and what it computes, part 4 of 6: no conditions. -/
import Derived.Test.YtmadjhmecfbcmaaASoftSums3
import Derived.Handy
set_option linter.unusedVariables false
set_option linter.unusedSimpArgs false
section
namespace Go.Proofs.Ytmadjhmecfbcmaa.F
open Go.RowKit Go.Proofs.YtmadjhmecfbcmaaW.PrintWords Go.Proofs.YtmadjhmecfbcmaaW.PrintLast Go.Proofs.YtmadjhmecfbcmaaW.PrintMore
attribute [local go_sem] max2_int min2_int max_two min_two max_three min_three max_four min_four
set_option linter.unusedVariables false
set_option linter.unusedSimpArgs false
def soft_Div.T15 : Bool × List (List Nat × List Nat) := (true, [([], []), ([0], [0]), ([], []), ([1, 2], [1, 2]), ([3], [3]), ([], []), ([5], [5]), ([4, 6], [4, 6]), ([7], [7]), ([8], [8]), ([8], [8]), ([], []), ([11, 9, 7, 0, 1, 2, 3, 4, 5, 6, 7, 8, 9, 11], [9, 11]), ([10, 12, 0, 1, 2, 3, 4, 5, 6, 7, 8, 9, 10, 11, 12], [10])])
def soft_Div.B15 : List Nat := [0, 1, 0, 7, 15, 0, 32, 127, 255, 511, 511, 0, 3071, 8191]
theorem soft_Div.tab15 : rtab .any (opsOf Try.f27 15) = soft_Div.T15 := by kernel_rfl
theorem soft_Div.bits15 : waitsOk soft_Div.T15.2 soft_Div.B15 = true := by kernel_rfl
set_option maxHeartbeats 8000000 in
set_option maxRecDepth 100000 in
theorem soft_Div.calls (k : Nat) (a0 : Int) (a1 : Int) (a2 : Int) (r1 : Int) (r2 : Int) (w : World) (h : soft_Div.f k a0 a1 a2 = some (r1, r2)) :
  Calls Try.prog 27 #[.int .u64 a0, .int .u64 a1, .int .u8 a2] w fun e w' => e = .returned (.tuple #[.int .u64 r1, .int .u8 r2]) ∧ Below w.heap.size w w' := by
 have hu88 := Try.underlying88
 have hu109 := Try.underlying109
 have HB := Aside0.mk (Below.refl w.heap.size w)
 have H : ((soft_of.f k a0).bind fun bt262 => ((soft_of.f k a1).bind fun bt267 => ((soft_either.f bt262.1 bt262.2.1 bt262.2.2.1 bt262.2.2.2.1 bt262.2.2.2.2 bt267.1 bt267.2.1 bt267.2.2.1 bt267.2.2.2.1 bt267.2.2.2.2 4).bind fun t274 => (if t274 = true then ((pattern_Quiet.f).bind fun t275 => (some (t275, 0))) else (if bt262.2.1 = bt267.2.1 then (if bt262.2.1 = 3 then (soft_Div.j0 k a2 (bt262.2.2.1 != bt267.2.2.1) true bt262.1 bt262.2.1 bt262.2.2.1 bt262.2.2.2.1 bt262.2.2.2.2 bt267.1 bt267.2.1 bt267.2.2.1 bt267.2.2.2.1 bt267.2.2.2.2) else (soft_Div.j0 k a2 (bt262.2.2.1 != bt267.2.2.1) (bt262.2.1 == 0) bt262.1 bt262.2.1 bt262.2.2.1 bt262.2.2.2.1 bt262.2.2.2.2 bt267.1 bt267.2.1 bt267.2.2.1 bt267.2.2.2.1 bt267.2.2.2.2)) else (soft_Div.j0 k a2 (bt262.2.2.1 != bt267.2.2.1) false bt262.1 bt262.2.1 bt262.2.2.1 bt262.2.2.2.1 bt262.2.2.2.2 bt267.1 bt267.2.1 bt267.2.2.1 bt267.2.2.2.1 bt267.2.2.2.2)))))) = some (r1, r2) := h
 clear h
 obtain ⟨⟨t262, t263, t264, t265, t266⟩, A4, H⟩ := zbs H
 try dsimp only at H
 obtain ⟨⟨t267, t268, t269, t270, t271⟩, A5, H⟩ := zbs H
 try dsimp only at H
 obtain ⟨t274, A6, H⟩ := zbs H
 try dsimp only at H
 by_cases c7 : t274 = true
 ·subst c7
  have H1 : ((pattern_Quiet.f).bind fun t275 => (some (t275, 0))) = some (r1, r2) := by rw [if_pos rfl] at H; exact H
  clear H
  have H := H1
  clear H1
  obtain ⟨t275, A8, H⟩ := zbs H
  try dsimp only at H
  simp only [Option.some.injEq, Prod.mk.injEq] at H
  obtain ⟨rfl, rfl⟩ := H
  go_enter Try.func27, Try.ntmps27
  go_wp2_with (first | ((with_reducible refine gate_callee (f := 82) rfl ?_); refine zgL 15 Try.func82 (soft_of.calls k a0 t262 t263 t264 t265 t266 _ A4.out) (h := ?_); rintro w9 hb; replace HB := Aside0.mk (below_step zaB hb); (try clear hb)) | ((with_reducible refine gate_callee (f := 82) rfl ?_); refine zgL 17 Try.func82 (soft_of.calls k a1 t267 t268 t269 t270 t271 _ A5.out) (h := ?_); rintro w10 hb; replace HB := Aside0.mk (below_step zaB hb); (try clear hb)) | ((with_reducible refine gate_dst (N := 8) rfl ?_); refine zbx 8 #[.int .u64 0, .int .u8 0, .bool false, .int .u64 0, .int .i64 0] 88 (h := ?_); intro gb272 hg w11 hbox hb; have GW272 := zkZ hg (zaB (p := Below w.heap.size w _)); have GE272 := GW272; replace HB := Aside0.mk (below_step zaB hb); have BK272 := Aside0.mk (hbox); clear hb hbox hg) | ((with_reducible refine gate_dst (N := 9) rfl ?_); refine zbx 9 #[.int .u64 0, .int .u8 0, .bool false, .int .u64 0, .int .i64 0] 88 (h := ?_); intro gb273 hg w12 hbox hb; have GW273 := zkz HB hg; have GE273 := GW273; have NB272_273 := zkl BK272 hg; have NB273_272 := zkr BK272 hg; replace BK272 := zkb BK272 hb; replace HB := zkB HB hb; have BK273 := Aside0.mk (hbox); clear hb hbox hg; have hnb13 := NB272_273.out; have hnc13 := NB273_272.out; have hcz14_0 := zc0 BK272; have hcz14_1 := zc1 BK272; have hcz14_2 := zc2 BK272; have hcz14_3 := zc3 BK272; have hcz14_4 := zc4 BK272; have hfz14_0 := blk_frozen BK272.out 0; have hfz14_1 := blk_frozen BK272.out 1; have hfz14_2 := blk_frozen BK272.out 2; have hfz14_3 := blk_frozen BK272.out 3; have hfz14_4 := blk_frozen BK272.out 4; have hcz15_0 := zc0 BK273; have hcz15_1 := zc1 BK273; have hcz15_2 := zc2 BK273; have hcz15_3 := zc3 BK273; have hcz15_4 := zc4 BK273; have hfz15_0 := blk_frozen BK273.out 0; have hfz15_1 := blk_frozen BK273.out 1; have hfz15_2 := blk_frozen BK273.out 2; have hfz15_3 := blk_frozen BK273.out 3; have hfz15_4 := blk_frozen BK273.out 4) | ((with_reducible refine gate_callee (f := 83) rfl ?_); refine zgL 26 Try.func83 (soft_either.calls t262 t263 t264 t265 t266 t267 t268 t269 t270 t271 4 true _ A6.out) (h := ?_); rintro w16 hb; replace BK272 := Aside0.mk (blk_below (o := .cells #[.int .u64 t262, .int .u8 t263, .bool t264, .int .u64 t265, .int .i64 t266] 88 (0, 0)) (zkf (zkf (zkf (zkf (zkf (blk_put (cs := #[.int .u64 t262, .int .u8 t263, .bool t264, .int .u64 t265, .int .i64 0]) (blk_put (cs := #[.int .u64 t262, .int .u8 t263, .bool t264, .int .u64 0, .int .i64 0]) (blk_put (cs := #[.int .u64 t262, .int .u8 t263, .bool false, .int .u64 0, .int .i64 0]) (blk_put (cs := #[.int .u64 t262, .int .u8 0, .bool false, .int .u64 0, .int .i64 0]) (blk_put BK272.out 0 _ rfl) 1 _ rfl) 2 _ rfl) 3 _ rfl) 4 _ rfl) NB272_273.out _) NB272_273.out _) NB272_273.out _) NB272_273.out _) NB272_273.out _) hb); replace BK273 := Aside0.mk (blk_below (o := .cells #[.int .u64 t267, .int .u8 t268, .bool t269, .int .u64 t270, .int .i64 t271] 88 (0, 0)) (blk_put (cs := #[.int .u64 t267, .int .u8 t268, .bool t269, .int .u64 t270, .int .i64 0]) (blk_put (cs := #[.int .u64 t267, .int .u8 t268, .bool t269, .int .u64 0, .int .i64 0]) (blk_put (cs := #[.int .u64 t267, .int .u8 t268, .bool false, .int .u64 0, .int .i64 0]) (blk_put (cs := #[.int .u64 t267, .int .u8 0, .bool false, .int .u64 0, .int .i64 0]) (blk_put (zkf (zkf (zkf (zkf (zkf BK273.out NB273_272.out _) NB273_272.out _) NB273_272.out _) NB273_272.out _) NB273_272.out _) 0 _ rfl) 1 _ rfl) 2 _ rfl) 3 _ rfl) 4 _ rfl) hb); replace HB := Aside0.mk (below_step (below_set (below_set (below_set (below_set (below_set (below_set (below_set (below_set (below_set (below_set HB.out GE272.out) GE272.out) GE272.out) GE272.out) GE272.out) GE273.out) GE273.out) GE273.out) GE273.out) GE273.out) hb); (try clear hb)) | ((with_reducible refine gate_callee (f := 81) rfl ?_); refine zgL 27 Try.func81 (pattern_Quiet.calls  t275 _ A8.out) (h := ?_); rintro w' ⟨nd, rfl⟩))
  go_ret2
  exact ⟨zaE, zaB⟩
 ·replace c7 := Bool.eq_false_iff.mpr c7
  subst c7
  have H1 : (if t263 = t268 then (if t263 = 3 then (soft_Div.j0 k a2 (t264 != t269) true t262 t263 t264 t265 t266 t267 t268 t269 t270 t271) else (soft_Div.j0 k a2 (t264 != t269) (t263 == 0) t262 t263 t264 t265 t266 t267 t268 t269 t270 t271)) else (soft_Div.j0 k a2 (t264 != t269) false t262 t263 t264 t265 t266 t267 t268 t269 t270 t271)) = some (r1, r2) := by rw [if_neg (show ¬ (false = true) by decide)] at H; exact H
  clear H
  have H := H1
  clear H1
  have HC17 := Aside0.mk H
  clear H
  go_enter Try.func27, Try.ntmps27
  go_upto_region 5 with (first | ((with_reducible refine gate_callee (f := 82) rfl ?_); refine zgL 15 Try.func82 (soft_of.calls k a0 t262 t263 t264 t265 t266 _ A4.out) (h := ?_); rintro w18 hb; replace HB := Aside0.mk (below_step zaB hb); (try clear hb)) | ((with_reducible refine gate_callee (f := 82) rfl ?_); refine zgL 17 Try.func82 (soft_of.calls k a1 t267 t268 t269 t270 t271 _ A5.out) (h := ?_); rintro w19 hb; replace HB := Aside0.mk (below_step zaB hb); (try clear hb)) | ((with_reducible refine gate_dst (N := 8) rfl ?_); refine zbx 8 #[.int .u64 0, .int .u8 0, .bool false, .int .u64 0, .int .i64 0] 88 (h := ?_); intro gb272 hg w20 hbox hb; have GW272 := zkZ hg (zaB (p := Below w.heap.size w _)); have GE272 := GW272; replace HB := Aside0.mk (below_step zaB hb); have BK272 := Aside0.mk (hbox); clear hb hbox hg) | ((with_reducible refine gate_dst (N := 9) rfl ?_); refine zbx 9 #[.int .u64 0, .int .u8 0, .bool false, .int .u64 0, .int .i64 0] 88 (h := ?_); intro gb273 hg w21 hbox hb; have GW273 := zkz HB hg; have GE273 := GW273; have NB272_273 := zkl BK272 hg; have NB273_272 := zkr BK272 hg; replace BK272 := zkb BK272 hb; replace HB := zkB HB hb; have BK273 := Aside0.mk (hbox); clear hb hbox hg; have hnb22 := NB272_273.out; have hnc22 := NB273_272.out; have hcz23_0 := zc0 BK272; have hcz23_1 := zc1 BK272; have hcz23_2 := zc2 BK272; have hcz23_3 := zc3 BK272; have hcz23_4 := zc4 BK272; have hfz23_0 := blk_frozen BK272.out 0; have hfz23_1 := blk_frozen BK272.out 1; have hfz23_2 := blk_frozen BK272.out 2; have hfz23_3 := blk_frozen BK272.out 3; have hfz23_4 := blk_frozen BK272.out 4; have hcz24_0 := zc0 BK273; have hcz24_1 := zc1 BK273; have hcz24_2 := zc2 BK273; have hcz24_3 := zc3 BK273; have hcz24_4 := zc4 BK273; have hfz24_0 := blk_frozen BK273.out 0; have hfz24_1 := blk_frozen BK273.out 1; have hfz24_2 := blk_frozen BK273.out 2; have hfz24_3 := blk_frozen BK273.out 3; have hfz24_4 := blk_frozen BK273.out 4) | ((with_reducible refine gate_callee (f := 83) rfl ?_); refine zgL 26 Try.func83 (soft_either.calls t262 t263 t264 t265 t266 t267 t268 t269 t270 t271 4 false _ A6.out) (h := ?_); rintro w25 hb; replace BK272 := Aside0.mk (blk_below (o := .cells #[.int .u64 t262, .int .u8 t263, .bool t264, .int .u64 t265, .int .i64 t266] 88 (0, 0)) (zkf (zkf (zkf (zkf (zkf (blk_put (cs := #[.int .u64 t262, .int .u8 t263, .bool t264, .int .u64 t265, .int .i64 0]) (blk_put (cs := #[.int .u64 t262, .int .u8 t263, .bool t264, .int .u64 0, .int .i64 0]) (blk_put (cs := #[.int .u64 t262, .int .u8 t263, .bool false, .int .u64 0, .int .i64 0]) (blk_put (cs := #[.int .u64 t262, .int .u8 0, .bool false, .int .u64 0, .int .i64 0]) (blk_put BK272.out 0 _ rfl) 1 _ rfl) 2 _ rfl) 3 _ rfl) 4 _ rfl) NB272_273.out _) NB272_273.out _) NB272_273.out _) NB272_273.out _) NB272_273.out _) hb); replace BK273 := Aside0.mk (blk_below (o := .cells #[.int .u64 t267, .int .u8 t268, .bool t269, .int .u64 t270, .int .i64 t271] 88 (0, 0)) (blk_put (cs := #[.int .u64 t267, .int .u8 t268, .bool t269, .int .u64 t270, .int .i64 0]) (blk_put (cs := #[.int .u64 t267, .int .u8 t268, .bool t269, .int .u64 0, .int .i64 0]) (blk_put (cs := #[.int .u64 t267, .int .u8 t268, .bool false, .int .u64 0, .int .i64 0]) (blk_put (cs := #[.int .u64 t267, .int .u8 0, .bool false, .int .u64 0, .int .i64 0]) (blk_put (zkf (zkf (zkf (zkf (zkf BK273.out NB273_272.out _) NB273_272.out _) NB273_272.out _) NB273_272.out _) NB273_272.out _) 0 _ rfl) 1 _ rfl) 2 _ rfl) 3 _ rfl) 4 _ rfl) hb); replace HB := Aside0.mk (below_step (below_set (below_set (below_set (below_set (below_set (below_set (below_set (below_set (below_set (below_set HB.out GE272.out) GE272.out) GE272.out) GE272.out) GE272.out) GE273.out) GE273.out) GE273.out) GE273.out) GE273.out) hb); (try clear hb)))
  (try simp only [Act.put, List.setIfInBounds_toArray, List.set_cons_zero, List.set_cons_succ])
  go_cut [28] (fun v28 wc => ∃ (kq : Nat) (x28_16 : Bool), v28 = .bool x28_16 ∧ Aside0 (soft_Div.j0 kq a2 (t264 != t269) x28_16 t262 t263 t264 t265 t266 t267 t268 t269 t270 t271 = some (r1, r2)) ∧ Aside0 (kq ≤ k) ∧ Aside0 (wc.heap[gb272]? = some (.cells #[.int .u64 t262, .int .u8 t263, .bool t264, .int .u64 t265, .int .i64 t266] 88 (0, 0))) ∧ Aside0 (wc.heap[gb273]? = some (.cells #[.int .u64 t267, .int .u8 t268, .bool t269, .int .u64 t270, .int .i64 t271] 88 (0, 0))) ∧ Aside0 (Below w.heap.size w wc))
  case first =>
   have H := HC17.out
   clear HC17
   by_cases c26 : t263 = t268
   ·rw [if_pos c26] at H
    have c26b0 : (t263 == t268) = true := beq_iff_eq.mpr c26
    have c26b1 : (t263 != t268) = false := bne_eq_false_iff_eq.mpr c26
    clear c26
    (first | rw [c26b0] | (simp only [i64_w, i32_w]; rw [c26b0]) | skip)
    by_cases c27 : t263 = 3
    ·rw [if_pos c27] at H
     have c27b0 : (t263 == 3) = true := beq_iff_eq.mpr c27
     have c27b1 : (t263 != 3) = false := bne_eq_false_iff_eq.mpr c27
     clear c27
     have H' := Aside0.mk H
     clear H
     have hnb28 := NB272_273.out
     have hnc28 := NB273_272.out
     have hcz29_0 := zc0 BK272
     have hcz29_1 := zc1 BK272
     have hcz29_2 := zc2 BK272
     have hcz29_3 := zc3 BK272
     have hcz29_4 := zc4 BK272
     have hfz29_0 := blk_frozen BK272.out 0
     have hfz29_1 := blk_frozen BK272.out 1
     have hfz29_2 := blk_frozen BK272.out 2
     have hfz29_3 := blk_frozen BK272.out 3
     have hfz29_4 := blk_frozen BK272.out 4
     have hcz30_0 := zc0 BK273
     have hcz30_1 := zc1 BK273
     have hcz30_2 := zc2 BK273
     have hcz30_3 := zc3 BK273
     have hcz30_4 := zc4 BK273
     have hfz30_0 := blk_frozen BK273.out 0
     have hfz30_1 := blk_frozen BK273.out 1
     have hfz30_2 := blk_frozen BK273.out 2
     have hfz30_3 := blk_frozen BK273.out 3
     have hfz30_4 := blk_frozen BK273.out 4
     go_wp2
     go_meet
     case rel => exact ⟨_, (true), (by first | rfl | (simp; done) | (simp [*]; done)), H', ⟨by first | omega | exact Nat.le_refl _⟩, ⟨(zkq BK272)⟩, ⟨(zkq BK273)⟩, ⟨zaB⟩⟩
    ·rw [if_neg c27] at H
     have c27b0 : (t263 == 3) = false := beq_eq_false_iff_ne.mpr c27
     have c27b1 : (t263 != 3) = true := bne_iff_ne.mpr c27
     have H' := Aside0.mk H
     clear H
     have hnb31 := NB272_273.out
     have hnc31 := NB273_272.out
     have hcz32_0 := zc0 BK272
     have hcz32_1 := zc1 BK272
     have hcz32_2 := zc2 BK272
     have hcz32_3 := zc3 BK272
     have hcz32_4 := zc4 BK272
     have hfz32_0 := blk_frozen BK272.out 0
     have hfz32_1 := blk_frozen BK272.out 1
     have hfz32_2 := blk_frozen BK272.out 2
     have hfz32_3 := blk_frozen BK272.out 3
     have hfz32_4 := blk_frozen BK272.out 4
     have hcz33_0 := zc0 BK273
     have hcz33_1 := zc1 BK273
     have hcz33_2 := zc2 BK273
     have hcz33_3 := zc3 BK273
     have hcz33_4 := zc4 BK273
     have hfz33_0 := blk_frozen BK273.out 0
     have hfz33_1 := blk_frozen BK273.out 1
     have hfz33_2 := blk_frozen BK273.out 2
     have hfz33_3 := blk_frozen BK273.out 3
     have hfz33_4 := blk_frozen BK273.out 4
     go_wp2
     go_meet
     case rel => exact ⟨_, ((t263 == 0)), (by first | rfl | (simp; done) | (simp [*]; done)), H', ⟨by first | omega | exact Nat.le_refl _⟩, ⟨(zkq BK272)⟩, ⟨(zkq BK273)⟩, ⟨zaB⟩⟩
   ·rw [if_neg c26] at H
    have c26b0 : (t263 == t268) = false := beq_eq_false_iff_ne.mpr c26
    have c26b1 : (t263 != t268) = true := bne_iff_ne.mpr c26
    (first | rw [c26b0] | (simp only [i64_w, i32_w]; rw [c26b0]) | skip)
    have H' := Aside0.mk H
    clear H
    have hnb34 := NB272_273.out
    have hnc34 := NB273_272.out
    have hcz35_0 := zc0 BK272
    have hcz35_1 := zc1 BK272
    have hcz35_2 := zc2 BK272
    have hcz35_3 := zc3 BK272
    have hcz35_4 := zc4 BK272
    have hfz35_0 := blk_frozen BK272.out 0
    have hfz35_1 := blk_frozen BK272.out 1
    have hfz35_2 := blk_frozen BK272.out 2
    have hfz35_3 := blk_frozen BK272.out 3
    have hfz35_4 := blk_frozen BK272.out 4
    have hcz36_0 := zc0 BK273
    have hcz36_1 := zc1 BK273
    have hcz36_2 := zc2 BK273
    have hcz36_3 := zc3 BK273
    have hcz36_4 := zc4 BK273
    have hfz36_0 := blk_frozen BK273.out 0
    have hfz36_1 := blk_frozen BK273.out 1
    have hfz36_2 := blk_frozen BK273.out 2
    have hfz36_3 := blk_frozen BK273.out 3
    have hfz36_4 := blk_frozen BK273.out 4
    go_wp2
    go_meet
    case rel => exact ⟨_, (false), (by first | rfl | (simp; done) | (simp [*]; done)), H', ⟨by first | omega | exact Nat.le_refl _⟩, ⟨(zkq BK272)⟩, ⟨(zkq BK273)⟩, ⟨zaB⟩⟩
  case rest =>
   clear HC17
   try clear c1
   try clear c2
   try clear p2
   try clear c3
   try clear c7
   try clear c8
   try clear c13
   try clear c22
   try clear c26
   try clear c26b0
   try clear c26b1
   try clear c27
   try clear c27b0
   try clear c27b1
   try clear c28
   try clear c31
   try clear c34
   try clear hcz14_0
   try clear hcz14_1
   try clear hcz14_2
   try clear hcz14_3
   try clear hcz14_4
   try clear hcz15_0
   try clear hcz15_1
   try clear hcz15_2
   try clear hcz15_3
   try clear hcz15_4
   try clear hcz23_0
   try clear hcz23_1
   try clear hcz23_2
   try clear hcz23_3
   try clear hcz23_4
   try clear hcz24_0
   try clear hcz24_1
   try clear hcz24_2
   try clear hcz24_3
   try clear hcz24_4
   try clear hcz29_0
   try clear hcz29_1
   try clear hcz29_2
   try clear hcz29_3
   try clear hcz29_4
   try clear hcz30_0
   try clear hcz30_1
   try clear hcz30_2
   try clear hcz30_3
   try clear hcz30_4
   try clear hcz32_0
   try clear hcz32_1
   try clear hcz32_2
   try clear hcz32_3
   try clear hcz32_4
   try clear hcz33_0
   try clear hcz33_1
   try clear hcz33_2
   try clear hcz33_3
   try clear hcz33_4
   try clear hcz35_0
   try clear hcz35_1
   try clear hcz35_2
   try clear hcz35_3
   try clear hcz35_4
   try clear hcz36_0
   try clear hcz36_1
   try clear hcz36_2
   try clear hcz36_3
   try clear hcz36_4
   try clear hfz14_0
   try clear hfz14_1
   try clear hfz14_2
   try clear hfz14_3
   try clear hfz14_4
   try clear hfz15_0
   try clear hfz15_1
   try clear hfz15_2
   try clear hfz15_3
   try clear hfz15_4
   try clear hfz23_0
   try clear hfz23_1
   try clear hfz23_2
   try clear hfz23_3
   try clear hfz23_4
   try clear hfz24_0
   try clear hfz24_1
   try clear hfz24_2
   try clear hfz24_3
   try clear hfz24_4
   try clear hfz29_0
   try clear hfz29_1
   try clear hfz29_2
   try clear hfz29_3
   try clear hfz29_4
   try clear hfz30_0
   try clear hfz30_1
   try clear hfz30_2
   try clear hfz30_3
   try clear hfz30_4
   try clear hfz32_0
   try clear hfz32_1
   try clear hfz32_2
   try clear hfz32_3
   try clear hfz32_4
   try clear hfz33_0
   try clear hfz33_1
   try clear hfz33_2
   try clear hfz33_3
   try clear hfz33_4
   try clear hfz35_0
   try clear hfz35_1
   try clear hfz35_2
   try clear hfz35_3
   try clear hfz35_4
   try clear hfz36_0
   try clear hfz36_1
   try clear hfz36_2
   try clear hfz36_3
   try clear hfz36_4
   obtain ⟨kq, x28_16, rfl, HA, HJ16, BK272, BK273, HB⟩ := hcut
   cases kq with
   | zero => exact absurd HA.out (by simp [soft_Div.j0])
   | succ kj16 =>
    have H := HA.out
    clear HA
    simp only [soft_Div.j0] at H
    by_cases c37 : x28_16 = true
    ·subst c37
     have H1 : ((soft_invalid.f).bind fun bt276 => (some (bt276.1, bt276.2))) = some (r1, r2) := by rw [if_pos rfl] at H; exact H
     clear H
     have H := H1
     clear H1
     obtain ⟨⟨t276, t277⟩, A38, H⟩ := zbs H
     try dsimp only at H
     simp only [Option.some.injEq, Prod.mk.injEq] at H
     obtain ⟨rfl, rfl⟩ := H
     go_wp2_with (first | ((with_reducible refine gate_callee (f := 84) rfl ?_); refine zgL 44 Try.func84 (soft_invalid.calls  t276 t277 _ A38.out) (h := ?_); rintro w' ⟨nd, rfl⟩))
     go_ret2
     exact ⟨zaE, zaB⟩
    ·replace c37 := Bool.eq_false_iff.mpr c37
     subst c37
     have H1 : (if t263 = 3 then ((pattern_Inf.f kj16 (t264 != t269)).bind fun t278 => (some (t278, 0))) else (if t268 = 0 then ((pattern_Inf.f kj16 (t264 != t269)).bind fun t279 => (some (t279, 8))) else (if t263 = 0 then (soft_Div.j1 kj16 a2 (t264 != t269) (t263 == 0) t262 t263 t264 t265 t266 t267 t268 t269 t270 t271) else (soft_Div.j1 kj16 a2 (t264 != t269) (t268 == 3) t262 t263 t264 t265 t266 t267 t268 t269 t270 t271)))) = some (r1, r2) := by rw [if_neg (show ¬ (false = true) by decide)] at H; exact H
     clear H
     have H := H1
     clear H1
     by_cases c39 : t263 = 3
     ·rw [if_pos c39] at H
      have c39b0 : (t263 == 3) = true := beq_iff_eq.mpr c39
      have c39b1 : (t263 != 3) = false := bne_eq_false_iff_eq.mpr c39
      clear c39
      obtain ⟨t278, A40, H⟩ := zbs H
      try dsimp only at H
      simp only [Option.some.injEq, Prod.mk.injEq] at H
      obtain ⟨rfl, rfl⟩ := H
      have hnb41 := NB272_273.out
      have hnc41 := NB273_272.out
      have hcz42_0 := zc0 BK272
      have hcz42_1 := zc1 BK272
      have hcz42_2 := zc2 BK272
      have hcz42_3 := zc3 BK272
      have hcz42_4 := zc4 BK272
      have hfz42_0 := blk_frozen BK272.out 0
      have hfz42_1 := blk_frozen BK272.out 1
      have hfz42_2 := blk_frozen BK272.out 2
      have hfz42_3 := blk_frozen BK272.out 3
      have hfz42_4 := blk_frozen BK272.out 4
      go_wp2_with (first | ((with_reducible refine gate_callee (f := 79) rfl ?_); refine zgL 52 Try.func79 (pattern_Inf.calls kj16 (t264 != t269) t278 _ A40.out) (h := ?_); rintro w' ⟨nd, rfl⟩))
      go_ret2
      exact ⟨zaE, zaB⟩
     ·rw [if_neg c39] at H
      have c39b0 : (t263 == 3) = false := beq_eq_false_iff_ne.mpr c39
      have c39b1 : (t263 != 3) = true := bne_iff_ne.mpr c39
      by_cases c43 : t268 = 0
      ·rw [if_pos c43] at H
       have c43b0 : (t268 == 0) = true := beq_iff_eq.mpr c43
       have c43b1 : (t268 != 0) = false := bne_eq_false_iff_eq.mpr c43
       clear c43
       obtain ⟨t279, A44, H⟩ := zbs H
       try dsimp only at H
       simp only [Option.some.injEq, Prod.mk.injEq] at H
       obtain ⟨rfl, rfl⟩ := H
       have hnb45 := NB272_273.out
       have hnc45 := NB273_272.out
       have hcz46_0 := zc0 BK272
       have hcz46_1 := zc1 BK272
       have hcz46_2 := zc2 BK272
       have hcz46_3 := zc3 BK272
       have hcz46_4 := zc4 BK272
       have hfz46_0 := blk_frozen BK272.out 0
       have hfz46_1 := blk_frozen BK272.out 1
       have hfz46_2 := blk_frozen BK272.out 2
       have hfz46_3 := blk_frozen BK272.out 3
       have hfz46_4 := blk_frozen BK272.out 4
       have hcz47_0 := zc0 BK273
       have hcz47_1 := zc1 BK273
       have hcz47_2 := zc2 BK273
       have hcz47_3 := zc3 BK273
       have hcz47_4 := zc4 BK273
       have hfz47_0 := blk_frozen BK273.out 0
       have hfz47_1 := blk_frozen BK273.out 1
       have hfz47_2 := blk_frozen BK273.out 2
       have hfz47_3 := blk_frozen BK273.out 3
       have hfz47_4 := blk_frozen BK273.out 4
       go_wp2_with (first | ((with_reducible refine gate_callee (f := 79) rfl ?_); refine zgL 58 Try.func79 (pattern_Inf.calls kj16 (t264 != t269) t279 _ A44.out) (h := ?_); rintro w' ⟨nd, rfl⟩))
       go_ret2
       exact ⟨zaE, zaB⟩
      ·rw [if_neg c43] at H
       have c43b0 : (t268 == 0) = false := beq_eq_false_iff_ne.mpr c43
       have c43b1 : (t268 != 0) = true := bne_iff_ne.mpr c43
       have HC48 := Aside0.mk H
       clear H
       have hnb49 := NB272_273.out
       have hnc49 := NB273_272.out
       have hcz50_0 := zc0 BK272
       have hcz50_1 := zc1 BK272
       have hcz50_2 := zc2 BK272
       have hcz50_3 := zc3 BK272
       have hcz50_4 := zc4 BK272
       have hfz50_0 := blk_frozen BK272.out 0
       have hfz50_1 := blk_frozen BK272.out 1
       have hfz50_2 := blk_frozen BK272.out 2
       have hfz50_3 := blk_frozen BK272.out 3
       have hfz50_4 := blk_frozen BK272.out 4
       have hcz51_0 := zc0 BK273
       have hcz51_1 := zc1 BK273
       have hcz51_2 := zc2 BK273
       have hcz51_3 := zc3 BK273
       have hcz51_4 := zc4 BK273
       have hfz51_0 := blk_frozen BK273.out 0
       have hfz51_1 := blk_frozen BK273.out 1
       have hfz51_2 := blk_frozen BK273.out 2
       have hfz51_3 := blk_frozen BK273.out 3
       have hfz51_4 := blk_frozen BK273.out 4
       go_upto_if 59 with (fail)
       go_cut [59] (fun v59 wc => ∃ (kq : Nat) (x59_47 : Bool), v59 = .bool x59_47 ∧ Aside0 (soft_Div.j1 kq a2 (t264 != t269) x59_47 t262 t263 t264 t265 t266 t267 t268 t269 t270 t271 = some (r1, r2)) ∧ Aside0 (kq ≤ kj16) ∧ Aside0 (wc.heap[gb272]? = some (.cells #[.int .u64 t262, .int .u8 t263, .bool t264, .int .u64 t265, .int .i64 t266] 88 (0, 0))) ∧ Aside0 (wc.heap[gb273]? = some (.cells #[.int .u64 t267, .int .u8 t268, .bool t269, .int .u64 t270, .int .i64 t271] 88 (0, 0))) ∧ Aside0 (Below w.heap.size w wc))
       case first =>
        have H := HC48.out
        clear HC48
        by_cases c52 : t263 = 0
        ·rw [if_pos c52] at H
         have c52b0 : (t263 == 0) = true := beq_iff_eq.mpr c52
         have c52b1 : (t263 != 0) = false := bne_eq_false_iff_eq.mpr c52
         clear c52
         (first | rw [c52b0] | (simp only [i64_w, i32_w]; rw [c52b0]) | skip)
         have H' := Aside0.mk H
         clear H
         go_wp2
         go_meet
         case rel => exact ⟨_, ((t263 == 0)), (by first | rfl | (simp; done) | (simp [*]; done)), H', ⟨by have := HJ16.out; first | omega | exact Nat.le_refl _⟩, ⟨(zkq BK272)⟩, ⟨(zkq BK273)⟩, ⟨zaB⟩⟩
        ·rw [if_neg c52] at H
         have c52b0 : (t263 == 0) = false := beq_eq_false_iff_ne.mpr c52
         have c52b1 : (t263 != 0) = true := bne_iff_ne.mpr c52
         (first | rw [c52b0] | (simp only [i64_w, i32_w]; rw [c52b0]) | skip)
         have H' := Aside0.mk H
         clear H
         have hnb53 := NB273_272.out
         have hnc53 := NB272_273.out
         have hcz54_0 := zc0 BK273
         have hcz54_1 := zc1 BK273
         have hcz54_2 := zc2 BK273
         have hcz54_3 := zc3 BK273
         have hcz54_4 := zc4 BK273
         have hfz54_0 := blk_frozen BK273.out 0
         have hfz54_1 := blk_frozen BK273.out 1
         have hfz54_2 := blk_frozen BK273.out 2
         have hfz54_3 := blk_frozen BK273.out 3
         have hfz54_4 := blk_frozen BK273.out 4
         go_wp2
         go_meet
         case rel => exact ⟨_, ((t268 == 3)), (by first | rfl | (simp; done) | (simp [*]; done)), H', ⟨by have := HJ16.out; first | omega | exact Nat.le_refl _⟩, ⟨(zkq BK272)⟩, ⟨(zkq BK273)⟩, ⟨zaB⟩⟩
       case rest =>
        clear HC48
        try clear c1
        try clear c2
        try clear p2
        try clear c3
        try clear c4
        try clear c5
        try clear c7
        try clear c8
        try clear c13
        try clear c22
        try clear c26
        try clear c26b0
        try clear c26b1
        try clear c27
        try clear c27b0
        try clear c27b1
        try clear c28
        try clear c31
        try clear c34
        try clear c37
        try clear c39
        try clear c39b0
        try clear c39b1
        try clear c41
        try clear c43
        try clear c43b0
        try clear c43b1
        try clear c45
        try clear c49
        try clear c52
        try clear c52b0
        try clear c52b1
        try clear c53
        try clear hcz14_0
        try clear hcz14_1
        try clear hcz14_2
        try clear hcz14_3
        try clear hcz14_4
        try clear hcz15_0
        try clear hcz15_1
        try clear hcz15_2
        try clear hcz15_3
        try clear hcz15_4
        try clear hcz23_0
        try clear hcz23_1
        try clear hcz23_2
        try clear hcz23_3
        try clear hcz23_4
        try clear hcz24_0
        try clear hcz24_1
        try clear hcz24_2
        try clear hcz24_3
        try clear hcz24_4
        try clear hcz29_0
        try clear hcz29_1
        try clear hcz29_2
        try clear hcz29_3
        try clear hcz29_4
        try clear hcz30_0
        try clear hcz30_1
        try clear hcz30_2
        try clear hcz30_3
        try clear hcz30_4
        try clear hcz32_0
        try clear hcz32_1
        try clear hcz32_2
        try clear hcz32_3
        try clear hcz32_4
        try clear hcz33_0
        try clear hcz33_1
        try clear hcz33_2
        try clear hcz33_3
        try clear hcz33_4
        try clear hcz35_0
        try clear hcz35_1
        try clear hcz35_2
        try clear hcz35_3
        try clear hcz35_4
        try clear hcz36_0
        try clear hcz36_1
        try clear hcz36_2
        try clear hcz36_3
        try clear hcz36_4
        try clear hcz42_0
        try clear hcz42_1
        try clear hcz42_2
        try clear hcz42_3
        try clear hcz42_4
        try clear hcz46_0
        try clear hcz46_1
        try clear hcz46_2
        try clear hcz46_3
        try clear hcz46_4
        try clear hcz47_0
        try clear hcz47_1
        try clear hcz47_2
        try clear hcz47_3
        try clear hcz47_4
        try clear hcz50_0
        try clear hcz50_1
        try clear hcz50_2
        try clear hcz50_3
        try clear hcz50_4
        try clear hcz51_0
        try clear hcz51_1
        try clear hcz51_2
        try clear hcz51_3
        try clear hcz51_4
        try clear hcz54_0
        try clear hcz54_1
        try clear hcz54_2
        try clear hcz54_3
        try clear hcz54_4
        try clear hfz14_0
        try clear hfz14_1
        try clear hfz14_2
        try clear hfz14_3
        try clear hfz14_4
        try clear hfz15_0
        try clear hfz15_1
        try clear hfz15_2
        try clear hfz15_3
        try clear hfz15_4
        try clear hfz23_0
        try clear hfz23_1
        try clear hfz23_2
        try clear hfz23_3
        try clear hfz23_4
        try clear hfz24_0
        try clear hfz24_1
        try clear hfz24_2
        try clear hfz24_3
        try clear hfz24_4
        try clear hfz29_0
        try clear hfz29_1
        try clear hfz29_2
        try clear hfz29_3
        try clear hfz29_4
        try clear hfz30_0
        try clear hfz30_1
        try clear hfz30_2
        try clear hfz30_3
        try clear hfz30_4
        try clear hfz32_0
        try clear hfz32_1
        try clear hfz32_2
        try clear hfz32_3
        try clear hfz32_4
        try clear hfz33_0
        try clear hfz33_1
        try clear hfz33_2
        try clear hfz33_3
        try clear hfz33_4
        try clear hfz35_0
        try clear hfz35_1
        try clear hfz35_2
        try clear hfz35_3
        try clear hfz35_4
        try clear hfz36_0
        try clear hfz36_1
        try clear hfz36_2
        try clear hfz36_3
        try clear hfz36_4
        try clear hfz42_0
        try clear hfz42_1
        try clear hfz42_2
        try clear hfz42_3
        try clear hfz42_4
        try clear hfz46_0
        try clear hfz46_1
        try clear hfz46_2
        try clear hfz46_3
        try clear hfz46_4
        try clear hfz47_0
        try clear hfz47_1
        try clear hfz47_2
        try clear hfz47_3
        try clear hfz47_4
        try clear hfz50_0
        try clear hfz50_1
        try clear hfz50_2
        try clear hfz50_3
        try clear hfz50_4
        try clear hfz51_0
        try clear hfz51_1
        try clear hfz51_2
        try clear hfz51_3
        try clear hfz51_4
        try clear hfz54_0
        try clear hfz54_1
        try clear hfz54_2
        try clear hfz54_3
        try clear hfz54_4
        try clear p2
        obtain ⟨kq, x59_47, rfl, HA, HJ47, BK272, BK273, HB⟩ := hcut
        cases kq with
        | zero => exact absurd HA.out (by simp [soft_Div.j1])
        | succ kj47 =>
         have H := HA.out
         clear HA
         simp only [soft_Div.j1] at H
         by_cases c55 : x59_47 = true
         ·subst c55
          have H1 : ((soft_zero.f kj47 (t264 != t269)).bind fun t280 => (some (t280, 0))) = some (r1, r2) := by rw [if_pos rfl] at H; exact H
          clear H
          have H := H1
          clear H1
          obtain ⟨t280, A56, H⟩ := zbs H
          try dsimp only at H
          simp only [Option.some.injEq, Prod.mk.injEq] at H
          obtain ⟨rfl, rfl⟩ := H
          go_wp2_with (first | ((with_reducible refine gate_callee (f := 85) rfl ?_); refine zgL 67 Try.func85 (soft_zero.calls kj47 (t264 != t269) t280 _ A56.out) (h := ?_); rintro w' ⟨nd, rfl⟩))
          go_ret2
          exact ⟨zaE, zaB⟩
         ·replace c55 := Bool.eq_false_iff.mpr c55
          subst c55
          have H1 : ((wide_U128_Len.f 0 t265).bind fun t281 => (if 0 ≤ (wrap64 (64 - t281)) then ((wide_U128_Div.f (shl .u64 t265 (wrap64 (64 - t281))) 0 t270).bind fun bt282 => ((round_Round.f kj47 (t264 != t269) bt282.1 bt282.2.1 (wrap64 ((wrap64 ((wrap64 (t266 - (wrap64 (64 - t281)))) - 64)) - t271)) (bt282.2.2 != 0) a2).bind fun bt286 => (some (bt286.1, bt286.2)))) else (none))) = some (r1, r2) := by rw [if_neg (show ¬ (false = true) by decide)] at H; exact H
          clear H
          have H := H1
          clear H1
          obtain ⟨t281, A57, H⟩ := zbs H
          try dsimp only at H
          obtain ⟨ji58, hji58⟩ : ∃ j_ : Int, (wrap64 (64 - t281)) = j_ := ⟨_, rfl⟩
          replace H : (if 0 ≤ (ji58) then ((wide_U128_Div.f (shl .u64 t265 (ji58)) 0 t270).bind fun bt282 => ((round_Round.f kj47 (t264 != t269) bt282.1 bt282.2.1 (wrap64 ((wrap64 ((wrap64 (t266 - (ji58))) - 64)) - t271)) (bt282.2.2 != 0) a2).bind fun bt286 => (some (bt286.1, bt286.2)))) else (none)) = some (r1, r2) := by first | (rw [hji58] at H; exact H) | (simp only [hji58] at H ⊢; exact H)
          (try rw [hji58] at A57)
          have hji58w : (IntKind.i64.wrap (64 - t281)) = ji58 := (i64_w _).trans hji58
          by_cases c59 : 0 ≤ (ji58)
          ·rw [if_pos c59] at H
           have c59b0 := eq_true c59
           have c59b1 : decide (0 ≤ (ji58)) = true := decide_eq_true c59
           clear c59
           obtain ⟨ji60, hji60⟩ : ∃ j_ : Int, (shl .u64 t265 (ji58)) = j_ := ⟨_, rfl⟩
           replace H : ((wide_U128_Div.f (ji60) 0 t270).bind fun bt282 => ((round_Round.f kj47 (t264 != t269) bt282.1 bt282.2.1 (wrap64 ((wrap64 ((wrap64 (t266 - (ji58))) - 64)) - t271)) (bt282.2.2 != 0) a2).bind fun bt286 => (some (bt286.1, bt286.2)))) = some (r1, r2) := by first | (rw [hji60] at H; exact H) | (simp only [hji60] at H ⊢; exact H)
           (try rw [hji60] at A57)
           have hji60_ : (IntKind.u64.wrap (t265 * 2 ^ min (ji58).toNat 64)) = ji60 := hji60
           have hji60z : (ji58) ≤ 64 → (IntKind.u64.wrap (t265 * 2 ^ (ji58).toNat)) = ji60 := shl_small hji60
           obtain ⟨⟨t282, t283, t284⟩, A61, H⟩ := zbs H
           try dsimp only at H
           obtain ⟨⟨t286, t287⟩, A62, H⟩ := zbs H
           try dsimp only at H
           simp only [Option.some.injEq, Prod.mk.injEq] at H
           obtain ⟨rfl, rfl⟩ := H
           have hnb63 := NB272_273.out
           have hnc63 := NB273_272.out
           have hcz64_0 := zc0 BK272
           have hcz64_1 := zc1 BK272
           have hcz64_2 := zc2 BK272
           have hcz64_3 := zc3 BK272
           have hcz64_4 := zc4 BK272
           have hfz64_0 := blk_frozen BK272.out 0
           have hfz64_1 := blk_frozen BK272.out 1
           have hfz64_2 := blk_frozen BK272.out 2
           have hfz64_3 := blk_frozen BK272.out 3
           have hfz64_4 := blk_frozen BK272.out 4
           try go_wp2_with (first | ((with_reducible refine gate_callee (f := 103) rfl ?_); refine zgL 71 Try.func103 (wide_U128_Len.calls 0 t265 t281 _ A57.out) (h := ?_); rintro w65 hb; replace BK272 := zkb BK272 hb; replace BK273 := zkb BK273 hb; replace HB := zkB HB hb; (try clear hb)))
           replace BK272 := Aside0.mk (blk_drew BK272.out)
           replace BK273 := Aside0.mk (blk_drew BK273.out)
           replace HB := Aside0.mk (below_drew1 HB.out)
           refine start_ (n := 14) (S := fun w' => w'.cell? ⟨gb272, 0, none⟩ = some (.int .u64 t262) ∧ w'.cell? ⟨gb272, 1, none⟩ = some (.int .u8 t263) ∧ w'.cell? ⟨gb272, 2, none⟩ = some (.bool t264) ∧ w'.cell? ⟨gb272, 3, none⟩ = some (.int .u64 t265) ∧ w'.cell? ⟨gb272, 4, none⟩ = some (.int .i64 t266) ∧ w'.cell? ⟨gb273, 0, none⟩ = some (.int .u64 t267) ∧ w'.cell? ⟨gb273, 1, none⟩ = some (.int .u8 t268) ∧ w'.cell? ⟨gb273, 2, none⟩ = some (.bool t269) ∧ w'.cell? ⟨gb273, 3, none⟩ = some (.int .u64 t270) ∧ w'.cell? ⟨gb273, 4, none⟩ = some (.int .i64 t271)) (ds := []) #[false, false, false, false, false, false, false, false, false, false, false, false, false, false] (by kernel_rfl) rfl rfl (zk5 BK272 (ze5 BK273)) (fun hHeld => ?_); refine with_tabW soft_Div.tab15 soft_Div.bits15 (fun HT_ HW_ => ?_)
           generalize w65.drew = w66 at BK272 BK273 HB hHeld ⊢
           refine zpA 0 74 (h := ?_)
           refine zpA 2 76 (h := ?_)
           refine zpA 5 79 (h := ?_)
           refine ztA 1 75 (h := ?_)
           refine zpA 3 77 (h := ?_)
           refine zpA 4 78 (h := ?_)
           refine ztA 6 80 (h := ?_)
           refine join_ (σ := Nat) 2 #[true, true, true, true, true, true, true, true, true, true, true, true, false, false] (fun s_ => [(81, .tuple #[.agg #[.int .u64 t282, .int .u64 t283], .int .u64 t284]), (12, .pointer (some ⟨s_, 0, none⟩)), (73, .tuple #[.agg #[.int .u64 t282, .int .u64 t283], .int .u64 t284]), (82, .agg #[.int .u64 t282, .int .u64 t283]), (83, .int .u64 t284)]) (fun s_ w' => (w'.cell? ⟨gb272, 0, none⟩ = some (.int .u64 t262) ∧ w'.cell? ⟨gb272, 1, none⟩ = some (.int .u8 t263) ∧ w'.cell? ⟨gb272, 2, none⟩ = some (.bool t264) ∧ w'.cell? ⟨gb272, 3, none⟩ = some (.int .u64 t265) ∧ w'.cell? ⟨gb272, 4, none⟩ = some (.int .i64 t266) ∧ w'.cell? ⟨gb273, 0, none⟩ = some (.int .u64 t267) ∧ w'.cell? ⟨gb273, 1, none⟩ = some (.int .u8 t268) ∧ w'.cell? ⟨gb273, 2, none⟩ = some (.bool t269) ∧ w'.cell? ⟨gb273, 3, none⟩ = some (.int .u64 t270) ∧ w'.cell? ⟨gb273, 4, none⟩ = some (.int .i64 t271)) ∧ (w'.heap[gb272]? = some (.cells #[.int .u64 t262, .int .u8 t263, .bool t264, .int .u64 t265, .int .i64 t266] 88 (0, 0))) ∧ (w'.heap[gb273]? = some (.cells #[.int .u64 t267, .int .u8 t268, .bool t269, .int .u64 t270, .int .i64 t271] 88 (0, 0))) ∧ (w'.heap[s_]? = some (.cells #[.int .u64 0, .int .u64 0] 109 (0, 0))) ∧ (w.heap.size ≤ s_) ∧ (w.heap.size ≤ s_) ∧ (gb272 ≠ s_) ∧ (s_ ≠ gb272) ∧ (gb273 ≠ s_) ∧ (s_ ≠ gb273) ∧ (Below w.heap.size w w')) ?_ ?_
           rotate_left
           ·intro hCont
            refine two_ (i := 7) (j := 11) (Ni := some 81) (Nj := some 12) #[true, true, true, true, true, true, true, true, false, false, false, false, false, false] #[true, true, true, true, true, true, true, false, false, false, false, true, false, false] rfl rfl rfl rfl (two_of HT_.out (by kernel_rfl)) (by decide) (by decide) (fun K hK => ?_) (fun K hK => ?_)
            ·skip
             refine goes_ Try.func104 (by kernel_rfl) rfl #[.agg #[.int .u64 ji60, .int .u64 0], .int .u64 t270] (by rfl) rfl rfl (by (try simp only [List.map_toArray, List.map_cons, List.map_nil]); first | done | (simp only [hji60]; rfl) | rfl | (simp only [List.length_drop, List.length_take]; rfl)) ?_
             with_reducible refine (wide_U128_Div.calls ji60 0 t270 t282 t283 t284 _ A61.out).mono ?_
             rintro e w67 ⟨rfl, hb⟩
             refine ⟨_, rfl, ?_⟩
             replace BK272 := zkb BK272 hb
             replace BK273 := zkb BK273 hb
             replace HB := zkB HB hb
             (try clear hb)
             refine hK.out _ _ (zk5 BK272 (ze5 BK273)) (fun hHeld => ?_)
             clear hK K
             refine znA 81 (h := ?_)
             refine zpA 8 73 (h := ?_)
             refine zpA 9 82 (h := ?_)
             refine zpA 10 83 (h := ?_)
             refine zoA 11 12 (h := fun K hK => ?_)
             refine box_step ?hg (N := 12) ?hd (cs := #[.int .u64 0, .int .u64 0]) (t := 109) ?hr ?_; (case hd => rfl); (case hg => rfl); (case hr => first | (go_simp; done) | (go_simp; rfl))
             intro gb285 hg w68 hbox hb
             have GW285 := zkz HB hg
             have GE285 := GW285
             have NB272_285 := zkl BK272 hg
             have NB285_272 := zkr BK272 hg
             have NB273_285 := zkl BK273 hg
             have NB285_273 := zkr BK273 hg
             replace BK272 := zkb BK272 hb
             replace BK273 := zkb BK273 hb
             replace HB := zkB HB hb
             have BK285 := Aside0.mk (hbox)
             clear hb hbox hg
             refine hK.out _ _ (zk5 BK272 (ze5 BK273)) (fun hHeld => ?_)
             clear hK K
             refine znA 12 (h := ?_)
             exact norm_ (by simp only [putAll, Act.put, List.setIfInBounds_toArray, List.set_cons_zero, List.set_cons_succ]) (hCont (gb285) _ ⟨hHeld, (zkq BK272), (zkq BK273), (zkq BK285), GW285.out, GE285.out, NB272_285.out, NB285_272.out, NB273_285.out, NB285_273.out, zaB⟩)
            ·skip
             refine box_step ?hg (N := 12) ?hd (cs := #[.int .u64 0, .int .u64 0]) (t := 109) ?hr ?_; (case hd => rfl); (case hg => rfl); (case hr => first | (go_simp; done) | (go_simp; rfl))
             intro gb285 hg w67 hbox hb
             have GW285 := zkz HB hg
             have GE285 := GW285
             have NB272_285 := zkl BK272 hg
             have NB285_272 := zkr BK272 hg
             have NB273_285 := zkl BK273 hg
             have NB285_273 := zkr BK273 hg
             replace BK272 := zkb BK272 hb
             replace BK273 := zkb BK273 hb
             replace HB := zkB HB hb
             have BK285 := Aside0.mk (hbox)
             clear hb hbox hg
             refine hK.out _ _ (zk5 BK272 (ze5 BK273)) (fun hHeld => ?_)
             clear hK K
             refine znA 12 (h := ?_)
             refine zoA 7 81 (h := fun K hK => ?_)
             refine goes_ Try.func104 (by kernel_rfl) rfl #[.agg #[.int .u64 ji60, .int .u64 0], .int .u64 t270] (by rfl) rfl rfl (by (try simp only [List.map_toArray, List.map_cons, List.map_nil]); first | done | (simp only [hji60]; rfl) | rfl | (simp only [List.length_drop, List.length_take]; rfl)) ?_
             with_reducible refine (wide_U128_Div.calls ji60 0 t270 t282 t283 t284 _ A61.out).mono ?_
             rintro e w68 ⟨rfl, hb⟩
             refine ⟨_, rfl, ?_⟩
             replace BK272 := zkb BK272 hb
             replace BK273 := zkb BK273 hb
             replace BK285 := zkb BK285 hb
             replace HB := zkB HB hb
             (try clear hb)
             refine hK.out _ _ (zk5 BK272 (ze5 BK273)) (fun hHeld => ?_)
             clear hK K
             refine znA 81 (h := ?_)
             refine zpA 8 73 (h := ?_)
             refine zpA 9 82 (h := ?_)
             refine zpA 10 83 (h := ?_)
             exact norm_ (by simp only [putAll, Act.put, List.setIfInBounds_toArray, List.set_cons_zero, List.set_cons_succ]) (hCont (gb285) _ ⟨hHeld, (zkq BK272), (zkq BK273), (zkq BK285), GW285.out, GE285.out, NB272_285.out, NB285_272.out, NB273_285.out, NB285_273.out, zaB⟩)
           rintro gb285 w69 ⟨hS_, h0_, h1_, h2_, h3_, h4_, h5_, h6_, h7_, h8_, h9_⟩
           have n0_ : Aside0 (w69.heap[gb272]? = some (.cells #[.int .u64 t262, .int .u8 t263, .bool t264, .int .u64 t265, .int .i64 t266] 88 (0, 0))) := ⟨h0_⟩
           have n1_ : Aside0 (w69.heap[gb273]? = some (.cells #[.int .u64 t267, .int .u8 t268, .bool t269, .int .u64 t270, .int .i64 t271] 88 (0, 0))) := ⟨h1_⟩
           have n2_ : Aside0 (w69.heap[gb285]? = some (.cells #[.int .u64 0, .int .u64 0] 109 (0, 0))) := ⟨h2_⟩
           have n3_ : Aside0 (w.heap.size ≤ gb285) := ⟨h3_⟩
           have n4_ : Aside0 (w.heap.size ≤ gb285) := ⟨h4_⟩
           have n5_ : Aside0 (gb272 ≠ gb285) := ⟨h5_⟩
           have n6_ : Aside0 (gb285 ≠ gb272) := ⟨h6_⟩
           have n7_ : Aside0 (gb273 ≠ gb285) := ⟨h7_⟩
           have n8_ : Aside0 (gb285 ≠ gb273) := ⟨h8_⟩
           have n9_ : Aside0 (Below w.heap.size w w69) := ⟨h9_⟩
           clear BK272
           clear BK273
           clear HB
           clear h0_ h1_ h2_ h3_ h4_ h5_ h6_ h7_ h8_ h9_
           have BK272 := n0_
           have BK273 := n1_
           have BK285 := n2_
           have GW285 := n3_
           have GE285 := n4_
           have NB272_285 := n5_
           have NB285_272 := n6_
           have NB273_285 := n7_
           have NB285_273 := n8_
           have HB := n9_
           clear n0_ n1_ n2_ n3_ n4_ n5_ n6_ n7_ n8_ n9_
           have hHeld : w69.cell? ⟨gb272, 0, none⟩ = some (.int .u64 t262) ∧ w69.cell? ⟨gb272, 1, none⟩ = some (.int .u8 t263) ∧ w69.cell? ⟨gb272, 2, none⟩ = some (.bool t264) ∧ w69.cell? ⟨gb272, 3, none⟩ = some (.int .u64 t265) ∧ w69.cell? ⟨gb272, 4, none⟩ = some (.int .i64 t266) ∧ w69.cell? ⟨gb273, 0, none⟩ = some (.int .u64 t267) ∧ w69.cell? ⟨gb273, 1, none⟩ = some (.int .u8 t268) ∧ w69.cell? ⟨gb273, 2, none⟩ = some (.bool t269) ∧ w69.cell? ⟨gb273, 3, none⟩ = some (.int .u64 t270) ∧ w69.cell? ⟨gb273, 4, none⟩ = some (.int .i64 t271) := hS_
           refine norm_ (a' := ?_) ?_ ?_
           rotate_left
           ·simp only [putAll, Act.put, List.setIfInBounds_toArray, List.set_cons_zero, List.set_cons_succ]
            rfl
           refine one_ (i := 12) (N := none) #[true, true, true, true, true, true, true, true, true, true, true, true, true, false] rfl rfl (one_of HT_.out (by kernel_rfl)) (by decide) (fun K hK => ?_)
           have hs70 := zc0 BK285
           have hfs70 := blk_frozen BK285.out 0
           have hns70_0 := NB272_285.out
           have hns70_1 := NB273_285.out
           have hms70_0 := NB285_272.out
           have hms70_1 := NB285_273.out
           have hs71 := zc1 BK285
           have hfs71 := blk_frozen BK285.out 1
           have hns71_0 := NB272_285.out
           have hns71_1 := NB273_285.out
           have hms71_0 := NB285_272.out
           have hms71_1 := NB285_273.out
           refine skip_ (w1 := ?_) (by rfl) rfl ?_ ?_
           rotate_left
           ·go_simp
            rfl
           refine hK.out _ _ ⟨(zff NB272_285 (zff NB272_285 hHeld.1)), (zff NB272_285 (zff NB272_285 hHeld.2.1)), (zff NB272_285 (zff NB272_285 hHeld.2.2.1)), (zff NB272_285 (zff NB272_285 hHeld.2.2.2.1)), (zff NB272_285 (zff NB272_285 hHeld.2.2.2.2.1)), (zff NB273_285 (zff NB273_285 hHeld.2.2.2.2.2.1)), (zff NB273_285 (zff NB273_285 hHeld.2.2.2.2.2.2.1)), (zff NB273_285 (zff NB273_285 hHeld.2.2.2.2.2.2.2.1)), (zff NB273_285 (zff NB273_285 hHeld.2.2.2.2.2.2.2.2.1)), (zff NB273_285 (zff NB273_285 hHeld.2.2.2.2.2.2.2.2.2))⟩ (fun hHeld => ?_)
           clear hK K
           refine zpA 13 13 (h := ?_)
           refine done_ (done_of HT_.out (by kernel_rfl)) ?_
           have hnb72 := NB285_272.out
           have hnc72 := NB272_285.out
           have hnb73 := NB285_273.out
           have hnc73 := NB273_285.out
           have hcz74_0 := zc0 BK285
           have hcz74_1 := zc1 BK285
           have hfz74_0 := blk_frozen BK285.out 0
           have hfz74_1 := blk_frozen BK285.out 1
           have hcz75_0 := zc0 BK272
           have hcz75_1 := zc1 BK272
           have hcz75_2 := zc2 BK272
           have hcz75_3 := zc3 BK272
           have hcz75_4 := zc4 BK272
           have hfz75_0 := blk_frozen BK272.out 0
           have hfz75_1 := blk_frozen BK272.out 1
           have hfz75_2 := blk_frozen BK272.out 2
           have hfz75_3 := blk_frozen BK272.out 3
           have hfz75_4 := blk_frozen BK272.out 4
           have hcz76_0 := zc0 BK273
           have hcz76_1 := zc1 BK273
           have hcz76_2 := zc2 BK273
           have hcz76_3 := zc3 BK273
           have hcz76_4 := zc4 BK273
           have hfz76_0 := blk_frozen BK273.out 0
           have hfz76_1 := blk_frozen BK273.out 1
           have hfz76_2 := blk_frozen BK273.out 2
           have hfz76_3 := blk_frozen BK273.out 3
           have hfz76_4 := blk_frozen BK273.out 4
           try go_wp2_with (first | ((with_reducible refine gate_callee (f := 99) rfl ?_); refine goesL_ (some 97) rfl rfl Try.func99 (by kernel_rfl) rfl #[.bool (t264 != t269), .agg #[.int .u64 t282, .int .u64 t283], .int .i64 (wrap64 ((wrap64 ((wrap64 (t266 - (ji58))) - 64)) - t271)), .bool (t284 != 0), .int .u8 a2] rfl (by (try simp only [List.map_toArray, List.map_cons, List.map_nil]); first | done | (simp only [hji58]; rfl) | rfl | (simp only [List.length_drop, List.length_take]; rfl)) ?_; (with_reducible refine (round_Round.calls kj47 (t264 != t269) t282 t283 (wrap64 ((wrap64 ((wrap64 (t266 - (ji58))) - 64)) - t271)) (t284 != 0) a2 t286 t287 _ A62.out).mono ?_); rintro e w77 ⟨rfl, hb⟩; refine ⟨_, rfl, ?_⟩; replace BK272 := Aside0.mk (blk_below (zkf (zkf BK272.out NB272_285.out _) NB272_285.out _) hb); replace BK273 := Aside0.mk (blk_below (zkf (zkf BK273.out NB273_285.out _) NB273_285.out _) hb); replace BK285 := Aside0.mk (blk_below (o := .cells #[.int .u64 t282, .int .u64 t283] 109 (0, 0)) (blk_put (cs := #[.int .u64 t282, .int .u64 0]) (blk_put BK285.out 0 _ rfl) 1 _ rfl) hb); replace HB := Aside0.mk (below_step (below_set (below_set HB.out GE285.out) GE285.out) hb); (try clear hb)))
           go_ret2
           exact ⟨by first | rfl | (simp [errW_none, errW_some] <;> rfl) | (simp only [← hji58, ← hji60]; first | rfl | (simp [errW_none, errW_some] <;> rfl)) | (simp [*, errW_none, errW_some] <;> rfl), zaB⟩
          ·rw [if_neg c59] at H
           exact absurd H (by simp)
end Go.Proofs.Ytmadjhmecfbcmaa.F
end
section
namespace Go.Proofs.Ytmadjhmecfbcmaa.F
open Go.RowKit Go.Proofs.YtmadjhmecfbcmaaW.PrintWords Go.Proofs.YtmadjhmecfbcmaaW.PrintLast Go.Proofs.YtmadjhmecfbcmaaW.PrintMore
attribute [local go_sem] max2_int min2_int max_two min_two max_three min_three max_four min_four
set_option linter.unusedVariables false
set_option linter.unusedSimpArgs false
set_option maxHeartbeats 8000000 in
set_option maxRecDepth 100000 in
theorem wide_U128_Cmp.order (x0 y0 x1 y1 : Int) (g : Nat) (w : World) (hw : w.heap[g]? = some (.cells #[.int .u64 x0, .int .u64 y0, .int .u64 x1, .int .u64 y1] 181 (0, 0))) :
  Calls Try.prog 190 #[.slice (some ⟨g, 0, none⟩) 2 2] w fun e w' => e = .returned (.int .i64 (if x0 < y0 then -1 else if y0 < x0 then 1 else if x1 < y1 then -1 else if y1 < x1 then 1 else 0)) ∧ Below w.heap.size w w' := by
 have hu181 := Try.underlying181
 have z0 : w.cell? ⟨g, 0, none⟩ = some (.int .u64 x0) := (blk_cell hw 0).trans rfl
 have f0 := blk_frozen hw 0
 have z1 : w.cell? ⟨g, 1, none⟩ = some (.int .u64 y0) := (blk_cell hw 1).trans rfl
 have f1 := blk_frozen hw 1
 have z2 : w.cell? ⟨g, 2, none⟩ = some (.int .u64 x1) := (blk_cell hw 2).trans rfl
 have f2 := blk_frozen hw 2
 have z3 : w.cell? ⟨g, 3, none⟩ = some (.int .u64 y1) := (blk_cell hw 3).trans rfl
 have f3 := blk_frozen hw 3
 by_cases c0 : x0 < y0
 ·have c0b : decide (x0 < y0) = true := decide_eq_true c0
  go_enter Try.func190, Try.ntmps190
  go_wp2
  refine wp_loop_rounds 1 ?_
  rw [rounds_succ]
  go_wp2
  refine bodyPost_ret (results_tmp rfl _ _ _) rfl ⟨?_, below_alloc (Below.refl w.heap.size w) _⟩
  first | rfl | (rw [if_pos c0]; rfl)
 have c0b : decide (x0 < y0) = false := decide_eq_false c0
 by_cases c1 : y0 < x0
 ·have c1b : decide (y0 < x0) = true := decide_eq_true c1
  go_enter Try.func190, Try.ntmps190
  go_wp2
  refine wp_loop_rounds 1 ?_
  rw [rounds_succ]
  go_wp2
  refine bodyPost_ret (results_tmp rfl _ _ _) rfl ⟨?_, below_alloc (Below.refl w.heap.size w) _⟩
  first | rfl | (rw [if_neg c0, if_pos c1]; rfl)
 have c1b : decide (y0 < x0) = false := decide_eq_false c1
 by_cases c2 : x1 < y1
 ·have c2b : decide (x1 < y1) = true := decide_eq_true c2
  go_enter Try.func190, Try.ntmps190
  go_wp2
  refine wp_loop_rounds 2 ?_
  rw [rounds_succ]
  go_wp2
  have hw1 := blk_alloc hw (.cells #[.int .u64 x0, .int .u64 y0] 181 (0, 0))
  have HB1 := below_alloc (Below.refl w.heap.size w) (.cells #[.int .u64 x0, .int .u64 y0] 181 (0, 0))
  generalize w.alloc (.cells #[.int .u64 x0, .int .u64 y0] 181 (0, 0)) = w1 at hw1 HB1 ⊢
  have z10 : w1.cell? ⟨g, 0, none⟩ = some (.int .u64 x0) := (blk_cell hw1 0).trans rfl
  have z11 : w1.cell? ⟨g, 1, none⟩ = some (.int .u64 y0) := (blk_cell hw1 1).trans rfl
  have z12 : w1.cell? ⟨g, 2, none⟩ = some (.int .u64 x1) := (blk_cell hw1 2).trans rfl
  have z13 : w1.cell? ⟨g, 3, none⟩ = some (.int .u64 y1) := (blk_cell hw1 3).trans rfl
  rw [rounds_succ]
  go_wp2
  refine bodyPost_ret (results_tmp rfl _ _ _) rfl ⟨?_, below_alloc HB1 _⟩
  first | rfl | (rw [if_neg c0, if_neg c1, if_pos c2]; rfl)
 have c2b : decide (x1 < y1) = false := decide_eq_false c2
 by_cases c3 : y1 < x1
 ·have c3b : decide (y1 < x1) = true := decide_eq_true c3
  go_enter Try.func190, Try.ntmps190
  go_wp2
  refine wp_loop_rounds 2 ?_
  rw [rounds_succ]
  go_wp2
  have hw1 := blk_alloc hw (.cells #[.int .u64 x0, .int .u64 y0] 181 (0, 0))
  have HB1 := below_alloc (Below.refl w.heap.size w) (.cells #[.int .u64 x0, .int .u64 y0] 181 (0, 0))
  generalize w.alloc (.cells #[.int .u64 x0, .int .u64 y0] 181 (0, 0)) = w1 at hw1 HB1 ⊢
  have z10 : w1.cell? ⟨g, 0, none⟩ = some (.int .u64 x0) := (blk_cell hw1 0).trans rfl
  have z11 : w1.cell? ⟨g, 1, none⟩ = some (.int .u64 y0) := (blk_cell hw1 1).trans rfl
  have z12 : w1.cell? ⟨g, 2, none⟩ = some (.int .u64 x1) := (blk_cell hw1 2).trans rfl
  have z13 : w1.cell? ⟨g, 3, none⟩ = some (.int .u64 y1) := (blk_cell hw1 3).trans rfl
  rw [rounds_succ]
  go_wp2
  refine bodyPost_ret (results_tmp rfl _ _ _) rfl ⟨?_, below_alloc HB1 _⟩
  first | rfl | (rw [if_neg c0, if_neg c1, if_neg c2, if_pos c3]; rfl)
 have c3b : decide (y1 < x1) = false := decide_eq_false c3
 go_enter Try.func190, Try.ntmps190
 go_wp2
 refine wp_loop_rounds 3 ?_
 rw [rounds_succ]
 go_wp2
 have hw1 := blk_alloc hw (.cells #[.int .u64 x0, .int .u64 y0] 181 (0, 0))
 have HB1 := below_alloc (Below.refl w.heap.size w) (.cells #[.int .u64 x0, .int .u64 y0] 181 (0, 0))
 generalize w.alloc (.cells #[.int .u64 x0, .int .u64 y0] 181 (0, 0)) = w1 at hw1 HB1 ⊢
 have z10 : w1.cell? ⟨g, 0, none⟩ = some (.int .u64 x0) := (blk_cell hw1 0).trans rfl
 have z11 : w1.cell? ⟨g, 1, none⟩ = some (.int .u64 y0) := (blk_cell hw1 1).trans rfl
 have z12 : w1.cell? ⟨g, 2, none⟩ = some (.int .u64 x1) := (blk_cell hw1 2).trans rfl
 have z13 : w1.cell? ⟨g, 3, none⟩ = some (.int .u64 y1) := (blk_cell hw1 3).trans rfl
 rw [rounds_succ]
 go_wp2
 have hw2 := blk_alloc hw1 (.cells #[.int .u64 x1, .int .u64 y1] 181 (0, 0))
 have HB2 := below_alloc HB1 (.cells #[.int .u64 x1, .int .u64 y1] 181 (0, 0))
 generalize w1.alloc (.cells #[.int .u64 x1, .int .u64 y1] 181 (0, 0)) = w2 at hw2 HB2 ⊢
 have z20 : w2.cell? ⟨g, 0, none⟩ = some (.int .u64 x0) := (blk_cell hw2 0).trans rfl
 have z21 : w2.cell? ⟨g, 1, none⟩ = some (.int .u64 y0) := (blk_cell hw2 1).trans rfl
 have z22 : w2.cell? ⟨g, 2, none⟩ = some (.int .u64 x1) := (blk_cell hw2 2).trans rfl
 have z23 : w2.cell? ⟨g, 3, none⟩ = some (.int .u64 y1) := (blk_cell hw2 3).trans rfl
 rw [rounds_succ]
 go_wp2
 refine bodyPost_ret (results_tmp rfl _ _ _) rfl ⟨?_, HB2⟩
 first | rfl | (rw [if_neg c0, if_neg c1, if_neg c2, if_neg c3]; rfl)
set_option maxHeartbeats 8000000 in
set_option maxRecDepth 100000 in
theorem wide_U128_Cmp.walk (a0_0 : Int) (a0_1 : Int) (a1_0 : Int) (a1_1 : Int) (w : World) :
  Calls Try.prog 164 #[.agg #[.int .u64 a0_0, .int .u64 a0_1], .agg #[.int .u64 a1_0, .int .u64 a1_1]] w fun e w' => e = .returned (.int .i64 (if a0_0 < a1_0 then -1 else if a1_0 < a0_0 then 1 else if a0_1 < a1_1 then -1 else if a1_1 < a0_1 then 1 else 0)) ∧ Below w.heap.size w w' := by
 have hu109 := Try.underlying109
 have hu181 := Try.underlying181
 have O := wide_U128_Cmp.order a0_0 a1_0 a0_1 a1_1
 generalize (if a0_0 < a1_0 then (-1 : Int) else if a1_0 < a0_0 then 1 else if a0_1 < a1_1 then -1 else if a1_1 < a0_1 then 1 else 0) = r at O ⊢
 go_enter Try.func164, Try.ntmps164
 have hb0 : ((((w.alloc (Obj.cells #[.int .u64 a0_0, .int .u64 a0_1] 109 (0, 0))).alloc (Obj.cells #[.int .u64 a1_0, .int .u64 a1_1] 109 (0, 0))).alloc (Obj.cells #[.int .u64 a0_0, .int .u64 a1_0, .int .u64 a0_1, .int .u64 a1_1] 181 (0, 0)))).heap[w.heap.size + 1 + 1]? = some (.cells #[.int .u64 a0_0, .int .u64 a1_0, .int .u64 a0_1, .int .u64 a1_1] 181 (0, 0)) := by
  have h := blk_new ((w.alloc (Obj.cells #[.int .u64 a0_0, .int .u64 a0_1] 109 (0, 0))).alloc (Obj.cells #[.int .u64 a1_0, .int .u64 a1_1] 109 (0, 0))) (.cells #[.int .u64 a0_0, .int .u64 a1_0, .int .u64 a0_1, .int .u64 a1_1] 181 (0, 0))
  have e : ((w.alloc (Obj.cells #[.int .u64 a0_0, .int .u64 a0_1] 109 (0, 0))).alloc (Obj.cells #[.int .u64 a1_0, .int .u64 a1_1] 109 (0, 0))).heap.size = w.heap.size + 1 + 1 := by rw [World.alloc, World.alloc]; simp only [Array.size_push]
  rw [e] at h; exact h
 have HB0 : Below w.heap.size w ((((w.alloc (Obj.cells #[.int .u64 a0_0, .int .u64 a0_1] 109 (0, 0))).alloc (Obj.cells #[.int .u64 a1_0, .int .u64 a1_1] 109 (0, 0))).alloc (Obj.cells #[.int .u64 a0_0, .int .u64 a1_0, .int .u64 a0_1, .int .u64 a1_1] 181 (0, 0)))) := below_alloc (below_alloc (below_alloc (Below.refl w.heap.size w) _) _) _
 go_wp2_with (fail)
 rename_i K hK
 refine (O _ _ hb0).mono ?_
 rintro e w' ⟨rfl, hb⟩
 refine hK _ _ ?_
 go_wp2
 exact bodyPost_ret (results_tmp rfl _ _ _) rfl ⟨rfl, below_step HB0 hb⟩
theorem wide_U128_Cmp.calls (a0_0 : Int) (a0_1 : Int) (a1_0 : Int) (a1_1 : Int) (r : Int) (w : World) (h : wide_U128_Cmp.f a0_0 a0_1 a1_0 a1_1 = some r) :
  Calls Try.prog 164 #[.agg #[.int .u64 a0_0, .int .u64 a0_1], .agg #[.int .u64 a1_0, .int .u64 a1_1]] w fun e w' => e = .returned (.int .i64 r) ∧ Below w.heap.size w w' := by
 obtain rfl := Option.some.inj h
 exact wide_U128_Cmp.walk a0_0 a0_1 a1_0 a1_1 w
end Go.Proofs.Ytmadjhmecfbcmaa.F
end
section
namespace Go.Proofs.Ytmadjhmecfbcmaa.F
open Go.RowKit Go.Proofs.YtmadjhmecfbcmaaW.PrintWords Go.Proofs.YtmadjhmecfbcmaaW.PrintLast Go.Proofs.YtmadjhmecfbcmaaW.PrintMore
attribute [local go_sem] max2_int min2_int max_two min_two max_three min_three max_four min_four
set_option linter.unusedVariables false
set_option linter.unusedSimpArgs false
def wide_U128_Sqrt.T5 : Bool × List (List Nat × List Nat) := (true, [([], []), ([], []), ([0, 1], [0, 1]), ([], []), ([], []), ([3, 4], [3, 4]), ([2, 5], [2, 5]), ([], []), ([6, 7, 6], [6, 7]), ([8], [8])])
def wide_U128_Sqrt.B5 : List Nat := [0, 0, 3, 0, 0, 24, 63, 0, 255, 511]
theorem wide_U128_Sqrt.tab5 : rtab .any (opsOf Try.f107 5) = wide_U128_Sqrt.T5 := by kernel_rfl
theorem wide_U128_Sqrt.bits5 : waitsOk wide_U128_Sqrt.T5.2 wide_U128_Sqrt.B5 = true := by kernel_rfl
def wide_U128_Sqrt.T7 : Bool × List (List Nat × List Nat) := (true, [([], []), ([], []), ([], []), ([1, 2], [1, 2]), ([0, 3, 3], [0, 3]), ([4], [4]), ([5], [5]), ([5], [5]), ([], []), ([8, 6, 4, 0, 1, 2, 3, 4, 5, 6, 8], [6, 8]), ([7, 9, 0, 1, 2, 3, 4, 5, 6, 7, 8, 9], [7])])
def wide_U128_Sqrt.B7 : List Nat := [0, 0, 0, 6, 15, 31, 63, 63, 0, 383, 1023]
theorem wide_U128_Sqrt.tab7 : rtab .any (opsOf Try.f107 7) = wide_U128_Sqrt.T7 := by kernel_rfl
theorem wide_U128_Sqrt.bits7 : waitsOk wide_U128_Sqrt.T7.2 wide_U128_Sqrt.B7 = true := by kernel_rfl
set_option maxHeartbeats 8000000 in
set_option maxRecDepth 100000 in
theorem wide_U128_Sqrt.calls (k : Nat) (a0_0 : Int) (a0_1 : Int) (r1 : Int) (r2 : Int) (r3 : Int) (w : World) (h : wide_U128_Sqrt.f k a0_0 a0_1 = some (r1, r2, r3)) :
  Calls Try.prog 107 #[.agg #[.int .u64 a0_0, .int .u64 a0_1]] w fun e w' => e = .returned (.tuple #[.int .u64 r1, .agg #[.int .u64 r2, .int .u64 r3]]) ∧ Below w.heap.size w w' := by
 have hu109 := Try.underlying109
 have HB := Aside0.mk (Below.refl w.heap.size w)
 have H : (wide_U128_Sqrt.l0 k 0 9223372036854775808 a0_0 a0_1) = some (r1, r2, r3) := h
 clear h
 have H' := Aside0.mk H
 clear H
 go_enter Try.func107, Try.ntmps107
 go_wp2_with (first | ((with_reducible refine gate_dst (N := 1) rfl ?_); refine zbx 1 #[.int .u64 a0_0, .int .u64 a0_1] 109 (h := ?_); intro gb288 hg w2 hbox hb; have GW288 := zkZ hg (zaB (p := Below w.heap.size w _)); have GE288 := GW288; replace HB := Aside0.mk (below_step zaB hb); have BK288 := Aside0.mk (hbox); clear hb hbox hg) | ((with_reducible refine gate_dst (N := 3) rfl ?_); refine zbx 3 #[.int .u64 0, .int .u64 0] 109 (h := ?_); intro gb289 hg w3 hbox hb; have GW289 := zkz HB hg; have GE289 := GW289; have NB288_289 := zkl BK288 hg; have NB289_288 := zkr BK288 hg; replace BK288 := zkb BK288 hb; replace HB := zkB HB hb; have BK289 := Aside0.mk (hbox); clear hb hbox hg))
 (try simp only [Act.put, List.setIfInBounds_toArray, List.set_cons_zero, List.set_cons_succ])
 go_loopg [4, 5] k (fun kq v4 v5 w' => ∃ (x4_1 : Int) (x5_1 : Int), v4 = .int .u64 x4_1 ∧ v5 = .int .u64 x5_1 ∧ Aside0 (wide_U128_Sqrt.l0 kq x4_1 x5_1 a0_0 a0_1 = some (r1, r2, r3)) ∧ Aside0 (kq ≤ k) ∧ Aside0 (w'.heap[gb288]? = some (.cells #[.int .u64 a0_0, .int .u64 a0_1] 109 (0, 0))) ∧ Aside0 (w'.heap[gb289]? = some (.cells #[.int .u64 0, .int .u64 0] 109 (0, 0))) ∧ Aside0 (Below w.heap.size w w'))
 case atStart => exact ⟨(0), (9223372036854775808), (by first | rfl | (simp; done) | (simp [*]; done)), (by first | rfl | (simp; done) | (simp [*]; done)), H', ⟨Nat.le_refl _⟩, ⟨(zkq BK288)⟩, ⟨(zkq BK289)⟩, ⟨zaB⟩⟩
 case round =>
  clear H'
  try clear c1
  try clear p2
  obtain ⟨x4_1, x5_1, rfl, rfl, HA, HK1, BK288, BK289, HB⟩ := hrel
  cases gk with
  | zero => exact absurd HA.out (by simp [wide_U128_Sqrt.l0])
  | succ k1 =>
   have H := HA.out
   clear HA
   simp only [wide_U128_Sqrt.l0] at H
   by_cases c4 : x5_1 > 0
   ·rw [if_pos c4] at H
    have c4b0 : decide (0 < x5_1) = true := decide_eq_true c4
    clear c4
    obtain ⟨⟨t296, t297⟩, A5, H⟩ := zbs H
    try dsimp only at H
    obtain ⟨t298, A6, H⟩ := zbs H
    try dsimp only at H
    by_cases c7 : t298 ≤ 0
    ·rw [if_pos c7] at H
     have c7b0 : decide (t298 ≤ 0) = true := decide_eq_true c7
     clear c7
     have H' := Aside0.mk H
     clear H
     try go_wp2
     replace BK288 := Aside0.mk (blk_drew BK288.out)
     replace BK289 := Aside0.mk (blk_drew BK289.out)
     replace HB := Aside0.mk (below_drew1 HB.out)
     refine start_ (n := 10) (S := fun w' => w'.cell? ⟨gb288, 0, none⟩ = some (.int .u64 a0_0) ∧ w'.cell? ⟨gb288, 1, none⟩ = some (.int .u64 a0_1)) (ds := []) #[false, false, false, false, false, false, false, false, false, false] (by kernel_rfl) rfl rfl (ze2 BK288) (fun hHeld => ?_); refine with_tabW wide_U128_Sqrt.tab5 wide_U128_Sqrt.bits5 (fun HT_ HW_ => ?_)
     generalize wr.drew = w8 at BK288 BK289 HB hHeld ⊢
     refine zpA 0 12 (h := ?_)
     refine zpA 1 13 (h := ?_)
     refine zpA 2 14 (h := ?_)
     refine zpA 3 15 (h := ?_)
     refine zpA 4 16 (h := ?_)
     refine zpA 5 17 (h := ?_)
     refine ztA 7 19 (h := ?_)
     refine zoA 6 18 (h := fun K hK => ?_)
     refine zgA Try.func100 (wide_Mul.calls (Go.bits .or .u64 x4_1 x5_1) (Go.bits .or .u64 x4_1 x5_1) t296 t297 _ A5.out) (h := ?_)
     rintro w9 hb
     replace BK288 := zkb BK288 hb
     replace BK289 := zkb BK289 hb
     replace HB := zkB HB hb
     (try clear hb)
     refine hK.out _ _ (ze2 BK288) (fun hHeld => ?_)
     clear hK K
     refine znA 18 (h := ?_)
     refine zoA 8 20 (h := fun K hK => ?_)
     refine zgA Try.func164 (wide_U128_Cmp.calls t296 t297 a0_0 a0_1 t298 _ A6.out) (h := ?_)
     rintro w10 hb
     replace BK288 := zkb BK288 hb
     replace BK289 := zkb BK289 hb
     replace HB := zkB HB hb
     (try clear hb)
     refine hK.out _ _ (ze2 BK288) (fun hHeld => ?_)
     clear hK K
     refine znA 20 (h := ?_)
     refine zpA 9 21 (h := ?_)
     refine done_ (done_of HT_.out (by kernel_rfl)) ?_
     try go_wp2
     go_roundg k1
     case measure => have := HK1.out; omega
     case rel => exact ⟨(Go.bits .or .u64 x4_1 x5_1), (x5_1 / 2), (by first | rfl | (simp; done) | (simp [*]; done)), (by first | rfl | (simp; done) | (simp [*]; done)), H', ⟨by have := HK1.out; omega⟩, ⟨(zkq BK288)⟩, ⟨(zkq BK289)⟩, ⟨zaB⟩⟩
    ·rw [if_neg c7] at H
     have c7b0 : decide (t298 ≤ 0) = false := decide_eq_false c7
     clear c7
     have H' := Aside0.mk H
     clear H
     try go_wp2
     replace BK288 := Aside0.mk (blk_drew BK288.out)
     replace BK289 := Aside0.mk (blk_drew BK289.out)
     replace HB := Aside0.mk (below_drew1 HB.out)
     refine start_ (n := 10) (S := fun w' => w'.cell? ⟨gb288, 0, none⟩ = some (.int .u64 a0_0) ∧ w'.cell? ⟨gb288, 1, none⟩ = some (.int .u64 a0_1)) (ds := []) #[false, false, false, false, false, false, false, false, false, false] (by kernel_rfl) rfl rfl (ze2 BK288) (fun hHeld => ?_); refine with_tabW wide_U128_Sqrt.tab5 wide_U128_Sqrt.bits5 (fun HT_ HW_ => ?_)
     generalize wr.drew = w11 at BK288 BK289 HB hHeld ⊢
     refine zpA 0 12 (h := ?_)
     refine zpA 1 13 (h := ?_)
     refine zpA 2 14 (h := ?_)
     refine zpA 3 15 (h := ?_)
     refine zpA 4 16 (h := ?_)
     refine zpA 5 17 (h := ?_)
     refine ztA 7 19 (h := ?_)
     refine zoA 6 18 (h := fun K hK => ?_)
     refine zgA Try.func100 (wide_Mul.calls (Go.bits .or .u64 x4_1 x5_1) (Go.bits .or .u64 x4_1 x5_1) t296 t297 _ A5.out) (h := ?_)
     rintro w12 hb
     replace BK288 := zkb BK288 hb
     replace BK289 := zkb BK289 hb
     replace HB := zkB HB hb
     (try clear hb)
     refine hK.out _ _ (ze2 BK288) (fun hHeld => ?_)
     clear hK K
     refine znA 18 (h := ?_)
     refine zoA 8 20 (h := fun K hK => ?_)
     refine zgA Try.func164 (wide_U128_Cmp.calls t296 t297 a0_0 a0_1 t298 _ A6.out) (h := ?_)
     rintro w13 hb
     replace BK288 := zkb BK288 hb
     replace BK289 := zkb BK289 hb
     replace HB := zkB HB hb
     (try clear hb)
     refine hK.out _ _ (ze2 BK288) (fun hHeld => ?_)
     clear hK K
     refine znA 20 (h := ?_)
     refine zpA 9 21 (h := ?_)
     refine done_ (done_of HT_.out (by kernel_rfl)) ?_
     try go_wp2
     go_roundg k1
     case measure => have := HK1.out; omega
     case rel => exact ⟨(x4_1), (x5_1 / 2), (by first | rfl | (simp; done) | (simp [*]; done)), (by first | rfl | (simp; done) | (simp [*]; done)), H', ⟨by have := HK1.out; omega⟩, ⟨(zkq BK288)⟩, ⟨(zkq BK289)⟩, ⟨zaB⟩⟩
   ·rw [if_neg c4] at H
    have c4b0 : decide (0 < x5_1) = false := decide_eq_false c4
    clear c4
    obtain ⟨⟨t290, t291⟩, A14, H⟩ := zbs H
    try dsimp only at H
    obtain ⟨⟨t292, t293, t294⟩, A15, H⟩ := zbs H
    try dsimp only at H
    simp only [Option.some.injEq, Prod.mk.injEq] at H
    obtain ⟨rfl, rfl, rfl⟩ := H
    try go_wp2
    replace BK288 := Aside0.mk (blk_drew BK288.out)
    replace BK289 := Aside0.mk (blk_drew BK289.out)
    replace HB := Aside0.mk (below_drew1 HB.out)
    refine start_ (n := 11) (S := fun w' => w'.cell? ⟨gb288, 0, none⟩ = some (.int .u64 a0_0) ∧ w'.cell? ⟨gb288, 1, none⟩ = some (.int .u64 a0_1)) (ds := []) #[false, false, false, false, false, false, false, false, false, false, false] (by kernel_rfl) rfl rfl (ze2 BK288) (fun hHeld => ?_); refine with_tabW wide_U128_Sqrt.tab7 wide_U128_Sqrt.bits7 (fun HT_ HW_ => ?_)
    generalize wr.drew = w16 at BK288 BK289 HB hHeld ⊢
    refine zpA 1 27 (h := ?_)
    refine zpA 2 28 (h := ?_)
    refine ztA 0 26 (h := ?_)
    refine join_ (σ := Nat) 2 #[true, true, true, true, true, true, true, true, true, false, false] (fun s_ => [(29, .agg #[.int .u64 t290, .int .u64 t291]), (30, .tuple #[.agg #[.int .u64 t292, .int .u64 t293], .int .u64 t294]), (6, .pointer (some ⟨s_, 0, none⟩)), (25, .tuple #[.agg #[.int .u64 t292, .int .u64 t293], .int .u64 t294]), (31, .agg #[.int .u64 t292, .int .u64 t293]), (32, .int .u64 t294)]) (fun s_ w' => (w'.cell? ⟨gb288, 0, none⟩ = some (.int .u64 a0_0) ∧ w'.cell? ⟨gb288, 1, none⟩ = some (.int .u64 a0_1)) ∧ (w'.heap[gb288]? = some (.cells #[.int .u64 a0_0, .int .u64 a0_1] 109 (0, 0))) ∧ (w'.heap[gb289]? = some (.cells #[.int .u64 0, .int .u64 0] 109 (0, 0))) ∧ (w'.heap[s_]? = some (.cells #[.int .u64 0, .int .u64 0] 109 (0, 0))) ∧ (w.heap.size ≤ s_) ∧ (w.heap.size ≤ s_) ∧ (gb288 ≠ s_) ∧ (s_ ≠ gb288) ∧ (gb289 ≠ s_) ∧ (s_ ≠ gb289) ∧ (Below w.heap.size w w')) ?_ ?_
    rotate_left
    ·intro hCont
     refine two_ (i := 3) (j := 8) (Ni := some 29) (Nj := some 6) #[true, true, true, true, false, false, false, false, false, false, false] #[true, true, true, false, false, false, false, false, true, false, false] rfl rfl rfl rfl (two_of HT_.out (by kernel_rfl)) (by decide) (by decide) (fun K hK => ?_) (fun K hK => ?_)
     ·skip
      refine zgA Try.func100 (wide_Mul.calls x4_1 x4_1 t290 t291 _ A14.out) (h := ?_)
      rintro w17 hb
      replace BK288 := zkb BK288 hb
      replace BK289 := zkb BK289 hb
      replace HB := zkB HB hb
      (try clear hb)
      refine hK.out _ _ (ze2 BK288) (fun hHeld => ?_)
      clear hK K
      refine znA 29 (h := ?_)
      refine two_ (i := 4) (j := 8) (Ni := some 30) (Nj := some 6) #[true, true, true, true, true, false, false, false, false, false, false] #[true, true, true, true, false, false, false, false, true, false, false] rfl rfl rfl rfl (two_of HT_.out (by kernel_rfl)) (by decide) (by decide) (fun K hK => ?_) (fun K hK => ?_)
      ·skip
       refine zgA Try.func153 (wide_U128_Sub.calls a0_0 a0_1 t290 t291 t292 t293 t294 _ A15.out) (h := ?_)
       rintro w18 hb
       replace BK288 := zkb BK288 hb
       replace BK289 := zkb BK289 hb
       replace HB := zkB HB hb
       (try clear hb)
       refine hK.out _ _ (ze2 BK288) (fun hHeld => ?_)
       clear hK K
       refine znA 30 (h := ?_)
       refine zpA 5 25 (h := ?_)
       refine zpA 6 31 (h := ?_)
       refine zpA 7 32 (h := ?_)
       refine zoA 8 6 (h := fun K hK => ?_)
       refine box_step ?hg (N := 6) ?hd (cs := #[.int .u64 0, .int .u64 0]) (t := 109) ?hr ?_; (case hd => rfl); (case hg => rfl); (case hr => first | (go_simp; done) | (go_simp; rfl))
       intro gb295 hg w19 hbox hb
       have GW295 := zkz HB hg
       have GE295 := GW295
       have NB288_295 := zkl BK288 hg
       have NB295_288 := zkr BK288 hg
       have NB289_295 := zkl BK289 hg
       have NB295_289 := zkr BK289 hg
       replace BK288 := zkb BK288 hb
       replace BK289 := zkb BK289 hb
       replace HB := zkB HB hb
       have BK295 := Aside0.mk (hbox)
       clear hb hbox hg
       refine hK.out _ _ (ze2 BK288) (fun hHeld => ?_)
       clear hK K
       refine znA 6 (h := ?_)
       exact norm_ (by simp only [putAll, Act.put, List.setIfInBounds_toArray, List.set_cons_zero, List.set_cons_succ]) (hCont (gb295) _ ⟨hHeld, (zkq BK288), (zkq BK289), (zkq BK295), GW295.out, GE295.out, NB288_295.out, NB295_288.out, NB289_295.out, NB295_289.out, zaB⟩)
      ·skip
       refine box_step ?hg (N := 6) ?hd (cs := #[.int .u64 0, .int .u64 0]) (t := 109) ?hr ?_; (case hd => rfl); (case hg => rfl); (case hr => first | (go_simp; done) | (go_simp; rfl))
       intro gb295 hg w18 hbox hb
       have GW295 := zkz HB hg
       have GE295 := GW295
       have NB288_295 := zkl BK288 hg
       have NB295_288 := zkr BK288 hg
       have NB289_295 := zkl BK289 hg
       have NB295_289 := zkr BK289 hg
       replace BK288 := zkb BK288 hb
       replace BK289 := zkb BK289 hb
       replace HB := zkB HB hb
       have BK295 := Aside0.mk (hbox)
       clear hb hbox hg
       refine hK.out _ _ (ze2 BK288) (fun hHeld => ?_)
       clear hK K
       refine znA 6 (h := ?_)
       refine zoA 4 30 (h := fun K hK => ?_)
       refine zgA Try.func153 (wide_U128_Sub.calls a0_0 a0_1 t290 t291 t292 t293 t294 _ A15.out) (h := ?_)
       rintro w19 hb
       replace BK288 := zkb BK288 hb
       replace BK289 := zkb BK289 hb
       replace BK295 := zkb BK295 hb
       replace HB := zkB HB hb
       (try clear hb)
       refine hK.out _ _ (ze2 BK288) (fun hHeld => ?_)
       clear hK K
       refine znA 30 (h := ?_)
       refine zpA 5 25 (h := ?_)
       refine zpA 6 31 (h := ?_)
       refine zpA 7 32 (h := ?_)
       exact norm_ (by simp only [putAll, Act.put, List.setIfInBounds_toArray, List.set_cons_zero, List.set_cons_succ]) (hCont (gb295) _ ⟨hHeld, (zkq BK288), (zkq BK289), (zkq BK295), GW295.out, GE295.out, NB288_295.out, NB295_288.out, NB289_295.out, NB295_289.out, zaB⟩)
     ·skip
      refine box_step ?hg (N := 6) ?hd (cs := #[.int .u64 0, .int .u64 0]) (t := 109) ?hr ?_; (case hd => rfl); (case hg => rfl); (case hr => first | (go_simp; done) | (go_simp; rfl))
      intro gb295 hg w17 hbox hb
      have GW295 := zkz HB hg
      have GE295 := GW295
      have NB288_295 := zkl BK288 hg
      have NB295_288 := zkr BK288 hg
      have NB289_295 := zkl BK289 hg
      have NB295_289 := zkr BK289 hg
      replace BK288 := zkb BK288 hb
      replace BK289 := zkb BK289 hb
      replace HB := zkB HB hb
      have BK295 := Aside0.mk (hbox)
      clear hb hbox hg
      refine hK.out _ _ (ze2 BK288) (fun hHeld => ?_)
      clear hK K
      refine znA 6 (h := ?_)
      refine zoA 3 29 (h := fun K hK => ?_)
      refine zgA Try.func100 (wide_Mul.calls x4_1 x4_1 t290 t291 _ A14.out) (h := ?_)
      rintro w18 hb
      replace BK288 := zkb BK288 hb
      replace BK289 := zkb BK289 hb
      replace BK295 := zkb BK295 hb
      replace HB := zkB HB hb
      (try clear hb)
      refine hK.out _ _ (ze2 BK288) (fun hHeld => ?_)
      clear hK K
      refine znA 29 (h := ?_)
      refine zoA 4 30 (h := fun K hK => ?_)
      refine zgA Try.func153 (wide_U128_Sub.calls a0_0 a0_1 t290 t291 t292 t293 t294 _ A15.out) (h := ?_)
      rintro w19 hb
      replace BK288 := zkb BK288 hb
      replace BK289 := zkb BK289 hb
      replace BK295 := zkb BK295 hb
      replace HB := zkB HB hb
      (try clear hb)
      refine hK.out _ _ (ze2 BK288) (fun hHeld => ?_)
      clear hK K
      refine znA 30 (h := ?_)
      refine zpA 5 25 (h := ?_)
      refine zpA 6 31 (h := ?_)
      refine zpA 7 32 (h := ?_)
      exact norm_ (by simp only [putAll, Act.put, List.setIfInBounds_toArray, List.set_cons_zero, List.set_cons_succ]) (hCont (gb295) _ ⟨hHeld, (zkq BK288), (zkq BK289), (zkq BK295), GW295.out, GE295.out, NB288_295.out, NB295_288.out, NB289_295.out, NB295_289.out, zaB⟩)
    rintro gb295 w20 ⟨hS_, h0_, h1_, h2_, h3_, h4_, h5_, h6_, h7_, h8_, h9_⟩
    have n0_ : Aside0 (w20.heap[gb288]? = some (.cells #[.int .u64 a0_0, .int .u64 a0_1] 109 (0, 0))) := ⟨h0_⟩
    have n1_ : Aside0 (w20.heap[gb289]? = some (.cells #[.int .u64 0, .int .u64 0] 109 (0, 0))) := ⟨h1_⟩
    have n2_ : Aside0 (w20.heap[gb295]? = some (.cells #[.int .u64 0, .int .u64 0] 109 (0, 0))) := ⟨h2_⟩
    have n3_ : Aside0 (w.heap.size ≤ gb295) := ⟨h3_⟩
    have n4_ : Aside0 (w.heap.size ≤ gb295) := ⟨h4_⟩
    have n5_ : Aside0 (gb288 ≠ gb295) := ⟨h5_⟩
    have n6_ : Aside0 (gb295 ≠ gb288) := ⟨h6_⟩
    have n7_ : Aside0 (gb289 ≠ gb295) := ⟨h7_⟩
    have n8_ : Aside0 (gb295 ≠ gb289) := ⟨h8_⟩
    have n9_ : Aside0 (Below w.heap.size w w20) := ⟨h9_⟩
    clear BK288
    clear BK289
    clear HB
    clear h0_ h1_ h2_ h3_ h4_ h5_ h6_ h7_ h8_ h9_
    have BK288 := n0_
    have BK289 := n1_
    have BK295 := n2_
    have GW295 := n3_
    have GE295 := n4_
    have NB288_295 := n5_
    have NB295_288 := n6_
    have NB289_295 := n7_
    have NB295_289 := n8_
    have HB := n9_
    clear n0_ n1_ n2_ n3_ n4_ n5_ n6_ n7_ n8_ n9_
    have hHeld : w20.cell? ⟨gb288, 0, none⟩ = some (.int .u64 a0_0) ∧ w20.cell? ⟨gb288, 1, none⟩ = some (.int .u64 a0_1) := hS_
    refine norm_ (a' := ?_) ?_ ?_
    rotate_left
    ·simp only [putAll, Act.put, List.setIfInBounds_toArray, List.set_cons_zero, List.set_cons_succ]
     rfl
    refine one_ (i := 9) (N := none) #[true, true, true, true, true, true, true, true, true, true, false] rfl rfl (one_of HT_.out (by kernel_rfl)) (by decide) (fun K hK => ?_)
    have hs21 := zc0 BK295
    have hfs21 := blk_frozen BK295.out 0
    have hns21_0 := NB288_295.out
    have hns21_1 := NB289_295.out
    have hms21_0 := NB295_288.out
    have hms21_1 := NB295_289.out
    have hs22 := zc1 BK295
    have hfs22 := blk_frozen BK295.out 1
    have hns22_0 := NB288_295.out
    have hns22_1 := NB289_295.out
    have hms22_0 := NB295_288.out
    have hms22_1 := NB295_289.out
    refine skip_ (w1 := ?_) (by rfl) rfl ?_ ?_
    rotate_left
    ·go_simp
     rfl
    refine hK.out _ _ ⟨(zff NB288_295 (zff NB288_295 hHeld.1)), (zff NB288_295 (zff NB288_295 hHeld.2))⟩ (fun hHeld => ?_)
    clear hK K
    refine zpA 10 7 (h := ?_)
    refine done_ (done_of HT_.out (by kernel_rfl)) ?_
    try go_wp2
    generalize hW_ : ((w20.setCell ⟨gb295, 0, none⟩ (.int .u64 t292)).setCell ⟨gb295, 1, none⟩ (.int .u64 t293)) = w23
    replace BK288 := zkg hW_ (zkf (zkf BK288.out NB288_295.out _) NB288_295.out _)
    replace BK289 := zkg hW_ (zkf (zkf BK289.out NB289_295.out _) NB289_295.out _)
    replace BK295 := zkg hW_ (ob := .cells #[.int .u64 t292, .int .u64 t293] 109 (0, 0)) (blk_put (cs := #[.int .u64 t292, .int .u64 0]) (blk_put BK295.out 0 _ rfl) 1 _ rfl)
    replace HB := zkG hW_ (below_set (below_set HB.out GE295.out) GE295.out)
    clear hW_
    replace BK288 := Aside0.mk (blk_drew BK288.out)
    replace BK289 := Aside0.mk (blk_drew BK289.out)
    replace BK295 := Aside0.mk (blk_drew BK295.out)
    replace HB := Aside0.mk (below_drew1 HB.out)
    refine start_ (n := 4) (S := fun w' => w'.cell? ⟨gb295, 0, none⟩ = some (.int .u64 t292) ∧ w'.cell? ⟨gb295, 1, none⟩ = some (.int .u64 t293)) (ds := []) #[false, false, false, false] (by kernel_rfl) rfl rfl (ze2 BK295) (fun hHeld => ?_)
    generalize w23.drew = w24 at BK288 BK289 BK295 HB hHeld ⊢
    refine pure_ (i := 0) (N := some 33) (v := ?_) (a' := ?_) #[true, false, false, false] rfl rfl (by kernel_rfl) (fun _ _ _ h => h) (Or.inl ⟨by rfl, ?_⟩) ?_ ?_
    rotate_left
    ·intro w'
     go_simp
     with_reducible rfl
    rotate_left
    ·simp only [Act.put, List.setIfInBounds_toArray, List.set_cons_zero, List.set_cons_succ, i64_w, i32_w]
     rfl
    refine pure_ (i := 2) (N := some 2) (v := ?_) (a' := ?_) #[true, false, true, false] rfl rfl (by kernel_rfl) (fun _ _ _ h => h) (Or.inl ⟨by rfl, ?_⟩) ?_ ?_
    rotate_left
    ·intro w'
     go_simp
     with_reducible rfl
    rotate_left
    ·simp only [Act.put, List.setIfInBounds_toArray, List.set_cons_zero, List.set_cons_succ, i64_w, i32_w]
     rfl
    refine take_ (i := 1) (N := some 34) (v := ?_) (a' := ?_) #[true, true, true, false] rfl rfl (by kernel_rfl) (fun _ _ _ h => h) (Or.inl ⟨by rfl, ?_⟩) hHeld ?_ ?_
    rotate_left
    ·rintro w' ⟨s0, s1⟩
     go_simp
     with_reducible rfl
    rotate_left
    ·simp only [Act.put, List.setIfInBounds_toArray, List.set_cons_zero, List.set_cons_succ, i64_w, i32_w]
     rfl
    refine one_ (i := 3) (N := none) #[true, true, true, true] rfl rfl (by kernel_rfl) (by decide) (fun K hK => ?_)
    have hs25 := zc0 BK289
    have hfs25 := blk_frozen BK289.out 0
    have hns25_0 := NB288_289.out
    have hns25_2 := NB295_289.out
    have hms25_0 := NB289_288.out
    have hms25_2 := NB289_295.out
    have hs26 := zc1 BK289
    have hfs26 := blk_frozen BK289.out 1
    have hns26_0 := NB288_289.out
    have hns26_2 := NB295_289.out
    have hms26_0 := NB289_288.out
    have hms26_2 := NB289_295.out
    refine skip_ (w1 := ?_) (by rfl) rfl ?_ ?_
    rotate_left
    ·go_simp
     rfl
    refine hK.out _ _ ⟨(zff NB295_289 (zff NB295_289 hHeld.1)), (zff NB295_289 (zff NB295_289 hHeld.2))⟩ (fun hHeld => ?_)
    clear hK K
    refine done_ (by kernel_rfl) ?_
    try go_wp2
    refine bodyPost_ret (results_tc rfl _ _ gb289 109 #[.int .u64 t292, .int .u64 t293] (0, 0) _ rfl (blk_put (cs := #[.int .u64 t292, .int .u64 0]) (blk_put (zkq BK289) 0 _ rfl) 1 _ rfl) Try.underlying109 rfl (by kernel_rfl)) rfl ?_
    exact ⟨zaE, zaB⟩
end Go.Proofs.Ytmadjhmecfbcmaa.F
end
section
namespace Go.Proofs.Ytmadjhmecfbcmaa.F
open Go.RowKit Go.Proofs.YtmadjhmecfbcmaaW.PrintWords Go.Proofs.YtmadjhmecfbcmaaW.PrintLast Go.Proofs.YtmadjhmecfbcmaaW.PrintMore
attribute [local go_sem] max2_int min2_int max_two min_two max_three min_three max_four min_four
set_option linter.unusedVariables false
set_option linter.unusedSimpArgs false
attribute [local go_sem high] eqA109
def soft_Sqrt.T14 : Bool × List (List Nat × List Nat) := (true, [([], []), ([0], [0]), ([], []), ([2], [2]), ([], []), ([3, 4], [3, 4]), ([5], [5]), ([], []), ([], []), ([7, 8], [7, 8]), ([], []), ([1, 6, 9, 10], [1, 6, 9, 10]), ([11], [11]), ([11], [11]), ([12, 11, 0, 1, 2, 3, 4, 5, 6, 7, 8, 9, 10, 11, 12, 13], [12]), ([13, 14, 0, 1, 2, 3, 4, 5, 6, 7, 8, 9, 10, 11, 12, 13, 14], [13])])
def soft_Sqrt.B14 : List Nat := [0, 1, 0, 4, 0, 28, 60, 0, 0, 384, 0, 2047, 4095, 4095, 16383, 32767]
theorem soft_Sqrt.tab14 : rtab .any (opsOf Try.f29 14) = soft_Sqrt.T14 := by kernel_rfl
theorem soft_Sqrt.bits14 : waitsOk soft_Sqrt.T14.2 soft_Sqrt.B14 = true := by kernel_rfl
set_option maxHeartbeats 8000000 in
set_option maxRecDepth 100000 in
theorem soft_Sqrt.calls (k : Nat) (a0 : Int) (a1 : Int) (r1 : Int) (r2 : Int) (w : World) (h : soft_Sqrt.f k a0 a1 = some (r1, r2)) :
  Calls Try.prog 29 #[.int .u64 a0, .int .u8 a1] w fun e w' => e = .returned (.tuple #[.int .u64 r1, .int .u8 r2]) ∧ Below w.heap.size w w' := by
 have hu88 := Try.underlying88
 have hu109 := Try.underlying109
 have HB := Aside0.mk (Below.refl w.heap.size w)
 have H : ((soft_of.f k a0).bind fun bt299 => (if bt299.2.1 = 4 then ((pattern_Quiet.f).bind fun t305 => (some (t305, 0))) else (if bt299.2.1 = 0 then (soft_Sqrt.j0 k a0 a1 (bt299.2.1 == 0) bt299.1 bt299.2.1 bt299.2.2.1 bt299.2.2.2.1 bt299.2.2.2.2) else (if bt299.2.1 = 3 then (soft_Sqrt.j0 k a0 a1 (!bt299.2.2.1) bt299.1 bt299.2.1 bt299.2.2.1 bt299.2.2.2.1 bt299.2.2.2.2) else (soft_Sqrt.j0 k a0 a1 false bt299.1 bt299.2.1 bt299.2.2.1 bt299.2.2.2.1 bt299.2.2.2.2))))) = some (r1, r2) := h
 clear h
 obtain ⟨⟨t299, t300, t301, t302, t303⟩, A3, H⟩ := zbs H
 try dsimp only at H
 by_cases c4 : t300 = 4
 ·rw [if_pos c4] at H
  have c4b0 : (t300 == 4) = true := beq_iff_eq.mpr c4
  have c4b1 : (t300 != 4) = false := bne_eq_false_iff_eq.mpr c4
  clear c4
  obtain ⟨t305, A5, H⟩ := zbs H
  try dsimp only at H
  simp only [Option.some.injEq, Prod.mk.injEq] at H
  obtain ⟨rfl, rfl⟩ := H
  go_enter Try.func29, Try.ntmps29
  go_wp2_with (first | ((with_reducible refine gate_callee (f := 82) rfl ?_); refine zgL 12 Try.func82 (soft_of.calls k a0 t299 t300 t301 t302 t303 _ A3.out) (h := ?_); rintro w6 hb; replace HB := Aside0.mk (below_step zaB hb); (try clear hb)) | ((with_reducible refine gate_dst (N := 6) rfl ?_); refine zbx 6 #[.int .u64 0, .int .u8 0, .bool false, .int .u64 0, .int .i64 0] 88 (h := ?_); intro gb304 hg w7 hbox hb; have GW304 := zkZ hg (zaB (p := Below w.heap.size w _)); have GE304 := GW304; replace HB := Aside0.mk (below_step zaB hb); have BK304 := Aside0.mk (hbox); clear hb hbox hg; have hcz8_0 := zc0 BK304; have hcz8_1 := zc1 BK304; have hcz8_2 := zc2 BK304; have hcz8_3 := zc3 BK304; have hcz8_4 := zc4 BK304; have hfz8_0 := blk_frozen BK304.out 0; have hfz8_1 := blk_frozen BK304.out 1; have hfz8_2 := blk_frozen BK304.out 2; have hfz8_3 := blk_frozen BK304.out 3; have hfz8_4 := blk_frozen BK304.out 4) | ((with_reducible refine gate_callee (f := 81) rfl ?_); refine zgL 17 Try.func81 (pattern_Quiet.calls  t305 _ A5.out) (h := ?_); rintro w' ⟨nd, rfl⟩))
  go_ret2
  exact ⟨zaE, zaB⟩
 ·rw [if_neg c4] at H
  have c4b0 : (t300 == 4) = false := beq_eq_false_iff_ne.mpr c4
  have c4b1 : (t300 != 4) = true := bne_iff_ne.mpr c4
  have HC9 := Aside0.mk H
  clear H
  go_enter Try.func29, Try.ntmps29
  go_upto_if 18 with (first | ((with_reducible refine gate_callee (f := 82) rfl ?_); refine zgL 12 Try.func82 (soft_of.calls k a0 t299 t300 t301 t302 t303 _ A3.out) (h := ?_); rintro w10 hb; replace HB := Aside0.mk (below_step zaB hb); (try clear hb)) | ((with_reducible refine gate_dst (N := 6) rfl ?_); refine zbx 6 #[.int .u64 0, .int .u8 0, .bool false, .int .u64 0, .int .i64 0] 88 (h := ?_); intro gb304 hg w11 hbox hb; have GW304 := zkZ hg (zaB (p := Below w.heap.size w _)); have GE304 := GW304; replace HB := Aside0.mk (below_step zaB hb); have BK304 := Aside0.mk (hbox); clear hb hbox hg; have hcz12_0 := zc0 BK304; have hcz12_1 := zc1 BK304; have hcz12_2 := zc2 BK304; have hcz12_3 := zc3 BK304; have hcz12_4 := zc4 BK304; have hfz12_0 := blk_frozen BK304.out 0; have hfz12_1 := blk_frozen BK304.out 1; have hfz12_2 := blk_frozen BK304.out 2; have hfz12_3 := blk_frozen BK304.out 3; have hfz12_4 := blk_frozen BK304.out 4))
  (try simp only [Act.put, List.setIfInBounds_toArray, List.set_cons_zero, List.set_cons_succ])
  go_cut [18] (fun v18 wc => ∃ (kq : Nat) (x18_8 : Bool), v18 = .bool x18_8 ∧ Aside0 (soft_Sqrt.j0 kq a0 a1 x18_8 t299 t300 t301 t302 t303 = some (r1, r2)) ∧ Aside0 (kq ≤ k) ∧ Aside0 (wc.heap[gb304]? = some (.cells #[.int .u64 t299, .int .u8 t300, .bool t301, .int .u64 t302, .int .i64 t303] 88 (0, 0))) ∧ Aside0 (Below w.heap.size w wc))
  case first =>
   have H := HC9.out
   clear HC9
   by_cases c13 : t300 = 0
   ·rw [if_pos c13] at H
    have c13b0 : (t300 == 0) = true := beq_iff_eq.mpr c13
    have c13b1 : (t300 != 0) = false := bne_eq_false_iff_eq.mpr c13
    clear c13
    (first | rw [c13b0] | (simp only [i64_w, i32_w]; rw [c13b0]) | skip)
    have H' := Aside0.mk H
    clear H
    go_wp2
    go_meet
    case rel => exact ⟨_, ((t300 == 0)), (by first | rfl | (simp; done) | (simp [*]; done)), H', ⟨by first | omega | exact Nat.le_refl _⟩, ⟨(blk_put (cs := #[.int .u64 t299, .int .u8 t300, .bool t301, .int .u64 t302, .int .i64 0]) (blk_put (cs := #[.int .u64 t299, .int .u8 t300, .bool t301, .int .u64 0, .int .i64 0]) (blk_put (cs := #[.int .u64 t299, .int .u8 t300, .bool false, .int .u64 0, .int .i64 0]) (blk_put (cs := #[.int .u64 t299, .int .u8 0, .bool false, .int .u64 0, .int .i64 0]) (blk_put (zkq BK304) 0 _ rfl) 1 _ rfl) 2 _ rfl) 3 _ rfl) 4 _ rfl)⟩, ⟨zaB⟩⟩
   ·rw [if_neg c13] at H
    have c13b0 : (t300 == 0) = false := beq_eq_false_iff_ne.mpr c13
    have c13b1 : (t300 != 0) = true := bne_iff_ne.mpr c13
    (first | rw [c13b0] | (simp only [i64_w, i32_w]; rw [c13b0]) | skip)
    by_cases c14 : t300 = 3
    ·rw [if_pos c14] at H
     have c14b0 : (t300 == 3) = true := beq_iff_eq.mpr c14
     have c14b1 : (t300 != 3) = false := bne_eq_false_iff_eq.mpr c14
     clear c14
     have H' := Aside0.mk H
     clear H
     have hcz15_0 := zc0 BK304
     have hcz15_1 := zc1 BK304
     have hcz15_2 := zc2 BK304
     have hcz15_3 := zc3 BK304
     have hcz15_4 := zc4 BK304
     have hfz15_0 := blk_frozen BK304.out 0
     have hfz15_1 := blk_frozen BK304.out 1
     have hfz15_2 := blk_frozen BK304.out 2
     have hfz15_3 := blk_frozen BK304.out 3
     have hfz15_4 := blk_frozen BK304.out 4
     go_wp2
     go_meet
     case rel => exact ⟨_, (!t301), (by first | rfl | (simp; done) | (simp [*]; done)), H', ⟨by first | omega | exact Nat.le_refl _⟩, ⟨(blk_put (cs := #[.int .u64 t299, .int .u8 t300, .bool t301, .int .u64 t302, .int .i64 0]) (blk_put (cs := #[.int .u64 t299, .int .u8 t300, .bool t301, .int .u64 0, .int .i64 0]) (blk_put (cs := #[.int .u64 t299, .int .u8 t300, .bool false, .int .u64 0, .int .i64 0]) (blk_put (cs := #[.int .u64 t299, .int .u8 0, .bool false, .int .u64 0, .int .i64 0]) (blk_put (zkq BK304) 0 _ rfl) 1 _ rfl) 2 _ rfl) 3 _ rfl) 4 _ rfl)⟩, ⟨zaB⟩⟩
    ·rw [if_neg c14] at H
     have c14b0 : (t300 == 3) = false := beq_eq_false_iff_ne.mpr c14
     have c14b1 : (t300 != 3) = true := bne_iff_ne.mpr c14
     have H' := Aside0.mk H
     clear H
     have hcz16_0 := zc0 BK304
     have hcz16_1 := zc1 BK304
     have hcz16_2 := zc2 BK304
     have hcz16_3 := zc3 BK304
     have hcz16_4 := zc4 BK304
     have hfz16_0 := blk_frozen BK304.out 0
     have hfz16_1 := blk_frozen BK304.out 1
     have hfz16_2 := blk_frozen BK304.out 2
     have hfz16_3 := blk_frozen BK304.out 3
     have hfz16_4 := blk_frozen BK304.out 4
     go_wp2
     go_meet
     case rel => exact ⟨_, (false), (by first | rfl | (simp; done) | (simp [*]; done)), H', ⟨by first | omega | exact Nat.le_refl _⟩, ⟨(blk_put (cs := #[.int .u64 t299, .int .u8 t300, .bool t301, .int .u64 t302, .int .i64 0]) (blk_put (cs := #[.int .u64 t299, .int .u8 t300, .bool t301, .int .u64 0, .int .i64 0]) (blk_put (cs := #[.int .u64 t299, .int .u8 t300, .bool false, .int .u64 0, .int .i64 0]) (blk_put (cs := #[.int .u64 t299, .int .u8 0, .bool false, .int .u64 0, .int .i64 0]) (blk_put (zkq BK304) 0 _ rfl) 1 _ rfl) 2 _ rfl) 3 _ rfl) 4 _ rfl)⟩, ⟨zaB⟩⟩
  case rest =>
   clear HC9
   try clear c1
   try clear c2
   try clear p2
   try clear c4
   try clear c4b0
   try clear c4b1
   try clear c8
   try clear c13
   try clear c13b0
   try clear c13b1
   try clear c14
   try clear c14b0
   try clear c14b1
   try clear hcz12_0
   try clear hcz12_1
   try clear hcz12_2
   try clear hcz12_3
   try clear hcz12_4
   try clear hcz15_0
   try clear hcz15_1
   try clear hcz15_2
   try clear hcz15_3
   try clear hcz15_4
   try clear hcz16_0
   try clear hcz16_1
   try clear hcz16_2
   try clear hcz16_3
   try clear hcz16_4
   try clear hcz8_0
   try clear hcz8_1
   try clear hcz8_2
   try clear hcz8_3
   try clear hcz8_4
   try clear hfz12_0
   try clear hfz12_1
   try clear hfz12_2
   try clear hfz12_3
   try clear hfz12_4
   try clear hfz15_0
   try clear hfz15_1
   try clear hfz15_2
   try clear hfz15_3
   try clear hfz15_4
   try clear hfz16_0
   try clear hfz16_1
   try clear hfz16_2
   try clear hfz16_3
   try clear hfz16_4
   try clear hfz8_0
   try clear hfz8_1
   try clear hfz8_2
   try clear hfz8_3
   try clear hfz8_4
   obtain ⟨kq, x18_8, rfl, HA, HJ8, BK304, HB⟩ := hcut
   cases kq with
   | zero => exact absurd HA.out (by simp [soft_Sqrt.j0])
   | succ kj8 =>
    have H := HA.out
    clear HA
    simp only [soft_Sqrt.j0] at H
    by_cases c17 : x18_8 = true
    ·subst c17
     have H1 : (some (a0, 0)) = some (r1, r2) := by rw [if_pos rfl] at H; exact H
     clear H
     have H := H1
     clear H1
     simp only [Option.some.injEq, Prod.mk.injEq] at H
     obtain ⟨rfl, rfl⟩ := H
     go_wp2
     go_ret2
     exact ⟨zaE, zaB⟩
    ·replace c17 := Bool.eq_false_iff.mpr c17
     subst c17
     have H1 : (if t301 = true then ((soft_invalid.f).bind fun bt306 => (some (bt306.1, bt306.2))) else ((wide_U128_Len.f 0 t302).bind fun t309 => (if (Int.tmod (wrap64 (t303 - (wrap64 (126 - t309)))) 2) = 0 then ((wide_U128_Shl.f kj8 0 t302 (wrap64 (126 - t309))).bind fun bt310 => ((wide_U128_Sqrt.f kj8 bt310.1 bt310.2).bind fun bt312 => ((round_Round.f kj8 false 0 bt312.1 (wrap64 (Int.tdiv (wrap64 (t303 - (wrap64 (126 - t309)))) 2)) (!(bt312.2.1 == 0) || (!(bt312.2.2 == 0))) a1).bind fun bt316 => (some (bt316.1, bt316.2))))) else ((wide_U128_Shl.f kj8 0 t302 (wrap64 ((wrap64 (126 - t309)) + 1))).bind fun bt318 => ((wide_U128_Sqrt.f kj8 bt318.1 bt318.2).bind fun bt320 => ((round_Round.f kj8 false 0 bt320.1 (wrap64 (Int.tdiv (wrap64 (t303 - (wrap64 ((wrap64 (126 - t309)) + 1)))) 2)) (!(bt320.2.1 == 0) || (!(bt320.2.2 == 0))) a1).bind fun bt324 => (some (bt324.1, bt324.2)))))))) = some (r1, r2) := by rw [if_neg (show ¬ (false = true) by decide)] at H; exact H
     clear H
     have H := H1
     clear H1
     by_cases c18 : t301 = true
     ·subst c18
      have H1 : ((soft_invalid.f).bind fun bt306 => (some (bt306.1, bt306.2))) = some (r1, r2) := by rw [if_pos rfl] at H; exact H
      clear H
      have H := H1
      clear H1
      obtain ⟨⟨t306, t307⟩, A19, H⟩ := zbs H
      try dsimp only at H
      simp only [Option.some.injEq, Prod.mk.injEq] at H
      obtain ⟨rfl, rfl⟩ := H
      have hcz20_0 := zc0 BK304
      have hcz20_1 := zc1 BK304
      have hcz20_2 := zc2 BK304
      have hcz20_3 := zc3 BK304
      have hcz20_4 := zc4 BK304
      have hfz20_0 := blk_frozen BK304.out 0
      have hfz20_1 := blk_frozen BK304.out 1
      have hfz20_2 := blk_frozen BK304.out 2
      have hfz20_3 := blk_frozen BK304.out 3
      have hfz20_4 := blk_frozen BK304.out 4
      go_wp2_with (first | ((with_reducible refine gate_callee (f := 84) rfl ?_); refine zgL 34 Try.func84 (soft_invalid.calls  t306 t307 _ A19.out) (h := ?_); rintro w' ⟨nd, rfl⟩))
      go_ret2
      exact ⟨zaE, zaB⟩
     ·replace c18 := Bool.eq_false_iff.mpr c18
      subst c18
      have H1 : ((wide_U128_Len.f 0 t302).bind fun t309 => (if (Int.tmod (wrap64 (t303 - (wrap64 (126 - t309)))) 2) = 0 then ((wide_U128_Shl.f kj8 0 t302 (wrap64 (126 - t309))).bind fun bt310 => ((wide_U128_Sqrt.f kj8 bt310.1 bt310.2).bind fun bt312 => ((round_Round.f kj8 false 0 bt312.1 (wrap64 (Int.tdiv (wrap64 (t303 - (wrap64 (126 - t309)))) 2)) (!(bt312.2.1 == 0) || (!(bt312.2.2 == 0))) a1).bind fun bt316 => (some (bt316.1, bt316.2))))) else ((wide_U128_Shl.f kj8 0 t302 (wrap64 ((wrap64 (126 - t309)) + 1))).bind fun bt318 => ((wide_U128_Sqrt.f kj8 bt318.1 bt318.2).bind fun bt320 => ((round_Round.f kj8 false 0 bt320.1 (wrap64 (Int.tdiv (wrap64 (t303 - (wrap64 ((wrap64 (126 - t309)) + 1)))) 2)) (!(bt320.2.1 == 0) || (!(bt320.2.2 == 0))) a1).bind fun bt324 => (some (bt324.1, bt324.2))))))) = some (r1, r2) := by rw [if_neg (show ¬ (false = true) by decide)] at H; exact H
      clear H
      have H := H1
      clear H1
      obtain ⟨t309, A21, H⟩ := zbs H
      try dsimp only at H
      by_cases c22 : (Int.tmod (wrap64 (t303 - (wrap64 (126 - t309)))) 2) = 0
      ·rw [if_pos c22] at H
       have c22b0 : ((Int.tmod (wrap64 (t303 - (wrap64 (126 - t309)))) 2) == 0) = true := beq_iff_eq.mpr c22
       have c22b1 : ((Int.tmod (wrap64 (t303 - (wrap64 (126 - t309)))) 2) != 0) = false := bne_eq_false_iff_eq.mpr c22
       clear c22
       obtain ⟨⟨t310, t311⟩, A23, H⟩ := zbs H
       try dsimp only at H
       obtain ⟨⟨t312, t313, t314⟩, A24, H⟩ := zbs H
       try dsimp only at H
       obtain ⟨⟨t316, t317⟩, A25, H⟩ := zbs H
       try dsimp only at H
       simp only [Option.some.injEq, Prod.mk.injEq] at H
       obtain ⟨rfl, rfl⟩ := H
       have hcz26_0 := zc0 BK304
       have hcz26_1 := zc1 BK304
       have hcz26_2 := zc2 BK304
       have hcz26_3 := zc3 BK304
       have hcz26_4 := zc4 BK304
       have hfz26_0 := blk_frozen BK304.out 0
       have hfz26_1 := blk_frozen BK304.out 1
       have hfz26_2 := blk_frozen BK304.out 2
       have hfz26_3 := blk_frozen BK304.out 3
       have hfz26_4 := blk_frozen BK304.out 4
       try go_wp2_with (first | ((with_reducible refine gate_dst (N := 7) rfl ?_); refine zbx 7 #[.int .u64 0, .int .u64 0] 109 (h := ?_); intro gb308 hg w27 hbox hb; have GW308 := zkz HB hg; have GE308 := GW308; have NB304_308 := zkl BK304 hg; have NB308_304 := zkr BK304 hg; replace BK304 := zkb BK304 hb; replace HB := zkB HB hb; have BK308 := Aside0.mk (hbox); clear hb hbox hg; have hnb28 := NB308_304.out; have hnc28 := NB304_308.out; have hcz29_0 := zc0 BK308; have hcz29_1 := zc1 BK308; have hfz29_0 := blk_frozen BK308.out 0; have hfz29_1 := blk_frozen BK308.out 1) | ((with_reducible refine gate_callee (f := 103) rfl ?_); refine zgL 41 Try.func103 (wide_U128_Len.calls 0 t302 t309 _ A21.out) (h := ?_); rintro w30 hb; replace BK304 := Aside0.mk (blk_below (zkf (zkf BK304.out NB304_308.out _) NB304_308.out _) hb); replace BK308 := Aside0.mk (blk_below (o := .cells #[.int .u64 0, .int .u64 t302] 109 (0, 0)) (blk_put (cs := #[.int .u64 0, .int .u64 0]) (blk_put BK308.out 0 _ rfl) 1 _ rfl) hb); replace HB := Aside0.mk (below_step (below_set (below_set HB.out GE308.out) GE308.out) hb); (try clear hb); have hcz31_0 := zc0 BK304; have hcz31_1 := zc1 BK304; have hcz31_2 := zc2 BK304; have hcz31_3 := zc3 BK304; have hcz31_4 := zc4 BK304; have hfz31_0 := blk_frozen BK304.out 0; have hfz31_1 := blk_frozen BK304.out 1; have hfz31_2 := blk_frozen BK304.out 2; have hfz31_3 := blk_frozen BK304.out 3; have hfz31_4 := blk_frozen BK304.out 4; have hcz32_0 := zc0 BK308; have hcz32_1 := zc1 BK308; have hfz32_0 := blk_frozen BK308.out 0; have hfz32_1 := blk_frozen BK308.out 1) | ((with_reducible refine gate_callee (f := 106) rfl ?_); refine zgL 54 Try.func106 (wide_U128_Shl.calls kj8 0 t302 (wrap64 (126 - t309)) t310 t311 _ A23.out) (h := ?_); rintro w33 hb; replace BK304 := zkb BK304 hb; replace BK308 := zkb BK308 hb; replace HB := zkB HB hb; (try clear hb)) | ((with_reducible refine gate_callee (f := 107) rfl ?_); refine zgL 55 Try.func107 (wide_U128_Sqrt.calls kj8 t310 t311 t312 t313 t314 _ A24.out) (h := ?_); rintro w34 hb; replace BK304 := zkb BK304 hb; replace BK308 := zkb BK308 hb; replace HB := zkB HB hb; (try clear hb)) | ((with_reducible refine gate_dst (N := 10) rfl ?_); refine zbx 10 #[.int .u64 0, .int .u64 0] 109 (h := ?_); intro gb315 hg w35 hbox hb; have GW315 := zkz HB hg; have GE315 := GW315; have NB304_315 := zkl BK304 hg; have NB315_304 := zkr BK304 hg; have NB308_315 := zkl BK308 hg; have NB315_308 := zkr BK308 hg; replace BK304 := zkb BK304 hb; replace BK308 := zkb BK308 hb; replace HB := zkB HB hb; have BK315 := Aside0.mk (hbox); clear hb hbox hg; have hnb36 := NB315_304.out; have hnc36 := NB304_315.out; have hnb37 := NB315_308.out; have hnc37 := NB308_315.out; have hcz38_0 := zc0 BK315; have hcz38_1 := zc1 BK315; have hfz38_0 := blk_frozen BK315.out 0; have hfz38_1 := blk_frozen BK315.out 1))
       generalize hW_ : ((w35.setCell ⟨gb315, 0, none⟩ (.int .u64 t313)).setCell ⟨gb315, 1, none⟩ (.int .u64 t314)) = w39
       replace BK304 := zkg hW_ (zkf (zkf BK304.out NB304_315.out _) NB304_315.out _)
       replace BK308 := zkg hW_ (zkf (zkf BK308.out NB308_315.out _) NB308_315.out _)
       replace BK315 := zkg hW_ (ob := .cells #[.int .u64 t313, .int .u64 t314] 109 (0, 0)) (blk_put (cs := #[.int .u64 t313, .int .u64 0]) (blk_put BK315.out 0 _ rfl) 1 _ rfl)
       replace HB := zkG hW_ (below_set (below_set HB.out GE315.out) GE315.out)
       clear hW_
       replace BK304 := Aside0.mk (blk_drew BK304.out)
       replace BK308 := Aside0.mk (blk_drew BK308.out)
       replace BK315 := Aside0.mk (blk_drew BK315.out)
       replace HB := Aside0.mk (below_drew1 HB.out)
       refine start_ (n := 16) (S := fun w' => w'.cell? ⟨gb304, 0, none⟩ = some (.int .u64 t299) ∧ w'.cell? ⟨gb304, 1, none⟩ = some (.int .u8 t300) ∧ w'.cell? ⟨gb304, 2, none⟩ = some (.bool false) ∧ w'.cell? ⟨gb304, 3, none⟩ = some (.int .u64 t302) ∧ w'.cell? ⟨gb304, 4, none⟩ = some (.int .i64 t303) ∧ w'.cell? ⟨gb315, 0, none⟩ = some (.int .u64 t313) ∧ w'.cell? ⟨gb315, 1, none⟩ = some (.int .u64 t314)) (ds := []) #[false, false, false, false, false, false, false, false, false, false, false, false, false, false, false, false] (by kernel_rfl) rfl rfl (zk5 BK304 (ze2 BK315)) (fun hHeld => ?_); refine with_tabW soft_Sqrt.tab14 soft_Sqrt.bits14 (fun HT_ HW_ => ?_)
       generalize w39.drew = w40 at BK304 BK308 BK315 HB hHeld ⊢
       refine zpA 0 58 (h := ?_)
       refine zpA 1 59 (h := ?_)
       refine zpA 2 60 (h := ?_)
       refine zpA 4 62 (h := ?_)
       refine zpA 8 66 (h := ?_)
       refine zpA 10 68 (h := ?_)
       refine ztA 3 61 (h := ?_)
       refine zpA 5 63 (h := ?_)
       refine zpA 6 64 (h := ?_)
       refine ztA 7 65 (h := ?_)
       refine zpA 9 67 (h := ?_)
       refine zoA 11 69 (h := fun K hK => ?_)
       refine zgA Try.func99 (round_Round.calls kj8 false 0 t312 (wrap64 (Int.tdiv (wrap64 (t303 - (wrap64 (126 - t309)))) 2)) (!(t313 == 0) || (!(t314 == 0))) a1 t316 t317 _ A25.out) (h := ?_)
       rintro w41 hb
       replace BK304 := zkb BK304 hb
       replace BK308 := zkb BK308 hb
       replace BK315 := zkb BK315 hb
       replace HB := zkB HB hb
       (try clear hb)
       refine hK.out _ _ (zk5 BK304 (ze2 BK315)) (fun hHeld => ?_)
       clear hK K
       refine znA 69 (h := ?_)
       refine zpA 12 70 (h := ?_)
       refine zpA 13 71 (h := ?_)
       refine zpA 14 4 (h := ?_)
       refine zpA 15 5 (h := ?_)
       refine done_ (done_of HT_.out (by kernel_rfl)) ?_
       try go_wp2
       go_ret2
       exact ⟨zaE, zaB⟩
      ·rw [if_neg c22] at H
       have c22b0 : ((Int.tmod (wrap64 (t303 - (wrap64 (126 - t309)))) 2) == 0) = false := beq_eq_false_iff_ne.mpr c22
       have c22b1 : ((Int.tmod (wrap64 (t303 - (wrap64 (126 - t309)))) 2) != 0) = true := bne_iff_ne.mpr c22
       obtain ⟨⟨t318, t319⟩, A42, H⟩ := zbs H
       try dsimp only at H
       obtain ⟨⟨t320, t321, t322⟩, A43, H⟩ := zbs H
       try dsimp only at H
       obtain ⟨⟨t324, t325⟩, A44, H⟩ := zbs H
       try dsimp only at H
       simp only [Option.some.injEq, Prod.mk.injEq] at H
       obtain ⟨rfl, rfl⟩ := H
       have hcz45_0 := zc0 BK304
       have hcz45_1 := zc1 BK304
       have hcz45_2 := zc2 BK304
       have hcz45_3 := zc3 BK304
       have hcz45_4 := zc4 BK304
       have hfz45_0 := blk_frozen BK304.out 0
       have hfz45_1 := blk_frozen BK304.out 1
       have hfz45_2 := blk_frozen BK304.out 2
       have hfz45_3 := blk_frozen BK304.out 3
       have hfz45_4 := blk_frozen BK304.out 4
       try go_wp2_with (first | ((with_reducible refine gate_dst (N := 7) rfl ?_); refine zbx 7 #[.int .u64 0, .int .u64 0] 109 (h := ?_); intro gb308 hg w46 hbox hb; have GW308 := zkz HB hg; have GE308 := GW308; have NB304_308 := zkl BK304 hg; have NB308_304 := zkr BK304 hg; replace BK304 := zkb BK304 hb; replace HB := zkB HB hb; have BK308 := Aside0.mk (hbox); clear hb hbox hg; have hnb47 := NB308_304.out; have hnc47 := NB304_308.out; have hcz48_0 := zc0 BK308; have hcz48_1 := zc1 BK308; have hfz48_0 := blk_frozen BK308.out 0; have hfz48_1 := blk_frozen BK308.out 1) | ((with_reducible refine gate_callee (f := 103) rfl ?_); refine zgL 41 Try.func103 (wide_U128_Len.calls 0 t302 t309 _ A21.out) (h := ?_); rintro w49 hb; replace BK304 := Aside0.mk (blk_below (zkf (zkf BK304.out NB304_308.out _) NB304_308.out _) hb); replace BK308 := Aside0.mk (blk_below (o := .cells #[.int .u64 0, .int .u64 t302] 109 (0, 0)) (blk_put (cs := #[.int .u64 0, .int .u64 0]) (blk_put BK308.out 0 _ rfl) 1 _ rfl) hb); replace HB := Aside0.mk (below_step (below_set (below_set HB.out GE308.out) GE308.out) hb); (try clear hb); have hcz50_0 := zc0 BK304; have hcz50_1 := zc1 BK304; have hcz50_2 := zc2 BK304; have hcz50_3 := zc3 BK304; have hcz50_4 := zc4 BK304; have hfz50_0 := blk_frozen BK304.out 0; have hfz50_1 := blk_frozen BK304.out 1; have hfz50_2 := blk_frozen BK304.out 2; have hfz50_3 := blk_frozen BK304.out 3; have hfz50_4 := blk_frozen BK304.out 4; have hcz51_0 := zc0 BK308; have hcz51_1 := zc1 BK308; have hfz51_0 := blk_frozen BK308.out 0; have hfz51_1 := blk_frozen BK308.out 1) | ((with_reducible refine gate_callee (f := 106) rfl ?_); refine zgL 54 Try.func106 (wide_U128_Shl.calls kj8 0 t302 (wrap64 ((wrap64 (126 - t309)) + 1)) t318 t319 _ A42.out) (h := ?_); rintro w52 hb; replace BK304 := zkb BK304 hb; replace BK308 := zkb BK308 hb; replace HB := zkB HB hb; (try clear hb)) | ((with_reducible refine gate_callee (f := 107) rfl ?_); refine zgL 55 Try.func107 (wide_U128_Sqrt.calls kj8 t318 t319 t320 t321 t322 _ A43.out) (h := ?_); rintro w53 hb; replace BK304 := zkb BK304 hb; replace BK308 := zkb BK308 hb; replace HB := zkB HB hb; (try clear hb)) | ((with_reducible refine gate_dst (N := 10) rfl ?_); refine zbx 10 #[.int .u64 0, .int .u64 0] 109 (h := ?_); intro gb323 hg w54 hbox hb; have GW323 := zkz HB hg; have GE323 := GW323; have NB304_323 := zkl BK304 hg; have NB323_304 := zkr BK304 hg; have NB308_323 := zkl BK308 hg; have NB323_308 := zkr BK308 hg; replace BK304 := zkb BK304 hb; replace BK308 := zkb BK308 hb; replace HB := zkB HB hb; have BK323 := Aside0.mk (hbox); clear hb hbox hg; have hnb55 := NB323_304.out; have hnc55 := NB304_323.out; have hnb56 := NB323_308.out; have hnc56 := NB308_323.out; have hcz57_0 := zc0 BK323; have hcz57_1 := zc1 BK323; have hfz57_0 := blk_frozen BK323.out 0; have hfz57_1 := blk_frozen BK323.out 1))
       generalize hW_ : ((w54.setCell ⟨gb323, 0, none⟩ (.int .u64 t321)).setCell ⟨gb323, 1, none⟩ (.int .u64 t322)) = w58
       replace BK304 := zkg hW_ (zkf (zkf BK304.out NB304_323.out _) NB304_323.out _)
       replace BK308 := zkg hW_ (zkf (zkf BK308.out NB308_323.out _) NB308_323.out _)
       replace BK323 := zkg hW_ (ob := .cells #[.int .u64 t321, .int .u64 t322] 109 (0, 0)) (blk_put (cs := #[.int .u64 t321, .int .u64 0]) (blk_put BK323.out 0 _ rfl) 1 _ rfl)
       replace HB := zkG hW_ (below_set (below_set HB.out GE323.out) GE323.out)
       clear hW_
       replace BK304 := Aside0.mk (blk_drew BK304.out)
       replace BK308 := Aside0.mk (blk_drew BK308.out)
       replace BK323 := Aside0.mk (blk_drew BK323.out)
       replace HB := Aside0.mk (below_drew1 HB.out)
       refine start_ (n := 16) (S := fun w' => w'.cell? ⟨gb304, 0, none⟩ = some (.int .u64 t299) ∧ w'.cell? ⟨gb304, 1, none⟩ = some (.int .u8 t300) ∧ w'.cell? ⟨gb304, 2, none⟩ = some (.bool false) ∧ w'.cell? ⟨gb304, 3, none⟩ = some (.int .u64 t302) ∧ w'.cell? ⟨gb304, 4, none⟩ = some (.int .i64 t303) ∧ w'.cell? ⟨gb323, 0, none⟩ = some (.int .u64 t321) ∧ w'.cell? ⟨gb323, 1, none⟩ = some (.int .u64 t322)) (ds := []) #[false, false, false, false, false, false, false, false, false, false, false, false, false, false, false, false] (by kernel_rfl) rfl rfl (zk5 BK304 (ze2 BK323)) (fun hHeld => ?_); refine with_tabW soft_Sqrt.tab14 soft_Sqrt.bits14 (fun HT_ HW_ => ?_)
       generalize w58.drew = w59 at BK304 BK308 BK323 HB hHeld ⊢
       refine zpA 0 58 (h := ?_)
       refine zpA 1 59 (h := ?_)
       refine zpA 2 60 (h := ?_)
       refine zpA 4 62 (h := ?_)
       refine zpA 8 66 (h := ?_)
       refine zpA 10 68 (h := ?_)
       refine ztA 3 61 (h := ?_)
       refine zpA 5 63 (h := ?_)
       refine zpA 6 64 (h := ?_)
       refine ztA 7 65 (h := ?_)
       refine zpA 9 67 (h := ?_)
       refine zoA 11 69 (h := fun K hK => ?_)
       refine zgA Try.func99 (round_Round.calls kj8 false 0 t320 (wrap64 (Int.tdiv (wrap64 (t303 - (wrap64 ((wrap64 (126 - t309)) + 1)))) 2)) (!(t321 == 0) || (!(t322 == 0))) a1 t324 t325 _ A44.out) (h := ?_)
       rintro w60 hb
       replace BK304 := zkb BK304 hb
       replace BK308 := zkb BK308 hb
       replace BK323 := zkb BK323 hb
       replace HB := zkB HB hb
       (try clear hb)
       refine hK.out _ _ (zk5 BK304 (ze2 BK323)) (fun hHeld => ?_)
       clear hK K
       refine znA 69 (h := ?_)
       refine zpA 12 70 (h := ?_)
       refine zpA 13 71 (h := ?_)
       refine zpA 14 4 (h := ?_)
       refine zpA 15 5 (h := ?_)
       refine done_ (done_of HT_.out (by kernel_rfl)) ?_
       try go_wp2
       go_ret2
       exact ⟨zaE, zaB⟩
end Go.Proofs.Ytmadjhmecfbcmaa.F
end
section
namespace Go.Proofs.Ytmadjhmecfbcmaa.F
open Go.RowKit Go.Proofs.YtmadjhmecfbcmaaW.PrintWords Go.Proofs.YtmadjhmecfbcmaaW.PrintLast Go.Proofs.YtmadjhmecfbcmaaW.PrintMore
attribute [local go_sem] max2_int min2_int max_two min_two max_three min_three max_four min_four
set_option linter.unusedVariables false
set_option linter.unusedSimpArgs false
set_option maxHeartbeats 8000000 in
set_option maxRecDepth 100000 in
theorem flyballlaw06_works.calls (k : Nat)  (r : Bool) (w : World) (h : flyballlaw06_works.f k  = some r) :
  Calls Try.prog 20 #[] w fun e w' => e = .returned (.bool r) ∧ Below w.heap.size w w' := by
 have HB := Aside0.mk (Below.refl w.heap.size w)
 have H : ((soft_Add.f k 4607182418800017408 4368491638549381120 0).bind fun bt329 => ((soft_Add.f k 4607182418800017408 4368491638549381120 1).bind fun bt331 => ((soft_Sub.f k 4607182418800017408 4607182418800017408 0).bind fun bt333 => ((soft_Sub.f k 4607182418800017408 4607182418800017408 2).bind fun bt335 => ((soft_Div.f k 13830554455654793216 0 0).bind fun bt337 => ((soft_Sqrt.f k 4611686018427387904 0).bind fun bt339 => ((pattern_Inf.f k false).bind fun t341 => ((soft_Mul.f k 0 t341 0).bind fun bt342 => ((soft_Sum.f k 0 (([4607182418800017408, 4607182418800017408, 4607182418800017408] : List Int))).bind fun t347 => (if bt329.1 = 4607182418800017408 then (if bt329.2 = 1 then (if bt331.1 = 4607182418800017409 then (if bt333.1 = 0 then (if bt335.1 = 9223372036854775808 then ((pattern_Inf.f k true).bind fun t348 => (if bt337.1 = t348 then (if bt337.2 = 8 then (if bt339.1 = 4609047870845172685 then ((pattern_Quiet.f).bind fun t349 => (if bt342.1 = t349 then (if bt342.2 = 16 then (some (t347 == 4613937818241073152)) else (some false)) else (some false))) else (some false)) else (some false)) else (some false))) else (some false)) else (some false)) else (some false)) else (some false)) else (some false))))))))))) = some r := h
 clear h
 obtain ⟨⟨t329, t330⟩, A1, H⟩ := zbs H
 try dsimp only at H
 obtain ⟨⟨t331, t332⟩, A2, H⟩ := zbs H
 try dsimp only at H
 obtain ⟨⟨t333, t334⟩, A3, H⟩ := zbs H
 try dsimp only at H
 obtain ⟨⟨t335, t336⟩, A4, H⟩ := zbs H
 try dsimp only at H
 obtain ⟨⟨t337, t338⟩, A5, H⟩ := zbs H
 try dsimp only at H
 obtain ⟨⟨t339, t340⟩, A6, H⟩ := zbs H
 try dsimp only at H
 obtain ⟨t341, A7, H⟩ := zbs H
 try dsimp only at H
 obtain ⟨⟨t342, t343⟩, A8, H⟩ := zbs H
 try dsimp only at H
 obtain ⟨y344, hy344⟩ : ∃ y_ : List Int, y_ = (([4607182418800017408, 4607182418800017408, 4607182418800017408] : List Int)) := ⟨_, rfl⟩
 replace H : ((soft_Sum.f k 0 y344).bind fun t347 => (if t329 = 4607182418800017408 then (if t330 = 1 then (if t331 = 4607182418800017409 then (if t333 = 0 then (if t335 = 9223372036854775808 then ((pattern_Inf.f k true).bind fun t348 => (if t337 = t348 then (if t338 = 8 then (if t339 = 4609047870845172685 then ((pattern_Quiet.f).bind fun t349 => (if t342 = t349 then (if t343 = 16 then (some (t347 == 4613937818241073152)) else (some false)) else (some false))) else (some false)) else (some false)) else (some false))) else (some false)) else (some false)) else (some false)) else (some false)) else (some false))) = some r := by first | (rw [hy344]; with_reducible exact H) | (have H2_ := (Option.bind_some _ _).symm.trans H; rw [hy344]; with_reducible exact H2_) | (have H2_ := (Option.bind_some _ _).symm.trans H; with_reducible exact H2_) | with_reducible exact H | (rw [hy344]; exact H) | exact H
 have Ny344 := Aside0.mk hy344
 clear hy344
 obtain ⟨t347, A9, H⟩ := zbs H
 try dsimp only at H
 by_cases c10 : t329 = 4607182418800017408
 ·rw [if_pos c10] at H
  have c10b0 : (t329 == 4607182418800017408) = true := beq_iff_eq.mpr c10
  have c10b1 : (t329 != 4607182418800017408) = false := bne_eq_false_iff_eq.mpr c10
  clear c10
  by_cases c11 : t330 = 1
  ·rw [if_pos c11] at H
   have c11b0 : (t330 == 1) = true := beq_iff_eq.mpr c11
   have c11b1 : (t330 != 1) = false := bne_eq_false_iff_eq.mpr c11
   clear c11
   by_cases c12 : t331 = 4607182418800017409
   ·rw [if_pos c12] at H
    have c12b0 : (t331 == 4607182418800017409) = true := beq_iff_eq.mpr c12
    have c12b1 : (t331 != 4607182418800017409) = false := bne_eq_false_iff_eq.mpr c12
    clear c12
    by_cases c13 : t333 = 0
    ·rw [if_pos c13] at H
     have c13b0 : (t333 == 0) = true := beq_iff_eq.mpr c13
     have c13b1 : (t333 != 0) = false := bne_eq_false_iff_eq.mpr c13
     clear c13
     by_cases c14 : t335 = 9223372036854775808
     ·rw [if_pos c14] at H
      have c14b0 : (t335 == 9223372036854775808) = true := beq_iff_eq.mpr c14
      have c14b1 : (t335 != 9223372036854775808) = false := bne_eq_false_iff_eq.mpr c14
      clear c14
      obtain ⟨t348, A15, H⟩ := zbs H
      try dsimp only at H
      by_cases c16 : t337 = t348
      ·rw [if_pos c16] at H
       have c16b0 : (t337 == t348) = true := beq_iff_eq.mpr c16
       have c16b1 : (t337 != t348) = false := bne_eq_false_iff_eq.mpr c16
       clear c16
       by_cases c17 : t338 = 8
       ·rw [if_pos c17] at H
        have c17b0 : (t338 == 8) = true := beq_iff_eq.mpr c17
        have c17b1 : (t338 != 8) = false := bne_eq_false_iff_eq.mpr c17
        clear c17
        by_cases c18 : t339 = 4609047870845172685
        ·rw [if_pos c18] at H
         have c18b0 : (t339 == 4609047870845172685) = true := beq_iff_eq.mpr c18
         have c18b1 : (t339 != 4609047870845172685) = false := bne_eq_false_iff_eq.mpr c18
         clear c18
         obtain ⟨t349, A19, H⟩ := zbs H
         try dsimp only at H
         by_cases c20 : t342 = t349
         ·rw [if_pos c20] at H
          have c20b0 : (t342 == t349) = true := beq_iff_eq.mpr c20
          have c20b1 : (t342 != t349) = false := bne_eq_false_iff_eq.mpr c20
          clear c20
          by_cases c21 : t343 = 16
          ·rw [if_pos c21] at H
           have c21b0 : (t343 == 16) = true := beq_iff_eq.mpr c21
           have c21b1 : (t343 != 16) = false := bne_eq_false_iff_eq.mpr c21
           clear c21
           obtain rfl := Option.some.inj H
           go_enter Try.func20, Try.ntmps20
           go_wp2_with (first | ((with_reducible refine gate_callee (f := 21) rfl ?_); refine zgL 17 Try.func21 (soft_Add.calls k 4607182418800017408 4368491638549381120 0 t329 t330 _ A1.out) (h := ?_); rintro w22 hb; replace HB := Aside0.mk (below_step zaB hb); (try clear hb)) | ((with_reducible refine gate_callee (f := 21) rfl ?_); refine zgL 21 Try.func21 (soft_Add.calls k 4607182418800017408 4368491638549381120 1 t331 t332 _ A2.out) (h := ?_); rintro w23 hb; replace HB := Aside0.mk (below_step zaB hb); (try clear hb)) | ((with_reducible refine gate_callee (f := 23) rfl ?_); refine zgL 25 Try.func23 (soft_Sub.calls k 4607182418800017408 4607182418800017408 0 t333 t334 _ A3.out) (h := ?_); rintro w24 hb; replace HB := Aside0.mk (below_step zaB hb); (try clear hb)) | ((with_reducible refine gate_callee (f := 23) rfl ?_); refine zgL 29 Try.func23 (soft_Sub.calls k 4607182418800017408 4607182418800017408 2 t335 t336 _ A4.out) (h := ?_); rintro w25 hb; replace HB := Aside0.mk (below_step zaB hb); (try clear hb)) | ((with_reducible refine gate_callee (f := 27) rfl ?_); refine zgL 33 Try.func27 (soft_Div.calls k 13830554455654793216 0 0 t337 t338 _ A5.out) (h := ?_); rintro w26 hb; replace HB := Aside0.mk (below_step zaB hb); (try clear hb)) | ((with_reducible refine gate_callee (f := 29) rfl ?_); refine zgL 37 Try.func29 (soft_Sqrt.calls k 4611686018427387904 0 t339 t340 _ A6.out) (h := ?_); rintro w27 hb; replace HB := Aside0.mk (below_step zaB hb); (try clear hb)) | ((with_reducible refine gate_callee (f := 79) rfl ?_); refine zgL 41 Try.func79 (pattern_Inf.calls k false t341 _ A7.out) (h := ?_); rintro w' ⟨nd, rfl⟩) | ((with_reducible refine gate_callee (f := 25) rfl ?_); refine zgL 42 Try.func25 (soft_Mul.calls k 0 t341 0 t342 t343 _ A8.out) (h := ?_); rintro w28 hb; replace HB := Aside0.mk (below_step zaB hb); (try clear hb)) | ((with_reducible refine gate_dst (N := 45) rfl ?_); refine Kd.R_lit (Kd.int .u64) _ 23 ?hg (N := 45) ?hd (xs := ([4607182418800017408, 4607182418800017408, 4607182418800017408] : List Int)) (inner := [.int .u64 4607182418800017408, .int .u64 4607182418800017408, .int .u64 4607182418800017408]) (ok := fun _ => True) (okp := fun _ => True) ?hr ?hp (fun _ hk => hk) trivial (Below.refl _ _) (Nat.le_refl _) (by simp) ?_; (case hd => rfl); (case hg => rfl); (case hr => first | (go_simp; done) | (go_simp; rfl)); (case hp => exact (Reps.one (show Kd.M (Kd.int .u64) _ _ _ 4607182418800017408 [.int .u64 4607182418800017408] from rfl) (Reps.one (show Kd.M (Kd.int .u64) _ _ _ 4607182418800017408 [.int .u64 4607182418800017408] from rfl) (Reps.one (show Kd.M (Kd.int .u64) _ _ _ 4607182418800017408 [.int .u64 4607182418800017408] from rfl) (Reps.none _ _))))); intro v345 w29 ho30 hb hg_ hnew_; clear hg_ hnew_; (first | rw [← Ny344.out] at ho30 | (simp only [Int.reduceToNat] at ho30; rw [← Ny344.out] at ho30)); have HO346 := Aside0.mk (Kd.R_lower ho30 (below_size zaB)); replace HB := Aside0.mk (below_step zaB hb); clear hb ho30; obtain ⟨Ao31, co31, eo31⟩ := Kd.R_slice HO346.out; subst eo31) | ((with_reducible refine gate_callee (f := 31) rfl ?_); refine goesL_ (some 46) rfl rfl Try.func31 (by kernel_rfl) rfl #[.int .u8 0, .slice Ao31 y344.length co31] rfl (by (try simp only [List.map_toArray, List.map_cons, List.map_nil]); first | done | rfl | (simp only [List.length_drop, List.length_take]; rfl)) ?_; (with_reducible refine (soft_Sum.calls k 0 _ _ y344 t347 _ ?side1 ?side2 A9.out).mono ?_); (case side1 => repeat (first | exact (Kd.R_reads' HO346.out).2.2 | (with_reducible refine Kd.C_alloc ?_ _) | (with_reducible refine Kd.C_drewN ?_ _) | (with_reducible refine Kd.C_drew ?_))); (case side2 => exact (Kd.R_reads' HO346.out).2.1); rintro e w32 ⟨rfl, hb⟩; refine ⟨_, rfl, ?_⟩; replace HO346 := Aside0.mk (Kd.R_below (by (with_reducible repeat (first | apply Kd.R_alloc | apply Kd.R_drewN | apply Kd.R_drew)); exact HO346.out) hb); replace HB := Aside0.mk (below_step zaB hb); (try clear hb)) | (go_at_call 79; (with_reducible refine (pattern_Inf.calls k true t348 _ A15.out).mono ?_); rintro e w' ⟨rfl, ⟨nd, rfl⟩⟩) | (go_at_call 81; (with_reducible refine (pattern_Quiet.calls  t349 _ A19.out).mono ?_); rintro e w' ⟨rfl, ⟨nd, rfl⟩⟩))
           go_ret
           exact ⟨zaE, zaB⟩
          ·rw [if_neg c21] at H
           have c21b0 : (t343 == 16) = false := beq_eq_false_iff_ne.mpr c21
           have c21b1 : (t343 != 16) = true := bne_iff_ne.mpr c21
           obtain rfl := Option.some.inj H
           go_enter Try.func20, Try.ntmps20
           go_wp2_with (first | ((with_reducible refine gate_callee (f := 21) rfl ?_); refine zgL 17 Try.func21 (soft_Add.calls k 4607182418800017408 4368491638549381120 0 t329 t330 _ A1.out) (h := ?_); rintro w33 hb; replace HB := Aside0.mk (below_step zaB hb); (try clear hb)) | ((with_reducible refine gate_callee (f := 21) rfl ?_); refine zgL 21 Try.func21 (soft_Add.calls k 4607182418800017408 4368491638549381120 1 t331 t332 _ A2.out) (h := ?_); rintro w34 hb; replace HB := Aside0.mk (below_step zaB hb); (try clear hb)) | ((with_reducible refine gate_callee (f := 23) rfl ?_); refine zgL 25 Try.func23 (soft_Sub.calls k 4607182418800017408 4607182418800017408 0 t333 t334 _ A3.out) (h := ?_); rintro w35 hb; replace HB := Aside0.mk (below_step zaB hb); (try clear hb)) | ((with_reducible refine gate_callee (f := 23) rfl ?_); refine zgL 29 Try.func23 (soft_Sub.calls k 4607182418800017408 4607182418800017408 2 t335 t336 _ A4.out) (h := ?_); rintro w36 hb; replace HB := Aside0.mk (below_step zaB hb); (try clear hb)) | ((with_reducible refine gate_callee (f := 27) rfl ?_); refine zgL 33 Try.func27 (soft_Div.calls k 13830554455654793216 0 0 t337 t338 _ A5.out) (h := ?_); rintro w37 hb; replace HB := Aside0.mk (below_step zaB hb); (try clear hb)) | ((with_reducible refine gate_callee (f := 29) rfl ?_); refine zgL 37 Try.func29 (soft_Sqrt.calls k 4611686018427387904 0 t339 t340 _ A6.out) (h := ?_); rintro w38 hb; replace HB := Aside0.mk (below_step zaB hb); (try clear hb)) | ((with_reducible refine gate_callee (f := 79) rfl ?_); refine zgL 41 Try.func79 (pattern_Inf.calls k false t341 _ A7.out) (h := ?_); rintro w' ⟨nd, rfl⟩) | ((with_reducible refine gate_callee (f := 25) rfl ?_); refine zgL 42 Try.func25 (soft_Mul.calls k 0 t341 0 t342 t343 _ A8.out) (h := ?_); rintro w39 hb; replace HB := Aside0.mk (below_step zaB hb); (try clear hb)) | ((with_reducible refine gate_dst (N := 45) rfl ?_); refine Kd.R_lit (Kd.int .u64) _ 23 ?hg (N := 45) ?hd (xs := ([4607182418800017408, 4607182418800017408, 4607182418800017408] : List Int)) (inner := [.int .u64 4607182418800017408, .int .u64 4607182418800017408, .int .u64 4607182418800017408]) (ok := fun _ => True) (okp := fun _ => True) ?hr ?hp (fun _ hk => hk) trivial (Below.refl _ _) (Nat.le_refl _) (by simp) ?_; (case hd => rfl); (case hg => rfl); (case hr => first | (go_simp; done) | (go_simp; rfl)); (case hp => exact (Reps.one (show Kd.M (Kd.int .u64) _ _ _ 4607182418800017408 [.int .u64 4607182418800017408] from rfl) (Reps.one (show Kd.M (Kd.int .u64) _ _ _ 4607182418800017408 [.int .u64 4607182418800017408] from rfl) (Reps.one (show Kd.M (Kd.int .u64) _ _ _ 4607182418800017408 [.int .u64 4607182418800017408] from rfl) (Reps.none _ _))))); intro v345 w40 ho41 hb hg_ hnew_; clear hg_ hnew_; (first | rw [← Ny344.out] at ho41 | (simp only [Int.reduceToNat] at ho41; rw [← Ny344.out] at ho41)); have HO346 := Aside0.mk (Kd.R_lower ho41 (below_size zaB)); replace HB := Aside0.mk (below_step zaB hb); clear hb ho41; obtain ⟨Ao42, co42, eo42⟩ := Kd.R_slice HO346.out; subst eo42) | ((with_reducible refine gate_callee (f := 31) rfl ?_); refine goesL_ (some 46) rfl rfl Try.func31 (by kernel_rfl) rfl #[.int .u8 0, .slice Ao42 y344.length co42] rfl (by (try simp only [List.map_toArray, List.map_cons, List.map_nil]); first | done | rfl | (simp only [List.length_drop, List.length_take]; rfl)) ?_; (with_reducible refine (soft_Sum.calls k 0 _ _ y344 t347 _ ?side1 ?side2 A9.out).mono ?_); (case side1 => repeat (first | exact (Kd.R_reads' HO346.out).2.2 | (with_reducible refine Kd.C_alloc ?_ _) | (with_reducible refine Kd.C_drewN ?_ _) | (with_reducible refine Kd.C_drew ?_))); (case side2 => exact (Kd.R_reads' HO346.out).2.1); rintro e w43 ⟨rfl, hb⟩; refine ⟨_, rfl, ?_⟩; replace HO346 := Aside0.mk (Kd.R_below (by (with_reducible repeat (first | apply Kd.R_alloc | apply Kd.R_drewN | apply Kd.R_drew)); exact HO346.out) hb); replace HB := Aside0.mk (below_step zaB hb); (try clear hb)) | (go_at_call 79; (with_reducible refine (pattern_Inf.calls k true t348 _ A15.out).mono ?_); rintro e w' ⟨rfl, ⟨nd, rfl⟩⟩) | (go_at_call 81; (with_reducible refine (pattern_Quiet.calls  t349 _ A19.out).mono ?_); rintro e w' ⟨rfl, ⟨nd, rfl⟩⟩))
           go_ret
           exact ⟨zaE, zaB⟩
         ·rw [if_neg c20] at H
          have c20b0 : (t342 == t349) = false := beq_eq_false_iff_ne.mpr c20
          have c20b1 : (t342 != t349) = true := bne_iff_ne.mpr c20
          obtain rfl := Option.some.inj H
          go_enter Try.func20, Try.ntmps20
          go_wp2_with (first | ((with_reducible refine gate_callee (f := 21) rfl ?_); refine zgL 17 Try.func21 (soft_Add.calls k 4607182418800017408 4368491638549381120 0 t329 t330 _ A1.out) (h := ?_); rintro w44 hb; replace HB := Aside0.mk (below_step zaB hb); (try clear hb)) | ((with_reducible refine gate_callee (f := 21) rfl ?_); refine zgL 21 Try.func21 (soft_Add.calls k 4607182418800017408 4368491638549381120 1 t331 t332 _ A2.out) (h := ?_); rintro w45 hb; replace HB := Aside0.mk (below_step zaB hb); (try clear hb)) | ((with_reducible refine gate_callee (f := 23) rfl ?_); refine zgL 25 Try.func23 (soft_Sub.calls k 4607182418800017408 4607182418800017408 0 t333 t334 _ A3.out) (h := ?_); rintro w46 hb; replace HB := Aside0.mk (below_step zaB hb); (try clear hb)) | ((with_reducible refine gate_callee (f := 23) rfl ?_); refine zgL 29 Try.func23 (soft_Sub.calls k 4607182418800017408 4607182418800017408 2 t335 t336 _ A4.out) (h := ?_); rintro w47 hb; replace HB := Aside0.mk (below_step zaB hb); (try clear hb)) | ((with_reducible refine gate_callee (f := 27) rfl ?_); refine zgL 33 Try.func27 (soft_Div.calls k 13830554455654793216 0 0 t337 t338 _ A5.out) (h := ?_); rintro w48 hb; replace HB := Aside0.mk (below_step zaB hb); (try clear hb)) | ((with_reducible refine gate_callee (f := 29) rfl ?_); refine zgL 37 Try.func29 (soft_Sqrt.calls k 4611686018427387904 0 t339 t340 _ A6.out) (h := ?_); rintro w49 hb; replace HB := Aside0.mk (below_step zaB hb); (try clear hb)) | ((with_reducible refine gate_callee (f := 79) rfl ?_); refine zgL 41 Try.func79 (pattern_Inf.calls k false t341 _ A7.out) (h := ?_); rintro w' ⟨nd, rfl⟩) | ((with_reducible refine gate_callee (f := 25) rfl ?_); refine zgL 42 Try.func25 (soft_Mul.calls k 0 t341 0 t342 t343 _ A8.out) (h := ?_); rintro w50 hb; replace HB := Aside0.mk (below_step zaB hb); (try clear hb)) | ((with_reducible refine gate_dst (N := 45) rfl ?_); refine Kd.R_lit (Kd.int .u64) _ 23 ?hg (N := 45) ?hd (xs := ([4607182418800017408, 4607182418800017408, 4607182418800017408] : List Int)) (inner := [.int .u64 4607182418800017408, .int .u64 4607182418800017408, .int .u64 4607182418800017408]) (ok := fun _ => True) (okp := fun _ => True) ?hr ?hp (fun _ hk => hk) trivial (Below.refl _ _) (Nat.le_refl _) (by simp) ?_; (case hd => rfl); (case hg => rfl); (case hr => first | (go_simp; done) | (go_simp; rfl)); (case hp => exact (Reps.one (show Kd.M (Kd.int .u64) _ _ _ 4607182418800017408 [.int .u64 4607182418800017408] from rfl) (Reps.one (show Kd.M (Kd.int .u64) _ _ _ 4607182418800017408 [.int .u64 4607182418800017408] from rfl) (Reps.one (show Kd.M (Kd.int .u64) _ _ _ 4607182418800017408 [.int .u64 4607182418800017408] from rfl) (Reps.none _ _))))); intro v345 w51 ho52 hb hg_ hnew_; clear hg_ hnew_; (first | rw [← Ny344.out] at ho52 | (simp only [Int.reduceToNat] at ho52; rw [← Ny344.out] at ho52)); have HO346 := Aside0.mk (Kd.R_lower ho52 (below_size zaB)); replace HB := Aside0.mk (below_step zaB hb); clear hb ho52; obtain ⟨Ao53, co53, eo53⟩ := Kd.R_slice HO346.out; subst eo53) | ((with_reducible refine gate_callee (f := 31) rfl ?_); refine goesL_ (some 46) rfl rfl Try.func31 (by kernel_rfl) rfl #[.int .u8 0, .slice Ao53 y344.length co53] rfl (by (try simp only [List.map_toArray, List.map_cons, List.map_nil]); first | done | rfl | (simp only [List.length_drop, List.length_take]; rfl)) ?_; (with_reducible refine (soft_Sum.calls k 0 _ _ y344 t347 _ ?side1 ?side2 A9.out).mono ?_); (case side1 => repeat (first | exact (Kd.R_reads' HO346.out).2.2 | (with_reducible refine Kd.C_alloc ?_ _) | (with_reducible refine Kd.C_drewN ?_ _) | (with_reducible refine Kd.C_drew ?_))); (case side2 => exact (Kd.R_reads' HO346.out).2.1); rintro e w54 ⟨rfl, hb⟩; refine ⟨_, rfl, ?_⟩; replace HO346 := Aside0.mk (Kd.R_below (by (with_reducible repeat (first | apply Kd.R_alloc | apply Kd.R_drewN | apply Kd.R_drew)); exact HO346.out) hb); replace HB := Aside0.mk (below_step zaB hb); (try clear hb)) | (go_at_call 79; (with_reducible refine (pattern_Inf.calls k true t348 _ A15.out).mono ?_); rintro e w' ⟨rfl, ⟨nd, rfl⟩⟩) | (go_at_call 81; (with_reducible refine (pattern_Quiet.calls  t349 _ A19.out).mono ?_); rintro e w' ⟨rfl, ⟨nd, rfl⟩⟩))
          go_ret
          exact ⟨zaE, zaB⟩
        ·rw [if_neg c18] at H
         have c18b0 : (t339 == 4609047870845172685) = false := beq_eq_false_iff_ne.mpr c18
         have c18b1 : (t339 != 4609047870845172685) = true := bne_iff_ne.mpr c18
         obtain rfl := Option.some.inj H
         go_enter Try.func20, Try.ntmps20
         go_wp2_with (first | ((with_reducible refine gate_callee (f := 21) rfl ?_); refine zgL 17 Try.func21 (soft_Add.calls k 4607182418800017408 4368491638549381120 0 t329 t330 _ A1.out) (h := ?_); rintro w55 hb; replace HB := Aside0.mk (below_step zaB hb); (try clear hb)) | ((with_reducible refine gate_callee (f := 21) rfl ?_); refine zgL 21 Try.func21 (soft_Add.calls k 4607182418800017408 4368491638549381120 1 t331 t332 _ A2.out) (h := ?_); rintro w56 hb; replace HB := Aside0.mk (below_step zaB hb); (try clear hb)) | ((with_reducible refine gate_callee (f := 23) rfl ?_); refine zgL 25 Try.func23 (soft_Sub.calls k 4607182418800017408 4607182418800017408 0 t333 t334 _ A3.out) (h := ?_); rintro w57 hb; replace HB := Aside0.mk (below_step zaB hb); (try clear hb)) | ((with_reducible refine gate_callee (f := 23) rfl ?_); refine zgL 29 Try.func23 (soft_Sub.calls k 4607182418800017408 4607182418800017408 2 t335 t336 _ A4.out) (h := ?_); rintro w58 hb; replace HB := Aside0.mk (below_step zaB hb); (try clear hb)) | ((with_reducible refine gate_callee (f := 27) rfl ?_); refine zgL 33 Try.func27 (soft_Div.calls k 13830554455654793216 0 0 t337 t338 _ A5.out) (h := ?_); rintro w59 hb; replace HB := Aside0.mk (below_step zaB hb); (try clear hb)) | ((with_reducible refine gate_callee (f := 29) rfl ?_); refine zgL 37 Try.func29 (soft_Sqrt.calls k 4611686018427387904 0 t339 t340 _ A6.out) (h := ?_); rintro w60 hb; replace HB := Aside0.mk (below_step zaB hb); (try clear hb)) | ((with_reducible refine gate_callee (f := 79) rfl ?_); refine zgL 41 Try.func79 (pattern_Inf.calls k false t341 _ A7.out) (h := ?_); rintro w' ⟨nd, rfl⟩) | ((with_reducible refine gate_callee (f := 25) rfl ?_); refine zgL 42 Try.func25 (soft_Mul.calls k 0 t341 0 t342 t343 _ A8.out) (h := ?_); rintro w61 hb; replace HB := Aside0.mk (below_step zaB hb); (try clear hb)) | ((with_reducible refine gate_dst (N := 45) rfl ?_); refine Kd.R_lit (Kd.int .u64) _ 23 ?hg (N := 45) ?hd (xs := ([4607182418800017408, 4607182418800017408, 4607182418800017408] : List Int)) (inner := [.int .u64 4607182418800017408, .int .u64 4607182418800017408, .int .u64 4607182418800017408]) (ok := fun _ => True) (okp := fun _ => True) ?hr ?hp (fun _ hk => hk) trivial (Below.refl _ _) (Nat.le_refl _) (by simp) ?_; (case hd => rfl); (case hg => rfl); (case hr => first | (go_simp; done) | (go_simp; rfl)); (case hp => exact (Reps.one (show Kd.M (Kd.int .u64) _ _ _ 4607182418800017408 [.int .u64 4607182418800017408] from rfl) (Reps.one (show Kd.M (Kd.int .u64) _ _ _ 4607182418800017408 [.int .u64 4607182418800017408] from rfl) (Reps.one (show Kd.M (Kd.int .u64) _ _ _ 4607182418800017408 [.int .u64 4607182418800017408] from rfl) (Reps.none _ _))))); intro v345 w62 ho63 hb hg_ hnew_; clear hg_ hnew_; (first | rw [← Ny344.out] at ho63 | (simp only [Int.reduceToNat] at ho63; rw [← Ny344.out] at ho63)); have HO346 := Aside0.mk (Kd.R_lower ho63 (below_size zaB)); replace HB := Aside0.mk (below_step zaB hb); clear hb ho63; obtain ⟨Ao64, co64, eo64⟩ := Kd.R_slice HO346.out; subst eo64) | ((with_reducible refine gate_callee (f := 31) rfl ?_); refine goesL_ (some 46) rfl rfl Try.func31 (by kernel_rfl) rfl #[.int .u8 0, .slice Ao64 y344.length co64] rfl (by (try simp only [List.map_toArray, List.map_cons, List.map_nil]); first | done | rfl | (simp only [List.length_drop, List.length_take]; rfl)) ?_; (with_reducible refine (soft_Sum.calls k 0 _ _ y344 t347 _ ?side1 ?side2 A9.out).mono ?_); (case side1 => repeat (first | exact (Kd.R_reads' HO346.out).2.2 | (with_reducible refine Kd.C_alloc ?_ _) | (with_reducible refine Kd.C_drewN ?_ _) | (with_reducible refine Kd.C_drew ?_))); (case side2 => exact (Kd.R_reads' HO346.out).2.1); rintro e w65 ⟨rfl, hb⟩; refine ⟨_, rfl, ?_⟩; replace HO346 := Aside0.mk (Kd.R_below (by (with_reducible repeat (first | apply Kd.R_alloc | apply Kd.R_drewN | apply Kd.R_drew)); exact HO346.out) hb); replace HB := Aside0.mk (below_step zaB hb); (try clear hb)) | (go_at_call 79; (with_reducible refine (pattern_Inf.calls k true t348 _ A15.out).mono ?_); rintro e w' ⟨rfl, ⟨nd, rfl⟩⟩))
         go_ret
         exact ⟨zaE, zaB⟩
       ·rw [if_neg c17] at H
        have c17b0 : (t338 == 8) = false := beq_eq_false_iff_ne.mpr c17
        have c17b1 : (t338 != 8) = true := bne_iff_ne.mpr c17
        obtain rfl := Option.some.inj H
        go_enter Try.func20, Try.ntmps20
        go_wp2_with (first | ((with_reducible refine gate_callee (f := 21) rfl ?_); refine zgL 17 Try.func21 (soft_Add.calls k 4607182418800017408 4368491638549381120 0 t329 t330 _ A1.out) (h := ?_); rintro w66 hb; replace HB := Aside0.mk (below_step zaB hb); (try clear hb)) | ((with_reducible refine gate_callee (f := 21) rfl ?_); refine zgL 21 Try.func21 (soft_Add.calls k 4607182418800017408 4368491638549381120 1 t331 t332 _ A2.out) (h := ?_); rintro w67 hb; replace HB := Aside0.mk (below_step zaB hb); (try clear hb)) | ((with_reducible refine gate_callee (f := 23) rfl ?_); refine zgL 25 Try.func23 (soft_Sub.calls k 4607182418800017408 4607182418800017408 0 t333 t334 _ A3.out) (h := ?_); rintro w68 hb; replace HB := Aside0.mk (below_step zaB hb); (try clear hb)) | ((with_reducible refine gate_callee (f := 23) rfl ?_); refine zgL 29 Try.func23 (soft_Sub.calls k 4607182418800017408 4607182418800017408 2 t335 t336 _ A4.out) (h := ?_); rintro w69 hb; replace HB := Aside0.mk (below_step zaB hb); (try clear hb)) | ((with_reducible refine gate_callee (f := 27) rfl ?_); refine zgL 33 Try.func27 (soft_Div.calls k 13830554455654793216 0 0 t337 t338 _ A5.out) (h := ?_); rintro w70 hb; replace HB := Aside0.mk (below_step zaB hb); (try clear hb)) | ((with_reducible refine gate_callee (f := 29) rfl ?_); refine zgL 37 Try.func29 (soft_Sqrt.calls k 4611686018427387904 0 t339 t340 _ A6.out) (h := ?_); rintro w71 hb; replace HB := Aside0.mk (below_step zaB hb); (try clear hb)) | ((with_reducible refine gate_callee (f := 79) rfl ?_); refine zgL 41 Try.func79 (pattern_Inf.calls k false t341 _ A7.out) (h := ?_); rintro w' ⟨nd, rfl⟩) | ((with_reducible refine gate_callee (f := 25) rfl ?_); refine zgL 42 Try.func25 (soft_Mul.calls k 0 t341 0 t342 t343 _ A8.out) (h := ?_); rintro w72 hb; replace HB := Aside0.mk (below_step zaB hb); (try clear hb)) | ((with_reducible refine gate_dst (N := 45) rfl ?_); refine Kd.R_lit (Kd.int .u64) _ 23 ?hg (N := 45) ?hd (xs := ([4607182418800017408, 4607182418800017408, 4607182418800017408] : List Int)) (inner := [.int .u64 4607182418800017408, .int .u64 4607182418800017408, .int .u64 4607182418800017408]) (ok := fun _ => True) (okp := fun _ => True) ?hr ?hp (fun _ hk => hk) trivial (Below.refl _ _) (Nat.le_refl _) (by simp) ?_; (case hd => rfl); (case hg => rfl); (case hr => first | (go_simp; done) | (go_simp; rfl)); (case hp => exact (Reps.one (show Kd.M (Kd.int .u64) _ _ _ 4607182418800017408 [.int .u64 4607182418800017408] from rfl) (Reps.one (show Kd.M (Kd.int .u64) _ _ _ 4607182418800017408 [.int .u64 4607182418800017408] from rfl) (Reps.one (show Kd.M (Kd.int .u64) _ _ _ 4607182418800017408 [.int .u64 4607182418800017408] from rfl) (Reps.none _ _))))); intro v345 w73 ho74 hb hg_ hnew_; clear hg_ hnew_; (first | rw [← Ny344.out] at ho74 | (simp only [Int.reduceToNat] at ho74; rw [← Ny344.out] at ho74)); have HO346 := Aside0.mk (Kd.R_lower ho74 (below_size zaB)); replace HB := Aside0.mk (below_step zaB hb); clear hb ho74; obtain ⟨Ao75, co75, eo75⟩ := Kd.R_slice HO346.out; subst eo75) | ((with_reducible refine gate_callee (f := 31) rfl ?_); refine goesL_ (some 46) rfl rfl Try.func31 (by kernel_rfl) rfl #[.int .u8 0, .slice Ao75 y344.length co75] rfl (by (try simp only [List.map_toArray, List.map_cons, List.map_nil]); first | done | rfl | (simp only [List.length_drop, List.length_take]; rfl)) ?_; (with_reducible refine (soft_Sum.calls k 0 _ _ y344 t347 _ ?side1 ?side2 A9.out).mono ?_); (case side1 => repeat (first | exact (Kd.R_reads' HO346.out).2.2 | (with_reducible refine Kd.C_alloc ?_ _) | (with_reducible refine Kd.C_drewN ?_ _) | (with_reducible refine Kd.C_drew ?_))); (case side2 => exact (Kd.R_reads' HO346.out).2.1); rintro e w76 ⟨rfl, hb⟩; refine ⟨_, rfl, ?_⟩; replace HO346 := Aside0.mk (Kd.R_below (by (with_reducible repeat (first | apply Kd.R_alloc | apply Kd.R_drewN | apply Kd.R_drew)); exact HO346.out) hb); replace HB := Aside0.mk (below_step zaB hb); (try clear hb)) | (go_at_call 79; (with_reducible refine (pattern_Inf.calls k true t348 _ A15.out).mono ?_); rintro e w' ⟨rfl, ⟨nd, rfl⟩⟩))
        go_ret
        exact ⟨zaE, zaB⟩
      ·rw [if_neg c16] at H
       have c16b0 : (t337 == t348) = false := beq_eq_false_iff_ne.mpr c16
       have c16b1 : (t337 != t348) = true := bne_iff_ne.mpr c16
       obtain rfl := Option.some.inj H
       go_enter Try.func20, Try.ntmps20
       go_wp2_with (first | ((with_reducible refine gate_callee (f := 21) rfl ?_); refine zgL 17 Try.func21 (soft_Add.calls k 4607182418800017408 4368491638549381120 0 t329 t330 _ A1.out) (h := ?_); rintro w77 hb; replace HB := Aside0.mk (below_step zaB hb); (try clear hb)) | ((with_reducible refine gate_callee (f := 21) rfl ?_); refine zgL 21 Try.func21 (soft_Add.calls k 4607182418800017408 4368491638549381120 1 t331 t332 _ A2.out) (h := ?_); rintro w78 hb; replace HB := Aside0.mk (below_step zaB hb); (try clear hb)) | ((with_reducible refine gate_callee (f := 23) rfl ?_); refine zgL 25 Try.func23 (soft_Sub.calls k 4607182418800017408 4607182418800017408 0 t333 t334 _ A3.out) (h := ?_); rintro w79 hb; replace HB := Aside0.mk (below_step zaB hb); (try clear hb)) | ((with_reducible refine gate_callee (f := 23) rfl ?_); refine zgL 29 Try.func23 (soft_Sub.calls k 4607182418800017408 4607182418800017408 2 t335 t336 _ A4.out) (h := ?_); rintro w80 hb; replace HB := Aside0.mk (below_step zaB hb); (try clear hb)) | ((with_reducible refine gate_callee (f := 27) rfl ?_); refine zgL 33 Try.func27 (soft_Div.calls k 13830554455654793216 0 0 t337 t338 _ A5.out) (h := ?_); rintro w81 hb; replace HB := Aside0.mk (below_step zaB hb); (try clear hb)) | ((with_reducible refine gate_callee (f := 29) rfl ?_); refine zgL 37 Try.func29 (soft_Sqrt.calls k 4611686018427387904 0 t339 t340 _ A6.out) (h := ?_); rintro w82 hb; replace HB := Aside0.mk (below_step zaB hb); (try clear hb)) | ((with_reducible refine gate_callee (f := 79) rfl ?_); refine zgL 41 Try.func79 (pattern_Inf.calls k false t341 _ A7.out) (h := ?_); rintro w' ⟨nd, rfl⟩) | ((with_reducible refine gate_callee (f := 25) rfl ?_); refine zgL 42 Try.func25 (soft_Mul.calls k 0 t341 0 t342 t343 _ A8.out) (h := ?_); rintro w83 hb; replace HB := Aside0.mk (below_step zaB hb); (try clear hb)) | ((with_reducible refine gate_dst (N := 45) rfl ?_); refine Kd.R_lit (Kd.int .u64) _ 23 ?hg (N := 45) ?hd (xs := ([4607182418800017408, 4607182418800017408, 4607182418800017408] : List Int)) (inner := [.int .u64 4607182418800017408, .int .u64 4607182418800017408, .int .u64 4607182418800017408]) (ok := fun _ => True) (okp := fun _ => True) ?hr ?hp (fun _ hk => hk) trivial (Below.refl _ _) (Nat.le_refl _) (by simp) ?_; (case hd => rfl); (case hg => rfl); (case hr => first | (go_simp; done) | (go_simp; rfl)); (case hp => exact (Reps.one (show Kd.M (Kd.int .u64) _ _ _ 4607182418800017408 [.int .u64 4607182418800017408] from rfl) (Reps.one (show Kd.M (Kd.int .u64) _ _ _ 4607182418800017408 [.int .u64 4607182418800017408] from rfl) (Reps.one (show Kd.M (Kd.int .u64) _ _ _ 4607182418800017408 [.int .u64 4607182418800017408] from rfl) (Reps.none _ _))))); intro v345 w84 ho85 hb hg_ hnew_; clear hg_ hnew_; (first | rw [← Ny344.out] at ho85 | (simp only [Int.reduceToNat] at ho85; rw [← Ny344.out] at ho85)); have HO346 := Aside0.mk (Kd.R_lower ho85 (below_size zaB)); replace HB := Aside0.mk (below_step zaB hb); clear hb ho85; obtain ⟨Ao86, co86, eo86⟩ := Kd.R_slice HO346.out; subst eo86) | ((with_reducible refine gate_callee (f := 31) rfl ?_); refine goesL_ (some 46) rfl rfl Try.func31 (by kernel_rfl) rfl #[.int .u8 0, .slice Ao86 y344.length co86] rfl (by (try simp only [List.map_toArray, List.map_cons, List.map_nil]); first | done | rfl | (simp only [List.length_drop, List.length_take]; rfl)) ?_; (with_reducible refine (soft_Sum.calls k 0 _ _ y344 t347 _ ?side1 ?side2 A9.out).mono ?_); (case side1 => repeat (first | exact (Kd.R_reads' HO346.out).2.2 | (with_reducible refine Kd.C_alloc ?_ _) | (with_reducible refine Kd.C_drewN ?_ _) | (with_reducible refine Kd.C_drew ?_))); (case side2 => exact (Kd.R_reads' HO346.out).2.1); rintro e w87 ⟨rfl, hb⟩; refine ⟨_, rfl, ?_⟩; replace HO346 := Aside0.mk (Kd.R_below (by (with_reducible repeat (first | apply Kd.R_alloc | apply Kd.R_drewN | apply Kd.R_drew)); exact HO346.out) hb); replace HB := Aside0.mk (below_step zaB hb); (try clear hb)) | (go_at_call 79; (with_reducible refine (pattern_Inf.calls k true t348 _ A15.out).mono ?_); rintro e w' ⟨rfl, ⟨nd, rfl⟩⟩))
       go_ret
       exact ⟨zaE, zaB⟩
     ·rw [if_neg c14] at H
      have c14b0 : (t335 == 9223372036854775808) = false := beq_eq_false_iff_ne.mpr c14
      have c14b1 : (t335 != 9223372036854775808) = true := bne_iff_ne.mpr c14
      obtain rfl := Option.some.inj H
      go_enter Try.func20, Try.ntmps20
      go_wp2_with (first | ((with_reducible refine gate_callee (f := 21) rfl ?_); refine zgL 17 Try.func21 (soft_Add.calls k 4607182418800017408 4368491638549381120 0 t329 t330 _ A1.out) (h := ?_); rintro w88 hb; replace HB := Aside0.mk (below_step zaB hb); (try clear hb)) | ((with_reducible refine gate_callee (f := 21) rfl ?_); refine zgL 21 Try.func21 (soft_Add.calls k 4607182418800017408 4368491638549381120 1 t331 t332 _ A2.out) (h := ?_); rintro w89 hb; replace HB := Aside0.mk (below_step zaB hb); (try clear hb)) | ((with_reducible refine gate_callee (f := 23) rfl ?_); refine zgL 25 Try.func23 (soft_Sub.calls k 4607182418800017408 4607182418800017408 0 t333 t334 _ A3.out) (h := ?_); rintro w90 hb; replace HB := Aside0.mk (below_step zaB hb); (try clear hb)) | ((with_reducible refine gate_callee (f := 23) rfl ?_); refine zgL 29 Try.func23 (soft_Sub.calls k 4607182418800017408 4607182418800017408 2 t335 t336 _ A4.out) (h := ?_); rintro w91 hb; replace HB := Aside0.mk (below_step zaB hb); (try clear hb)) | ((with_reducible refine gate_callee (f := 27) rfl ?_); refine zgL 33 Try.func27 (soft_Div.calls k 13830554455654793216 0 0 t337 t338 _ A5.out) (h := ?_); rintro w92 hb; replace HB := Aside0.mk (below_step zaB hb); (try clear hb)) | ((with_reducible refine gate_callee (f := 29) rfl ?_); refine zgL 37 Try.func29 (soft_Sqrt.calls k 4611686018427387904 0 t339 t340 _ A6.out) (h := ?_); rintro w93 hb; replace HB := Aside0.mk (below_step zaB hb); (try clear hb)) | ((with_reducible refine gate_callee (f := 79) rfl ?_); refine zgL 41 Try.func79 (pattern_Inf.calls k false t341 _ A7.out) (h := ?_); rintro w' ⟨nd, rfl⟩) | ((with_reducible refine gate_callee (f := 25) rfl ?_); refine zgL 42 Try.func25 (soft_Mul.calls k 0 t341 0 t342 t343 _ A8.out) (h := ?_); rintro w94 hb; replace HB := Aside0.mk (below_step zaB hb); (try clear hb)) | ((with_reducible refine gate_dst (N := 45) rfl ?_); refine Kd.R_lit (Kd.int .u64) _ 23 ?hg (N := 45) ?hd (xs := ([4607182418800017408, 4607182418800017408, 4607182418800017408] : List Int)) (inner := [.int .u64 4607182418800017408, .int .u64 4607182418800017408, .int .u64 4607182418800017408]) (ok := fun _ => True) (okp := fun _ => True) ?hr ?hp (fun _ hk => hk) trivial (Below.refl _ _) (Nat.le_refl _) (by simp) ?_; (case hd => rfl); (case hg => rfl); (case hr => first | (go_simp; done) | (go_simp; rfl)); (case hp => exact (Reps.one (show Kd.M (Kd.int .u64) _ _ _ 4607182418800017408 [.int .u64 4607182418800017408] from rfl) (Reps.one (show Kd.M (Kd.int .u64) _ _ _ 4607182418800017408 [.int .u64 4607182418800017408] from rfl) (Reps.one (show Kd.M (Kd.int .u64) _ _ _ 4607182418800017408 [.int .u64 4607182418800017408] from rfl) (Reps.none _ _))))); intro v345 w95 ho96 hb hg_ hnew_; clear hg_ hnew_; (first | rw [← Ny344.out] at ho96 | (simp only [Int.reduceToNat] at ho96; rw [← Ny344.out] at ho96)); have HO346 := Aside0.mk (Kd.R_lower ho96 (below_size zaB)); replace HB := Aside0.mk (below_step zaB hb); clear hb ho96; obtain ⟨Ao97, co97, eo97⟩ := Kd.R_slice HO346.out; subst eo97) | ((with_reducible refine gate_callee (f := 31) rfl ?_); refine goesL_ (some 46) rfl rfl Try.func31 (by kernel_rfl) rfl #[.int .u8 0, .slice Ao97 y344.length co97] rfl (by (try simp only [List.map_toArray, List.map_cons, List.map_nil]); first | done | rfl | (simp only [List.length_drop, List.length_take]; rfl)) ?_; (with_reducible refine (soft_Sum.calls k 0 _ _ y344 t347 _ ?side1 ?side2 A9.out).mono ?_); (case side1 => repeat (first | exact (Kd.R_reads' HO346.out).2.2 | (with_reducible refine Kd.C_alloc ?_ _) | (with_reducible refine Kd.C_drewN ?_ _) | (with_reducible refine Kd.C_drew ?_))); (case side2 => exact (Kd.R_reads' HO346.out).2.1); rintro e w98 ⟨rfl, hb⟩; refine ⟨_, rfl, ?_⟩; replace HO346 := Aside0.mk (Kd.R_below (by (with_reducible repeat (first | apply Kd.R_alloc | apply Kd.R_drewN | apply Kd.R_drew)); exact HO346.out) hb); replace HB := Aside0.mk (below_step zaB hb); (try clear hb)))
      go_ret
      exact ⟨zaE, zaB⟩
    ·rw [if_neg c13] at H
     have c13b0 : (t333 == 0) = false := beq_eq_false_iff_ne.mpr c13
     have c13b1 : (t333 != 0) = true := bne_iff_ne.mpr c13
     obtain rfl := Option.some.inj H
     go_enter Try.func20, Try.ntmps20
     go_wp2_with (first | ((with_reducible refine gate_callee (f := 21) rfl ?_); refine zgL 17 Try.func21 (soft_Add.calls k 4607182418800017408 4368491638549381120 0 t329 t330 _ A1.out) (h := ?_); rintro w99 hb; replace HB := Aside0.mk (below_step zaB hb); (try clear hb)) | ((with_reducible refine gate_callee (f := 21) rfl ?_); refine zgL 21 Try.func21 (soft_Add.calls k 4607182418800017408 4368491638549381120 1 t331 t332 _ A2.out) (h := ?_); rintro w100 hb; replace HB := Aside0.mk (below_step zaB hb); (try clear hb)) | ((with_reducible refine gate_callee (f := 23) rfl ?_); refine zgL 25 Try.func23 (soft_Sub.calls k 4607182418800017408 4607182418800017408 0 t333 t334 _ A3.out) (h := ?_); rintro w101 hb; replace HB := Aside0.mk (below_step zaB hb); (try clear hb)) | ((with_reducible refine gate_callee (f := 23) rfl ?_); refine zgL 29 Try.func23 (soft_Sub.calls k 4607182418800017408 4607182418800017408 2 t335 t336 _ A4.out) (h := ?_); rintro w102 hb; replace HB := Aside0.mk (below_step zaB hb); (try clear hb)) | ((with_reducible refine gate_callee (f := 27) rfl ?_); refine zgL 33 Try.func27 (soft_Div.calls k 13830554455654793216 0 0 t337 t338 _ A5.out) (h := ?_); rintro w103 hb; replace HB := Aside0.mk (below_step zaB hb); (try clear hb)) | ((with_reducible refine gate_callee (f := 29) rfl ?_); refine zgL 37 Try.func29 (soft_Sqrt.calls k 4611686018427387904 0 t339 t340 _ A6.out) (h := ?_); rintro w104 hb; replace HB := Aside0.mk (below_step zaB hb); (try clear hb)) | ((with_reducible refine gate_callee (f := 79) rfl ?_); refine zgL 41 Try.func79 (pattern_Inf.calls k false t341 _ A7.out) (h := ?_); rintro w' ⟨nd, rfl⟩) | ((with_reducible refine gate_callee (f := 25) rfl ?_); refine zgL 42 Try.func25 (soft_Mul.calls k 0 t341 0 t342 t343 _ A8.out) (h := ?_); rintro w105 hb; replace HB := Aside0.mk (below_step zaB hb); (try clear hb)) | ((with_reducible refine gate_dst (N := 45) rfl ?_); refine Kd.R_lit (Kd.int .u64) _ 23 ?hg (N := 45) ?hd (xs := ([4607182418800017408, 4607182418800017408, 4607182418800017408] : List Int)) (inner := [.int .u64 4607182418800017408, .int .u64 4607182418800017408, .int .u64 4607182418800017408]) (ok := fun _ => True) (okp := fun _ => True) ?hr ?hp (fun _ hk => hk) trivial (Below.refl _ _) (Nat.le_refl _) (by simp) ?_; (case hd => rfl); (case hg => rfl); (case hr => first | (go_simp; done) | (go_simp; rfl)); (case hp => exact (Reps.one (show Kd.M (Kd.int .u64) _ _ _ 4607182418800017408 [.int .u64 4607182418800017408] from rfl) (Reps.one (show Kd.M (Kd.int .u64) _ _ _ 4607182418800017408 [.int .u64 4607182418800017408] from rfl) (Reps.one (show Kd.M (Kd.int .u64) _ _ _ 4607182418800017408 [.int .u64 4607182418800017408] from rfl) (Reps.none _ _))))); intro v345 w106 ho107 hb hg_ hnew_; clear hg_ hnew_; (first | rw [← Ny344.out] at ho107 | (simp only [Int.reduceToNat] at ho107; rw [← Ny344.out] at ho107)); have HO346 := Aside0.mk (Kd.R_lower ho107 (below_size zaB)); replace HB := Aside0.mk (below_step zaB hb); clear hb ho107; obtain ⟨Ao108, co108, eo108⟩ := Kd.R_slice HO346.out; subst eo108) | ((with_reducible refine gate_callee (f := 31) rfl ?_); refine goesL_ (some 46) rfl rfl Try.func31 (by kernel_rfl) rfl #[.int .u8 0, .slice Ao108 y344.length co108] rfl (by (try simp only [List.map_toArray, List.map_cons, List.map_nil]); first | done | rfl | (simp only [List.length_drop, List.length_take]; rfl)) ?_; (with_reducible refine (soft_Sum.calls k 0 _ _ y344 t347 _ ?side1 ?side2 A9.out).mono ?_); (case side1 => repeat (first | exact (Kd.R_reads' HO346.out).2.2 | (with_reducible refine Kd.C_alloc ?_ _) | (with_reducible refine Kd.C_drewN ?_ _) | (with_reducible refine Kd.C_drew ?_))); (case side2 => exact (Kd.R_reads' HO346.out).2.1); rintro e w109 ⟨rfl, hb⟩; refine ⟨_, rfl, ?_⟩; replace HO346 := Aside0.mk (Kd.R_below (by (with_reducible repeat (first | apply Kd.R_alloc | apply Kd.R_drewN | apply Kd.R_drew)); exact HO346.out) hb); replace HB := Aside0.mk (below_step zaB hb); (try clear hb)))
     go_ret
     exact ⟨zaE, zaB⟩
   ·rw [if_neg c12] at H
    have c12b0 : (t331 == 4607182418800017409) = false := beq_eq_false_iff_ne.mpr c12
    have c12b1 : (t331 != 4607182418800017409) = true := bne_iff_ne.mpr c12
    obtain rfl := Option.some.inj H
    go_enter Try.func20, Try.ntmps20
    go_wp2_with (first | ((with_reducible refine gate_callee (f := 21) rfl ?_); refine zgL 17 Try.func21 (soft_Add.calls k 4607182418800017408 4368491638549381120 0 t329 t330 _ A1.out) (h := ?_); rintro w110 hb; replace HB := Aside0.mk (below_step zaB hb); (try clear hb)) | ((with_reducible refine gate_callee (f := 21) rfl ?_); refine zgL 21 Try.func21 (soft_Add.calls k 4607182418800017408 4368491638549381120 1 t331 t332 _ A2.out) (h := ?_); rintro w111 hb; replace HB := Aside0.mk (below_step zaB hb); (try clear hb)) | ((with_reducible refine gate_callee (f := 23) rfl ?_); refine zgL 25 Try.func23 (soft_Sub.calls k 4607182418800017408 4607182418800017408 0 t333 t334 _ A3.out) (h := ?_); rintro w112 hb; replace HB := Aside0.mk (below_step zaB hb); (try clear hb)) | ((with_reducible refine gate_callee (f := 23) rfl ?_); refine zgL 29 Try.func23 (soft_Sub.calls k 4607182418800017408 4607182418800017408 2 t335 t336 _ A4.out) (h := ?_); rintro w113 hb; replace HB := Aside0.mk (below_step zaB hb); (try clear hb)) | ((with_reducible refine gate_callee (f := 27) rfl ?_); refine zgL 33 Try.func27 (soft_Div.calls k 13830554455654793216 0 0 t337 t338 _ A5.out) (h := ?_); rintro w114 hb; replace HB := Aside0.mk (below_step zaB hb); (try clear hb)) | ((with_reducible refine gate_callee (f := 29) rfl ?_); refine zgL 37 Try.func29 (soft_Sqrt.calls k 4611686018427387904 0 t339 t340 _ A6.out) (h := ?_); rintro w115 hb; replace HB := Aside0.mk (below_step zaB hb); (try clear hb)) | ((with_reducible refine gate_callee (f := 79) rfl ?_); refine zgL 41 Try.func79 (pattern_Inf.calls k false t341 _ A7.out) (h := ?_); rintro w' ⟨nd, rfl⟩) | ((with_reducible refine gate_callee (f := 25) rfl ?_); refine zgL 42 Try.func25 (soft_Mul.calls k 0 t341 0 t342 t343 _ A8.out) (h := ?_); rintro w116 hb; replace HB := Aside0.mk (below_step zaB hb); (try clear hb)) | ((with_reducible refine gate_dst (N := 45) rfl ?_); refine Kd.R_lit (Kd.int .u64) _ 23 ?hg (N := 45) ?hd (xs := ([4607182418800017408, 4607182418800017408, 4607182418800017408] : List Int)) (inner := [.int .u64 4607182418800017408, .int .u64 4607182418800017408, .int .u64 4607182418800017408]) (ok := fun _ => True) (okp := fun _ => True) ?hr ?hp (fun _ hk => hk) trivial (Below.refl _ _) (Nat.le_refl _) (by simp) ?_; (case hd => rfl); (case hg => rfl); (case hr => first | (go_simp; done) | (go_simp; rfl)); (case hp => exact (Reps.one (show Kd.M (Kd.int .u64) _ _ _ 4607182418800017408 [.int .u64 4607182418800017408] from rfl) (Reps.one (show Kd.M (Kd.int .u64) _ _ _ 4607182418800017408 [.int .u64 4607182418800017408] from rfl) (Reps.one (show Kd.M (Kd.int .u64) _ _ _ 4607182418800017408 [.int .u64 4607182418800017408] from rfl) (Reps.none _ _))))); intro v345 w117 ho118 hb hg_ hnew_; clear hg_ hnew_; (first | rw [← Ny344.out] at ho118 | (simp only [Int.reduceToNat] at ho118; rw [← Ny344.out] at ho118)); have HO346 := Aside0.mk (Kd.R_lower ho118 (below_size zaB)); replace HB := Aside0.mk (below_step zaB hb); clear hb ho118; obtain ⟨Ao119, co119, eo119⟩ := Kd.R_slice HO346.out; subst eo119) | ((with_reducible refine gate_callee (f := 31) rfl ?_); refine goesL_ (some 46) rfl rfl Try.func31 (by kernel_rfl) rfl #[.int .u8 0, .slice Ao119 y344.length co119] rfl (by (try simp only [List.map_toArray, List.map_cons, List.map_nil]); first | done | rfl | (simp only [List.length_drop, List.length_take]; rfl)) ?_; (with_reducible refine (soft_Sum.calls k 0 _ _ y344 t347 _ ?side1 ?side2 A9.out).mono ?_); (case side1 => repeat (first | exact (Kd.R_reads' HO346.out).2.2 | (with_reducible refine Kd.C_alloc ?_ _) | (with_reducible refine Kd.C_drewN ?_ _) | (with_reducible refine Kd.C_drew ?_))); (case side2 => exact (Kd.R_reads' HO346.out).2.1); rintro e w120 ⟨rfl, hb⟩; refine ⟨_, rfl, ?_⟩; replace HO346 := Aside0.mk (Kd.R_below (by (with_reducible repeat (first | apply Kd.R_alloc | apply Kd.R_drewN | apply Kd.R_drew)); exact HO346.out) hb); replace HB := Aside0.mk (below_step zaB hb); (try clear hb)))
    go_ret
    exact ⟨zaE, zaB⟩
  ·rw [if_neg c11] at H
   have c11b0 : (t330 == 1) = false := beq_eq_false_iff_ne.mpr c11
   have c11b1 : (t330 != 1) = true := bne_iff_ne.mpr c11
   obtain rfl := Option.some.inj H
   go_enter Try.func20, Try.ntmps20
   go_wp2_with (first | ((with_reducible refine gate_callee (f := 21) rfl ?_); refine zgL 17 Try.func21 (soft_Add.calls k 4607182418800017408 4368491638549381120 0 t329 t330 _ A1.out) (h := ?_); rintro w121 hb; replace HB := Aside0.mk (below_step zaB hb); (try clear hb)) | ((with_reducible refine gate_callee (f := 21) rfl ?_); refine zgL 21 Try.func21 (soft_Add.calls k 4607182418800017408 4368491638549381120 1 t331 t332 _ A2.out) (h := ?_); rintro w122 hb; replace HB := Aside0.mk (below_step zaB hb); (try clear hb)) | ((with_reducible refine gate_callee (f := 23) rfl ?_); refine zgL 25 Try.func23 (soft_Sub.calls k 4607182418800017408 4607182418800017408 0 t333 t334 _ A3.out) (h := ?_); rintro w123 hb; replace HB := Aside0.mk (below_step zaB hb); (try clear hb)) | ((with_reducible refine gate_callee (f := 23) rfl ?_); refine zgL 29 Try.func23 (soft_Sub.calls k 4607182418800017408 4607182418800017408 2 t335 t336 _ A4.out) (h := ?_); rintro w124 hb; replace HB := Aside0.mk (below_step zaB hb); (try clear hb)) | ((with_reducible refine gate_callee (f := 27) rfl ?_); refine zgL 33 Try.func27 (soft_Div.calls k 13830554455654793216 0 0 t337 t338 _ A5.out) (h := ?_); rintro w125 hb; replace HB := Aside0.mk (below_step zaB hb); (try clear hb)) | ((with_reducible refine gate_callee (f := 29) rfl ?_); refine zgL 37 Try.func29 (soft_Sqrt.calls k 4611686018427387904 0 t339 t340 _ A6.out) (h := ?_); rintro w126 hb; replace HB := Aside0.mk (below_step zaB hb); (try clear hb)) | ((with_reducible refine gate_callee (f := 79) rfl ?_); refine zgL 41 Try.func79 (pattern_Inf.calls k false t341 _ A7.out) (h := ?_); rintro w' ⟨nd, rfl⟩) | ((with_reducible refine gate_callee (f := 25) rfl ?_); refine zgL 42 Try.func25 (soft_Mul.calls k 0 t341 0 t342 t343 _ A8.out) (h := ?_); rintro w127 hb; replace HB := Aside0.mk (below_step zaB hb); (try clear hb)) | ((with_reducible refine gate_dst (N := 45) rfl ?_); refine Kd.R_lit (Kd.int .u64) _ 23 ?hg (N := 45) ?hd (xs := ([4607182418800017408, 4607182418800017408, 4607182418800017408] : List Int)) (inner := [.int .u64 4607182418800017408, .int .u64 4607182418800017408, .int .u64 4607182418800017408]) (ok := fun _ => True) (okp := fun _ => True) ?hr ?hp (fun _ hk => hk) trivial (Below.refl _ _) (Nat.le_refl _) (by simp) ?_; (case hd => rfl); (case hg => rfl); (case hr => first | (go_simp; done) | (go_simp; rfl)); (case hp => exact (Reps.one (show Kd.M (Kd.int .u64) _ _ _ 4607182418800017408 [.int .u64 4607182418800017408] from rfl) (Reps.one (show Kd.M (Kd.int .u64) _ _ _ 4607182418800017408 [.int .u64 4607182418800017408] from rfl) (Reps.one (show Kd.M (Kd.int .u64) _ _ _ 4607182418800017408 [.int .u64 4607182418800017408] from rfl) (Reps.none _ _))))); intro v345 w128 ho129 hb hg_ hnew_; clear hg_ hnew_; (first | rw [← Ny344.out] at ho129 | (simp only [Int.reduceToNat] at ho129; rw [← Ny344.out] at ho129)); have HO346 := Aside0.mk (Kd.R_lower ho129 (below_size zaB)); replace HB := Aside0.mk (below_step zaB hb); clear hb ho129; obtain ⟨Ao130, co130, eo130⟩ := Kd.R_slice HO346.out; subst eo130) | ((with_reducible refine gate_callee (f := 31) rfl ?_); refine goesL_ (some 46) rfl rfl Try.func31 (by kernel_rfl) rfl #[.int .u8 0, .slice Ao130 y344.length co130] rfl (by (try simp only [List.map_toArray, List.map_cons, List.map_nil]); first | done | rfl | (simp only [List.length_drop, List.length_take]; rfl)) ?_; (with_reducible refine (soft_Sum.calls k 0 _ _ y344 t347 _ ?side1 ?side2 A9.out).mono ?_); (case side1 => repeat (first | exact (Kd.R_reads' HO346.out).2.2 | (with_reducible refine Kd.C_alloc ?_ _) | (with_reducible refine Kd.C_drewN ?_ _) | (with_reducible refine Kd.C_drew ?_))); (case side2 => exact (Kd.R_reads' HO346.out).2.1); rintro e w131 ⟨rfl, hb⟩; refine ⟨_, rfl, ?_⟩; replace HO346 := Aside0.mk (Kd.R_below (by (with_reducible repeat (first | apply Kd.R_alloc | apply Kd.R_drewN | apply Kd.R_drew)); exact HO346.out) hb); replace HB := Aside0.mk (below_step zaB hb); (try clear hb)))
   go_ret
   exact ⟨zaE, zaB⟩
 ·rw [if_neg c10] at H
  have c10b0 : (t329 == 4607182418800017408) = false := beq_eq_false_iff_ne.mpr c10
  have c10b1 : (t329 != 4607182418800017408) = true := bne_iff_ne.mpr c10
  obtain rfl := Option.some.inj H
  go_enter Try.func20, Try.ntmps20
  go_wp2_with (first | ((with_reducible refine gate_callee (f := 21) rfl ?_); refine zgL 17 Try.func21 (soft_Add.calls k 4607182418800017408 4368491638549381120 0 t329 t330 _ A1.out) (h := ?_); rintro w132 hb; replace HB := Aside0.mk (below_step zaB hb); (try clear hb)) | ((with_reducible refine gate_callee (f := 21) rfl ?_); refine zgL 21 Try.func21 (soft_Add.calls k 4607182418800017408 4368491638549381120 1 t331 t332 _ A2.out) (h := ?_); rintro w133 hb; replace HB := Aside0.mk (below_step zaB hb); (try clear hb)) | ((with_reducible refine gate_callee (f := 23) rfl ?_); refine zgL 25 Try.func23 (soft_Sub.calls k 4607182418800017408 4607182418800017408 0 t333 t334 _ A3.out) (h := ?_); rintro w134 hb; replace HB := Aside0.mk (below_step zaB hb); (try clear hb)) | ((with_reducible refine gate_callee (f := 23) rfl ?_); refine zgL 29 Try.func23 (soft_Sub.calls k 4607182418800017408 4607182418800017408 2 t335 t336 _ A4.out) (h := ?_); rintro w135 hb; replace HB := Aside0.mk (below_step zaB hb); (try clear hb)) | ((with_reducible refine gate_callee (f := 27) rfl ?_); refine zgL 33 Try.func27 (soft_Div.calls k 13830554455654793216 0 0 t337 t338 _ A5.out) (h := ?_); rintro w136 hb; replace HB := Aside0.mk (below_step zaB hb); (try clear hb)) | ((with_reducible refine gate_callee (f := 29) rfl ?_); refine zgL 37 Try.func29 (soft_Sqrt.calls k 4611686018427387904 0 t339 t340 _ A6.out) (h := ?_); rintro w137 hb; replace HB := Aside0.mk (below_step zaB hb); (try clear hb)) | ((with_reducible refine gate_callee (f := 79) rfl ?_); refine zgL 41 Try.func79 (pattern_Inf.calls k false t341 _ A7.out) (h := ?_); rintro w' ⟨nd, rfl⟩) | ((with_reducible refine gate_callee (f := 25) rfl ?_); refine zgL 42 Try.func25 (soft_Mul.calls k 0 t341 0 t342 t343 _ A8.out) (h := ?_); rintro w138 hb; replace HB := Aside0.mk (below_step zaB hb); (try clear hb)) | ((with_reducible refine gate_dst (N := 45) rfl ?_); refine Kd.R_lit (Kd.int .u64) _ 23 ?hg (N := 45) ?hd (xs := ([4607182418800017408, 4607182418800017408, 4607182418800017408] : List Int)) (inner := [.int .u64 4607182418800017408, .int .u64 4607182418800017408, .int .u64 4607182418800017408]) (ok := fun _ => True) (okp := fun _ => True) ?hr ?hp (fun _ hk => hk) trivial (Below.refl _ _) (Nat.le_refl _) (by simp) ?_; (case hd => rfl); (case hg => rfl); (case hr => first | (go_simp; done) | (go_simp; rfl)); (case hp => exact (Reps.one (show Kd.M (Kd.int .u64) _ _ _ 4607182418800017408 [.int .u64 4607182418800017408] from rfl) (Reps.one (show Kd.M (Kd.int .u64) _ _ _ 4607182418800017408 [.int .u64 4607182418800017408] from rfl) (Reps.one (show Kd.M (Kd.int .u64) _ _ _ 4607182418800017408 [.int .u64 4607182418800017408] from rfl) (Reps.none _ _))))); intro v345 w139 ho140 hb hg_ hnew_; clear hg_ hnew_; (first | rw [← Ny344.out] at ho140 | (simp only [Int.reduceToNat] at ho140; rw [← Ny344.out] at ho140)); have HO346 := Aside0.mk (Kd.R_lower ho140 (below_size zaB)); replace HB := Aside0.mk (below_step zaB hb); clear hb ho140; obtain ⟨Ao141, co141, eo141⟩ := Kd.R_slice HO346.out; subst eo141) | ((with_reducible refine gate_callee (f := 31) rfl ?_); refine goesL_ (some 46) rfl rfl Try.func31 (by kernel_rfl) rfl #[.int .u8 0, .slice Ao141 y344.length co141] rfl (by (try simp only [List.map_toArray, List.map_cons, List.map_nil]); first | done | rfl | (simp only [List.length_drop, List.length_take]; rfl)) ?_; (with_reducible refine (soft_Sum.calls k 0 _ _ y344 t347 _ ?side1 ?side2 A9.out).mono ?_); (case side1 => repeat (first | exact (Kd.R_reads' HO346.out).2.2 | (with_reducible refine Kd.C_alloc ?_ _) | (with_reducible refine Kd.C_drewN ?_ _) | (with_reducible refine Kd.C_drew ?_))); (case side2 => exact (Kd.R_reads' HO346.out).2.1); rintro e w142 ⟨rfl, hb⟩; refine ⟨_, rfl, ?_⟩; replace HO346 := Aside0.mk (Kd.R_below (by (with_reducible repeat (first | apply Kd.R_alloc | apply Kd.R_drewN | apply Kd.R_drew)); exact HO346.out) hb); replace HB := Aside0.mk (below_step zaB hb); (try clear hb)))
  go_ret
  exact ⟨zaE, zaB⟩
end Go.Proofs.Ytmadjhmecfbcmaa.F
end
section
namespace Go.Proofs.Ytmadjhmecfbcmaa.F
open Go.RowKit Go.Proofs.YtmadjhmecfbcmaaW.PrintWords Go.Proofs.YtmadjhmecfbcmaaW.PrintLast Go.Proofs.YtmadjhmecfbcmaaW.PrintMore
attribute [local go_sem] max2_int min2_int max_two min_two max_three min_three max_four min_four
set_option linter.unusedVariables false
set_option linter.unusedSimpArgs false
set_option maxHeartbeats 8000000 in
set_option maxRecDepth 100000 in
theorem flyballref04_Parts.calls (a0 : Int) (r1 : Bool) (r2 : Int) (r3 : Int) (w : World) (h : flyballref04_Parts.f a0 = some (r1, r2, r3)) :
  Calls Try.prog 154 #[.int .u64 a0] w fun e w' => e = .returned (.tuple #[.bool r1, .int .i64 r2, .int .u64 r3]) ∧ Drawn0 w w' := by
 have H : (some (((IntKind.u64.wrap (Int.tdiv a0 9223372036854775808)) == 1), wrap64 (Int.tmod (IntKind.u64.wrap (Int.tdiv a0 4503599627370496)) 2048), Int.tmod a0 4503599627370496)) = some (r1, r2, r3) := h
 clear h
 simp only [Option.some.injEq, Prod.mk.injEq] at H
 obtain ⟨rfl, rfl, rfl⟩ := H
 go_enter Try.func154, Try.ntmps154
 go_wp2
 go_ret3
 exact ⟨by first | rfl | (simp; done) | (simp [*]; done), by repeat (first | exact Drawn0.refl _ | apply Drawn0.step)⟩
end Go.Proofs.Ytmadjhmecfbcmaa.F
end
section
namespace Go.Proofs.Ytmadjhmecfbcmaa.F
open Go.RowKit Go.Proofs.YtmadjhmecfbcmaaW.PrintWords Go.Proofs.YtmadjhmecfbcmaaW.PrintLast Go.Proofs.YtmadjhmecfbcmaaW.PrintMore
attribute [local go_sem] max2_int min2_int max_two min_two max_three min_three max_four min_four
set_option linter.unusedVariables false
set_option linter.unusedSimpArgs false
set_option maxHeartbeats 8000000 in
set_option maxRecDepth 100000 in
theorem flyballref04_Class.calls (k : Nat) (a0 : Int) (r : Int) (w : World) (h : flyballref04_Class.f k a0 = some r) :
  Calls Try.prog 128 #[.int .u64 a0] w fun e w' => e = .returned (.int .u8 r) ∧ Drawn0 w w' := by
 have H : ((flyballref04_Parts.f a0).bind fun bt350 => (if bt350.2.1 = 2047 then (flyballref04_Class.j0 k bt350.2.1 bt350.2.2 (bt350.2.2 == 0)) else (flyballref04_Class.j0 k bt350.2.1 bt350.2.2 false))) = some r := h
 clear h
 obtain ⟨⟨t350, t351, t352⟩, A2, H⟩ := zbs H
 try dsimp only at H
 have HC3 := Aside0.mk H
 clear H
 go_enter Try.func128, Try.ntmps128
 go_upto_region 2 with (first | ((with_reducible refine gate_callee (f := 154) rfl ?_); refine zgL 8 Try.func154 (flyballref04_Parts.calls a0 t350 t351 t352 _ A2.out) (h := ?_); rintro w' ⟨nd, rfl⟩))
 (try simp only [Act.put, List.setIfInBounds_toArray, List.set_cons_zero, List.set_cons_succ])
 go_cut [17] (fun v17 wc => ∃ (kq : Nat) (x17_2 : Bool), v17 = .bool x17_2 ∧ Aside0 (flyballref04_Class.j0 kq t351 t352 x17_2 = some r) ∧ Aside0 (kq ≤ k) ∧ Drawn0 w wc)
 case first =>
  have H := HC3.out
  clear HC3
  by_cases c4 : t351 = 2047
  ·rw [if_pos c4] at H
   have c4b0 : (t351 == 2047) = true := beq_iff_eq.mpr c4
   have c4b1 : (t351 != 2047) = false := bne_eq_false_iff_eq.mpr c4
   clear c4
   (first | rw [c4b0] | (simp only [i64_w, i32_w]; rw [c4b0]) | skip)
   have H' := Aside0.mk H
   clear H
   go_wp2
   go_meet
   case rel => exact ⟨_, ((t352 == 0)), (by first | rfl | (simp; done) | (simp [*]; done)), H', ⟨by first | omega | exact Nat.le_refl _⟩, by repeat (first | exact Drawn0.refl _ | apply Drawn0.step)⟩
  ·rw [if_neg c4] at H
   have c4b0 : (t351 == 2047) = false := beq_eq_false_iff_ne.mpr c4
   have c4b1 : (t351 != 2047) = true := bne_iff_ne.mpr c4
   (first | rw [c4b0] | (simp only [i64_w, i32_w]; rw [c4b0]) | skip)
   have H' := Aside0.mk H
   clear H
   go_wp2
   go_meet
   case rel => exact ⟨_, (false), (by first | rfl | (simp; done) | (simp [*]; done)), H', ⟨by first | omega | exact Nat.le_refl _⟩, by repeat (first | exact Drawn0.refl _ | apply Drawn0.step)⟩
 case rest =>
  clear HC3
  try clear c1
  try clear p2
  try clear c4
  try clear c4b0
  try clear c4b1
  obtain ⟨kq, x17_2, rfl, HA, HJ2, ⟨mc2, rfl⟩⟩ := hcut
  cases kq with
  | zero => exact absurd HA.out (by simp [flyballref04_Class.j0])
  | succ kj2 =>
   have H := HA.out
   clear HA
   simp only [flyballref04_Class.j0] at H
   by_cases c5 : x17_2 = true
   ·subst c5
    have H1 : (some 3) = some r := by rw [if_pos rfl] at H; exact H
    clear H
    have H := H1
    clear H1
    obtain rfl := Option.some.inj H
    go_wp2
    go_ret
    exact ⟨by first | rfl | (simp; done) | (simp [*]; done), by repeat (first | exact Drawn0.refl _ | apply Drawn0.step)⟩
   ·replace c5 := Bool.eq_false_iff.mpr c5
    subst c5
    have H1 : (if t351 = 2047 then (some 4) else (if t351 = 0 then (flyballref04_Class.j1 kj2 t351 (t352 == 0)) else (flyballref04_Class.j1 kj2 t351 false))) = some r := by rw [if_neg (show ¬ (false = true) by decide)] at H; exact H
    clear H
    have H := H1
    clear H1
    by_cases c6 : t351 = 2047
    ·rw [if_pos c6] at H
     have c6b0 : (t351 == 2047) = true := beq_iff_eq.mpr c6
     have c6b1 : (t351 != 2047) = false := bne_eq_false_iff_eq.mpr c6
     clear c6
     obtain rfl := Option.some.inj H
     go_wp2
     go_ret
     exact ⟨by first | rfl | (simp; done) | (simp [*]; done), by repeat (first | exact Drawn0.refl _ | apply Drawn0.step)⟩
    ·rw [if_neg c6] at H
     have c6b0 : (t351 == 2047) = false := beq_eq_false_iff_ne.mpr c6
     have c6b1 : (t351 != 2047) = true := bne_iff_ne.mpr c6
     have HC7 := Aside0.mk H
     clear H
     go_upto_region 6 with (fail)
     go_cut [25] (fun v25 wc => ∃ (kq : Nat) (x25_6 : Bool), v25 = .bool x25_6 ∧ Aside0 (flyballref04_Class.j1 kq t351 x25_6 = some r) ∧ Aside0 (kq ≤ kj2) ∧ Drawn0 w wc)
     case first =>
      have H := HC7.out
      clear HC7
      by_cases c8 : t351 = 0
      ·rw [if_pos c8] at H
       have c8b0 : (t351 == 0) = true := beq_iff_eq.mpr c8
       have c8b1 : (t351 != 0) = false := bne_eq_false_iff_eq.mpr c8
       clear c8
       (first | rw [c8b0] | (simp only [i64_w, i32_w]; rw [c8b0]) | skip)
       have H' := Aside0.mk H
       clear H
       go_wp2
       go_meet
       case rel => exact ⟨_, ((t352 == 0)), (by first | rfl | (simp; done) | (simp [*]; done)), H', ⟨by have := HJ2.out; first | omega | exact Nat.le_refl _⟩, by repeat (first | exact Drawn0.refl _ | apply Drawn0.step)⟩
      ·rw [if_neg c8] at H
       have c8b0 : (t351 == 0) = false := beq_eq_false_iff_ne.mpr c8
       have c8b1 : (t351 != 0) = true := bne_iff_ne.mpr c8
       (first | rw [c8b0] | (simp only [i64_w, i32_w]; rw [c8b0]) | skip)
       have H' := Aside0.mk H
       clear H
       go_wp2
       go_meet
       case rel => exact ⟨_, (false), (by first | rfl | (simp; done) | (simp [*]; done)), H', ⟨by have := HJ2.out; first | omega | exact Nat.le_refl _⟩, by repeat (first | exact Drawn0.refl _ | apply Drawn0.step)⟩
     case rest =>
      clear HC7
      try clear c1
      try clear c2
      try clear p2
      try clear c4
      try clear c4b0
      try clear c4b1
      try clear c5
      try clear c6
      try clear c6b0
      try clear c6b1
      try clear c8
      try clear c8b0
      try clear c8b1
      try clear p2
      obtain ⟨kq, x25_6, rfl, HA, HJ6, ⟨mc6, rfl⟩⟩ := hcut
      cases kq with
      | zero => exact absurd HA.out (by simp [flyballref04_Class.j1])
      | succ kj6 =>
       have H := HA.out
       clear HA
       simp only [flyballref04_Class.j1] at H
       by_cases c9 : x25_6 = true
       ·subst c9
        have H1 : (some 0) = some r := by rw [if_pos rfl] at H; exact H
        clear H
        have H := H1
        clear H1
        obtain rfl := Option.some.inj H
        go_wp2
        go_ret
        exact ⟨by first | rfl | (simp; done) | (simp [*]; done), by repeat (first | exact Drawn0.refl _ | apply Drawn0.step)⟩
       ·replace c9 := Bool.eq_false_iff.mpr c9
        subst c9
        have H1 : (if t351 = 0 then (some 1) else (some 2)) = some r := by rw [if_neg (show ¬ (false = true) by decide)] at H; exact H
        clear H
        have H := H1
        clear H1
        by_cases c10 : t351 = 0
        ·rw [if_pos c10] at H
         have c10b0 : (t351 == 0) = true := beq_iff_eq.mpr c10
         have c10b1 : (t351 != 0) = false := bne_eq_false_iff_eq.mpr c10
         clear c10
         obtain rfl := Option.some.inj H
         go_wp2
         go_ret
         exact ⟨by first | rfl | (simp; done) | (simp [*]; done), by repeat (first | exact Drawn0.refl _ | apply Drawn0.step)⟩
        ·rw [if_neg c10] at H
         have c10b0 : (t351 == 0) = false := beq_eq_false_iff_ne.mpr c10
         have c10b1 : (t351 != 0) = true := bne_iff_ne.mpr c10
         obtain rfl := Option.some.inj H
         go_wp2
         go_ret
         exact ⟨by first | rfl | (simp; done) | (simp [*]; done), by repeat (first | exact Drawn0.refl _ | apply Drawn0.step)⟩
end Go.Proofs.Ytmadjhmecfbcmaa.F
end
section
namespace Go.Proofs.Ytmadjhmecfbcmaa.F
open Go.RowKit Go.Proofs.YtmadjhmecfbcmaaW.PrintWords Go.Proofs.YtmadjhmecfbcmaaW.PrintLast Go.Proofs.YtmadjhmecfbcmaaW.PrintMore
attribute [local go_sem] max2_int min2_int max_two min_two max_three min_three max_four min_four
set_option linter.unusedVariables false
set_option linter.unusedSimpArgs false
set_option maxHeartbeats 8000000 in
set_option maxRecDepth 100000 in
theorem flyballref06_is.calls (k : Nat) (a0 : Int) (a1 : Int) (r : Bool) (w : World) (h : flyballref06_is.f k a0 a1 = some r) :
  Calls Try.prog 87 #[.int .u64 a0, .int .u8 a1] w fun e w' => e = .returned (.bool r) ∧ Drawn0 w w' := by
 have H : ((flyballref04_Class.f k a0).bind fun t353 => (some (t353 == a1))) = some r := h
 clear h
 obtain ⟨t353, A3, H⟩ := zbs H
 try dsimp only at H
 obtain rfl := Option.some.inj H
 go_enter Try.func87, Try.ntmps87
 go_wp2_with (first | ((with_reducible refine gate_callee (f := 128) rfl ?_); refine zgL 6 Try.func128 (flyballref04_Class.calls k a0 t353 _ A3.out) (h := ?_); rintro w' ⟨nd, rfl⟩))
 go_ret
 exact ⟨by first | rfl | (simp; done) | (simp [*]; done), by repeat (first | exact Drawn0.refl _ | apply Drawn0.step)⟩
end Go.Proofs.Ytmadjhmecfbcmaa.F
end
section
namespace Go.Proofs.Ytmadjhmecfbcmaa.F
open Go.RowKit Go.Proofs.YtmadjhmecfbcmaaW.PrintWords Go.Proofs.YtmadjhmecfbcmaaW.PrintLast Go.Proofs.YtmadjhmecfbcmaaW.PrintMore
attribute [local go_sem] max2_int min2_int max_two min_two max_three min_three max_four min_four
set_option linter.unusedVariables false
set_option linter.unusedSimpArgs false
set_option maxHeartbeats 8000000 in
set_option maxRecDepth 100000 in
theorem flyballref06_neg.calls (a0 : Int) (r : Bool) (w : World) (h : flyballref06_neg.f a0 = some r) :
  Calls Try.prog 88 #[.int .u64 a0] w fun e w' => e = .returned (.bool r) ∧ Drawn0 w w' := by
 have H : (some ((a0 / 9223372036854775808) == 1)) = some r := h
 clear h
 obtain rfl := Option.some.inj H
 go_enter Try.func88, Try.ntmps88
 go_wp2
 go_ret
 exact ⟨by first | rfl | (simp; done) | (simp [*]; done), by repeat (first | exact Drawn0.refl _ | apply Drawn0.step)⟩
end Go.Proofs.Ytmadjhmecfbcmaa.F
end
section
namespace Go.Proofs.Ytmadjhmecfbcmaa.F
open Go.RowKit Go.Proofs.YtmadjhmecfbcmaaW.PrintWords Go.Proofs.YtmadjhmecfbcmaaW.PrintLast Go.Proofs.YtmadjhmecfbcmaaW.PrintMore
attribute [local go_sem] max2_int min2_int max_two min_two max_three min_three max_four min_four
set_option linter.unusedVariables false
set_option linter.unusedSimpArgs false
set_option maxHeartbeats 8000000 in
set_option maxRecDepth 100000 in
theorem flyballref04_Split.calls (k : Nat) (a0 : Int) (r1 : Int) (r2 : Int) (w : World) (h : flyballref04_Split.f k a0 = some (r1, r2)) :
  Calls Try.prog 89 #[.int .u64 a0] w fun e w' => e = .returned (.tuple #[.int .u64 r1, .int .i64 r2]) ∧ Drawn0 w w' := by
 have H : ((flyballref04_Parts.f a0).bind fun bt354 => ((flyballref04_Class.f k a0).bind fun t357 => (if t357 = 2 then (some (IntKind.u64.wrap (4503599627370496 + bt354.2.2), wrap64 (bt354.2.1 - 1075))) else (if t357 = 1 then (some (bt354.2.2, (-1074))) else (some (0, 0)))))) = some (r1, r2) := h
 clear h
 obtain ⟨⟨t354, t355, t356⟩, A2, H⟩ := zbs H
 try dsimp only at H
 obtain ⟨t357, A3, H⟩ := zbs H
 try dsimp only at H
 by_cases c4 : t357 = 2
 ·rw [if_pos c4] at H
  have c4b0 : (t357 == 2) = true := beq_iff_eq.mpr c4
  have c4b1 : (t357 != 2) = false := bne_eq_false_iff_eq.mpr c4
  clear c4
  simp only [Option.some.injEq, Prod.mk.injEq] at H
  obtain ⟨rfl, rfl⟩ := H
  go_enter Try.func89, Try.ntmps89
  go_wp2_with (first | ((with_reducible refine gate_callee (f := 154) rfl ?_); refine zgL 10 Try.func154 (flyballref04_Parts.calls a0 t354 t355 t356 _ A2.out) (h := ?_); rintro w' ⟨nd, rfl⟩) | ((with_reducible refine gate_callee (f := 128) rfl ?_); refine zgL 15 Try.func128 (flyballref04_Class.calls k a0 t357 _ A3.out) (h := ?_); rintro w' ⟨nd, rfl⟩))
  go_ret2
  exact ⟨by first | rfl | (simp; done) | (simp [*]; done), by repeat (first | exact Drawn0.refl _ | apply Drawn0.step)⟩
 ·rw [if_neg c4] at H
  have c4b0 : (t357 == 2) = false := beq_eq_false_iff_ne.mpr c4
  have c4b1 : (t357 != 2) = true := bne_iff_ne.mpr c4
  by_cases c5 : t357 = 1
  ·rw [if_pos c5] at H
   have c5b0 : (t357 == 1) = true := beq_iff_eq.mpr c5
   have c5b1 : (t357 != 1) = false := bne_eq_false_iff_eq.mpr c5
   clear c5
   simp only [Option.some.injEq, Prod.mk.injEq] at H
   obtain ⟨rfl, rfl⟩ := H
   go_enter Try.func89, Try.ntmps89
   go_wp2_with (first | ((with_reducible refine gate_callee (f := 154) rfl ?_); refine zgL 10 Try.func154 (flyballref04_Parts.calls a0 t354 t355 t356 _ A2.out) (h := ?_); rintro w' ⟨nd, rfl⟩) | ((with_reducible refine gate_callee (f := 128) rfl ?_); refine zgL 15 Try.func128 (flyballref04_Class.calls k a0 t357 _ A3.out) (h := ?_); rintro w' ⟨nd, rfl⟩))
   go_ret2
   exact ⟨by first | rfl | (simp; done) | (simp [*]; done), by repeat (first | exact Drawn0.refl _ | apply Drawn0.step)⟩
  ·rw [if_neg c5] at H
   have c5b0 : (t357 == 1) = false := beq_eq_false_iff_ne.mpr c5
   have c5b1 : (t357 != 1) = true := bne_iff_ne.mpr c5
   simp only [Option.some.injEq, Prod.mk.injEq] at H
   obtain ⟨rfl, rfl⟩ := H
   go_enter Try.func89, Try.ntmps89
   go_wp2_with (first | ((with_reducible refine gate_callee (f := 154) rfl ?_); refine zgL 10 Try.func154 (flyballref04_Parts.calls a0 t354 t355 t356 _ A2.out) (h := ?_); rintro w' ⟨nd, rfl⟩) | ((with_reducible refine gate_callee (f := 128) rfl ?_); refine zgL 15 Try.func128 (flyballref04_Class.calls k a0 t357 _ A3.out) (h := ?_); rintro w' ⟨nd, rfl⟩))
   go_ret2
   exact ⟨by first | rfl | (simp; done) | (simp [*]; done), by repeat (first | exact Drawn0.refl _ | apply Drawn0.step)⟩
end Go.Proofs.Ytmadjhmecfbcmaa.F
end
section
namespace Go.Proofs.Ytmadjhmecfbcmaa.F
open Go.RowKit Go.Proofs.YtmadjhmecfbcmaaW.PrintWords Go.Proofs.YtmadjhmecfbcmaaW.PrintLast Go.Proofs.YtmadjhmecfbcmaaW.PrintMore
attribute [local go_sem] max2_int min2_int max_two min_two max_three min_three max_four min_four
set_option linter.unusedVariables false
set_option linter.unusedSimpArgs false
set_option maxHeartbeats 8000000 in
set_option maxRecDepth 100000 in
theorem flyballref01_Shl.calls (k : Nat) (A0 : Option Addr) (c0 : Nat) (l0 : List Bool) (a1 : Int) (r : List Bool) (w : World) (hr0 : Kd.C Kd.bool w A0 l0.length l0) (hc0 : l0.length ≤ c0) (h : flyballref01_Shl.f k l0 a1 = some r) :
  Calls Try.prog 90 #[.slice A0 l0.length c0, .int .i64 a1] w fun e w' => ∃ v0_ : Value, e = .returned (v0_) ∧ Kd.R Kd.bool 4 w' w.heap.size (fun _ => True) v0_ r ∧ Below w.heap.size w w' := by
 have HR0 := Aside0.mk hr0
 have HC0 := Aside0.mk hc0
 clear hr0 hc0
 have HB := Aside0.mk (Below.refl w.heap.size w)
 have H : (flyballref01_Shl.l0 k l0 a1 ([] : List Bool) 0) = some r := h
 clear h
 have H' := Aside0.mk H
 clear H
 go_enter Try.func90, Try.ntmps90
 go_wp2
 (try simp only [Act.put, List.setIfInBounds_toArray, List.set_cons_zero, List.set_cons_succ])
 go_loopg [5, 6] k (fun kq v5 v6 w' => ∃ (x5_1 : List Bool) (x6_1 : Int), v6 = .int .i64 x6_1 ∧ Aside0 (flyballref01_Shl.l0 kq l0 a1 x5_1 x6_1 = some r) ∧ Aside0 (kq ≤ k) ∧ Aside0 (Kd.R Kd.bool 4 w' w.heap.size (fun _ => True) v5 x5_1) ∧ Aside0 (Below w.heap.size w w'))
 case atStart => exact ⟨(([] : List Bool)), (0), (by first | rfl | (simp; done) | (simp [*]; done)), H', ⟨Nat.le_refl _⟩, ⟨by first | exact Kd.R_nil _ _ _ _ _ | exact Kd.N_nil _ _ _ _ _ | exact Kd.V_nil _ _ _ _ _ | exact Kd.Q_nil _ _ _ _ _ | exact Kd.S_nil _ _ _ _ _⟩, ⟨zaB⟩⟩
 case round =>
  clear H'
  try clear p2
  obtain ⟨x5_1, x6_1, rfl, HA, HK1, HO_5, HB⟩ := hrel
  cases gk with
  | zero => exact absurd HA.out (by simp [flyballref01_Shl.l0])
  | succ k1 =>
   have H := HA.out
   clear HA
   simp only [flyballref01_Shl.l0] at H
   by_cases c3 : x6_1 < a1
   ·rw [if_pos c3] at H
    have c3b0 : decide (x6_1 < a1) = true := decide_eq_true c3
    clear c3
    by_cases c4 : x5_1.length < 140737488355328
    ·rw [if_pos c4] at H
     have LMc4 := Aside0.mk c4
     clear c4
     obtain ⟨y358, hy358⟩ : ∃ y_ : List Bool, y_ = (x5_1 ++ [false]) := ⟨_, rfl⟩
     replace H : (flyballref01_Shl.l0 k1 l0 a1 y358 (wrap64 (x6_1 + 1))) = some r := by first | (rw [hy358]; with_reducible exact H) | (have H2_ := (Option.bind_some _ _).symm.trans H; rw [hy358]; with_reducible exact H2_) | (have H2_ := (Option.bind_some _ _).symm.trans H; with_reducible exact H2_) | with_reducible exact H | (rw [hy358]; exact H) | exact H
     have Ny358 := Aside0.mk hy358
     clear hy358
     have H' := Aside0.mk H
     clear H
     go_wp2_with (first | ((with_reducible refine gate_builtin (b := .append) (xs := #[.tmp 12, .tmp 13]) rfl ?_); at_builtin; refine Kd.R_append Kd.bool (w0 := w) w.heap.size rfl (.tmp 12) (.tmp 13) 96 4 (.bool false) 1 rfl Try.underlying96 info4 rfl (by decide) (by omega) u5 x5_1 false [.bool false] (fun _ => True) (fun _ => False) rfl rfl ?aP (fun _ hk => hk.elim) ?aF ?aO ?aB ?aS ?aL ?_; (case aP => exact rfl); (case aB => exact zaB); (case aF => exact (fun _ _ => trivial)); (case aO => exact (by (with_reducible repeat (first | apply Kd.R_alloc | apply Kd.R_drewN | apply Kd.R_drew)); exact HO_5.out)); (case aS => exact (below_size zaB)); (case aL => have := LMc4.out; omega); intro v359 w5 ho hb hg hat; rw [← Ny358.out] at ho; replace HB := Aside0.mk (hb); have HO360 := Aside0.mk (ho); clear HO_5; clear ho hb hg hat))
     go_roundg k1
     case measure => have := HK1.out; omega
     case rel => exact ⟨(y358), (wrap64 (x6_1 + 1)), (by first | rfl | (simp; done) | (simp [*]; done)), H', ⟨by have := HK1.out; omega⟩, ⟨by (with_reducible repeat (first | apply Kd.R_alloc | apply Kd.R_drewN | apply Kd.R_drew)); exact HO360.out⟩, ⟨zaB⟩⟩
    ·rw [if_neg c4] at H
     exact absurd H (by simp)
   ·rw [if_neg c3] at H
    have c3b0 : decide (x6_1 < a1) = false := decide_eq_false c3
    clear c3
    by_cases c6 : x5_1.length + l0.length < 140737488355328
    ·rw [if_pos c6] at H
     have LMc6 := Aside0.mk c6
     clear c6
     obtain ⟨y361, hy361⟩ : ∃ y_ : List Bool, y_ = (x5_1 ++ l0) := ⟨_, rfl⟩
     replace H : (some y361) = some r := by first | (rw [hy361]; with_reducible exact H) | (have H2_ := (Option.bind_some _ _).symm.trans H; rw [hy361]; with_reducible exact H2_) | (have H2_ := (Option.bind_some _ _).symm.trans H; with_reducible exact H2_) | with_reducible exact H | (rw [hy361]; exact H) | exact H
     have Ny361 := Aside0.mk hy361
     clear hy361
     obtain rfl := Option.some.inj H
     go_wp2_with (first | ((with_reducible refine gate_builtin (b := .append) (xs := #[.tmp 15, .tmp 16]) rfl ?_); at_builtin; refine Kd.R_append_rows Kd.bool (w0 := w) w.heap.size rfl (.tmp 15) (.tmp 16) 96 4 (.bool false) 1 rfl Try.underlying96 info4 rfl (by decide) (by omega) u5 x5_1 l0 _ _ _ (fun _ => True) (fun _ => False) rfl rfl ?aO ?aR (fun _ _ h => h) (fun _ h => h.elim) ?aF ?aB ?aS ?aL ?_; (case aR => repeat (first | exact (Kd.C_below HR0.out HB.out) | (with_reducible refine Kd.C_alloc ?_ _) | (with_reducible refine Kd.C_drewN ?_ _) | (with_reducible refine Kd.C_drew ?_))); (case aB => exact zaB); (case aF => exact (fun _ _ => trivial)); (case aO => exact (by (with_reducible repeat (first | apply Kd.R_alloc | apply Kd.R_drewN | apply Kd.R_drew)); exact HO_5.out)); (case aS => exact (below_size zaB)); (case aL => have := LMc6.out; omega); intro v362 w7 ho hb hg hat; rw [← Ny361.out] at ho; replace HB := Aside0.mk (hb); have HO363 := Aside0.mk (ho); clear HO_5; clear ho hb hg hat))
     go_ret
     exact ⟨_, zaE, by (with_reducible repeat (first | apply Kd.R_alloc | apply Kd.R_drewN | apply Kd.R_drew)); exact HO363.out, zaB⟩
    ·rw [if_neg c6] at H
     exact absurd H (by simp)
end Go.Proofs.Ytmadjhmecfbcmaa.F
end
section
namespace Go.Proofs.Ytmadjhmecfbcmaa.F
open Go.RowKit Go.Proofs.YtmadjhmecfbcmaaW.PrintWords Go.Proofs.YtmadjhmecfbcmaaW.PrintLast Go.Proofs.YtmadjhmecfbcmaaW.PrintMore
attribute [local go_sem] max2_int min2_int max_two min_two max_three min_three max_four min_four
set_option linter.unusedVariables false
set_option linter.unusedSimpArgs false
set_option maxHeartbeats 8000000 in
set_option maxRecDepth 100000 in
theorem flyballref01_Len.calls (k : Nat) (A0 : Option Addr) (c0 : Nat) (l0 : List Bool) (r : Int) (w : World) (hr0 : Kd.C Kd.bool w A0 l0.length l0) (hc0 : l0.length ≤ c0) (h : flyballref01_Len.f k l0 = some r) :
  Calls Try.prog 95 #[.slice A0 l0.length c0] w fun e w' => e = .returned (.int .i64 r) ∧ Drawn0 w w' := by
 have HR0 := Aside0.mk hr0
 have HC0 := Aside0.mk hc0
 clear hr0 hc0
 have H : (flyballref01_Len.l0 k l0 (l0.length : Int)) = some r := h
 clear h
 have H' := Aside0.mk H
 clear H
 go_enter Try.func95, Try.ntmps95
 go_wp2
 (try simp only [Act.put, List.setIfInBounds_toArray, List.set_cons_zero, List.set_cons_succ])
 go_loopg [3] k (fun kq v3 w' => ∃ (x3_1 : Int), v3 = .int .i64 x3_1 ∧ Aside0 (flyballref01_Len.l0 kq l0 x3_1 = some r) ∧ Aside0 (kq ≤ k) ∧ Drawn0 w w')
 case atStart => exact ⟨((l0.length : Int)), (by first | rfl | (simp; done) | (simp [*]; done)), H', ⟨Nat.le_refl _⟩, by repeat (first | exact Drawn0.refl _ | apply Drawn0.step)⟩
 case round =>
  clear H'
  obtain ⟨x3_1, rfl, HA, HK1, ⟨m1, rfl⟩⟩ := hrel
  cases gk with
  | zero => exact absurd HA.out (by simp [flyballref01_Len.l0])
  | succ k1 =>
   have H := HA.out
   clear HA
   simp only [flyballref01_Len.l0] at H
   by_cases c2 : x3_1 > 0
   ·rw [if_pos c2] at H
    have c2b0 : decide (0 < x3_1) = true := decide_eq_true c2
    clear c2
    obtain ⟨ji3, hji3⟩ : ∃ j_ : Int, (wrap64 (x3_1 - 1)) = j_ := ⟨_, rfl⟩
    replace H : (if 0 ≤ (ji3) then (if (ji3) < (l0.length : Int) then (if (rdOf false l0 (ji3) = true) then (some x3_1) else (flyballref01_Len.l0 k1 l0 ji3)) else (none)) else (none)) = some r := by first | (rw [hji3] at H; exact H) | (simp only [hji3] at H ⊢; exact H)
    have hji3w : (IntKind.i64.wrap (x3_1 - 1)) = ji3 := (i64_w _).trans hji3
    by_cases c4 : 0 ≤ (ji3)
    ·rw [if_pos c4] at H
     have c4b0 : decide (0 ≤ (ji3)) = true := decide_eq_true c4
     clear c4
     by_cases c5 : (ji3) < (l0.length : Int)
     ·rw [if_pos c5] at H
      have c5b0 : decide ((ji3) < (l0.length : Int)) = true := decide_eq_true c5
      clear c5
      obtain ⟨bq6, hbq6⟩ : ∃ b_ : Bool, b_ = (rdOf false l0 (ji3)) := ⟨_, rfl⟩
      replace H : (if (bq6 = true) then (some x3_1) else (flyballref01_Len.l0 k1 l0 ji3)) = some r := by rw [← hbq6] at H; exact H
      have Nbq6 := Aside0.mk hbq6
      clear hbq6
      by_cases c7 : (bq6 = true)
      ·subst c7
       have H1 : (some x3_1) = some r := by rw [if_pos rfl] at H; exact H
       clear H
       have H := H1
       clear H1
       obtain rfl := Option.some.inj H
       have p364 : 0 ≤ ((ji3) : Int) := of_decide_eq_true (by first | (with_reducible assumption) | assumption)
       have q364 : (ji3) < (l0.length : Int) := of_decide_eq_true (by first | (with_reducible assumption) | assumption)
       obtain ⟨ad364, e364, hx364_0⟩ := Kd.at_bool HR0.out (ji3) p364 q364
       (try rw [← Nbq6.out] at hx364_0)
       cases e364
       replace p364 := eq_true p364
       replace q364 := eq_true q364
       go_wp2
       go_ret
       exact ⟨by first | rfl | (simp; done) | (simp only [← hji3] <;> (first | rfl | simp)) | (simp [*]; done), by repeat (first | exact Drawn0.refl _ | apply Drawn0.step)⟩
      ·replace c7 := Bool.eq_false_iff.mpr c7
       subst c7
       have H1 : (flyballref01_Len.l0 k1 l0 ji3) = some r := by rw [if_neg (show ¬ (false = true) by decide)] at H; exact H
       clear H
       have H := H1
       clear H1
       have H' := Aside0.mk H
       clear H
       have p364 : 0 ≤ ((ji3) : Int) := of_decide_eq_true (by first | (with_reducible assumption) | assumption)
       have q364 : (ji3) < (l0.length : Int) := of_decide_eq_true (by first | (with_reducible assumption) | assumption)
       obtain ⟨ad364, e364, hx364_0⟩ := Kd.at_bool HR0.out (ji3) p364 q364
       (try rw [← Nbq6.out] at hx364_0)
       cases e364
       replace p364 := eq_true p364
       replace q364 := eq_true q364
       go_wp2
       go_roundg k1
       case measure => have := HK1.out; omega
       case rel => exact ⟨(ji3), (by first | rfl | (simp; done) | (simp only [← hji3] <;> (first | rfl | simp)) | (simp [*]; done)), H', ⟨by have := HK1.out; omega⟩, by repeat (first | exact Drawn0.refl _ | apply Drawn0.step)⟩
     ·rw [if_neg c5] at H
      exact absurd H (by simp)
    ·rw [if_neg c4] at H
     exact absurd H (by simp)
   ·rw [if_neg c2] at H
    have c2b0 : decide (0 < x3_1) = false := decide_eq_false c2
    clear c2
    obtain rfl := Option.some.inj H
    go_wp2
    go_ret
    exact ⟨by first | rfl | (simp; done) | (simp [*]; done), by repeat (first | exact Drawn0.refl _ | apply Drawn0.step)⟩
end Go.Proofs.Ytmadjhmecfbcmaa.F
end
section
namespace Go.Proofs.Ytmadjhmecfbcmaa.F
open Go.RowKit Go.Proofs.YtmadjhmecfbcmaaW.PrintWords Go.Proofs.YtmadjhmecfbcmaaW.PrintLast Go.Proofs.YtmadjhmecfbcmaaW.PrintMore
attribute [local go_sem] max2_int min2_int max_two min_two max_three min_three max_four min_four
set_option linter.unusedVariables false
set_option linter.unusedSimpArgs false
set_option maxHeartbeats 8000000 in
set_option maxRecDepth 100000 in
theorem flyballref01_Of.calls (k : Nat) (A0 : Option Addr) (c0 : Nat) (l0 : List Int) (r : List Bool) (w : World) (hr0 : Kd.C (Kd.int .u64) w A0 l0.length l0) (hc0 : l0.length ≤ c0) (h : flyballref01_Of.f k l0 = some r) :
  Calls Try.prog 155 #[.slice A0 l0.length c0] w fun e w' => ∃ v0_ : Value, e = .returned (v0_) ∧ Kd.R Kd.bool 4 w' w.heap.size (fun _ => True) v0_ r ∧ Below w.heap.size w w' := by
 have HR0 := Aside0.mk hr0
 have HC0 := Aside0.mk hc0
 clear hr0 hc0
 have HB := Aside0.mk (Below.refl w.heap.size w)
 have H : (flyballref01_Of.l0 k l0 ([] : List Bool) 0) = some r := h
 clear h
 have H' := Aside0.mk H
 clear H
 go_enter Try.func155, Try.ntmps155
 go_wp2
 (try simp only [Act.put, List.setIfInBounds_toArray, List.set_cons_zero, List.set_cons_succ])
 go_loopg [3, 4] k (fun kq v3 v4 w' => ∃ (x3_1 : List Bool) (x4_1 : Int), v4 = .int .i64 x4_1 ∧ Aside0 (flyballref01_Of.l0 kq l0 x3_1 x4_1 = some r) ∧ Aside0 (kq ≤ k) ∧ Aside0 (Kd.R Kd.bool 4 w' w.heap.size (fun _ => True) v3 x3_1) ∧ Aside0 (Below w.heap.size w w'))
 case atStart => exact ⟨(([] : List Bool)), (0), (by first | rfl | (simp; done) | (simp [*]; done)), H', ⟨Nat.le_refl _⟩, ⟨by first | exact Kd.R_nil _ _ _ _ _ | exact Kd.N_nil _ _ _ _ _ | exact Kd.V_nil _ _ _ _ _ | exact Kd.Q_nil _ _ _ _ _ | exact Kd.S_nil _ _ _ _ _⟩, ⟨zaB⟩⟩
 case round =>
  clear H'
  try clear c1
  obtain ⟨x3_1, x4_1, rfl, HA, HK1, HO_3, HB⟩ := hrel
  cases gk with
  | zero => exact absurd HA.out (by simp [flyballref01_Of.l0])
  | succ k1 =>
   have H := HA.out
   clear HA
   simp only [flyballref01_Of.l0] at H
   by_cases c2 : x4_1 < (l0.length : Int)
   ·rw [if_pos c2] at H
    have c2b0 : decide (x4_1 < (l0.length : Int)) = true := decide_eq_true c2
    clear c2
    have H' := Aside0.mk H
    clear H
    go_wp2
    (try simp only [Act.put, List.setIfInBounds_toArray, List.set_cons_zero, List.set_cons_succ])
    go_loopg [3, 5] k1 (fun kq v3 v5 w' => ∃ (x3_2 : List Bool) (x5_2 : Int), v5 = .int .i64 x5_2 ∧ Aside0 (flyballref01_Of.l1 kq l0 x3_2 x4_1 x5_2 = some r) ∧ Aside0 (kq ≤ k1) ∧ Aside0 (Kd.R Kd.bool 4 w' w.heap.size (fun _ => True) v3 x3_2) ∧ Aside0 (Below w.heap.size w w'))
    case atStart => exact ⟨(x3_1), (0), (by first | rfl | (simp; done) | (simp [*]; done)), H', ⟨Nat.le_refl _⟩, ⟨by (with_reducible repeat (first | apply Kd.R_alloc | apply Kd.R_drewN | apply Kd.R_drew)); exact HO_3.out⟩, ⟨zaB⟩⟩
    case round =>
     clear H'
     try clear c1
     try clear c2
     try clear c2b0
     try clear p2
     obtain ⟨x3_2, x5_2, rfl, HA, HK2, HO_3, HB⟩ := hrel
     cases gk with
     | zero => exact absurd HA.out (by simp [flyballref01_Of.l1])
     | succ k2 =>
      have H := HA.out
      clear HA
      simp only [flyballref01_Of.l1] at H
      by_cases c3 : x5_2 < 64
      ·rw [if_pos c3] at H
       have c3b0 : decide (x5_2 < 64) = true := decide_eq_true c3
       clear c3
       by_cases c4 : 0 ≤ x4_1
       ·rw [if_pos c4] at H
        have c4b0 : decide (0 ≤ x4_1) = true := decide_eq_true c4
        clear c4
        by_cases c5 : x4_1 < (l0.length : Int)
        ·rw [if_pos c5] at H
         have c5b0 : decide (x4_1 < (l0.length : Int)) = true := decide_eq_true c5
         clear c5
         obtain ⟨ji6, hji6⟩ : ∃ j_ : Int, (IntKind.u64.wrap (x5_2)) = j_ := ⟨_, rfl⟩
         replace H : (if 0 ≤ (ji6) then (if x3_2.length < 140737488355328 then (flyballref01_Of.l1 k2 l0 (x3_2 ++ [((Go.bits .and .u64 (shr .u64 (rd l0 x4_1) (ji6)) 1) == 1)]) x4_1 (wrap64 (x5_2 + 1))) else (none)) else (none)) = some r := by first | (rw [hji6] at H; exact H) | (simp only [hji6] at H ⊢; exact H)
         by_cases c7 : 0 ≤ (ji6)
         ·rw [if_pos c7] at H
          have c7b0 := eq_true c7
          have c7b1 : decide (0 ≤ (ji6)) = true := decide_eq_true c7
          clear c7
          obtain ⟨ji8, hji8⟩ : ∃ j_ : Int, (shr .u64 (rd l0 x4_1) (ji6)) = j_ := ⟨_, rfl⟩
          replace H : (if x3_2.length < 140737488355328 then (flyballref01_Of.l1 k2 l0 (x3_2 ++ [((Go.bits .and .u64 (ji8) 1) == 1)]) x4_1 (wrap64 (x5_2 + 1))) else (none)) = some r := by first | (rw [hji8] at H; exact H) | (simp only [hji8] at H ⊢; exact H)
          have hji8_ : ((rd l0 x4_1) / 2 ^ min (ji6).toNat 64) = ji8 := hji8
          have hji8z : (ji6) ≤ 64 → ((rd l0 x4_1) / 2 ^ (ji6).toNat) = ji8 := shr_small hji8
          by_cases c9 : x3_2.length < 140737488355328
          ·rw [if_pos c9] at H
           have LMc9 := Aside0.mk c9
           clear c9
           obtain ⟨y366, hy366⟩ : ∃ y_ : List Bool, y_ = (x3_2 ++ [((Go.bits .and .u64 (ji8) 1) == 1)]) := ⟨_, rfl⟩
           replace H : (flyballref01_Of.l1 k2 l0 y366 x4_1 (wrap64 (x5_2 + 1))) = some r := by first | (rw [hy366]; with_reducible exact H) | (have H2_ := (Option.bind_some _ _).symm.trans H; rw [hy366]; with_reducible exact H2_) | (have H2_ := (Option.bind_some _ _).symm.trans H; with_reducible exact H2_) | with_reducible exact H | (rw [hy366]; exact H) | exact H
           have Ny366 := Aside0.mk hy366
           clear hy366
           have H' := Aside0.mk H
           clear H
           have p365 : 0 ≤ (x4_1 : Int) := of_decide_eq_true (by first | (with_reducible assumption) | assumption)
           have q365 : x4_1 < (l0.length : Int) := of_decide_eq_true (by first | (with_reducible assumption) | assumption)
           obtain ⟨ad365, e365, hx365_0⟩ := Kd.at_int HR0.out x4_1 p365 q365
           cases e365
           replace hx365_0 := (HB.out.cell (World.block_lt_of_cell? w _ hx365_0)).trans hx365_0
           replace p365 := eq_true p365
           replace q365 := eq_true q365
           go_wp2_with (first | ((with_reducible refine gate_builtin (b := .append) (xs := #[.tmp 16, .tmp 26]) rfl ?_); at_builtin; refine Kd.R_append Kd.bool (w0 := w) w.heap.size rfl (.tmp 16) (.tmp 26) 96 4 (.bool false) 1 rfl Try.underlying96 info4 rfl (by decide) (by omega) u3 x3_2 ((Go.bits .and .u64 (ji8) 1) == 1) [.bool ((Go.bits .and .u64 (ji8) 1) == 1)] (fun _ => True) (fun _ => False) rfl rfl ?aP (fun _ hk => hk.elim) ?aF ?aO ?aB ?aS ?aL ?_; (case aP => exact rfl); (case aB => exact zaB); (case aF => exact (fun _ _ => trivial)); (case aO => exact (by (with_reducible repeat (first | apply Kd.R_alloc | apply Kd.R_drewN | apply Kd.R_drew)); exact HO_3.out)); (case aS => exact (below_size zaB)); (case aL => have := LMc9.out; omega); intro v367 w10 ho hb hg hat; rw [← Ny366.out] at ho; replace HB := Aside0.mk (hb); have HO368 := Aside0.mk (ho); clear HO_3; clear ho hb hg hat))
           go_roundg k2
           case measure => have := HK1.out; have := HK2.out; omega
           case rel => exact ⟨(y366), (wrap64 (x5_2 + 1)), (by first | rfl | (simp; done) | (simp [*]; done)), H', ⟨by have := HK1.out; have := HK2.out; omega⟩, ⟨by (with_reducible repeat (first | apply Kd.R_alloc | apply Kd.R_drewN | apply Kd.R_drew)); exact HO368.out⟩, ⟨zaB⟩⟩
          ·rw [if_neg c9] at H
           exact absurd H (by simp)
         ·rw [if_neg c7] at H
          exact absurd H (by simp)
        ·rw [if_neg c5] at H
         exact absurd H (by simp)
       ·rw [if_neg c4] at H
        exact absurd H (by simp)
      ·rw [if_neg c3] at H
       have c3b0 : decide (x5_2 < 64) = false := decide_eq_false c3
       clear c3
       have H' := Aside0.mk H
       clear H
       go_wp2
       go_roundg k2
       case measure => have := HK1.out; have := HK2.out; omega
       case rel => exact ⟨(x3_2), (wrap64 (x4_1 + 1)), (by first | rfl | (simp; done) | (simp [*]; done)), H', ⟨by have := HK1.out; have := HK2.out; omega⟩, ⟨by (with_reducible repeat (first | apply Kd.R_alloc | apply Kd.R_drewN | apply Kd.R_drew)); exact HO_3.out⟩, ⟨zaB⟩⟩
   ·rw [if_neg c2] at H
    have c2b0 : decide (x4_1 < (l0.length : Int)) = false := decide_eq_false c2
    clear c2
    obtain rfl := Option.some.inj H
    go_wp2
    go_ret
    exact ⟨_, zaE, by (with_reducible repeat (first | apply Kd.R_alloc | apply Kd.R_drewN | apply Kd.R_drew)); exact HO_3.out, zaB⟩
end Go.Proofs.Ytmadjhmecfbcmaa.F
end
section
namespace Go.Proofs.Ytmadjhmecfbcmaa.F
open Go.RowKit Go.Proofs.YtmadjhmecfbcmaaW.PrintWords Go.Proofs.YtmadjhmecfbcmaaW.PrintLast Go.Proofs.YtmadjhmecfbcmaaW.PrintMore
attribute [local go_sem] max2_int min2_int max_two min_two max_three min_three max_four min_four
set_option linter.unusedVariables false
set_option linter.unusedSimpArgs false
set_option maxHeartbeats 8000000 in
set_option maxRecDepth 100000 in
theorem flyballref06_bits.calls (k : Nat) (a0 : Int) (r : List Bool) (w : World) (h : flyballref06_bits.f k a0 = some r) :
  Calls Try.prog 91 #[.int .u64 a0] w fun e w' => ∃ v0_ : Value, e = .returned (v0_) ∧ Kd.R Kd.bool 4 w' w.heap.size (fun _ => True) v0_ r ∧ Below w.heap.size w w' := by
 have HB := Aside0.mk (Below.refl w.heap.size w)
 have H : ((flyballref01_Of.f k (([a0] : List Int))).bind fun t372 => ((flyballref01_Len.f k t372).bind fun t375 => (if 0 ≤ t375 then (if t375 ≤ (t372.length : Int) then (some (t372.take (t375 : Int).toNat)) else (none)) else (none)))) = some r := h
 clear h
 obtain ⟨y369, hy369⟩ : ∃ y_ : List Int, y_ = (([a0] : List Int)) := ⟨_, rfl⟩
 replace H : ((flyballref01_Of.f k y369).bind fun t372 => ((flyballref01_Len.f k t372).bind fun t375 => (if 0 ≤ t375 then (if t375 ≤ (t372.length : Int) then (some (t372.take (t375 : Int).toNat)) else (none)) else (none)))) = some r := by first | (rw [hy369]; with_reducible exact H) | (have H2_ := (Option.bind_some _ _).symm.trans H; rw [hy369]; with_reducible exact H2_) | (have H2_ := (Option.bind_some _ _).symm.trans H; with_reducible exact H2_) | with_reducible exact H | (rw [hy369]; exact H) | exact H
 have Ny369 := Aside0.mk hy369
 clear hy369
 obtain ⟨t372, A2, H⟩ := zbs H
 try dsimp only at H
 obtain ⟨t375, A3, H⟩ := zbs H
 try dsimp only at H
 by_cases c4 : 0 ≤ t375
 ·rw [if_pos c4] at H
  have c4b0 := eq_true c4
  have c4b1 : decide (0 ≤ t375) = true := decide_eq_true c4
  clear c4
  by_cases c5 : t375 ≤ (t372.length : Int)
  ·rw [if_pos c5] at H
   have c5b0 := eq_true c5
   have c5b1 : decide (t375 ≤ (t372.length : Int)) = true := decide_eq_true c5
   clear c5
   obtain ⟨y376, hy376⟩ : ∃ y_ : List Bool, y_ = (t372.take (t375 : Int).toNat) := ⟨_, rfl⟩
   replace H : (some y376) = some r := by first | (rw [hy376]; with_reducible exact H) | (have H2_ := (Option.bind_some _ _).symm.trans H; rw [hy376]; with_reducible exact H2_) | (have H2_ := (Option.bind_some _ _).symm.trans H; with_reducible exact H2_) | with_reducible exact H | (rw [hy376]; exact H) | exact H
   have Ny376 := Aside0.mk hy376
   clear hy376
   obtain rfl := Option.some.inj H
   go_enter Try.func91, Try.ntmps91
   go_wp2_with (first | ((with_reducible refine gate_dst (N := 5) rfl ?_); refine Kd.R_lit (Kd.int .u64) _ 22 ?hg (N := 5) ?hd (xs := ([a0] : List Int)) (inner := [.int .u64 a0]) (ok := fun _ => True) (okp := fun _ => True) ?hr ?hp (fun _ hk => hk) trivial (Below.refl _ _) (Nat.le_refl _) (by simp) ?_; (case hd => rfl); (case hg => rfl); (case hr => first | (go_simp; done) | (go_simp; rfl)); (case hp => exact (Reps.one (show Kd.M (Kd.int .u64) _ _ _ a0 [.int .u64 a0] from rfl) (Reps.none _ _))); intro v370 w6 ho7 hb hg_ hnew_; clear hg_ hnew_; (first | rw [← Ny369.out] at ho7 | (simp only [Int.reduceToNat] at ho7; rw [← Ny369.out] at ho7)); have HO371 := Aside0.mk (Kd.R_lower ho7 (below_size zaB)); replace HB := Aside0.mk (below_step zaB hb); clear hb ho7; obtain ⟨Ao8, co8, eo8⟩ := Kd.R_slice HO371.out; subst eo8) | ((with_reducible refine gate_callee (f := 155) rfl ?_); refine goesL_ (some 6) rfl rfl Try.func155 (by kernel_rfl) rfl #[.slice Ao8 y369.length co8] rfl (by (try simp only [List.map_toArray, List.map_cons, List.map_nil]); first | done | rfl | (simp only [List.length_drop, List.length_take]; rfl)) ?_; (with_reducible refine (flyballref01_Of.calls k _ _ y369 t372 _ ?side1 ?side2 A2.out).mono ?_); (case side1 => repeat (first | exact (Kd.R_reads' HO371.out).2.2 | (with_reducible refine Kd.C_alloc ?_ _) | (with_reducible refine Kd.C_drewN ?_ _) | (with_reducible refine Kd.C_drew ?_))); (case side2 => exact (Kd.R_reads' HO371.out).2.1); rintro e w9 ⟨v373, rfl, ho0, hb⟩; refine ⟨_, rfl, ?_⟩; replace HO371 := Aside0.mk (Kd.R_below (by (with_reducible repeat (first | apply Kd.R_alloc | apply Kd.R_drewN | apply Kd.R_drew)); exact HO371.out) hb); have HO374 := Aside0.mk (Kd.R_lower ho0 (below_size zaB)); replace HB := Aside0.mk (below_step zaB hb); (try clear hb); (try clear ho0); obtain ⟨Ao10, co10, eo10⟩ := Kd.R_slice HO374.out; subst eo10) | ((with_reducible refine gate_callee (f := 95) rfl ?_); refine goesL_ (some 9) rfl rfl Try.func95 (by kernel_rfl) rfl #[.slice Ao10 t372.length co10] rfl (by (try simp only [List.map_toArray, List.map_cons, List.map_nil]); first | done | rfl | (simp only [List.length_drop, List.length_take]; rfl)) ?_; (with_reducible refine (flyballref01_Len.calls k _ _ t372 t375 _ ?side1 ?side2 A3.out).mono ?_); (case side1 => repeat (first | exact (Kd.R_reads' HO374.out).2.2 | (with_reducible refine Kd.C_alloc ?_ _) | (with_reducible refine Kd.C_drewN ?_ _) | (with_reducible refine Kd.C_drew ?_))); (case side2 => exact (Kd.R_reads' HO374.out).2.1); rintro e w' ⟨rfl, ⟨nd, rfl⟩⟩; refine ⟨_, rfl, ?_⟩; have q11 : (t375 : Int) ≤ ((t372.length : Int) : Int) := of_decide_eq_true (by first | (with_reducible assumption) | assumption); obtain ⟨i011, hi011, _, hsz11, _⟩ := info_parts info4; have hcut11 := cut_to (P := Try.prog) 96 4 .i64 Try.underlying96 hi011 Ao10 t372.length co10 t375 (of_decide_eq_true (by first | (with_reducible assumption) | assumption)) q11 (Kd.R_reads' HO374.out).2.1; have hr11 := Kd.R_take (m := (t375 : Int).toNat) HO374.out (by omega); have hy11 : y376.length = (t375 : Int).toNat := (by rw [Ny376.out, List.length_take]; omega); rw [← Ny376.out] at hr11; rw [← hy11] at hr11 hcut11; clear hy11 hi011 hsz11 HO374; have HO378 := Aside0.mk hr11; clear hr11; replace q11 := eq_true q11))
   go_ret
   exact ⟨_, zaE, by (with_reducible repeat (first | apply Kd.R_alloc | apply Kd.R_drewN | apply Kd.R_drew)); exact HO378.out, zaB⟩
  ·rw [if_neg c5] at H
   exact absurd H (by simp)
 ·rw [if_neg c4] at H
  exact absurd H (by simp)
end Go.Proofs.Ytmadjhmecfbcmaa.F
end
section
namespace Go.Proofs.Ytmadjhmecfbcmaa.F
open Go.RowKit Go.Proofs.YtmadjhmecfbcmaaW.PrintWords Go.Proofs.YtmadjhmecfbcmaaW.PrintLast Go.Proofs.YtmadjhmecfbcmaaW.PrintMore
attribute [local go_sem] max2_int min2_int max_two min_two max_three min_three max_four min_four
set_option linter.unusedVariables false
set_option linter.unusedSimpArgs false
set_option maxHeartbeats 8000000 in
set_option maxRecDepth 100000 in
theorem flyballref01_bit.calls (A0 : Option Addr) (c0 : Nat) (l0 : List Bool) (a1 : Int) (r : Bool) (w : World) (hr0 : Kd.C Kd.bool w A0 l0.length l0) (hc0 : l0.length ≤ c0) (h : flyballref01_bit.f l0 a1 = some r) :
  Calls Try.prog 156 #[.slice A0 l0.length c0, .int .i64 a1] w fun e w' => e = .returned (.bool r) ∧ Drawn0 w w' := by
 have HR0 := Aside0.mk hr0
 have HC0 := Aside0.mk hc0
 clear hr0 hc0
 have H : (if a1 ≥ 0 then (if a1 < (l0.length : Int) then (if 0 ≤ a1 then (some (rdOf false l0 a1)) else (none)) else (some false)) else (some false)) = some r := h
 clear h
 by_cases c3 : a1 ≥ 0
 ·rw [if_pos c3] at H
  have c3b0 : decide (0 ≤ a1) = true := decide_eq_true c3
  clear c3
  by_cases c4 : a1 < (l0.length : Int)
  ·rw [if_pos c4] at H
   have c4b0 : decide (a1 < (l0.length : Int)) = true := decide_eq_true c4
   clear c4
   by_cases c5 : 0 ≤ a1
   ·rw [if_pos c5] at H
    have c5b0 : decide (0 ≤ a1) = true := decide_eq_true c5
    clear c5
    obtain rfl := Option.some.inj H
    have p379 : 0 ≤ (a1 : Int) := of_decide_eq_true (by first | (with_reducible assumption) | assumption)
    have q379 : a1 < (l0.length : Int) := of_decide_eq_true (by first | (with_reducible assumption) | assumption)
    obtain ⟨ad379, e379, hx379_0⟩ := Kd.at_bool HR0.out a1 p379 q379
    cases e379
    replace p379 := eq_true p379
    replace q379 := eq_true q379
    go_enter Try.func156, Try.ntmps156
    go_wp2
    go_ret
    exact ⟨by first | rfl | (simp; done) | (simp [*]; done), by repeat (first | exact Drawn0.refl _ | apply Drawn0.step)⟩
   ·rw [if_neg c5] at H
    exact absurd H (by simp)
  ·rw [if_neg c4] at H
   have c4b0 : decide (a1 < (l0.length : Int)) = false := decide_eq_false c4
   clear c4
   obtain rfl := Option.some.inj H
   go_enter Try.func156, Try.ntmps156
   go_wp2
   go_ret
   exact ⟨by first | rfl | (simp; done) | (simp [*]; done), by repeat (first | exact Drawn0.refl _ | apply Drawn0.step)⟩
 ·rw [if_neg c3] at H
  have c3b0 : decide (0 ≤ a1) = false := decide_eq_false c3
  clear c3
  obtain rfl := Option.some.inj H
  go_enter Try.func156, Try.ntmps156
  go_wp2
  go_ret
  exact ⟨by first | rfl | (simp; done) | (simp [*]; done), by repeat (first | exact Drawn0.refl _ | apply Drawn0.step)⟩
end Go.Proofs.Ytmadjhmecfbcmaa.F
end
section
namespace Go.Proofs.Ytmadjhmecfbcmaa.F
open Go.RowKit Go.Proofs.YtmadjhmecfbcmaaW.PrintWords Go.Proofs.YtmadjhmecfbcmaaW.PrintLast Go.Proofs.YtmadjhmecfbcmaaW.PrintMore
attribute [local go_sem] max2_int min2_int max_two min_two max_three min_three max_four min_four
set_option linter.unusedVariables false
set_option linter.unusedSimpArgs false
set_option maxHeartbeats 8000000 in
set_option maxRecDepth 100000 in
theorem flyballref01_Add.calls (k : Nat) (A0 : Option Addr) (c0 : Nat) (l0 : List Bool) (A1 : Option Addr) (c1 : Nat) (l1 : List Bool) (r : List Bool) (w : World) (hr0 : Kd.C Kd.bool w A0 l0.length l0) (hc0 : l0.length ≤ c0) (hr1 : Kd.C Kd.bool w A1 l1.length l1) (hc1 : l1.length ≤ c1) (h : flyballref01_Add.f k l0 l1 = some r) :
  Calls Try.prog 92 #[.slice A0 l0.length c0, .slice A1 l1.length c1] w fun e w' => ∃ v0_ : Value, e = .returned (v0_) ∧ Kd.R Kd.bool 4 w' w.heap.size (fun _ => True) v0_ r ∧ Below w.heap.size w w' := by
 have HR0 := Aside0.mk hr0
 have HC0 := Aside0.mk hc0
 clear hr0 hc0
 have HR1 := Aside0.mk hr1
 have HC1 := Aside0.mk hc1
 clear hr1 hc1
 have HB := Aside0.mk (Below.refl w.heap.size w)
 have H : (flyballref01_Add.l0 k l0 l1 ([] : List Bool) false 0) = some r := h
 clear h
 have H' := Aside0.mk H
 clear H
 go_enter Try.func92, Try.ntmps92
 go_wp2
 (try simp only [Act.put, List.setIfInBounds_toArray, List.set_cons_zero, List.set_cons_succ])
 go_loopg [5, 6, 7] k (fun kq v5 v6 v7 w' => ∃ (x5_1 : List Bool) (x6_1 : Bool) (x7_1 : Int), v6 = .bool x6_1 ∧ v7 = .int .i64 x7_1 ∧ Aside0 (flyballref01_Add.l0 kq l0 l1 x5_1 x6_1 x7_1 = some r) ∧ Aside0 (kq ≤ k) ∧ Aside0 (Kd.R Kd.bool 4 w' w.heap.size (fun _ => True) v5 x5_1) ∧ Aside0 (Below w.heap.size w w'))
 case atStart => exact ⟨(([] : List Bool)), (false), (0), (by first | rfl | (simp; done) | (simp [*]; done)), (by first | rfl | (simp; done) | (simp [*]; done)), H', ⟨Nat.le_refl _⟩, ⟨by first | exact Kd.R_nil _ _ _ _ _ | exact Kd.N_nil _ _ _ _ _ | exact Kd.V_nil _ _ _ _ _ | exact Kd.Q_nil _ _ _ _ _ | exact Kd.S_nil _ _ _ _ _⟩, ⟨zaB⟩⟩
 case round =>
  clear H'
  try clear c1
  try clear p2
  obtain ⟨x5_1, x6_1, x7_1, rfl, rfl, HA, HK1, HO_5, HB⟩ := hrel
  cases gk with
  | zero => exact absurd HA.out (by simp [flyballref01_Add.l0])
  | succ k1 =>
   have H := HA.out
   clear HA
   simp only [flyballref01_Add.l0] at H
   have HC3 := Aside0.mk H
   clear H
   go_upto_region 4 with (fail)
   go_cut [22] (fun v22 wc => ∃ (kq : Nat) (x22_2 : Bool), v22 = .bool x22_2 ∧ Aside0 (flyballref01_Add.j1 kq l0 l1 x5_1 x6_1 x7_1 x22_2 = some r) ∧ Aside0 (kq ≤ k1) ∧ Aside0 (Kd.R Kd.bool 4 wc w.heap.size (fun _ => True) u5 x5_1) ∧ Aside0 (Below w.heap.size w wc))
   case first =>
    have H := HC3.out
    clear HC3
    by_cases c4 : x7_1 < (l0.length : Int)
    ·rw [if_pos c4] at H
     have c4b0 : decide (x7_1 < (l0.length : Int)) = true := decide_eq_true c4
     clear c4
     (first | rw [c4b0] | (simp only [i64_w, i32_w]; rw [c4b0]) | skip)
     have H' := Aside0.mk H
     clear H
     go_wp2
     go_meet
     case rel => exact ⟨_, (true), (by first | rfl | (simp; done) | (simp [*]; done)), H', ⟨by have := HK1.out; first | omega | exact Nat.le_refl _⟩, ⟨by (with_reducible repeat (first | apply Kd.R_alloc | apply Kd.R_drewN | apply Kd.R_drew)); exact HO_5.out⟩, ⟨zaB⟩⟩
    ·rw [if_neg c4] at H
     have c4b0 : decide (x7_1 < (l0.length : Int)) = false := decide_eq_false c4
     clear c4
     (first | rw [c4b0] | (simp only [i64_w, i32_w]; rw [c4b0]) | skip)
     by_cases c5 : x7_1 < (l1.length : Int)
     ·rw [if_pos c5] at H
      have c5b0 : decide (x7_1 < (l1.length : Int)) = true := decide_eq_true c5
      clear c5
      have H' := Aside0.mk H
      clear H
      go_wp2
      go_meet
      case rel => exact ⟨_, (true), (by first | rfl | (simp; done) | (simp [*]; done)), H', ⟨by have := HK1.out; first | omega | exact Nat.le_refl _⟩, ⟨by (with_reducible repeat (first | apply Kd.R_alloc | apply Kd.R_drewN | apply Kd.R_drew)); exact HO_5.out⟩, ⟨zaB⟩⟩
     ·rw [if_neg c5] at H
      have c5b0 : decide (x7_1 < (l1.length : Int)) = false := decide_eq_false c5
      clear c5
      have H' := Aside0.mk H
      clear H
      go_wp2
      go_meet
      case rel => exact ⟨_, (x6_1), (by first | rfl | (simp; done) | (simp [*]; done)), H', ⟨by have := HK1.out; first | omega | exact Nat.le_refl _⟩, ⟨by (with_reducible repeat (first | apply Kd.R_alloc | apply Kd.R_drewN | apply Kd.R_drew)); exact HO_5.out⟩, ⟨zaB⟩⟩
   case rest =>
    clear HC3
    try clear c1
    try clear p2
    try clear c4
    try clear c4b0
    try clear c5
    try clear c5b0
    try clear p2
    obtain ⟨kq, x22_2, rfl, HA, HJ2, HO_5, HB⟩ := hcut
    cases kq with
    | zero => exact absurd HA.out (by simp [flyballref01_Add.j1])
    | succ kj2 =>
     have H := HA.out
     clear HA
     simp only [flyballref01_Add.j1] at H
     by_cases c6 : x22_2 = true
     ·subst c6
      have H1 : ((flyballref01_bit.f l0 x7_1).bind fun t380 => ((flyballref01_bit.f l1 x7_1).bind fun t381 => (if x5_1.length < 140737488355328 then ((some (x5_1 ++ [((t380 != t381) != x6_1)] : List Bool)).bind fun y382 => (if t380 = true then (if t381 = true then (flyballref01_Add.l0 kj2 l0 l1 y382 true (wrap64 (x7_1 + 1))) else (if x6_1 = true then (flyballref01_Add.l0 kj2 l0 l1 y382 true (wrap64 (x7_1 + 1))) else (flyballref01_Add.l0 kj2 l0 l1 y382 false (wrap64 (x7_1 + 1))))) else (if t381 = true then (flyballref01_Add.l0 kj2 l0 l1 y382 x6_1 (wrap64 (x7_1 + 1))) else (flyballref01_Add.l0 kj2 l0 l1 y382 false (wrap64 (x7_1 + 1)))))) else (none)))) = some r := by rw [if_pos rfl] at H; exact H
      clear H
      have H := H1
      clear H1
      obtain ⟨t380, A7, H⟩ := zbs H
      try dsimp only at H
      obtain ⟨t381, A8, H⟩ := zbs H
      try dsimp only at H
      by_cases c9 : x5_1.length < 140737488355328
      ·rw [if_pos c9] at H
       have LMc9 := Aside0.mk c9
       clear c9
       obtain ⟨y382, hy382⟩ : ∃ y_ : List Bool, y_ = (x5_1 ++ [((t380 != t381) != x6_1)]) := ⟨_, rfl⟩
       replace H : (if t380 = true then (if t381 = true then (flyballref01_Add.l0 kj2 l0 l1 y382 true (wrap64 (x7_1 + 1))) else (if x6_1 = true then (flyballref01_Add.l0 kj2 l0 l1 y382 true (wrap64 (x7_1 + 1))) else (flyballref01_Add.l0 kj2 l0 l1 y382 false (wrap64 (x7_1 + 1))))) else (if t381 = true then (flyballref01_Add.l0 kj2 l0 l1 y382 x6_1 (wrap64 (x7_1 + 1))) else (flyballref01_Add.l0 kj2 l0 l1 y382 false (wrap64 (x7_1 + 1))))) = some r := by first | (rw [hy382]; with_reducible exact H) | (have H2_ := (Option.bind_some _ _).symm.trans H; rw [hy382]; with_reducible exact H2_) | (have H2_ := (Option.bind_some _ _).symm.trans H; with_reducible exact H2_) | with_reducible exact H | (rw [hy382]; exact H) | exact H
       have Ny382 := Aside0.mk hy382
       clear hy382
       by_cases c10 : t380 = true
       ·subst c10
        have H1 : (if t381 = true then (flyballref01_Add.l0 kj2 l0 l1 y382 true (wrap64 (x7_1 + 1))) else (if x6_1 = true then (flyballref01_Add.l0 kj2 l0 l1 y382 true (wrap64 (x7_1 + 1))) else (flyballref01_Add.l0 kj2 l0 l1 y382 false (wrap64 (x7_1 + 1))))) = some r := by rw [if_pos rfl] at H; exact H
        clear H
        have H := H1
        clear H1
        by_cases c11 : t381 = true
        ·subst c11
         have H1 : (flyballref01_Add.l0 kj2 l0 l1 y382 true (wrap64 (x7_1 + 1))) = some r := by rw [if_pos rfl] at H; exact H
         clear H
         have H := H1
         clear H1
         have H' := Aside0.mk H
         clear H
         go_wp2_with (first | ((with_reducible refine gate_callee (f := 156) rfl ?_); refine goesL_ (some 27) rfl rfl Try.func156 (by kernel_rfl) rfl #[.slice A0 l0.length c0, .int .i64 x7_1] rfl (by (try simp only [List.map_toArray, List.map_cons, List.map_nil]); first | done | rfl | (simp only [List.length_drop, List.length_take]; rfl)) ?_; (with_reducible refine (flyballref01_bit.calls _ _ l0 x7_1 true _ ?side1 ?side2 A7.out).mono ?_); (case side1 => repeat (first | exact (Kd.C_below HR0.out HB.out) | (with_reducible refine Kd.C_alloc ?_ _) | (with_reducible refine Kd.C_drewN ?_ _) | (with_reducible refine Kd.C_drew ?_))); (case side2 => exact HC0.out); rintro e w' ⟨rfl, ⟨nd, rfl⟩⟩; refine ⟨_, rfl, ?_⟩) | ((with_reducible refine gate_callee (f := 156) rfl ?_); refine goesL_ (some 30) rfl rfl Try.func156 (by kernel_rfl) rfl #[.slice A1 l1.length c1, .int .i64 x7_1] rfl (by (try simp only [List.map_toArray, List.map_cons, List.map_nil]); first | done | rfl | (simp only [List.length_drop, List.length_take]; rfl)) ?_; (with_reducible refine (flyballref01_bit.calls _ _ l1 x7_1 true _ ?side1 ?side2 A8.out).mono ?_); (case side1 => repeat (first | exact (Kd.C_below HR1.out zaB) | (with_reducible refine Kd.C_alloc ?_ _) | (with_reducible refine Kd.C_drewN ?_ _) | (with_reducible refine Kd.C_drew ?_))); (case side2 => exact HC1.out); rintro e w' ⟨rfl, ⟨nd, rfl⟩⟩; refine ⟨_, rfl, ?_⟩) | ((with_reducible refine gate_builtin (b := .append) (xs := #[.tmp 31, .tmp 37]) rfl ?_); (try (refine gate_guard (by rfl) ?_; dsimp only)); at_builtin; refine Kd.R_append Kd.bool (w0 := w) w.heap.size rfl (.tmp 31) (.tmp 37) 96 4 (.bool false) 1 rfl Try.underlying96 info4 rfl (by decide) (by omega) u5 x5_1 x6_1 [.bool x6_1] (fun _ => True) (fun _ => False) rfl rfl ?aP (fun _ hk => hk.elim) ?aF ?aO ?aB ?aS ?aL ?_; (case aP => exact rfl); (case aB => exact zaB); (case aF => exact (fun _ _ => trivial)); (case aO => exact (by (with_reducible repeat (first | apply Kd.R_alloc | apply Kd.R_drewN | apply Kd.R_drew)); exact HO_5.out)); (case aS => exact (below_size zaB)); (case aL => have := LMc9.out; omega); intro v383 w12 ho hb hg hat; rw [← (show y382 = x5_1 ++ [x6_1] from by rw [Ny382.out]; cases x6_1 <;> rfl)] at ho; replace HB := Aside0.mk (hb); have HO384 := Aside0.mk (ho); clear HO_5; clear ho hb hg hat))
         go_roundg kj2
         case measure => have := HK1.out; have := HJ2.out; omega
         case rel => exact ⟨(y382), (true), (wrap64 (x7_1 + 1)), (by first | rfl | (simp; done) | (simp [*]; done)), (by first | rfl | (simp; done) | (simp [*]; done)), H', ⟨by have := HK1.out; have := HJ2.out; omega⟩, ⟨by (with_reducible repeat (first | apply Kd.R_alloc | apply Kd.R_drewN | apply Kd.R_drew)); exact HO384.out⟩, ⟨zaB⟩⟩
        ·replace c11 := Bool.eq_false_iff.mpr c11
         subst c11
         have H1 : (if x6_1 = true then (flyballref01_Add.l0 kj2 l0 l1 y382 true (wrap64 (x7_1 + 1))) else (flyballref01_Add.l0 kj2 l0 l1 y382 false (wrap64 (x7_1 + 1)))) = some r := by rw [if_neg (show ¬ (false = true) by decide)] at H; exact H
         clear H
         have H := H1
         clear H1
         by_cases c13 : x6_1 = true
         ·subst c13
          have H1 : (flyballref01_Add.l0 kj2 l0 l1 y382 true (wrap64 (x7_1 + 1))) = some r := by rw [if_pos rfl] at H; exact H
          clear H
          have H := H1
          clear H1
          have H' := Aside0.mk H
          clear H
          go_wp2_with (first | ((with_reducible refine gate_callee (f := 156) rfl ?_); refine goesL_ (some 27) rfl rfl Try.func156 (by kernel_rfl) rfl #[.slice A0 l0.length c0, .int .i64 x7_1] rfl (by (try simp only [List.map_toArray, List.map_cons, List.map_nil]); first | done | rfl | (simp only [List.length_drop, List.length_take]; rfl)) ?_; (with_reducible refine (flyballref01_bit.calls _ _ l0 x7_1 true _ ?side1 ?side2 A7.out).mono ?_); (case side1 => repeat (first | exact (Kd.C_below HR0.out HB.out) | (with_reducible refine Kd.C_alloc ?_ _) | (with_reducible refine Kd.C_drewN ?_ _) | (with_reducible refine Kd.C_drew ?_))); (case side2 => exact HC0.out); rintro e w' ⟨rfl, ⟨nd, rfl⟩⟩; refine ⟨_, rfl, ?_⟩) | ((with_reducible refine gate_callee (f := 156) rfl ?_); refine goesL_ (some 30) rfl rfl Try.func156 (by kernel_rfl) rfl #[.slice A1 l1.length c1, .int .i64 x7_1] rfl (by (try simp only [List.map_toArray, List.map_cons, List.map_nil]); first | done | rfl | (simp only [List.length_drop, List.length_take]; rfl)) ?_; (with_reducible refine (flyballref01_bit.calls _ _ l1 x7_1 false _ ?side1 ?side2 A8.out).mono ?_); (case side1 => repeat (first | exact (Kd.C_below HR1.out zaB) | (with_reducible refine Kd.C_alloc ?_ _) | (with_reducible refine Kd.C_drewN ?_ _) | (with_reducible refine Kd.C_drew ?_))); (case side2 => exact HC1.out); rintro e w' ⟨rfl, ⟨nd, rfl⟩⟩; refine ⟨_, rfl, ?_⟩) | ((with_reducible refine gate_builtin (b := .append) (xs := #[.tmp 31, .tmp 37]) rfl ?_); (try (refine gate_guard (by rfl) ?_; dsimp only)); at_builtin; refine Kd.R_append Kd.bool (w0 := w) w.heap.size rfl (.tmp 31) (.tmp 37) 96 4 (.bool false) 1 rfl Try.underlying96 info4 rfl (by decide) (by omega) u5 x5_1 ((true != false) != true) [.bool ((true != false) != true)] (fun _ => True) (fun _ => False) rfl rfl ?aP (fun _ hk => hk.elim) ?aF ?aO ?aB ?aS ?aL ?_; (case aP => exact rfl); (case aB => exact zaB); (case aF => exact (fun _ _ => trivial)); (case aO => exact (by (with_reducible repeat (first | apply Kd.R_alloc | apply Kd.R_drewN | apply Kd.R_drew)); exact HO_5.out)); (case aS => exact (below_size zaB)); (case aL => have := LMc9.out; omega); intro v383 w14 ho hb hg hat; rw [← Ny382.out] at ho; replace HB := Aside0.mk (hb); have HO384 := Aside0.mk (ho); clear HO_5; clear ho hb hg hat))
          go_roundg kj2
          case measure => have := HK1.out; have := HJ2.out; omega
          case rel => exact ⟨(y382), (true), (wrap64 (x7_1 + 1)), (by first | rfl | (simp; done) | (simp [*]; done)), (by first | rfl | (simp; done) | (simp [*]; done)), H', ⟨by have := HK1.out; have := HJ2.out; omega⟩, ⟨by (with_reducible repeat (first | apply Kd.R_alloc | apply Kd.R_drewN | apply Kd.R_drew)); exact HO384.out⟩, ⟨zaB⟩⟩
         ·replace c13 := Bool.eq_false_iff.mpr c13
          subst c13
          have H1 : (flyballref01_Add.l0 kj2 l0 l1 y382 false (wrap64 (x7_1 + 1))) = some r := by rw [if_neg (show ¬ (false = true) by decide)] at H; exact H
          clear H
          have H := H1
          clear H1
          have H' := Aside0.mk H
          clear H
          go_wp2_with (first | ((with_reducible refine gate_callee (f := 156) rfl ?_); refine goesL_ (some 27) rfl rfl Try.func156 (by kernel_rfl) rfl #[.slice A0 l0.length c0, .int .i64 x7_1] rfl (by (try simp only [List.map_toArray, List.map_cons, List.map_nil]); first | done | rfl | (simp only [List.length_drop, List.length_take]; rfl)) ?_; (with_reducible refine (flyballref01_bit.calls _ _ l0 x7_1 true _ ?side1 ?side2 A7.out).mono ?_); (case side1 => repeat (first | exact (Kd.C_below HR0.out HB.out) | (with_reducible refine Kd.C_alloc ?_ _) | (with_reducible refine Kd.C_drewN ?_ _) | (with_reducible refine Kd.C_drew ?_))); (case side2 => exact HC0.out); rintro e w' ⟨rfl, ⟨nd, rfl⟩⟩; refine ⟨_, rfl, ?_⟩) | ((with_reducible refine gate_callee (f := 156) rfl ?_); refine goesL_ (some 30) rfl rfl Try.func156 (by kernel_rfl) rfl #[.slice A1 l1.length c1, .int .i64 x7_1] rfl (by (try simp only [List.map_toArray, List.map_cons, List.map_nil]); first | done | rfl | (simp only [List.length_drop, List.length_take]; rfl)) ?_; (with_reducible refine (flyballref01_bit.calls _ _ l1 x7_1 false _ ?side1 ?side2 A8.out).mono ?_); (case side1 => repeat (first | exact (Kd.C_below HR1.out zaB) | (with_reducible refine Kd.C_alloc ?_ _) | (with_reducible refine Kd.C_drewN ?_ _) | (with_reducible refine Kd.C_drew ?_))); (case side2 => exact HC1.out); rintro e w' ⟨rfl, ⟨nd, rfl⟩⟩; refine ⟨_, rfl, ?_⟩) | ((with_reducible refine gate_builtin (b := .append) (xs := #[.tmp 31, .tmp 37]) rfl ?_); (try (refine gate_guard (by rfl) ?_; dsimp only)); at_builtin; refine Kd.R_append Kd.bool (w0 := w) w.heap.size rfl (.tmp 31) (.tmp 37) 96 4 (.bool false) 1 rfl Try.underlying96 info4 rfl (by decide) (by omega) u5 x5_1 ((true != false) != false) [.bool ((true != false) != false)] (fun _ => True) (fun _ => False) rfl rfl ?aP (fun _ hk => hk.elim) ?aF ?aO ?aB ?aS ?aL ?_; (case aP => exact rfl); (case aB => exact zaB); (case aF => exact (fun _ _ => trivial)); (case aO => exact (by (with_reducible repeat (first | apply Kd.R_alloc | apply Kd.R_drewN | apply Kd.R_drew)); exact HO_5.out)); (case aS => exact (below_size zaB)); (case aL => have := LMc9.out; omega); intro v383 w15 ho hb hg hat; rw [← Ny382.out] at ho; replace HB := Aside0.mk (hb); have HO384 := Aside0.mk (ho); clear HO_5; clear ho hb hg hat))
          go_roundg kj2
          case measure => have := HK1.out; have := HJ2.out; omega
          case rel => exact ⟨(y382), (false), (wrap64 (x7_1 + 1)), (by first | rfl | (simp; done) | (simp [*]; done)), (by first | rfl | (simp; done) | (simp [*]; done)), H', ⟨by have := HK1.out; have := HJ2.out; omega⟩, ⟨by (with_reducible repeat (first | apply Kd.R_alloc | apply Kd.R_drewN | apply Kd.R_drew)); exact HO384.out⟩, ⟨zaB⟩⟩
       ·replace c10 := Bool.eq_false_iff.mpr c10
        subst c10
        have H1 : (if t381 = true then (flyballref01_Add.l0 kj2 l0 l1 y382 x6_1 (wrap64 (x7_1 + 1))) else (flyballref01_Add.l0 kj2 l0 l1 y382 false (wrap64 (x7_1 + 1)))) = some r := by rw [if_neg (show ¬ (false = true) by decide)] at H; exact H
        clear H
        have H := H1
        clear H1
        by_cases c16 : t381 = true
        ·subst c16
         have H1 : (flyballref01_Add.l0 kj2 l0 l1 y382 x6_1 (wrap64 (x7_1 + 1))) = some r := by rw [if_pos rfl] at H; exact H
         clear H
         have H := H1
         clear H1
         have H' := Aside0.mk H
         clear H
         go_wp2_with (first | ((with_reducible refine gate_callee (f := 156) rfl ?_); refine goesL_ (some 27) rfl rfl Try.func156 (by kernel_rfl) rfl #[.slice A0 l0.length c0, .int .i64 x7_1] rfl (by (try simp only [List.map_toArray, List.map_cons, List.map_nil]); first | done | rfl | (simp only [List.length_drop, List.length_take]; rfl)) ?_; (with_reducible refine (flyballref01_bit.calls _ _ l0 x7_1 false _ ?side1 ?side2 A7.out).mono ?_); (case side1 => repeat (first | exact (Kd.C_below HR0.out HB.out) | (with_reducible refine Kd.C_alloc ?_ _) | (with_reducible refine Kd.C_drewN ?_ _) | (with_reducible refine Kd.C_drew ?_))); (case side2 => exact HC0.out); rintro e w' ⟨rfl, ⟨nd, rfl⟩⟩; refine ⟨_, rfl, ?_⟩) | ((with_reducible refine gate_callee (f := 156) rfl ?_); refine goesL_ (some 30) rfl rfl Try.func156 (by kernel_rfl) rfl #[.slice A1 l1.length c1, .int .i64 x7_1] rfl (by (try simp only [List.map_toArray, List.map_cons, List.map_nil]); first | done | rfl | (simp only [List.length_drop, List.length_take]; rfl)) ?_; (with_reducible refine (flyballref01_bit.calls _ _ l1 x7_1 true _ ?side1 ?side2 A8.out).mono ?_); (case side1 => repeat (first | exact (Kd.C_below HR1.out zaB) | (with_reducible refine Kd.C_alloc ?_ _) | (with_reducible refine Kd.C_drewN ?_ _) | (with_reducible refine Kd.C_drew ?_))); (case side2 => exact HC1.out); rintro e w' ⟨rfl, ⟨nd, rfl⟩⟩; refine ⟨_, rfl, ?_⟩) | ((with_reducible refine gate_builtin (b := .append) (xs := #[.tmp 31, .tmp 37]) rfl ?_); (try (refine gate_guard (by rfl) ?_; dsimp only)); at_builtin; refine Kd.R_append Kd.bool (w0 := w) w.heap.size rfl (.tmp 31) (.tmp 37) 96 4 (.bool false) 1 rfl Try.underlying96 info4 rfl (by decide) (by omega) u5 x5_1 (!x6_1) [.bool (!x6_1)] (fun _ => True) (fun _ => False) rfl rfl ?aP (fun _ hk => hk.elim) ?aF ?aO ?aB ?aS ?aL ?_; (case aP => exact rfl); (case aB => exact zaB); (case aF => exact (fun _ _ => trivial)); (case aO => exact (by (with_reducible repeat (first | apply Kd.R_alloc | apply Kd.R_drewN | apply Kd.R_drew)); exact HO_5.out)); (case aS => exact (below_size zaB)); (case aL => have := LMc9.out; omega); intro v383 w17 ho hb hg hat; rw [← (show y382 = x5_1 ++ [(!x6_1)] from by rw [Ny382.out]; cases x6_1 <;> rfl)] at ho; replace HB := Aside0.mk (hb); have HO384 := Aside0.mk (ho); clear HO_5; clear ho hb hg hat))
         go_roundg kj2
         case measure => have := HK1.out; have := HJ2.out; omega
         case rel => exact ⟨(y382), (x6_1), (wrap64 (x7_1 + 1)), (by first | rfl | (simp; done) | (simp [*]; done)), (by first | rfl | (simp; done) | (simp [*]; done)), H', ⟨by have := HK1.out; have := HJ2.out; omega⟩, ⟨by (with_reducible repeat (first | apply Kd.R_alloc | apply Kd.R_drewN | apply Kd.R_drew)); exact HO384.out⟩, ⟨zaB⟩⟩
        ·replace c16 := Bool.eq_false_iff.mpr c16
         subst c16
         have H1 : (flyballref01_Add.l0 kj2 l0 l1 y382 false (wrap64 (x7_1 + 1))) = some r := by rw [if_neg (show ¬ (false = true) by decide)] at H; exact H
         clear H
         have H := H1
         clear H1
         have H' := Aside0.mk H
         clear H
         go_wp2_with (first | ((with_reducible refine gate_callee (f := 156) rfl ?_); refine goesL_ (some 27) rfl rfl Try.func156 (by kernel_rfl) rfl #[.slice A0 l0.length c0, .int .i64 x7_1] rfl (by (try simp only [List.map_toArray, List.map_cons, List.map_nil]); first | done | rfl | (simp only [List.length_drop, List.length_take]; rfl)) ?_; (with_reducible refine (flyballref01_bit.calls _ _ l0 x7_1 false _ ?side1 ?side2 A7.out).mono ?_); (case side1 => repeat (first | exact (Kd.C_below HR0.out HB.out) | (with_reducible refine Kd.C_alloc ?_ _) | (with_reducible refine Kd.C_drewN ?_ _) | (with_reducible refine Kd.C_drew ?_))); (case side2 => exact HC0.out); rintro e w' ⟨rfl, ⟨nd, rfl⟩⟩; refine ⟨_, rfl, ?_⟩) | ((with_reducible refine gate_callee (f := 156) rfl ?_); refine goesL_ (some 30) rfl rfl Try.func156 (by kernel_rfl) rfl #[.slice A1 l1.length c1, .int .i64 x7_1] rfl (by (try simp only [List.map_toArray, List.map_cons, List.map_nil]); first | done | rfl | (simp only [List.length_drop, List.length_take]; rfl)) ?_; (with_reducible refine (flyballref01_bit.calls _ _ l1 x7_1 false _ ?side1 ?side2 A8.out).mono ?_); (case side1 => repeat (first | exact (Kd.C_below HR1.out zaB) | (with_reducible refine Kd.C_alloc ?_ _) | (with_reducible refine Kd.C_drewN ?_ _) | (with_reducible refine Kd.C_drew ?_))); (case side2 => exact HC1.out); rintro e w' ⟨rfl, ⟨nd, rfl⟩⟩; refine ⟨_, rfl, ?_⟩) | ((with_reducible refine gate_builtin (b := .append) (xs := #[.tmp 31, .tmp 37]) rfl ?_); (try (refine gate_guard (by rfl) ?_; dsimp only)); at_builtin; refine Kd.R_append Kd.bool (w0 := w) w.heap.size rfl (.tmp 31) (.tmp 37) 96 4 (.bool false) 1 rfl Try.underlying96 info4 rfl (by decide) (by omega) u5 x5_1 x6_1 [.bool x6_1] (fun _ => True) (fun _ => False) rfl rfl ?aP (fun _ hk => hk.elim) ?aF ?aO ?aB ?aS ?aL ?_; (case aP => exact rfl); (case aB => exact zaB); (case aF => exact (fun _ _ => trivial)); (case aO => exact (by (with_reducible repeat (first | apply Kd.R_alloc | apply Kd.R_drewN | apply Kd.R_drew)); exact HO_5.out)); (case aS => exact (below_size zaB)); (case aL => have := LMc9.out; omega); intro v383 w18 ho hb hg hat; rw [← (show y382 = x5_1 ++ [x6_1] from by rw [Ny382.out]; cases x6_1 <;> rfl)] at ho; replace HB := Aside0.mk (hb); have HO384 := Aside0.mk (ho); clear HO_5; clear ho hb hg hat))
         go_roundg kj2
         case measure => have := HK1.out; have := HJ2.out; omega
         case rel => exact ⟨(y382), (false), (wrap64 (x7_1 + 1)), (by first | rfl | (simp; done) | (simp [*]; done)), (by first | rfl | (simp; done) | (simp [*]; done)), H', ⟨by have := HK1.out; have := HJ2.out; omega⟩, ⟨by (with_reducible repeat (first | apply Kd.R_alloc | apply Kd.R_drewN | apply Kd.R_drew)); exact HO384.out⟩, ⟨zaB⟩⟩
      ·rw [if_neg c9] at H
       exact absurd H (by simp)
     ·replace c6 := Bool.eq_false_iff.mpr c6
      subst c6
      have H1 : (some x5_1) = some r := by rw [if_neg (show ¬ (false = true) by decide)] at H; exact H
      clear H
      have H := H1
      clear H1
      obtain rfl := Option.some.inj H
      go_wp2
      go_ret
      exact ⟨_, zaE, by (with_reducible repeat (first | apply Kd.R_alloc | apply Kd.R_drewN | apply Kd.R_drew)); exact HO_5.out, zaB⟩
end Go.Proofs.Ytmadjhmecfbcmaa.F
end
section
namespace Go.Proofs.Ytmadjhmecfbcmaa.F
open Go.RowKit Go.Proofs.YtmadjhmecfbcmaaW.PrintWords Go.Proofs.YtmadjhmecfbcmaaW.PrintLast Go.Proofs.YtmadjhmecfbcmaaW.PrintMore
attribute [local go_sem] max2_int min2_int max_two min_two max_three min_three max_four min_four
set_option linter.unusedVariables false
set_option linter.unusedSimpArgs false
set_option maxHeartbeats 8000000 in
set_option maxRecDepth 100000 in
theorem flyballref01_Cmp.calls (k : Nat) (A0 : Option Addr) (c0 : Nat) (l0 : List Bool) (A1 : Option Addr) (c1 : Nat) (l1 : List Bool) (r : Int) (w : World) (hr0 : Kd.C Kd.bool w A0 l0.length l0) (hc0 : l0.length ≤ c0) (hr1 : Kd.C Kd.bool w A1 l1.length l1) (hc1 : l1.length ≤ c1) (h : flyballref01_Cmp.f k l0 l1 = some r) :
  Calls Try.prog 93 #[.slice A0 l0.length c0, .slice A1 l1.length c1] w fun e w' => e = .returned (.int .i64 r) ∧ Below w.heap.size w w' := by
 have HR0 := Aside0.mk hr0
 have HC0 := Aside0.mk hc0
 clear hr0 hc0
 have HR1 := Aside0.mk hr1
 have HC1 := Aside0.mk hc1
 clear hr1 hc1
 have HB := Aside0.mk (Below.refl w.heap.size w)
 have H : (flyballref01_Cmp.l0 k l0 l1 (wrap64 ((mx (l0.length : Int) (l1.length : Int)) - 1))) = some r := h
 clear h
 obtain ⟨ji3, hji3⟩ : ∃ j_ : Int, (mx (l0.length : Int) (l1.length : Int)) = j_ := ⟨_, rfl⟩
 replace H : (flyballref01_Cmp.l0 k l0 l1 (wrap64 ((ji3) - 1))) = some r := by first | (rw [hji3] at H; exact H) | (simp only [hji3] at H ⊢; exact H)
 (try (have hji3l : 0 ≤ ji3 := by (rw [← hji3]; unfold mx; (repeat' split) <;> omega)))
 (try (have hji3m : 0 ≤ ji3 := by omega))
 have hji3_ : (if (l0.length : Int) < (l1.length : Int) then (l1.length : Int) else (l0.length : Int)) = ji3 := hji3
 (try (have hji3n := hji3_; simp only [Int.ofNat_lt] at hji3n))
 have H' := Aside0.mk H
 clear H
 go_enter Try.func93, Try.ntmps93
 go_wp2
 (try simp only [Act.put, List.setIfInBounds_toArray, List.set_cons_zero, List.set_cons_succ])
 go_loopg [5] k (fun kq v5 w' => ∃ (x5_1 : Int), v5 = .int .i64 x5_1 ∧ Aside0 (flyballref01_Cmp.l0 kq l0 l1 x5_1 = some r) ∧ Aside0 (kq ≤ k) ∧ Aside0 (Below w.heap.size w w'))
 case atStart => exact ⟨(wrap64 ((ji3) - 1)), (by first | rfl | (simp; done) | (simp only [← hji3] <;> (first | rfl | simp)) | (simp [*]; done)), H', ⟨Nat.le_refl _⟩, ⟨zaB⟩⟩
 case round =>
  clear H'
  try clear c1
  try clear p2
  obtain ⟨x5_1, rfl, HA, HK1, HB⟩ := hrel
  cases gk with
  | zero => exact absurd HA.out (by simp [flyballref01_Cmp.l0])
  | succ k1 =>
   have H := HA.out
   clear HA
   simp only [flyballref01_Cmp.l0] at H
   by_cases c4 : x5_1 ≥ 0
   ·rw [if_pos c4] at H
    have c4b0 : decide (0 ≤ x5_1) = true := decide_eq_true c4
    clear c4
    obtain ⟨t385, A5, H⟩ := zbs H
    try dsimp only at H
    obtain ⟨t386, A6, H⟩ := zbs H
    try dsimp only at H
    by_cases c7 : (t385 != t386) = true
    ·rw [if_pos c7] at H
     have c7b0 : (t385 != t386) = true := c7
     (try (have c7b1 : decide (t385 = t386) = false := by simpa using c7))
     (try (have c7b2 : (t385 == t386) = false := by simpa using c7))
     (try (have c7b3 : ¬ (t385 = t386) := by simpa using c7))
     clear c7
     by_cases c8 : t385 = true
     ·subst c8
      have H1 : (some 1) = some r := by rw [if_pos rfl] at H; exact H
      clear H
      have H := H1
      clear H1
      obtain rfl := Option.some.inj H
      go_wp2_with (first | ((with_reducible refine gate_callee (f := 156) rfl ?_); refine goesL_ (some 20) rfl rfl Try.func156 (by kernel_rfl) rfl #[.slice A0 l0.length c0, .int .i64 x5_1] rfl (by (try simp only [List.map_toArray, List.map_cons, List.map_nil]); first | done | rfl | (simp only [List.length_drop, List.length_take]; rfl)) ?_; (with_reducible refine (flyballref01_bit.calls _ _ l0 x5_1 true _ ?side1 ?side2 A5.out).mono ?_); (case side1 => repeat (first | exact (Kd.C_below HR0.out HB.out) | (with_reducible refine Kd.C_alloc ?_ _) | (with_reducible refine Kd.C_drewN ?_ _) | (with_reducible refine Kd.C_drew ?_))); (case side2 => exact HC0.out); rintro e w' ⟨rfl, ⟨nd, rfl⟩⟩; refine ⟨_, rfl, ?_⟩) | ((with_reducible refine gate_callee (f := 156) rfl ?_); refine goesL_ (some 23) rfl rfl Try.func156 (by kernel_rfl) rfl #[.slice A1 l1.length c1, .int .i64 x5_1] rfl (by (try simp only [List.map_toArray, List.map_cons, List.map_nil]); first | done | rfl | (simp only [List.length_drop, List.length_take]; rfl)) ?_; (with_reducible refine (flyballref01_bit.calls _ _ l1 x5_1 t386 _ ?side1 ?side2 A6.out).mono ?_); (case side1 => repeat (first | exact (Kd.C_below HR1.out zaB) | (with_reducible refine Kd.C_alloc ?_ _) | (with_reducible refine Kd.C_drewN ?_ _) | (with_reducible refine Kd.C_drew ?_))); (case side2 => exact HC1.out); rintro e w' ⟨rfl, ⟨nd, rfl⟩⟩; refine ⟨_, rfl, ?_⟩))
      go_ret
      exact ⟨by first | rfl | (simp [errW_none, errW_some] <;> rfl) | (simp only [← hji3]; first | rfl | (simp [errW_none, errW_some] <;> rfl)) | (simp [*, errW_none, errW_some] <;> rfl), zaB⟩
     ·replace c8 := Bool.eq_false_iff.mpr c8
      subst c8
      have H1 : (some (-1)) = some r := by rw [if_neg (show ¬ (false = true) by decide)] at H; exact H
      clear H
      have H := H1
      clear H1
      obtain rfl := Option.some.inj H
      go_wp2_with (first | ((with_reducible refine gate_callee (f := 156) rfl ?_); refine goesL_ (some 20) rfl rfl Try.func156 (by kernel_rfl) rfl #[.slice A0 l0.length c0, .int .i64 x5_1] rfl (by (try simp only [List.map_toArray, List.map_cons, List.map_nil]); first | done | rfl | (simp only [List.length_drop, List.length_take]; rfl)) ?_; (with_reducible refine (flyballref01_bit.calls _ _ l0 x5_1 false _ ?side1 ?side2 A5.out).mono ?_); (case side1 => repeat (first | exact (Kd.C_below HR0.out HB.out) | (with_reducible refine Kd.C_alloc ?_ _) | (with_reducible refine Kd.C_drewN ?_ _) | (with_reducible refine Kd.C_drew ?_))); (case side2 => exact HC0.out); rintro e w' ⟨rfl, ⟨nd, rfl⟩⟩; refine ⟨_, rfl, ?_⟩) | ((with_reducible refine gate_callee (f := 156) rfl ?_); refine goesL_ (some 23) rfl rfl Try.func156 (by kernel_rfl) rfl #[.slice A1 l1.length c1, .int .i64 x5_1] rfl (by (try simp only [List.map_toArray, List.map_cons, List.map_nil]); first | done | rfl | (simp only [List.length_drop, List.length_take]; rfl)) ?_; (with_reducible refine (flyballref01_bit.calls _ _ l1 x5_1 t386 _ ?side1 ?side2 A6.out).mono ?_); (case side1 => repeat (first | exact (Kd.C_below HR1.out zaB) | (with_reducible refine Kd.C_alloc ?_ _) | (with_reducible refine Kd.C_drewN ?_ _) | (with_reducible refine Kd.C_drew ?_))); (case side2 => exact HC1.out); rintro e w' ⟨rfl, ⟨nd, rfl⟩⟩; refine ⟨_, rfl, ?_⟩))
      go_ret
      exact ⟨by first | rfl | (simp [errW_none, errW_some] <;> rfl) | (simp only [← hji3]; first | rfl | (simp [errW_none, errW_some] <;> rfl)) | (simp [*, errW_none, errW_some] <;> rfl), zaB⟩
    ·rw [if_neg c7] at H
     have c7b0 : (t385 != t386) = false := by simpa using c7
     (try (have c7b1 : decide (t385 = t386) = true := by simpa using c7))
     (try (have c7b2 : (t385 == t386) = true := by simpa using c7))
     clear c7
     have H' := Aside0.mk H
     clear H
     go_wp2_with (first | ((with_reducible refine gate_callee (f := 156) rfl ?_); refine goesL_ (some 20) rfl rfl Try.func156 (by kernel_rfl) rfl #[.slice A0 l0.length c0, .int .i64 x5_1] rfl (by (try simp only [List.map_toArray, List.map_cons, List.map_nil]); first | done | rfl | (simp only [List.length_drop, List.length_take]; rfl)) ?_; (with_reducible refine (flyballref01_bit.calls _ _ l0 x5_1 t385 _ ?side1 ?side2 A5.out).mono ?_); (case side1 => repeat (first | exact (Kd.C_below HR0.out HB.out) | (with_reducible refine Kd.C_alloc ?_ _) | (with_reducible refine Kd.C_drewN ?_ _) | (with_reducible refine Kd.C_drew ?_))); (case side2 => exact HC0.out); rintro e w' ⟨rfl, ⟨nd, rfl⟩⟩; refine ⟨_, rfl, ?_⟩) | ((with_reducible refine gate_callee (f := 156) rfl ?_); refine goesL_ (some 23) rfl rfl Try.func156 (by kernel_rfl) rfl #[.slice A1 l1.length c1, .int .i64 x5_1] rfl (by (try simp only [List.map_toArray, List.map_cons, List.map_nil]); first | done | rfl | (simp only [List.length_drop, List.length_take]; rfl)) ?_; (with_reducible refine (flyballref01_bit.calls _ _ l1 x5_1 t386 _ ?side1 ?side2 A6.out).mono ?_); (case side1 => repeat (first | exact (Kd.C_below HR1.out zaB) | (with_reducible refine Kd.C_alloc ?_ _) | (with_reducible refine Kd.C_drewN ?_ _) | (with_reducible refine Kd.C_drew ?_))); (case side2 => exact HC1.out); rintro e w' ⟨rfl, ⟨nd, rfl⟩⟩; refine ⟨_, rfl, ?_⟩))
     go_roundg k1
     case measure => have := HK1.out; omega
     case rel => exact ⟨(wrap64 (x5_1 - 1)), (by first | rfl | (simp; done) | (simp [*]; done)), H', ⟨by have := HK1.out; omega⟩, ⟨zaB⟩⟩
   ·rw [if_neg c4] at H
    have c4b0 : decide (0 ≤ x5_1) = false := decide_eq_false c4
    clear c4
    obtain rfl := Option.some.inj H
    go_wp2
    go_ret
    exact ⟨by first | rfl | (simp [errW_none, errW_some] <;> rfl) | (simp only [← hji3]; first | rfl | (simp [errW_none, errW_some] <;> rfl)) | (simp [*, errW_none, errW_some] <;> rfl), zaB⟩
end Go.Proofs.Ytmadjhmecfbcmaa.F
end
section
namespace Go.Proofs.Ytmadjhmecfbcmaa.F
open Go.RowKit Go.Proofs.YtmadjhmecfbcmaaW.PrintWords Go.Proofs.YtmadjhmecfbcmaaW.PrintLast Go.Proofs.YtmadjhmecfbcmaaW.PrintMore
attribute [local go_sem] max2_int min2_int max_two min_two max_three min_three max_four min_four
set_option linter.unusedVariables false
set_option linter.unusedSimpArgs false
set_option maxHeartbeats 8000000 in
set_option maxRecDepth 100000 in
theorem flyballref01_Sub.calls (k : Nat) (A0 : Option Addr) (c0 : Nat) (l0 : List Bool) (A1 : Option Addr) (c1 : Nat) (l1 : List Bool) (a2 : Int) (r1 : List Bool) (r2 : Bool) (w : World) (hr0 : Kd.C Kd.bool w A0 l0.length l0) (hc0 : l0.length ≤ c0) (hr1 : Kd.C Kd.bool w A1 l1.length l1) (hc1 : l1.length ≤ c1) (h : flyballref01_Sub.f k l0 l1 a2 = some (r1, r2)) :
  Calls Try.prog 94 #[.slice A0 l0.length c0, .slice A1 l1.length c1, .int .i64 a2] w fun e w' => ∃ v0_ : Value, e = .returned (.tuple #[v0_, .bool r2]) ∧ Kd.R Kd.bool 4 w' w.heap.size (fun _ => True) v0_ r1 ∧ Below w.heap.size w w' := by
 have HR0 := Aside0.mk hr0
 have HC0 := Aside0.mk hc0
 clear hr0 hc0
 have HR1 := Aside0.mk hr1
 have HC1 := Aside0.mk hc1
 clear hr1 hc1
 have HB := Aside0.mk (Below.refl w.heap.size w)
 have H : (flyballref01_Sub.l0 k l0 l1 a2 ([] : List Bool) false 0) = some (r1, r2) := h
 clear h
 have H' := Aside0.mk H
 clear H
 go_enter Try.func94, Try.ntmps94
 go_wp2
 (try simp only [Act.put, List.setIfInBounds_toArray, List.set_cons_zero, List.set_cons_succ])
 go_loopg [8, 9, 10] k (fun kq v8 v9 v10 w' => ∃ (x8_1 : List Bool) (x9_1 : Bool) (x10_1 : Int), v9 = .bool x9_1 ∧ v10 = .int .i64 x10_1 ∧ Aside0 (flyballref01_Sub.l0 kq l0 l1 a2 x8_1 x9_1 x10_1 = some (r1, r2)) ∧ Aside0 (kq ≤ k) ∧ Aside0 (Kd.R Kd.bool 4 w' w.heap.size (fun _ => True) v8 x8_1) ∧ Aside0 (Below w.heap.size w w'))
 case atStart => exact ⟨(([] : List Bool)), (false), (0), (by first | rfl | (simp; done) | (simp [*]; done)), (by first | rfl | (simp; done) | (simp [*]; done)), H', ⟨Nat.le_refl _⟩, ⟨by first | exact Kd.R_nil _ _ _ _ _ | exact Kd.N_nil _ _ _ _ _ | exact Kd.V_nil _ _ _ _ _ | exact Kd.Q_nil _ _ _ _ _ | exact Kd.S_nil _ _ _ _ _⟩, ⟨zaB⟩⟩
 case round =>
  clear H'
  try clear c1
  try clear p2
  obtain ⟨x8_1, x9_1, x10_1, rfl, rfl, HA, HK1, HO_8, HB⟩ := hrel
  cases gk with
  | zero => exact absurd HA.out (by simp [flyballref01_Sub.l0])
  | succ k1 =>
   have H := HA.out
   clear HA
   simp only [flyballref01_Sub.l0] at H
   by_cases c4 : x10_1 < a2
   ·rw [if_pos c4] at H
    have c4b0 : decide (x10_1 < a2) = true := decide_eq_true c4
    clear c4
    obtain ⟨t387, A5, H⟩ := zbs H
    try dsimp only at H
    obtain ⟨t388, A6, H⟩ := zbs H
    try dsimp only at H
    by_cases c7 : x8_1.length < 140737488355328
    ·rw [if_pos c7] at H
     have LMc7 := Aside0.mk c7
     clear c7
     obtain ⟨y389, hy389⟩ : ∃ y_ : List Bool, y_ = (x8_1 ++ [((t387 != t388) != x9_1)]) := ⟨_, rfl⟩
     replace H : (if t387 = true then (if t388 = true then (flyballref01_Sub.l0 k1 l0 l1 a2 y389 x9_1 (wrap64 (x10_1 + 1))) else (flyballref01_Sub.l0 k1 l0 l1 a2 y389 false (wrap64 (x10_1 + 1)))) else (if t388 = true then (flyballref01_Sub.l0 k1 l0 l1 a2 y389 true (wrap64 (x10_1 + 1))) else (if x9_1 = true then (flyballref01_Sub.l0 k1 l0 l1 a2 y389 true (wrap64 (x10_1 + 1))) else (flyballref01_Sub.l0 k1 l0 l1 a2 y389 false (wrap64 (x10_1 + 1)))))) = some (r1, r2) := by first | (rw [hy389]; with_reducible exact H) | (have H2_ := (Option.bind_some _ _).symm.trans H; rw [hy389]; with_reducible exact H2_) | (have H2_ := (Option.bind_some _ _).symm.trans H; with_reducible exact H2_) | with_reducible exact H | (rw [hy389]; exact H) | exact H
     have Ny389 := Aside0.mk hy389
     clear hy389
     by_cases c8 : t387 = true
     ·subst c8
      have H1 : (if t388 = true then (flyballref01_Sub.l0 k1 l0 l1 a2 y389 x9_1 (wrap64 (x10_1 + 1))) else (flyballref01_Sub.l0 k1 l0 l1 a2 y389 false (wrap64 (x10_1 + 1)))) = some (r1, r2) := by rw [if_pos rfl] at H; exact H
      clear H
      have H := H1
      clear H1
      by_cases c9 : t388 = true
      ·subst c9
       have H1 : (flyballref01_Sub.l0 k1 l0 l1 a2 y389 x9_1 (wrap64 (x10_1 + 1))) = some (r1, r2) := by rw [if_pos rfl] at H; exact H
       clear H
       have H := H1
       clear H1
       have H' := Aside0.mk H
       clear H
       go_wp2_with (first | ((with_reducible refine gate_callee (f := 156) rfl ?_); refine goesL_ (some 20) rfl rfl Try.func156 (by kernel_rfl) rfl #[.slice A0 l0.length c0, .int .i64 x10_1] rfl (by (try simp only [List.map_toArray, List.map_cons, List.map_nil]); first | done | rfl | (simp only [List.length_drop, List.length_take]; rfl)) ?_; (with_reducible refine (flyballref01_bit.calls _ _ l0 x10_1 true _ ?side1 ?side2 A5.out).mono ?_); (case side1 => repeat (first | exact (Kd.C_below HR0.out HB.out) | (with_reducible refine Kd.C_alloc ?_ _) | (with_reducible refine Kd.C_drewN ?_ _) | (with_reducible refine Kd.C_drew ?_))); (case side2 => exact HC0.out); rintro e w' ⟨rfl, ⟨nd, rfl⟩⟩; refine ⟨_, rfl, ?_⟩) | ((with_reducible refine gate_callee (f := 156) rfl ?_); refine goesL_ (some 23) rfl rfl Try.func156 (by kernel_rfl) rfl #[.slice A1 l1.length c1, .int .i64 x10_1] rfl (by (try simp only [List.map_toArray, List.map_cons, List.map_nil]); first | done | rfl | (simp only [List.length_drop, List.length_take]; rfl)) ?_; (with_reducible refine (flyballref01_bit.calls _ _ l1 x10_1 true _ ?side1 ?side2 A6.out).mono ?_); (case side1 => repeat (first | exact (Kd.C_below HR1.out zaB) | (with_reducible refine Kd.C_alloc ?_ _) | (with_reducible refine Kd.C_drewN ?_ _) | (with_reducible refine Kd.C_drew ?_))); (case side2 => exact HC1.out); rintro e w' ⟨rfl, ⟨nd, rfl⟩⟩; refine ⟨_, rfl, ?_⟩) | ((with_reducible refine gate_builtin (b := .append) (xs := #[.tmp 24, .tmp 30]) rfl ?_); at_builtin; refine Kd.R_append Kd.bool (w0 := w) w.heap.size rfl (.tmp 24) (.tmp 30) 96 4 (.bool false) 1 rfl Try.underlying96 info4 rfl (by decide) (by omega) u8 x8_1 x9_1 [.bool x9_1] (fun _ => True) (fun _ => False) rfl rfl ?aP (fun _ hk => hk.elim) ?aF ?aO ?aB ?aS ?aL ?_; (case aP => exact rfl); (case aB => exact zaB); (case aF => exact (fun _ _ => trivial)); (case aO => exact (by (with_reducible repeat (first | apply Kd.R_alloc | apply Kd.R_drewN | apply Kd.R_drew)); exact HO_8.out)); (case aS => exact (below_size zaB)); (case aL => have := LMc7.out; omega); intro v390 w10 ho hb hg hat; rw [← (show y389 = x8_1 ++ [x9_1] from by rw [Ny389.out]; cases x9_1 <;> rfl)] at ho; replace HB := Aside0.mk (hb); have HO391 := Aside0.mk (ho); clear HO_8; clear ho hb hg hat))
       go_roundg k1
       case measure => have := HK1.out; omega
       case rel => exact ⟨(y389), (x9_1), (wrap64 (x10_1 + 1)), (by first | rfl | (simp; done) | (simp [*]; done)), (by first | rfl | (simp; done) | (simp [*]; done)), H', ⟨by have := HK1.out; omega⟩, ⟨by (with_reducible repeat (first | apply Kd.R_alloc | apply Kd.R_drewN | apply Kd.R_drew)); exact HO391.out⟩, ⟨zaB⟩⟩
      ·replace c9 := Bool.eq_false_iff.mpr c9
       subst c9
       have H1 : (flyballref01_Sub.l0 k1 l0 l1 a2 y389 false (wrap64 (x10_1 + 1))) = some (r1, r2) := by rw [if_neg (show ¬ (false = true) by decide)] at H; exact H
       clear H
       have H := H1
       clear H1
       have H' := Aside0.mk H
       clear H
       go_wp2_with (first | ((with_reducible refine gate_callee (f := 156) rfl ?_); refine goesL_ (some 20) rfl rfl Try.func156 (by kernel_rfl) rfl #[.slice A0 l0.length c0, .int .i64 x10_1] rfl (by (try simp only [List.map_toArray, List.map_cons, List.map_nil]); first | done | rfl | (simp only [List.length_drop, List.length_take]; rfl)) ?_; (with_reducible refine (flyballref01_bit.calls _ _ l0 x10_1 true _ ?side1 ?side2 A5.out).mono ?_); (case side1 => repeat (first | exact (Kd.C_below HR0.out HB.out) | (with_reducible refine Kd.C_alloc ?_ _) | (with_reducible refine Kd.C_drewN ?_ _) | (with_reducible refine Kd.C_drew ?_))); (case side2 => exact HC0.out); rintro e w' ⟨rfl, ⟨nd, rfl⟩⟩; refine ⟨_, rfl, ?_⟩) | ((with_reducible refine gate_callee (f := 156) rfl ?_); refine goesL_ (some 23) rfl rfl Try.func156 (by kernel_rfl) rfl #[.slice A1 l1.length c1, .int .i64 x10_1] rfl (by (try simp only [List.map_toArray, List.map_cons, List.map_nil]); first | done | rfl | (simp only [List.length_drop, List.length_take]; rfl)) ?_; (with_reducible refine (flyballref01_bit.calls _ _ l1 x10_1 false _ ?side1 ?side2 A6.out).mono ?_); (case side1 => repeat (first | exact (Kd.C_below HR1.out zaB) | (with_reducible refine Kd.C_alloc ?_ _) | (with_reducible refine Kd.C_drewN ?_ _) | (with_reducible refine Kd.C_drew ?_))); (case side2 => exact HC1.out); rintro e w' ⟨rfl, ⟨nd, rfl⟩⟩; refine ⟨_, rfl, ?_⟩) | ((with_reducible refine gate_builtin (b := .append) (xs := #[.tmp 24, .tmp 30]) rfl ?_); at_builtin; refine Kd.R_append Kd.bool (w0 := w) w.heap.size rfl (.tmp 24) (.tmp 30) 96 4 (.bool false) 1 rfl Try.underlying96 info4 rfl (by decide) (by omega) u8 x8_1 (!x9_1) [.bool (!x9_1)] (fun _ => True) (fun _ => False) rfl rfl ?aP (fun _ hk => hk.elim) ?aF ?aO ?aB ?aS ?aL ?_; (case aP => exact rfl); (case aB => exact zaB); (case aF => exact (fun _ _ => trivial)); (case aO => exact (by (with_reducible repeat (first | apply Kd.R_alloc | apply Kd.R_drewN | apply Kd.R_drew)); exact HO_8.out)); (case aS => exact (below_size zaB)); (case aL => have := LMc7.out; omega); intro v390 w11 ho hb hg hat; rw [← (show y389 = x8_1 ++ [(!x9_1)] from by rw [Ny389.out]; cases x9_1 <;> rfl)] at ho; replace HB := Aside0.mk (hb); have HO391 := Aside0.mk (ho); clear HO_8; clear ho hb hg hat))
       go_roundg k1
       case measure => have := HK1.out; omega
       case rel => exact ⟨(y389), (false), (wrap64 (x10_1 + 1)), (by first | rfl | (simp; done) | (simp [*]; done)), (by first | rfl | (simp; done) | (simp [*]; done)), H', ⟨by have := HK1.out; omega⟩, ⟨by (with_reducible repeat (first | apply Kd.R_alloc | apply Kd.R_drewN | apply Kd.R_drew)); exact HO391.out⟩, ⟨zaB⟩⟩
     ·replace c8 := Bool.eq_false_iff.mpr c8
      subst c8
      have H1 : (if t388 = true then (flyballref01_Sub.l0 k1 l0 l1 a2 y389 true (wrap64 (x10_1 + 1))) else (if x9_1 = true then (flyballref01_Sub.l0 k1 l0 l1 a2 y389 true (wrap64 (x10_1 + 1))) else (flyballref01_Sub.l0 k1 l0 l1 a2 y389 false (wrap64 (x10_1 + 1))))) = some (r1, r2) := by rw [if_neg (show ¬ (false = true) by decide)] at H; exact H
      clear H
      have H := H1
      clear H1
      by_cases c12 : t388 = true
      ·subst c12
       have H1 : (flyballref01_Sub.l0 k1 l0 l1 a2 y389 true (wrap64 (x10_1 + 1))) = some (r1, r2) := by rw [if_pos rfl] at H; exact H
       clear H
       have H := H1
       clear H1
       have H' := Aside0.mk H
       clear H
       go_wp2_with (first | ((with_reducible refine gate_callee (f := 156) rfl ?_); refine goesL_ (some 20) rfl rfl Try.func156 (by kernel_rfl) rfl #[.slice A0 l0.length c0, .int .i64 x10_1] rfl (by (try simp only [List.map_toArray, List.map_cons, List.map_nil]); first | done | rfl | (simp only [List.length_drop, List.length_take]; rfl)) ?_; (with_reducible refine (flyballref01_bit.calls _ _ l0 x10_1 false _ ?side1 ?side2 A5.out).mono ?_); (case side1 => repeat (first | exact (Kd.C_below HR0.out HB.out) | (with_reducible refine Kd.C_alloc ?_ _) | (with_reducible refine Kd.C_drewN ?_ _) | (with_reducible refine Kd.C_drew ?_))); (case side2 => exact HC0.out); rintro e w' ⟨rfl, ⟨nd, rfl⟩⟩; refine ⟨_, rfl, ?_⟩) | ((with_reducible refine gate_callee (f := 156) rfl ?_); refine goesL_ (some 23) rfl rfl Try.func156 (by kernel_rfl) rfl #[.slice A1 l1.length c1, .int .i64 x10_1] rfl (by (try simp only [List.map_toArray, List.map_cons, List.map_nil]); first | done | rfl | (simp only [List.length_drop, List.length_take]; rfl)) ?_; (with_reducible refine (flyballref01_bit.calls _ _ l1 x10_1 true _ ?side1 ?side2 A6.out).mono ?_); (case side1 => repeat (first | exact (Kd.C_below HR1.out zaB) | (with_reducible refine Kd.C_alloc ?_ _) | (with_reducible refine Kd.C_drewN ?_ _) | (with_reducible refine Kd.C_drew ?_))); (case side2 => exact HC1.out); rintro e w' ⟨rfl, ⟨nd, rfl⟩⟩; refine ⟨_, rfl, ?_⟩) | ((with_reducible refine gate_builtin (b := .append) (xs := #[.tmp 24, .tmp 30]) rfl ?_); at_builtin; refine Kd.R_append Kd.bool (w0 := w) w.heap.size rfl (.tmp 24) (.tmp 30) 96 4 (.bool false) 1 rfl Try.underlying96 info4 rfl (by decide) (by omega) u8 x8_1 (!x9_1) [.bool (!x9_1)] (fun _ => True) (fun _ => False) rfl rfl ?aP (fun _ hk => hk.elim) ?aF ?aO ?aB ?aS ?aL ?_; (case aP => exact rfl); (case aB => exact zaB); (case aF => exact (fun _ _ => trivial)); (case aO => exact (by (with_reducible repeat (first | apply Kd.R_alloc | apply Kd.R_drewN | apply Kd.R_drew)); exact HO_8.out)); (case aS => exact (below_size zaB)); (case aL => have := LMc7.out; omega); intro v390 w13 ho hb hg hat; rw [← (show y389 = x8_1 ++ [(!x9_1)] from by rw [Ny389.out]; cases x9_1 <;> rfl)] at ho; replace HB := Aside0.mk (hb); have HO391 := Aside0.mk (ho); clear HO_8; clear ho hb hg hat))
       go_roundg k1
       case measure => have := HK1.out; omega
       case rel => exact ⟨(y389), (true), (wrap64 (x10_1 + 1)), (by first | rfl | (simp; done) | (simp [*]; done)), (by first | rfl | (simp; done) | (simp [*]; done)), H', ⟨by have := HK1.out; omega⟩, ⟨by (with_reducible repeat (first | apply Kd.R_alloc | apply Kd.R_drewN | apply Kd.R_drew)); exact HO391.out⟩, ⟨zaB⟩⟩
      ·replace c12 := Bool.eq_false_iff.mpr c12
       subst c12
       have H1 : (if x9_1 = true then (flyballref01_Sub.l0 k1 l0 l1 a2 y389 true (wrap64 (x10_1 + 1))) else (flyballref01_Sub.l0 k1 l0 l1 a2 y389 false (wrap64 (x10_1 + 1)))) = some (r1, r2) := by rw [if_neg (show ¬ (false = true) by decide)] at H; exact H
       clear H
       have H := H1
       clear H1
       by_cases c14 : x9_1 = true
       ·subst c14
        have H1 : (flyballref01_Sub.l0 k1 l0 l1 a2 y389 true (wrap64 (x10_1 + 1))) = some (r1, r2) := by rw [if_pos rfl] at H; exact H
        clear H
        have H := H1
        clear H1
        have H' := Aside0.mk H
        clear H
        go_wp2_with (first | ((with_reducible refine gate_callee (f := 156) rfl ?_); refine goesL_ (some 20) rfl rfl Try.func156 (by kernel_rfl) rfl #[.slice A0 l0.length c0, .int .i64 x10_1] rfl (by (try simp only [List.map_toArray, List.map_cons, List.map_nil]); first | done | rfl | (simp only [List.length_drop, List.length_take]; rfl)) ?_; (with_reducible refine (flyballref01_bit.calls _ _ l0 x10_1 false _ ?side1 ?side2 A5.out).mono ?_); (case side1 => repeat (first | exact (Kd.C_below HR0.out HB.out) | (with_reducible refine Kd.C_alloc ?_ _) | (with_reducible refine Kd.C_drewN ?_ _) | (with_reducible refine Kd.C_drew ?_))); (case side2 => exact HC0.out); rintro e w' ⟨rfl, ⟨nd, rfl⟩⟩; refine ⟨_, rfl, ?_⟩) | ((with_reducible refine gate_callee (f := 156) rfl ?_); refine goesL_ (some 23) rfl rfl Try.func156 (by kernel_rfl) rfl #[.slice A1 l1.length c1, .int .i64 x10_1] rfl (by (try simp only [List.map_toArray, List.map_cons, List.map_nil]); first | done | rfl | (simp only [List.length_drop, List.length_take]; rfl)) ?_; (with_reducible refine (flyballref01_bit.calls _ _ l1 x10_1 false _ ?side1 ?side2 A6.out).mono ?_); (case side1 => repeat (first | exact (Kd.C_below HR1.out zaB) | (with_reducible refine Kd.C_alloc ?_ _) | (with_reducible refine Kd.C_drewN ?_ _) | (with_reducible refine Kd.C_drew ?_))); (case side2 => exact HC1.out); rintro e w' ⟨rfl, ⟨nd, rfl⟩⟩; refine ⟨_, rfl, ?_⟩) | ((with_reducible refine gate_builtin (b := .append) (xs := #[.tmp 24, .tmp 30]) rfl ?_); at_builtin; refine Kd.R_append Kd.bool (w0 := w) w.heap.size rfl (.tmp 24) (.tmp 30) 96 4 (.bool false) 1 rfl Try.underlying96 info4 rfl (by decide) (by omega) u8 x8_1 ((false != false) != true) [.bool ((false != false) != true)] (fun _ => True) (fun _ => False) rfl rfl ?aP (fun _ hk => hk.elim) ?aF ?aO ?aB ?aS ?aL ?_; (case aP => exact rfl); (case aB => exact zaB); (case aF => exact (fun _ _ => trivial)); (case aO => exact (by (with_reducible repeat (first | apply Kd.R_alloc | apply Kd.R_drewN | apply Kd.R_drew)); exact HO_8.out)); (case aS => exact (below_size zaB)); (case aL => have := LMc7.out; omega); intro v390 w15 ho hb hg hat; rw [← Ny389.out] at ho; replace HB := Aside0.mk (hb); have HO391 := Aside0.mk (ho); clear HO_8; clear ho hb hg hat))
        go_roundg k1
        case measure => have := HK1.out; omega
        case rel => exact ⟨(y389), (true), (wrap64 (x10_1 + 1)), (by first | rfl | (simp; done) | (simp [*]; done)), (by first | rfl | (simp; done) | (simp [*]; done)), H', ⟨by have := HK1.out; omega⟩, ⟨by (with_reducible repeat (first | apply Kd.R_alloc | apply Kd.R_drewN | apply Kd.R_drew)); exact HO391.out⟩, ⟨zaB⟩⟩
       ·replace c14 := Bool.eq_false_iff.mpr c14
        subst c14
        have H1 : (flyballref01_Sub.l0 k1 l0 l1 a2 y389 false (wrap64 (x10_1 + 1))) = some (r1, r2) := by rw [if_neg (show ¬ (false = true) by decide)] at H; exact H
        clear H
        have H := H1
        clear H1
        have H' := Aside0.mk H
        clear H
        go_wp2_with (first | ((with_reducible refine gate_callee (f := 156) rfl ?_); refine goesL_ (some 20) rfl rfl Try.func156 (by kernel_rfl) rfl #[.slice A0 l0.length c0, .int .i64 x10_1] rfl (by (try simp only [List.map_toArray, List.map_cons, List.map_nil]); first | done | rfl | (simp only [List.length_drop, List.length_take]; rfl)) ?_; (with_reducible refine (flyballref01_bit.calls _ _ l0 x10_1 false _ ?side1 ?side2 A5.out).mono ?_); (case side1 => repeat (first | exact (Kd.C_below HR0.out HB.out) | (with_reducible refine Kd.C_alloc ?_ _) | (with_reducible refine Kd.C_drewN ?_ _) | (with_reducible refine Kd.C_drew ?_))); (case side2 => exact HC0.out); rintro e w' ⟨rfl, ⟨nd, rfl⟩⟩; refine ⟨_, rfl, ?_⟩) | ((with_reducible refine gate_callee (f := 156) rfl ?_); refine goesL_ (some 23) rfl rfl Try.func156 (by kernel_rfl) rfl #[.slice A1 l1.length c1, .int .i64 x10_1] rfl (by (try simp only [List.map_toArray, List.map_cons, List.map_nil]); first | done | rfl | (simp only [List.length_drop, List.length_take]; rfl)) ?_; (with_reducible refine (flyballref01_bit.calls _ _ l1 x10_1 false _ ?side1 ?side2 A6.out).mono ?_); (case side1 => repeat (first | exact (Kd.C_below HR1.out zaB) | (with_reducible refine Kd.C_alloc ?_ _) | (with_reducible refine Kd.C_drewN ?_ _) | (with_reducible refine Kd.C_drew ?_))); (case side2 => exact HC1.out); rintro e w' ⟨rfl, ⟨nd, rfl⟩⟩; refine ⟨_, rfl, ?_⟩) | ((with_reducible refine gate_builtin (b := .append) (xs := #[.tmp 24, .tmp 30]) rfl ?_); at_builtin; refine Kd.R_append Kd.bool (w0 := w) w.heap.size rfl (.tmp 24) (.tmp 30) 96 4 (.bool false) 1 rfl Try.underlying96 info4 rfl (by decide) (by omega) u8 x8_1 ((false != false) != false) [.bool ((false != false) != false)] (fun _ => True) (fun _ => False) rfl rfl ?aP (fun _ hk => hk.elim) ?aF ?aO ?aB ?aS ?aL ?_; (case aP => exact rfl); (case aB => exact zaB); (case aF => exact (fun _ _ => trivial)); (case aO => exact (by (with_reducible repeat (first | apply Kd.R_alloc | apply Kd.R_drewN | apply Kd.R_drew)); exact HO_8.out)); (case aS => exact (below_size zaB)); (case aL => have := LMc7.out; omega); intro v390 w16 ho hb hg hat; rw [← Ny389.out] at ho; replace HB := Aside0.mk (hb); have HO391 := Aside0.mk (ho); clear HO_8; clear ho hb hg hat))
        go_roundg k1
        case measure => have := HK1.out; omega
        case rel => exact ⟨(y389), (false), (wrap64 (x10_1 + 1)), (by first | rfl | (simp; done) | (simp [*]; done)), (by first | rfl | (simp; done) | (simp [*]; done)), H', ⟨by have := HK1.out; omega⟩, ⟨by (with_reducible repeat (first | apply Kd.R_alloc | apply Kd.R_drewN | apply Kd.R_drew)); exact HO391.out⟩, ⟨zaB⟩⟩
    ·rw [if_neg c7] at H
     exact absurd H (by simp)
   ·rw [if_neg c4] at H
    have c4b0 : decide (x10_1 < a2) = false := decide_eq_false c4
    clear c4
    simp only [Option.some.injEq, Prod.mk.injEq] at H
    obtain ⟨rfl, rfl⟩ := H
    go_wp2
    go_ret2
    exact ⟨_, zaE, by (with_reducible repeat (first | apply Kd.R_alloc | apply Kd.R_drewN | apply Kd.R_drew)); exact HO_8.out, zaB⟩
end Go.Proofs.Ytmadjhmecfbcmaa.F
end
section
namespace Go.Proofs.Ytmadjhmecfbcmaa.F
open Go.RowKit Go.Proofs.YtmadjhmecfbcmaaW.PrintWords Go.Proofs.YtmadjhmecfbcmaaW.PrintLast Go.Proofs.YtmadjhmecfbcmaaW.PrintMore
attribute [local go_sem] max2_int min2_int max_two min_two max_three min_three max_four min_four
set_option linter.unusedVariables false
set_option linter.unusedSimpArgs false
set_option maxHeartbeats 8000000 in
set_option maxRecDepth 100000 in
theorem flyballref04_Make.calls (a0 : Bool) (a1 : Int) (a2 : Int) (r : Int) (w : World) (h : flyballref04_Make.f a0 a1 a2 = some r) :
  Calls Try.prog 157 #[.bool a0, .int .i64 a1, .int .u64 a2] w fun e w' => e = .returned (.int .u64 r) ∧ Drawn0 w w' := by
 have H : (if a0 = true then (some (IntKind.u64.wrap ((IntKind.u64.wrap ((IntKind.u64.wrap ((IntKind.u64.wrap (a1)) * 4503599627370496)) + a2)) + 9223372036854775808))) else (some (IntKind.u64.wrap ((IntKind.u64.wrap ((IntKind.u64.wrap (a1)) * 4503599627370496)) + a2)))) = some r := h
 clear h
 by_cases c4 : a0 = true
 ·subst c4
  have H1 : (some (IntKind.u64.wrap ((IntKind.u64.wrap ((IntKind.u64.wrap ((IntKind.u64.wrap (a1)) * 4503599627370496)) + a2)) + 9223372036854775808))) = some r := by rw [if_pos rfl] at H; exact H
  clear H
  have H := H1
  clear H1
  obtain rfl := Option.some.inj H
  go_enter Try.func157, Try.ntmps157
  go_wp2
  go_ret
  exact ⟨by first | rfl | (simp; done) | (simp [*]; done), by repeat (first | exact Drawn0.refl _ | apply Drawn0.step)⟩
 ·replace c4 := Bool.eq_false_iff.mpr c4
  subst c4
  have H1 : (some (IntKind.u64.wrap ((IntKind.u64.wrap ((IntKind.u64.wrap (a1)) * 4503599627370496)) + a2))) = some r := by rw [if_neg (show ¬ (false = true) by decide)] at H; exact H
  clear H
  have H := H1
  clear H1
  obtain rfl := Option.some.inj H
  go_enter Try.func157, Try.ntmps157
  go_wp2
  go_ret
  exact ⟨by first | rfl | (simp; done) | (simp [*]; done), by repeat (first | exact Drawn0.refl _ | apply Drawn0.step)⟩
end Go.Proofs.Ytmadjhmecfbcmaa.F
end
section
namespace Go.Proofs.Ytmadjhmecfbcmaa.F
open Go.RowKit Go.Proofs.YtmadjhmecfbcmaaW.PrintWords Go.Proofs.YtmadjhmecfbcmaaW.PrintLast Go.Proofs.YtmadjhmecfbcmaaW.PrintMore
attribute [local go_sem] max2_int min2_int max_two min_two max_three min_three max_four min_four
set_option linter.unusedVariables false
set_option linter.unusedSimpArgs false
set_option maxHeartbeats 8000000 in
set_option maxRecDepth 100000 in
theorem flyballref06_zero.calls (a0 : Bool) (r : Int) (w : World) (h : flyballref06_zero.f a0 = some r) :
  Calls Try.prog 96 #[.bool a0] w fun e w' => e = .returned (.int .u64 r) ∧ Drawn0 w w' := by
 have H : ((flyballref04_Make.f a0 0 0).bind fun t392 => (some t392)) = some r := h
 clear h
 obtain ⟨t392, A2, H⟩ := zbs H
 try dsimp only at H
 obtain rfl := Option.some.inj H
 go_enter Try.func96, Try.ntmps96
 go_wp2_with (first | ((with_reducible refine gate_callee (f := 157) rfl ?_); refine zgL 4 Try.func157 (flyballref04_Make.calls a0 0 0 t392 _ A2.out) (h := ?_); rintro w' ⟨nd, rfl⟩))
 go_ret
 exact ⟨by first | rfl | (simp; done) | (simp [*]; done), by repeat (first | exact Drawn0.refl _ | apply Drawn0.step)⟩
end Go.Proofs.Ytmadjhmecfbcmaa.F
end
section
namespace Go.Proofs.Ytmadjhmecfbcmaa.F
open Go.RowKit Go.Proofs.YtmadjhmecfbcmaaW.PrintWords Go.Proofs.YtmadjhmecfbcmaaW.PrintLast Go.Proofs.YtmadjhmecfbcmaaW.PrintMore
attribute [local go_sem] max2_int min2_int max_two min_two max_three min_three max_four min_four
set_option linter.unusedVariables false
set_option linter.unusedSimpArgs false
set_option maxHeartbeats 8000000 in
set_option maxRecDepth 100000 in
theorem flyballref04_Of.calls (k : Nat) (a0 : Int) (a1 : Bool) (r : Int) (w : World) (h : flyballref04_Of.f k a0 a1 = some r) :
  Calls Try.prog 158 #[.int .i64 a0, .bool a1] w fun e w' => e = .returned (.int .u64 r) ∧ Drawn0 w w' := by
 have H : (if a0 < 0 then (flyballref04_Of.j0 k a0 true) else (if a0 = 0 then (flyballref04_Of.j0 k a0 a1) else (flyballref04_Of.j0 k a0 false))) = some r := h
 clear h
 have HC3 := Aside0.mk H
 clear H
 go_enter Try.func158, Try.ntmps158
 go_upto_region 1 with (fail)
 go_cut [13] (fun v13 wc => ∃ (kq : Nat) (x13_2 : Bool), v13 = .bool x13_2 ∧ Aside0 (flyballref04_Of.j0 kq a0 x13_2 = some r) ∧ Aside0 (kq ≤ k) ∧ Drawn0 w wc)
 case first =>
  have H := HC3.out
  clear HC3
  by_cases c4 : a0 < 0
  ·rw [if_pos c4] at H
   have c4b0 : decide (a0 < 0) = true := decide_eq_true c4
   clear c4
   (first | rw [c4b0] | (simp only [i64_w, i32_w]; rw [c4b0]) | skip)
   have H' := Aside0.mk H
   clear H
   go_wp2
   go_meet
   case rel => exact ⟨_, (true), (by first | rfl | (simp; done) | (simp [*]; done)), H', ⟨by first | omega | exact Nat.le_refl _⟩, by repeat (first | exact Drawn0.refl _ | apply Drawn0.step)⟩
  ·rw [if_neg c4] at H
   have c4b0 : decide (a0 < 0) = false := decide_eq_false c4
   clear c4
   (first | rw [c4b0] | (simp only [i64_w, i32_w]; rw [c4b0]) | skip)
   by_cases c5 : a0 = 0
   ·rw [if_pos c5] at H
    have c5b0 : (a0 == 0) = true := beq_iff_eq.mpr c5
    have c5b1 : (a0 != 0) = false := bne_eq_false_iff_eq.mpr c5
    clear c5
    have H' := Aside0.mk H
    clear H
    go_wp2
    go_meet
    case rel => exact ⟨_, (a1), (by first | rfl | (simp; done) | (simp [*]; done)), H', ⟨by first | omega | exact Nat.le_refl _⟩, by repeat (first | exact Drawn0.refl _ | apply Drawn0.step)⟩
   ·rw [if_neg c5] at H
    have c5b0 : (a0 == 0) = false := beq_eq_false_iff_ne.mpr c5
    have c5b1 : (a0 != 0) = true := bne_iff_ne.mpr c5
    have H' := Aside0.mk H
    clear H
    go_wp2
    go_meet
    case rel => exact ⟨_, (false), (by first | rfl | (simp; done) | (simp [*]; done)), H', ⟨by first | omega | exact Nat.le_refl _⟩, by repeat (first | exact Drawn0.refl _ | apply Drawn0.step)⟩
 case rest =>
  clear HC3
  try clear c1
  try clear p2
  try clear c4
  try clear c4b0
  try clear c5
  try clear c5b0
  try clear c5b1
  obtain ⟨kq, x13_2, rfl, HA, HJ2, ⟨mc2, rfl⟩⟩ := hcut
  cases kq with
  | zero => exact absurd HA.out (by simp [flyballref04_Of.j0])
  | succ kj2 =>
   have H := HA.out
   clear HA
   simp only [flyballref04_Of.j0] at H
   by_cases c6 : x13_2 = true
   ·subst c6
    have H1 : ((flyballref04_Make.f true (wrap64 (Int.tdiv (wrap64 (-a0)) 4503599627370496)) (IntKind.u64.wrap (Int.tmod (wrap64 (-a0)) 4503599627370496))).bind fun t393 => (some t393)) = some r := by rw [if_pos rfl] at H; exact H
    clear H
    have H := H1
    clear H1
    obtain ⟨t393, A7, H⟩ := zbs H
    try dsimp only at H
    obtain rfl := Option.some.inj H
    go_wp2_with (first | ((with_reducible refine gate_callee (f := 157) rfl ?_); refine zgL 21 Try.func157 (flyballref04_Make.calls true (wrap64 (Int.tdiv (wrap64 (-a0)) 4503599627370496)) (IntKind.u64.wrap (Int.tmod (wrap64 (-a0)) 4503599627370496)) t393 _ A7.out) (h := ?_); rintro w' ⟨nd, rfl⟩))
    go_ret
    exact ⟨by first | rfl | (simp; done) | (simp [*]; done), by repeat (first | exact Drawn0.refl _ | apply Drawn0.step)⟩
   ·replace c6 := Bool.eq_false_iff.mpr c6
    subst c6
    have H1 : ((flyballref04_Make.f false (wrap64 (Int.tdiv a0 4503599627370496)) (IntKind.u64.wrap (Int.tmod a0 4503599627370496))).bind fun t394 => (some t394)) = some r := by rw [if_neg (show ¬ (false = true) by decide)] at H; exact H
    clear H
    have H := H1
    clear H1
    obtain ⟨t394, A8, H⟩ := zbs H
    try dsimp only at H
    obtain rfl := Option.some.inj H
    go_wp2_with (first | ((with_reducible refine gate_callee (f := 157) rfl ?_); refine zgL 27 Try.func157 (flyballref04_Make.calls false (wrap64 (Int.tdiv a0 4503599627370496)) (IntKind.u64.wrap (Int.tmod a0 4503599627370496)) t394 _ A8.out) (h := ?_); rintro w' ⟨nd, rfl⟩))
    go_ret
    exact ⟨by first | rfl | (simp; done) | (simp [*]; done), by repeat (first | exact Drawn0.refl _ | apply Drawn0.step)⟩
end Go.Proofs.Ytmadjhmecfbcmaa.F
end
section
namespace Go.Proofs.Ytmadjhmecfbcmaa.F
open Go.RowKit Go.Proofs.YtmadjhmecfbcmaaW.PrintWords Go.Proofs.YtmadjhmecfbcmaaW.PrintLast Go.Proofs.YtmadjhmecfbcmaaW.PrintMore
attribute [local go_sem] max2_int min2_int max_two min_two max_three min_three max_four min_four
set_option linter.unusedVariables false
set_option linter.unusedSimpArgs false
set_option maxHeartbeats 8000000 in
set_option maxRecDepth 100000 in
theorem flyballref05_split.calls (k : Nat) (a0 : Int) (r1 : List Bool) (r2 : Int) (w : World) (h : flyballref05_split.f k a0 = some (r1, r2)) :
  Calls Try.prog 188 #[.int .i64 a0] w fun e w' => ∃ v0_ : Value, e = .returned (.tuple #[v0_, .int .i64 r2]) ∧ Kd.R Kd.bool 4 w' w.heap.size (fun _ => True) v0_ r1 ∧ Below w.heap.size w w' := by
 have HB := Aside0.mk (Below.refl w.heap.size w)
 have H : (if (a0 / 4503599627370496) = 0 then ((flyballref01_Of.f k (([IntKind.u64.wrap (Go.bits .and .i64 a0 4503599627370495)] : List Int))).bind fun t398 => (some (t398, (-1074)))) else ((flyballref01_Of.f k (([IntKind.u64.wrap ((IntKind.u64.wrap (Go.bits .and .i64 a0 4503599627370495)) + 4503599627370496)] : List Int))).bind fun t404 => (some (t404, wrap64 ((a0 / 4503599627370496) - 1075))))) = some (r1, r2) := h
 clear h
 by_cases c2 : (a0 / 4503599627370496) = 0
 ·rw [if_pos c2] at H
  have c2b0 : ((a0 / 4503599627370496) == 0) = true := beq_iff_eq.mpr c2
  have c2b1 : ((a0 / 4503599627370496) != 0) = false := bne_eq_false_iff_eq.mpr c2
  clear c2
  obtain ⟨y395, hy395⟩ : ∃ y_ : List Int, y_ = (([IntKind.u64.wrap (Go.bits .and .i64 a0 4503599627370495)] : List Int)) := ⟨_, rfl⟩
  replace H : ((flyballref01_Of.f k y395).bind fun t398 => (some (t398, (-1074)))) = some (r1, r2) := by first | (rw [hy395]; with_reducible exact H) | (have H2_ := (Option.bind_some _ _).symm.trans H; rw [hy395]; with_reducible exact H2_) | (have H2_ := (Option.bind_some _ _).symm.trans H; with_reducible exact H2_) | with_reducible exact H | (rw [hy395]; exact H) | exact H
  have Ny395 := Aside0.mk hy395
  clear hy395
  obtain ⟨t398, A3, H⟩ := zbs H
  try dsimp only at H
  simp only [Option.some.injEq, Prod.mk.injEq] at H
  obtain ⟨rfl, rfl⟩ := H
  go_enter Try.func188, Try.ntmps188
  go_wp2_with (first | ((with_reducible refine gate_dst (N := 14) rfl ?_); refine Kd.R_lit (Kd.int .u64) _ 22 ?hg (N := 14) ?hd (xs := ([IntKind.u64.wrap (Go.bits .and .i64 a0 4503599627370495)] : List Int)) (inner := [.int .u64 (IntKind.u64.wrap (Go.bits .and .i64 a0 4503599627370495))]) (ok := fun _ => True) (okp := fun _ => True) ?hr ?hp (fun _ hk => hk) trivial (Below.refl _ _) (Nat.le_refl _) (by simp) ?_; (case hd => rfl); (case hg => rfl); (case hr => first | (go_simp; done) | (go_simp; rfl)); (case hp => exact (Reps.one (show Kd.M (Kd.int .u64) _ _ _ (IntKind.u64.wrap (Go.bits .and .i64 a0 4503599627370495)) [.int .u64 (IntKind.u64.wrap (Go.bits .and .i64 a0 4503599627370495))] from rfl) (Reps.none _ _))); intro v396 w4 ho5 hb hg_ hnew_; clear hg_ hnew_; (first | rw [← Ny395.out] at ho5 | (simp only [Int.reduceToNat] at ho5; rw [← Ny395.out] at ho5)); have HO397 := Aside0.mk (Kd.R_lower ho5 (below_size zaB)); replace HB := Aside0.mk (below_step zaB hb); clear hb ho5; obtain ⟨Ao6, co6, eo6⟩ := Kd.R_slice HO397.out; subst eo6) | ((with_reducible refine gate_callee (f := 155) rfl ?_); refine goesL_ (some 15) rfl rfl Try.func155 (by kernel_rfl) rfl #[.slice Ao6 y395.length co6] rfl (by (try simp only [List.map_toArray, List.map_cons, List.map_nil]); first | done | rfl | (simp only [List.length_drop, List.length_take]; rfl)) ?_; (with_reducible refine (flyballref01_Of.calls k _ _ y395 t398 _ ?side1 ?side2 A3.out).mono ?_); (case side1 => repeat (first | exact (Kd.R_reads' HO397.out).2.2 | (with_reducible refine Kd.C_alloc ?_ _) | (with_reducible refine Kd.C_drewN ?_ _) | (with_reducible refine Kd.C_drew ?_))); (case side2 => exact (Kd.R_reads' HO397.out).2.1); rintro e w7 ⟨v399, rfl, ho0, hb⟩; refine ⟨_, rfl, ?_⟩; replace HO397 := Aside0.mk (Kd.R_below (by (with_reducible repeat (first | apply Kd.R_alloc | apply Kd.R_drewN | apply Kd.R_drew)); exact HO397.out) hb); have HO400 := Aside0.mk (Kd.R_lower ho0 (below_size zaB)); replace HB := Aside0.mk (below_step zaB hb); (try clear hb); (try clear ho0)))
  go_ret2
  exact ⟨_, zaE, by (with_reducible repeat (first | apply Kd.R_alloc | apply Kd.R_drewN | apply Kd.R_drew)); exact HO400.out, zaB⟩
 ·rw [if_neg c2] at H
  have c2b0 : ((a0 / 4503599627370496) == 0) = false := beq_eq_false_iff_ne.mpr c2
  have c2b1 : ((a0 / 4503599627370496) != 0) = true := bne_iff_ne.mpr c2
  obtain ⟨y401, hy401⟩ : ∃ y_ : List Int, y_ = (([IntKind.u64.wrap ((IntKind.u64.wrap (Go.bits .and .i64 a0 4503599627370495)) + 4503599627370496)] : List Int)) := ⟨_, rfl⟩
  replace H : ((flyballref01_Of.f k y401).bind fun t404 => (some (t404, wrap64 ((a0 / 4503599627370496) - 1075)))) = some (r1, r2) := by first | (rw [hy401]; with_reducible exact H) | (have H2_ := (Option.bind_some _ _).symm.trans H; rw [hy401]; with_reducible exact H2_) | (have H2_ := (Option.bind_some _ _).symm.trans H; with_reducible exact H2_) | with_reducible exact H | (rw [hy401]; exact H) | exact H
  have Ny401 := Aside0.mk hy401
  clear hy401
  obtain ⟨t404, A8, H⟩ := zbs H
  try dsimp only at H
  simp only [Option.some.injEq, Prod.mk.injEq] at H
  obtain ⟨rfl, rfl⟩ := H
  go_enter Try.func188, Try.ntmps188
  go_wp2_with (first | ((with_reducible refine gate_dst (N := 18) rfl ?_); refine Kd.R_lit (Kd.int .u64) _ 22 ?hg (N := 18) ?hd (xs := ([IntKind.u64.wrap ((IntKind.u64.wrap (Go.bits .and .i64 a0 4503599627370495)) + 4503599627370496)] : List Int)) (inner := [.int .u64 (IntKind.u64.wrap ((IntKind.u64.wrap (Go.bits .and .i64 a0 4503599627370495)) + 4503599627370496))]) (ok := fun _ => True) (okp := fun _ => True) ?hr ?hp (fun _ hk => hk) trivial (Below.refl _ _) (Nat.le_refl _) (by simp) ?_; (case hd => rfl); (case hg => rfl); (case hr => first | (go_simp; done) | (go_simp; rfl)); (case hp => exact (Reps.one (show Kd.M (Kd.int .u64) _ _ _ (IntKind.u64.wrap ((IntKind.u64.wrap (Go.bits .and .i64 a0 4503599627370495)) + 4503599627370496)) [.int .u64 (IntKind.u64.wrap ((IntKind.u64.wrap (Go.bits .and .i64 a0 4503599627370495)) + 4503599627370496))] from rfl) (Reps.none _ _))); intro v402 w9 ho10 hb hg_ hnew_; clear hg_ hnew_; (first | rw [← Ny401.out] at ho10 | (simp only [Int.reduceToNat] at ho10; rw [← Ny401.out] at ho10)); have HO403 := Aside0.mk (Kd.R_lower ho10 (below_size zaB)); replace HB := Aside0.mk (below_step zaB hb); clear hb ho10; obtain ⟨Ao11, co11, eo11⟩ := Kd.R_slice HO403.out; subst eo11) | ((with_reducible refine gate_callee (f := 155) rfl ?_); refine goesL_ (some 19) rfl rfl Try.func155 (by kernel_rfl) rfl #[.slice Ao11 y401.length co11] rfl (by (try simp only [List.map_toArray, List.map_cons, List.map_nil]); first | done | rfl | (simp only [List.length_drop, List.length_take]; rfl)) ?_; (with_reducible refine (flyballref01_Of.calls k _ _ y401 t404 _ ?side1 ?side2 A8.out).mono ?_); (case side1 => repeat (first | exact (Kd.R_reads' HO403.out).2.2 | (with_reducible refine Kd.C_alloc ?_ _) | (with_reducible refine Kd.C_drewN ?_ _) | (with_reducible refine Kd.C_drew ?_))); (case side2 => exact (Kd.R_reads' HO403.out).2.1); rintro e w12 ⟨v405, rfl, ho0, hb⟩; refine ⟨_, rfl, ?_⟩; replace HO403 := Aside0.mk (Kd.R_below (by (with_reducible repeat (first | apply Kd.R_alloc | apply Kd.R_drewN | apply Kd.R_drew)); exact HO403.out) hb); have HO406 := Aside0.mk (Kd.R_lower ho0 (below_size zaB)); replace HB := Aside0.mk (below_step zaB hb); (try clear hb); (try clear ho0)))
  go_ret2
  exact ⟨_, zaE, by (with_reducible repeat (first | apply Kd.R_alloc | apply Kd.R_drewN | apply Kd.R_drew)); exact HO406.out, zaB⟩
end Go.Proofs.Ytmadjhmecfbcmaa.F
end
section
namespace Go.Proofs.Ytmadjhmecfbcmaa.F
open Go.RowKit Go.Proofs.YtmadjhmecfbcmaaW.PrintWords Go.Proofs.YtmadjhmecfbcmaaW.PrintLast Go.Proofs.YtmadjhmecfbcmaaW.PrintMore
attribute [local go_sem] max2_int min2_int max_two min_two max_three min_three max_four min_four
set_option linter.unusedVariables false
set_option linter.unusedSimpArgs false
set_option maxHeartbeats 8000000 in
set_option maxRecDepth 100000 in
theorem flyballref01_Mul.calls (k : Nat) (A0 : Option Addr) (c0 : Nat) (l0 : List Bool) (A1 : Option Addr) (c1 : Nat) (l1 : List Bool) (r : List Bool) (w : World) (hr0 : Kd.C Kd.bool w A0 l0.length l0) (hc0 : l0.length ≤ c0) (hr1 : Kd.C Kd.bool w A1 l1.length l1) (hc1 : l1.length ≤ c1) (h : flyballref01_Mul.f k l0 l1 = some r) :
  Calls Try.prog 102 #[.slice A0 l0.length c0, .slice A1 l1.length c1] w fun e w' => ∃ v0_ : Value, e = .returned (v0_) ∧ Kd.R Kd.bool 4 w' w.heap.size (fun _ => True) v0_ r ∧ Below w.heap.size w w' := by
 have HR0 := Aside0.mk hr0
 have HC0 := Aside0.mk hc0
 clear hr0 hc0
 have HR1 := Aside0.mk hr1
 have HC1 := Aside0.mk hc1
 clear hr1 hc1
 have HB := Aside0.mk (Below.refl w.heap.size w)
 have H : (flyballref01_Mul.l0 k l0 l1 ([] : List Bool) 0) = some r := h
 clear h
 have H' := Aside0.mk H
 clear H
 go_enter Try.func102, Try.ntmps102
 go_wp2
 (try simp only [Act.put, List.setIfInBounds_toArray, List.set_cons_zero, List.set_cons_succ])
 go_loopg [5, 6] k (fun kq v5 v6 w' => ∃ (x5_1 : List Bool) (x6_1 : Int), v6 = .int .i64 x6_1 ∧ Aside0 (flyballref01_Mul.l0 kq l0 l1 x5_1 x6_1 = some r) ∧ Aside0 (kq ≤ k) ∧ Aside0 (Kd.R Kd.bool 4 w' w.heap.size (fun _ => True) v5 x5_1) ∧ Aside0 (Below w.heap.size w w'))
 case atStart => exact ⟨(([] : List Bool)), (0), (by first | rfl | (simp; done) | (simp [*]; done)), H', ⟨Nat.le_refl _⟩, ⟨by first | exact Kd.R_nil _ _ _ _ _ | exact Kd.N_nil _ _ _ _ _ | exact Kd.V_nil _ _ _ _ _ | exact Kd.Q_nil _ _ _ _ _ | exact Kd.S_nil _ _ _ _ _⟩, ⟨zaB⟩⟩
 case round =>
  clear H'
  try clear c1
  try clear p2
  obtain ⟨x5_1, x6_1, rfl, HA, HK1, HO_5, HB⟩ := hrel
  cases gk with
  | zero => exact absurd HA.out (by simp [flyballref01_Mul.l0])
  | succ k1 =>
   have H := HA.out
   clear HA
   simp only [flyballref01_Mul.l0] at H
   by_cases c3 : x6_1 < (l1.length : Int)
   ·rw [if_pos c3] at H
    have c3b0 : decide (x6_1 < (l1.length : Int)) = true := decide_eq_true c3
    clear c3
    by_cases c4 : 0 ≤ x6_1
    ·rw [if_pos c4] at H
     have c4b0 : decide (0 ≤ x6_1) = true := decide_eq_true c4
     clear c4
     obtain ⟨bq5, hbq5⟩ : ∃ b_ : Bool, b_ = (rdOf false l1 x6_1) := ⟨_, rfl⟩
     replace H : (if bq5 = true then ((flyballref01_Shl.f k1 l0 x6_1).bind fun t408 => ((flyballref01_Add.f k1 x5_1 t408).bind fun t411 => (flyballref01_Mul.l0 k1 l0 l1 t411 (wrap64 (x6_1 + 1))))) else (flyballref01_Mul.l0 k1 l0 l1 x5_1 (wrap64 (x6_1 + 1)))) = some r := by rw [← hbq5] at H; exact H
     have Nbq5 := Aside0.mk hbq5
     clear hbq5
     by_cases c6 : bq5 = true
     ·subst c6
      have H1 : ((flyballref01_Shl.f k1 l0 x6_1).bind fun t408 => ((flyballref01_Add.f k1 x5_1 t408).bind fun t411 => (flyballref01_Mul.l0 k1 l0 l1 t411 (wrap64 (x6_1 + 1))))) = some r := by rw [if_pos rfl] at H; exact H
      clear H
      have H := H1
      clear H1
      obtain ⟨t408, A7, H⟩ := zbs H
      try dsimp only at H
      obtain ⟨t411, A8, H⟩ := zbs H
      try dsimp only at H
      have H' := Aside0.mk H
      clear H
      have p407 : 0 ≤ (x6_1 : Int) := of_decide_eq_true (by first | (with_reducible assumption) | assumption)
      have q407 : x6_1 < (l1.length : Int) := of_decide_eq_true (by first | (with_reducible assumption) | assumption)
      obtain ⟨ad407, e407, hx407_0⟩ := Kd.at_bool HR1.out x6_1 p407 q407
      (try rw [← Nbq5.out] at hx407_0)
      cases e407
      replace hx407_0 := (HB.out.cell (World.block_lt_of_cell? w _ hx407_0)).trans hx407_0
      replace p407 := eq_true p407
      replace q407 := eq_true q407
      go_wp2_with (first | ((with_reducible refine gate_callee (f := 90) rfl ?_); refine goesL_ (some 20) rfl rfl Try.func90 (by kernel_rfl) rfl #[.slice A0 l0.length c0, .int .i64 x6_1] rfl (by (try simp only [List.map_toArray, List.map_cons, List.map_nil]); first | done | rfl | (simp only [List.length_drop, List.length_take]; rfl)) ?_; (with_reducible refine (flyballref01_Shl.calls k1 _ _ l0 x6_1 t408 _ ?side1 ?side2 A7.out).mono ?_); (case side1 => repeat (first | exact (Kd.C_below HR0.out HB.out) | (with_reducible refine Kd.C_alloc ?_ _) | (with_reducible refine Kd.C_drewN ?_ _) | (with_reducible refine Kd.C_drew ?_))); (case side2 => exact HC0.out); rintro e w9 ⟨v409, rfl, ho0, hb⟩; refine ⟨_, rfl, ?_⟩; have HO410 := Aside0.mk (Kd.R_lower (Kd.R_new' ho0 (Kd.R_lt (by (with_reducible repeat (first | apply Kd.R_alloc | apply Kd.R_drewN | apply Kd.R_drew)); exact HO_5.out))) (below_size zaB)); replace HO_5 := Aside0.mk (Kd.R_elder' (by (with_reducible repeat (first | apply Kd.R_alloc | apply Kd.R_drewN | apply Kd.R_drew)); exact HO_5.out) (Kd.R_base ho0) hb); replace HB := Aside0.mk (below_step zaB hb); (try clear hb); (try clear ho0); obtain ⟨Ao10, co10, eo10⟩ := Kd.R_slice HO_5.out; subst eo10; obtain ⟨Ao11, co11, eo11⟩ := Kd.R_slice HO410.out; subst eo11) | ((with_reducible refine gate_callee (f := 92) rfl ?_); refine goesL_ (some 21) rfl rfl Try.func92 (by kernel_rfl) rfl #[.slice Ao10 x5_1.length co10, .slice Ao11 t408.length co11] rfl (by (try simp only [List.map_toArray, List.map_cons, List.map_nil]); first | done | rfl | (simp only [List.length_drop, List.length_take]; rfl)) ?_; (with_reducible refine (flyballref01_Add.calls k1 _ _ x5_1 _ _ t408 t411 _ ?side1 ?side2 ?side3 ?side4 A8.out).mono ?_); (case side1 => repeat (first | exact (Kd.R_reads' HO_5.out).2.2 | (with_reducible refine Kd.C_alloc ?_ _) | (with_reducible refine Kd.C_drewN ?_ _) | (with_reducible refine Kd.C_drew ?_))); (case side2 => exact (Kd.R_reads' HO_5.out).2.1); (case side3 => repeat (first | exact (Kd.R_reads' HO410.out).2.2 | (with_reducible refine Kd.C_alloc ?_ _) | (with_reducible refine Kd.C_drewN ?_ _) | (with_reducible refine Kd.C_drew ?_))); (case side4 => exact (Kd.R_reads' HO410.out).2.1); rintro e w12 ⟨v412, rfl, ho0, hb⟩; refine ⟨_, rfl, ?_⟩; have HO413 := Aside0.mk (Kd.R_lower (Kd.R_new' (Kd.R_new' ho0 (Kd.R_lt (by (with_reducible repeat (first | apply Kd.R_alloc | apply Kd.R_drewN | apply Kd.R_drew)); exact HO_5.out))) (Kd.R_lt (by (with_reducible repeat (first | apply Kd.R_alloc | apply Kd.R_drewN | apply Kd.R_drew)); exact HO410.out))) (below_size zaB)); replace HO_5 := Aside0.mk (Kd.R_elder' (by (with_reducible repeat (first | apply Kd.R_alloc | apply Kd.R_drewN | apply Kd.R_drew)); exact HO_5.out) (Kd.R_base ho0) hb); replace HO410 := Aside0.mk (Kd.R_elder' (by (with_reducible repeat (first | apply Kd.R_alloc | apply Kd.R_drewN | apply Kd.R_drew)); exact HO410.out) (Kd.R_base ho0) hb); replace HB := Aside0.mk (below_step zaB hb); (try clear hb); (try clear ho0)))
      go_roundg k1
      case measure => have := HK1.out; omega
      case rel => exact ⟨(t411), (wrap64 (x6_1 + 1)), (by first | rfl | (simp; done) | (simp [*]; done)), H', ⟨by have := HK1.out; omega⟩, ⟨by (with_reducible repeat (first | apply Kd.R_alloc | apply Kd.R_drewN | apply Kd.R_drew)); exact Kd.R_mono HO413.out (fun _ hk => trivial)⟩, ⟨zaB⟩⟩
     ·replace c6 := Bool.eq_false_iff.mpr c6
      subst c6
      have H1 : (flyballref01_Mul.l0 k1 l0 l1 x5_1 (wrap64 (x6_1 + 1))) = some r := by rw [if_neg (show ¬ (false = true) by decide)] at H; exact H
      clear H
      have H := H1
      clear H1
      have H' := Aside0.mk H
      clear H
      have p407 : 0 ≤ (x6_1 : Int) := of_decide_eq_true (by first | (with_reducible assumption) | assumption)
      have q407 : x6_1 < (l1.length : Int) := of_decide_eq_true (by first | (with_reducible assumption) | assumption)
      obtain ⟨ad407, e407, hx407_0⟩ := Kd.at_bool HR1.out x6_1 p407 q407
      (try rw [← Nbq5.out] at hx407_0)
      cases e407
      replace hx407_0 := (HB.out.cell (World.block_lt_of_cell? w _ hx407_0)).trans hx407_0
      replace p407 := eq_true p407
      replace q407 := eq_true q407
      go_wp2
      go_roundg k1
      case measure => have := HK1.out; omega
      case rel => exact ⟨(x5_1), (wrap64 (x6_1 + 1)), (by first | rfl | (simp; done) | (simp [*]; done)), H', ⟨by have := HK1.out; omega⟩, ⟨by (with_reducible repeat (first | apply Kd.R_alloc | apply Kd.R_drewN | apply Kd.R_drew)); exact HO_5.out⟩, ⟨zaB⟩⟩
    ·rw [if_neg c4] at H
     exact absurd H (by simp)
   ·rw [if_neg c3] at H
    have c3b0 : decide (x6_1 < (l1.length : Int)) = false := decide_eq_false c3
    clear c3
    obtain rfl := Option.some.inj H
    go_wp2
    go_ret
    exact ⟨_, zaE, by (with_reducible repeat (first | apply Kd.R_alloc | apply Kd.R_drewN | apply Kd.R_drew)); exact HO_5.out, zaB⟩
end Go.Proofs.Ytmadjhmecfbcmaa.F
end
