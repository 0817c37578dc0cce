/- The walk of the law SpanOrder and what it computes, part 4 of 6: no conditions. -/
import Derived.Test.YtmadjhmecfbcmaaASpanOrder3
set_option linter.unusedVariables false
set_option linter.unusedSimpArgs false
section
namespace Go.Proofs.Ytmadjhmecfbcmaa.F
open Go.RowKit Go.Proofs.YtmadjhmecfbcmaaW.PrintWords Go.Proofs.YtmadjhmecfbcmaaW.PrintLast Go.Proofs.YtmadjhmecfbcmaaW.PrintMore
attribute [local go_sem] max2_int min2_int max_two min_two max_three min_three max_four min_four
set_option linter.unusedVariables false
set_option linter.unusedSimpArgs false
set_option maxHeartbeats 8000000
set_option maxRecDepth 100000
def soft_Div.T15 : Bool × List (List Nat × List Nat) := (true, [([], []), ([0], [0]), ([], []), ([1, 2], [1, 2]), ([3], [3]), ([], []), ([5], [5]), ([4, 6], [4, 6]), ([7], [7]), ([8], [8]), ([8], [8]), ([], []), ([11, 9, 7, 0, 1, 2, 3, 4, 5, 6, 7, 8, 9, 11], [9, 11]), ([10, 12, 0, 1, 2, 3, 4, 5, 6, 7, 8, 9, 10, 11, 12], [10])])
def soft_Div.B15 : List Nat := [0, 1, 0, 7, 15, 0, 32, 127, 255, 511, 511, 0, 3071, 8191]
theorem soft_Div.tab15 : rtab .any (opsOf Try.f27 15) = soft_Div.T15 := by kernel_rfl
theorem soft_Div.bits15 : waitsOk soft_Div.T15.2 soft_Div.B15 = true := by kernel_rfl
theorem soft_Div.calls (k : Nat) (a0 : Int) (a1 : Int) (a2 : Int) (r1 : Int) (r2 : Int) (w : World) (h : soft_Div.f k a0 a1 a2 = some (r1, r2)) :
  Calls Try.prog 27 #[.int .u64 a0, .int .u64 a1, .int .u8 a2] w fun e w' => e = .returned (.tuple #[.int .u64 r1, .int .u8 r2]) ∧ Below w.heap.size w w' := by
 have hu88 := Try.underlying88
 have hu109 := Try.underlying109
 have HB := Aside0.mk (Below.refl w.heap.size w)
 have H : ((soft_of.f k a0).bind fun bt262 => ((soft_of.f k a1).bind fun bt267 => ((soft_either.f bt262.1 bt262.2.1 bt262.2.2.1 bt262.2.2.2.1 bt262.2.2.2.2 bt267.1 bt267.2.1 bt267.2.2.1 bt267.2.2.2.1 bt267.2.2.2.2 4).bind fun t274 => (if t274 = true then ((pattern_Quiet.f).bind fun t275 => (some (t275, 0))) else (if bt262.2.1 = bt267.2.1 then (if bt262.2.1 = 3 then (soft_Div.j0 k a2 (bt262.2.2.1 != bt267.2.2.1) true bt262.1 bt262.2.1 bt262.2.2.1 bt262.2.2.2.1 bt262.2.2.2.2 bt267.1 bt267.2.1 bt267.2.2.1 bt267.2.2.2.1 bt267.2.2.2.2) else (soft_Div.j0 k a2 (bt262.2.2.1 != bt267.2.2.1) (bt262.2.1 == 0) bt262.1 bt262.2.1 bt262.2.2.1 bt262.2.2.2.1 bt262.2.2.2.2 bt267.1 bt267.2.1 bt267.2.2.1 bt267.2.2.2.1 bt267.2.2.2.2)) else (soft_Div.j0 k a2 (bt262.2.2.1 != bt267.2.2.1) false bt262.1 bt262.2.1 bt262.2.2.1 bt262.2.2.2.1 bt262.2.2.2.2 bt267.1 bt267.2.1 bt267.2.2.1 bt267.2.2.2.1 bt267.2.2.2.2)))))) = some (r1, r2) := h
 clear h
 obtain ⟨⟨t262, t263, t264, t265, t266⟩, A4, H⟩ := zbs H
 try dsimp only at H
 obtain ⟨⟨t267, t268, t269, t270, t271⟩, A5, H⟩ := zbs H
 try dsimp only at H
 obtain ⟨t274, A6, H⟩ := zbs H
 try dsimp only at H
 by_cases c7 : t274 = true
 ·subst c7
  replace H := zit H
  obtain ⟨t275, A8, H⟩ := zbs H
  try dsimp only at H
  simp only [Option.some.injEq, Prod.mk.injEq] at H
  obtain ⟨rfl, rfl⟩ := H
  go_enter Try.func27, Try.ntmps27
  go_wp2_with (first | ((with_reducible refine gtc 82 rfl ?_); refine zgL 15 Try.func82 (soft_of.calls k a0 t262 t263 t264 t265 t266 _ A4.out) (h := ?_); rintro w9 hb; replace HB := Aside0.mk (below_step zaB hb); (try clear hb)) | ((with_reducible refine gtc 82 rfl ?_); refine zgL 17 Try.func82 (soft_of.calls k a1 t267 t268 t269 t270 t271 _ A5.out) (h := ?_); rintro w10 hb; replace HB := Aside0.mk (below_step zaB hb); (try clear hb)) | ((with_reducible refine gtd 8 rfl ?_); refine zbx 8 #[.int .u64 0, .int .u8 0, .bool false, .int .u64 0, .int .i64 0] 88 (h := ?_); intro gb272 hg w11 hbox hb; have GW272 := zkZ hg (zaB (p := Below w.heap.size w _)); replace HB := Aside0.mk (below_step zaB hb); have BK272 := Aside0.mk (hbox); clear hb hbox hg) | ((with_reducible refine gtd 9 rfl ?_); refine zbx 9 #[.int .u64 0, .int .u8 0, .bool false, .int .u64 0, .int .i64 0] 88 (h := ?_); intro gb273 hg w12 hbox hb; have GW273 := zkz HB hg; have NB272_273 := zkl BK272 hg; have NB273_272 := zkr BK272 hg; replace BK272 := zkb BK272 hb; replace HB := zkB HB hb; have BK273 := Aside0.mk (hbox); clear hb hbox hg; obtain ⟨_, _⟩ := zsy NB272_273; obtain ⟨z14_0, z14_1, z14_2, z14_3, z14_4, f14_0, f14_1, f14_2, f14_3, f14_4⟩ := zq5 BK272; obtain ⟨z15_0, z15_1, z15_2, z15_3, z15_4, f15_0, f15_1, f15_2, f15_3, f15_4⟩ := zq5 BK273) | ((with_reducible refine gtc 83 rfl ?_); refine zgL 26 Try.func83 (soft_either.calls t262 t263 t264 t265 t266 t267 t268 t269 t270 t271 4 true _ A6.out) (h := ?_); rintro w16 hb; replace BK272 := Aside0.mk (blk_below (o := .cells #[.int .u64 t262, .int .u8 t263, .bool t264, .int .u64 t265, .int .i64 t266] 88 (0, 0)) (zkf (zkf (zkf (zkf (zkf (blk_put (cs := #[.int .u64 t262, .int .u8 t263, .bool t264, .int .u64 t265, .int .i64 0]) (blk_put (cs := #[.int .u64 t262, .int .u8 t263, .bool t264, .int .u64 0, .int .i64 0]) (blk_put (cs := #[.int .u64 t262, .int .u8 t263, .bool false, .int .u64 0, .int .i64 0]) (blk_put (cs := #[.int .u64 t262, .int .u8 0, .bool false, .int .u64 0, .int .i64 0]) (blk_put BK272.out 0 _ rfl) 1 _ rfl) 2 _ rfl) 3 _ rfl) 4 _ rfl) NB272_273.out _) NB272_273.out _) NB272_273.out _) NB272_273.out _) NB272_273.out _) hb); replace BK273 := Aside0.mk (blk_below (o := .cells #[.int .u64 t267, .int .u8 t268, .bool t269, .int .u64 t270, .int .i64 t271] 88 (0, 0)) (blk_put (cs := #[.int .u64 t267, .int .u8 t268, .bool t269, .int .u64 t270, .int .i64 0]) (blk_put (cs := #[.int .u64 t267, .int .u8 t268, .bool t269, .int .u64 0, .int .i64 0]) (blk_put (cs := #[.int .u64 t267, .int .u8 t268, .bool false, .int .u64 0, .int .i64 0]) (blk_put (cs := #[.int .u64 t267, .int .u8 0, .bool false, .int .u64 0, .int .i64 0]) (blk_put (zkf (zkf (zkf (zkf (zkf BK273.out NB273_272.out _) NB273_272.out _) NB273_272.out _) NB273_272.out _) NB273_272.out _) 0 _ rfl) 1 _ rfl) 2 _ rfl) 3 _ rfl) 4 _ rfl) hb); replace HB := Aside0.mk (below_step (below_set (below_set (below_set (below_set (below_set (below_set (below_set (below_set (below_set (below_set HB.out GW272.out) GW272.out) GW272.out) GW272.out) GW272.out) GW273.out) GW273.out) GW273.out) GW273.out) GW273.out) hb); (try clear hb)) | ((with_reducible refine gtc 81 rfl ?_); refine zgL 27 Try.func81 (pattern_Quiet.calls  t275 _ A8.out) (h := ?_); rintro w' ⟨nd, rfl⟩))
  go_ret2
  exact ⟨zaE, zaB⟩
 replace c7 := Bool.eq_false_iff.mpr c7
 subst c7
 replace H := zif H
 have HC17 := Aside0.mk H
 clear H
 go_enter Try.func27, Try.ntmps27
 go_upto_region 5 with (first | ((with_reducible refine gtc 82 rfl ?_); refine zgL 15 Try.func82 (soft_of.calls k a0 t262 t263 t264 t265 t266 _ A4.out) (h := ?_); rintro w18 hb; replace HB := Aside0.mk (below_step zaB hb); (try clear hb)) | ((with_reducible refine gtc 82 rfl ?_); refine zgL 17 Try.func82 (soft_of.calls k a1 t267 t268 t269 t270 t271 _ A5.out) (h := ?_); rintro w19 hb; replace HB := Aside0.mk (below_step zaB hb); (try clear hb)) | ((with_reducible refine gtd 8 rfl ?_); refine zbx 8 #[.int .u64 0, .int .u8 0, .bool false, .int .u64 0, .int .i64 0] 88 (h := ?_); intro gb272 hg w20 hbox hb; have GW272 := zkZ hg (zaB (p := Below w.heap.size w _)); replace HB := Aside0.mk (below_step zaB hb); have BK272 := Aside0.mk (hbox); clear hb hbox hg) | ((with_reducible refine gtd 9 rfl ?_); refine zbx 9 #[.int .u64 0, .int .u8 0, .bool false, .int .u64 0, .int .i64 0] 88 (h := ?_); intro gb273 hg w21 hbox hb; have GW273 := zkz HB hg; have NB272_273 := zkl BK272 hg; have NB273_272 := zkr BK272 hg; replace BK272 := zkb BK272 hb; replace HB := zkB HB hb; have BK273 := Aside0.mk (hbox); clear hb hbox hg; obtain ⟨_, _⟩ := zsy NB272_273; obtain ⟨z23_0, z23_1, z23_2, z23_3, z23_4, f23_0, f23_1, f23_2, f23_3, f23_4⟩ := zq5 BK272; obtain ⟨z24_0, z24_1, z24_2, z24_3, z24_4, f24_0, f24_1, f24_2, f24_3, f24_4⟩ := zq5 BK273) | ((with_reducible refine gtc 83 rfl ?_); refine zgL 26 Try.func83 (soft_either.calls t262 t263 t264 t265 t266 t267 t268 t269 t270 t271 4 false _ A6.out) (h := ?_); rintro w25 hb; replace BK272 := Aside0.mk (blk_below (o := .cells #[.int .u64 t262, .int .u8 t263, .bool t264, .int .u64 t265, .int .i64 t266] 88 (0, 0)) (zkf (zkf (zkf (zkf (zkf (blk_put (cs := #[.int .u64 t262, .int .u8 t263, .bool t264, .int .u64 t265, .int .i64 0]) (blk_put (cs := #[.int .u64 t262, .int .u8 t263, .bool t264, .int .u64 0, .int .i64 0]) (blk_put (cs := #[.int .u64 t262, .int .u8 t263, .bool false, .int .u64 0, .int .i64 0]) (blk_put (cs := #[.int .u64 t262, .int .u8 0, .bool false, .int .u64 0, .int .i64 0]) (blk_put BK272.out 0 _ rfl) 1 _ rfl) 2 _ rfl) 3 _ rfl) 4 _ rfl) NB272_273.out _) NB272_273.out _) NB272_273.out _) NB272_273.out _) NB272_273.out _) hb); replace BK273 := Aside0.mk (blk_below (o := .cells #[.int .u64 t267, .int .u8 t268, .bool t269, .int .u64 t270, .int .i64 t271] 88 (0, 0)) (blk_put (cs := #[.int .u64 t267, .int .u8 t268, .bool t269, .int .u64 t270, .int .i64 0]) (blk_put (cs := #[.int .u64 t267, .int .u8 t268, .bool t269, .int .u64 0, .int .i64 0]) (blk_put (cs := #[.int .u64 t267, .int .u8 t268, .bool false, .int .u64 0, .int .i64 0]) (blk_put (cs := #[.int .u64 t267, .int .u8 0, .bool false, .int .u64 0, .int .i64 0]) (blk_put (zkf (zkf (zkf (zkf (zkf BK273.out NB273_272.out _) NB273_272.out _) NB273_272.out _) NB273_272.out _) NB273_272.out _) 0 _ rfl) 1 _ rfl) 2 _ rfl) 3 _ rfl) 4 _ rfl) hb); replace HB := Aside0.mk (below_step (below_set (below_set (below_set (below_set (below_set (below_set (below_set (below_set (below_set (below_set HB.out GW272.out) GW272.out) GW272.out) GW272.out) GW272.out) GW273.out) GW273.out) GW273.out) GW273.out) GW273.out) hb); (try clear hb)))
 (try simp only [Act.put, List.setIfInBounds_toArray, List.set_cons_zero, List.set_cons_succ])
 go_cut [28] (fun v28 wc => ∃ (kq : Nat) (x28_16 : Bool), v28 = .bool x28_16 ∧ Aside0 (soft_Div.j0 kq a2 (t264 != t269) x28_16 t262 t263 t264 t265 t266 t267 t268 t269 t270 t271 = some (r1, r2)) ∧ Aside0 (kq ≤ k) ∧ Aside0 (wc.heap[gb272]? = some (.cells #[.int .u64 t262, .int .u8 t263, .bool t264, .int .u64 t265, .int .i64 t266] 88 (0, 0))) ∧ Aside0 (wc.heap[gb273]? = some (.cells #[.int .u64 t267, .int .u8 t268, .bool t269, .int .u64 t270, .int .i64 t271] 88 (0, 0))) ∧ Aside0 (Below w.heap.size w wc))
 case first =>
  have H := HC17.out
  clear HC17
  by_cases c26 : t263 = t268
  ·rw [if_pos c26] at H
   have c26b0 : (t263 == t268) = true := beq_iff_eq.mpr c26
   have c26b1 : (t263 != t268) = false := bne_eq_false_iff_eq.mpr c26
   clear c26
   (first | rw [c26b0] | (simp only [i64_w, i32_w]; rw [c26b0]) | skip)
   by_cases c27 : t263 = 3
   ·rw [if_pos c27] at H
    have c27b0 : (t263 == 3) = true := beq_iff_eq.mpr c27
    have c27b1 : (t263 != 3) = false := bne_eq_false_iff_eq.mpr c27
    clear c27
    have H' := Aside0.mk H
    clear H
    obtain ⟨_, _⟩ := zsy NB272_273
    obtain ⟨z29_0, z29_1, z29_2, z29_3, z29_4, f29_0, f29_1, f29_2, f29_3, f29_4⟩ := zq5 BK272
    obtain ⟨z30_0, z30_1, z30_2, z30_3, z30_4, f30_0, f30_1, f30_2, f30_3, f30_4⟩ := zq5 BK273
    go_wp2
    go_meet
    case rel => exact ⟨_, (true), zrl, H', ⟨zle⟩, ⟨zkq BK272⟩, ⟨zkq BK273⟩, ⟨zaB⟩⟩
   rw [if_neg c27] at H
   have c27b0 : (t263 == 3) = false := beq_eq_false_iff_ne.mpr c27
   have c27b1 : (t263 != 3) = true := bne_iff_ne.mpr c27
   have H' := Aside0.mk H
   clear H
   obtain ⟨_, _⟩ := zsy NB272_273
   obtain ⟨z32_0, z32_1, z32_2, z32_3, z32_4, f32_0, f32_1, f32_2, f32_3, f32_4⟩ := zq5 BK272
   obtain ⟨z33_0, z33_1, z33_2, z33_3, z33_4, f33_0, f33_1, f33_2, f33_3, f33_4⟩ := zq5 BK273
   go_wp2
   go_meet
   case rel => exact ⟨_, ((t263 == 0)), zrl, H', ⟨zle⟩, ⟨zkq BK272⟩, ⟨zkq BK273⟩, ⟨zaB⟩⟩
  rw [if_neg c26] at H
  have c26b0 : (t263 == t268) = false := beq_eq_false_iff_ne.mpr c26
  have c26b1 : (t263 != t268) = true := bne_iff_ne.mpr c26
  (first | rw [c26b0] | (simp only [i64_w, i32_w]; rw [c26b0]) | skip)
  have H' := Aside0.mk H
  clear H
  obtain ⟨_, _⟩ := zsy NB272_273
  obtain ⟨z35_0, z35_1, z35_2, z35_3, z35_4, f35_0, f35_1, f35_2, f35_3, f35_4⟩ := zq5 BK272
  obtain ⟨z36_0, z36_1, z36_2, z36_3, z36_4, f36_0, f36_1, f36_2, f36_3, f36_4⟩ := zq5 BK273
  go_wp2
  go_meet
  case rel => exact ⟨_, (false), zrl, H', ⟨zle⟩, ⟨zkq BK272⟩, ⟨zkq BK273⟩, ⟨zaB⟩⟩
 case rest =>
  clear HC17
  try clear c1
  try clear c2
  try clear p2
  try clear c3
  try clear c7
  try clear c8
  try clear c13
  try clear c22
  try clear c26
  try clear c26b0
  try clear c26b1
  try clear c27
  try clear c27b0
  try clear c27b1
  try clear c28
  try clear c31
  try clear c34
  try clear z14_0
  try clear z14_1
  try clear z14_2
  try clear z14_3
  try clear z14_4
  try clear z15_0
  try clear z15_1
  try clear z15_2
  try clear z15_3
  try clear z15_4
  try clear z23_0
  try clear z23_1
  try clear z23_2
  try clear z23_3
  try clear z23_4
  try clear z24_0
  try clear z24_1
  try clear z24_2
  try clear z24_3
  try clear z24_4
  try clear z29_0
  try clear z29_1
  try clear z29_2
  try clear z29_3
  try clear z29_4
  try clear z30_0
  try clear z30_1
  try clear z30_2
  try clear z30_3
  try clear z30_4
  try clear z32_0
  try clear z32_1
  try clear z32_2
  try clear z32_3
  try clear z32_4
  try clear z33_0
  try clear z33_1
  try clear z33_2
  try clear z33_3
  try clear z33_4
  try clear z35_0
  try clear z35_1
  try clear z35_2
  try clear z35_3
  try clear z35_4
  try clear z36_0
  try clear z36_1
  try clear z36_2
  try clear z36_3
  try clear z36_4
  try clear f14_0
  try clear f14_1
  try clear f14_2
  try clear f14_3
  try clear f14_4
  try clear f15_0
  try clear f15_1
  try clear f15_2
  try clear f15_3
  try clear f15_4
  try clear f23_0
  try clear f23_1
  try clear f23_2
  try clear f23_3
  try clear f23_4
  try clear f24_0
  try clear f24_1
  try clear f24_2
  try clear f24_3
  try clear f24_4
  try clear f29_0
  try clear f29_1
  try clear f29_2
  try clear f29_3
  try clear f29_4
  try clear f30_0
  try clear f30_1
  try clear f30_2
  try clear f30_3
  try clear f30_4
  try clear f32_0
  try clear f32_1
  try clear f32_2
  try clear f32_3
  try clear f32_4
  try clear f33_0
  try clear f33_1
  try clear f33_2
  try clear f33_3
  try clear f33_4
  try clear f35_0
  try clear f35_1
  try clear f35_2
  try clear f35_3
  try clear f35_4
  try clear f36_0
  try clear f36_1
  try clear f36_2
  try clear f36_3
  try clear f36_4
  obtain ⟨kq, x28_16, rfl, HA, HJ16, BK272, BK273, HB⟩ := hcut
  cases kq with
  | zero => exact absurd HA.out (by simp [soft_Div.j0])
  | succ kj16 =>
   have H := HA.out
   clear HA
   simp only [soft_Div.j0] at H
   by_cases c37 : x28_16 = true
   ·subst c37
    replace H := zit H
    obtain ⟨⟨t276, t277⟩, A38, H⟩ := zbs H
    try dsimp only at H
    simp only [Option.some.injEq, Prod.mk.injEq] at H
    obtain ⟨rfl, rfl⟩ := H
    go_wp2_with (first | ((with_reducible refine gtc 84 rfl ?_); refine zgL 44 Try.func84 (soft_invalid.calls  t276 t277 _ A38.out) (h := ?_); rintro w' ⟨nd, rfl⟩))
    go_ret2
    exact ⟨zaE, zaB⟩
   replace c37 := Bool.eq_false_iff.mpr c37
   subst c37
   replace H := zif H
   by_cases c39 : t263 = 3
   ·rw [if_pos c39] at H
    have c39b0 : (t263 == 3) = true := beq_iff_eq.mpr c39
    have c39b1 : (t263 != 3) = false := bne_eq_false_iff_eq.mpr c39
    clear c39
    obtain ⟨t278, A40, H⟩ := zbs H
    try dsimp only at H
    simp only [Option.some.injEq, Prod.mk.injEq] at H
    obtain ⟨rfl, rfl⟩ := H
    obtain ⟨_, _⟩ := zsy NB272_273
    obtain ⟨z42_0, z42_1, z42_2, z42_3, z42_4, f42_0, f42_1, f42_2, f42_3, f42_4⟩ := zq5 BK272
    go_wp2_with (first | ((with_reducible refine gtc 79 rfl ?_); refine zgL 52 Try.func79 (pattern_Inf.calls kj16 (t264 != t269) t278 _ A40.out) (h := ?_); rintro w' ⟨nd, rfl⟩))
    go_ret2
    exact ⟨zaE, zaB⟩
   rw [if_neg c39] at H
   have c39b0 : (t263 == 3) = false := beq_eq_false_iff_ne.mpr c39
   have c39b1 : (t263 != 3) = true := bne_iff_ne.mpr c39
   by_cases c43 : t268 = 0
   ·rw [if_pos c43] at H
    have c43b0 : (t268 == 0) = true := beq_iff_eq.mpr c43
    have c43b1 : (t268 != 0) = false := bne_eq_false_iff_eq.mpr c43
    clear c43
    obtain ⟨t279, A44, H⟩ := zbs H
    try dsimp only at H
    simp only [Option.some.injEq, Prod.mk.injEq] at H
    obtain ⟨rfl, rfl⟩ := H
    obtain ⟨_, _⟩ := zsy NB272_273
    obtain ⟨z46_0, z46_1, z46_2, z46_3, z46_4, f46_0, f46_1, f46_2, f46_3, f46_4⟩ := zq5 BK272
    obtain ⟨z47_0, z47_1, z47_2, z47_3, z47_4, f47_0, f47_1, f47_2, f47_3, f47_4⟩ := zq5 BK273
    go_wp2_with (first | ((with_reducible refine gtc 79 rfl ?_); refine zgL 58 Try.func79 (pattern_Inf.calls kj16 (t264 != t269) t279 _ A44.out) (h := ?_); rintro w' ⟨nd, rfl⟩))
    go_ret2
    exact ⟨zaE, zaB⟩
   rw [if_neg c43] at H
   have c43b0 : (t268 == 0) = false := beq_eq_false_iff_ne.mpr c43
   have c43b1 : (t268 != 0) = true := bne_iff_ne.mpr c43
   have HC48 := Aside0.mk H
   clear H
   obtain ⟨_, _⟩ := zsy NB272_273
   obtain ⟨z50_0, z50_1, z50_2, z50_3, z50_4, f50_0, f50_1, f50_2, f50_3, f50_4⟩ := zq5 BK272
   obtain ⟨z51_0, z51_1, z51_2, z51_3, z51_4, f51_0, f51_1, f51_2, f51_3, f51_4⟩ := zq5 BK273
   go_upto_if 59 with (fail)
   go_cut [59] (fun v59 wc => ∃ (kq : Nat) (x59_47 : Bool), v59 = .bool x59_47 ∧ Aside0 (soft_Div.j1 kq a2 (t264 != t269) x59_47 t262 t263 t264 t265 t266 t267 t268 t269 t270 t271 = some (r1, r2)) ∧ Aside0 (kq ≤ kj16) ∧ Aside0 (wc.heap[gb272]? = some (.cells #[.int .u64 t262, .int .u8 t263, .bool t264, .int .u64 t265, .int .i64 t266] 88 (0, 0))) ∧ Aside0 (wc.heap[gb273]? = some (.cells #[.int .u64 t267, .int .u8 t268, .bool t269, .int .u64 t270, .int .i64 t271] 88 (0, 0))) ∧ Aside0 (Below w.heap.size w wc))
   case first =>
    have H := HC48.out
    clear HC48
    by_cases c52 : t263 = 0
    ·rw [if_pos c52] at H
     have c52b0 : (t263 == 0) = true := beq_iff_eq.mpr c52
     have c52b1 : (t263 != 0) = false := bne_eq_false_iff_eq.mpr c52
     clear c52
     (first | rw [c52b0] | (simp only [i64_w, i32_w]; rw [c52b0]) | skip)
     have H' := Aside0.mk H
     clear H
     go_wp2
     go_meet
     case rel => exact ⟨_, ((t263 == 0)), zrl, H', ⟨by have := HJ16.out; first | omega | exact Nat.le_refl _⟩, ⟨zkq BK272⟩, ⟨zkq BK273⟩, ⟨zaB⟩⟩
    rw [if_neg c52] at H
    have c52b0 : (t263 == 0) = false := beq_eq_false_iff_ne.mpr c52
    have c52b1 : (t263 != 0) = true := bne_iff_ne.mpr c52
    (first | rw [c52b0] | (simp only [i64_w, i32_w]; rw [c52b0]) | skip)
    have H' := Aside0.mk H
    clear H
    obtain ⟨_, _⟩ := zsy NB273_272
    obtain ⟨z54_0, z54_1, z54_2, z54_3, z54_4, f54_0, f54_1, f54_2, f54_3, f54_4⟩ := zq5 BK273
    go_wp2
    go_meet
    case rel => exact ⟨_, ((t268 == 3)), zrl, H', ⟨by have := HJ16.out; first | omega | exact Nat.le_refl _⟩, ⟨zkq BK272⟩, ⟨zkq BK273⟩, ⟨zaB⟩⟩
   case rest =>
    clear HC48
    try clear c1
    try clear c2
    try clear p2
    try clear c3
    try clear c4
    try clear c5
    try clear c7
    try clear c8
    try clear c13
    try clear c22
    try clear c26
    try clear c26b0
    try clear c26b1
    try clear c27
    try clear c27b0
    try clear c27b1
    try clear c28
    try clear c31
    try clear c34
    try clear c37
    try clear c39
    try clear c39b0
    try clear c39b1
    try clear c41
    try clear c43
    try clear c43b0
    try clear c43b1
    try clear c45
    try clear c49
    try clear c52
    try clear c52b0
    try clear c52b1
    try clear c53
    try clear z14_0
    try clear z14_1
    try clear z14_2
    try clear z14_3
    try clear z14_4
    try clear z15_0
    try clear z15_1
    try clear z15_2
    try clear z15_3
    try clear z15_4
    try clear z23_0
    try clear z23_1
    try clear z23_2
    try clear z23_3
    try clear z23_4
    try clear z24_0
    try clear z24_1
    try clear z24_2
    try clear z24_3
    try clear z24_4
    try clear z29_0
    try clear z29_1
    try clear z29_2
    try clear z29_3
    try clear z29_4
    try clear z30_0
    try clear z30_1
    try clear z30_2
    try clear z30_3
    try clear z30_4
    try clear z32_0
    try clear z32_1
    try clear z32_2
    try clear z32_3
    try clear z32_4
    try clear z33_0
    try clear z33_1
    try clear z33_2
    try clear z33_3
    try clear z33_4
    try clear z35_0
    try clear z35_1
    try clear z35_2
    try clear z35_3
    try clear z35_4
    try clear z36_0
    try clear z36_1
    try clear z36_2
    try clear z36_3
    try clear z36_4
    try clear z42_0
    try clear z42_1
    try clear z42_2
    try clear z42_3
    try clear z42_4
    try clear z46_0
    try clear z46_1
    try clear z46_2
    try clear z46_3
    try clear z46_4
    try clear z47_0
    try clear z47_1
    try clear z47_2
    try clear z47_3
    try clear z47_4
    try clear z50_0
    try clear z50_1
    try clear z50_2
    try clear z50_3
    try clear z50_4
    try clear z51_0
    try clear z51_1
    try clear z51_2
    try clear z51_3
    try clear z51_4
    try clear z54_0
    try clear z54_1
    try clear z54_2
    try clear z54_3
    try clear z54_4
    try clear f14_0
    try clear f14_1
    try clear f14_2
    try clear f14_3
    try clear f14_4
    try clear f15_0
    try clear f15_1
    try clear f15_2
    try clear f15_3
    try clear f15_4
    try clear f23_0
    try clear f23_1
    try clear f23_2
    try clear f23_3
    try clear f23_4
    try clear f24_0
    try clear f24_1
    try clear f24_2
    try clear f24_3
    try clear f24_4
    try clear f29_0
    try clear f29_1
    try clear f29_2
    try clear f29_3
    try clear f29_4
    try clear f30_0
    try clear f30_1
    try clear f30_2
    try clear f30_3
    try clear f30_4
    try clear f32_0
    try clear f32_1
    try clear f32_2
    try clear f32_3
    try clear f32_4
    try clear f33_0
    try clear f33_1
    try clear f33_2
    try clear f33_3
    try clear f33_4
    try clear f35_0
    try clear f35_1
    try clear f35_2
    try clear f35_3
    try clear f35_4
    try clear f36_0
    try clear f36_1
    try clear f36_2
    try clear f36_3
    try clear f36_4
    try clear f42_0
    try clear f42_1
    try clear f42_2
    try clear f42_3
    try clear f42_4
    try clear f46_0
    try clear f46_1
    try clear f46_2
    try clear f46_3
    try clear f46_4
    try clear f47_0
    try clear f47_1
    try clear f47_2
    try clear f47_3
    try clear f47_4
    try clear f50_0
    try clear f50_1
    try clear f50_2
    try clear f50_3
    try clear f50_4
    try clear f51_0
    try clear f51_1
    try clear f51_2
    try clear f51_3
    try clear f51_4
    try clear f54_0
    try clear f54_1
    try clear f54_2
    try clear f54_3
    try clear f54_4
    try clear p2
    obtain ⟨kq, x59_47, rfl, HA, HJ47, BK272, BK273, HB⟩ := hcut
    cases kq with
    | zero => exact absurd HA.out (by simp [soft_Div.j1])
    | succ kj47 =>
     have H := HA.out
     clear HA
     simp only [soft_Div.j1] at H
     by_cases c55 : x59_47 = true
     ·subst c55
      replace H := zit H
      obtain ⟨t280, A56, H⟩ := zbs H
      try dsimp only at H
      simp only [Option.some.injEq, Prod.mk.injEq] at H
      obtain ⟨rfl, rfl⟩ := H
      go_wp2_with (first | ((with_reducible refine gtc 85 rfl ?_); refine zgL 67 Try.func85 (soft_zero.calls kj47 (t264 != t269) t280 _ A56.out) (h := ?_); rintro w' ⟨nd, rfl⟩))
      go_ret2
      exact ⟨zaE, zaB⟩
     replace c55 := Bool.eq_false_iff.mpr c55
     subst c55
     replace H := zif H
     obtain ⟨t281, A57, H⟩ := zbs H
     try dsimp only at H
     obtain ⟨ji58, hji58⟩ : ∃ j_ : Int, (wrap64 (64 - t281)) = j_ := ⟨_, rfl⟩
     replace H : (if 0 ≤ (ji58) then ((wide_U128_Div.f (shl .u64 t265 (ji58)) 0 t270).bind fun bt282 => ((round_Round.f kj47 (t264 != t269) bt282.1 bt282.2.1 (wrap64 ((wrap64 ((wrap64 (t266 - (ji58))) - 64)) - t271)) (bt282.2.2 != 0) a2).bind fun bt286 => (some (bt286.1, bt286.2)))) else (none)) = some (r1, r2) := by first | (rw [hji58] at H; exact H) | (simp only [hji58] at H ⊢; exact H)
     (try rw [hji58] at A57)
     have hji58w : (IntKind.i64.wrap (64 - t281)) = ji58 := (i64_w _).trans hji58
     by_cases c59 : 0 ≤ (ji58)
     ·rw [if_pos c59] at H
      have c59b0 := eq_true c59
      have c59b1 : decide (0 ≤ (ji58)) = true := decide_eq_true c59
      clear c59
      obtain ⟨ji60, hji60⟩ : ∃ j_ : Int, (shl .u64 t265 (ji58)) = j_ := ⟨_, rfl⟩
      replace H : ((wide_U128_Div.f (ji60) 0 t270).bind fun bt282 => ((round_Round.f kj47 (t264 != t269) bt282.1 bt282.2.1 (wrap64 ((wrap64 ((wrap64 (t266 - (ji58))) - 64)) - t271)) (bt282.2.2 != 0) a2).bind fun bt286 => (some (bt286.1, bt286.2)))) = some (r1, r2) := by first | (rw [hji60] at H; exact H) | (simp only [hji60] at H ⊢; exact H)
      (try rw [hji60] at A57)
      have hji60_ : (IntKind.u64.wrap (t265 * 2 ^ min (ji58).toNat 64)) = ji60 := hji60
      have hji60z : (ji58) ≤ 64 → (IntKind.u64.wrap (t265 * 2 ^ (ji58).toNat)) = ji60 := shl_small hji60
      obtain ⟨⟨t282, t283, t284⟩, A61, H⟩ := zbs H
      try dsimp only at H
      obtain ⟨⟨t286, t287⟩, A62, H⟩ := zbs H
      try dsimp only at H
      simp only [Option.some.injEq, Prod.mk.injEq] at H
      obtain ⟨rfl, rfl⟩ := H
      obtain ⟨_, _⟩ := zsy NB272_273
      obtain ⟨_, _, _, _, _, _, _, _, _, _⟩ := zq5 BK272
      try go_wp2_with (first | ((with_reducible refine gtc 103 rfl ?_); refine zgL 71 Try.func103 (wide_U128_Len.calls 0 t265 t281 _ A57.out) (h := ?_); rintro w65 hb; replace BK272 := zkb BK272 hb; replace BK273 := zkb BK273 hb; replace HB := zkB HB hb; (try clear hb)))
      replace BK272 := Aside0.mk (blk_drew BK272.out)
      replace BK273 := Aside0.mk (blk_drew BK273.out)
      replace HB := Aside0.mk (below_drew1 HB.out)
      refine start_ (n := 14) (S := fun w' => w'.cell? ⟨gb272, 0, none⟩ = some (.int .u64 t262) ∧ w'.cell? ⟨gb272, 1, none⟩ = some (.int .u8 t263) ∧ w'.cell? ⟨gb272, 2, none⟩ = some (.bool t264) ∧ w'.cell? ⟨gb272, 3, none⟩ = some (.int .u64 t265) ∧ w'.cell? ⟨gb272, 4, none⟩ = some (.int .i64 t266) ∧ w'.cell? ⟨gb273, 0, none⟩ = some (.int .u64 t267) ∧ w'.cell? ⟨gb273, 1, none⟩ = some (.int .u8 t268) ∧ w'.cell? ⟨gb273, 2, none⟩ = some (.bool t269) ∧ w'.cell? ⟨gb273, 3, none⟩ = some (.int .u64 t270) ∧ w'.cell? ⟨gb273, 4, none⟩ = some (.int .i64 t271)) (ds := []) #[false, false, false, false, false, false, false, false, false, false, false, false, false, false] (by kernel_rfl) rfl rfl (zk5 BK272 (ze5 BK273)) (fun hHeld => ?_); refine with_tabW soft_Div.tab15 soft_Div.bits15 (fun HT_ HW_ => ?_)
      generalize w65.drew = w66 at BK272 BK273 HB hHeld ⊢
      refine zpA 0 74 (h := ?_)
      refine zpA 2 76 (h := ?_)
      refine zpA 5 79 (h := ?_)
      refine ztA 1 75 (h := ?_)
      refine zpA 3 77 (h := ?_)
      refine zpA 4 78 (h := ?_)
      refine ztA 6 80 (h := ?_)
      refine join_ (σ := Nat) 2 #[true, true, true, true, true, true, true, true, true, true, true, true, false, false] (fun s_ => [(81, .tuple #[.agg #[.int .u64 t282, .int .u64 t283], .int .u64 t284]), (12, .pointer (some ⟨s_, 0, none⟩)), (73, .tuple #[.agg #[.int .u64 t282, .int .u64 t283], .int .u64 t284]), (82, .agg #[.int .u64 t282, .int .u64 t283]), (83, .int .u64 t284)]) (fun s_ w' => (w'.cell? ⟨gb272, 0, none⟩ = some (.int .u64 t262) ∧ w'.cell? ⟨gb272, 1, none⟩ = some (.int .u8 t263) ∧ w'.cell? ⟨gb272, 2, none⟩ = some (.bool t264) ∧ w'.cell? ⟨gb272, 3, none⟩ = some (.int .u64 t265) ∧ w'.cell? ⟨gb272, 4, none⟩ = some (.int .i64 t266) ∧ w'.cell? ⟨gb273, 0, none⟩ = some (.int .u64 t267) ∧ w'.cell? ⟨gb273, 1, none⟩ = some (.int .u8 t268) ∧ w'.cell? ⟨gb273, 2, none⟩ = some (.bool t269) ∧ w'.cell? ⟨gb273, 3, none⟩ = some (.int .u64 t270) ∧ w'.cell? ⟨gb273, 4, none⟩ = some (.int .i64 t271)) ∧ (w'.heap[gb272]? = some (.cells #[.int .u64 t262, .int .u8 t263, .bool t264, .int .u64 t265, .int .i64 t266] 88 (0, 0))) ∧ (w'.heap[gb273]? = some (.cells #[.int .u64 t267, .int .u8 t268, .bool t269, .int .u64 t270, .int .i64 t271] 88 (0, 0))) ∧ (w'.heap[s_]? = some (.cells #[.int .u64 0, .int .u64 0] 109 (0, 0))) ∧ (w.heap.size ≤ s_) ∧ (w.heap.size ≤ s_) ∧ (gb272 ≠ s_) ∧ (s_ ≠ gb272) ∧ (gb273 ≠ s_) ∧ (s_ ≠ gb273) ∧ (Below w.heap.size w w')) ?_ ?_
      rotate_left
      ·intro hCont
       refine two_ (i := 7) (j := 11) (Ni := some 81) (Nj := some 12) #[true, true, true, true, true, true, true, true, false, false, false, false, false, false] #[true, true, true, true, true, true, true, false, false, false, false, true, false, false] rfl rfl rfl rfl (two_of HT_.out (by kernel_rfl)) (by decide) (by decide) (fun K hK => ?_) (fun K hK => ?_)
       ·skip
        refine goes_ Try.func104 (by kernel_rfl) rfl #[.agg #[.int .u64 ji60, .int .u64 0], .int .u64 t270] (by rfl) rfl rfl (by (try simp only [List.map_toArray, List.map_cons, List.map_nil]); first | done | (simp only [hji60]; rfl) | rfl | (simp only [List.length_drop, List.length_take]; rfl)) ?_
        with_reducible refine (wide_U128_Div.calls ji60 0 t270 t282 t283 t284 _ A61.out).mono ?_
        rintro e w67 ⟨rfl, hb⟩
        refine ⟨_, rfl, ?_⟩
        replace BK272 := zkb BK272 hb
        replace BK273 := zkb BK273 hb
        replace HB := zkB HB hb
        (try clear hb)
        refine hK.out _ _ (zk5 BK272 (ze5 BK273)) (fun hHeld => ?_)
        clear hK K
        refine znA 81 (h := ?_)
        refine zpA 8 73 (h := ?_)
        refine zpA 9 82 (h := ?_)
        refine zpA 10 83 (h := ?_)
        refine zoA 11 12 (h := fun K hK => ?_)
        refine box_step ?hg (N := 12) ?hd (cs := #[.int .u64 0, .int .u64 0]) (t := 109) ?hr ?_; (case hd => rfl); (case hg => rfl); (case hr => first | (go_simp; done) | (go_simp; rfl))
        intro gb285 hg w68 hbox hb
        have GW285 := zkz HB hg
        have NB272_285 := zkl BK272 hg
        have NB285_272 := zkr BK272 hg
        have NB273_285 := zkl BK273 hg
        have NB285_273 := zkr BK273 hg
        replace BK272 := zkb BK272 hb
        replace BK273 := zkb BK273 hb
        replace HB := zkB HB hb
        have BK285 := Aside0.mk (hbox)
        clear hb hbox hg
        refine hK.out _ _ (zk5 BK272 (ze5 BK273)) (fun hHeld => ?_)
        clear hK K
        refine znA 12 (h := ?_)
        exact norm_ (by simp only [putAll, Act.put, List.setIfInBounds_toArray, List.set_cons_zero, List.set_cons_succ]) (hCont (gb285) _ ⟨hHeld, (zkq BK272), (zkq BK273), (zkq BK285), GW285.out, GW285.out, NB272_285.out, NB285_272.out, NB273_285.out, NB285_273.out, zaB⟩)
       skip
       refine box_step ?hg (N := 12) ?hd (cs := #[.int .u64 0, .int .u64 0]) (t := 109) ?hr ?_; (case hd => rfl); (case hg => rfl); (case hr => first | (go_simp; done) | (go_simp; rfl))
       intro gb285 hg w67 hbox hb
       have GW285 := zkz HB hg
       have NB272_285 := zkl BK272 hg
       have NB285_272 := zkr BK272 hg
       have NB273_285 := zkl BK273 hg
       have NB285_273 := zkr BK273 hg
       replace BK272 := zkb BK272 hb
       replace BK273 := zkb BK273 hb
       replace HB := zkB HB hb
       have BK285 := Aside0.mk (hbox)
       clear hb hbox hg
       refine hK.out _ _ (zk5 BK272 (ze5 BK273)) (fun hHeld => ?_)
       clear hK K
       refine znA 12 (h := ?_)
       refine zoA 7 81 (h := fun K hK => ?_)
       refine goes_ Try.func104 (by kernel_rfl) rfl #[.agg #[.int .u64 ji60, .int .u64 0], .int .u64 t270] (by rfl) rfl rfl (by (try simp only [List.map_toArray, List.map_cons, List.map_nil]); first | done | (simp only [hji60]; rfl) | rfl | (simp only [List.length_drop, List.length_take]; rfl)) ?_
       with_reducible refine (wide_U128_Div.calls ji60 0 t270 t282 t283 t284 _ A61.out).mono ?_
       rintro e w68 ⟨rfl, hb⟩
       refine ⟨_, rfl, ?_⟩
       replace BK272 := zkb BK272 hb
       replace BK273 := zkb BK273 hb
       replace BK285 := zkb BK285 hb
       replace HB := zkB HB hb
       (try clear hb)
       refine hK.out _ _ (zk5 BK272 (ze5 BK273)) (fun hHeld => ?_)
       clear hK K
       refine znA 81 (h := ?_)
       refine zpA 8 73 (h := ?_)
       refine zpA 9 82 (h := ?_)
       refine zpA 10 83 (h := ?_)
       exact norm_ (by simp only [putAll, Act.put, List.setIfInBounds_toArray, List.set_cons_zero, List.set_cons_succ]) (hCont (gb285) _ ⟨hHeld, (zkq BK272), (zkq BK273), (zkq BK285), GW285.out, GW285.out, NB272_285.out, NB285_272.out, NB273_285.out, NB285_273.out, zaB⟩)
      rintro gb285 w69 ⟨hS_, h0_, h1_, h2_, h3_, h4_, h5_, h6_, h7_, h8_, h9_⟩
      have n0_ : Aside0 (w69.heap[gb272]? = some (.cells #[.int .u64 t262, .int .u8 t263, .bool t264, .int .u64 t265, .int .i64 t266] 88 (0, 0))) := ⟨h0_⟩
      have n1_ : Aside0 (w69.heap[gb273]? = some (.cells #[.int .u64 t267, .int .u8 t268, .bool t269, .int .u64 t270, .int .i64 t271] 88 (0, 0))) := ⟨h1_⟩
      have n2_ : Aside0 (w69.heap[gb285]? = some (.cells #[.int .u64 0, .int .u64 0] 109 (0, 0))) := ⟨h2_⟩
      have n3_ : Aside0 (w.heap.size ≤ gb285) := ⟨h3_⟩
      have n4_ : Aside0 (w.heap.size ≤ gb285) := ⟨h4_⟩
      have n5_ : Aside0 (gb272 ≠ gb285) := ⟨h5_⟩
      have n6_ : Aside0 (gb285 ≠ gb272) := ⟨h6_⟩
      have n7_ : Aside0 (gb273 ≠ gb285) := ⟨h7_⟩
      have n8_ : Aside0 (gb285 ≠ gb273) := ⟨h8_⟩
      have n9_ : Aside0 (Below w.heap.size w w69) := ⟨h9_⟩
      clear BK272
      clear BK273
      clear HB
      clear h0_ h1_ h2_ h3_ h4_ h5_ h6_ h7_ h8_ h9_
      have BK272 := n0_
      have BK273 := n1_
      have BK285 := n2_
      have GW285 := n3_
      have GW285 := n4_
      have NB272_285 := n5_
      have NB285_272 := n6_
      have NB273_285 := n7_
      have NB285_273 := n8_
      have HB := n9_
      clear n0_ n1_ n2_ n3_ n4_ n5_ n6_ n7_ n8_ n9_
      have hHeld : w69.cell? ⟨gb272, 0, none⟩ = some (.int .u64 t262) ∧ w69.cell? ⟨gb272, 1, none⟩ = some (.int .u8 t263) ∧ w69.cell? ⟨gb272, 2, none⟩ = some (.bool t264) ∧ w69.cell? ⟨gb272, 3, none⟩ = some (.int .u64 t265) ∧ w69.cell? ⟨gb272, 4, none⟩ = some (.int .i64 t266) ∧ w69.cell? ⟨gb273, 0, none⟩ = some (.int .u64 t267) ∧ w69.cell? ⟨gb273, 1, none⟩ = some (.int .u8 t268) ∧ w69.cell? ⟨gb273, 2, none⟩ = some (.bool t269) ∧ w69.cell? ⟨gb273, 3, none⟩ = some (.int .u64 t270) ∧ w69.cell? ⟨gb273, 4, none⟩ = some (.int .i64 t271) := hS_
      refine norm_ (a' := ?_) ?_ ?_
      rotate_left
      ·simp only [putAll, Act.put, List.setIfInBounds_toArray, List.set_cons_zero, List.set_cons_succ]
       rfl
      refine one_ (i := 12) (N := none) #[true, true, true, true, true, true, true, true, true, true, true, true, true, false] rfl rfl (one_of HT_.out (by kernel_rfl)) (by decide) (fun K hK => ?_)
      have hs70 := zc0 BK285
      have hfs70 := blk_frozen BK285.out 0
      have hns70_0 := NB272_285.out
      have hns70_1 := NB273_285.out
      have hms70_0 := NB285_272.out
      have hms70_1 := NB285_273.out
      have hs71 := zc1 BK285
      have hfs71 := blk_frozen BK285.out 1
      have hns71_0 := NB272_285.out
      have hns71_1 := NB273_285.out
      have hms71_0 := NB285_272.out
      have hms71_1 := NB285_273.out
      refine skip_ (w1 := ?_) (by rfl) rfl ?_ ?_
      rotate_left
      ·go_simp
       rfl
      refine hK.out _ _ ⟨(zff NB272_285 (zff NB272_285 hHeld.1)), (zff NB272_285 (zff NB272_285 hHeld.2.1)), (zff NB272_285 (zff NB272_285 hHeld.2.2.1)), (zff NB272_285 (zff NB272_285 hHeld.2.2.2.1)), (zff NB272_285 (zff NB272_285 hHeld.2.2.2.2.1)), (zff NB273_285 (zff NB273_285 hHeld.2.2.2.2.2.1)), (zff NB273_285 (zff NB273_285 hHeld.2.2.2.2.2.2.1)), (zff NB273_285 (zff NB273_285 hHeld.2.2.2.2.2.2.2.1)), (zff NB273_285 (zff NB273_285 hHeld.2.2.2.2.2.2.2.2.1)), (zff NB273_285 (zff NB273_285 hHeld.2.2.2.2.2.2.2.2.2))⟩ (fun hHeld => ?_)
      clear hK K
      refine zpA 13 13 (h := ?_)
      refine done_ (done_of HT_.out (by kernel_rfl)) ?_
      obtain ⟨_, _⟩ := zsy NB285_272
      obtain ⟨_, _⟩ := zsy NB285_273
      obtain ⟨_, _, _, _⟩ := zq2 BK285
      obtain ⟨_, _, _, _, _, _, _, _, _, _⟩ := zq5 BK272
      obtain ⟨_, _, _, _, _, _, _, _, _, _⟩ := zq5 BK273
      try go_wp2_with (first | ((with_reducible refine gtc 99 rfl ?_); refine goesL_ (some 97) rfl rfl Try.func99 (by kernel_rfl) rfl #[.bool (t264 != t269), .agg #[.int .u64 t282, .int .u64 t283], .int .i64 (wrap64 ((wrap64 ((wrap64 (t266 - (ji58))) - 64)) - t271)), .bool (t284 != 0), .int .u8 a2] rfl (by (try simp only [List.map_toArray, List.map_cons, List.map_nil]); first | done | (simp only [hji58]; rfl) | rfl | (simp only [List.length_drop, List.length_take]; rfl)) ?_; (with_reducible refine (round_Round.calls kj47 (t264 != t269) t282 t283 (wrap64 ((wrap64 ((wrap64 (t266 - (ji58))) - 64)) - t271)) (t284 != 0) a2 t286 t287 _ A62.out).mono ?_); rintro e w77 ⟨rfl, hb⟩; refine ⟨_, rfl, ?_⟩; replace BK272 := Aside0.mk (blk_below (zkf (zkf BK272.out NB272_285.out _) NB272_285.out _) hb); replace BK273 := Aside0.mk (blk_below (zkf (zkf BK273.out NB273_285.out _) NB273_285.out _) hb); replace BK285 := Aside0.mk (blk_below (o := .cells #[.int .u64 t282, .int .u64 t283] 109 (0, 0)) (blk_put (cs := #[.int .u64 t282, .int .u64 0]) (blk_put BK285.out 0 _ rfl) 1 _ rfl) hb); replace HB := Aside0.mk (below_step (below_set (below_set HB.out GW285.out) GW285.out) hb); (try clear hb)))
      go_ret2
      exact ⟨by first | rfl | (simp [errW_none, errW_some] <;> rfl) | (simp only [← hji58, ← hji60]; first | rfl | (simp [errW_none, errW_some] <;> rfl)) | (simp [*, errW_none, errW_some] <;> rfl), zaB⟩
     rw [if_neg c59] at H
     exact absurd H (by simp)
theorem span_above_1.calls (k : Nat) (a0 : Int) (a1 : Int) (a2 : Int) (r : Int) (w : World) (h : span_above_1.f k a0 a1 a2 = some r) :
  Calls Try.prog 173 #[.int .u64 a0, .int .u64 a1, .int .u8 a2] w fun e w' => e = .returned (.int .u64 r) ∧ Below w.heap.size w w' := by
 have HB := Aside0.mk (Below.refl w.heap.size w)
 have H : ((pattern_Class.f k a1).bind fun t927 => ((span_zero.f k a0).bind fun t928 => (if t928 = true then (span_above_1.j0 k a0 a1 a2 (t927 == 3) t928) else (if t927 = 3 then ((pattern_Class.f k a0).bind fun t929 => (span_above_1.j0 k a0 a1 a2 (t927 == 3) (t929 != 3))) else (span_above_1.j0 k a0 a1 a2 (t927 == 3) false))))) = some r := h
 clear h
 obtain ⟨t927, A4, H⟩ := zbs H
 try dsimp only at H
 obtain ⟨t928, A5, H⟩ := zbs H
 try dsimp only at H
 have HC6 := Aside0.mk H
 clear H
 go_enter Try.func173, Try.ntmps173
 go_upto_if 13 with (first | ((with_reducible refine gtc 24 rfl ?_); refine zgL 11 Try.func24 (pattern_Class.calls k a1 t927 _ A4.out) (h := ?_); rintro w' ⟨nd, rfl⟩) | ((with_reducible refine gtc 138 rfl ?_); refine zgL 15 Try.func138 (span_zero.calls k a0 t928 _ A5.out) (h := ?_); rintro w' ⟨nd, rfl⟩))
 (try simp only [Act.put, List.setIfInBounds_toArray, List.set_cons_zero, List.set_cons_succ])
 go_cut [7, 13] (fun v7 v13 wc => ∃ (kq : Nat) (x13_5 : Bool), v13 = .bool x13_5 ∧ v7 = .bool (t927 == 3) ∧ Aside0 (span_above_1.j0 kq a0 a1 a2 (t927 == 3) x13_5 = some r) ∧ Aside0 (kq ≤ k) ∧ Aside0 (Below w.heap.size w wc))
 case first =>
  have H := HC6.out
  clear HC6
  by_cases c7 : t928 = true
  ·subst c7
   replace H := zit H
   have H' := Aside0.mk H
   clear H
   go_wp2
   go_meet
   case rel => exact ⟨_, (true), zrl, (by first | rfl | (rw [c8b0]) | (rw [c12b0]) | (simp [*]; done)), H', ⟨zle⟩, ⟨zaB⟩⟩
  replace c7 := Bool.eq_false_iff.mpr c7
  subst c7
  replace H := zif H
  by_cases c8 : t927 = 3
  ·rw [if_pos c8] at H
   have c8b0 : (t927 == 3) = true := beq_iff_eq.mpr c8
   have c8b1 : (t927 != 3) = false := bne_eq_false_iff_eq.mpr c8
   clear c8
   (first | rw [c8b0] | (simp only [i64_w, i32_w]; rw [c8b0]) | skip)
   obtain ⟨t929, A9, H⟩ := zbs H
   try dsimp only at H
   have H' := Aside0.mk H
   clear H
   go_wp2_with (first | (go_at_call 24; (with_reducible refine (pattern_Class.calls k a0 t929 _ A9.out).mono ?_); rintro e w' ⟨rfl, ⟨nd, rfl⟩⟩))
   go_meet
   case rel => exact ⟨_, ((t929 != 3)), zrl, (by first | rfl | (rw [c8b0]) | (rw [c12b0]) | (simp [*]; done)), H', ⟨zle⟩, ⟨zaB⟩⟩
  rw [if_neg c8] at H
  have c8b0 : (t927 == 3) = false := beq_eq_false_iff_ne.mpr c8
  have c8b1 : (t927 != 3) = true := bne_iff_ne.mpr c8
  (first | rw [c8b0] | (simp only [i64_w, i32_w]; rw [c8b0]) | skip)
  have H' := Aside0.mk H
  clear H
  go_wp2
  go_meet
  case rel => exact ⟨_, (false), zrl, (by first | rfl | (rw [c8b0]) | (rw [c12b0]) | (simp [*]; done)), H', ⟨zle⟩, ⟨zaB⟩⟩
 case rest =>
  clear HC6
  try clear c1
  try clear c2
  try clear p2
  try clear c7
  try clear c8
  try clear c8b0
  try clear c8b1
  obtain ⟨kq, x13_5, rfl, rfl, HA, HJ5, HB⟩ := hcut
  cases kq with
  | zero => exact absurd HA.out (by simp [span_above_1.j0])
  | succ kj5 =>
   have H := HA.out
   clear HA
   simp only [span_above_1.j0] at H
   by_cases c10 : x13_5 = true
   ·subst c10
    replace H := zit H
    obtain rfl := Option.some.inj H
    go_wp2
    go_ret
    exact ⟨zaE, zaB⟩
   replace c10 := Bool.eq_false_iff.mpr c10
   subst c10
   replace H := zif H
   have HC11 := Aside0.mk H
   clear H
   go_upto_if 22 with (fail)
   go_cut [7, 22] (fun v7 v22 wc => ∃ (kq : Nat) (x22_10 : Bool), v22 = .bool x22_10 ∧ v7 = .bool (t927 == 3) ∧ Aside0 (span_above_1.j1 kq a0 a1 a2 x22_10 = some r) ∧ Aside0 (kq ≤ kj5) ∧ Aside0 (Below w.heap.size w wc))
   case first =>
    have H := HC11.out
    clear HC11
    by_cases c12 : (t927 == 3) = true
    ·rw [if_pos c12] at H
     have c12b0 : (t927 == 3) = true := c12
     (try (have c12b1 : decide (t927 = 3) = true := by simpa using c12))
     (try (have c12b2 : (t927 == 3) = true := by simpa using c12))
     clear c12
     (first | rw [c12b0] | (simp only [i64_w, i32_w]; rw [c12b0]) | skip)
     have H' := Aside0.mk H
     clear H
     go_wp2
     go_meet
     case rel => exact ⟨_, ((t927 == 3)), zrl, (by first | rfl | (rw [c8b0]) | (rw [c12b0]) | (simp [*]; done)), H', ⟨by have := HJ5.out; first | omega | exact Nat.le_refl _⟩, ⟨zaB⟩⟩
    rw [if_neg c12] at H
    have c12b0 : (t927 == 3) = false := by simpa using c12
    (try (have c12b1 : decide (t927 = 3) = false := by simpa using c12))
    (try (have c12b2 : (t927 == 3) = false := by simpa using c12))
    (try (have c12b3 : ¬ (t927 = 3) := by simpa using c12))
    clear c12
    (first | rw [c12b0] | (simp only [i64_w, i32_w]; rw [c12b0]) | skip)
    obtain ⟨t930, A13, H⟩ := zbs H
    try dsimp only at H
    have H' := Aside0.mk H
    clear H
    go_wp2_with (first | ((with_reducible refine gtc 138 rfl ?_); refine zgL 25 Try.func138 (span_zero.calls kj5 a1 t930 _ A13.out) (h := ?_); rintro w' ⟨nd, rfl⟩))
    go_meet
    case rel => exact ⟨_, (t930), zrl, (by first | rfl | (rw [c8b0]) | (rw [c12b0]) | (simp [*]; done)), H', ⟨by have := HJ5.out; first | omega | exact Nat.le_refl _⟩, ⟨zaB⟩⟩
   case rest =>
    clear HC11
    try clear c1
    try clear c2
    try clear p2
    try clear c7
    try clear c8
    try clear c8b0
    try clear c8b1
    try clear c10
    try clear c12
    try clear c12b0
    try clear c12b1
    try clear c12b2
    try clear c13
    try clear p2
    obtain ⟨kq, x22_10, rfl, rfl, HA, HJ10, HB⟩ := hcut
    cases kq with
    | zero => exact absurd HA.out (by simp [span_above_1.j1])
    | succ kj10 =>
     have H := HA.out
     clear HA
     simp only [span_above_1.j1] at H
     by_cases c14 : x22_10 = true
     ·subst c14
      replace H := zit H
      obtain ⟨t931, A15, H⟩ := zbs H
      try dsimp only at H
      obtain rfl := Option.some.inj H
      go_wp2_with (first | ((with_reducible refine gtc 79 rfl ?_); refine zgL 29 Try.func79 (pattern_Inf.calls kj10 ((a0 / 9223372036854775808) == 1) t931 _ A15.out) (h := ?_); rintro w' ⟨nd, rfl⟩))
      go_ret
      exact ⟨zaE, zaB⟩
     replace c14 := Bool.eq_false_iff.mpr c14
     subst c14
     replace H := zif H
     obtain ⟨⟨t932, t933⟩, A16, H⟩ := zbs H
     try dsimp only at H
     obtain rfl := Option.some.inj H
     go_wp2_with (first | ((with_reducible refine gtc 27 rfl ?_); refine zgL 34 Try.func27 (soft_Div.calls kj10 a0 a1 a2 t932 t933 _ A16.out) (h := ?_); rintro w17 hb; replace HB := Aside0.mk (below_step zaB hb); (try clear hb)))
     go_ret
     exact ⟨zaE, zaB⟩
def span_above_corners.T8 : Bool × List (List Nat × List Nat) := (true, [([], []), ([], []), ([], []), ([], []), ([1, 2, 3], [1, 2, 3]), ([], []), ([], []), ([], []), ([5, 6, 7, 4], [5, 6, 7]), ([4, 8, 8], [4, 8]), ([0, 9], [0, 9]), ([10, 9], [10]), ([11, 11, 0, 1, 2, 3, 4, 5, 6, 7, 8, 9, 10, 11], [11])])
def span_above_corners.B8 : List Nat := [0, 0, 0, 0, 14, 0, 0, 0, 254, 510, 1023, 2047, 4095]
theorem span_above_corners.tab8 : rtab .any (opsOf Try.f136 8) = span_above_corners.T8 := by kernel_rfl
theorem span_above_corners.bits8 : waitsOk span_above_corners.T8.2 span_above_corners.B8 = true := by kernel_rfl
theorem span_above_corners.goes (k : Nat) (a0_0 : Bool) (a0_1 : Int) (a0_2 : Int) (a1_0 : Bool) (a1_1 : Int) (a1_2 : Int) (a2 : Int) (r1 : Bool) (r2 : Int) (r3 : Int) (w : World) (h : span_above_corners.f k a0_0 a0_1 a0_2 a1_0 a1_1 a1_2 a2 = some (r1, r2, r3)) :
  Calls Try.prog 136 #[.agg #[.bool a0_0, .int .u64 a0_1, .int .u64 a0_2], .agg #[.bool a1_0, .int .u64 a1_1, .int .u64 a1_2], .func (.func 173) #[] #[]] w fun e w' => e = .returned (.agg #[.bool r1, .int .u64 r2, .int .u64 r3]) ∧ Below w.heap.size w w' := by
 have hu_ := Try.underlying43
 have HB := Aside0.mk (Below.refl w.heap.size w)
 have H : ((span_none.f).bind fun bt933 => ((some (([a0_1, a0_2] : List Int) : List Int)).bind fun y937 => (span_above_corners.l0 k y937 (y937.length : Int) 0 a1_0 a1_1 a1_2 bt933.1 bt933.2.1 bt933.2.2))) = some (r1, r2, r3) := h
 clear h
 obtain ⟨⟨t933, t934, t935⟩, A4, H⟩ := zbs H
 try dsimp only at H
 obtain ⟨y937, hy937⟩ : ∃ y_ : List Int, y_ = (([a0_1, a0_2] : List Int)) := ⟨_, rfl⟩
 replace H : (span_above_corners.l0 k y937 (y937.length : Int) 0 a1_0 a1_1 a1_2 t933 t934 t935) = some (r1, r2, r3) := by first | (rw [hy937]; with_reducible exact H) | (have H2_ := (Option.bind_some _ _).symm.trans H; rw [hy937]; with_reducible exact H2_) | (have H2_ := (Option.bind_some _ _).symm.trans H; with_reducible exact H2_) | with_reducible exact H | (rw [hy937]; exact H) | exact H
 have Ny937 := Aside0.mk hy937
 clear hy937
 have H' := Aside0.mk H
 clear H
 go_enter Try.func136, Try.ntmps136
 go_wp2_with (first | ((with_reducible refine gtd 3 rfl ?_); refine zbx 3 #[.bool a0_0, .int .u64 a0_1, .int .u64 a0_2] 43 (h := ?_); intro gb930 hg w5 hbox hb; have GW930 := zkZ hg (zaB (p := Below w.heap.size w _)); replace HB := Aside0.mk (below_step zaB hb); have BK930 := Aside0.mk (hbox); clear hb hbox hg) | ((with_reducible refine gtd 4 rfl ?_); refine zbx 4 #[.bool a1_0, .int .u64 a1_1, .int .u64 a1_2] 43 (h := ?_); intro gb931 hg w6 hbox hb; have GW931 := zkz HB hg; have NB930_931 := zkl BK930 hg; have NB931_930 := zkr BK930 hg; replace BK930 := zkb BK930 hb; replace HB := zkB HB hb; have BK931 := Aside0.mk (hbox); clear hb hbox hg) | ((with_reducible refine gtd 6 rfl ?_); refine zbx 6 #[.bool false, .int .u64 0, .int .u64 0] 43 (h := ?_); intro gb932 hg w7 hbox hb; have GW932 := zkz HB hg; have NB930_932 := zkl BK930 hg; have NB932_930 := zkr BK930 hg; have NB931_932 := zkl BK931 hg; have NB932_931 := zkr BK931 hg; replace BK930 := zkb BK930 hb; replace BK931 := zkb BK931 hb; replace HB := zkB HB hb; have BK932 := Aside0.mk (hbox); clear hb hbox hg) | ((with_reducible refine gtc 118 rfl ?_); refine zgL 12 Try.func118 (span_none.calls  t933 t934 t935 _ A4.out) (h := ?_); rintro w8 hb; replace BK930 := zkb BK930 hb; replace BK931 := zkb BK931 hb; replace BK932 := zkb BK932 hb; replace HB := zkB HB hb; (try clear hb)) | ((with_reducible refine gtd 7 rfl ?_); refine zbx 7 #[.bool false, .int .u64 0, .int .u64 0] 43 (h := ?_); intro gb936 hg w9 hbox hb; have GW936 := zkz HB hg; have NB930_936 := zkl BK930 hg; have NB936_930 := zkr BK930 hg; have NB931_936 := zkl BK931 hg; have NB936_931 := zkr BK931 hg; have NB932_936 := zkl BK932 hg; have NB936_932 := zkr BK932 hg; replace BK930 := zkb BK930 hb; replace BK931 := zkb BK931 hb; replace BK932 := zkb BK932 hb; replace HB := zkB HB hb; have BK936 := Aside0.mk (hbox); clear hb hbox hg; obtain ⟨_, _⟩ := zsy NB936_930; obtain ⟨_, _⟩ := zsy NB936_931; obtain ⟨_, _⟩ := zsy NB936_932; obtain ⟨z13_0, z13_1, z13_2, f13_0, f13_1, f13_2⟩ := zq3 BK936; obtain ⟨_, _⟩ := zsy NB930_931; obtain ⟨_, _⟩ := zsy NB930_932; obtain ⟨z16_0, z16_1, z16_2, f16_0, f16_1, f16_2⟩ := zq3 BK930) | ((with_reducible refine gtd 17 rfl ?_); refine Kd.R_lit (Kd.int .u64) _ 23 ?hg (N := 17) ?hd (xs := ([a0_1, a0_2] : List Int)) (inner := [.int .u64 a0_1, .int .u64 a0_2]) (ok := fun _ => True) (okp := fun _ => True) ?hr ?hp (fun _ hk => hk) trivial (Below.refl _ _) (Nat.le_refl _) (by simp) ?_; (case hd => rfl); (case hg => rfl); (case hr => first | (go_simp; done) | (go_simp; rfl)); (case hp => exact (Reps.one (show Kd.M (Kd.int .u64) _ _ _ a0_1 [.int .u64 a0_1] from rfl) (Reps.one (show Kd.M (Kd.int .u64) _ _ _ a0_2 [.int .u64 a0_2] from rfl) (Reps.none _ _)))); intro v938 w17 ho18 hb hg_ hnew_; clear hg_ hnew_; (first | rw [← Ny937.out] at ho18 | (simp only [Int.reduceToNat] at ho18; rw [← Ny937.out] at ho18)); have HO939 := Aside0.mk (Kd.R_lower ho18 (below_size zaB)); replace BK930 := Aside0.mk (blk_below (zkf (zkf (zkf BK930.out NB930_936.out _) NB930_936.out _) NB930_936.out _) hb); replace BK931 := Aside0.mk (blk_below (zkf (zkf (zkf BK931.out NB931_936.out _) NB931_936.out _) NB931_936.out _) hb); replace BK932 := Aside0.mk (blk_below (zkf (zkf (zkf BK932.out NB932_936.out _) NB932_936.out _) NB932_936.out _) hb); replace BK936 := Aside0.mk (blk_below (o := .cells #[.bool t933, .int .u64 t934, .int .u64 t935] 43 (0, 0)) (blk_put (cs := #[.bool t933, .int .u64 t934, .int .u64 0]) (blk_put (cs := #[.bool t933, .int .u64 0, .int .u64 0]) (blk_put BK936.out 0 _ rfl) 1 _ rfl) 2 _ rfl) hb); replace HB := Aside0.mk (below_step (below_set (below_set (below_set HB.out GW936.out) GW936.out) GW936.out) hb); clear hb ho18; obtain ⟨Ao19, co19, eo19⟩ := Kd.R_slice HO939.out; subst eo19))
 (try simp only [Act.put, List.setIfInBounds_toArray, List.set_cons_zero, List.set_cons_succ])
 (try simp only [Act.put, List.setIfInBounds_toArray, List.set_cons_zero, List.set_cons_succ])
 go_loopg [19] k (fun kq v19 w' => ∃ (x19_1 : Int) (x937000_1 : Bool) (x937001_1 : Int) (x937002_1 : Int), v19 = .int .i64 x19_1 ∧ Aside0 (span_above_corners.l0 kq y937 (y937.length : Int) x19_1 a1_0 a1_1 a1_2 x937000_1 x937001_1 x937002_1 = some (r1, r2, r3)) ∧ Aside0 (kq ≤ k) ∧ Aside0 (Kd.R (Kd.int .u64) 23 w' w.heap.size (fun _ => True) (.slice Ao19 y937.length co19) y937) ∧ Aside0 (w'.heap[gb930]? = some (.cells #[.bool a0_0, .int .u64 a0_1, .int .u64 a0_2] 43 (0, 0))) ∧ Aside0 (w'.heap[gb931]? = some (.cells #[.bool a1_0, .int .u64 a1_1, .int .u64 a1_2] 43 (0, 0))) ∧ Aside0 (w'.heap[gb932]? = some (.cells #[.bool false, .int .u64 0, .int .u64 0] 43 (0, 0))) ∧ Aside0 (w'.heap[gb936]? = some (.cells #[.bool x937000_1, .int .u64 x937001_1, .int .u64 x937002_1] 43 (0, 0))) ∧ Aside0 (Below w.heap.size w w'))
 case atStart => exact ⟨(0), (t933), (t934), (t935), zrl, H', ⟨Nat.le_refl _⟩, ⟨by (with_reducible repeat (first | apply Kd.R_alloc | apply Kd.R_drewN | apply Kd.R_drew)); exact HO939.out⟩, ⟨zkq BK930⟩, ⟨zkq BK931⟩, ⟨zkq BK932⟩, ⟨zkq BK936⟩, ⟨zaB⟩⟩
 case round =>
  clear H'
  try clear c1
  try clear p2
  try clear c10
  try clear c11
  try clear c12
  try clear c13
  try clear c14
  try clear c15
  try clear z13_0
  try clear z13_1
  try clear z13_2
  try clear z16_0
  try clear z16_1
  try clear z16_2
  try clear f13_0
  try clear f13_1
  try clear f13_2
  try clear f16_0
  try clear f16_1
  try clear f16_2
  obtain ⟨x19_1, x937000_1, x937001_1, x937002_1, rfl, HA, HK1, HO_17, BK930, BK931, BK932, BK936, HB⟩ := hrel
  cases gk with
  | zero => exact absurd HA.out (by simp [span_above_corners.l0])
  | succ k1 =>
   have H := HA.out
   clear HA
   simp only [span_above_corners.l0] at H
   by_cases c20 : x19_1 < (y937.length : Int)
   ·rw [if_pos c20] at H
    have c20b0 : decide (x19_1 < (y937.length : Int)) = true := decide_eq_true c20
    clear c20
    by_cases c21 : 0 ≤ x19_1
    ·rw [if_pos c21] at H
     have c21b0 : decide (0 ≤ x19_1) = true := decide_eq_true c21
     clear c21
     by_cases c22 : x19_1 < (y937.length : Int)
     ·rw [if_pos c22] at H
      have c22b0 : decide (x19_1 < (y937.length : Int)) = true := decide_eq_true c22
      clear c22
      obtain ⟨y941, hy941⟩ : ∃ y_ : List Int, y_ = (([a1_1, a1_2] : List Int)) := ⟨_, rfl⟩
      replace H : (span_above_corners.l1 k1 (rd y937 x19_1) y937 (y937.length : Int) x19_1 y941 (y941.length : Int) 0 a1_0 a1_1 a1_2 x937000_1 x937001_1 x937002_1) = some (r1, r2, r3) := by first | (rw [hy941]; with_reducible exact H) | (have H2_ := (Option.bind_some _ _).symm.trans H; rw [hy941]; with_reducible exact H2_) | (have H2_ := (Option.bind_some _ _).symm.trans H; with_reducible exact H2_) | with_reducible exact H | (rw [hy941]; exact H) | exact H
      have Ny941 := Aside0.mk hy941
      clear hy941
      have H' := Aside0.mk H
      clear H
      have p940 : 0 ≤ (x19_1 : Int) := of_decide_eq_true (by first | (with_reducible assumption) | assumption)
      have q940 : x19_1 < (y937.length : Int) := of_decide_eq_true (by first | (with_reducible assumption) | assumption)
      obtain ⟨ad940, e940, hx940_0⟩ := Kd.at_int (Kd.R_reads' HO_17.out).2.2 x19_1 p940 q940
      cases e940
      replace p940 := eq_true p940
      replace q940 := eq_true q940
      obtain ⟨_, _⟩ := zsy NB931_930
      obtain ⟨_, _⟩ := zsy NB931_932
      obtain ⟨_, _⟩ := zsy NB931_936
      obtain ⟨z26_0, z26_1, z26_2, f26_0, f26_1, f26_2⟩ := zq3 BK931
      go_wp2_with (first | ((with_reducible refine gtd 27 rfl ?_); refine Kd.R_lit (Kd.int .u64) _ 23 ?hg (N := 27) ?hd (xs := ([a1_1, a1_2] : List Int)) (inner := [.int .u64 a1_1, .int .u64 a1_2]) (ok := fun _ => True) (okp := fun _ => True) ?hr ?hp (fun _ hk => hk) trivial (Below.refl _ _) (Nat.le_refl _) (by simp) ?_; (case hd => rfl); (case hg => rfl); (case hr => first | (go_simp; done) | (go_simp; rfl)); (case hp => exact (Reps.one (show Kd.M (Kd.int .u64) _ _ _ a1_1 [.int .u64 a1_1] from rfl) (Reps.one (show Kd.M (Kd.int .u64) _ _ _ a1_2 [.int .u64 a1_2] from rfl) (Reps.none _ _)))); intro v942 w27 ho28 hb hg_ hnew_; clear hg_ hnew_; (first | rw [← Ny941.out] at ho28 | (simp only [Int.reduceToNat] at ho28; rw [← Ny941.out] at ho28)); have HO943 := Aside0.mk (Kd.R_lower (Kd.R_new' ho28 (Kd.R_lt (by (with_reducible repeat (first | apply Kd.R_alloc | apply Kd.R_drewN | apply Kd.R_drew)); exact HO_17.out))) (below_size zaB)); replace HO_17 := Aside0.mk (Kd.R_elder' (by (with_reducible repeat (first | apply Kd.R_alloc | apply Kd.R_drewN | apply Kd.R_drew)); exact HO_17.out) (Kd.R_base ho28) hb); replace BK930 := zkb BK930 hb; replace BK931 := zkb BK931 hb; replace BK932 := zkb BK932 hb; replace BK936 := zkb BK936 hb; replace HB := zkB HB hb; clear hb ho28; obtain ⟨Ao29, co29, eo29⟩ := Kd.R_slice HO943.out; subst eo29))
      (try simp only [Act.put, List.setIfInBounds_toArray, List.set_cons_zero, List.set_cons_succ])
      (try simp only [Act.put, List.setIfInBounds_toArray, List.set_cons_zero, List.set_cons_succ])
      go_loopg [29] k1 (fun kq v29 w' => ∃ (x29_2 : Int) (x937000_2 : Bool) (x937001_2 : Int) (x937002_2 : Int), v29 = .int .i64 x29_2 ∧ Aside0 (span_above_corners.l1 kq (rd y937 x19_1) y937 (y937.length : Int) x19_1 y941 (y941.length : Int) x29_2 a1_0 a1_1 a1_2 x937000_2 x937001_2 x937002_2 = some (r1, r2, r3)) ∧ Aside0 (kq ≤ k1) ∧ Aside0 (Kd.R (Kd.int .u64) 23 w' w.heap.size (fun k_ => some k_ ≠ ((.slice Ao29 y941.length co29) : Value).ownBlock) (.slice (some ad940) y937.length co19) y937) ∧ Aside0 (Kd.R (Kd.int .u64) 23 w' w.heap.size (fun k_ => some k_ ≠ ((.slice (some ad940) y937.length co19) : Value).ownBlock) (.slice Ao29 y941.length co29) y941) ∧ Aside0 (w'.heap[gb930]? = some (.cells #[.bool a0_0, .int .u64 a0_1, .int .u64 a0_2] 43 (0, 0))) ∧ Aside0 (w'.heap[gb931]? = some (.cells #[.bool a1_0, .int .u64 a1_1, .int .u64 a1_2] 43 (0, 0))) ∧ Aside0 (w'.heap[gb932]? = some (.cells #[.bool false, .int .u64 0, .int .u64 0] 43 (0, 0))) ∧ Aside0 (w'.heap[gb936]? = some (.cells #[.bool x937000_2, .int .u64 x937001_2, .int .u64 x937002_2] 43 (0, 0))) ∧ Aside0 (Below w.heap.size w w'))
      case atStart => exact ⟨(0), (x937000_1), (x937001_1), (x937002_1), zrl, H', ⟨Nat.le_refl _⟩, ⟨by (with_reducible repeat (first | apply Kd.R_alloc | apply Kd.R_drewN | apply Kd.R_drew)); exact Kd.R_mono HO_17.out (fun _ hk => hk.2)⟩, ⟨by (with_reducible repeat (first | apply Kd.R_alloc | apply Kd.R_drewN | apply Kd.R_drew)); exact Kd.R_mono HO943.out (fun _ hk => hk.2)⟩, ⟨zkq BK930⟩, ⟨zkq BK931⟩, ⟨zkq BK932⟩, ⟨zkq BK936⟩, ⟨zaB⟩⟩
      case round =>
       clear H'
       try clear c1
       try clear c2
       try clear p2
       try clear p9
       try clear q9
       try clear hx9
       try clear c10
       try clear c11
       try clear c12
       try clear c13
       try clear c14
       try clear c15
       try clear c20
       try clear c20b0
       try clear c21
       try clear c21b0
       try clear c22
       try clear c22b0
       try clear c23
       try clear c24
       try clear c25
       try clear z13_0
       try clear z13_1
       try clear z13_2
       try clear z16_0
       try clear z16_1
       try clear z16_2
       try clear z26_0
       try clear z26_1
       try clear z26_2
       try clear f13_0
       try clear f13_1
       try clear f13_2
       try clear f16_0
       try clear f16_1
       try clear f16_2
       try clear f26_0
       try clear f26_1
       try clear f26_2
       try clear hx940_0
       try clear p2
       try clear p940
       try clear q940
       obtain ⟨x29_2, x937000_2, x937001_2, x937002_2, rfl, HA, HK2, HO_17, HO_27, BK930, BK931, BK932, BK936, HB⟩ := hrel
       cases gk with
       | zero => exact absurd HA.out (by simp [span_above_corners.l1])
       | succ k2 =>
        have H := HA.out
        clear HA
        simp only [span_above_corners.l1] at H
        by_cases c30 : x29_2 < (y941.length : Int)
        ·rw [if_pos c30] at H
         have c30b0 : decide (x29_2 < (y941.length : Int)) = true := decide_eq_true c30
         clear c30
         by_cases c31 : 0 ≤ x29_2
         ·rw [if_pos c31] at H
          have c31b0 : decide (0 ≤ x29_2) = true := decide_eq_true c31
          clear c31
          by_cases c32 : x29_2 < (y941.length : Int)
          ·rw [if_pos c32] at H
           have c32b0 : decide (x29_2 < (y941.length : Int)) = true := decide_eq_true c32
           clear c32
           obtain ⟨t945, A33, H⟩ := zbs H
           try dsimp only at H
           obtain ⟨t946, A34, H⟩ := zbs H
           try dsimp only at H
           obtain ⟨⟨t947, t948, t949⟩, A35, H⟩ := zbs H
           try dsimp only at H
           obtain ⟨y950, hy950⟩ : ∃ y_ : List (S43), y_ = (([(⟨x937000_2, x937001_2, x937002_2⟩ : S43), (⟨t947, t948, t949⟩ : S43)] : List (S43))) := ⟨_, rfl⟩
           replace H : ((span_Join.f k2 y950).bind fun bt953 => (span_above_corners.l1 k2 (rd y937 x19_1) y937 (y937.length : Int) x19_1 y941 (y941.length : Int) (wrap64 (x29_2 + 1)) a1_0 a1_1 a1_2 bt953.1 bt953.2.1 bt953.2.2)) = some (r1, r2, r3) := by first | (rw [hy950]; with_reducible exact H) | (have H2_ := (Option.bind_some _ _).symm.trans H; rw [hy950]; with_reducible exact H2_) | (have H2_ := (Option.bind_some _ _).symm.trans H; with_reducible exact H2_) | with_reducible exact H | (rw [hy950]; exact H) | exact H
           have Ny950 := Aside0.mk hy950
           clear hy950
           obtain ⟨⟨t953, t954, t955⟩, A36, H⟩ := zbs H
           try dsimp only at H
           have H' := Aside0.mk H
           clear H
           have p944 : 0 ≤ (x29_2 : Int) := of_decide_eq_true (by first | (with_reducible assumption) | assumption)
           have q944 : x29_2 < (y941.length : Int) := of_decide_eq_true (by first | (with_reducible assumption) | assumption)
           obtain ⟨ad944, e944, hx944_0⟩ := Kd.at_int (Kd.R_reads' HO_27.out).2.2 x29_2 p944 q944
           cases e944
           replace p944 := eq_true p944
           replace q944 := eq_true q944
           try go_wp2
           replace HO_17 := Aside0.mk (Kd.R_drew HO_17.out)
           replace HO_27 := Aside0.mk (Kd.R_drew HO_27.out)
           replace BK930 := Aside0.mk (blk_drew BK930.out)
           replace BK931 := Aside0.mk (blk_drew BK931.out)
           replace BK932 := Aside0.mk (blk_drew BK932.out)
           replace BK936 := Aside0.mk (blk_drew BK936.out)
           replace HB := Aside0.mk (below_drew1 HB.out)
           refine start_ (n := 13) (S := fun w' => w'.cell? ⟨gb936, 0, none⟩ = some (.bool x937000_2) ∧ w'.cell? ⟨gb936, 1, none⟩ = some (.int .u64 x937001_2) ∧ w'.cell? ⟨gb936, 2, none⟩ = some (.int .u64 x937002_2)) (ds := [12]) #[false, false, false, false, false, false, false, false, false, false, false, false, false] (by kernel_rfl) rfl rfl (ze3 BK936) (fun hHeld => ?_); refine with_tabW span_above_corners.tab8 span_above_corners.bits8 (fun HT_ HW_ => ?_)
           generalize wr.drew = w37 at HO_17 HO_27 BK930 BK931 BK932 BK936 HB hHeld ⊢
           refine zpA 1 34 (h := ?_)
           refine zpA 2 35 (h := ?_)
           refine zpA 3 36 (h := ?_)
           refine zpA 5 38 (h := ?_)
           refine zpA 6 39 (h := ?_)
           refine zpA 7 40 (h := ?_)
           refine ztA 0 33 (h := ?_)
           refine zoA 4 37 (h := fun K hK => ?_)
           refine zgW Try.func173 (span_above_1.calls k2 (rd y937 x19_1) (rd y941 x29_2) 2 t945 _ A33.out) (h := ?_)
           rintro w38 hb
           replace HO_17 := Aside0.mk (Kd.R_below (by (with_reducible repeat (first | apply Kd.R_alloc | apply Kd.R_drewN | apply Kd.R_drew)); exact HO_17.out) hb)
           replace HO_27 := Aside0.mk (Kd.R_below (by (with_reducible repeat (first | apply Kd.R_alloc | apply Kd.R_drewN | apply Kd.R_drew)); exact HO_27.out) hb)
           replace BK930 := zkb BK930 hb
           replace BK931 := zkb BK931 hb
           replace BK932 := zkb BK932 hb
           replace BK936 := zkb BK936 hb
           replace HB := zkB HB hb
           (try clear hb)
           refine hK.out _ _ (ze3 BK936) (fun hHeld => ?_)
           clear hK K
           refine znA 37 (h := ?_)
           refine zoA 8 41 (h := fun K hK => ?_)
           refine zgW Try.func173 (span_above_1.calls k2 (rd y937 x19_1) (rd y941 x29_2) 1 t946 _ A34.out) (h := ?_)
           rintro w39 hb
           replace HO_17 := Aside0.mk (Kd.R_below (by (with_reducible repeat (first | apply Kd.R_alloc | apply Kd.R_drewN | apply Kd.R_drew)); exact HO_17.out) hb)
           replace HO_27 := Aside0.mk (Kd.R_below (by (with_reducible repeat (first | apply Kd.R_alloc | apply Kd.R_drewN | apply Kd.R_drew)); exact HO_27.out) hb)
           replace BK930 := zkb BK930 hb
           replace BK931 := zkb BK931 hb
           replace BK932 := zkb BK932 hb
           replace BK936 := zkb BK936 hb
           replace HB := zkB HB hb
           (try clear hb)
           refine hK.out _ _ (ze3 BK936) (fun hHeld => ?_)
           clear hK K
           refine znA 41 (h := ?_)
           refine zoA 9 42 (h := fun K hK => ?_)
           refine zgA Try.func172 (span_outer.calls k2 t945 t946 t947 t948 t949 _ A35.out) (h := ?_)
           rintro w40 hb
           replace HO_17 := Aside0.mk (Kd.R_below (by (with_reducible repeat (first | apply Kd.R_alloc | apply Kd.R_drewN | apply Kd.R_drew)); exact HO_17.out) hb)
           replace HO_27 := Aside0.mk (Kd.R_below (by (with_reducible repeat (first | apply Kd.R_alloc | apply Kd.R_drewN | apply Kd.R_drew)); exact HO_27.out) hb)
           replace BK930 := zkb BK930 hb
           replace BK931 := zkb BK931 hb
           replace BK932 := zkb BK932 hb
           replace BK936 := zkb BK936 hb
           replace HB := zkB HB hb
           (try clear hb)
           refine hK.out _ _ (ze3 BK936) (fun hHeld => ?_)
           clear hK K
           refine znA 42 (h := ?_)
           refine zoA 10 43 (h := fun K hK => ?_)
           refine Kd.R_lit_step k43 _ 43 ?hg (N := 43) ?hd (xs := ([(⟨x937000_2, x937001_2, x937002_2⟩ : S43), (⟨t947, t948, t949⟩ : S43)] : List (S43))) (inner := [.bool x937000_2, .int .u64 x937001_2, .int .u64 x937002_2, .bool t947, .int .u64 t948, .int .u64 t949]) (ok := fun _ => True) (okp := fun _ => True) ?hr ?hp (fun _ hk => hk) trivial (Below.refl _ _) (Nat.le_refl _) (by simp) ?_; (case hd => rfl); (case hg => rfl); (case hr => first | (go_simp; done) | (go_simp; rfl)); (case hp => exact (Reps.c3 (show Kd.M k43 _ _ _ (⟨x937000_2, x937001_2, x937002_2⟩ : S43) [.bool x937000_2, .int .u64 x937001_2, .int .u64 x937002_2] from (k43_mkM _ _ _ (⟨x937000_2, x937001_2, x937002_2⟩ : S43) )) (Reps.c3 (show Kd.M k43 _ _ _ (⟨t947, t948, t949⟩ : S43) [.bool t947, .int .u64 t948, .int .u64 t949] from (k43_mkM _ _ _ (⟨t947, t948, t949⟩ : S43) )) (Reps.none _ _))))
           intro v951 w41 ho42 hb hg_ hnew_
           clear hg_ hnew_
           (first | rw [← Ny950.out] at ho42 | (simp only [Int.reduceToNat] at ho42; rw [← Ny950.out] at ho42))
           replace HO_17 := Aside0.mk (Kd.R_below (by (with_reducible repeat (first | apply Kd.R_alloc | apply Kd.R_drewN | apply Kd.R_drew)); exact HO_17.out) hb)
           replace HO_27 := Aside0.mk (Kd.R_below (by (with_reducible repeat (first | apply Kd.R_alloc | apply Kd.R_drewN | apply Kd.R_drew)); exact HO_27.out) hb)
           have HO952 := Aside0.mk (Kd.R_lower (Kd.R_newB (Kd.R_newB (Kd.R_newB (Kd.R_newB ho42 (g := gb930) (o := .cells #[.bool a0_0, .int .u64 a0_1, .int .u64 a0_2] 43 (0, 0)) (zkq BK930)) (g := gb931) (o := .cells #[.bool a1_0, .int .u64 a1_1, .int .u64 a1_2] 43 (0, 0)) (zkq BK931)) (g := gb932) (o := .cells #[.bool false, .int .u64 0, .int .u64 0] 43 (0, 0)) (zkq BK932)) (g := gb936) (o := .cells #[.bool x937000_2, .int .u64 x937001_2, .int .u64 x937002_2] 43 (0, 0)) (zkq BK936)) (below_size zaB))
           replace BK930 := zkb BK930 hb
           replace BK931 := zkb BK931 hb
           replace BK932 := zkb BK932 hb
           replace BK936 := zkb BK936 hb
           replace HB := zkB HB hb
           clear hb ho42
           obtain ⟨Ao43, co43, eo43⟩ := Kd.R_slice HO952.out
           (first | subst eo43 | (injection eo43 with f1_ f2_ f3_; have f4_ := f1_.symm; have f5_ := f3_.symm; clear f1_ f2_ f3_; subst f4_; subst f5_))
           refine hK.out _ _ (ze3 BK936) (fun hHeld => ?_)
           clear hK K
           refine znA 43 (h := ?_)
           refine zoA 11 44 (h := fun K hK => ?_)
           refine goes_ Try.func45 (by kernel_rfl) rfl #[.slice Ao43 y950.length co43] (by rfl) rfl rfl (by (try simp only [List.map_toArray, List.map_cons, List.map_nil]); first | done | rfl | (simp only [List.length_drop, List.length_take]; rfl)) ?_
           with_reducible refine (span_Join.calls k2 _ _ y950 t953 t954 t955 _ ?side1 ?side2 A36.out).mono ?_
           (case side1 => repeat (first | exact (Kd.R_reads' HO952.out).2.2 | (with_reducible refine Kd.C_alloc ?_ _) | (with_reducible refine Kd.C_drewN ?_ _) | (with_reducible refine Kd.C_drew ?_)))
           (case side2 => exact (Kd.R_reads' HO952.out).2.1)
           rintro e w44 ⟨rfl, hb⟩
           refine ⟨_, rfl, ?_⟩
           replace HO_17 := Aside0.mk (Kd.R_below (by (with_reducible repeat (first | apply Kd.R_alloc | apply Kd.R_drewN | apply Kd.R_drew)); exact HO_17.out) hb)
           replace HO_27 := Aside0.mk (Kd.R_below (by (with_reducible repeat (first | apply Kd.R_alloc | apply Kd.R_drewN | apply Kd.R_drew)); exact HO_27.out) hb)
           replace HO952 := Aside0.mk (Kd.R_below (by (with_reducible repeat (first | apply Kd.R_alloc | apply Kd.R_drewN | apply Kd.R_drew)); exact HO952.out) hb)
           replace BK930 := zkb BK930 hb
           replace BK931 := zkb BK931 hb
           replace BK932 := zkb BK932 hb
           replace BK936 := zkb BK936 hb
           replace HB := zkB HB hb
           (try clear hb)
           refine hK.out _ _ (ze3 BK936) (fun hHeld => ?_)
           clear hK K
           refine znA 44 (h := ?_)
           refine last_ (i := 12) (N := none) #[true, true, true, true, true, true, true, true, true, true, true, true, true] rfl rfl (one_of HT_.out (by kernel_rfl)) (by decide) (fun K hK => ?_)
           have hs45 := zc0 BK936
           have hfs45 := blk_frozen BK936.out 0
           have hns45_0 := NB930_936.out
           have hns45_1 := NB931_936.out
           have hns45_2 := NB932_936.out
           have hms45_0 := NB936_930.out
           have hms45_1 := NB936_931.out
           have hms45_2 := NB936_932.out
           have hs46 := zc1 BK936
           have hfs46 := blk_frozen BK936.out 1
           have hns46_0 := NB930_936.out
           have hns46_1 := NB931_936.out
           have hns46_2 := NB932_936.out
           have hms46_0 := NB936_930.out
           have hms46_1 := NB936_931.out
           have hms46_2 := NB936_932.out
           have hs47 := zc2 BK936
           have hfs47 := blk_frozen BK936.out 2
           have hns47_0 := NB930_936.out
           have hns47_1 := NB931_936.out
           have hns47_2 := NB932_936.out
           have hms47_0 := NB936_930.out
           have hms47_1 := NB936_931.out
           have hms47_2 := NB936_932.out
           refine skip_ (w1 := ?_) (by rfl) rfl ?_ ?_
           rotate_left
           ·go_simp
            rfl
           refine hK.out _ _ ?_
           clear hK K
           refine done_ (done_of HT_.out (by kernel_rfl)) ?_
           try go_wp2
           go_roundg k2
           case measure => have := HK1.out; have := HK2.out; omega
           case rel => exact ⟨(wrap64 (x29_2 + 1)), (t953), (t954), (t955), zrl, H', ⟨by have := HK1.out; have := HK2.out; omega⟩, ⟨by (with_reducible repeat (first | apply Kd.R_alloc | apply Kd.R_drewN | apply Kd.R_drew)); exact Kd.R_mono (Kd.R_far (p := ⟨gb936, 2, none⟩) (Kd.R_far (p := ⟨gb936, 1, none⟩) (Kd.R_far (p := ⟨gb936, 0, none⟩) (Kd.R_types HO_17.out BK936.out (by decide)) (fun _ hk => hk.2) (.bool t953)) (fun _ hk => hk.2) (.int .u64 t954)) (fun _ hk => hk.2) (.int .u64 t955)) (fun _ hk => hk.1)⟩, ⟨by (with_reducible repeat (first | apply Kd.R_alloc | apply Kd.R_drewN | apply Kd.R_drew)); exact Kd.R_mono (Kd.R_far (p := ⟨gb936, 2, none⟩) (Kd.R_far (p := ⟨gb936, 1, none⟩) (Kd.R_far (p := ⟨gb936, 0, none⟩) (Kd.R_types HO_27.out BK936.out (by decide)) (fun _ hk => hk.2) (.bool t953)) (fun _ hk => hk.2) (.int .u64 t954)) (fun _ hk => hk.2) (.int .u64 t955)) (fun _ hk => hk.1)⟩, ⟨(zkf (zkf (zkf (zkq BK930) NB930_936.out _) NB930_936.out _) NB930_936.out _)⟩, ⟨(zkf (zkf (zkf (zkq BK931) NB931_936.out _) NB931_936.out _) NB931_936.out _)⟩, ⟨(zkf (zkf (zkf (zkq BK932) NB932_936.out _) NB932_936.out _) NB932_936.out _)⟩, ⟨(blk_put (cs := #[.bool t953, .int .u64 t954, .int .u64 x937002_2]) (blk_put (cs := #[.bool t953, .int .u64 x937001_2, .int .u64 x937002_2]) (blk_put (zkq BK936) 0 _ rfl) 1 _ rfl) 2 _ rfl)⟩, ⟨zaB⟩⟩
          rw [if_neg c32] at H
          exact absurd H (by simp)
         rw [if_neg c31] at H
         exact absurd H (by simp)
        rw [if_neg c30] at H
        have c30b0 : decide (x29_2 < (y941.length : Int)) = false := decide_eq_false c30
        clear c30
        have H' := Aside0.mk H
        clear H
        go_wp2
        go_roundg k2
        case measure => have := HK1.out; have := HK2.out; omega
        case rel => exact ⟨(wrap64 (x19_1 + 1)), (x937000_2), (x937001_2), (x937002_2), zrl, H', ⟨by have := HK1.out; have := HK2.out; omega⟩, ⟨by (with_reducible repeat (first | apply Kd.R_alloc | apply Kd.R_drewN | apply Kd.R_drew)); exact Kd.R_mono HO_17.out (fun _ hk => trivial)⟩, ⟨zkq BK930⟩, ⟨zkq BK931⟩, ⟨zkq BK932⟩, ⟨zkq BK936⟩, ⟨zaB⟩⟩
     rw [if_neg c22] at H
     exact absurd H (by simp)
    rw [if_neg c21] at H
    exact absurd H (by simp)
   rw [if_neg c20] at H
   have c20b0 : decide (x19_1 < (y937.length : Int)) = false := decide_eq_false c20
   clear c20
   simp only [Option.some.injEq, Prod.mk.injEq] at H
   obtain ⟨rfl, rfl, rfl⟩ := H
   obtain ⟨_, _⟩ := zsy NB936_930
   obtain ⟨_, _⟩ := zsy NB936_931
   obtain ⟨_, _⟩ := zsy NB936_932
   obtain ⟨_, _, _, _, _, _⟩ := zq3 BK936
   obtain ⟨_, _⟩ := zsy NB932_930
   obtain ⟨_, _⟩ := zsy NB932_931
   obtain ⟨_, _, _, _, _, _⟩ := zq3 BK932
   go_wp2
   refine bodyPost_ret (results_cell_row rfl _ _ gb932 43 #[.bool x937000_1, .int .u64 x937001_1, .int .u64 x937002_1] (0, 0) _ rfl (blk_put (cs := #[.bool x937000_1, .int .u64 x937001_1, .int .u64 0]) (blk_put (cs := #[.bool x937000_1, .int .u64 0, .int .u64 0]) (blk_put (zkq BK932) 0 _ rfl) 1 _ rfl) 2 _ rfl) Try.underlying43 rfl (by kernel_rfl)) rfl ?_
   exact ⟨zaE, zaB⟩
theorem span_above.calls (k : Nat) (a0_0 : Bool) (a0_1 : Int) (a0_2 : Int) (a1_0 : Bool) (a1_1 : Int) (a1_2 : Int) (r1 : Bool) (r2 : Int) (r3 : Int) (w : World) (h : span_above.f k a0_0 a0_1 a0_2 a1_0 a1_1 a1_2 = some (r1, r2, r3)) :
  Calls Try.prog 139 #[.agg #[.bool a0_0, .int .u64 a0_1, .int .u64 a0_2], .agg #[.bool a1_0, .int .u64 a1_1, .int .u64 a1_2]] w fun e w' => e = .returned (.agg #[.bool r1, .int .u64 r2, .int .u64 r3]) ∧ Below w.heap.size w w' := by
 have hu_ := Try.underlying43
 have HB := Aside0.mk (Below.refl w.heap.size w)
 have H : ((span_above_corners.f k a0_0 a0_1 a0_2 a1_0 a1_1 a1_2 0).bind fun bt971 => (some (bt971.1, bt971.2.1, bt971.2.2))) = some (r1, r2, r3) := h
 clear h
 obtain ⟨⟨t971, t972, t973⟩, A3, H⟩ := zbs H
 try dsimp only at H
 simp only [Option.some.injEq, Prod.mk.injEq] at H
 obtain ⟨rfl, rfl, rfl⟩ := H
 go_enter Try.func139, Try.ntmps139
 go_wp2_with (first | ((with_reducible refine gtd 2 rfl ?_); refine zbx 2 #[.bool a0_0, .int .u64 a0_1, .int .u64 a0_2] 43 (h := ?_); intro gb968 hg w4 hbox hb; have GW968 := zkZ hg (zaB (p := Below w.heap.size w _)); replace HB := Aside0.mk (below_step zaB hb); have BK968 := Aside0.mk (hbox); clear hb hbox hg) | ((with_reducible refine gtd 3 rfl ?_); refine zbx 3 #[.bool a1_0, .int .u64 a1_1, .int .u64 a1_2] 43 (h := ?_); intro gb969 hg w5 hbox hb; have GW969 := zkz HB hg; have NB968_969 := zkl BK968 hg; have NB969_968 := zkr BK968 hg; replace BK968 := zkb BK968 hb; replace HB := zkB HB hb; have BK969 := Aside0.mk (hbox); clear hb hbox hg) | ((with_reducible refine gtd 4 rfl ?_); refine zbx 4 #[.bool false, .int .u64 0, .int .u64 0] 43 (h := ?_); intro gb970 hg w6 hbox hb; have GW970 := zkz HB hg; have NB968_970 := zkl BK968 hg; have NB970_968 := zkr BK968 hg; have NB969_970 := zkl BK969 hg; have NB970_969 := zkr BK969 hg; replace BK968 := zkb BK968 hb; replace BK969 := zkb BK969 hb; replace HB := zkB HB hb; have BK970 := Aside0.mk (hbox); clear hb hbox hg; obtain ⟨_, _⟩ := zsy NB968_969; obtain ⟨_, _⟩ := zsy NB968_970; obtain ⟨_, _, _, _, _, _⟩ := zq3 BK968; obtain ⟨_, _⟩ := zsy NB969_970; obtain ⟨_, _, _, _, _, _⟩ := zq3 BK969) | ((with_reducible refine gtc 136 rfl ?_); refine zgL 7 Try.func136 (span_above_corners.goes k a0_0 a0_1 a0_2 a1_0 a1_1 a1_2 0 t971 t972 t973 _ A3.out) (h := ?_); rintro w12 hb; replace BK968 := zkb BK968 hb; replace BK969 := zkb BK969 hb; replace BK970 := zkb BK970 hb; replace HB := zkB HB hb; (try clear hb); obtain ⟨z13_0, z13_1, z13_2, f13_0, f13_1, f13_2⟩ := zq3 BK970))
 refine bodyPost_ret (results_cell_row rfl _ _ gb970 43 #[.bool t971, .int .u64 t972, .int .u64 t973] (0, 0) _ rfl (blk_put (cs := #[.bool t971, .int .u64 t972, .int .u64 0]) (blk_put (cs := #[.bool t971, .int .u64 0, .int .u64 0]) (blk_put (zkq BK970) 0 _ rfl) 1 _ rfl) 2 _ rfl) Try.underlying43 rfl (by kernel_rfl)) rfl ?_
 exact ⟨zaE, zaB⟩
def span_Div.T8 : Bool × List (List Nat × List Nat) := (true, [([], []), ([], []), ([], []), ([], []), ([3, 3], [3]), ([2, 4, 4], [2, 4]), ([5, 5], [5]), ([1, 6, 6], [1, 6]), ([7, 7], [7]), ([0, 8], [0, 8]), ([9, 8], [9]), ([10, 10, 0, 1, 2, 3, 4, 5, 6, 7, 8, 9, 10], [10])])
def span_Div.B8 : List Nat := [0, 0, 0, 0, 8, 28, 60, 126, 254, 511, 1023, 2047]
theorem span_Div.tab8 : rtab .any (opsOf Try.f68 8) = span_Div.T8 := by kernel_rfl
theorem span_Div.bits8 : waitsOk span_Div.T8.2 span_Div.B8 = true := by kernel_rfl
theorem span_Div.calls (k : Nat) (a0_0 : Bool) (a0_1 : Int) (a0_2 : Int) (a1_0 : Bool) (a1_1 : Int) (a1_2 : Int) (r1 : Bool) (r2 : Int) (r3 : Int) (w : World) (h : span_Div.f k a0_0 a0_1 a0_2 a1_0 a1_1 a1_2 = some (r1, r2, r3)) :
  Calls Try.prog 68 #[.agg #[.bool a0_0, .int .u64 a0_1, .int .u64 a0_2], .agg #[.bool a1_0, .int .u64 a1_1, .int .u64 a1_2]] w fun e w' => e = .returned (.agg #[.bool r1, .int .u64 r2, .int .u64 r3]) ∧ Below w.heap.size w w' := by
 have hu43 := Try.underlying43
 have HB := Aside0.mk (Below.refl w.heap.size w)
 have H : ((span_norm.f k a0_0 a0_1 a0_2).bind fun bt937 => ((span_norm.f k a1_0 a1_1 a1_2).bind fun bt940 => (if bt937.1 = true then (span_Div.j0 k true bt937.1 bt937.2.1 bt937.2.2 bt940.1 bt940.2.1 bt940.2.2) else (span_Div.j0 k bt940.1 bt937.1 bt937.2.1 bt937.2.2 bt940.1 bt940.2.1 bt940.2.2)))) = some (r1, r2, r3) := h
 clear h
 obtain ⟨⟨t937, t938, t939⟩, A3, H⟩ := zbs H
 try dsimp only at H
 obtain ⟨⟨t940, t941, t942⟩, A4, H⟩ := zbs H
 try dsimp only at H
 have HC5 := Aside0.mk H
 clear H
 go_enter Try.func68, Try.ntmps68
 try go_wp2_with (first | ((with_reducible refine gtd 2 rfl ?_); refine zbx 2 #[.bool a0_0, .int .u64 a0_1, .int .u64 a0_2] 43 (h := ?_); intro gb934 hg w6 hbox hb; have GW934 := zkZ hg (zaB (p := Below w.heap.size w _)); replace HB := Aside0.mk (below_step zaB hb); have BK934 := Aside0.mk (hbox); clear hb hbox hg) | ((with_reducible refine gtd 3 rfl ?_); refine zbx 3 #[.bool a1_0, .int .u64 a1_1, .int .u64 a1_2] 43 (h := ?_); intro gb935 hg w7 hbox hb; have GW935 := zkz HB hg; have NB934_935 := zkl BK934 hg; have NB935_934 := zkr BK934 hg; replace BK934 := zkb BK934 hb; replace HB := zkB HB hb; have BK935 := Aside0.mk (hbox); clear hb hbox hg) | ((with_reducible refine gtd 4 rfl ?_); refine zbx 4 #[.bool false, .int .u64 0, .int .u64 0] 43 (h := ?_); intro gb936 hg w8 hbox hb; have GW936 := zkz HB hg; have NB934_936 := zkl BK934 hg; have NB936_934 := zkr BK934 hg; have NB935_936 := zkl BK935 hg; have NB936_935 := zkr BK935 hg; replace BK934 := zkb BK934 hb; replace BK935 := zkb BK935 hb; replace HB := zkB HB hb; have BK936 := Aside0.mk (hbox); clear hb hbox hg))
 (try (rw [drewN_self w8]; generalize hq_ : World.drewN w8 _ = w8; replace BK934 := zkg hq_ (zkq BK934); replace BK935 := zkg hq_ (zkq BK935); replace BK936 := zkg hq_ (zkq BK936); replace HB := zkG hq_ (pw_below_drewN HB.out _); clear hq_))
 replace BK934 := Aside0.mk (blk_drew BK934.out)
 replace BK935 := Aside0.mk (blk_drew BK935.out)
 replace BK936 := Aside0.mk (blk_drew BK936.out)
 replace HB := Aside0.mk (below_drew1 HB.out)
 refine start_ (n := 6) (S := fun w' => w'.cell? ⟨gb934, 0, none⟩ = some (.bool a0_0) ∧ w'.cell? ⟨gb934, 1, none⟩ = some (.int .u64 a0_1) ∧ w'.cell? ⟨gb934, 2, none⟩ = some (.int .u64 a0_2) ∧ w'.cell? ⟨gb935, 0, none⟩ = some (.bool a1_0) ∧ w'.cell? ⟨gb935, 1, none⟩ = some (.int .u64 a1_1) ∧ w'.cell? ⟨gb935, 2, none⟩ = some (.int .u64 a1_2)) (ds := [4, 5]) #[false, false, false, false, false, false] (by kernel_rfl) rfl rfl (zk3 BK934 (ze3 BK935)) (fun hHeld => ?_)
 generalize w8.drew = w9 at BK934 BK935 BK936 HB hHeld ⊢
 refine take_ (i := 0) (N := some 6) (v := ?_) (a' := ?_) #[true, false, false, false, false, false] rfl rfl (by kernel_rfl) (fun _ _ _ h => h) (Or.inl ⟨by rfl, ?_⟩) hHeld ?_ ?_
 rotate_left
 ·rintro w' ⟨s0, s1, s2, s3, s4, s5⟩
  go_simp
  with_reducible rfl
 rotate_left
 ·simp only [Act.put, List.setIfInBounds_toArray, List.set_cons_zero, List.set_cons_succ, i64_w, i32_w]
  rfl
 refine take_ (i := 2) (N := some 8) (v := ?_) (a' := ?_) #[true, false, true, false, false, false] rfl rfl (by kernel_rfl) (fun _ _ _ h => h) (Or.inl ⟨by rfl, ?_⟩) hHeld ?_ ?_
 rotate_left
 ·rintro w' ⟨s0, s1, s2, s3, s4, s5⟩
  go_simp
  with_reducible rfl
 rotate_left
 ·simp only [Act.put, List.setIfInBounds_toArray, List.set_cons_zero, List.set_cons_succ, i64_w, i32_w]
  rfl
 refine one_ (i := 1) (N := some 7) #[true, true, true, false, false, false] rfl rfl (by kernel_rfl) (by decide) (fun K hK => ?_)
 refine zgA Try.func112 (span_norm.calls k a0_0 a0_1 a0_2 t937 t938 t939 _ A3.out) (h := ?_)
 rintro w10 hb
 replace BK934 := zkb BK934 hb
 replace BK935 := zkb BK935 hb
 replace BK936 := zkb BK936 hb
 replace HB := zkB HB hb
 (try clear hb)
 refine hK.out _ _ (zk3 BK934 (ze3 BK935)) (fun hHeld => ?_)
 clear hK K
 refine znA 7 (h := ?_)
 refine one_ (i := 3) (N := some 9) #[true, true, true, true, false, false] rfl rfl (by kernel_rfl) (by decide) (fun K hK => ?_)
 refine zgA Try.func112 (span_norm.calls k a1_0 a1_1 a1_2 t940 t941 t942 _ A4.out) (h := ?_)
 rintro w11 hb
 replace BK934 := zkb BK934 hb
 replace BK935 := zkb BK935 hb
 replace BK936 := zkb BK936 hb
 replace HB := zkB HB hb
 (try clear hb)
 refine hK.out _ _ (zk3 BK934 (ze3 BK935)) (fun hHeld => ?_)
 clear hK K
 refine znA 9 (h := ?_)
 refine last_ (i := 4) (N := none) #[true, true, true, true, true, false] rfl rfl (by kernel_rfl) (by decide) (fun K hK => ?_)
 have hs12 := zc0 BK934
 have hfs12 := blk_frozen BK934.out 0
 have hns12_1 := NB935_934.out
 have hns12_2 := NB936_934.out
 have hms12_1 := NB934_935.out
 have hms12_2 := NB934_936.out
 have hs13 := zc1 BK934
 have hfs13 := blk_frozen BK934.out 1
 have hns13_1 := NB935_934.out
 have hns13_2 := NB936_934.out
 have hms13_1 := NB934_935.out
 have hms13_2 := NB934_936.out
 have hs14 := zc2 BK934
 have hfs14 := blk_frozen BK934.out 2
 have hns14_1 := NB935_934.out
 have hns14_2 := NB936_934.out
 have hms14_1 := NB934_935.out
 have hms14_2 := NB934_936.out
 refine skip_ (w1 := ?_) (by rfl) rfl ?_ ?_
 rotate_left
 ·go_simp
  rfl
 refine hK.out _ _ ?_
 clear hK K
 refine last_ (i := 5) (N := none) #[true, true, true, true, true, true] rfl rfl (by kernel_rfl) (by decide) (fun K hK => ?_)
 have hs15 := zc0 BK935
 have hfs15 := blk_frozen BK935.out 0
 have hns15_0 := NB934_935.out
 have hns15_2 := NB936_935.out
 have hms15_0 := NB935_934.out
 have hms15_2 := NB935_936.out
 have hs16 := zc1 BK935
 have hfs16 := blk_frozen BK935.out 1
 have hns16_0 := NB934_935.out
 have hns16_2 := NB936_935.out
 have hms16_0 := NB935_934.out
 have hms16_2 := NB935_936.out
 have hs17 := zc2 BK935
 have hfs17 := blk_frozen BK935.out 2
 have hns17_0 := NB934_935.out
 have hns17_2 := NB936_935.out
 have hms17_0 := NB935_934.out
 have hms17_2 := NB935_936.out
 refine skip_ (w1 := ?_) (by rfl) rfl ?_ ?_
 rotate_left
 ·go_simp
  rfl
 refine hK.out _ _ ?_
 clear hK K
 refine done_ (by kernel_rfl) ?_
 go_upto_region 2 with (fail)
 go_cut [15] (fun v15 wc => ∃ (kq : Nat) (x15_4 : Bool), v15 = .bool x15_4 ∧ Aside0 (span_Div.j0 kq x15_4 t937 t938 t939 t940 t941 t942 = some (r1, r2, r3)) ∧ Aside0 (kq ≤ k) ∧ Aside0 (wc.heap[gb934]? = some (.cells #[.bool t937, .int .u64 t938, .int .u64 t939] 43 (0, 0))) ∧ Aside0 (wc.heap[gb935]? = some (.cells #[.bool t940, .int .u64 t941, .int .u64 t942] 43 (0, 0))) ∧ Aside0 (wc.heap[gb936]? = some (.cells #[.bool false, .int .u64 0, .int .u64 0] 43 (0, 0))) ∧ Aside0 (Below w.heap.size w wc))
 case first =>
  have H := HC5.out
  clear HC5
  by_cases c18 : t937 = true
  ·subst c18
   replace H := zit H
   have H' := Aside0.mk H
   clear H
   obtain ⟨_, _⟩ := zsy NB934_935
   obtain ⟨_, _⟩ := zsy NB934_936
   obtain ⟨z21_0, z21_1, z21_2, f21_0, f21_1, f21_2⟩ := zq3 BK934
   go_wp2
   go_meet
   case rel => exact ⟨_, (true), zrl, H', ⟨zle⟩, ⟨(zkf (zkf (zkf (blk_put (cs := #[.bool true, .int .u64 t938, .int .u64 a0_2]) (blk_put (cs := #[.bool true, .int .u64 a0_1, .int .u64 a0_2]) (blk_put (zkq BK934) 0 _ rfl) 1 _ rfl) 2 _ rfl) NB934_935.out _) NB934_935.out _) NB934_935.out _)⟩, ⟨(blk_put (cs := #[.bool t940, .int .u64 t941, .int .u64 a1_2]) (blk_put (cs := #[.bool t940, .int .u64 a1_1, .int .u64 a1_2]) (blk_put (zkf (zkf (zkf (zkq BK935) NB935_934.out _) NB935_934.out _) NB935_934.out _) 0 _ rfl) 1 _ rfl) 2 _ rfl)⟩, ⟨(zkf (zkf (zkf (zkf (zkf (zkf (zkq BK936) NB936_934.out _) NB936_934.out _) NB936_934.out _) NB936_935.out _) NB936_935.out _) NB936_935.out _)⟩, ⟨zaB⟩⟩
  replace c18 := Bool.eq_false_iff.mpr c18
  subst c18
  replace H := zif H
  have H' := Aside0.mk H
  clear H
  obtain ⟨_, _⟩ := zsy NB934_935
  obtain ⟨_, _⟩ := zsy NB934_936
  obtain ⟨z24_0, z24_1, z24_2, f24_0, f24_1, f24_2⟩ := zq3 BK934
  obtain ⟨_, _⟩ := zsy NB935_936
  obtain ⟨z26_0, z26_1, z26_2, f26_0, f26_1, f26_2⟩ := zq3 BK935
  go_wp2
  go_meet
  case rel => exact ⟨_, (t940), zrl, H', ⟨zle⟩, ⟨(zkf (zkf (zkf (blk_put (cs := #[.bool false, .int .u64 t938, .int .u64 a0_2]) (blk_put (cs := #[.bool false, .int .u64 a0_1, .int .u64 a0_2]) (blk_put (zkq BK934) 0 _ rfl) 1 _ rfl) 2 _ rfl) NB934_935.out _) NB934_935.out _) NB934_935.out _)⟩, ⟨(blk_put (cs := #[.bool t940, .int .u64 t941, .int .u64 a1_2]) (blk_put (cs := #[.bool t940, .int .u64 a1_1, .int .u64 a1_2]) (blk_put (zkf (zkf (zkf (zkq BK935) NB935_934.out _) NB935_934.out _) NB935_934.out _) 0 _ rfl) 1 _ rfl) 2 _ rfl)⟩, ⟨(zkf (zkf (zkf (zkf (zkf (zkf (zkq BK936) NB936_934.out _) NB936_934.out _) NB936_934.out _) NB936_935.out _) NB936_935.out _) NB936_935.out _)⟩, ⟨zaB⟩⟩
 case rest =>
  clear HC5
  try clear c1
  try clear c2
  try clear p2
  try clear c6
  try clear c11
  try clear c18
  try clear c19
  try clear c20
  try clear c22
  try clear c23
  try clear c25
  try clear z21_0
  try clear z21_1
  try clear z21_2
  try clear z24_0
  try clear z24_1
  try clear z24_2
  try clear z26_0
  try clear z26_1
  try clear z26_2
  try clear f21_0
  try clear f21_1
  try clear f21_2
  try clear f24_0
  try clear f24_1
  try clear f24_2
  try clear f26_0
  try clear f26_1
  try clear f26_2
  obtain ⟨kq, x15_4, rfl, HA, HJ4, BK934, BK935, BK936, HB⟩ := hcut
  cases kq with
  | zero => exact absurd HA.out (by simp [span_Div.j0])
  | succ kj4 =>
   have H := HA.out
   clear HA
   simp only [span_Div.j0] at H
   by_cases c27 : x15_4 = true
   ·subst c27
    replace H := zit H
    obtain ⟨⟨t943, t944, t945⟩, A28, H⟩ := zbs H
    try dsimp only at H
    simp only [Option.some.injEq, Prod.mk.injEq] at H
    obtain ⟨rfl, rfl, rfl⟩ := H
    go_wp2_with (first | ((with_reducible refine gtc 118 rfl ?_); refine zgL 16 Try.func118 (span_none.calls  t943 t944 t945 _ A28.out) (h := ?_); rintro w29 hb; replace BK934 := zkb BK934 hb; replace BK935 := zkb BK935 hb; replace BK936 := zkb BK936 hb; replace HB := zkB HB hb; (try clear hb); obtain ⟨_, _⟩ := zsy NB936_934; obtain ⟨_, _⟩ := zsy NB936_935; obtain ⟨z32_0, z32_1, z32_2, f32_0, f32_1, f32_2⟩ := zq3 BK936))
    refine bodyPost_ret (results_cell_row rfl _ _ gb936 43 #[.bool t943, .int .u64 t944, .int .u64 t945] (0, 0) _ rfl (blk_put (cs := #[.bool t943, .int .u64 t944, .int .u64 0]) (blk_put (cs := #[.bool t943, .int .u64 0, .int .u64 0]) (blk_put (zkq BK936) 0 _ rfl) 1 _ rfl) 2 _ rfl) Try.underlying43 rfl (by kernel_rfl)) rfl ?_
    exact ⟨zaE, zaB⟩
   replace c27 := Bool.eq_false_iff.mpr c27
   subst c27
   replace H := zif H
   obtain ⟨⟨t946, t947, t948⟩, A33, H⟩ := zbs H
   try dsimp only at H
   obtain ⟨t950, A34, H⟩ := zbs H
   try dsimp only at H
   have HC35 := Aside0.mk H
   clear H
   go_upto_if 21 with (first | ((with_reducible refine gtc 118 rfl ?_); refine zgL 17 Try.func118 (span_none.calls  t946 t947 t948 _ A33.out) (h := ?_); rintro w36 hb; replace BK934 := zkb BK934 hb; replace BK935 := zkb BK935 hb; replace BK936 := zkb BK936 hb; replace HB := zkB HB hb; (try clear hb)) | ((with_reducible refine gtd 5 rfl ?_); refine zbx 5 #[.bool false, .int .u64 0, .int .u64 0] 43 (h := ?_); intro gb949 hg w37 hbox hb; have GW949 := zkz HB hg; have NB934_949 := zkl BK934 hg; have NB949_934 := zkr BK934 hg; have NB935_949 := zkl BK935 hg; have NB949_935 := zkr BK935 hg; have NB936_949 := zkl BK936 hg; have NB949_936 := zkr BK936 hg; replace BK934 := zkb BK934 hb; replace BK935 := zkb BK935 hb; replace BK936 := zkb BK936 hb; replace HB := zkB HB hb; have BK949 := Aside0.mk (hbox); clear hb hbox hg; obtain ⟨_, _⟩ := zsy NB949_934; obtain ⟨_, _⟩ := zsy NB949_935; obtain ⟨_, _⟩ := zsy NB949_936; obtain ⟨z41_0, z41_1, z41_2, f41_0, f41_1, f41_2⟩ := zq3 BK949; obtain ⟨_, _⟩ := zsy NB935_934; obtain ⟨_, _⟩ := zsy NB935_936; obtain ⟨z44_0, z44_1, z44_2, f44_0, f44_1, f44_2⟩ := zq3 BK935) | ((with_reducible refine gtc 117 rfl ?_); refine zgL 20 Try.func117 (span_atMost.calls kj4 t942 0 t950 _ A34.out) (h := ?_); rintro w' ⟨nd, rfl⟩))
   (try simp only [Act.put, List.setIfInBounds_toArray, List.set_cons_zero, List.set_cons_succ])
   go_cut [] (fun wc => ∃ (kq : Nat) (x950000_34 : Bool) (x950001_34 : Int) (x950002_34 : Int), Aside0 (span_Div.j1 kq t937 t938 t939 t940 t941 t942 x950000_34 x950001_34 x950002_34 = some (r1, r2, r3)) ∧ Aside0 (kq ≤ kj4) ∧ Aside0 (wc.heap[gb934]? = some (.cells #[.bool t937, .int .u64 t938, .int .u64 t939] 43 (0, 0))) ∧ Aside0 (wc.heap[gb935]? = some (.cells #[.bool t940, .int .u64 t941, .int .u64 t942] 43 (0, 0))) ∧ Aside0 (wc.heap[gb936]? = some (.cells #[.bool false, .int .u64 0, .int .u64 0] 43 (0, 0))) ∧ Aside0 (wc.heap[gb949]? = some (.cells #[.bool x950000_34, .int .u64 x950001_34, .int .u64 x950002_34] 43 (0, 0))) ∧ Aside0 (Below w.heap.size w wc))
   case first =>
    have H := HC35.out
    clear HC35
    by_cases c45 : t950 = true
    ·subst c45
     replace H := zit H
     have H' := Aside0.mk H
     clear H
     go_wp2
     go_meet
     case rel => exact ⟨_, (t946), (t947), (t948), H', ⟨by have := HJ4.out; first | omega | exact Nat.le_refl _⟩, ⟨(zkf (zkf (zkf (zkq BK934) NB934_949.out _) NB934_949.out _) NB934_949.out _)⟩, ⟨(zkf (zkf (zkf (zkq BK935) NB935_949.out _) NB935_949.out _) NB935_949.out _)⟩, ⟨(zkf (zkf (zkf (zkq BK936) NB936_949.out _) NB936_949.out _) NB936_949.out _)⟩, ⟨(blk_put (cs := #[.bool t946, .int .u64 t947, .int .u64 0]) (blk_put (cs := #[.bool t946, .int .u64 0, .int .u64 0]) (blk_put (zkq BK949) 0 _ rfl) 1 _ rfl) 2 _ rfl)⟩, ⟨zaB⟩⟩
    replace c45 := Bool.eq_false_iff.mpr c45
    subst c45
    replace H := zif H
    obtain ⟨t951, A46, H⟩ := zbs H
    try dsimp only at H
    obtain ⟨⟨t952, t953, t954⟩, A47, H⟩ := zbs H
    try dsimp only at H
    obtain ⟨⟨t955, t956, t957⟩, A48, H⟩ := zbs H
    try dsimp only at H
    obtain ⟨⟨t958, t959, t960⟩, A49, H⟩ := zbs H
    try dsimp only at H
    have H' := Aside0.mk H
    clear H
    try go_wp2
    generalize hW_ : (((w37.setCell ⟨gb949, 0, none⟩ (.bool t946)).setCell ⟨gb949, 1, none⟩ (.int .u64 t947)).setCell ⟨gb949, 2, none⟩ (.int .u64 t948)) = w50
    replace BK934 := zkg hW_ (zkf (zkf (zkf BK934.out NB934_949.out _) NB934_949.out _) NB934_949.out _)
    replace BK935 := zkg hW_ (zkf (zkf (zkf BK935.out NB935_949.out _) NB935_949.out _) NB935_949.out _)
    replace BK936 := zkg hW_ (zkf (zkf (zkf BK936.out NB936_949.out _) NB936_949.out _) NB936_949.out _)
    replace BK949 := zkg hW_ (ob := .cells #[.bool t946, .int .u64 t947, .int .u64 t948] 43 (0, 0)) (blk_put (cs := #[.bool t946, .int .u64 t947, .int .u64 0]) (blk_put (cs := #[.bool t946, .int .u64 0, .int .u64 0]) (blk_put BK949.out 0 _ rfl) 1 _ rfl) 2 _ rfl)
    replace HB := zkG hW_ (below_set (below_set (below_set HB.out GW949.out) GW949.out) GW949.out)
    clear hW_
    (try (rw [drewN_self w50]; generalize hq_ : World.drewN w50 _ = w50; replace BK934 := zkg hq_ (zkq BK934); replace BK935 := zkg hq_ (zkq BK935); replace BK936 := zkg hq_ (zkq BK936); replace BK949 := zkg hq_ (zkq BK949); replace HB := zkG hq_ (pw_below_drewN HB.out _); clear hq_))
    replace BK934 := Aside0.mk (blk_drew BK934.out)
    replace BK935 := Aside0.mk (blk_drew BK935.out)
    replace BK936 := Aside0.mk (blk_drew BK936.out)
    replace BK949 := Aside0.mk (blk_drew BK949.out)
    replace HB := Aside0.mk (below_drew1 HB.out)
    refine start_ (n := 7) (S := fun w' => w'.cell? ⟨gb934, 0, none⟩ = some (.bool t937) ∧ w'.cell? ⟨gb934, 1, none⟩ = some (.int .u64 t938) ∧ w'.cell? ⟨gb934, 2, none⟩ = some (.int .u64 t939) ∧ w'.cell? ⟨gb935, 0, none⟩ = some (.bool t940) ∧ w'.cell? ⟨gb935, 1, none⟩ = some (.int .u64 t941) ∧ w'.cell? ⟨gb935, 2, none⟩ = some (.int .u64 t942)) (ds := []) #[false, false, false, false, false, false, false] (by kernel_rfl) rfl rfl (zk3 BK934 (ze3 BK935)) (fun hHeld => ?_)
    generalize w50.drew = w51 at BK934 BK935 BK936 BK949 HB hHeld ⊢
    refine take_ (i := 0) (N := some 22) (v := ?_) (a' := ?_) #[true, false, false, false, false, false, false] rfl rfl (by kernel_rfl) (fun _ _ _ h => h) (Or.inl ⟨by rfl, ?_⟩) hHeld ?_ ?_
    rotate_left
    ·rintro w' ⟨s0, s1, s2, s3, s4, s5⟩
     go_simp
     with_reducible rfl
    rotate_left
    ·simp only [Act.put, List.setIfInBounds_toArray, List.set_cons_zero, List.set_cons_succ, i64_w, i32_w]
     rfl
    refine take_ (i := 1) (N := some 23) (v := ?_) (a' := ?_) #[true, true, false, false, false, false, false] rfl rfl (by kernel_rfl) (fun _ _ _ h => h) (Or.inl ⟨by rfl, ?_⟩) hHeld ?_ ?_
    rotate_left
    ·rintro w' ⟨s0, s1, s2, s3, s4, s5⟩
     go_simp
     with_reducible rfl
    rotate_left
    ·simp only [Act.put, List.setIfInBounds_toArray, List.set_cons_zero, List.set_cons_succ, i64_w, i32_w]
     rfl
    refine one_ (i := 2) (N := some 24) #[true, true, true, false, false, false, false] rfl rfl (by kernel_rfl) (by decide) (fun K hK => ?_)
    refine zgA Try.func114 (span_inf.calls kj4  t951 _ A46.out) (h := ?_)
    rintro w' ⟨nd, rfl⟩
    refine hK.out _ _ (zk3 BK934 (ze3 BK935)) (fun hHeld => ?_)
    clear hK K
    refine znA 24 (h := ?_)
    refine one_ (i := 3) (N := some 25) #[true, true, true, true, false, false, false] rfl rfl (by kernel_rfl) (by decide) (fun K hK => ?_)
    refine zgA Try.func37 (span_Make.calls kj4 0 t951 t952 t953 t954 _ A47.out) (h := ?_)
    rintro w52 hb
    replace BK934 := zkb BK934 hb
    replace BK935 := zkb BK935 hb
    replace BK936 := zkb BK936 hb
    replace BK949 := zkb BK949 hb
    replace HB := zkB HB hb
    (try clear hb)
    refine hK.out _ _ (zk3 BK934 (ze3 BK935)) (fun hHeld => ?_)
    clear hK K
    refine znA 25 (h := ?_)
    refine one_ (i := 4) (N := some 26) #[true, true, true, true, true, false, false] rfl rfl (by kernel_rfl) (by decide) (fun K hK => ?_)
    refine zgA Try.func47 (span_Meet.calls kj4 t940 t941 t942 t952 t953 t954 t955 t956 t957 _ A48.out) (h := ?_)
    rintro w53 hb
    replace BK934 := zkb BK934 hb
    replace BK935 := zkb BK935 hb
    replace BK936 := zkb BK936 hb
    replace BK949 := zkb BK949 hb
    replace HB := zkB HB hb
    (try clear hb)
    refine hK.out _ _ (zk3 BK934 (ze3 BK935)) (fun hHeld => ?_)
    clear hK K
    refine znA 26 (h := ?_)
    refine one_ (i := 5) (N := some 27) #[true, true, true, true, true, true, false] rfl rfl (by kernel_rfl) (by decide) (fun K hK => ?_)
    refine zgA Try.func139 (span_above.calls kj4 t937 t938 t939 t955 t956 t957 t958 t959 t960 _ A49.out) (h := ?_)
    rintro w54 hb
    replace BK934 := zkb BK934 hb
    replace BK935 := zkb BK935 hb
    replace BK936 := zkb BK936 hb
    replace BK949 := zkb BK949 hb
    replace HB := zkB HB hb
    (try clear hb)
    refine hK.out _ _ (zk3 BK934 (ze3 BK935)) (fun hHeld => ?_)
    clear hK K
    refine znA 27 (h := ?_)
    refine one_ (i := 6) (N := none) #[true, true, true, true, true, true, true] rfl rfl (by kernel_rfl) (by decide) (fun K hK => ?_)
    have hs55 := zc0 BK949
    have hfs55 := blk_frozen BK949.out 0
    have hns55_0 := NB934_949.out
    have hns55_1 := NB935_949.out
    have hns55_2 := NB936_949.out
    have hms55_0 := NB949_934.out
    have hms55_1 := NB949_935.out
    have hms55_2 := NB949_936.out
    have hs56 := zc1 BK949
    have hfs56 := blk_frozen BK949.out 1
    have hns56_0 := NB934_949.out
    have hns56_1 := NB935_949.out
    have hns56_2 := NB936_949.out
    have hms56_0 := NB949_934.out
    have hms56_1 := NB949_935.out
    have hms56_2 := NB949_936.out
    have hs57 := zc2 BK949
    have hfs57 := blk_frozen BK949.out 2
    have hns57_0 := NB934_949.out
    have hns57_1 := NB935_949.out
    have hns57_2 := NB936_949.out
    have hms57_0 := NB949_934.out
    have hms57_1 := NB949_935.out
    have hms57_2 := NB949_936.out
    refine skip_ (w1 := ?_) (by rfl) rfl ?_ ?_
    rotate_left
    ·go_simp
     rfl
    refine hK.out _ _ ⟨(zff NB934_949 (zff NB934_949 (zff NB934_949 hHeld.1))), (zff NB934_949 (zff NB934_949 (zff NB934_949 hHeld.2.1))), (zff NB934_949 (zff NB934_949 (zff NB934_949 hHeld.2.2.1))), (zff NB935_949 (zff NB935_949 (zff NB935_949 hHeld.2.2.2.1))), (zff NB935_949 (zff NB935_949 (zff NB935_949 hHeld.2.2.2.2.1))), (zff NB935_949 (zff NB935_949 (zff NB935_949 hHeld.2.2.2.2.2)))⟩ (fun hHeld => ?_)
    clear hK K
    refine done_ (by kernel_rfl) ?_
    try go_wp2
    go_meet
    case rel => exact ⟨_, (t958), (t959), (t960), H', ⟨by have := HJ4.out; first | omega | exact Nat.le_refl _⟩, ⟨(zkf (zkf (zkf (zkq BK934) NB934_949.out _) NB934_949.out _) NB934_949.out _)⟩, ⟨(zkf (zkf (zkf (zkq BK935) NB935_949.out _) NB935_949.out _) NB935_949.out _)⟩, ⟨(zkf (zkf (zkf (zkq BK936) NB936_949.out _) NB936_949.out _) NB936_949.out _)⟩, ⟨(blk_put (cs := #[.bool t958, .int .u64 t959, .int .u64 t948]) (blk_put (cs := #[.bool t958, .int .u64 t947, .int .u64 t948]) (blk_put (zkq BK949) 0 _ rfl) 1 _ rfl) 2 _ rfl)⟩, ⟨zaB⟩⟩
   case rest =>
    clear HC35
    try clear c1
    try clear c2
    try clear p2
    try clear c3
    try clear c4
    try clear c6
    try clear c11
    try clear c13
    try clear c18
    try clear c19
    try clear c20
    try clear c22
    try clear c23
    try clear c25
    try clear c27
    try clear c30
    try clear c31
    try clear c37
    try clear c38
    try clear c39
    try clear c40
    try clear c42
    try clear c43
    try clear c45
    try clear c47
    try clear z21_0
    try clear z21_1
    try clear z21_2
    try clear z24_0
    try clear z24_1
    try clear z24_2
    try clear z26_0
    try clear z26_1
    try clear z26_2
    try clear z32_0
    try clear z32_1
    try clear z32_2
    try clear z41_0
    try clear z41_1
    try clear z41_2
    try clear z44_0
    try clear z44_1
    try clear z44_2
    try clear f21_0
    try clear f21_1
    try clear f21_2
    try clear f24_0
    try clear f24_1
    try clear f24_2
    try clear f26_0
    try clear f26_1
    try clear f26_2
    try clear f32_0
    try clear f32_1
    try clear f32_2
    try clear f41_0
    try clear f41_1
    try clear f41_2
    try clear f44_0
    try clear f44_1
    try clear f44_2
    try clear p2
    obtain ⟨kq, x950000_34, x950001_34, x950002_34, HA, HJ34, BK934, BK935, BK936, BK949, HB⟩ := hcut
    cases kq with
    | zero => exact absurd HA.out (by simp [span_Div.j1])
    | succ kj34 =>
     have H := HA.out
     clear HA
     simp only [span_Div.j1] at H
     obtain ⟨t961, A58, H⟩ := zbs H
     try dsimp only at H
     by_cases c59 : t961 = true
     ·subst c59
      replace H := zit H
      simp only [Option.some.injEq, Prod.mk.injEq] at H
      obtain ⟨rfl, rfl, rfl⟩ := H
      obtain ⟨_, _⟩ := zsy NB935_934
      obtain ⟨_, _⟩ := zsy NB935_936
      obtain ⟨_, _⟩ := zsy NB935_949
      obtain ⟨_, _, _, _, _, _⟩ := zq3 BK935
      go_wp2_with (first | ((with_reducible refine gtc 117 rfl ?_); refine zgL 30 Try.func117 (span_atMost.calls kj34 0 t941 true _ A58.out) (h := ?_); rintro w' ⟨nd, rfl⟩; (try (rw [drewN_self wc]; generalize hq_ : World.drewN wc _ = wc; have n0_ : Aside0 (wc.heap[gb934]? = some (.cells #[.bool t937, .int .u64 t938, .int .u64 t939] 43 (0, 0))) := ⟨by rw [← hq_]; exact (zkq BK934)⟩; have n1_ : Aside0 (wc.heap[gb935]? = some (.cells #[.bool t940, .int .u64 t941, .int .u64 t942] 43 (0, 0))) := ⟨by rw [← hq_]; exact (zkq BK935)⟩; have n2_ : Aside0 (wc.heap[gb936]? = some (.cells #[.bool false, .int .u64 0, .int .u64 0] 43 (0, 0))) := ⟨by rw [← hq_]; exact (zkq BK936)⟩; have n3_ : Aside0 (wc.heap[gb949]? = some (.cells #[.bool x950000_34, .int .u64 x950001_34, .int .u64 x950002_34] 43 (0, 0))) := ⟨by rw [← hq_]; exact (zkq BK949)⟩; have n4_ : Aside0 (Below w.heap.size w wc) := ⟨by rw [← hq_]; exact zaB⟩; clear BK934 BK935 BK936 BK949 HB hq_; have BK934 := n0_; have BK935 := n1_; have BK936 := n2_; have BK949 := n3_; have HB := n4_; clear n0_ n1_ n2_ n3_ n4_; have hdq934_0 := zc0 BK934; have hdq934_1 := zc1 BK934; have hdq934_2 := zc2 BK934; have hdq934_f := zfz BK934; have hdq935_0 := zc0 BK935; have hdq935_1 := zc1 BK935; have hdq935_2 := zc2 BK935; have hdq935_f := zfz BK935; have hdq936_0 := zc0 BK936; have hdq936_1 := zc1 BK936; have hdq936_2 := zc2 BK936; have hdq936_f := zfz BK936; have hdq949_0 := zc0 BK949; have hdq949_1 := zc1 BK949; have hdq949_2 := zc2 BK949; have hdq949_f := zfz BK949)); obtain ⟨_, _⟩ := zsy NB949_934; obtain ⟨_, _⟩ := zsy NB949_936; obtain ⟨_, _, _, _, _, _⟩ := zq3 BK949; obtain ⟨_, _⟩ := zsy NB936_934; obtain ⟨_, _, _, _, _, _⟩ := zq3 BK936))
      refine bodyPost_ret (results_cell_row rfl _ _ gb936 43 #[.bool x950000_34, .int .u64 x950001_34, .int .u64 x950002_34] (0, 0) _ rfl (blk_put (cs := #[.bool x950000_34, .int .u64 x950001_34, .int .u64 0]) (blk_put (cs := #[.bool x950000_34, .int .u64 0, .int .u64 0]) (blk_put (zkq BK936) 0 _ rfl) 1 _ rfl) 2 _ rfl) Try.underlying43 rfl (by kernel_rfl)) rfl ?_
      exact ⟨zaE, zaB⟩
     replace c59 := Bool.eq_false_iff.mpr c59
     subst c59
     replace H := zif H
     obtain ⟨t962, A69, H⟩ := zbs H
     try dsimp only at H
     obtain ⟨⟨t963, t964, t965⟩, A70, H⟩ := zbs H
     try dsimp only at H
     obtain ⟨⟨t966, t967, t968⟩, A71, H⟩ := zbs H
     try dsimp only at H
     obtain ⟨⟨t969, t970, t971⟩, A72, H⟩ := zbs H
     try dsimp only at H
     obtain ⟨⟨t972, t973, t974⟩, A73, H⟩ := zbs H
     try dsimp only at H
     obtain ⟨⟨t975, t976, t977⟩, A74, H⟩ := zbs H
     try dsimp only at H
     obtain ⟨y978, hy978⟩ : ∃ y_ : List (S43), y_ = (([(⟨x950000_34, x950001_34, x950002_34⟩ : S43), (⟨t975, t976, t977⟩ : S43)] : List (S43))) := ⟨_, rfl⟩
     replace H : ((span_Join.f kj34 y978).bind fun bt981 => (some (bt981.1, bt981.2.1, bt981.2.2))) = some (r1, r2, r3) := by first | (rw [hy978]; with_reducible exact H) | (have H2_ := (Option.bind_some _ _).symm.trans H; rw [hy978]; with_reducible exact H2_) | (have H2_ := (Option.bind_some _ _).symm.trans H; with_reducible exact H2_) | with_reducible exact H | (rw [hy978]; exact H) | exact H
     have Ny978 := Aside0.mk hy978
     clear hy978
     obtain ⟨⟨t981, t982, t983⟩, A75, H⟩ := zbs H
     try dsimp only at H
     simp only [Option.some.injEq, Prod.mk.injEq] at H
     obtain ⟨rfl, rfl, rfl⟩ := H
     obtain ⟨_, _⟩ := zsy NB935_934
     obtain ⟨_, _⟩ := zsy NB935_936
     obtain ⟨_, _⟩ := zsy NB935_949
     obtain ⟨_, _, _, _, _, _⟩ := zq3 BK935
     try go_wp2_with (first | ((with_reducible refine gtc 117 rfl ?_); refine zgL 30 Try.func117 (span_atMost.calls kj34 0 t941 false _ A58.out) (h := ?_); rintro w' ⟨nd, rfl⟩; (try (rw [drewN_self wc]; generalize hq_ : World.drewN wc _ = wc; have n0_ : Aside0 (wc.heap[gb934]? = some (.cells #[.bool t937, .int .u64 t938, .int .u64 t939] 43 (0, 0))) := ⟨by rw [← hq_]; exact (zkq BK934)⟩; have n1_ : Aside0 (wc.heap[gb935]? = some (.cells #[.bool t940, .int .u64 t941, .int .u64 t942] 43 (0, 0))) := ⟨by rw [← hq_]; exact (zkq BK935)⟩; have n2_ : Aside0 (wc.heap[gb936]? = some (.cells #[.bool false, .int .u64 0, .int .u64 0] 43 (0, 0))) := ⟨by rw [← hq_]; exact (zkq BK936)⟩; have n3_ : Aside0 (wc.heap[gb949]? = some (.cells #[.bool x950000_34, .int .u64 x950001_34, .int .u64 x950002_34] 43 (0, 0))) := ⟨by rw [← hq_]; exact (zkq BK949)⟩; have n4_ : Aside0 (Below w.heap.size w wc) := ⟨by rw [← hq_]; exact zaB⟩; clear BK934 BK935 BK936 BK949 HB hq_; have BK934 := n0_; have BK935 := n1_; have BK936 := n2_; have BK949 := n3_; have HB := n4_; clear n0_ n1_ n2_ n3_ n4_; have hdq934_0 := zc0 BK934; have hdq934_1 := zc1 BK934; have hdq934_2 := zc2 BK934; have hdq934_f := zfz BK934; have hdq935_0 := zc0 BK935; have hdq935_1 := zc1 BK935; have hdq935_2 := zc2 BK935; have hdq935_f := zfz BK935; have hdq936_0 := zc0 BK936; have hdq936_1 := zc1 BK936; have hdq936_2 := zc2 BK936; have hdq936_f := zfz BK936; have hdq949_0 := zc0 BK949; have hdq949_1 := zc1 BK949; have hdq949_2 := zc2 BK949; have hdq949_f := zfz BK949))))
     (try (rw [drewN_self wc]; generalize hq_ : World.drewN wc _ = wc; replace BK934 := zkg hq_ (zkq BK934); replace BK935 := zkg hq_ (zkq BK935); replace BK936 := zkg hq_ (zkq BK936); replace BK949 := zkg hq_ (zkq BK949); replace HB := zkG hq_ (pw_below_drewN HB.out _); clear hq_))
     replace BK934 := Aside0.mk (blk_drew BK934.out)
     replace BK935 := Aside0.mk (blk_drew BK935.out)
     replace BK936 := Aside0.mk (blk_drew BK936.out)
     replace BK949 := Aside0.mk (blk_drew BK949.out)
     replace HB := Aside0.mk (below_drew1 HB.out)
     refine start_ (n := 12) (S := fun w' => w'.cell? ⟨gb949, 0, none⟩ = some (.bool x950000_34) ∧ w'.cell? ⟨gb949, 1, none⟩ = some (.int .u64 x950001_34) ∧ w'.cell? ⟨gb949, 2, none⟩ = some (.int .u64 x950002_34) ∧ w'.cell? ⟨gb934, 0, none⟩ = some (.bool t937) ∧ w'.cell? ⟨gb934, 1, none⟩ = some (.int .u64 t938) ∧ w'.cell? ⟨gb934, 2, none⟩ = some (.int .u64 t939) ∧ w'.cell? ⟨gb935, 0, none⟩ = some (.bool t940) ∧ w'.cell? ⟨gb935, 1, none⟩ = some (.int .u64 t941) ∧ w'.cell? ⟨gb935, 2, none⟩ = some (.int .u64 t942)) (ds := [11]) #[false, false, false, false, false, false, false, false, false, false, false, false] (by kernel_rfl) rfl rfl (zk3 BK949 (zk3 BK934 (ze3 BK935))) (fun hHeld => ?_); refine with_tabW span_Div.tab8 span_Div.bits8 (fun HT_ HW_ => ?_)
     generalize wc.drew = w80 at BK934 BK935 BK936 BK949 HB hHeld ⊢
     refine ztA 0 32 (h := ?_)
     refine ztA 1 33 (h := ?_)
     refine ztA 2 34 (h := ?_)
     refine zoA 3 35 (h := fun K hK => ?_)
     refine zgA Try.func113 (span_ninf.calls kj34  t962 _ A69.out) (h := ?_)
     rintro w' ⟨nd, rfl⟩
     refine hK.out _ _ (zk3 BK949 (zk3 BK934 (ze3 BK935))) (fun hHeld => ?_)
     clear hK K
     refine znA 35 (h := ?_)
     refine zoA 4 36 (h := fun K hK => ?_)
     refine zgA Try.func37 (span_Make.calls kj34 t962 0 t963 t964 t965 _ A70.out) (h := ?_)
     rintro w81 hb
     replace BK934 := zkb BK934 hb
     replace BK935 := zkb BK935 hb
     replace BK936 := zkb BK936 hb
     replace BK949 := zkb BK949 hb
     replace HB := zkB HB hb
     (try clear hb)
     refine hK.out _ _ (zk3 BK949 (zk3 BK934 (ze3 BK935))) (fun hHeld => ?_)
     clear hK K
     refine znA 36 (h := ?_)
     refine zoA 5 37 (h := fun K hK => ?_)
     refine zgA Try.func47 (span_Meet.calls kj34 t940 t941 t942 t963 t964 t965 t966 t967 t968 _ A71.out) (h := ?_)
     rintro w82 hb
     replace BK934 := zkb BK934 hb
     replace BK935 := zkb BK935 hb
     replace BK936 := zkb BK936 hb
     replace BK949 := zkb BK949 hb
     replace HB := zkB HB hb
     (try clear hb)
     refine hK.out _ _ (zk3 BK949 (zk3 BK934 (ze3 BK935))) (fun hHeld => ?_)
     clear hK K
     refine znA 37 (h := ?_)
     refine zoA 6 38 (h := fun K hK => ?_)
     refine zgA Try.func111 (span_Neg.calls kj34 t966 t967 t968 t969 t970 t971 _ A72.out) (h := ?_)
     rintro w83 hb
     replace BK934 := zkb BK934 hb
     replace BK935 := zkb BK935 hb
     replace BK936 := zkb BK936 hb
     replace BK949 := zkb BK949 hb
     replace HB := zkB HB hb
     (try clear hb)
     refine hK.out _ _ (zk3 BK949 (zk3 BK934 (ze3 BK935))) (fun hHeld => ?_)
     clear hK K
     refine znA 38 (h := ?_)
     refine zoA 7 39 (h := fun K hK => ?_)
     refine zgA Try.func139 (span_above.calls kj34 t937 t938 t939 t969 t970 t971 t972 t973 t974 _ A73.out) (h := ?_)
     rintro w84 hb
     replace BK934 := zkb BK934 hb
     replace BK935 := zkb BK935 hb
     replace BK936 := zkb BK936 hb
     replace BK949 := zkb BK949 hb
     replace HB := zkB HB hb
     (try clear hb)
     refine hK.out _ _ (zk3 BK949 (zk3 BK934 (ze3 BK935))) (fun hHeld => ?_)
     clear hK K
     refine znA 39 (h := ?_)
     refine zoA 8 40 (h := fun K hK => ?_)
     refine zgA Try.func111 (span_Neg.calls kj34 t972 t973 t974 t975 t976 t977 _ A74.out) (h := ?_)
     rintro w85 hb
     replace BK934 := zkb BK934 hb
     replace BK935 := zkb BK935 hb
     replace BK936 := zkb BK936 hb
     replace BK949 := zkb BK949 hb
     replace HB := zkB HB hb
     (try clear hb)
     refine hK.out _ _ (zk3 BK949 (zk3 BK934 (ze3 BK935))) (fun hHeld => ?_)
     clear hK K
     refine znA 40 (h := ?_)
     refine zoA 9 41 (h := fun K hK => ?_)
     refine Kd.R_lit_step k43 _ 43 ?hg (N := 41) ?hd (xs := ([(⟨x950000_34, x950001_34, x950002_34⟩ : S43), (⟨t975, t976, t977⟩ : S43)] : List (S43))) (inner := [.bool x950000_34, .int .u64 x950001_34, .int .u64 x950002_34, .bool t975, .int .u64 t976, .int .u64 t977]) (ok := fun _ => True) (okp := fun _ => True) ?hr ?hp (fun _ hk => hk) trivial (Below.refl _ _) (Nat.le_refl _) (by simp) ?_; (case hd => rfl); (case hg => rfl); (case hr => first | (go_simp; done) | (go_simp; rfl)); (case hp => exact (Reps.c3 (show Kd.M k43 _ _ _ (⟨x950000_34, x950001_34, x950002_34⟩ : S43) [.bool x950000_34, .int .u64 x950001_34, .int .u64 x950002_34] from (k43_mkM _ _ _ (⟨x950000_34, x950001_34, x950002_34⟩ : S43) )) (Reps.c3 (show Kd.M k43 _ _ _ (⟨t975, t976, t977⟩ : S43) [.bool t975, .int .u64 t976, .int .u64 t977] from (k43_mkM _ _ _ (⟨t975, t976, t977⟩ : S43) )) (Reps.none _ _))))
     intro v979 w86 ho87 hb hg_ hnew_
     clear hg_ hnew_
     (first | rw [← Ny978.out] at ho87 | (simp only [Int.reduceToNat] at ho87; rw [← Ny978.out] at ho87))
     have HO980 := Aside0.mk (Kd.R_lower (Kd.R_newB (Kd.R_newB (Kd.R_newB (Kd.R_newB ho87 (g := gb934) (o := .cells #[.bool t937, .int .u64 t938, .int .u64 t939] 43 (0, 0)) (zkq BK934)) (g := gb935) (o := .cells #[.bool t940, .int .u64 t941, .int .u64 t942] 43 (0, 0)) (zkq BK935)) (g := gb936) (o := .cells #[.bool false, .int .u64 0, .int .u64 0] 43 (0, 0)) (zkq BK936)) (g := gb949) (o := .cells #[.bool x950000_34, .int .u64 x950001_34, .int .u64 x950002_34] 43 (0, 0)) (zkq BK949)) (below_size zaB))
     replace BK934 := zkb BK934 hb
     replace BK935 := zkb BK935 hb
     replace BK936 := zkb BK936 hb
     replace BK949 := zkb BK949 hb
     replace HB := zkB HB hb
     clear hb ho87
     obtain ⟨Ao88, co88, eo88⟩ := Kd.R_slice HO980.out
     (first | subst eo88 | (injection eo88 with f1_ f2_ f3_; have f4_ := f1_.symm; have f5_ := f3_.symm; clear f1_ f2_ f3_; subst f4_; subst f5_))
     refine hK.out _ _ (zk3 BK949 (zk3 BK934 (ze3 BK935))) (fun hHeld => ?_)
     clear hK K
     refine znA 41 (h := ?_)
     refine zoA 10 42 (h := fun K hK => ?_)
     refine goes_ Try.func45 (by kernel_rfl) rfl #[.slice Ao88 y978.length co88] (by rfl) rfl rfl (by (try simp only [List.map_toArray, List.map_cons, List.map_nil]); first | done | rfl | (simp only [List.length_drop, List.length_take]; rfl)) ?_
     with_reducible refine (span_Join.calls kj34 _ _ y978 t981 t982 t983 _ ?side1 ?side2 A75.out).mono ?_
     (case side1 => repeat (first | exact (Kd.R_reads' HO980.out).2.2 | (with_reducible refine Kd.C_alloc ?_ _) | (with_reducible refine Kd.C_drewN ?_ _) | (with_reducible refine Kd.C_drew ?_)))
     (case side2 => exact (Kd.R_reads' HO980.out).2.1)
     rintro e w89 ⟨rfl, hb⟩
     refine ⟨_, rfl, ?_⟩
     replace HO980 := Aside0.mk (Kd.R_below (by (with_reducible repeat (first | apply Kd.R_alloc | apply Kd.R_drewN | apply Kd.R_drew)); exact HO980.out) hb)
     replace BK934 := zkb BK934 hb
     replace BK935 := zkb BK935 hb
     replace BK936 := zkb BK936 hb
     replace BK949 := zkb BK949 hb
     replace HB := zkB HB hb
     (try clear hb)
     refine hK.out _ _ (zk3 BK949 (zk3 BK934 (ze3 BK935))) (fun hHeld => ?_)
     clear hK K
     refine znA 42 (h := ?_)
     refine last_ (i := 11) (N := none) #[true, true, true, true, true, true, true, true, true, true, true, true] rfl rfl (one_of HT_.out (by kernel_rfl)) (by decide) (fun K hK => ?_)
     have hs90 := zc0 BK949
     have hfs90 := blk_frozen BK949.out 0
     have hns90_0 := NB934_949.out
     have hns90_1 := NB935_949.out
     have hns90_2 := NB936_949.out
     have hms90_0 := NB949_934.out
     have hms90_1 := NB949_935.out
     have hms90_2 := NB949_936.out
     have hs91 := zc1 BK949
     have hfs91 := blk_frozen BK949.out 1
     have hns91_0 := NB934_949.out
     have hns91_1 := NB935_949.out
     have hns91_2 := NB936_949.out
     have hms91_0 := NB949_934.out
     have hms91_1 := NB949_935.out
     have hms91_2 := NB949_936.out
     have hs92 := zc2 BK949
     have hfs92 := blk_frozen BK949.out 2
     have hns92_0 := NB934_949.out
     have hns92_1 := NB935_949.out
     have hns92_2 := NB936_949.out
     have hms92_0 := NB949_934.out
     have hms92_1 := NB949_935.out
     have hms92_2 := NB949_936.out
     refine skip_ (w1 := ?_) (by rfl) rfl ?_ ?_
     rotate_left
     ·go_simp
      rfl
     refine hK.out _ _ ?_
     clear hK K
     refine done_ (done_of HT_.out (by kernel_rfl)) ?_
     obtain ⟨_, _⟩ := zsy NB949_934
     obtain ⟨_, _⟩ := zsy NB949_936
     obtain ⟨_, _, _, _, _, _⟩ := zq3 BK949
     obtain ⟨_, _⟩ := zsy NB936_934
     obtain ⟨_, _, _, _, _, _⟩ := zq3 BK936
     try go_wp2
     refine bodyPost_ret (results_cell_row rfl _ _ gb936 43 #[.bool t981, .int .u64 t982, .int .u64 t983] (0, 0) _ rfl (blk_put (cs := #[.bool t981, .int .u64 t982, .int .u64 0]) (blk_put (cs := #[.bool t981, .int .u64 0, .int .u64 0]) (blk_put (zkf (zkf (zkf (zkq BK936) NB936_949.out _) NB936_949.out _) NB936_949.out _) 0 _ rfl) 1 _ rfl) 2 _ rfl) Try.underlying43 rfl (by kernel_rfl)) rfl ?_
     exact ⟨zaE, zaB⟩
theorem eqA43 (d : Nat) (w : World) (x0 y0 : Bool) (x1 y1 : Int) (x2 y2 : Int) :
  (Op.equalIn (d + 2) 43 (.agg #[.bool x0, .int .u64 x1, .int .u64 x2]) (.agg #[.bool y0, .int .u64 y1, .int .u64 y2])).run Try.prog w = .ok (x0 == y0 && (x1 == y1 && (x2 == y2))) w := by
 refine eqA_of Try.underlying43 (by kernel_rfl) ?_
 refine eqf_cons (by rfl) (by go_simp; rfl) (by go_simp; rfl) (by go_simp) ?_
 refine eqf_cons (by rfl) (by go_simp; rfl) (by go_simp; rfl) (by go_simp) ?_
 exact eqf_last (by rfl) (by go_simp; rfl) (by go_simp; rfl) (by go_simp)
theorem span_Point.calls (k : Nat) (a0 : Int) (r1 : Bool) (r2 : Int) (r3 : Int) (w : World) (h : span_Point.f k a0 = some (r1, r2, r3)) :
  Calls Try.prog 39 #[.int .u64 a0] w fun e w' => e = .returned (.agg #[.bool r1, .int .u64 r2, .int .u64 r3]) ∧ Below w.heap.size w w' := by
 have hu43 := Try.underlying43
 have HB := Aside0.mk (Below.refl w.heap.size w)
 have H : ((span_Make.f k a0 a0).bind fun bt722 => (some (bt722.1, bt722.2.1, bt722.2.2))) = some (r1, r2, r3) := h
 clear h
 obtain ⟨⟨t722, t723, t724⟩, A2, H⟩ := zbs H
 try dsimp only at H
 simp only [Option.some.injEq, Prod.mk.injEq] at H
 obtain ⟨rfl, rfl, rfl⟩ := H
 go_enter Try.func39, Try.ntmps39
 go_wp2_with (first | ((with_reducible refine gtd 2 rfl ?_); refine zbx 2 #[.bool false, .int .u64 0, .int .u64 0] 43 (h := ?_); intro gb721 hg w3 hbox hb; have GW721 := zkZ hg (zaB (p := Below w.heap.size w _)); replace HB := Aside0.mk (below_step zaB hb); have BK721 := Aside0.mk (hbox); clear hb hbox hg) | ((with_reducible refine gtc 37 rfl ?_); refine zgL 5 Try.func37 (span_Make.calls k a0 a0 t722 t723 t724 _ A2.out) (h := ?_); rintro w4 hb; replace BK721 := zkb BK721 hb; replace HB := zkB HB hb; (try clear hb); obtain ⟨_, _, _, _, _, _⟩ := zq3 BK721))
 refine bodyPost_ret (results_cell_row rfl _ _ gb721 43 #[.bool t722, .int .u64 t723, .int .u64 t724] (0, 0) _ rfl (blk_put (cs := #[.bool t722, .int .u64 t723, .int .u64 0]) (blk_put (cs := #[.bool t722, .int .u64 0, .int .u64 0]) (blk_put (zkq BK721) 0 _ rfl) 1 _ rfl) 2 _ rfl) Try.underlying43 rfl (by kernel_rfl)) rfl ?_
 exact ⟨zaE, zaB⟩
theorem span_All.calls (k : Nat)  (r1 : Bool) (r2 : Int) (r3 : Int) (w : World) (h : span_All.f k  = some (r1, r2, r3)) :
  Calls Try.prog 40 #[] w fun e w' => e = .returned (.agg #[.bool r1, .int .u64 r2, .int .u64 r3]) ∧ Below w.heap.size w w' := by
 have hu43 := Try.underlying43
 have HB := Aside0.mk (Below.refl w.heap.size w)
 have H : ((span_ninf.f k).bind fun t726 => ((span_inf.f k).bind fun t727 => ((span_Make.f k t726 t727).bind fun bt728 => (some (bt728.1, bt728.2.1, bt728.2.2))))) = some (r1, r2, r3) := h
 clear h
 obtain ⟨t726, A1, H⟩ := zbs H
 try dsimp only at H
 obtain ⟨t727, A2, H⟩ := zbs H
 try dsimp only at H
 obtain ⟨⟨t728, t729, t730⟩, A3, H⟩ := zbs H
 try dsimp only at H
 simp only [Option.some.injEq, Prod.mk.injEq] at H
 obtain ⟨rfl, rfl, rfl⟩ := H
 go_enter Try.func40, Try.ntmps40
 go_wp2_with (first | ((with_reducible refine gtd 0 rfl ?_); refine zbx 0 #[.bool false, .int .u64 0, .int .u64 0] 43 (h := ?_); intro gb725 hg w4 hbox hb; have GW725 := zkZ hg (zaB (p := Below w.heap.size w _)); replace HB := Aside0.mk (below_step zaB hb); have BK725 := Aside0.mk (hbox); clear hb hbox hg) | ((with_reducible refine gtc 113 rfl ?_); refine zgL 1 Try.func113 (span_ninf.calls k  t726 _ A1.out) (h := ?_); rintro w' ⟨nd, rfl⟩; (try (rw [drewN_self w4]; generalize hq_ : World.drewN w4 _ = w4; have n0_ : Aside0 (w4.heap[gb725]? = some (.cells #[.bool false, .int .u64 0, .int .u64 0] 43 (0, 0))) := ⟨by rw [← hq_]; exact (zkq BK725)⟩; have n1_ : Aside0 (Below w.heap.size w w4) := ⟨by rw [← hq_]; exact zaB⟩; clear BK725 HB hq_; have BK725 := n0_; have HB := n1_; clear n0_ n1_))) | ((with_reducible refine gtc 114 rfl ?_); refine zgL 2 Try.func114 (span_inf.calls k  t727 _ A2.out) (h := ?_); rintro w' ⟨nd, rfl⟩; (try (rw [drewN_self w4]; generalize hq_ : World.drewN w4 _ = w4; have n0_ : Aside0 (w4.heap[gb725]? = some (.cells #[.bool false, .int .u64 0, .int .u64 0] 43 (0, 0))) := ⟨by rw [← hq_]; exact (zkq BK725)⟩; have n1_ : Aside0 (Below w.heap.size w w4) := ⟨by rw [← hq_]; exact zaB⟩; clear BK725 HB hq_; have BK725 := n0_; have HB := n1_; clear n0_ n1_))) | ((with_reducible refine gtc 37 rfl ?_); refine zgL 3 Try.func37 (span_Make.calls k t726 t727 t728 t729 t730 _ A3.out) (h := ?_); rintro w5 hb; replace BK725 := zkb BK725 hb; replace HB := zkB HB hb; (try clear hb); obtain ⟨_, _, _, _, _, _⟩ := zq3 BK725))
 refine bodyPost_ret (results_cell_row rfl _ _ gb725 43 #[.bool t728, .int .u64 t729, .int .u64 t730] (0, 0) _ rfl (blk_put (cs := #[.bool t728, .int .u64 t729, .int .u64 0]) (blk_put (cs := #[.bool t728, .int .u64 0, .int .u64 0]) (blk_put (zkq BK725) 0 _ rfl) 1 _ rfl) 2 _ rfl) Try.underlying43 rfl (by kernel_rfl)) rfl ?_
 exact ⟨zaE, zaB⟩
def span_Has.T1 : Bool × List (List Nat × List Nat) := (true, [([], []), ([0], [0]), ([1], [1]), ([2, 1], [2]), ([3], [3]), ([4, 3, 3], [3, 4]), ([5, 3], [3, 5]), ([6, 3], [3, 6]), ([3, 7], [3, 7]), ([8, 5], [8]), ([9], [9]), ([10, 9, 9], [9, 10]), ([9], [9]), ([11, 12, 11, 9], [9, 11, 12]), ([9, 13], [9, 13]), ([14, 13, 0, 1, 2, 3, 4, 5, 6, 7, 8, 9, 10, 11, 12, 13, 14], [14])])
def span_Has.B1 : List Nat := [0, 1, 3, 7, 15, 31, 63, 127, 255, 511, 1023, 2047, 1023, 8191, 16383, 32767]
theorem span_Has.tab1 : rtab .any (opsOf Try.f41 1) = span_Has.T1 := by kernel_rfl
theorem span_Has.bits1 : waitsOk span_Has.T1.2 span_Has.B1 = true := by kernel_rfl
theorem span_Has.calls (k : Nat) (a0_0 : Bool) (a0_1 : Int) (a0_2 : Int) (a1 : Int) (r : Bool) (w : World) (h : span_Has.f k a0_0 a0_1 a0_2 a1 = some r) :
  Calls Try.prog 41 #[.agg #[.bool a0_0, .int .u64 a0_1, .int .u64 a0_2], .int .u64 a1] w fun e w' => e = .returned (.bool r) ∧ Below w.heap.size w w' := by
 have hu43 := Try.underlying43
 have hfd0_ : ∀ (b : Bool) (x y : Int) (w : World), (Instr.field 43 (.agg #[.bool b, .int .u64 x, .int .u64 y]) 0).run Try.prog w = .ok (.bool b) w := fun _ _ _ _ => by kernel_rfl
 have hfd1_ : ∀ (b : Bool) (x y : Int) (w : World), (Instr.field 43 (.agg #[.bool b, .int .u64 x, .int .u64 y]) 1).run Try.prog w = .ok (.int .u64 x) w := fun _ _ _ _ => by kernel_rfl
 have hfd2_ : ∀ (b : Bool) (x y : Int) (w : World), (Instr.field 43 (.agg #[.bool b, .int .u64 x, .int .u64 y]) 2).run Try.prog w = .ok (.int .u64 y) w := fun _ _ _ _ => by kernel_rfl
 have HB := Aside0.mk (Below.refl w.heap.size w)
 have H : ((pattern_Class.f k a1).bind fun t742 => (if t742 = 3 then (some false) else ((span_Point.f k a1).bind fun bt743 => (if bt743.1 = true then (some false) else ((span_Point.f k a1).bind fun bt746 => ((span_Inside.f k bt746.1 bt746.2.1 bt746.2.2 a0_0 a0_1 a0_2).bind fun t749 => (some t749))))))) = some r := h
 clear h
 obtain ⟨t742, A3, H⟩ := zbs H
 try dsimp only at H
 by_cases c4 : t742 = 3
 ·rw [if_pos c4] at H
  have c4b0 : (t742 == 3) = true := beq_iff_eq.mpr c4
  have c4b1 : (t742 != 3) = false := bne_eq_false_iff_eq.mpr c4
  clear c4
  obtain rfl := Option.some.inj H
  go_enter Try.func41, Try.ntmps41
  try go_wp2_with (first | ((with_reducible refine gtd 2 rfl ?_); refine zbx 2 #[.bool a0_0, .int .u64 a0_1, .int .u64 a0_2] 43 (h := ?_); intro gb741 hg w5 hbox hb; have GW741 := zkZ hg (zaB (p := Below w.heap.size w _)); replace HB := Aside0.mk (below_step zaB hb); have BK741 := Aside0.mk (hbox); clear hb hbox hg))
  replace BK741 := Aside0.mk (blk_drew BK741.out)
  replace HB := Aside0.mk (below_drew1 HB.out)
  refine start_ (n := 16) (S := fun w' => True) (ds := []) #[false, false, false, false, false, false, false, false, false, false, false, false, false, false, false, false] (by kernel_rfl) rfl rfl trivial (fun hHeld => ?_); refine with_tabW span_Has.tab1 span_Has.bits1 (fun HT_ HW_ => ?_)
  generalize w5.drew = w6 at BK741 HB hHeld ⊢
  refine zpA 0 5 (h := ?_)
  refine zoA 1 6 (h := fun K hK => ?_)
  refine zgA Try.func24 (pattern_Class.calls k a1 t742 _ A3.out) (h := ?_)
  rintro w' ⟨nd, rfl⟩
  refine hK.out _ _ trivial (fun hHeld => ?_)
  clear hK K
  refine znA 6 (h := ?_)
  refine zpA 2 7 (h := ?_)
  refine zpA 3 8 (h := ?_)
  refine zpU 4 9 (h := ?_)
  refine zpU 5 10 (h := ?_)
  refine zpU 6 11 (h := ?_)
  refine zpU 7 12 (h := ?_)
  refine zpA 8 13 (h := ?_)
  refine zpA 9 14 (h := ?_)
  refine zpU 10 15 (h := ?_)
  refine zpU 11 16 (h := ?_)
  refine zpU 12 17 (h := ?_)
  refine zpU 13 18 (h := ?_)
  refine zpA 14 19 (h := ?_)
  refine zpA 15 4 (h := ?_)
  refine done_ (done_of HT_.out (by kernel_rfl)) ?_
  try go_wp2
  go_ret
  exact ⟨zaE, zaB⟩
 rw [if_neg c4] at H
 have c4b0 : (t742 == 3) = false := beq_eq_false_iff_ne.mpr c4
 have c4b1 : (t742 != 3) = true := bne_iff_ne.mpr c4
 obtain ⟨⟨t743, t744, t745⟩, A7, H⟩ := zbs H
 try dsimp only at H
 by_cases c8 : t743 = true
 ·subst c8
  replace H := zit H
  obtain rfl := Option.some.inj H
  go_enter Try.func41, Try.ntmps41
  try go_wp2_with (first | ((with_reducible refine gtd 2 rfl ?_); refine zbx 2 #[.bool a0_0, .int .u64 a0_1, .int .u64 a0_2] 43 (h := ?_); intro gb741 hg w9 hbox hb; have GW741 := zkZ hg (zaB (p := Below w.heap.size w _)); replace HB := Aside0.mk (below_step zaB hb); have BK741 := Aside0.mk (hbox); clear hb hbox hg))
  replace BK741 := Aside0.mk (blk_drew BK741.out)
  replace HB := Aside0.mk (below_drew1 HB.out)
  refine start_ (n := 16) (S := fun w' => True) (ds := []) #[false, false, false, false, false, false, false, false, false, false, false, false, false, false, false, false] (by kernel_rfl) rfl rfl trivial (fun hHeld => ?_); refine with_tabW span_Has.tab1 span_Has.bits1 (fun HT_ HW_ => ?_)
  generalize w9.drew = w10 at BK741 HB hHeld ⊢
  refine zpA 0 5 (h := ?_)
  refine zoA 1 6 (h := fun K hK => ?_)
  refine zgA Try.func24 (pattern_Class.calls k a1 t742 _ A3.out) (h := ?_)
  rintro w' ⟨nd, rfl⟩
  refine hK.out _ _ trivial (fun hHeld => ?_)
  clear hK K
  refine znA 6 (h := ?_)
  refine zpA 2 7 (h := ?_)
  refine zpA 3 8 (h := ?_)
  refine zpA 4 9 (h := ?_)
  refine zoA 5 10 (h := fun K hK => ?_)
  refine zgA Try.func39 (span_Point.calls k a1 true t744 t745 _ A7.out) (h := ?_)
  rintro w11 hb
  replace BK741 := zkb BK741 hb
  replace HB := zkB HB hb
  (try clear hb)
  refine hK.out _ _ trivial (fun hHeld => ?_)
  clear hK K
  refine znA 10 (h := ?_)
  refine zpA 6 11 (h := ?_)
  refine zpA 7 12 (h := ?_)
  refine zpA 8 13 (h := ?_)
  refine zpA 9 14 (h := ?_)
  refine zpU 10 15 (h := ?_)
  refine zpU 11 16 (h := ?_)
  refine zpU 12 17 (h := ?_)
  refine zpU 13 18 (h := ?_)
  refine zpA 14 19 (h := ?_)
  refine zpA 15 4 (h := ?_)
  refine done_ (done_of HT_.out (by kernel_rfl)) ?_
  try go_wp2
  go_ret
  exact ⟨zaE, zaB⟩
 replace c8 := Bool.eq_false_iff.mpr c8
 subst c8
 replace H := zif H
 obtain ⟨⟨t746, t747, t748⟩, A12, H⟩ := zbs H
 try dsimp only at H
 obtain ⟨t749, A13, H⟩ := zbs H
 try dsimp only at H
 obtain rfl := Option.some.inj H
 go_enter Try.func41, Try.ntmps41
 try go_wp2_with (first | ((with_reducible refine gtd 2 rfl ?_); refine zbx 2 #[.bool a0_0, .int .u64 a0_1, .int .u64 a0_2] 43 (h := ?_); intro gb741 hg w14 hbox hb; have GW741 := zkZ hg (zaB (p := Below w.heap.size w _)); replace HB := Aside0.mk (below_step zaB hb); have BK741 := Aside0.mk (hbox); clear hb hbox hg))
 replace BK741 := Aside0.mk (blk_drew BK741.out)
 replace HB := Aside0.mk (below_drew1 HB.out)
 refine start_ (n := 16) (S := fun w' => w'.cell? ⟨gb741, 0, none⟩ = some (.bool a0_0) ∧ w'.cell? ⟨gb741, 1, none⟩ = some (.int .u64 a0_1) ∧ w'.cell? ⟨gb741, 2, none⟩ = some (.int .u64 a0_2)) (ds := []) #[false, false, false, false, false, false, false, false, false, false, false, false, false, false, false, false] (by kernel_rfl) rfl rfl (ze3 BK741) (fun hHeld => ?_); refine with_tabW span_Has.tab1 span_Has.bits1 (fun HT_ HW_ => ?_)
 generalize w14.drew = w15 at BK741 HB hHeld ⊢
 refine zpA 0 5 (h := ?_)
 refine zoA 1 6 (h := fun K hK => ?_)
 refine zgA Try.func24 (pattern_Class.calls k a1 t742 _ A3.out) (h := ?_)
 rintro w' ⟨nd, rfl⟩
 refine hK.out _ _ (ze3 BK741) (fun hHeld => ?_)
 clear hK K
 refine znA 6 (h := ?_)
 refine zpA 2 7 (h := ?_)
 refine zpA 3 8 (h := ?_)
 refine zpA 4 9 (h := ?_)
 refine zoA 5 10 (h := fun K hK => ?_)
 refine zgA Try.func39 (span_Point.calls k a1 false t744 t745 _ A7.out) (h := ?_)
 rintro w16 hb
 replace BK741 := zkb BK741 hb
 replace HB := zkB HB hb
 (try clear hb)
 refine hK.out _ _ (ze3 BK741) (fun hHeld => ?_)
 clear hK K
 refine znA 10 (h := ?_)
 refine zpA 6 11 (h := ?_)
 refine zpA 7 12 (h := ?_)
 refine zpA 8 13 (h := ?_)
 refine zpA 9 14 (h := ?_)
 refine zpA 10 15 (h := ?_)
 refine ztA 12 17 (h := ?_)
 refine zoA 11 16 (h := fun K hK => ?_)
 refine zgA Try.func39 (span_Point.calls k a1 t746 t747 t748 _ A12.out) (h := ?_)
 rintro w17 hb
 replace BK741 := zkb BK741 hb
 replace HB := zkB HB hb
 (try clear hb)
 refine hK.out _ _ (ze3 BK741) (fun hHeld => ?_)
 clear hK K
 refine znA 16 (h := ?_)
 refine zoA 13 18 (h := fun K hK => ?_)
 refine zgA Try.func43 (span_Inside.calls k t746 t747 t748 a0_0 a0_1 a0_2 t749 _ A13.out) (h := ?_)
 rintro w18 hb
 replace BK741 := zkb BK741 hb
 replace HB := zkB HB hb
 (try clear hb)
 refine hK.out _ _ (ze3 BK741) (fun hHeld => ?_)
 clear hK K
 refine znA 18 (h := ?_)
 refine zpA 14 19 (h := ?_)
 refine zpA 15 4 (h := ?_)
 refine done_ (done_of HT_.out (by kernel_rfl)) ?_
 try go_wp2
 go_ret
 exact ⟨zaE, zaB⟩
theorem span_Most.calls (k : Nat) (a0_0 : Bool) (a0_1 : Int) (a0_2 : Int) (r : Int) (w : World) (h : span_Most.f k a0_0 a0_1 a0_2 = some r) :
  Calls Try.prog 50 #[.agg #[.bool a0_0, .int .u64 a0_1, .int .u64 a0_2]] w fun e w' => e = .returned (.int .u64 r) ∧ Below w.heap.size w w' := by
 have hu43 := Try.underlying43
 have hfd0_ : ∀ (b : Bool) (x y : Int) (w : World), (Instr.field 43 (.agg #[.bool b, .int .u64 x, .int .u64 y]) 0).run Try.prog w = .ok (.bool b) w := fun _ _ _ _ => by kernel_rfl
 have hfd1_ : ∀ (b : Bool) (x y : Int) (w : World), (Instr.field 43 (.agg #[.bool b, .int .u64 x, .int .u64 y]) 1).run Try.prog w = .ok (.int .u64 x) w := fun _ _ _ _ => by kernel_rfl
 have hfd2_ : ∀ (b : Bool) (x y : Int) (w : World), (Instr.field 43 (.agg #[.bool b, .int .u64 x, .int .u64 y]) 2).run Try.prog w = .ok (.int .u64 y) w := fun _ _ _ _ => by kernel_rfl
 have HB := Aside0.mk (Below.refl w.heap.size w)
 have H : ((span_Abs.f k a0_0 a0_1 a0_2).bind fun bt823 => (some bt823.2.2)) = some r := h
 clear h
 obtain ⟨⟨t823, t824, t825⟩, A2, H⟩ := zbs H
 try dsimp only at H
 obtain rfl := Option.some.inj H
 go_enter Try.func50, Try.ntmps50
 go_wp2_with (first | ((with_reducible refine gtd 1 rfl ?_); refine zbx 1 #[.bool a0_0, .int .u64 a0_1, .int .u64 a0_2] 43 (h := ?_); intro gb822 hg w3 hbox hb; have GW822 := zkZ hg (zaB (p := Below w.heap.size w _)); replace HB := Aside0.mk (below_step zaB hb); have BK822 := Aside0.mk (hbox); clear hb hbox hg; obtain ⟨_, _, _, _, _, _⟩ := zq3 BK822) | ((with_reducible refine gtc 69 rfl ?_); refine zgL 4 Try.func69 (span_Abs.calls k a0_0 a0_1 a0_2 t823 t824 t825 _ A2.out) (h := ?_); rintro w5 hb; replace BK822 := zkb BK822 hb; replace HB := zkB HB hb; (try clear hb)))
 go_ret
 exact ⟨zaE, zaB⟩
theorem span_side.calls (k : Nat) (a0_0 : Bool) (a0_1 : Int) (a0_2 : Int) (a1 : Int) (a2 : Bool) (a3 : Bool) (r1 : Bool) (r2 : Int) (r3 : Int) (w : World) (h : span_side.f k a0_0 a0_1 a0_2 a1 a2 a3 = some (r1, r2, r3)) :
  Calls Try.prog 122 #[.agg #[.bool a0_0, .int .u64 a0_1, .int .u64 a0_2], .int .u64 a1, .bool a2, .bool a3] w fun e w' => e = .returned (.agg #[.bool r1, .int .u64 r2, .int .u64 r3]) ∧ Below w.heap.size w w' := by
 have hu43 := Try.underlying43
 have HB := Aside0.mk (Below.refl w.heap.size w)
 have H : ((pattern_Class.f k a1).bind fun t834 => (if a2 = true then (if a3 = true then (span_side.j0 k a1 a2 a3 (t834 != 3) (t834 != 3) a0_0 a0_1 a0_2) else (span_side.j0 k a1 a2 a3 (t834 != 3) false a0_0 a0_1 a0_2)) else (span_side.j0 k a1 a2 a3 (t834 != 3) false a0_0 a0_1 a0_2))) = some (r1, r2, r3) := h
 clear h
 obtain ⟨t834, A5, H⟩ := zbs H
 try dsimp only at H
 have HC6 := Aside0.mk H
 clear H
 go_enter Try.func122, Try.ntmps122
 go_upto_block 0 with (first | ((with_reducible refine gtd 4 rfl ?_); refine zbx 4 #[.bool a0_0, .int .u64 a0_1, .int .u64 a0_2] 43 (h := ?_); intro gb832 hg w7 hbox hb; have GW832 := zkZ hg (zaB (p := Below w.heap.size w _)); replace HB := Aside0.mk (below_step zaB hb); have BK832 := Aside0.mk (hbox); clear hb hbox hg) | ((with_reducible refine gtd 8 rfl ?_); refine zbx 8 #[.bool false, .int .u64 0, .int .u64 0] 43 (h := ?_); intro gb833 hg w8 hbox hb; have GW833 := zkz HB hg; have NB832_833 := zkl BK832 hg; have NB833_832 := zkr BK832 hg; replace BK832 := zkb BK832 hb; replace HB := zkB HB hb; have BK833 := Aside0.mk (hbox); clear hb hbox hg) | ((with_reducible refine gtc 24 rfl ?_); refine zgL 11 Try.func24 (pattern_Class.calls k a1 t834 _ A5.out) (h := ?_); rintro w' ⟨nd, rfl⟩))
 (try simp only [Act.put, List.setIfInBounds_toArray, List.set_cons_zero, List.set_cons_succ])
 go_cut [1, 9] (fun v1 v9 wc => ∃ (kq : Nat) (x1_5 : Int), v1 = .int .u64 x1_5 ∧ v9 = .bool (t834 != 3) ∧ Aside0 (span_side.j1 kq x1_5 a2 a0_0 a0_1 a0_2 = some (r1, r2, r3)) ∧ Aside0 (kq ≤ k) ∧ Aside0 (wc.heap[gb832]? = some (.cells #[.bool a0_0, .int .u64 a0_1, .int .u64 a0_2] 43 (0, 0))) ∧ Aside0 (wc.heap[gb833]? = some (.cells #[.bool false, .int .u64 0, .int .u64 0] 43 (0, 0))) ∧ Aside0 (Below w.heap.size w wc))
 case first =>
  have H := HC6.out
  clear HC6
  have HC9 := Aside0.mk H
  clear H
  go_upto_region 2 with (fail)
  go_cut [13] (fun v13 wc => ∃ (kq : Nat) (x13_8 : Bool), v13 = .bool x13_8 ∧ Aside0 (span_side.j0 kq a1 a2 a3 (t834 != 3) x13_8 a0_0 a0_1 a0_2 = some (r1, r2, r3)) ∧ Aside0 (kq ≤ k) ∧ Aside0 (wc.heap[gb832]? = some (.cells #[.bool a0_0, .int .u64 a0_1, .int .u64 a0_2] 43 (0, 0))) ∧ Aside0 (wc.heap[gb833]? = some (.cells #[.bool false, .int .u64 0, .int .u64 0] 43 (0, 0))) ∧ Aside0 (Below w.heap.size w wc))
  case first =>
   have H := HC9.out
   clear HC9
   by_cases c10 : a2 = true
   ·subst c10
    replace H := zit H
    by_cases c11 : a3 = true
    ·subst c11
     replace H := zit H
     have H' := Aside0.mk H
     clear H
     go_wp2
     go_meet
     case rel => exact ⟨_, ((t834 != 3)), zrl, H', ⟨zle⟩, ⟨zkq BK832⟩, ⟨zkq BK833⟩, ⟨zaB⟩⟩
    replace c11 := Bool.eq_false_iff.mpr c11
    subst c11
    replace H := zif H
    have H' := Aside0.mk H
    clear H
    go_wp2
    go_meet
    case rel => exact ⟨_, (false), zrl, H', ⟨zle⟩, ⟨zkq BK832⟩, ⟨zkq BK833⟩, ⟨zaB⟩⟩
   replace c10 := Bool.eq_false_iff.mpr c10
   subst c10
   replace H := zif H
   have H' := Aside0.mk H
   clear H
   go_wp2
   go_meet
   case rel => exact ⟨_, (false), zrl, H', ⟨zle⟩, ⟨zkq BK832⟩, ⟨zkq BK833⟩, ⟨zaB⟩⟩
  case rest =>
   clear HC9
   try clear c1
   try clear c2
   try clear p2
   try clear c10
   try clear c11
   obtain ⟨kq, x13_8, rfl, HA, HJ8, BK832, BK833, HB⟩ := hcut
   cases kq with
   | zero => exact absurd HA.out (by simp [span_side.j0])
   | succ kj8 =>
    have H := HA.out
    clear HA
    simp only [span_side.j0] at H
    by_cases c12 : x13_8 = true
    ·subst c12
     replace H := zit H
     obtain ⟨t835, A13, H⟩ := zbs H
     try dsimp only at H
     have H' := Aside0.mk H
     clear H
     go_wp2_with (first | ((with_reducible refine gtc 72 rfl ?_); refine zgL 22 Try.func72 (pattern_Next.calls kj8 a1 t835 _ A13.out) (h := ?_); rintro w' ⟨nd, rfl⟩))
     go_meet
     case rel => exact ⟨_, (t835), zrl, (by first | rfl | (simp [*]; done)), H', ⟨by have := HJ8.out; first | omega | exact Nat.le_refl _⟩, ⟨zkq BK832⟩, ⟨zkq BK833⟩, ⟨zaB⟩⟩
    replace c12 := Bool.eq_false_iff.mpr c12
    subst c12
    replace H := zif H
    by_cases c14 : a3 = true
    ·subst c14
     replace H := zit H
     by_cases c15 : (t834 != 3) = true
     ·rw [if_pos c15] at H
      have c15b0 : (t834 != 3) = true := c15
      (try (have c15b1 : decide (t834 = 3) = false := by simpa using c15))
      (try (have c15b2 : (t834 == 3) = false := by simpa using c15))
      (try (have c15b3 : ¬ (t834 = 3) := by simpa using c15))
      clear c15
      obtain ⟨t836, A16, H⟩ := zbs H
      try dsimp only at H
      have H' := Aside0.mk H
      clear H
      go_wp2_with (first | ((with_reducible refine gtc 168 rfl ?_); refine zgL 29 Try.func168 (pattern_Prev.calls kj8 a1 t836 _ A16.out) (h := ?_); rintro w' ⟨nd, rfl⟩))
      go_meet
      case rel => exact ⟨_, (t836), zrl, (by first | rfl | (simp [*]; done)), H', ⟨by have := HJ8.out; first | omega | exact Nat.le_refl _⟩, ⟨zkq BK832⟩, ⟨zkq BK833⟩, ⟨zaB⟩⟩
     rw [if_neg c15] at H
     have c15b0 : (t834 != 3) = false := by simpa using c15
     (try (have c15b1 : decide (t834 = 3) = true := by simpa using c15))
     (try (have c15b2 : (t834 == 3) = true := by simpa using c15))
     clear c15
     have H' := Aside0.mk H
     clear H
     go_wp2
     go_meet
     case rel => exact ⟨_, (a1), zrl, (by first | rfl | (simp [*]; done)), H', ⟨by have := HJ8.out; first | omega | exact Nat.le_refl _⟩, ⟨zkq BK832⟩, ⟨zkq BK833⟩, ⟨zaB⟩⟩
    replace c14 := Bool.eq_false_iff.mpr c14
    subst c14
    replace H := zif H
    have H' := Aside0.mk H
    clear H
    go_wp2
    go_meet
    case rel => exact ⟨_, (a1), zrl, (by first | rfl | (simp [*]; done)), H', ⟨by have := HJ8.out; first | omega | exact Nat.le_refl _⟩, ⟨zkq BK832⟩, ⟨zkq BK833⟩, ⟨zaB⟩⟩
 case rest =>
  clear HC6
  try clear c1
  try clear c2
  try clear p2
  try clear c7
  try clear c10
  try clear c11
  try clear c12
  try clear c14
  try clear c15
  try clear c15b0
  try clear c15b1
  try clear c15b2
  try clear c16
  try clear p2
  obtain ⟨kq, x1_5, rfl, rfl, HA, HJ5, BK832, BK833, HB⟩ := hcut
  cases kq with
  | zero => exact absurd HA.out (by simp [span_side.j1])
  | succ kj5 =>
   have H := HA.out
   clear HA
   simp only [span_side.j1] at H
   by_cases c17 : a2 = true
   ·subst c17
    replace H := zit H
    obtain ⟨t837, A18, H⟩ := zbs H
    try dsimp only at H
    obtain ⟨⟨t838, t839, t840⟩, A19, H⟩ := zbs H
    try dsimp only at H
    obtain ⟨⟨t841, t842, t843⟩, A20, H⟩ := zbs H
    try dsimp only at H
    simp only [Option.some.injEq, Prod.mk.injEq] at H
    obtain ⟨rfl, rfl, rfl⟩ := H
    try go_wp2
    (try (rw [drewN_self wc]; generalize hq_ : World.drewN wc _ = wc; replace BK832 := zkg hq_ (zkq BK832); replace BK833 := zkg hq_ (zkq BK833); replace HB := zkG hq_ (pw_below_drewN HB.out _); clear hq_))
    replace BK832 := Aside0.mk (blk_drew BK832.out)
    replace BK833 := Aside0.mk (blk_drew BK833.out)
    replace HB := Aside0.mk (below_drew1 HB.out)
    refine start_ (n := 6) (S := fun w' => w'.cell? ⟨gb832, 0, none⟩ = some (.bool a0_0) ∧ w'.cell? ⟨gb832, 1, none⟩ = some (.int .u64 a0_1) ∧ w'.cell? ⟨gb832, 2, none⟩ = some (.int .u64 a0_2)) (ds := []) #[false, false, false, false, false, false] (by kernel_rfl) rfl rfl (ze3 BK832) (fun hHeld => ?_)
    generalize wc.drew = w21 at BK832 BK833 HB hHeld ⊢
    refine pure_ (i := 1) (N := some 32) (v := ?_) (a' := ?_) #[false, true, false, false, false, false] rfl rfl (by kernel_rfl) (fun _ _ _ h => h) (Or.inl ⟨by rfl, ?_⟩) ?_ ?_
    rotate_left
    ·intro w'
     go_simp
     with_reducible rfl
    rotate_left
    ·simp only [Act.put, List.setIfInBounds_toArray, List.set_cons_zero, List.set_cons_succ, i64_w, i32_w]
     rfl
    refine take_ (i := 0) (N := some 31) (v := ?_) (a' := ?_) #[true, true, false, false, false, false] rfl rfl (by kernel_rfl) (fun _ _ _ h => h) (Or.inl ⟨by rfl, ?_⟩) hHeld ?_ ?_
    rotate_left
    ·rintro w' ⟨s0, s1, s2⟩
     go_simp
     with_reducible rfl
    rotate_left
    ·simp only [Act.put, List.setIfInBounds_toArray, List.set_cons_zero, List.set_cons_succ, i64_w, i32_w]
     rfl
    refine one_ (i := 2) (N := some 33) #[true, true, true, false, false, false] rfl rfl (by kernel_rfl) (by decide) (fun K hK => ?_)
    refine zgA Try.func114 (span_inf.calls kj5  t837 _ A18.out) (h := ?_)
    rintro w' ⟨nd, rfl⟩
    refine hK.out _ _ (ze3 BK832) (fun hHeld => ?_)
    clear hK K
    refine znA 33 (h := ?_)
    refine one_ (i := 3) (N := some 34) #[true, true, true, true, false, false] rfl rfl (by kernel_rfl) (by decide) (fun K hK => ?_)
    refine zgA Try.func37 (span_Make.calls kj5 x1_5 t837 t838 t839 t840 _ A19.out) (h := ?_)
    rintro w22 hb
    replace BK832 := zkb BK832 hb
    replace BK833 := zkb BK833 hb
    replace HB := zkB HB hb
    (try clear hb)
    refine hK.out _ _ (ze3 BK832) (fun hHeld => ?_)
    clear hK K
    refine znA 34 (h := ?_)
    refine one_ (i := 4) (N := some 35) #[true, true, true, true, true, false] rfl rfl (by kernel_rfl) (by decide) (fun K hK => ?_)
    refine zgA Try.func47 (span_Meet.calls kj5 a0_0 a0_1 a0_2 t838 t839 t840 t841 t842 t843 _ A20.out) (h := ?_)
    rintro w23 hb
    replace BK832 := zkb BK832 hb
    replace BK833 := zkb BK833 hb
    replace HB := zkB HB hb
    (try clear hb)
    refine hK.out _ _ (ze3 BK832) (fun hHeld => ?_)
    clear hK K
    refine znA 35 (h := ?_)
    refine one_ (i := 5) (N := none) #[true, true, true, true, true, true] rfl rfl (by kernel_rfl) (by decide) (fun K hK => ?_)
    have hs24 := zc0 BK833
    have hfs24 := blk_frozen BK833.out 0
    have hns24_0 := NB832_833.out
    have hms24_0 := NB833_832.out
    have hs25 := zc1 BK833
    have hfs25 := blk_frozen BK833.out 1
    have hns25_0 := NB832_833.out
    have hms25_0 := NB833_832.out
    have hs26 := zc2 BK833
    have hfs26 := blk_frozen BK833.out 2
    have hns26_0 := NB832_833.out
    have hms26_0 := NB833_832.out
    refine skip_ (w1 := ?_) (by rfl) rfl ?_ ?_
    rotate_left
    ·go_simp
     rfl
    refine hK.out _ _ ⟨(zff NB832_833 (zff NB832_833 (zff NB832_833 hHeld.1))), (zff NB832_833 (zff NB832_833 (zff NB832_833 hHeld.2.1))), (zff NB832_833 (zff NB832_833 (zff NB832_833 hHeld.2.2)))⟩ (fun hHeld => ?_)
    clear hK K
    refine done_ (by kernel_rfl) ?_
    try go_wp2
    refine bodyPost_ret (results_cell_row rfl _ _ gb833 43 #[.bool t841, .int .u64 t842, .int .u64 t843] (0, 0) _ rfl (blk_put (cs := #[.bool t841, .int .u64 t842, .int .u64 0]) (blk_put (cs := #[.bool t841, .int .u64 0, .int .u64 0]) (blk_put (zkq BK833) 0 _ rfl) 1 _ rfl) 2 _ rfl) Try.underlying43 rfl (by kernel_rfl)) rfl ?_
    exact ⟨zaE, zaB⟩
   replace c17 := Bool.eq_false_iff.mpr c17
   subst c17
   replace H := zif H
   obtain ⟨t844, A27, H⟩ := zbs H
   try dsimp only at H
   obtain ⟨⟨t845, t846, t847⟩, A28, H⟩ := zbs H
   try dsimp only at H
   obtain ⟨⟨t848, t849, t850⟩, A29, H⟩ := zbs H
   try dsimp only at H
   simp only [Option.some.injEq, Prod.mk.injEq] at H
   obtain ⟨rfl, rfl, rfl⟩ := H
   try go_wp2
   (try (rw [drewN_self wc]; generalize hq_ : World.drewN wc _ = wc; replace BK832 := zkg hq_ (zkq BK832); replace BK833 := zkg hq_ (zkq BK833); replace HB := zkG hq_ (pw_below_drewN HB.out _); clear hq_))
   replace BK832 := Aside0.mk (blk_drew BK832.out)
   replace BK833 := Aside0.mk (blk_drew BK833.out)
   replace HB := Aside0.mk (below_drew1 HB.out)
   refine start_ (n := 6) (S := fun w' => w'.cell? ⟨gb832, 0, none⟩ = some (.bool a0_0) ∧ w'.cell? ⟨gb832, 1, none⟩ = some (.int .u64 a0_1) ∧ w'.cell? ⟨gb832, 2, none⟩ = some (.int .u64 a0_2)) (ds := []) #[false, false, false, false, false, false] (by kernel_rfl) rfl rfl (ze3 BK832) (fun hHeld => ?_)
   generalize wc.drew = w30 at BK832 BK833 HB hHeld ⊢
   refine pure_ (i := 2) (N := some 38) (v := ?_) (a' := ?_) #[false, false, true, false, false, false] rfl rfl (by kernel_rfl) (fun _ _ _ h => h) (Or.inl ⟨by rfl, ?_⟩) ?_ ?_
   rotate_left
   ·intro w'
    go_simp
    with_reducible rfl
   rotate_left
   ·simp only [Act.put, List.setIfInBounds_toArray, List.set_cons_zero, List.set_cons_succ, i64_w, i32_w]
    rfl
   refine take_ (i := 0) (N := some 36) (v := ?_) (a' := ?_) #[true, false, true, false, false, false] rfl rfl (by kernel_rfl) (fun _ _ _ h => h) (Or.inl ⟨by rfl, ?_⟩) hHeld ?_ ?_
   rotate_left
   ·rintro w' ⟨s0, s1, s2⟩
    go_simp
    with_reducible rfl
   rotate_left
   ·simp only [Act.put, List.setIfInBounds_toArray, List.set_cons_zero, List.set_cons_succ, i64_w, i32_w]
    rfl
   refine one_ (i := 1) (N := some 37) #[true, true, true, false, false, false] rfl rfl (by kernel_rfl) (by decide) (fun K hK => ?_)
   refine zgA Try.func113 (span_ninf.calls kj5  t844 _ A27.out) (h := ?_)
   rintro w' ⟨nd, rfl⟩
   refine hK.out _ _ (ze3 BK832) (fun hHeld => ?_)
   clear hK K
   refine znA 37 (h := ?_)
   refine one_ (i := 3) (N := some 39) #[true, true, true, true, false, false] rfl rfl (by kernel_rfl) (by decide) (fun K hK => ?_)
   refine zgA Try.func37 (span_Make.calls kj5 t844 x1_5 t845 t846 t847 _ A28.out) (h := ?_)
   rintro w31 hb
   replace BK832 := zkb BK832 hb
   replace BK833 := zkb BK833 hb
   replace HB := zkB HB hb
   (try clear hb)
   refine hK.out _ _ (ze3 BK832) (fun hHeld => ?_)
   clear hK K
   refine znA 39 (h := ?_)
   refine one_ (i := 4) (N := some 40) #[true, true, true, true, true, false] rfl rfl (by kernel_rfl) (by decide) (fun K hK => ?_)
   refine zgA Try.func47 (span_Meet.calls kj5 a0_0 a0_1 a0_2 t845 t846 t847 t848 t849 t850 _ A29.out) (h := ?_)
   rintro w32 hb
   replace BK832 := zkb BK832 hb
   replace BK833 := zkb BK833 hb
   replace HB := zkB HB hb
   (try clear hb)
   refine hK.out _ _ (ze3 BK832) (fun hHeld => ?_)
   clear hK K
   refine znA 40 (h := ?_)
   refine one_ (i := 5) (N := none) #[true, true, true, true, true, true] rfl rfl (by kernel_rfl) (by decide) (fun K hK => ?_)
   have hs33 := zc0 BK833
   have hfs33 := blk_frozen BK833.out 0
   have hns33_0 := NB832_833.out
   have hms33_0 := NB833_832.out
   have hs34 := zc1 BK833
   have hfs34 := blk_frozen BK833.out 1
   have hns34_0 := NB832_833.out
   have hms34_0 := NB833_832.out
   have hs35 := zc2 BK833
   have hfs35 := blk_frozen BK833.out 2
   have hns35_0 := NB832_833.out
   have hms35_0 := NB833_832.out
   refine skip_ (w1 := ?_) (by rfl) rfl ?_ ?_
   rotate_left
   ·go_simp
    rfl
   refine hK.out _ _ ⟨(zff NB832_833 (zff NB832_833 (zff NB832_833 hHeld.1))), (zff NB832_833 (zff NB832_833 (zff NB832_833 hHeld.2.1))), (zff NB832_833 (zff NB832_833 (zff NB832_833 hHeld.2.2)))⟩ (fun hHeld => ?_)
   clear hK K
   refine done_ (by kernel_rfl) ?_
   try go_wp2
   refine bodyPost_ret (results_cell_row rfl _ _ gb833 43 #[.bool t848, .int .u64 t849, .int .u64 t850] (0, 0) _ rfl (blk_put (cs := #[.bool t848, .int .u64 t849, .int .u64 0]) (blk_put (cs := #[.bool t848, .int .u64 0, .int .u64 0]) (blk_put (zkq BK833) 0 _ rfl) 1 _ rfl) 2 _ rfl) Try.underlying43 rfl (by kernel_rfl)) rfl ?_
   exact ⟨zaE, zaB⟩
theorem span_without.calls (k : Nat) (a0_0 : Bool) (a0_1 : Int) (a0_2 : Int) (a1_0 : Bool) (a1_1 : Int) (a1_2 : Int) (r1 : Bool) (r2 : Int) (r3 : Int) (w : World) (h : span_without.f k a0_0 a0_1 a0_2 a1_0 a1_1 a1_2 = some (r1, r2, r3)) :
  Calls Try.prog 123 #[.agg #[.bool a0_0, .int .u64 a0_1, .int .u64 a0_2], .agg #[.bool a1_0, .int .u64 a1_1, .int .u64 a1_2]] w fun e w' => e = .returned (.agg #[.bool r1, .int .u64 r2, .int .u64 r3]) ∧ Below w.heap.size w w' := by
 have hu43 := Try.underlying43
 have HB := Aside0.mk (Below.refl w.heap.size w)
 have H : (if a1_1 = a1_2 then (if a0_1 = a1_1 then ((span_side.f k a0_0 a0_1 a0_2 a1_1 true true).bind fun bt854 => (if bt854.2.2 = a1_1 then (if bt854.1 = true then (some (bt854.1, bt854.2.1, bt854.2.2)) else ((span_side.f k bt854.1 bt854.2.1 bt854.2.2 a1_1 false true).bind fun bt857 => (some (bt857.1, bt857.2.1, bt857.2.2)))) else (some (bt854.1, bt854.2.1, bt854.2.2)))) else (if a0_2 = a1_1 then (if a0_0 = true then (some (a0_0, a0_1, a0_2)) else ((span_side.f k a0_0 a0_1 a0_2 a1_1 false true).bind fun bt860 => (some (bt860.1, bt860.2.1, bt860.2.2)))) else (some (a0_0, a0_1, a0_2)))) else (some (a0_0, a0_1, a0_2))) = some (r1, r2, r3) := h
 clear h
 by_cases c3 : a1_1 = a1_2
 ·rw [if_pos c3] at H
  have c3b0 : (a1_1 == a1_2) = true := beq_iff_eq.mpr c3
  have c3b1 : (a1_1 != a1_2) = false := bne_eq_false_iff_eq.mpr c3
  clear c3
  by_cases c4 : a0_1 = a1_1
  ·rw [if_pos c4] at H
   have c4b0 : (a0_1 == a1_1) = true := beq_iff_eq.mpr c4
   have c4b1 : (a0_1 != a1_1) = false := bne_eq_false_iff_eq.mpr c4
   clear c4
   obtain ⟨⟨t854, t855, t856⟩, A5, H⟩ := zbs H
   try dsimp only at H
   by_cases c6 : t856 = a1_1
   ·rw [if_pos c6] at H
    have c6b0 : (t856 == a1_1) = true := beq_iff_eq.mpr c6
    have c6b1 : (t856 != a1_1) = false := bne_eq_false_iff_eq.mpr c6
    clear c6
    by_cases c7 : t854 = true
    ·subst c7
     replace H := zit H
     simp only [Option.some.injEq, Prod.mk.injEq] at H
     obtain ⟨rfl, rfl, rfl⟩ := H
     go_enter Try.func123, Try.ntmps123
     go_wp2_with (first | ((with_reducible refine gtd 2 rfl ?_); refine zbx 2 #[.bool a0_0, .int .u64 a0_1, .int .u64 a0_2] 43 (h := ?_); intro gb851 hg w8 hbox hb; have GW851 := zkZ hg (zaB (p := Below w.heap.size w _)); replace HB := Aside0.mk (below_step zaB hb); have BK851 := Aside0.mk (hbox); clear hb hbox hg) | ((with_reducible refine gtd 3 rfl ?_); refine zbx 3 #[.bool a1_0, .int .u64 a1_1, .int .u64 a1_2] 43 (h := ?_); intro gb852 hg w9 hbox hb; have GW852 := zkz HB hg; have NB851_852 := zkl BK851 hg; have NB852_851 := zkr BK851 hg; replace BK851 := zkb BK851 hb; replace HB := zkB HB hb; have BK852 := Aside0.mk (hbox); clear hb hbox hg) | ((with_reducible refine gtd 4 rfl ?_); refine zbx 4 #[.bool false, .int .u64 0, .int .u64 0] 43 (h := ?_); intro gb853 hg w10 hbox hb; have GW853 := zkz HB hg; have NB851_853 := zkl BK851 hg; have NB853_851 := zkr BK851 hg; have NB852_853 := zkl BK852 hg; have NB853_852 := zkr BK852 hg; replace BK851 := zkb BK851 hb; replace BK852 := zkb BK852 hb; replace HB := zkB HB hb; have BK853 := Aside0.mk (hbox); clear hb hbox hg; obtain ⟨_, _⟩ := zsy NB852_851; obtain ⟨_, _⟩ := zsy NB852_853; obtain ⟨_, _, _, _, _, _⟩ := zq3 BK852; obtain ⟨_, _⟩ := zsy NB851_853; obtain ⟨_, _, _, _, _, _⟩ := zq3 BK851) | ((with_reducible refine gtc 122 rfl ?_); refine zgL 20 Try.func122 (span_side.calls k a0_0 a0_1 a0_2 a1_1 true true true t855 t856 _ A5.out) (h := ?_); rintro w16 hb; replace BK851 := zkb BK851 hb; replace BK852 := zkb BK852 hb; replace BK853 := zkb BK853 hb; replace HB := zkB HB hb; (try clear hb); obtain ⟨_, _, _, _, _, _⟩ := zq3 BK851; obtain ⟨_, _, _, _, _, _⟩ := zq3 BK853))
     refine bodyPost_ret (results_cell_row rfl _ _ gb853 43 #[.bool true, .int .u64 t855, .int .u64 t856] (0, 0) _ rfl (blk_put (cs := #[.bool true, .int .u64 t855, .int .u64 0]) (blk_put (cs := #[.bool true, .int .u64 0, .int .u64 0]) (blk_put (zkf (zkf (zkf (zkq BK853) NB853_851.out _) NB853_851.out _) NB853_851.out _) 0 _ rfl) 1 _ rfl) 2 _ rfl) Try.underlying43 rfl (by kernel_rfl)) rfl ?_
     exact ⟨zaE, zaB⟩
    replace c7 := Bool.eq_false_iff.mpr c7
    subst c7
    replace H := zif H
    obtain ⟨⟨t857, t858, t859⟩, A19, H⟩ := zbs H
    try dsimp only at H
    simp only [Option.some.injEq, Prod.mk.injEq] at H
    obtain ⟨rfl, rfl, rfl⟩ := H
    go_enter Try.func123, Try.ntmps123
    go_wp2_with (first | ((with_reducible refine gtd 2 rfl ?_); refine zbx 2 #[.bool a0_0, .int .u64 a0_1, .int .u64 a0_2] 43 (h := ?_); intro gb851 hg w20 hbox hb; have GW851 := zkZ hg (zaB (p := Below w.heap.size w _)); replace HB := Aside0.mk (below_step zaB hb); have BK851 := Aside0.mk (hbox); clear hb hbox hg) | ((with_reducible refine gtd 3 rfl ?_); refine zbx 3 #[.bool a1_0, .int .u64 a1_1, .int .u64 a1_2] 43 (h := ?_); intro gb852 hg w21 hbox hb; have GW852 := zkz HB hg; have NB851_852 := zkl BK851 hg; have NB852_851 := zkr BK851 hg; replace BK851 := zkb BK851 hb; replace HB := zkB HB hb; have BK852 := Aside0.mk (hbox); clear hb hbox hg) | ((with_reducible refine gtd 4 rfl ?_); refine zbx 4 #[.bool false, .int .u64 0, .int .u64 0] 43 (h := ?_); intro gb853 hg w22 hbox hb; have GW853 := zkz HB hg; have NB851_853 := zkl BK851 hg; have NB853_851 := zkr BK851 hg; have NB852_853 := zkl BK852 hg; have NB853_852 := zkr BK852 hg; replace BK851 := zkb BK851 hb; replace BK852 := zkb BK852 hb; replace HB := zkB HB hb; have BK853 := Aside0.mk (hbox); clear hb hbox hg; obtain ⟨_, _⟩ := zsy NB852_851; obtain ⟨_, _⟩ := zsy NB852_853; obtain ⟨_, _, _, _, _, _⟩ := zq3 BK852; obtain ⟨_, _⟩ := zsy NB851_853; obtain ⟨_, _, _, _, _, _⟩ := zq3 BK851) | ((with_reducible refine gtc 122 rfl ?_); refine zgL 20 Try.func122 (span_side.calls k a0_0 a0_1 a0_2 a1_1 true true false t855 t856 _ A5.out) (h := ?_); rintro w28 hb; replace BK851 := zkb BK851 hb; replace BK852 := zkb BK852 hb; replace BK853 := zkb BK853 hb; replace HB := zkB HB hb; (try clear hb); obtain ⟨_, _, _, _, _, _⟩ := zq3 BK851) | ((with_reducible refine gtc 122 rfl ?_); refine zgL 32 Try.func122 (span_side.calls k false t855 t856 a1_1 false true t857 t858 t859 _ A19.out) (h := ?_); rintro w30 hb; replace BK851 := Aside0.mk (blk_below (o := .cells #[.bool false, .int .u64 t855, .int .u64 t856] 43 (0, 0)) (blk_put (cs := #[.bool false, .int .u64 t855, .int .u64 a0_2]) (blk_put (cs := #[.bool false, .int .u64 a0_1, .int .u64 a0_2]) (blk_put BK851.out 0 _ rfl) 1 _ rfl) 2 _ rfl) hb); replace BK852 := Aside0.mk (blk_below (zkf (zkf (zkf BK852.out NB852_851.out _) NB852_851.out _) NB852_851.out _) hb); replace BK853 := Aside0.mk (blk_below (zkf (zkf (zkf BK853.out NB853_851.out _) NB853_851.out _) NB853_851.out _) hb); replace HB := Aside0.mk (below_step (below_set (below_set (below_set HB.out GW851.out) GW851.out) GW851.out) hb); (try clear hb); obtain ⟨_, _, _, _, _, _⟩ := zq3 BK851; obtain ⟨_, _, _, _, _, _⟩ := zq3 BK853))
    refine bodyPost_ret (results_cell_row rfl _ _ gb853 43 #[.bool t857, .int .u64 t858, .int .u64 t859] (0, 0) _ rfl (blk_put (cs := #[.bool t857, .int .u64 t858, .int .u64 0]) (blk_put (cs := #[.bool t857, .int .u64 0, .int .u64 0]) (blk_put (zkf (zkf (zkf (zkq BK853) NB853_851.out _) NB853_851.out _) NB853_851.out _) 0 _ rfl) 1 _ rfl) 2 _ rfl) Try.underlying43 rfl (by kernel_rfl)) rfl ?_
    exact ⟨zaE, zaB⟩
   rw [if_neg c6] at H
   have c6b0 : (t856 == a1_1) = false := beq_eq_false_iff_ne.mpr c6
   have c6b1 : (t856 != a1_1) = true := bne_iff_ne.mpr c6
   simp only [Option.some.injEq, Prod.mk.injEq] at H
   obtain ⟨rfl, rfl, rfl⟩ := H
   go_enter Try.func123, Try.ntmps123
   go_wp2_with (first | ((with_reducible refine gtd 2 rfl ?_); refine zbx 2 #[.bool a0_0, .int .u64 a0_1, .int .u64 a0_2] 43 (h := ?_); intro gb851 hg w33 hbox hb; have GW851 := zkZ hg (zaB (p := Below w.heap.size w _)); replace HB := Aside0.mk (below_step zaB hb); have BK851 := Aside0.mk (hbox); clear hb hbox hg) | ((with_reducible refine gtd 3 rfl ?_); refine zbx 3 #[.bool a1_0, .int .u64 a1_1, .int .u64 a1_2] 43 (h := ?_); intro gb852 hg w34 hbox hb; have GW852 := zkz HB hg; have NB851_852 := zkl BK851 hg; have NB852_851 := zkr BK851 hg; replace BK851 := zkb BK851 hb; replace HB := zkB HB hb; have BK852 := Aside0.mk (hbox); clear hb hbox hg) | ((with_reducible refine gtd 4 rfl ?_); refine zbx 4 #[.bool false, .int .u64 0, .int .u64 0] 43 (h := ?_); intro gb853 hg w35 hbox hb; have GW853 := zkz HB hg; have NB851_853 := zkl BK851 hg; have NB853_851 := zkr BK851 hg; have NB852_853 := zkl BK852 hg; have NB853_852 := zkr BK852 hg; replace BK851 := zkb BK851 hb; replace BK852 := zkb BK852 hb; replace HB := zkB HB hb; have BK853 := Aside0.mk (hbox); clear hb hbox hg; obtain ⟨_, _⟩ := zsy NB852_851; obtain ⟨_, _⟩ := zsy NB852_853; obtain ⟨_, _, _, _, _, _⟩ := zq3 BK852; obtain ⟨_, _⟩ := zsy NB851_853; obtain ⟨_, _, _, _, _, _⟩ := zq3 BK851) | ((with_reducible refine gtc 122 rfl ?_); refine zgL 20 Try.func122 (span_side.calls k a0_0 a0_1 a0_2 a1_1 true true t854 t855 t856 _ A5.out) (h := ?_); rintro w41 hb; replace BK851 := zkb BK851 hb; replace BK852 := zkb BK852 hb; replace BK853 := zkb BK853 hb; replace HB := zkB HB hb; (try clear hb); obtain ⟨_, _, _, _, _, _⟩ := zq3 BK851; obtain ⟨_, _, _, _, _, _⟩ := zq3 BK853))
   refine bodyPost_ret (results_cell_row rfl _ _ gb853 43 #[.bool t854, .int .u64 t855, .int .u64 t856] (0, 0) _ rfl (blk_put (cs := #[.bool t854, .int .u64 t855, .int .u64 0]) (blk_put (cs := #[.bool t854, .int .u64 0, .int .u64 0]) (blk_put (zkf (zkf (zkf (zkq BK853) NB853_851.out _) NB853_851.out _) NB853_851.out _) 0 _ rfl) 1 _ rfl) 2 _ rfl) Try.underlying43 rfl (by kernel_rfl)) rfl ?_
   exact ⟨zaE, zaB⟩
  rw [if_neg c4] at H
  have c4b0 : (a0_1 == a1_1) = false := beq_eq_false_iff_ne.mpr c4
  have c4b1 : (a0_1 != a1_1) = true := bne_iff_ne.mpr c4
  by_cases c44 : a0_2 = a1_1
  ·rw [if_pos c44] at H
   have c44b0 : (a0_2 == a1_1) = true := beq_iff_eq.mpr c44
   have c44b1 : (a0_2 != a1_1) = false := bne_eq_false_iff_eq.mpr c44
   clear c44
   by_cases c45 : a0_0 = true
   ·subst c45
    replace H := zit H
    simp only [Option.some.injEq, Prod.mk.injEq] at H
    obtain ⟨rfl, rfl, rfl⟩ := H
    go_enter Try.func123, Try.ntmps123
    go_wp2_with (first | ((with_reducible refine gtd 2 rfl ?_); refine zbx 2 #[.bool true, .int .u64 a0_1, .int .u64 a0_2] 43 (h := ?_); intro gb851 hg w46 hbox hb; have GW851 := zkZ hg (zaB (p := Below w.heap.size w _)); replace HB := Aside0.mk (below_step zaB hb); have BK851 := Aside0.mk (hbox); clear hb hbox hg) | ((with_reducible refine gtd 3 rfl ?_); refine zbx 3 #[.bool a1_0, .int .u64 a1_1, .int .u64 a1_2] 43 (h := ?_); intro gb852 hg w47 hbox hb; have GW852 := zkz HB hg; have NB851_852 := zkl BK851 hg; have NB852_851 := zkr BK851 hg; replace BK851 := zkb BK851 hb; replace HB := zkB HB hb; have BK852 := Aside0.mk (hbox); clear hb hbox hg) | ((with_reducible refine gtd 4 rfl ?_); refine zbx 4 #[.bool false, .int .u64 0, .int .u64 0] 43 (h := ?_); intro gb853 hg w48 hbox hb; have GW853 := zkz HB hg; have NB851_853 := zkl BK851 hg; have NB853_851 := zkr BK851 hg; have NB852_853 := zkl BK852 hg; have NB853_852 := zkr BK852 hg; replace BK851 := zkb BK851 hb; replace BK852 := zkb BK852 hb; replace HB := zkB HB hb; have BK853 := Aside0.mk (hbox); clear hb hbox hg; obtain ⟨_, _⟩ := zsy NB852_851; obtain ⟨_, _⟩ := zsy NB852_853; obtain ⟨_, _, _, _, _, _⟩ := zq3 BK852; obtain ⟨_, _⟩ := zsy NB851_853; obtain ⟨_, _, _, _, _, _⟩ := zq3 BK851; obtain ⟨_, _, _, _, _, _⟩ := zq3 BK853))
    refine bodyPost_ret (results_cell_row rfl _ _ gb853 43 #[.bool true, .int .u64 a0_1, .int .u64 a0_2] (0, 0) _ rfl (blk_put (cs := #[.bool true, .int .u64 a0_1, .int .u64 0]) (blk_put (cs := #[.bool true, .int .u64 0, .int .u64 0]) (blk_put (zkq BK853) 0 _ rfl) 1 _ rfl) 2 _ rfl) Try.underlying43 rfl (by kernel_rfl)) rfl ?_
    exact ⟨zaE, zaB⟩
   replace c45 := Bool.eq_false_iff.mpr c45
   subst c45
   replace H := zif H
   obtain ⟨⟨t860, t861, t862⟩, A55, H⟩ := zbs H
   try dsimp only at H
   simp only [Option.some.injEq, Prod.mk.injEq] at H
   obtain ⟨rfl, rfl, rfl⟩ := H
   go_enter Try.func123, Try.ntmps123
   go_wp2_with (first | ((with_reducible refine gtd 2 rfl ?_); refine zbx 2 #[.bool false, .int .u64 a0_1, .int .u64 a0_2] 43 (h := ?_); intro gb851 hg w56 hbox hb; have GW851 := zkZ hg (zaB (p := Below w.heap.size w _)); replace HB := Aside0.mk (below_step zaB hb); have BK851 := Aside0.mk (hbox); clear hb hbox hg) | ((with_reducible refine gtd 3 rfl ?_); refine zbx 3 #[.bool a1_0, .int .u64 a1_1, .int .u64 a1_2] 43 (h := ?_); intro gb852 hg w57 hbox hb; have GW852 := zkz HB hg; have NB851_852 := zkl BK851 hg; have NB852_851 := zkr BK851 hg; replace BK851 := zkb BK851 hb; replace HB := zkB HB hb; have BK852 := Aside0.mk (hbox); clear hb hbox hg) | ((with_reducible refine gtd 4 rfl ?_); refine zbx 4 #[.bool false, .int .u64 0, .int .u64 0] 43 (h := ?_); intro gb853 hg w58 hbox hb; have GW853 := zkz HB hg; have NB851_853 := zkl BK851 hg; have NB853_851 := zkr BK851 hg; have NB852_853 := zkl BK852 hg; have NB853_852 := zkr BK852 hg; replace BK851 := zkb BK851 hb; replace BK852 := zkb BK852 hb; replace HB := zkB HB hb; have BK853 := Aside0.mk (hbox); clear hb hbox hg; obtain ⟨_, _⟩ := zsy NB852_851; obtain ⟨_, _⟩ := zsy NB852_853; obtain ⟨_, _, _, _, _, _⟩ := zq3 BK852; obtain ⟨_, _⟩ := zsy NB851_853; obtain ⟨_, _, _, _, _, _⟩ := zq3 BK851) | ((with_reducible refine gtc 122 rfl ?_); refine zgL 32 Try.func122 (span_side.calls k false a0_1 a0_2 a1_1 false true t860 t861 t862 _ A55.out) (h := ?_); rintro w64 hb; replace BK851 := zkb BK851 hb; replace BK852 := zkb BK852 hb; replace BK853 := zkb BK853 hb; replace HB := zkB HB hb; (try clear hb); obtain ⟨_, _, _, _, _, _⟩ := zq3 BK851; obtain ⟨_, _, _, _, _, _⟩ := zq3 BK853))
   refine bodyPost_ret (results_cell_row rfl _ _ gb853 43 #[.bool t860, .int .u64 t861, .int .u64 t862] (0, 0) _ rfl (blk_put (cs := #[.bool t860, .int .u64 t861, .int .u64 0]) (blk_put (cs := #[.bool t860, .int .u64 0, .int .u64 0]) (blk_put (zkf (zkf (zkf (zkq BK853) NB853_851.out _) NB853_851.out _) NB853_851.out _) 0 _ rfl) 1 _ rfl) 2 _ rfl) Try.underlying43 rfl (by kernel_rfl)) rfl ?_
   exact ⟨zaE, zaB⟩
  rw [if_neg c44] at H
  have c44b0 : (a0_2 == a1_1) = false := beq_eq_false_iff_ne.mpr c44
  have c44b1 : (a0_2 != a1_1) = true := bne_iff_ne.mpr c44
  simp only [Option.some.injEq, Prod.mk.injEq] at H
  obtain ⟨rfl, rfl, rfl⟩ := H
  go_enter Try.func123, Try.ntmps123
  go_wp2_with (first | ((with_reducible refine gtd 2 rfl ?_); refine zbx 2 #[.bool a0_0, .int .u64 a0_1, .int .u64 a0_2] 43 (h := ?_); intro gb851 hg w67 hbox hb; have GW851 := zkZ hg (zaB (p := Below w.heap.size w _)); replace HB := Aside0.mk (below_step zaB hb); have BK851 := Aside0.mk (hbox); clear hb hbox hg) | ((with_reducible refine gtd 3 rfl ?_); refine zbx 3 #[.bool a1_0, .int .u64 a1_1, .int .u64 a1_2] 43 (h := ?_); intro gb852 hg w68 hbox hb; have GW852 := zkz HB hg; have NB851_852 := zkl BK851 hg; have NB852_851 := zkr BK851 hg; replace BK851 := zkb BK851 hb; replace HB := zkB HB hb; have BK852 := Aside0.mk (hbox); clear hb hbox hg) | ((with_reducible refine gtd 4 rfl ?_); refine zbx 4 #[.bool false, .int .u64 0, .int .u64 0] 43 (h := ?_); intro gb853 hg w69 hbox hb; have GW853 := zkz HB hg; have NB851_853 := zkl BK851 hg; have NB853_851 := zkr BK851 hg; have NB852_853 := zkl BK852 hg; have NB853_852 := zkr BK852 hg; replace BK851 := zkb BK851 hb; replace BK852 := zkb BK852 hb; replace HB := zkB HB hb; have BK853 := Aside0.mk (hbox); clear hb hbox hg; obtain ⟨_, _⟩ := zsy NB852_851; obtain ⟨_, _⟩ := zsy NB852_853; obtain ⟨_, _, _, _, _, _⟩ := zq3 BK852; obtain ⟨_, _⟩ := zsy NB851_853; obtain ⟨_, _, _, _, _, _⟩ := zq3 BK851; obtain ⟨_, _, _, _, _, _⟩ := zq3 BK853))
  refine bodyPost_ret (results_cell_row rfl _ _ gb853 43 #[.bool a0_0, .int .u64 a0_1, .int .u64 a0_2] (0, 0) _ rfl (blk_put (cs := #[.bool a0_0, .int .u64 a0_1, .int .u64 0]) (blk_put (cs := #[.bool a0_0, .int .u64 0, .int .u64 0]) (blk_put (zkq BK853) 0 _ rfl) 1 _ rfl) 2 _ rfl) Try.underlying43 rfl (by kernel_rfl)) rfl ?_
  exact ⟨zaE, zaB⟩
 rw [if_neg c3] at H
 have c3b0 : (a1_1 == a1_2) = false := beq_eq_false_iff_ne.mpr c3
 have c3b1 : (a1_1 != a1_2) = true := bne_iff_ne.mpr c3
 simp only [Option.some.injEq, Prod.mk.injEq] at H
 obtain ⟨rfl, rfl, rfl⟩ := H
 go_enter Try.func123, Try.ntmps123
 go_wp2_with (first | ((with_reducible refine gtd 2 rfl ?_); refine zbx 2 #[.bool a0_0, .int .u64 a0_1, .int .u64 a0_2] 43 (h := ?_); intro gb851 hg w76 hbox hb; have GW851 := zkZ hg (zaB (p := Below w.heap.size w _)); replace HB := Aside0.mk (below_step zaB hb); have BK851 := Aside0.mk (hbox); clear hb hbox hg) | ((with_reducible refine gtd 3 rfl ?_); refine zbx 3 #[.bool a1_0, .int .u64 a1_1, .int .u64 a1_2] 43 (h := ?_); intro gb852 hg w77 hbox hb; have GW852 := zkz HB hg; have NB851_852 := zkl BK851 hg; have NB852_851 := zkr BK851 hg; replace BK851 := zkb BK851 hb; replace HB := zkB HB hb; have BK852 := Aside0.mk (hbox); clear hb hbox hg) | ((with_reducible refine gtd 4 rfl ?_); refine zbx 4 #[.bool false, .int .u64 0, .int .u64 0] 43 (h := ?_); intro gb853 hg w78 hbox hb; have GW853 := zkz HB hg; have NB851_853 := zkl BK851 hg; have NB853_851 := zkr BK851 hg; have NB852_853 := zkl BK852 hg; have NB853_852 := zkr BK852 hg; replace BK851 := zkb BK851 hb; replace BK852 := zkb BK852 hb; replace HB := zkB HB hb; have BK853 := Aside0.mk (hbox); clear hb hbox hg; obtain ⟨_, _⟩ := zsy NB852_851; obtain ⟨_, _⟩ := zsy NB852_853; obtain ⟨_, _, _, _, _, _⟩ := zq3 BK852; obtain ⟨_, _⟩ := zsy NB851_853; obtain ⟨_, _, _, _, _, _⟩ := zq3 BK851; obtain ⟨_, _, _, _, _, _⟩ := zq3 BK853))
 refine bodyPost_ret (results_cell_row rfl _ _ gb853 43 #[.bool a0_0, .int .u64 a0_1, .int .u64 a0_2] (0, 0) _ rfl (blk_put (cs := #[.bool a0_0, .int .u64 a0_1, .int .u64 0]) (blk_put (cs := #[.bool a0_0, .int .u64 0, .int .u64 0]) (blk_put (zkq BK853) 0 _ rfl) 1 _ rfl) 2 _ rfl) Try.underlying43 rfl (by kernel_rfl)) rfl ?_
 exact ⟨zaE, zaB⟩
def span_Test.T9 : Bool × List (List Nat × List Nat) := (true, [([], []), ([], []), ([1], [1]), ([], []), ([0, 2, 3], [0, 2, 3]), ([], []), ([], []), ([6], [6]), ([], []), ([5, 7, 8, 4], [5, 7, 8]), ([4, 9, 0, 1, 2, 3, 4], [4]), ([9, 10, 0, 1, 2, 3, 4, 5, 6, 7, 8, 9, 10], [9])])
def span_Test.B9 : List Nat := [0, 0, 2, 0, 15, 0, 0, 64, 0, 511, 1023, 2047]
theorem span_Test.tab9 : rtab .any (opsOf Try.f52 9) = span_Test.T9 := by kernel_rfl
theorem span_Test.bits9 : waitsOk span_Test.T9.2 span_Test.B9 = true := by kernel_rfl
def span_Test.T12 : Bool × List (List Nat × List Nat) := (true, [([], []), ([], []), ([1], [1]), ([], []), ([0, 2, 3], [0, 2, 3]), ([], []), ([], []), ([6], [6]), ([], []), ([5, 7, 8, 4], [5, 7, 8]), ([4, 9, 0, 1, 2, 3, 4], [4]), ([9, 10, 0, 1, 2, 3, 4, 5, 6, 7, 8, 9, 10], [9])])
def span_Test.B12 : List Nat := [0, 0, 2, 0, 15, 0, 0, 64, 0, 511, 1023, 2047]
theorem span_Test.tab12 : rtab .any (opsOf Try.f52 12) = span_Test.T12 := by kernel_rfl
theorem span_Test.bits12 : waitsOk span_Test.T12.2 span_Test.B12 = true := by kernel_rfl
def span_Test.T17 : Bool × List (List Nat × List Nat) := (true, [([], []), ([], []), ([0, 1], [0, 1]), ([], []), ([], []), ([3, 4, 2], [3, 4]), ([2, 5, 0, 1, 2], [2]), ([5, 6, 0, 1, 2, 3, 4, 5, 6], [5])])
def span_Test.B17 : List Nat := [0, 0, 3, 0, 0, 31, 63, 127]
theorem span_Test.tab17 : rtab .any (opsOf Try.f52 17) = span_Test.T17 := by kernel_rfl
theorem span_Test.bits17 : waitsOk span_Test.T17.2 span_Test.B17 = true := by kernel_rfl
theorem span_Test.calls (k : Nat) (a0 : Int) (a1_0 : Bool) (a1_1 : Int) (a1_2 : Int) (a2_0 : Bool) (a2_1 : Int) (a2_2 : Int) (r1 : Bool) (r2 : Int) (r3 : Int) (r4 : Bool) (r5 : Int) (r6 : Int) (w : World) (h : span_Test.f k a0 a1_0 a1_1 a1_2 a2_0 a2_1 a2_2 = some (r1, r2, r3, r4, r5, r6)) :
  Calls Try.prog 52 #[.int .u8 a0, .agg #[.bool a1_0, .int .u64 a1_1, .int .u64 a1_2], .agg #[.bool a2_0, .int .u64 a2_1, .int .u64 a2_2]] w fun e w' => e = .returned (.tuple #[.agg #[.bool r1, .int .u64 r2, .int .u64 r3], .agg #[.bool r4, .int .u64 r5, .int .u64 r6]]) ∧ Below w.heap.size w w' := by
 have hu43 := Try.underlying43
 have HB := Aside0.mk (Below.refl w.heap.size w)
 have H : ((span_norm.f k a1_0 a1_1 a1_2).bind fun bt867 => ((span_norm.f k a2_0 a2_1 a2_2).bind fun bt870 => (if bt867.1 = true then (span_Test.j0 k a0 true bt867.1 bt867.2.1 bt867.2.2 bt870.1 bt870.2.1 bt870.2.2) else (span_Test.j0 k a0 bt870.1 bt867.1 bt867.2.1 bt867.2.2 bt870.1 bt870.2.1 bt870.2.2)))) = some (r1, r2, r3, r4, r5, r6) := h
 clear h
 obtain ⟨⟨t867, t868, t869⟩, A4, H⟩ := zbs H
 try dsimp only at H
 obtain ⟨⟨t870, t871, t872⟩, A5, H⟩ := zbs H
 try dsimp only at H
 have HC6 := Aside0.mk H
 clear H
 go_enter Try.func52, Try.ntmps52
 try go_wp2_with (first | ((with_reducible refine gtd 4 rfl ?_); refine zbx 4 #[.bool a1_0, .int .u64 a1_1, .int .u64 a1_2] 43 (h := ?_); intro gb863 hg w7 hbox hb; have GW863 := zkZ hg (zaB (p := Below w.heap.size w _)); replace HB := Aside0.mk (below_step zaB hb); have BK863 := Aside0.mk (hbox); clear hb hbox hg) | ((with_reducible refine gtd 5 rfl ?_); refine zbx 5 #[.bool a2_0, .int .u64 a2_1, .int .u64 a2_2] 43 (h := ?_); intro gb864 hg w8 hbox hb; have GW864 := zkz HB hg; have NB863_864 := zkl BK863 hg; have NB864_863 := zkr BK863 hg; replace BK863 := zkb BK863 hb; replace HB := zkB HB hb; have BK864 := Aside0.mk (hbox); clear hb hbox hg) | ((with_reducible refine gtd 6 rfl ?_); refine zbx 6 #[.bool false, .int .u64 0, .int .u64 0] 43 (h := ?_); intro gb865 hg w9 hbox hb; have GW865 := zkz HB hg; have NB863_865 := zkl BK863 hg; have NB865_863 := zkr BK863 hg; have NB864_865 := zkl BK864 hg; have NB865_864 := zkr BK864 hg; replace BK863 := zkb BK863 hb; replace BK864 := zkb BK864 hb; replace HB := zkB HB hb; have BK865 := Aside0.mk (hbox); clear hb hbox hg) | ((with_reducible refine gtd 7 rfl ?_); refine zbx 7 #[.bool false, .int .u64 0, .int .u64 0] 43 (h := ?_); intro gb866 hg w10 hbox hb; have GW866 := zkz HB hg; have NB863_866 := zkl BK863 hg; have NB866_863 := zkr BK863 hg; have NB864_866 := zkl BK864 hg; have NB866_864 := zkr BK864 hg; have NB865_866 := zkl BK865 hg; have NB866_865 := zkr BK865 hg; replace BK863 := zkb BK863 hb; replace BK864 := zkb BK864 hb; replace BK865 := zkb BK865 hb; replace HB := zkB HB hb; have BK866 := Aside0.mk (hbox); clear hb hbox hg))
 replace BK863 := Aside0.mk (blk_drew BK863.out)
 replace BK864 := Aside0.mk (blk_drew BK864.out)
 replace BK865 := Aside0.mk (blk_drew BK865.out)
 replace BK866 := Aside0.mk (blk_drew BK866.out)
 replace HB := Aside0.mk (below_drew1 HB.out)
 refine start_ (n := 6) (S := fun w' => w'.cell? ⟨gb863, 0, none⟩ = some (.bool a1_0) ∧ w'.cell? ⟨gb863, 1, none⟩ = some (.int .u64 a1_1) ∧ w'.cell? ⟨gb863, 2, none⟩ = some (.int .u64 a1_2) ∧ w'.cell? ⟨gb864, 0, none⟩ = some (.bool a2_0) ∧ w'.cell? ⟨gb864, 1, none⟩ = some (.int .u64 a2_1) ∧ w'.cell? ⟨gb864, 2, none⟩ = some (.int .u64 a2_2)) (ds := [4, 5]) #[false, false, false, false, false, false] (by kernel_rfl) rfl rfl (zk3 BK863 (ze3 BK864)) (fun hHeld => ?_)
 generalize w10.drew = w11 at BK863 BK864 BK865 BK866 HB hHeld ⊢
 refine take_ (i := 0) (N := some 11) (v := ?_) (a' := ?_) #[true, false, false, false, false, false] rfl rfl (by kernel_rfl) (fun _ _ _ h => h) (Or.inl ⟨by rfl, ?_⟩) hHeld ?_ ?_
 rotate_left
 ·rintro w' ⟨s0, s1, s2, s3, s4, s5⟩
  go_simp
  with_reducible rfl
 rotate_left
 ·simp only [Act.put, List.setIfInBounds_toArray, List.set_cons_zero, List.set_cons_succ, i64_w, i32_w]
  rfl
 refine take_ (i := 2) (N := some 13) (v := ?_) (a' := ?_) #[true, false, true, false, false, false] rfl rfl (by kernel_rfl) (fun _ _ _ h => h) (Or.inl ⟨by rfl, ?_⟩) hHeld ?_ ?_
 rotate_left
 ·rintro w' ⟨s0, s1, s2, s3, s4, s5⟩
  go_simp
  with_reducible rfl
 rotate_left
 ·simp only [Act.put, List.setIfInBounds_toArray, List.set_cons_zero, List.set_cons_succ, i64_w, i32_w]
  rfl
 refine one_ (i := 1) (N := some 12) #[true, true, true, false, false, false] rfl rfl (by kernel_rfl) (by decide) (fun K hK => ?_)
 refine zgA Try.func112 (span_norm.calls k a1_0 a1_1 a1_2 t867 t868 t869 _ A4.out) (h := ?_)
 rintro w12 hb
 replace BK863 := zkb BK863 hb
 replace BK864 := zkb BK864 hb
 replace BK865 := zkb BK865 hb
 replace BK866 := zkb BK866 hb
 replace HB := zkB HB hb
 (try clear hb)
 refine hK.out _ _ (zk3 BK863 (ze3 BK864)) (fun hHeld => ?_)
 clear hK K
 refine znA 12 (h := ?_)
 refine one_ (i := 3) (N := some 14) #[true, true, true, true, false, false] rfl rfl (by kernel_rfl) (by decide) (fun K hK => ?_)
 refine zgA Try.func112 (span_norm.calls k a2_0 a2_1 a2_2 t870 t871 t872 _ A5.out) (h := ?_)
 rintro w13 hb
 replace BK863 := zkb BK863 hb
 replace BK864 := zkb BK864 hb
 replace BK865 := zkb BK865 hb
 replace BK866 := zkb BK866 hb
 replace HB := zkB HB hb
 (try clear hb)
 refine hK.out _ _ (zk3 BK863 (ze3 BK864)) (fun hHeld => ?_)
 clear hK K
 refine znA 14 (h := ?_)
 refine last_ (i := 4) (N := none) #[true, true, true, true, true, false] rfl rfl (by kernel_rfl) (by decide) (fun K hK => ?_)
 have hs14 := zc0 BK863
 have hfs14 := blk_frozen BK863.out 0
 have hns14_1 := NB864_863.out
 have hns14_2 := NB865_863.out
 have hns14_3 := NB866_863.out
 have hms14_1 := NB863_864.out
 have hms14_2 := NB863_865.out
 have hms14_3 := NB863_866.out
 have hs15 := zc1 BK863
 have hfs15 := blk_frozen BK863.out 1
 have hns15_1 := NB864_863.out
 have hns15_2 := NB865_863.out
 have hns15_3 := NB866_863.out
 have hms15_1 := NB863_864.out
 have hms15_2 := NB863_865.out
 have hms15_3 := NB863_866.out
 have hs16 := zc2 BK863
 have hfs16 := blk_frozen BK863.out 2
 have hns16_1 := NB864_863.out
 have hns16_2 := NB865_863.out
 have hns16_3 := NB866_863.out
 have hms16_1 := NB863_864.out
 have hms16_2 := NB863_865.out
 have hms16_3 := NB863_866.out
 refine skip_ (w1 := ?_) (by rfl) rfl ?_ ?_
 rotate_left
 ·go_simp
  rfl
 refine hK.out _ _ ?_
 clear hK K
 refine last_ (i := 5) (N := none) #[true, true, true, true, true, true] rfl rfl (by kernel_rfl) (by decide) (fun K hK => ?_)
 have hs17 := zc0 BK864
 have hfs17 := blk_frozen BK864.out 0
 have hns17_0 := NB863_864.out
 have hns17_2 := NB865_864.out
 have hns17_3 := NB866_864.out
 have hms17_0 := NB864_863.out
 have hms17_2 := NB864_865.out
 have hms17_3 := NB864_866.out
 have hs18 := zc1 BK864
 have hfs18 := blk_frozen BK864.out 1
 have hns18_0 := NB863_864.out
 have hns18_2 := NB865_864.out
 have hns18_3 := NB866_864.out
 have hms18_0 := NB864_863.out
 have hms18_2 := NB864_865.out
 have hms18_3 := NB864_866.out
 have hs19 := zc2 BK864
 have hfs19 := blk_frozen BK864.out 2
 have hns19_0 := NB863_864.out
 have hns19_2 := NB865_864.out
 have hns19_3 := NB866_864.out
 have hms19_0 := NB864_863.out
 have hms19_2 := NB864_865.out
 have hms19_3 := NB864_866.out
 refine skip_ (w1 := ?_) (by rfl) rfl ?_ ?_
 rotate_left
 ·go_simp
  rfl
 refine hK.out _ _ ?_
 clear hK K
 refine done_ (by kernel_rfl) ?_
 go_upto_region 2 with (fail)
 go_cut [20] (fun v20 wc => ∃ (kq : Nat) (x20_5 : Bool), v20 = .bool x20_5 ∧ Aside0 (span_Test.j0 kq a0 x20_5 t867 t868 t869 t870 t871 t872 = some (r1, r2, r3, r4, r5, r6)) ∧ Aside0 (kq ≤ k) ∧ Aside0 (wc.heap[gb863]? = some (.cells #[.bool t867, .int .u64 t868, .int .u64 t869] 43 (0, 0))) ∧ Aside0 (wc.heap[gb864]? = some (.cells #[.bool t870, .int .u64 t871, .int .u64 t872] 43 (0, 0))) ∧ Aside0 (wc.heap[gb865]? = some (.cells #[.bool false, .int .u64 0, .int .u64 0] 43 (0, 0))) ∧ Aside0 (wc.heap[gb866]? = some (.cells #[.bool false, .int .u64 0, .int .u64 0] 43 (0, 0))) ∧ Aside0 (Below w.heap.size w wc))
 case first =>
  have H := HC6.out
  clear HC6
  by_cases c20 : t867 = true
  ·subst c20
   replace H := zit H
   have H' := Aside0.mk H
   clear H
   obtain ⟨_, _⟩ := zsy NB863_864
   obtain ⟨_, _⟩ := zsy NB863_865
   obtain ⟨_, _⟩ := zsy NB863_866
   obtain ⟨z24_0, z24_1, z24_2, f24_0, f24_1, f24_2⟩ := zq3 BK863
   go_wp2
   go_meet
   case rel => exact ⟨_, (true), zrl, H', ⟨zle⟩, ⟨(zkf (zkf (zkf (blk_put (cs := #[.bool true, .int .u64 t868, .int .u64 a1_2]) (blk_put (cs := #[.bool true, .int .u64 a1_1, .int .u64 a1_2]) (blk_put (zkq BK863) 0 _ rfl) 1 _ rfl) 2 _ rfl) NB863_864.out _) NB863_864.out _) NB863_864.out _)⟩, ⟨(blk_put (cs := #[.bool t870, .int .u64 t871, .int .u64 a2_2]) (blk_put (cs := #[.bool t870, .int .u64 a2_1, .int .u64 a2_2]) (blk_put (zkf (zkf (zkf (zkq BK864) NB864_863.out _) NB864_863.out _) NB864_863.out _) 0 _ rfl) 1 _ rfl) 2 _ rfl)⟩, ⟨(zkf (zkf (zkf (zkf (zkf (zkf (zkq BK865) NB865_863.out _) NB865_863.out _) NB865_863.out _) NB865_864.out _) NB865_864.out _) NB865_864.out _)⟩, ⟨(zkf (zkf (zkf (zkf (zkf (zkf (zkq BK866) NB866_863.out _) NB866_863.out _) NB866_863.out _) NB866_864.out _) NB866_864.out _) NB866_864.out _)⟩, ⟨zaB⟩⟩
  replace c20 := Bool.eq_false_iff.mpr c20
  subst c20
  replace H := zif H
  have H' := Aside0.mk H
  clear H
  obtain ⟨_, _⟩ := zsy NB863_864
  obtain ⟨_, _⟩ := zsy NB863_865
  obtain ⟨_, _⟩ := zsy NB863_866
  obtain ⟨z28_0, z28_1, z28_2, f28_0, f28_1, f28_2⟩ := zq3 BK863
  obtain ⟨_, _⟩ := zsy NB864_865
  obtain ⟨_, _⟩ := zsy NB864_866
  obtain ⟨z31_0, z31_1, z31_2, f31_0, f31_1, f31_2⟩ := zq3 BK864
  go_wp2
  go_meet
  case rel => exact ⟨_, (t870), zrl, H', ⟨zle⟩, ⟨(zkf (zkf (zkf (blk_put (cs := #[.bool false, .int .u64 t868, .int .u64 a1_2]) (blk_put (cs := #[.bool false, .int .u64 a1_1, .int .u64 a1_2]) (blk_put (zkq BK863) 0 _ rfl) 1 _ rfl) 2 _ rfl) NB863_864.out _) NB863_864.out _) NB863_864.out _)⟩, ⟨(blk_put (cs := #[.bool t870, .int .u64 t871, .int .u64 a2_2]) (blk_put (cs := #[.bool t870, .int .u64 a2_1, .int .u64 a2_2]) (blk_put (zkf (zkf (zkf (zkq BK864) NB864_863.out _) NB864_863.out _) NB864_863.out _) 0 _ rfl) 1 _ rfl) 2 _ rfl)⟩, ⟨(zkf (zkf (zkf (zkf (zkf (zkf (zkq BK865) NB865_863.out _) NB865_863.out _) NB865_863.out _) NB865_864.out _) NB865_864.out _) NB865_864.out _)⟩, ⟨(zkf (zkf (zkf (zkf (zkf (zkf (zkq BK866) NB866_863.out _) NB866_863.out _) NB866_863.out _) NB866_864.out _) NB866_864.out _) NB866_864.out _)⟩, ⟨zaB⟩⟩
 case rest =>
  clear HC6
  try clear c1
  try clear c2
  try clear p2
  try clear c3
  try clear c5
  try clear c11
  try clear c20
  try clear c21
  try clear c22
  try clear c23
  try clear c25
  try clear c26
  try clear c27
  try clear c29
  try clear c30
  try clear z24_0
  try clear z24_1
  try clear z24_2
  try clear z28_0
  try clear z28_1
  try clear z28_2
  try clear z31_0
  try clear z31_1
  try clear z31_2
  try clear f24_0
  try clear f24_1
  try clear f24_2
  try clear f28_0
  try clear f28_1
  try clear f28_2
  try clear f31_0
  try clear f31_1
  try clear f31_2
  obtain ⟨kq, x20_5, rfl, HA, HJ5, BK863, BK864, BK865, BK866, HB⟩ := hcut
  cases kq with
  | zero => exact absurd HA.out (by simp [span_Test.j0])
  | succ kj5 =>
   have H := HA.out
   clear HA
   simp only [span_Test.j0] at H
   by_cases c32 : x20_5 = true
   ·subst c32
    replace H := zit H
    obtain ⟨⟨t873, t874, t875⟩, A33, H⟩ := zbs H
    try dsimp only at H
    obtain ⟨⟨t876, t877, t878⟩, A34, H⟩ := zbs H
    try dsimp only at H
    simp only [Option.some.injEq, Prod.mk.injEq] at H
    obtain ⟨rfl, rfl, rfl, rfl, rfl, rfl⟩ := H
    go_wp2_with (first | ((with_reducible refine gtc 118 rfl ?_); refine zgL 21 Try.func118 (span_none.calls  t873 t874 t875 _ A33.out) (h := ?_); rintro w35 hb; replace BK863 := zkb BK863 hb; replace BK864 := zkb BK864 hb; replace BK865 := zkb BK865 hb; replace BK866 := zkb BK866 hb; replace HB := zkB HB hb; (try clear hb)) | ((with_reducible refine gtc 118 rfl ?_); refine zgL 22 Try.func118 (span_none.calls  t876 t877 t878 _ A34.out) (h := ?_); rintro w36 hb; replace BK863 := zkb BK863 hb; replace BK864 := zkb BK864 hb; replace BK865 := zkb BK865 hb; replace BK866 := zkb BK866 hb; replace HB := zkB HB hb; (try clear hb); obtain ⟨_, _⟩ := zsy NB865_863; obtain ⟨_, _⟩ := zsy NB865_864; obtain ⟨_, _⟩ := zsy NB865_866; obtain ⟨z40_0, z40_1, z40_2, f40_0, f40_1, f40_2⟩ := zq3 BK865; obtain ⟨_, _⟩ := zsy NB866_863; obtain ⟨_, _⟩ := zsy NB866_864; obtain ⟨z43_0, z43_1, z43_2, f43_0, f43_1, f43_2⟩ := zq3 BK866))
    refine bodyPost_ret (results_cc rfl _ _ gb865 gb866 43 43 #[.bool t873, .int .u64 t874, .int .u64 t875] #[.bool t876, .int .u64 t877, .int .u64 t878] (0, 0) (0, 0) _ _ rfl (zkf (zkf (zkf (blk_put (cs := #[.bool t873, .int .u64 t874, .int .u64 0]) (blk_put (cs := #[.bool t873, .int .u64 0, .int .u64 0]) (blk_put (zkq BK865) 0 _ rfl) 1 _ rfl) 2 _ rfl) NB865_866.out _) NB865_866.out _) NB865_866.out _) Try.underlying43 rfl (by kernel_rfl) rfl (blk_put (cs := #[.bool t876, .int .u64 t877, .int .u64 0]) (blk_put (cs := #[.bool t876, .int .u64 0, .int .u64 0]) (blk_put (zkf (zkf (zkf (zkq BK866) NB866_865.out _) NB866_865.out _) NB866_865.out _) 0 _ rfl) 1 _ rfl) 2 _ rfl) Try.underlying43 rfl (by kernel_rfl)) rfl ?_
    exact ⟨zaE, zaB⟩
   replace c32 := Bool.eq_false_iff.mpr c32
   subst c32
   replace H := zif H
   have HC44 := Aside0.mk H
   clear H
   try go_wp2
   replace BK863 := Aside0.mk (blk_drew BK863.out)
   replace BK864 := Aside0.mk (blk_drew BK864.out)
   replace BK865 := Aside0.mk (blk_drew BK865.out)
   replace BK866 := Aside0.mk (blk_drew BK866.out)
   replace HB := Aside0.mk (below_drew1 HB.out)
   refine start_ (n := 6) (S := fun w' => w'.cell? ⟨gb863, 0, none⟩ = some (.bool t867) ∧ w'.cell? ⟨gb863, 1, none⟩ = some (.int .u64 t868) ∧ w'.cell? ⟨gb863, 2, none⟩ = some (.int .u64 t869) ∧ w'.cell? ⟨gb864, 0, none⟩ = some (.bool t870) ∧ w'.cell? ⟨gb864, 1, none⟩ = some (.int .u64 t871) ∧ w'.cell? ⟨gb864, 2, none⟩ = some (.int .u64 t872)) (ds := []) #[false, false, false, false, false, false] (by kernel_rfl) rfl rfl (zk3 BK863 (ze3 BK864)) (fun hHeld => ?_)
   generalize wc.drew = w45 at BK863 BK864 BK865 BK866 HB hHeld ⊢
   refine take_ (i := 0) (N := some 23) (v := ?_) (a' := ?_) #[true, false, false, false, false, false] rfl rfl (by kernel_rfl) (fun _ _ _ h => h) (Or.inl ⟨by rfl, ?_⟩) hHeld ?_ ?_
   rotate_left
   ·rintro w' ⟨s0, s1, s2, s3, s4, s5⟩
    go_simp
    with_reducible rfl
   rotate_left
   ·simp only [Act.put, List.setIfInBounds_toArray, List.set_cons_zero, List.set_cons_succ, i64_w, i32_w]
    rfl
   refine take_ (i := 1) (N := some 24) (v := ?_) (a' := ?_) #[true, true, false, false, false, false] rfl rfl (by kernel_rfl) (fun _ _ _ h => h) (Or.inl ⟨by rfl, ?_⟩) hHeld ?_ ?_
   rotate_left
   ·rintro w' ⟨s0, s1, s2, s3, s4, s5⟩
    go_simp
    with_reducible rfl
   rotate_left
   ·simp only [Act.put, List.setIfInBounds_toArray, List.set_cons_zero, List.set_cons_succ, i64_w, i32_w]
    rfl
   refine join_ (σ := Nat × Nat) 2 #[true, true, true, true, false, false] (fun s_ => [(8, .pointer (some ⟨s_.1, 0, none⟩)), (9, .pointer (some ⟨s_.2, 0, none⟩))]) (fun s_ w' => (w'.cell? ⟨gb863, 0, none⟩ = some (.bool t867) ∧ w'.cell? ⟨gb863, 1, none⟩ = some (.int .u64 t868) ∧ w'.cell? ⟨gb863, 2, none⟩ = some (.int .u64 t869) ∧ w'.cell? ⟨gb864, 0, none⟩ = some (.bool t870) ∧ w'.cell? ⟨gb864, 1, none⟩ = some (.int .u64 t871) ∧ w'.cell? ⟨gb864, 2, none⟩ = some (.int .u64 t872)) ∧ (w'.heap[gb863]? = some (.cells #[.bool t867, .int .u64 t868, .int .u64 t869] 43 (0, 0))) ∧ (w'.heap[gb864]? = some (.cells #[.bool t870, .int .u64 t871, .int .u64 t872] 43 (0, 0))) ∧ (w'.heap[gb865]? = some (.cells #[.bool false, .int .u64 0, .int .u64 0] 43 (0, 0))) ∧ (w'.heap[gb866]? = some (.cells #[.bool false, .int .u64 0, .int .u64 0] 43 (0, 0))) ∧ (w'.heap[s_.1]? = some (.cells #[.bool false, .int .u64 0, .int .u64 0] 43 (0, 0))) ∧ (w'.heap[s_.2]? = some (.cells #[.bool false, .int .u64 0, .int .u64 0] 43 (0, 0))) ∧ (w.heap.size ≤ s_.1) ∧ (w.heap.size ≤ s_.1) ∧ (gb863 ≠ s_.1) ∧ (s_.1 ≠ gb863) ∧ (gb864 ≠ s_.1) ∧ (s_.1 ≠ gb864) ∧ (gb865 ≠ s_.1) ∧ (s_.1 ≠ gb865) ∧ (gb866 ≠ s_.1) ∧ (s_.1 ≠ gb866) ∧ (s_.2 ≠ s_.1) ∧ (s_.1 ≠ s_.2) ∧ (w.heap.size ≤ s_.2) ∧ (w.heap.size ≤ s_.2) ∧ (gb863 ≠ s_.2) ∧ (s_.2 ≠ gb863) ∧ (gb864 ≠ s_.2) ∧ (s_.2 ≠ gb864) ∧ (gb865 ≠ s_.2) ∧ (s_.2 ≠ gb865) ∧ (gb866 ≠ s_.2) ∧ (s_.2 ≠ gb866) ∧ (Below w.heap.size w w')) ?_ ?_
   rotate_left
   ·intro hCont
    refine two_ (i := 2) (j := 3) (Ni := some 8) (Nj := some 9) #[true, true, true, false, false, false] #[true, true, false, true, false, false] rfl rfl rfl rfl (by kernel_rfl) (by decide) (by decide) (fun K hK => ?_) (fun K hK => ?_)
    ·skip
     refine box_step ?hg (N := 8) ?hd (cs := #[.bool false, .int .u64 0, .int .u64 0]) (t := 43) ?hr ?_; (case hd => rfl); (case hg => rfl); (case hr => first | (go_simp; done) | (go_simp; rfl))
     intro gb879 hg w46 hbox hb
     have GW879 := zkz HB hg
     have NB863_879 := zkl BK863 hg
     have NB879_863 := zkr BK863 hg
     have NB864_879 := zkl BK864 hg
     have NB879_864 := zkr BK864 hg
     have NB865_879 := zkl BK865 hg
     have NB879_865 := zkr BK865 hg
     have NB866_879 := zkl BK866 hg
     have NB879_866 := zkr BK866 hg
     replace BK863 := zkb BK863 hb
     replace BK864 := zkb BK864 hb
     replace BK865 := zkb BK865 hb
     replace BK866 := zkb BK866 hb
     replace HB := zkB HB hb
     have BK879 := Aside0.mk (hbox)
     clear hb hbox hg
     refine hK.out _ _ (zk3 BK863 (ze3 BK864)) (fun hHeld => ?_)
     clear hK K
     refine znA 8 (h := ?_)
     refine one_ (i := 3) (N := some 9) #[true, true, true, true, false, false] rfl rfl (by kernel_rfl) (by decide) (fun K hK => ?_)
     refine box_step ?hg (N := 9) ?hd (cs := #[.bool false, .int .u64 0, .int .u64 0]) (t := 43) ?hr ?_; (case hd => rfl); (case hg => rfl); (case hr => first | (go_simp; done) | (go_simp; rfl))
     intro gb880 hg w47 hbox hb
     have GW880 := zkz HB hg
     have NB863_880 := zkl BK863 hg
     have NB880_863 := zkr BK863 hg
     have NB864_880 := zkl BK864 hg
     have NB880_864 := zkr BK864 hg
     have NB865_880 := zkl BK865 hg
     have NB880_865 := zkr BK865 hg
     have NB866_880 := zkl BK866 hg
     have NB880_866 := zkr BK866 hg
     have NB879_880 := zkl BK879 hg
     have NB880_879 := zkr BK879 hg
     replace BK863 := zkb BK863 hb
     replace BK864 := zkb BK864 hb
     replace BK865 := zkb BK865 hb
     replace BK866 := zkb BK866 hb
     replace BK879 := zkb BK879 hb
     replace HB := zkB HB hb
     have BK880 := Aside0.mk (hbox)
     clear hb hbox hg
     refine hK.out _ _ (zk3 BK863 (ze3 BK864)) (fun hHeld => ?_)
     clear hK K
     refine znA 9 (h := ?_)
     exact norm_ (by simp only [putAll, Act.put, List.setIfInBounds_toArray, List.set_cons_zero, List.set_cons_succ]) (hCont (gb879, gb880) _ ⟨hHeld, (zkq BK863), (zkq BK864), (zkq BK865), (zkq BK866), (zkq BK879), (zkq BK880), GW879.out, GW879.out, NB863_879.out, NB879_863.out, NB864_879.out, NB879_864.out, NB865_879.out, NB879_865.out, NB866_879.out, NB879_866.out, NB880_879.out, NB879_880.out, GW880.out, GW880.out, NB863_880.out, NB880_863.out, NB864_880.out, NB880_864.out, NB865_880.out, NB880_865.out, NB866_880.out, NB880_866.out, zaB⟩)
    skip
    refine box_step ?hg (N := 9) ?hd (cs := #[.bool false, .int .u64 0, .int .u64 0]) (t := 43) ?hr ?_; (case hd => rfl); (case hg => rfl); (case hr => first | (go_simp; done) | (go_simp; rfl))
    intro gb880 hg w46 hbox hb
    have GW880 := zkz HB hg
    have NB863_880 := zkl BK863 hg
    have NB880_863 := zkr BK863 hg
    have NB864_880 := zkl BK864 hg
    have NB880_864 := zkr BK864 hg
    have NB865_880 := zkl BK865 hg
    have NB880_865 := zkr BK865 hg
    have NB866_880 := zkl BK866 hg
    have NB880_866 := zkr BK866 hg
    replace BK863 := zkb BK863 hb
    replace BK864 := zkb BK864 hb
    replace BK865 := zkb BK865 hb
    replace BK866 := zkb BK866 hb
    replace HB := zkB HB hb
    have BK880 := Aside0.mk (hbox)
    clear hb hbox hg
    refine hK.out _ _ (zk3 BK863 (ze3 BK864)) (fun hHeld => ?_)
    clear hK K
    refine znA 9 (h := ?_)
    refine one_ (i := 2) (N := some 8) #[true, true, true, true, false, false] rfl rfl (by kernel_rfl) (by decide) (fun K hK => ?_)
    refine box_step ?hg (N := 8) ?hd (cs := #[.bool false, .int .u64 0, .int .u64 0]) (t := 43) ?hr ?_; (case hd => rfl); (case hg => rfl); (case hr => first | (go_simp; done) | (go_simp; rfl))
    intro gb879 hg w47 hbox hb
    have GW879 := zkz HB hg
    have NB863_879 := zkl BK863 hg
    have NB879_863 := zkr BK863 hg
    have NB864_879 := zkl BK864 hg
    have NB879_864 := zkr BK864 hg
    have NB865_879 := zkl BK865 hg
    have NB879_865 := zkr BK865 hg
    have NB866_879 := zkl BK866 hg
    have NB879_866 := zkr BK866 hg
    have NB880_879 := zkl BK880 hg
    have NB879_880 := zkr BK880 hg
    replace BK863 := zkb BK863 hb
    replace BK864 := zkb BK864 hb
    replace BK865 := zkb BK865 hb
    replace BK866 := zkb BK866 hb
    replace BK880 := zkb BK880 hb
    replace HB := zkB HB hb
    have BK879 := Aside0.mk (hbox)
    clear hb hbox hg
    refine hK.out _ _ (zk3 BK863 (ze3 BK864)) (fun hHeld => ?_)
    clear hK K
    refine znA 8 (h := ?_)
    exact norm_ (by simp only [putAll, Act.put, List.setIfInBounds_toArray, List.set_cons_zero, List.set_cons_succ]) (hCont (gb879, gb880) _ ⟨hHeld, (zkq BK863), (zkq BK864), (zkq BK865), (zkq BK866), (zkq BK879), (zkq BK880), GW879.out, GW879.out, NB863_879.out, NB879_863.out, NB864_879.out, NB879_864.out, NB865_879.out, NB879_865.out, NB866_879.out, NB879_866.out, NB880_879.out, NB879_880.out, GW880.out, GW880.out, NB863_880.out, NB880_863.out, NB864_880.out, NB880_864.out, NB865_880.out, NB880_865.out, NB866_880.out, NB880_866.out, zaB⟩)
   rintro ⟨gb879, gb880⟩ w48 ⟨hS_, h0_, h1_, h2_, h3_, h4_, h5_, h6_, h7_, h8_, h9_, h10_, h11_, h12_, h13_, h14_, h15_, h16_, h17_, h18_, h19_, h20_, h21_, h22_, h23_, h24_, h25_, h26_, h27_, h28_⟩
   have n0_ : Aside0 (w48.heap[gb863]? = some (.cells #[.bool t867, .int .u64 t868, .int .u64 t869] 43 (0, 0))) := ⟨h0_⟩
   have n1_ : Aside0 (w48.heap[gb864]? = some (.cells #[.bool t870, .int .u64 t871, .int .u64 t872] 43 (0, 0))) := ⟨h1_⟩
   have n2_ : Aside0 (w48.heap[gb865]? = some (.cells #[.bool false, .int .u64 0, .int .u64 0] 43 (0, 0))) := ⟨h2_⟩
   have n3_ : Aside0 (w48.heap[gb866]? = some (.cells #[.bool false, .int .u64 0, .int .u64 0] 43 (0, 0))) := ⟨h3_⟩
   have n4_ : Aside0 (w48.heap[gb879]? = some (.cells #[.bool false, .int .u64 0, .int .u64 0] 43 (0, 0))) := ⟨h4_⟩
   have n5_ : Aside0 (w48.heap[gb880]? = some (.cells #[.bool false, .int .u64 0, .int .u64 0] 43 (0, 0))) := ⟨h5_⟩
   have n6_ : Aside0 (w.heap.size ≤ gb879) := ⟨h6_⟩
   have n7_ : Aside0 (w.heap.size ≤ gb879) := ⟨h7_⟩
   have n8_ : Aside0 (gb863 ≠ gb879) := ⟨h8_⟩
   have n9_ : Aside0 (gb879 ≠ gb863) := ⟨h9_⟩
   have n10_ : Aside0 (gb864 ≠ gb879) := ⟨h10_⟩
   have n11_ : Aside0 (gb879 ≠ gb864) := ⟨h11_⟩
   have n12_ : Aside0 (gb865 ≠ gb879) := ⟨h12_⟩
   have n13_ : Aside0 (gb879 ≠ gb865) := ⟨h13_⟩
   have n14_ : Aside0 (gb866 ≠ gb879) := ⟨h14_⟩
   have n15_ : Aside0 (gb879 ≠ gb866) := ⟨h15_⟩
   have n16_ : Aside0 (gb880 ≠ gb879) := ⟨h16_⟩
   have n17_ : Aside0 (gb879 ≠ gb880) := ⟨h17_⟩
   have n18_ : Aside0 (w.heap.size ≤ gb880) := ⟨h18_⟩
   have n19_ : Aside0 (w.heap.size ≤ gb880) := ⟨h19_⟩
   have n20_ : Aside0 (gb863 ≠ gb880) := ⟨h20_⟩
   have n21_ : Aside0 (gb880 ≠ gb863) := ⟨h21_⟩
   have n22_ : Aside0 (gb864 ≠ gb880) := ⟨h22_⟩
   have n23_ : Aside0 (gb880 ≠ gb864) := ⟨h23_⟩
   have n24_ : Aside0 (gb865 ≠ gb880) := ⟨h24_⟩
   have n25_ : Aside0 (gb880 ≠ gb865) := ⟨h25_⟩
   have n26_ : Aside0 (gb866 ≠ gb880) := ⟨h26_⟩
   have n27_ : Aside0 (gb880 ≠ gb866) := ⟨h27_⟩
   have n28_ : Aside0 (Below w.heap.size w w48) := ⟨h28_⟩
   clear BK863
   clear BK864
   clear BK865
   clear BK866
   clear HB
   clear h0_ h1_ h2_ h3_ h4_ h5_ h6_ h7_ h8_ h9_ h10_ h11_ h12_ h13_ h14_ h15_ h16_ h17_ h18_ h19_ h20_ h21_ h22_ h23_ h24_ h25_ h26_ h27_ h28_
   have BK863 := n0_
   have BK864 := n1_
   have BK865 := n2_
   have BK866 := n3_
   have BK879 := n4_
   have BK880 := n5_
   have GW879 := n6_
   have GW879 := n7_
   have NB863_879 := n8_
   have NB879_863 := n9_
   have NB864_879 := n10_
   have NB879_864 := n11_
   have NB865_879 := n12_
   have NB879_865 := n13_
   have NB866_879 := n14_
   have NB879_866 := n15_
   have NB880_879 := n16_
   have NB879_880 := n17_
   have GW880 := n18_
   have GW880 := n19_
   have NB863_880 := n20_
   have NB880_863 := n21_
   have NB864_880 := n22_
   have NB880_864 := n23_
   have NB865_880 := n24_
   have NB880_865 := n25_
   have NB866_880 := n26_
   have NB880_866 := n27_
   have HB := n28_
   clear n0_ n1_ n2_ n3_ n4_ n5_ n6_ n7_ n8_ n9_ n10_ n11_ n12_ n13_ n14_ n15_ n16_ n17_ n18_ n19_ n20_ n21_ n22_ n23_ n24_ n25_ n26_ n27_ n28_
   have hHeld : w48.cell? ⟨gb863, 0, none⟩ = some (.bool t867) ∧ w48.cell? ⟨gb863, 1, none⟩ = some (.int .u64 t868) ∧ w48.cell? ⟨gb863, 2, none⟩ = some (.int .u64 t869) ∧ w48.cell? ⟨gb864, 0, none⟩ = some (.bool t870) ∧ w48.cell? ⟨gb864, 1, none⟩ = some (.int .u64 t871) ∧ w48.cell? ⟨gb864, 2, none⟩ = some (.int .u64 t872) := hS_
   refine norm_ (a' := ?_) ?_ ?_
   rotate_left
   ·simp only [putAll, Act.put, List.setIfInBounds_toArray, List.set_cons_zero, List.set_cons_succ]
    rfl
   refine one_ (i := 4) (N := none) #[true, true, true, true, true, false] rfl rfl (by kernel_rfl) (by decide) (fun K hK => ?_)
   have hs49 := zc0 BK879
   have hfs49 := blk_frozen BK879.out 0
   have hns49_0 := NB863_879.out
   have hns49_1 := NB864_879.out
   have hns49_2 := NB865_879.out
   have hns49_3 := NB866_879.out
   have hns49_5 := NB880_879.out
   have hms49_0 := NB879_863.out
   have hms49_1 := NB879_864.out
   have hms49_2 := NB879_865.out
   have hms49_3 := NB879_866.out
   have hms49_5 := NB879_880.out
   have hs50 := zc1 BK879
   have hfs50 := blk_frozen BK879.out 1
   have hns50_0 := NB863_879.out
   have hns50_1 := NB864_879.out
   have hns50_2 := NB865_879.out
   have hns50_3 := NB866_879.out
   have hns50_5 := NB880_879.out
   have hms50_0 := NB879_863.out
   have hms50_1 := NB879_864.out
   have hms50_2 := NB879_865.out
   have hms50_3 := NB879_866.out
   have hms50_5 := NB879_880.out
   have hs51 := zc2 BK879
   have hfs51 := blk_frozen BK879.out 2
   have hns51_0 := NB863_879.out
   have hns51_1 := NB864_879.out
   have hns51_2 := NB865_879.out
   have hns51_3 := NB866_879.out
   have hns51_5 := NB880_879.out
   have hms51_0 := NB879_863.out
   have hms51_1 := NB879_864.out
   have hms51_2 := NB879_865.out
   have hms51_3 := NB879_866.out
   have hms51_5 := NB879_880.out
   refine skip_ (w1 := ?_) (by rfl) rfl ?_ ?_
   rotate_left
   ·go_simp
    rfl
   refine hK.out _ _ ⟨(zff NB863_879 (zff NB863_879 (zff NB863_879 hHeld.1))), (zff NB863_879 (zff NB863_879 (zff NB863_879 hHeld.2.1))), (zff NB863_879 (zff NB863_879 (zff NB863_879 hHeld.2.2.1))), (zff NB864_879 (zff NB864_879 (zff NB864_879 hHeld.2.2.2.1))), (zff NB864_879 (zff NB864_879 (zff NB864_879 hHeld.2.2.2.2.1))), (zff NB864_879 (zff NB864_879 (zff NB864_879 hHeld.2.2.2.2.2)))⟩ (fun hHeld => ?_)
   clear hK K
   refine one_ (i := 5) (N := none) #[true, true, true, true, true, true] rfl rfl (by kernel_rfl) (by decide) (fun K hK => ?_)
   have hs52 := zc0 BK880
   have hfs52 := blk_frozen BK880.out 0
   have hns52_0 := NB863_880.out
   have hns52_1 := NB864_880.out
   have hns52_2 := NB865_880.out
   have hns52_3 := NB866_880.out
   have hns52_4 := NB879_880.out
   have hms52_0 := NB880_863.out
   have hms52_1 := NB880_864.out
   have hms52_2 := NB880_865.out
   have hms52_3 := NB880_866.out
   have hms52_4 := NB880_879.out
   have hs53 := zc1 BK880
   have hfs53 := blk_frozen BK880.out 1
   have hns53_0 := NB863_880.out
   have hns53_1 := NB864_880.out
   have hns53_2 := NB865_880.out
   have hns53_3 := NB866_880.out
   have hns53_4 := NB879_880.out
   have hms53_0 := NB880_863.out
   have hms53_1 := NB880_864.out
   have hms53_2 := NB880_865.out
   have hms53_3 := NB880_866.out
   have hms53_4 := NB880_879.out
   have hs54 := zc2 BK880
   have hfs54 := blk_frozen BK880.out 2
   have hns54_0 := NB863_880.out
   have hns54_1 := NB864_880.out
   have hns54_2 := NB865_880.out
   have hns54_3 := NB866_880.out
   have hns54_4 := NB879_880.out
   have hms54_0 := NB880_863.out
   have hms54_1 := NB880_864.out
   have hms54_2 := NB880_865.out
   have hms54_3 := NB880_866.out
   have hms54_4 := NB880_879.out
   refine skip_ (w1 := ?_) (by rfl) rfl ?_ ?_
   rotate_left
   ·go_simp
    rfl
   refine hK.out _ _ ⟨(zff NB863_880 (zff NB863_880 (zff NB863_880 hHeld.1))), (zff NB863_880 (zff NB863_880 (zff NB863_880 hHeld.2.1))), (zff NB863_880 (zff NB863_880 (zff NB863_880 hHeld.2.2.1))), (zff NB864_880 (zff NB864_880 (zff NB864_880 hHeld.2.2.2.1))), (zff NB864_880 (zff NB864_880 (zff NB864_880 hHeld.2.2.2.2.1))), (zff NB864_880 (zff NB864_880 (zff NB864_880 hHeld.2.2.2.2.2)))⟩ (fun hHeld => ?_)
   clear hK K
   refine done_ (by kernel_rfl) ?_
   go_upto_region 5 with (fail)
   go_cut [10] (fun v10 wc => ∃ (kq : Nat) (x10_43 : Bool), v10 = .bool x10_43 ∧ Aside0 (span_Test.j1 kq a0 x10_43 t867 t868 t869 t870 t871 t872 t867 t868 t869 t870 t871 t872 = some (r1, r2, r3, r4, r5, r6)) ∧ Aside0 (kq ≤ kj5) ∧ Aside0 (wc.heap[gb863]? = some (.cells #[.bool t867, .int .u64 t868, .int .u64 t869] 43 (0, 0))) ∧ Aside0 (wc.heap[gb864]? = some (.cells #[.bool t870, .int .u64 t871, .int .u64 t872] 43 (0, 0))) ∧ Aside0 (wc.heap[gb865]? = some (.cells #[.bool false, .int .u64 0, .int .u64 0] 43 (0, 0))) ∧ Aside0 (wc.heap[gb866]? = some (.cells #[.bool false, .int .u64 0, .int .u64 0] 43 (0, 0))) ∧ Aside0 (wc.heap[gb879]? = some (.cells #[.bool t867, .int .u64 t868, .int .u64 t869] 43 (0, 0))) ∧ Aside0 (wc.heap[gb880]? = some (.cells #[.bool t870, .int .u64 t871, .int .u64 t872] 43 (0, 0))) ∧ Aside0 (Below w.heap.size w wc))
   case first =>
    have H := HC44.out
    clear HC44
    by_cases c55 : a0 = 9
    ·rw [if_pos c55] at H
     have c55b0 : (a0 == 9) = true := beq_iff_eq.mpr c55
     have c55b1 : (a0 != 9) = false := bne_eq_false_iff_eq.mpr c55
     clear c55
     (first | rw [c55b0] | (simp only [i64_w, i32_w]; rw [c55b0]) | skip)
     have H' := Aside0.mk H
     clear H
     go_wp2
     go_meet
     case rel => exact ⟨_, (true), zrl, H', ⟨by have := HJ5.out; first | omega | exact Nat.le_refl _⟩, ⟨(zkf (zkf (zkf (zkf (zkf (zkf (zkq BK863) NB863_879.out _) NB863_879.out _) NB863_879.out _) NB863_880.out _) NB863_880.out _) NB863_880.out _)⟩, ⟨(zkf (zkf (zkf (zkf (zkf (zkf (zkq BK864) NB864_879.out _) NB864_879.out _) NB864_879.out _) NB864_880.out _) NB864_880.out _) NB864_880.out _)⟩, ⟨(zkf (zkf (zkf (zkf (zkf (zkf (zkq BK865) NB865_879.out _) NB865_879.out _) NB865_879.out _) NB865_880.out _) NB865_880.out _) NB865_880.out _)⟩, ⟨(zkf (zkf (zkf (zkf (zkf (zkf (zkq BK866) NB866_879.out _) NB866_879.out _) NB866_879.out _) NB866_880.out _) NB866_880.out _) NB866_880.out _)⟩, ⟨(zkf (zkf (zkf (blk_put (cs := #[.bool t867, .int .u64 t868, .int .u64 0]) (blk_put (cs := #[.bool t867, .int .u64 0, .int .u64 0]) (blk_put (zkq BK879) 0 _ rfl) 1 _ rfl) 2 _ rfl) NB879_880.out _) NB879_880.out _) NB879_880.out _)⟩, ⟨(blk_put (cs := #[.bool t870, .int .u64 t871, .int .u64 0]) (blk_put (cs := #[.bool t870, .int .u64 0, .int .u64 0]) (blk_put (zkf (zkf (zkf (zkq BK880) NB880_879.out _) NB880_879.out _) NB880_879.out _) 0 _ rfl) 1 _ rfl) 2 _ rfl)⟩, ⟨zaB⟩⟩
    rw [if_neg c55] at H
    have c55b0 : (a0 == 9) = false := beq_eq_false_iff_ne.mpr c55
    have c55b1 : (a0 != 9) = true := bne_iff_ne.mpr c55
    (first | rw [c55b0] | (simp only [i64_w, i32_w]; rw [c55b0]) | skip)
    have H' := Aside0.mk H
    clear H
    go_wp2
    go_meet
    case rel => exact ⟨_, ((a0 == 13)), zrl, H', ⟨by have := HJ5.out; first | omega | exact Nat.le_refl _⟩, ⟨(zkf (zkf (zkf (zkf (zkf (zkf (zkq BK863) NB863_879.out _) NB863_879.out _) NB863_879.out _) NB863_880.out _) NB863_880.out _) NB863_880.out _)⟩, ⟨(zkf (zkf (zkf (zkf (zkf (zkf (zkq BK864) NB864_879.out _) NB864_879.out _) NB864_879.out _) NB864_880.out _) NB864_880.out _) NB864_880.out _)⟩, ⟨(zkf (zkf (zkf (zkf (zkf (zkf (zkq BK865) NB865_879.out _) NB865_879.out _) NB865_879.out _) NB865_880.out _) NB865_880.out _) NB865_880.out _)⟩, ⟨(zkf (zkf (zkf (zkf (zkf (zkf (zkq BK866) NB866_879.out _) NB866_879.out _) NB866_879.out _) NB866_880.out _) NB866_880.out _) NB866_880.out _)⟩, ⟨(zkf (zkf (zkf (blk_put (cs := #[.bool t867, .int .u64 t868, .int .u64 0]) (blk_put (cs := #[.bool t867, .int .u64 0, .int .u64 0]) (blk_put (zkq BK879) 0 _ rfl) 1 _ rfl) 2 _ rfl) NB879_880.out _) NB879_880.out _) NB879_880.out _)⟩, ⟨(blk_put (cs := #[.bool t870, .int .u64 t871, .int .u64 0]) (blk_put (cs := #[.bool t870, .int .u64 0, .int .u64 0]) (blk_put (zkf (zkf (zkf (zkq BK880) NB880_879.out _) NB880_879.out _) NB880_879.out _) 0 _ rfl) 1 _ rfl) 2 _ rfl)⟩, ⟨zaB⟩⟩
   case rest =>
    clear HC44
    try clear c1
    try clear c2
    try clear p2
    try clear c3
    try clear c4
    try clear c5
    try clear c11
    try clear c20
    try clear c21
    try clear c22
    try clear c23
    try clear c25
    try clear c26
    try clear c27
    try clear c29
    try clear c30
    try clear c32
    try clear c37
    try clear c38
    try clear c39
    try clear c41
    try clear c42
    try clear c55
    try clear c55b0
    try clear c55b1
    try clear z24_0
    try clear z24_1
    try clear z24_2
    try clear z28_0
    try clear z28_1
    try clear z28_2
    try clear z31_0
    try clear z31_1
    try clear z31_2
    try clear z40_0
    try clear z40_1
    try clear z40_2
    try clear z43_0
    try clear z43_1
    try clear z43_2
    try clear f24_0
    try clear f24_1
    try clear f24_2
    try clear f28_0
    try clear f28_1
    try clear f28_2
    try clear f31_0
    try clear f31_1
    try clear f31_2
    try clear f40_0
    try clear f40_1
    try clear f40_2
    try clear f43_0
    try clear f43_1
    try clear f43_2
    try clear p2
    obtain ⟨kq, x10_43, rfl, HA, HJ43, BK863, BK864, BK865, BK866, BK879, BK880, HB⟩ := hcut
    cases kq with
    | zero => exact absurd HA.out (by simp [span_Test.j1])
    | succ kj43 =>
     have H := HA.out
     clear HA
     simp only [span_Test.j1] at H
     have HC56 := Aside0.mk H
     clear H
     go_upto_block 0 with (fail)
     go_cut [] (fun wc => ∃ (kq : Nat) (x880000_55 : Bool) (x880001_55 : Int) (x880002_55 : Int) (x881000_55 : Bool) (x881001_55 : Int) (x881002_55 : Int), Aside0 (span_Test.j4 kq x880000_55 x880001_55 x880002_55 x881000_55 x881001_55 x881002_55 = some (r1, r2, r3, r4, r5, r6)) ∧ Aside0 (kq ≤ kj43) ∧ Aside0 (wc.heap[gb863]? = some (.cells #[.bool t867, .int .u64 t868, .int .u64 t869] 43 (0, 0))) ∧ Aside0 (wc.heap[gb864]? = some (.cells #[.bool t870, .int .u64 t871, .int .u64 t872] 43 (0, 0))) ∧ Aside0 (wc.heap[gb865]? = some (.cells #[.bool false, .int .u64 0, .int .u64 0] 43 (0, 0))) ∧ Aside0 (wc.heap[gb866]? = some (.cells #[.bool false, .int .u64 0, .int .u64 0] 43 (0, 0))) ∧ Aside0 (wc.heap[gb879]? = some (.cells #[.bool x880000_55, .int .u64 x880001_55, .int .u64 x880002_55] 43 (0, 0))) ∧ Aside0 (wc.heap[gb880]? = some (.cells #[.bool x881000_55, .int .u64 x881001_55, .int .u64 x881002_55] 43 (0, 0))) ∧ Aside0 (Below w.heap.size w wc))
     case first =>
      have H := HC56.out
      clear HC56
      have HC57 := Aside0.mk H
      clear H
      go_upto_if 32 with (fail)
      go_cut [32] (fun v32 wc => ∃ (kq : Nat) (x32_56 : Bool), v32 = .bool x32_56 ∧ Aside0 (span_Test.j2 kq x10_43 a0 x32_56 t867 t868 t869 t870 t871 t872 t867 t868 t869 t870 t871 t872 = some (r1, r2, r3, r4, r5, r6)) ∧ Aside0 (kq ≤ kj43) ∧ Aside0 (wc.heap[gb863]? = some (.cells #[.bool t867, .int .u64 t868, .int .u64 t869] 43 (0, 0))) ∧ Aside0 (wc.heap[gb864]? = some (.cells #[.bool t870, .int .u64 t871, .int .u64 t872] 43 (0, 0))) ∧ Aside0 (wc.heap[gb865]? = some (.cells #[.bool false, .int .u64 0, .int .u64 0] 43 (0, 0))) ∧ Aside0 (wc.heap[gb866]? = some (.cells #[.bool false, .int .u64 0, .int .u64 0] 43 (0, 0))) ∧ Aside0 (wc.heap[gb879]? = some (.cells #[.bool t867, .int .u64 t868, .int .u64 t869] 43 (0, 0))) ∧ Aside0 (wc.heap[gb880]? = some (.cells #[.bool t870, .int .u64 t871, .int .u64 t872] 43 (0, 0))) ∧ Aside0 (Below w.heap.size w wc))
      case first =>
       have H := HC57.out
       clear HC57
       by_cases c58 : a0 = 9
       ·rw [if_pos c58] at H
        have c58b0 : (a0 == 9) = true := beq_iff_eq.mpr c58
        have c58b1 : (a0 != 9) = false := bne_eq_false_iff_eq.mpr c58
        clear c58
        (first | rw [c58b0] | (simp only [i64_w, i32_w]; rw [c58b0]) | skip)
        have H' := Aside0.mk H
        clear H
        go_wp2
        go_meet
        case rel => exact ⟨_, ((a0 == 9)), zrl, H', ⟨by have := HJ5.out; have := HJ43.out; first | omega | exact Nat.le_refl _⟩, ⟨zkq BK863⟩, ⟨zkq BK864⟩, ⟨zkq BK865⟩, ⟨zkq BK866⟩, ⟨zkq BK879⟩, ⟨zkq BK880⟩, ⟨zaB⟩⟩
       rw [if_neg c58] at H
       have c58b0 : (a0 == 9) = false := beq_eq_false_iff_ne.mpr c58
       have c58b1 : (a0 != 9) = true := bne_iff_ne.mpr c58
       (first | rw [c58b0] | (simp only [i64_w, i32_w]; rw [c58b0]) | skip)
       have H' := Aside0.mk H
       clear H
       go_wp2
       go_meet
       case rel => exact ⟨_, ((a0 == 10)), zrl, H', ⟨by have := HJ5.out; have := HJ43.out; first | omega | exact Nat.le_refl _⟩, ⟨zkq BK863⟩, ⟨zkq BK864⟩, ⟨zkq BK865⟩, ⟨zkq BK866⟩, ⟨zkq BK879⟩, ⟨zkq BK880⟩, ⟨zaB⟩⟩
      case rest =>
       clear HC57
       try clear c1
       try clear c2
       try clear p2
       try clear c3
       try clear c4
       try clear c5
       try clear c11
       try clear c20
       try clear c21
       try clear c22
       try clear c23
       try clear c25
       try clear c26
       try clear c27
       try clear c29
       try clear c30
       try clear c32
       try clear c37
       try clear c38
       try clear c39
       try clear c41
       try clear c42
       try clear c55
       try clear c55b0
       try clear c55b1
       try clear c58
       try clear c58b0
       try clear c58b1
       try clear z24_0
       try clear z24_1
       try clear z24_2
       try clear z28_0
       try clear z28_1
       try clear z28_2
       try clear z31_0
       try clear z31_1
       try clear z31_2
       try clear z40_0
       try clear z40_1
       try clear z40_2
       try clear z43_0
       try clear z43_1
       try clear z43_2
       try clear f24_0
       try clear f24_1
       try clear f24_2
       try clear f28_0
       try clear f28_1
       try clear f28_2
       try clear f31_0
       try clear f31_1
       try clear f31_2
       try clear f40_0
       try clear f40_1
       try clear f40_2
       try clear f43_0
       try clear f43_1
       try clear f43_2
       try clear p2
       obtain ⟨kq, x32_56, rfl, HA, HJ56, BK863, BK864, BK865, BK866, BK879, BK880, HB⟩ := hcut
       cases kq with
       | zero => exact absurd HA.out (by simp [span_Test.j2])
       | succ kj56 =>
        have H := HA.out
        clear HA
        simp only [span_Test.j2] at H
        by_cases c59 : x32_56 = true
        ·subst c59
         replace H := zit H
         obtain ⟨⟨t881, t882, t883⟩, A60, H⟩ := zbs H
         try dsimp only at H
         obtain ⟨⟨t884, t885, t886⟩, A61, H⟩ := zbs H
         try dsimp only at H
         have H' := Aside0.mk H
         clear H
         try go_wp2
         replace BK863 := Aside0.mk (blk_drew BK863.out)
         replace BK864 := Aside0.mk (blk_drew BK864.out)
         replace BK865 := Aside0.mk (blk_drew BK865.out)
         replace BK866 := Aside0.mk (blk_drew BK866.out)
         replace BK879 := Aside0.mk (blk_drew BK879.out)
         replace BK880 := Aside0.mk (blk_drew BK880.out)
         replace HB := Aside0.mk (below_drew1 HB.out)
         refine start_ (n := 12) (S := fun w' => w'.cell? ⟨gb863, 0, none⟩ = some (.bool t867) ∧ w'.cell? ⟨gb863, 1, none⟩ = some (.int .u64 t868) ∧ w'.cell? ⟨gb863, 2, none⟩ = some (.int .u64 t869) ∧ w'.cell? ⟨gb864, 0, none⟩ = some (.bool t870) ∧ w'.cell? ⟨gb864, 1, none⟩ = some (.int .u64 t871) ∧ w'.cell? ⟨gb864, 2, none⟩ = some (.int .u64 t872)) (ds := []) #[false, false, false, false, false, false, false, false, false, false, false, false] (by kernel_rfl) rfl rfl (zk3 BK863 (ze3 BK864)) (fun hHeld => ?_); refine with_tabW span_Test.tab9 span_Test.bits9 (fun HT_ HW_ => ?_)
         generalize wc.drew = w62 at BK863 BK864 BK865 BK866 BK879 BK880 HB hHeld ⊢
         refine zpA 1 36 (h := ?_)
         refine zpA 3 38 (h := ?_)
         refine zpA 6 41 (h := ?_)
         refine zpA 8 43 (h := ?_)
         refine ztA 0 35 (h := ?_)
         refine ztA 2 37 (h := ?_)
         refine ztA 5 40 (h := ?_)
         refine ztA 7 42 (h := ?_)
         refine zoA 4 39 (h := fun K hK => ?_)
         refine zgA Try.func122 (span_side.calls kj56 t867 t868 t869 t872 false x10_43 t881 t882 t883 _ A60.out) (h := ?_)
         rintro w63 hb
         replace BK863 := zkb BK863 hb
         replace BK864 := zkb BK864 hb
         replace BK865 := zkb BK865 hb
         replace BK866 := zkb BK866 hb
         replace BK879 := zkb BK879 hb
         replace BK880 := zkb BK880 hb
         replace HB := zkB HB hb
         (try clear hb)
         refine hK.out _ _ (zk3 BK863 (ze3 BK864)) (fun hHeld => ?_)
         clear hK K
         refine znA 39 (h := ?_)
         refine zoA 9 44 (h := fun K hK => ?_)
         refine zgA Try.func122 (span_side.calls kj56 t870 t871 t872 t868 true x10_43 t884 t885 t886 _ A61.out) (h := ?_)
         rintro w64 hb
         replace BK863 := zkb BK863 hb
         replace BK864 := zkb BK864 hb
         replace BK865 := zkb BK865 hb
         replace BK866 := zkb BK866 hb
         replace BK879 := zkb BK879 hb
         replace BK880 := zkb BK880 hb
         replace HB := zkB HB hb
         (try clear hb)
         refine hK.out _ _ (zk3 BK863 (ze3 BK864)) (fun hHeld => ?_)
         clear hK K
         refine znA 44 (h := ?_)
         refine one_ (i := 10) (N := none) #[true, true, true, true, true, true, true, true, true, true, true, false] rfl rfl (one_of HT_.out (by kernel_rfl)) (by decide) (fun K hK => ?_)
         have hs65 := zc0 BK879
         have hfs65 := blk_frozen BK879.out 0
         have hns65_0 := NB863_879.out
         have hns65_1 := NB864_879.out
         have hns65_2 := NB865_879.out
         have hns65_3 := NB866_879.out
         have hns65_5 := NB880_879.out
         have hms65_0 := NB879_863.out
         have hms65_1 := NB879_864.out
         have hms65_2 := NB879_865.out
         have hms65_3 := NB879_866.out
         have hms65_5 := NB879_880.out
         have hs66 := zc1 BK879
         have hfs66 := blk_frozen BK879.out 1
         have hns66_0 := NB863_879.out
         have hns66_1 := NB864_879.out
         have hns66_2 := NB865_879.out
         have hns66_3 := NB866_879.out
         have hns66_5 := NB880_879.out
         have hms66_0 := NB879_863.out
         have hms66_1 := NB879_864.out
         have hms66_2 := NB879_865.out
         have hms66_3 := NB879_866.out
         have hms66_5 := NB879_880.out
         have hs67 := zc2 BK879
         have hfs67 := blk_frozen BK879.out 2
         have hns67_0 := NB863_879.out
         have hns67_1 := NB864_879.out
         have hns67_2 := NB865_879.out
         have hns67_3 := NB866_879.out
         have hns67_5 := NB880_879.out
         have hms67_0 := NB879_863.out
         have hms67_1 := NB879_864.out
         have hms67_2 := NB879_865.out
         have hms67_3 := NB879_866.out
         have hms67_5 := NB879_880.out
         refine skip_ (w1 := ?_) (by rfl) rfl ?_ ?_
         rotate_left
         ·go_simp
          rfl
         refine hK.out _ _ ⟨(zff NB863_879 (zff NB863_879 (zff NB863_879 hHeld.1))), (zff NB863_879 (zff NB863_879 (zff NB863_879 hHeld.2.1))), (zff NB863_879 (zff NB863_879 (zff NB863_879 hHeld.2.2.1))), (zff NB864_879 (zff NB864_879 (zff NB864_879 hHeld.2.2.2.1))), (zff NB864_879 (zff NB864_879 (zff NB864_879 hHeld.2.2.2.2.1))), (zff NB864_879 (zff NB864_879 (zff NB864_879 hHeld.2.2.2.2.2)))⟩ (fun hHeld => ?_)
         clear hK K
         refine one_ (i := 11) (N := none) #[true, true, true, true, true, true, true, true, true, true, true, true] rfl rfl (one_of HT_.out (by kernel_rfl)) (by decide) (fun K hK => ?_)
         have hs68 := zc0 BK880
         have hfs68 := blk_frozen BK880.out 0
         have hns68_0 := NB863_880.out
         have hns68_1 := NB864_880.out
         have hns68_2 := NB865_880.out
         have hns68_3 := NB866_880.out
         have hns68_4 := NB879_880.out
         have hms68_0 := NB880_863.out
         have hms68_1 := NB880_864.out
         have hms68_2 := NB880_865.out
         have hms68_3 := NB880_866.out
         have hms68_4 := NB880_879.out
         have hs69 := zc1 BK880
         have hfs69 := blk_frozen BK880.out 1
         have hns69_0 := NB863_880.out
         have hns69_1 := NB864_880.out
         have hns69_2 := NB865_880.out
         have hns69_3 := NB866_880.out
         have hns69_4 := NB879_880.out
         have hms69_0 := NB880_863.out
         have hms69_1 := NB880_864.out
         have hms69_2 := NB880_865.out
         have hms69_3 := NB880_866.out
         have hms69_4 := NB880_879.out
         have hs70 := zc2 BK880
         have hfs70 := blk_frozen BK880.out 2
         have hns70_0 := NB863_880.out
         have hns70_1 := NB864_880.out
         have hns70_2 := NB865_880.out
         have hns70_3 := NB866_880.out
         have hns70_4 := NB879_880.out
         have hms70_0 := NB880_863.out
         have hms70_1 := NB880_864.out
         have hms70_2 := NB880_865.out
         have hms70_3 := NB880_866.out
         have hms70_4 := NB880_879.out
         refine skip_ (w1 := ?_) (by rfl) rfl ?_ ?_
         rotate_left
         ·go_simp
          rfl
         refine hK.out _ _ ⟨(zff NB863_880 (zff NB863_880 (zff NB863_880 hHeld.1))), (zff NB863_880 (zff NB863_880 (zff NB863_880 hHeld.2.1))), (zff NB863_880 (zff NB863_880 (zff NB863_880 hHeld.2.2.1))), (zff NB864_880 (zff NB864_880 (zff NB864_880 hHeld.2.2.2.1))), (zff NB864_880 (zff NB864_880 (zff NB864_880 hHeld.2.2.2.2.1))), (zff NB864_880 (zff NB864_880 (zff NB864_880 hHeld.2.2.2.2.2)))⟩ (fun hHeld => ?_)
         clear hK K
         refine done_ (done_of HT_.out (by kernel_rfl)) ?_
         try go_wp2
         go_meet
         case rel => exact ⟨_, (t881), (t882), (t883), (t884), (t885), (t886), H', ⟨by have := HJ5.out; have := HJ43.out; have := HJ56.out; first | omega | exact Nat.le_refl _⟩, ⟨(zkf (zkf (zkf (zkf (zkf (zkf (zkq BK863) NB863_879.out _) NB863_879.out _) NB863_879.out _) NB863_880.out _) NB863_880.out _) NB863_880.out _)⟩, ⟨(zkf (zkf (zkf (zkf (zkf (zkf (zkq BK864) NB864_879.out _) NB864_879.out _) NB864_879.out _) NB864_880.out _) NB864_880.out _) NB864_880.out _)⟩, ⟨(zkf (zkf (zkf (zkf (zkf (zkf (zkq BK865) NB865_879.out _) NB865_879.out _) NB865_879.out _) NB865_880.out _) NB865_880.out _) NB865_880.out _)⟩, ⟨(zkf (zkf (zkf (zkf (zkf (zkf (zkq BK866) NB866_879.out _) NB866_879.out _) NB866_879.out _) NB866_880.out _) NB866_880.out _) NB866_880.out _)⟩, ⟨(zkf (zkf (zkf (blk_put (cs := #[.bool t881, .int .u64 t882, .int .u64 t869]) (blk_put (cs := #[.bool t881, .int .u64 t868, .int .u64 t869]) (blk_put (zkq BK879) 0 _ rfl) 1 _ rfl) 2 _ rfl) NB879_880.out _) NB879_880.out _) NB879_880.out _)⟩, ⟨(blk_put (cs := #[.bool t884, .int .u64 t885, .int .u64 t872]) (blk_put (cs := #[.bool t884, .int .u64 t871, .int .u64 t872]) (blk_put (zkf (zkf (zkf (zkq BK880) NB880_879.out _) NB880_879.out _) NB880_879.out _) 0 _ rfl) 1 _ rfl) 2 _ rfl)⟩, ⟨zaB⟩⟩
        replace c59 := Bool.eq_false_iff.mpr c59
        subst c59
        replace H := zif H
        have HC71 := Aside0.mk H
        clear H
        go_upto_if 45 with (fail)
        go_cut [45] (fun v45 wc => ∃ (kq : Nat) (x45_70 : Bool), v45 = .bool x45_70 ∧ Aside0 (span_Test.j3 kq x10_43 a0 x45_70 t867 t868 t869 t870 t871 t872 t867 t868 t869 t870 t871 t872 = some (r1, r2, r3, r4, r5, r6)) ∧ Aside0 (kq ≤ kj56) ∧ Aside0 (wc.heap[gb863]? = some (.cells #[.bool t867, .int .u64 t868, .int .u64 t869] 43 (0, 0))) ∧ Aside0 (wc.heap[gb864]? = some (.cells #[.bool t870, .int .u64 t871, .int .u64 t872] 43 (0, 0))) ∧ Aside0 (wc.heap[gb865]? = some (.cells #[.bool false, .int .u64 0, .int .u64 0] 43 (0, 0))) ∧ Aside0 (wc.heap[gb866]? = some (.cells #[.bool false, .int .u64 0, .int .u64 0] 43 (0, 0))) ∧ Aside0 (wc.heap[gb879]? = some (.cells #[.bool t867, .int .u64 t868, .int .u64 t869] 43 (0, 0))) ∧ Aside0 (wc.heap[gb880]? = some (.cells #[.bool t870, .int .u64 t871, .int .u64 t872] 43 (0, 0))) ∧ Aside0 (Below w.heap.size w wc))
        case first =>
         have H := HC71.out
         clear HC71
         by_cases c72 : a0 = 13
         ·rw [if_pos c72] at H
          have c72b0 : (a0 == 13) = true := beq_iff_eq.mpr c72
          have c72b1 : (a0 != 13) = false := bne_eq_false_iff_eq.mpr c72
          clear c72
          (first | rw [c72b0] | (simp only [i64_w, i32_w]; rw [c72b0]) | skip)
          have H' := Aside0.mk H
          clear H
          go_wp2
          go_meet
          case rel => exact ⟨_, ((a0 == 13)), zrl, H', ⟨by have := HJ5.out; have := HJ43.out; have := HJ56.out; first | omega | exact Nat.le_refl _⟩, ⟨zkq BK863⟩, ⟨zkq BK864⟩, ⟨zkq BK865⟩, ⟨zkq BK866⟩, ⟨zkq BK879⟩, ⟨zkq BK880⟩, ⟨zaB⟩⟩
         rw [if_neg c72] at H
         have c72b0 : (a0 == 13) = false := beq_eq_false_iff_ne.mpr c72
         have c72b1 : (a0 != 13) = true := bne_iff_ne.mpr c72
         (first | rw [c72b0] | (simp only [i64_w, i32_w]; rw [c72b0]) | skip)
         have H' := Aside0.mk H
         clear H
         go_wp2
         go_meet
         case rel => exact ⟨_, ((a0 == 14)), zrl, H', ⟨by have := HJ5.out; have := HJ43.out; have := HJ56.out; first | omega | exact Nat.le_refl _⟩, ⟨zkq BK863⟩, ⟨zkq BK864⟩, ⟨zkq BK865⟩, ⟨zkq BK866⟩, ⟨zkq BK879⟩, ⟨zkq BK880⟩, ⟨zaB⟩⟩
        case rest =>
         clear HC71
         try clear c1
         try clear c2
         try clear p2
         try clear c3
         try clear c4
         try clear c5
         try clear c7
         try clear c11
         try clear c12
         try clear c20
         try clear c21
         try clear c22
         try clear c23
         try clear c25
         try clear c26
         try clear c27
         try clear c29
         try clear c30
         try clear c32
         try clear c37
         try clear c38
         try clear c39
         try clear c41
         try clear c42
         try clear c55
         try clear c55b0
         try clear c55b1
         try clear c58
         try clear c58b0
         try clear c58b1
         try clear c59
         try clear c72
         try clear c72b0
         try clear c72b1
         try clear z24_0
         try clear z24_1
         try clear z24_2
         try clear z28_0
         try clear z28_1
         try clear z28_2
         try clear z31_0
         try clear z31_1
         try clear z31_2
         try clear z40_0
         try clear z40_1
         try clear z40_2
         try clear z43_0
         try clear z43_1
         try clear z43_2
         try clear f24_0
         try clear f24_1
         try clear f24_2
         try clear f28_0
         try clear f28_1
         try clear f28_2
         try clear f31_0
         try clear f31_1
         try clear f31_2
         try clear f40_0
         try clear f40_1
         try clear f40_2
         try clear f43_0
         try clear f43_1
         try clear f43_2
         try clear p2
         obtain ⟨kq, x45_70, rfl, HA, HJ70, BK863, BK864, BK865, BK866, BK879, BK880, HB⟩ := hcut
         cases kq with
         | zero => exact absurd HA.out (by simp [span_Test.j3])
         | succ kj70 =>
          have H := HA.out
          clear HA
          simp only [span_Test.j3] at H
          by_cases c73 : x45_70 = true
          ·subst c73
           replace H := zit H
           obtain ⟨⟨t887, t888, t889⟩, A74, H⟩ := zbs H
           try dsimp only at H
           obtain ⟨⟨t890, t891, t892⟩, A75, H⟩ := zbs H
           try dsimp only at H
           have H' := Aside0.mk H
           clear H
           try go_wp2
           replace BK863 := Aside0.mk (blk_drew BK863.out)
           replace BK864 := Aside0.mk (blk_drew BK864.out)
           replace BK865 := Aside0.mk (blk_drew BK865.out)
           replace BK866 := Aside0.mk (blk_drew BK866.out)
           replace BK879 := Aside0.mk (blk_drew BK879.out)
           replace BK880 := Aside0.mk (blk_drew BK880.out)
           replace HB := Aside0.mk (below_drew1 HB.out)
           refine start_ (n := 12) (S := fun w' => w'.cell? ⟨gb863, 0, none⟩ = some (.bool t867) ∧ w'.cell? ⟨gb863, 1, none⟩ = some (.int .u64 t868) ∧ w'.cell? ⟨gb863, 2, none⟩ = some (.int .u64 t869) ∧ w'.cell? ⟨gb864, 0, none⟩ = some (.bool t870) ∧ w'.cell? ⟨gb864, 1, none⟩ = some (.int .u64 t871) ∧ w'.cell? ⟨gb864, 2, none⟩ = some (.int .u64 t872)) (ds := []) #[false, false, false, false, false, false, false, false, false, false, false, false] (by kernel_rfl) rfl rfl (zk3 BK863 (ze3 BK864)) (fun hHeld => ?_); refine with_tabW span_Test.tab12 span_Test.bits12 (fun HT_ HW_ => ?_)
           generalize wc.drew = w76 at BK863 BK864 BK865 BK866 BK879 BK880 HB hHeld ⊢
           refine zpA 1 49 (h := ?_)
           refine zpA 3 51 (h := ?_)
           refine zpA 6 54 (h := ?_)
           refine zpA 8 56 (h := ?_)
           refine ztA 0 48 (h := ?_)
           refine ztA 2 50 (h := ?_)
           refine ztA 5 53 (h := ?_)
           refine ztA 7 55 (h := ?_)
           refine zoA 4 52 (h := fun K hK => ?_)
           refine zgA Try.func122 (span_side.calls kj70 t867 t868 t869 t871 true x10_43 t887 t888 t889 _ A74.out) (h := ?_)
           rintro w77 hb
           replace BK863 := zkb BK863 hb
           replace BK864 := zkb BK864 hb
           replace BK865 := zkb BK865 hb
           replace BK866 := zkb BK866 hb
           replace BK879 := zkb BK879 hb
           replace BK880 := zkb BK880 hb
           replace HB := zkB HB hb
           (try clear hb)
           refine hK.out _ _ (zk3 BK863 (ze3 BK864)) (fun hHeld => ?_)
           clear hK K
           refine znA 52 (h := ?_)
           refine zoA 9 57 (h := fun K hK => ?_)
           refine zgA Try.func122 (span_side.calls kj70 t870 t871 t872 t869 false x10_43 t890 t891 t892 _ A75.out) (h := ?_)
           rintro w78 hb
           replace BK863 := zkb BK863 hb
           replace BK864 := zkb BK864 hb
           replace BK865 := zkb BK865 hb
           replace BK866 := zkb BK866 hb
           replace BK879 := zkb BK879 hb
           replace BK880 := zkb BK880 hb
           replace HB := zkB HB hb
           (try clear hb)
           refine hK.out _ _ (zk3 BK863 (ze3 BK864)) (fun hHeld => ?_)
           clear hK K
           refine znA 57 (h := ?_)
           refine one_ (i := 10) (N := none) #[true, true, true, true, true, true, true, true, true, true, true, false] rfl rfl (one_of HT_.out (by kernel_rfl)) (by decide) (fun K hK => ?_)
           have hs79 := zc0 BK879
           have hfs79 := blk_frozen BK879.out 0
           have hns79_0 := NB863_879.out
           have hns79_1 := NB864_879.out
           have hns79_2 := NB865_879.out
           have hns79_3 := NB866_879.out
           have hns79_5 := NB880_879.out
           have hms79_0 := NB879_863.out
           have hms79_1 := NB879_864.out
           have hms79_2 := NB879_865.out
           have hms79_3 := NB879_866.out
           have hms79_5 := NB879_880.out
           have hs80 := zc1 BK879
           have hfs80 := blk_frozen BK879.out 1
           have hns80_0 := NB863_879.out
           have hns80_1 := NB864_879.out
           have hns80_2 := NB865_879.out
           have hns80_3 := NB866_879.out
           have hns80_5 := NB880_879.out
           have hms80_0 := NB879_863.out
           have hms80_1 := NB879_864.out
           have hms80_2 := NB879_865.out
           have hms80_3 := NB879_866.out
           have hms80_5 := NB879_880.out
           have hs81 := zc2 BK879
           have hfs81 := blk_frozen BK879.out 2
           have hns81_0 := NB863_879.out
           have hns81_1 := NB864_879.out
           have hns81_2 := NB865_879.out
           have hns81_3 := NB866_879.out
           have hns81_5 := NB880_879.out
           have hms81_0 := NB879_863.out
           have hms81_1 := NB879_864.out
           have hms81_2 := NB879_865.out
           have hms81_3 := NB879_866.out
           have hms81_5 := NB879_880.out
           refine skip_ (w1 := ?_) (by rfl) rfl ?_ ?_
           rotate_left
           ·go_simp
            rfl
           refine hK.out _ _ ⟨(zff NB863_879 (zff NB863_879 (zff NB863_879 hHeld.1))), (zff NB863_879 (zff NB863_879 (zff NB863_879 hHeld.2.1))), (zff NB863_879 (zff NB863_879 (zff NB863_879 hHeld.2.2.1))), (zff NB864_879 (zff NB864_879 (zff NB864_879 hHeld.2.2.2.1))), (zff NB864_879 (zff NB864_879 (zff NB864_879 hHeld.2.2.2.2.1))), (zff NB864_879 (zff NB864_879 (zff NB864_879 hHeld.2.2.2.2.2)))⟩ (fun hHeld => ?_)
           clear hK K
           refine one_ (i := 11) (N := none) #[true, true, true, true, true, true, true, true, true, true, true, true] rfl rfl (one_of HT_.out (by kernel_rfl)) (by decide) (fun K hK => ?_)
           have hs82 := zc0 BK880
           have hfs82 := blk_frozen BK880.out 0
           have hns82_0 := NB863_880.out
           have hns82_1 := NB864_880.out
           have hns82_2 := NB865_880.out
           have hns82_3 := NB866_880.out
           have hns82_4 := NB879_880.out
           have hms82_0 := NB880_863.out
           have hms82_1 := NB880_864.out
           have hms82_2 := NB880_865.out
           have hms82_3 := NB880_866.out
           have hms82_4 := NB880_879.out
           have hs83 := zc1 BK880
           have hfs83 := blk_frozen BK880.out 1
           have hns83_0 := NB863_880.out
           have hns83_1 := NB864_880.out
           have hns83_2 := NB865_880.out
           have hns83_3 := NB866_880.out
           have hns83_4 := NB879_880.out
           have hms83_0 := NB880_863.out
           have hms83_1 := NB880_864.out
           have hms83_2 := NB880_865.out
           have hms83_3 := NB880_866.out
           have hms83_4 := NB880_879.out
           have hs84 := zc2 BK880
           have hfs84 := blk_frozen BK880.out 2
           have hns84_0 := NB863_880.out
           have hns84_1 := NB864_880.out
           have hns84_2 := NB865_880.out
           have hns84_3 := NB866_880.out
           have hns84_4 := NB879_880.out
           have hms84_0 := NB880_863.out
           have hms84_1 := NB880_864.out
           have hms84_2 := NB880_865.out
           have hms84_3 := NB880_866.out
           have hms84_4 := NB880_879.out
           refine skip_ (w1 := ?_) (by rfl) rfl ?_ ?_
           rotate_left
           ·go_simp
            rfl
           refine hK.out _ _ ⟨(zff NB863_880 (zff NB863_880 (zff NB863_880 hHeld.1))), (zff NB863_880 (zff NB863_880 (zff NB863_880 hHeld.2.1))), (zff NB863_880 (zff NB863_880 (zff NB863_880 hHeld.2.2.1))), (zff NB864_880 (zff NB864_880 (zff NB864_880 hHeld.2.2.2.1))), (zff NB864_880 (zff NB864_880 (zff NB864_880 hHeld.2.2.2.2.1))), (zff NB864_880 (zff NB864_880 (zff NB864_880 hHeld.2.2.2.2.2)))⟩ (fun hHeld => ?_)
           clear hK K
           refine done_ (done_of HT_.out (by kernel_rfl)) ?_
           try go_wp2
           go_meet
           case rel => exact ⟨_, (t887), (t888), (t889), (t890), (t891), (t892), H', ⟨by have := HJ5.out; have := HJ43.out; have := HJ56.out; have := HJ70.out; first | omega | exact Nat.le_refl _⟩, ⟨(zkf (zkf (zkf (zkf (zkf (zkf (zkq BK863) NB863_879.out _) NB863_879.out _) NB863_879.out _) NB863_880.out _) NB863_880.out _) NB863_880.out _)⟩, ⟨(zkf (zkf (zkf (zkf (zkf (zkf (zkq BK864) NB864_879.out _) NB864_879.out _) NB864_879.out _) NB864_880.out _) NB864_880.out _) NB864_880.out _)⟩, ⟨(zkf (zkf (zkf (zkf (zkf (zkf (zkq BK865) NB865_879.out _) NB865_879.out _) NB865_879.out _) NB865_880.out _) NB865_880.out _) NB865_880.out _)⟩, ⟨(zkf (zkf (zkf (zkf (zkf (zkf (zkq BK866) NB866_879.out _) NB866_879.out _) NB866_879.out _) NB866_880.out _) NB866_880.out _) NB866_880.out _)⟩, ⟨(zkf (zkf (zkf (blk_put (cs := #[.bool t887, .int .u64 t888, .int .u64 t869]) (blk_put (cs := #[.bool t887, .int .u64 t868, .int .u64 t869]) (blk_put (zkq BK879) 0 _ rfl) 1 _ rfl) 2 _ rfl) NB879_880.out _) NB879_880.out _) NB879_880.out _)⟩, ⟨(blk_put (cs := #[.bool t890, .int .u64 t891, .int .u64 t872]) (blk_put (cs := #[.bool t890, .int .u64 t871, .int .u64 t872]) (blk_put (zkf (zkf (zkf (zkq BK880) NB880_879.out _) NB880_879.out _) NB880_879.out _) 0 _ rfl) 1 _ rfl) 2 _ rfl)⟩, ⟨zaB⟩⟩
          replace c73 := Bool.eq_false_iff.mpr c73
          subst c73
          replace H := zif H
          by_cases c85 : a0 = 11
          ·rw [if_pos c85] at H
           have c85b0 : (a0 == 11) = true := beq_iff_eq.mpr c85
           have c85b1 : (a0 != 11) = false := bne_eq_false_iff_eq.mpr c85
           clear c85
           obtain ⟨⟨t893, t894, t895⟩, A86, H⟩ := zbs H
           try dsimp only at H
           have H' := Aside0.mk H
           clear H
           obtain ⟨_, _⟩ := zsy NB863_864
           obtain ⟨_, _⟩ := zsy NB863_865
           obtain ⟨_, _⟩ := zsy NB863_866
           obtain ⟨_, _⟩ := zsy NB863_879
           obtain ⟨_, _⟩ := zsy NB863_880
           obtain ⟨z92_0, z92_1, z92_2, f92_0, f92_1, f92_2⟩ := zq3 BK863
           obtain ⟨_, _⟩ := zsy NB864_865
           obtain ⟨_, _⟩ := zsy NB864_866
           obtain ⟨_, _⟩ := zsy NB864_879
           obtain ⟨_, _⟩ := zsy NB864_880
           obtain ⟨z97_0, z97_1, z97_2, f97_0, f97_1, f97_2⟩ := zq3 BK864
           go_wp2_with (first | ((with_reducible refine gtc 47 rfl ?_); refine zgL 62 Try.func47 (span_Meet.calls kj70 t867 t868 t869 t870 t871 t872 t893 t894 t895 _ A86.out) (h := ?_); rintro w98 hb; replace BK863 := zkb BK863 hb; replace BK864 := zkb BK864 hb; replace BK865 := zkb BK865 hb; replace BK866 := zkb BK866 hb; replace BK879 := zkb BK879 hb; replace BK880 := zkb BK880 hb; replace HB := zkB HB hb; (try clear hb); obtain ⟨_, _⟩ := zsy NB879_865; obtain ⟨_, _⟩ := zsy NB879_866; obtain ⟨_, _⟩ := zsy NB879_880; obtain ⟨z102_0, z102_1, z102_2, f102_0, f102_1, f102_2⟩ := zq3 BK879; obtain ⟨_, _⟩ := zsy NB880_865; obtain ⟨_, _⟩ := zsy NB880_866; obtain ⟨z105_0, z105_1, z105_2, f105_0, f105_1, f105_2⟩ := zq3 BK880))
           go_meet
           case rel => exact ⟨_, (t893), (t894), (t895), (t893), (t894), (t895), H', ⟨by have := HJ5.out; have := HJ43.out; have := HJ56.out; have := HJ70.out; first | omega | exact Nat.le_refl _⟩, ⟨(zkf (zkf (zkf (zkf (zkf (zkf (zkq BK863) NB863_879.out _) NB863_879.out _) NB863_879.out _) NB863_880.out _) NB863_880.out _) NB863_880.out _)⟩, ⟨(zkf (zkf (zkf (zkf (zkf (zkf (zkq BK864) NB864_879.out _) NB864_879.out _) NB864_879.out _) NB864_880.out _) NB864_880.out _) NB864_880.out _)⟩, ⟨(zkf (zkf (zkf (zkf (zkf (zkf (zkq BK865) NB865_879.out _) NB865_879.out _) NB865_879.out _) NB865_880.out _) NB865_880.out _) NB865_880.out _)⟩, ⟨(zkf (zkf (zkf (zkf (zkf (zkf (zkq BK866) NB866_879.out _) NB866_879.out _) NB866_879.out _) NB866_880.out _) NB866_880.out _) NB866_880.out _)⟩, ⟨(zkf (zkf (zkf (blk_put (cs := #[.bool t893, .int .u64 t894, .int .u64 t869]) (blk_put (cs := #[.bool t893, .int .u64 t868, .int .u64 t869]) (blk_put (zkq BK879) 0 _ rfl) 1 _ rfl) 2 _ rfl) NB879_880.out _) NB879_880.out _) NB879_880.out _)⟩, ⟨(blk_put (cs := #[.bool t893, .int .u64 t894, .int .u64 t872]) (blk_put (cs := #[.bool t893, .int .u64 t871, .int .u64 t872]) (blk_put (zkf (zkf (zkf (zkq BK880) NB880_879.out _) NB880_879.out _) NB880_879.out _) 0 _ rfl) 1 _ rfl) 2 _ rfl)⟩, ⟨zaB⟩⟩
          rw [if_neg c85] at H
          have c85b0 : (a0 == 11) = false := beq_eq_false_iff_ne.mpr c85
          have c85b1 : (a0 != 11) = true := bne_iff_ne.mpr c85
          by_cases c106 : a0 = 12
          ·rw [if_pos c106] at H
           have c106b0 : (a0 == 12) = true := beq_iff_eq.mpr c106
           have c106b1 : (a0 != 12) = false := bne_eq_false_iff_eq.mpr c106
           clear c106
           obtain ⟨⟨t896, t897, t898⟩, A107, H⟩ := zbs H
           try dsimp only at H
           obtain ⟨⟨t899, t900, t901⟩, A108, H⟩ := zbs H
           try dsimp only at H
           have H' := Aside0.mk H
           clear H
           try go_wp2
           replace BK863 := Aside0.mk (blk_drew BK863.out)
           replace BK864 := Aside0.mk (blk_drew BK864.out)
           replace BK865 := Aside0.mk (blk_drew BK865.out)
           replace BK866 := Aside0.mk (blk_drew BK866.out)
           replace BK879 := Aside0.mk (blk_drew BK879.out)
           replace BK880 := Aside0.mk (blk_drew BK880.out)
           replace HB := Aside0.mk (below_drew1 HB.out)
           refine start_ (n := 8) (S := fun w' => w'.cell? ⟨gb863, 0, none⟩ = some (.bool t867) ∧ w'.cell? ⟨gb863, 1, none⟩ = some (.int .u64 t868) ∧ w'.cell? ⟨gb863, 2, none⟩ = some (.int .u64 t869) ∧ w'.cell? ⟨gb864, 0, none⟩ = some (.bool t870) ∧ w'.cell? ⟨gb864, 1, none⟩ = some (.int .u64 t871) ∧ w'.cell? ⟨gb864, 2, none⟩ = some (.int .u64 t872)) (ds := []) #[false, false, false, false, false, false, false, false] (by kernel_rfl) rfl rfl (zk3 BK863 (ze3 BK864)) (fun hHeld => ?_); refine with_tabW span_Test.tab17 span_Test.bits17 (fun HT_ HW_ => ?_)
           generalize wc.drew = w109 at BK863 BK864 BK865 BK866 BK879 BK880 HB hHeld ⊢
           refine ztA 0 66 (h := ?_)
           refine ztA 1 67 (h := ?_)
           refine ztA 3 69 (h := ?_)
           refine ztA 4 70 (h := ?_)
           refine zoA 2 68 (h := fun K hK => ?_)
           refine zgA Try.func123 (span_without.calls kj70 t867 t868 t869 t870 t871 t872 t896 t897 t898 _ A107.out) (h := ?_)
           rintro w110 hb
           replace BK863 := zkb BK863 hb
           replace BK864 := zkb BK864 hb
           replace BK865 := zkb BK865 hb
           replace BK866 := zkb BK866 hb
           replace BK879 := zkb BK879 hb
           replace BK880 := zkb BK880 hb
           replace HB := zkB HB hb
           (try clear hb)
           refine hK.out _ _ (zk3 BK863 (ze3 BK864)) (fun hHeld => ?_)
           clear hK K
           refine znA 68 (h := ?_)
           refine zoA 5 71 (h := fun K hK => ?_)
           refine zgA Try.func123 (span_without.calls kj70 t870 t871 t872 t867 t868 t869 t899 t900 t901 _ A108.out) (h := ?_)
           rintro w111 hb
           replace BK863 := zkb BK863 hb
           replace BK864 := zkb BK864 hb
           replace BK865 := zkb BK865 hb
           replace BK866 := zkb BK866 hb
           replace BK879 := zkb BK879 hb
           replace BK880 := zkb BK880 hb
           replace HB := zkB HB hb
           (try clear hb)
           refine hK.out _ _ (zk3 BK863 (ze3 BK864)) (fun hHeld => ?_)
           clear hK K
           refine znA 71 (h := ?_)
           refine one_ (i := 6) (N := none) #[true, true, true, true, true, true, true, false] rfl rfl (one_of HT_.out (by kernel_rfl)) (by decide) (fun K hK => ?_)
           have hs112 := zc0 BK879
           have hfs112 := blk_frozen BK879.out 0
           have hns112_0 := NB863_879.out
           have hns112_1 := NB864_879.out
           have hns112_2 := NB865_879.out
           have hns112_3 := NB866_879.out
           have hns112_5 := NB880_879.out
           have hms112_0 := NB879_863.out
           have hms112_1 := NB879_864.out
           have hms112_2 := NB879_865.out
           have hms112_3 := NB879_866.out
           have hms112_5 := NB879_880.out
           have hs113 := zc1 BK879
           have hfs113 := blk_frozen BK879.out 1
           have hns113_0 := NB863_879.out
           have hns113_1 := NB864_879.out
           have hns113_2 := NB865_879.out
           have hns113_3 := NB866_879.out
           have hns113_5 := NB880_879.out
           have hms113_0 := NB879_863.out
           have hms113_1 := NB879_864.out
           have hms113_2 := NB879_865.out
           have hms113_3 := NB879_866.out
           have hms113_5 := NB879_880.out
           have hs114 := zc2 BK879
           have hfs114 := blk_frozen BK879.out 2
           have hns114_0 := NB863_879.out
           have hns114_1 := NB864_879.out
           have hns114_2 := NB865_879.out
           have hns114_3 := NB866_879.out
           have hns114_5 := NB880_879.out
           have hms114_0 := NB879_863.out
           have hms114_1 := NB879_864.out
           have hms114_2 := NB879_865.out
           have hms114_3 := NB879_866.out
           have hms114_5 := NB879_880.out
           refine skip_ (w1 := ?_) (by rfl) rfl ?_ ?_
           rotate_left
           ·go_simp
            rfl
           refine hK.out _ _ ⟨(zff NB863_879 (zff NB863_879 (zff NB863_879 hHeld.1))), (zff NB863_879 (zff NB863_879 (zff NB863_879 hHeld.2.1))), (zff NB863_879 (zff NB863_879 (zff NB863_879 hHeld.2.2.1))), (zff NB864_879 (zff NB864_879 (zff NB864_879 hHeld.2.2.2.1))), (zff NB864_879 (zff NB864_879 (zff NB864_879 hHeld.2.2.2.2.1))), (zff NB864_879 (zff NB864_879 (zff NB864_879 hHeld.2.2.2.2.2)))⟩ (fun hHeld => ?_)
           clear hK K
           refine one_ (i := 7) (N := none) #[true, true, true, true, true, true, true, true] rfl rfl (one_of HT_.out (by kernel_rfl)) (by decide) (fun K hK => ?_)
           have hs115 := zc0 BK880
           have hfs115 := blk_frozen BK880.out 0
           have hns115_0 := NB863_880.out
           have hns115_1 := NB864_880.out
           have hns115_2 := NB865_880.out
           have hns115_3 := NB866_880.out
           have hns115_4 := NB879_880.out
           have hms115_0 := NB880_863.out
           have hms115_1 := NB880_864.out
           have hms115_2 := NB880_865.out
           have hms115_3 := NB880_866.out
           have hms115_4 := NB880_879.out
           have hs116 := zc1 BK880
           have hfs116 := blk_frozen BK880.out 1
           have hns116_0 := NB863_880.out
           have hns116_1 := NB864_880.out
           have hns116_2 := NB865_880.out
           have hns116_3 := NB866_880.out
           have hns116_4 := NB879_880.out
           have hms116_0 := NB880_863.out
           have hms116_1 := NB880_864.out
           have hms116_2 := NB880_865.out
           have hms116_3 := NB880_866.out
           have hms116_4 := NB880_879.out
           have hs117 := zc2 BK880
           have hfs117 := blk_frozen BK880.out 2
           have hns117_0 := NB863_880.out
           have hns117_1 := NB864_880.out
           have hns117_2 := NB865_880.out
           have hns117_3 := NB866_880.out
           have hns117_4 := NB879_880.out
           have hms117_0 := NB880_863.out
           have hms117_1 := NB880_864.out
           have hms117_2 := NB880_865.out
           have hms117_3 := NB880_866.out
           have hms117_4 := NB880_879.out
           refine skip_ (w1 := ?_) (by rfl) rfl ?_ ?_
           rotate_left
           ·go_simp
            rfl
           refine hK.out _ _ ⟨(zff NB863_880 (zff NB863_880 (zff NB863_880 hHeld.1))), (zff NB863_880 (zff NB863_880 (zff NB863_880 hHeld.2.1))), (zff NB863_880 (zff NB863_880 (zff NB863_880 hHeld.2.2.1))), (zff NB864_880 (zff NB864_880 (zff NB864_880 hHeld.2.2.2.1))), (zff NB864_880 (zff NB864_880 (zff NB864_880 hHeld.2.2.2.2.1))), (zff NB864_880 (zff NB864_880 (zff NB864_880 hHeld.2.2.2.2.2)))⟩ (fun hHeld => ?_)
           clear hK K
           refine done_ (done_of HT_.out (by kernel_rfl)) ?_
           try go_wp2
           go_meet
           case rel => exact ⟨_, (t896), (t897), (t898), (t899), (t900), (t901), H', ⟨by have := HJ5.out; have := HJ43.out; have := HJ56.out; have := HJ70.out; first | omega | exact Nat.le_refl _⟩, ⟨(zkf (zkf (zkf (zkf (zkf (zkf (zkq BK863) NB863_879.out _) NB863_879.out _) NB863_879.out _) NB863_880.out _) NB863_880.out _) NB863_880.out _)⟩, ⟨(zkf (zkf (zkf (zkf (zkf (zkf (zkq BK864) NB864_879.out _) NB864_879.out _) NB864_879.out _) NB864_880.out _) NB864_880.out _) NB864_880.out _)⟩, ⟨(zkf (zkf (zkf (zkf (zkf (zkf (zkq BK865) NB865_879.out _) NB865_879.out _) NB865_879.out _) NB865_880.out _) NB865_880.out _) NB865_880.out _)⟩, ⟨(zkf (zkf (zkf (zkf (zkf (zkf (zkq BK866) NB866_879.out _) NB866_879.out _) NB866_879.out _) NB866_880.out _) NB866_880.out _) NB866_880.out _)⟩, ⟨(zkf (zkf (zkf (blk_put (cs := #[.bool t896, .int .u64 t897, .int .u64 t869]) (blk_put (cs := #[.bool t896, .int .u64 t868, .int .u64 t869]) (blk_put (zkq BK879) 0 _ rfl) 1 _ rfl) 2 _ rfl) NB879_880.out _) NB879_880.out _) NB879_880.out _)⟩, ⟨(blk_put (cs := #[.bool t899, .int .u64 t900, .int .u64 t872]) (blk_put (cs := #[.bool t899, .int .u64 t871, .int .u64 t872]) (blk_put (zkf (zkf (zkf (zkq BK880) NB880_879.out _) NB880_879.out _) NB880_879.out _) 0 _ rfl) 1 _ rfl) 2 _ rfl)⟩, ⟨zaB⟩⟩
          rw [if_neg c106] at H
          have c106b0 : (a0 == 12) = false := beq_eq_false_iff_ne.mpr c106
          have c106b1 : (a0 != 12) = true := bne_iff_ne.mpr c106
          have H' := Aside0.mk H
          clear H
          go_wp2
          go_meet
          case rel => exact ⟨_, (t867), (t868), (t869), (t870), (t871), (t872), H', ⟨by have := HJ5.out; have := HJ43.out; have := HJ56.out; have := HJ70.out; first | omega | exact Nat.le_refl _⟩, ⟨zkq BK863⟩, ⟨zkq BK864⟩, ⟨zkq BK865⟩, ⟨zkq BK866⟩, ⟨zkq BK879⟩, ⟨zkq BK880⟩, ⟨zaB⟩⟩
     case rest =>
      clear HC56
      try clear c1
      try clear p2
      try clear c4
      try clear c7
      try clear c8
      try clear c9
      try clear c10
      try clear c12
      try clear c47
      try clear c73
      try clear c85
      try clear c85b0
      try clear c85b1
      try clear c87
      try clear c88
      try clear c89
      try clear c90
      try clear c91
      try clear c93
      try clear c94
      try clear c95
      try clear c96
      try clear c99
      try clear c100
      try clear c101
      try clear c103
      try clear c104
      try clear c106
      try clear c106b0
      try clear c106b1
      try clear z102_0
      try clear z102_1
      try clear z102_2
      try clear z105_0
      try clear z105_1
      try clear z105_2
      try clear z92_0
      try clear z92_1
      try clear z92_2
      try clear z97_0
      try clear z97_1
      try clear z97_2
      try clear f102_0
      try clear f102_1
      try clear f102_2
      try clear f105_0
      try clear f105_1
      try clear f105_2
      try clear f24_0
      try clear f24_1
      try clear f24_2
      try clear f28_0
      try clear f28_1
      try clear f28_2
      try clear f31_0
      try clear f31_1
      try clear f31_2
      try clear f40_0
      try clear f40_1
      try clear f40_2
      try clear f43_0
      try clear f43_1
      try clear f43_2
      try clear f92_0
      try clear f92_1
      try clear f92_2
      try clear f97_0
      try clear f97_1
      try clear f97_2
      try clear p2
      obtain ⟨kq, x880000_55, x880001_55, x880002_55, x881000_55, x881001_55, x881002_55, HA, HJ55, BK863, BK864, BK865, BK866, BK879, BK880, HB⟩ := hcut
      cases kq with
      | zero => exact absurd HA.out (by simp [span_Test.j4])
      | succ kj55 =>
       have H := HA.out
       clear HA
       simp only [span_Test.j4] at H
       have HC118 := Aside0.mk H
       clear H
       go_upto_region 18 with (fail)
       go_cut [77] (fun v77 wc => ∃ (kq : Nat) (x77_117 : Bool), v77 = .bool x77_117 ∧ Aside0 (span_Test.j5 kq x77_117 x880000_55 x880001_55 x880002_55 x881000_55 x881001_55 x881002_55 = some (r1, r2, r3, r4, r5, r6)) ∧ Aside0 (kq ≤ kj55) ∧ Aside0 (wc.heap[gb863]? = some (.cells #[.bool t867, .int .u64 t868, .int .u64 t869] 43 (0, 0))) ∧ Aside0 (wc.heap[gb864]? = some (.cells #[.bool t870, .int .u64 t871, .int .u64 t872] 43 (0, 0))) ∧ Aside0 (wc.heap[gb865]? = some (.cells #[.bool false, .int .u64 0, .int .u64 0] 43 (0, 0))) ∧ Aside0 (wc.heap[gb866]? = some (.cells #[.bool false, .int .u64 0, .int .u64 0] 43 (0, 0))) ∧ Aside0 (wc.heap[gb879]? = some (.cells #[.bool x880000_55, .int .u64 x880001_55, .int .u64 x880002_55] 43 (0, 0))) ∧ Aside0 (wc.heap[gb880]? = some (.cells #[.bool x881000_55, .int .u64 x881001_55, .int .u64 x881002_55] 43 (0, 0))) ∧ Aside0 (Below w.heap.size w wc))
       case first =>
        have H := HC118.out
        clear HC118
        by_cases c119 : x880000_55 = true
        ·subst c119
         replace H := zit H
         have H' := Aside0.mk H
         clear H
         obtain ⟨_, _⟩ := zsy NB879_863
         obtain ⟨_, _⟩ := zsy NB879_864
         obtain ⟨_, _⟩ := zsy NB879_865
         obtain ⟨_, _⟩ := zsy NB879_866
         obtain ⟨_, _⟩ := zsy NB879_880
         obtain ⟨z125_0, z125_1, z125_2, f125_0, f125_1, f125_2⟩ := zq3 BK879
         go_wp2
         go_meet
         case rel => exact ⟨_, (true), zrl, H', ⟨by have := HJ5.out; have := HJ43.out; have := HJ55.out; first | omega | exact Nat.le_refl _⟩, ⟨zkq BK863⟩, ⟨zkq BK864⟩, ⟨zkq BK865⟩, ⟨zkq BK866⟩, ⟨zkq BK879⟩, ⟨zkq BK880⟩, ⟨zaB⟩⟩
        replace c119 := Bool.eq_false_iff.mpr c119
        subst c119
        replace H := zif H
        have H' := Aside0.mk H
        clear H
        obtain ⟨_, _⟩ := zsy NB879_863
        obtain ⟨_, _⟩ := zsy NB879_864
        obtain ⟨_, _⟩ := zsy NB879_865
        obtain ⟨_, _⟩ := zsy NB879_866
        obtain ⟨_, _⟩ := zsy NB879_880
        obtain ⟨z131_0, z131_1, z131_2, f131_0, f131_1, f131_2⟩ := zq3 BK879
        obtain ⟨_, _⟩ := zsy NB880_863
        obtain ⟨_, _⟩ := zsy NB880_864
        obtain ⟨_, _⟩ := zsy NB880_865
        obtain ⟨_, _⟩ := zsy NB880_866
        obtain ⟨z136_0, z136_1, z136_2, f136_0, f136_1, f136_2⟩ := zq3 BK880
        go_wp2
        go_meet
        case rel => exact ⟨_, (x881000_55), zrl, H', ⟨by have := HJ5.out; have := HJ43.out; have := HJ55.out; first | omega | exact Nat.le_refl _⟩, ⟨zkq BK863⟩, ⟨zkq BK864⟩, ⟨zkq BK865⟩, ⟨zkq BK866⟩, ⟨zkq BK879⟩, ⟨zkq BK880⟩, ⟨zaB⟩⟩
       case rest =>
        clear HC118
        try clear c1
        try clear p2
        try clear c4
        try clear c7
        try clear c8
        try clear c9
        try clear c10
        try clear c11
        try clear c12
        try clear c13
        try clear c47
        try clear c73
        try clear c85
        try clear c85b0
        try clear c85b1
        try clear c87
        try clear c88
        try clear c89
        try clear c90
        try clear c91
        try clear c93
        try clear c94
        try clear c95
        try clear c96
        try clear c99
        try clear c100
        try clear c101
        try clear c103
        try clear c104
        try clear c106
        try clear c106b0
        try clear c106b1
        try clear c119
        try clear c120
        try clear c121
        try clear c122
        try clear c123
        try clear c124
        try clear c126
        try clear c127
        try clear c128
        try clear c129
        try clear c130
        try clear c132
        try clear c133
        try clear c134
        try clear c135
        try clear z102_0
        try clear z102_1
        try clear z102_2
        try clear z105_0
        try clear z105_1
        try clear z105_2
        try clear z125_0
        try clear z125_1
        try clear z125_2
        try clear z131_0
        try clear z131_1
        try clear z131_2
        try clear z136_0
        try clear z136_1
        try clear z136_2
        try clear z92_0
        try clear z92_1
        try clear z92_2
        try clear z97_0
        try clear z97_1
        try clear z97_2
        try clear f102_0
        try clear f102_1
        try clear f102_2
        try clear f105_0
        try clear f105_1
        try clear f105_2
        try clear f125_0
        try clear f125_1
        try clear f125_2
        try clear f131_0
        try clear f131_1
        try clear f131_2
        try clear f136_0
        try clear f136_1
        try clear f136_2
        try clear f24_0
        try clear f24_1
        try clear f24_2
        try clear f28_0
        try clear f28_1
        try clear f28_2
        try clear f31_0
        try clear f31_1
        try clear f31_2
        try clear f40_0
        try clear f40_1
        try clear f40_2
        try clear f43_0
        try clear f43_1
        try clear f43_2
        try clear f92_0
        try clear f92_1
        try clear f92_2
        try clear f97_0
        try clear f97_1
        try clear f97_2
        try clear p2
        obtain ⟨kq, x77_117, rfl, HA, HJ117, BK863, BK864, BK865, BK866, BK879, BK880, HB⟩ := hcut
        cases kq with
        | zero => exact absurd HA.out (by simp [span_Test.j5])
        | succ kj117 =>
         have H := HA.out
         clear HA
         simp only [span_Test.j5] at H
         by_cases c137 : x77_117 = true
         ·subst c137
          replace H := zit H
          obtain ⟨⟨t902, t903, t904⟩, A138, H⟩ := zbs H
          try dsimp only at H
          obtain ⟨⟨t905, t906, t907⟩, A139, H⟩ := zbs H
          try dsimp only at H
          simp only [Option.some.injEq, Prod.mk.injEq] at H
          obtain ⟨rfl, rfl, rfl, rfl, rfl, rfl⟩ := H
          go_wp2_with (first | ((with_reducible refine gtc 118 rfl ?_); refine zgL 78 Try.func118 (span_none.calls  t902 t903 t904 _ A138.out) (h := ?_); rintro w140 hb; replace BK863 := zkb BK863 hb; replace BK864 := zkb BK864 hb; replace BK865 := zkb BK865 hb; replace BK866 := zkb BK866 hb; replace BK879 := zkb BK879 hb; replace BK880 := zkb BK880 hb; replace HB := zkB HB hb; (try clear hb)) | ((with_reducible refine gtc 118 rfl ?_); refine zgL 79 Try.func118 (span_none.calls  t905 t906 t907 _ A139.out) (h := ?_); rintro w141 hb; replace BK863 := zkb BK863 hb; replace BK864 := zkb BK864 hb; replace BK865 := zkb BK865 hb; replace BK866 := zkb BK866 hb; replace BK879 := zkb BK879 hb; replace BK880 := zkb BK880 hb; replace HB := zkB HB hb; (try clear hb); obtain ⟨_, _⟩ := zsy NB865_863; obtain ⟨_, _⟩ := zsy NB865_864; obtain ⟨_, _⟩ := zsy NB865_866; obtain ⟨_, _⟩ := zsy NB865_879; obtain ⟨_, _⟩ := zsy NB865_880; obtain ⟨_, _, _, _, _, _⟩ := zq3 BK865; obtain ⟨_, _⟩ := zsy NB866_863; obtain ⟨_, _⟩ := zsy NB866_864; obtain ⟨_, _⟩ := zsy NB866_879; obtain ⟨_, _⟩ := zsy NB866_880; obtain ⟨_, _, _, _, _, _⟩ := zq3 BK866))
          refine bodyPost_ret (results_cc rfl _ _ gb865 gb866 43 43 #[.bool t902, .int .u64 t903, .int .u64 t904] #[.bool t905, .int .u64 t906, .int .u64 t907] (0, 0) (0, 0) _ _ rfl (zkf (zkf (zkf (blk_put (cs := #[.bool t902, .int .u64 t903, .int .u64 0]) (blk_put (cs := #[.bool t902, .int .u64 0, .int .u64 0]) (blk_put (zkq BK865) 0 _ rfl) 1 _ rfl) 2 _ rfl) NB865_866.out _) NB865_866.out _) NB865_866.out _) Try.underlying43 rfl (by kernel_rfl) rfl (blk_put (cs := #[.bool t905, .int .u64 t906, .int .u64 0]) (blk_put (cs := #[.bool t905, .int .u64 0, .int .u64 0]) (blk_put (zkf (zkf (zkf (zkq BK866) NB866_865.out _) NB866_865.out _) NB866_865.out _) 0 _ rfl) 1 _ rfl) 2 _ rfl) Try.underlying43 rfl (by kernel_rfl)) rfl ?_
          exact ⟨zaE, zaB⟩
         replace c137 := Bool.eq_false_iff.mpr c137
         subst c137
         replace H := zif H
         simp only [Option.some.injEq, Prod.mk.injEq] at H
         obtain ⟨rfl, rfl, rfl, rfl, rfl, rfl⟩ := H
         try go_wp2
         replace BK863 := Aside0.mk (blk_drew BK863.out)
         replace BK864 := Aside0.mk (blk_drew BK864.out)
         replace BK865 := Aside0.mk (blk_drew BK865.out)
         replace BK866 := Aside0.mk (blk_drew BK866.out)
         replace BK879 := Aside0.mk (blk_drew BK879.out)
         replace BK880 := Aside0.mk (blk_drew BK880.out)
         replace HB := Aside0.mk (below_drew1 HB.out)
         refine start_ (n := 4) (S := fun w' => w'.cell? ⟨gb879, 0, none⟩ = some (.bool x880000_55) ∧ w'.cell? ⟨gb879, 1, none⟩ = some (.int .u64 x880001_55) ∧ w'.cell? ⟨gb879, 2, none⟩ = some (.int .u64 x880002_55) ∧ w'.cell? ⟨gb880, 0, none⟩ = some (.bool x881000_55) ∧ w'.cell? ⟨gb880, 1, none⟩ = some (.int .u64 x881001_55) ∧ w'.cell? ⟨gb880, 2, none⟩ = some (.int .u64 x881002_55)) (ds := []) #[false, false, false, false] (by kernel_rfl) rfl rfl (zk3 BK879 (ze3 BK880)) (fun hHeld => ?_)
         generalize wc.drew = w153 at BK863 BK864 BK865 BK866 BK879 BK880 HB hHeld ⊢
         refine take_ (i := 0) (N := some 80) (v := ?_) (a' := ?_) #[true, false, false, false] rfl rfl (by kernel_rfl) (fun _ _ _ h => h) (Or.inl ⟨by rfl, ?_⟩) hHeld ?_ ?_
         rotate_left
         ·rintro w' ⟨s0, s1, s2, s3, s4, s5⟩
          go_simp
          with_reducible rfl
         rotate_left
         ·simp only [Act.put, List.setIfInBounds_toArray, List.set_cons_zero, List.set_cons_succ, i64_w, i32_w]
          rfl
         refine take_ (i := 1) (N := some 81) (v := ?_) (a' := ?_) #[true, true, false, false] rfl rfl (by kernel_rfl) (fun _ _ _ h => h) (Or.inl ⟨by rfl, ?_⟩) hHeld ?_ ?_
         rotate_left
         ·rintro w' ⟨s0, s1, s2, s3, s4, s5⟩
          go_simp
          with_reducible rfl
         rotate_left
         ·simp only [Act.put, List.setIfInBounds_toArray, List.set_cons_zero, List.set_cons_succ, i64_w, i32_w]
          rfl
         refine one_ (i := 2) (N := none) #[true, true, true, false] rfl rfl (by kernel_rfl) (by decide) (fun K hK => ?_)
         have hs154 := zc0 BK865
         have hfs154 := blk_frozen BK865.out 0
         have hns154_0 := NB863_865.out
         have hns154_1 := NB864_865.out
         have hns154_3 := NB866_865.out
         have hns154_4 := NB879_865.out
         have hns154_5 := NB880_865.out
         have hms154_0 := NB865_863.out
         have hms154_1 := NB865_864.out
         have hms154_3 := NB865_866.out
         have hms154_4 := NB865_879.out
         have hms154_5 := NB865_880.out
         have hs155 := zc1 BK865
         have hfs155 := blk_frozen BK865.out 1
         have hns155_0 := NB863_865.out
         have hns155_1 := NB864_865.out
         have hns155_3 := NB866_865.out
         have hns155_4 := NB879_865.out
         have hns155_5 := NB880_865.out
         have hms155_0 := NB865_863.out
         have hms155_1 := NB865_864.out
         have hms155_3 := NB865_866.out
         have hms155_4 := NB865_879.out
         have hms155_5 := NB865_880.out
         have hs156 := zc2 BK865
         have hfs156 := blk_frozen BK865.out 2
         have hns156_0 := NB863_865.out
         have hns156_1 := NB864_865.out
         have hns156_3 := NB866_865.out
         have hns156_4 := NB879_865.out
         have hns156_5 := NB880_865.out
         have hms156_0 := NB865_863.out
         have hms156_1 := NB865_864.out
         have hms156_3 := NB865_866.out
         have hms156_4 := NB865_879.out
         have hms156_5 := NB865_880.out
         refine skip_ (w1 := ?_) (by rfl) rfl ?_ ?_
         rotate_left
         ·go_simp
          rfl
         refine hK.out _ _ ⟨(zff NB879_865 (zff NB879_865 (zff NB879_865 hHeld.1))), (zff NB879_865 (zff NB879_865 (zff NB879_865 hHeld.2.1))), (zff NB879_865 (zff NB879_865 (zff NB879_865 hHeld.2.2.1))), (zff NB880_865 (zff NB880_865 (zff NB880_865 hHeld.2.2.2.1))), (zff NB880_865 (zff NB880_865 (zff NB880_865 hHeld.2.2.2.2.1))), (zff NB880_865 (zff NB880_865 (zff NB880_865 hHeld.2.2.2.2.2)))⟩ (fun hHeld => ?_)
         clear hK K
         refine one_ (i := 3) (N := none) #[true, true, true, true] rfl rfl (by kernel_rfl) (by decide) (fun K hK => ?_)
         have hs157 := zc0 BK866
         have hfs157 := blk_frozen BK866.out 0
         have hns157_0 := NB863_866.out
         have hns157_1 := NB864_866.out
         have hns157_2 := NB865_866.out
         have hns157_4 := NB879_866.out
         have hns157_5 := NB880_866.out
         have hms157_0 := NB866_863.out
         have hms157_1 := NB866_864.out
         have hms157_2 := NB866_865.out
         have hms157_4 := NB866_879.out
         have hms157_5 := NB866_880.out
         have hs158 := zc1 BK866
         have hfs158 := blk_frozen BK866.out 1
         have hns158_0 := NB863_866.out
         have hns158_1 := NB864_866.out
         have hns158_2 := NB865_866.out
         have hns158_4 := NB879_866.out
         have hns158_5 := NB880_866.out
         have hms158_0 := NB866_863.out
         have hms158_1 := NB866_864.out
         have hms158_2 := NB866_865.out
         have hms158_4 := NB866_879.out
         have hms158_5 := NB866_880.out
         have hs159 := zc2 BK866
         have hfs159 := blk_frozen BK866.out 2
         have hns159_0 := NB863_866.out
         have hns159_1 := NB864_866.out
         have hns159_2 := NB865_866.out
         have hns159_4 := NB879_866.out
         have hns159_5 := NB880_866.out
         have hms159_0 := NB866_863.out
         have hms159_1 := NB866_864.out
         have hms159_2 := NB866_865.out
         have hms159_4 := NB866_879.out
         have hms159_5 := NB866_880.out
         refine skip_ (w1 := ?_) (by rfl) rfl ?_ ?_
         rotate_left
         ·go_simp
          rfl
         refine hK.out _ _ ⟨(zff NB879_866 (zff NB879_866 (zff NB879_866 hHeld.1))), (zff NB879_866 (zff NB879_866 (zff NB879_866 hHeld.2.1))), (zff NB879_866 (zff NB879_866 (zff NB879_866 hHeld.2.2.1))), (zff NB880_866 (zff NB880_866 (zff NB880_866 hHeld.2.2.2.1))), (zff NB880_866 (zff NB880_866 (zff NB880_866 hHeld.2.2.2.2.1))), (zff NB880_866 (zff NB880_866 (zff NB880_866 hHeld.2.2.2.2.2)))⟩ (fun hHeld => ?_)
         clear hK K
         refine done_ (by kernel_rfl) ?_
         try go_wp2
         refine bodyPost_ret (results_cc rfl _ _ gb865 gb866 43 43 #[.bool x880000_55, .int .u64 x880001_55, .int .u64 x880002_55] #[.bool x881000_55, .int .u64 x881001_55, .int .u64 x881002_55] (0, 0) (0, 0) _ _ rfl (zkf (zkf (zkf (blk_put (cs := #[.bool x880000_55, .int .u64 x880001_55, .int .u64 0]) (blk_put (cs := #[.bool x880000_55, .int .u64 0, .int .u64 0]) (blk_put (zkq BK865) 0 _ rfl) 1 _ rfl) 2 _ rfl) NB865_866.out _) NB865_866.out _) NB865_866.out _) Try.underlying43 rfl (by kernel_rfl) rfl (blk_put (cs := #[.bool x881000_55, .int .u64 x881001_55, .int .u64 0]) (blk_put (cs := #[.bool x881000_55, .int .u64 0, .int .u64 0]) (blk_put (zkf (zkf (zkf (zkq BK866) NB866_865.out _) NB866_865.out _) NB866_865.out _) 0 _ rfl) 1 _ rfl) 2 _ rfl) Try.underlying43 rfl (by kernel_rfl)) rfl ?_
         exact ⟨zaE, zaB⟩
end Go.Proofs.Ytmadjhmecfbcmaa.F
end
