/- The walk of the law SpanTests and what it computes, part 5 of 6: no conditions. -/
import Derived.Test.YtmadjhmecfbcmaaASpanTests4
set_option linter.unusedVariables false
set_option linter.unusedSimpArgs false
section
namespace Go.Proofs.Ytmadjhmecfbcmaa.F
open Go.RowKit Go.Proofs.YtmadjhmecfbcmaaW.PrintWords Go.Proofs.YtmadjhmecfbcmaaW.PrintLast Go.Proofs.YtmadjhmecfbcmaaW.PrintMore
attribute [local go_sem] max2_int min2_int max_two min_two max_three min_three max_four min_four
set_option linter.unusedVariables false
set_option linter.unusedSimpArgs false
set_option maxHeartbeats 8000000
set_option maxRecDepth 100000
theorem flyballref16_Meet.calls (k : Nat) (a0_0 : Bool) (a0_1 : Int) (a0_2 : Int) (a1_0 : Bool) (a1_1 : Int) (a1_2 : Int) (r1 : Bool) (r2 : Int) (r3 : Int) (w : World) (h : flyballref16_Meet.f k a0_0 a0_1 a0_2 a1_0 a1_1 a1_2 = some (r1, r2, r3)) :
  Calls Try.prog 48 #[.agg #[.bool a0_0, .int .u64 a0_1, .int .u64 a0_2], .agg #[.bool a1_0, .int .u64 a1_1, .int .u64 a1_2]] w fun e w' => e = .returned (.agg #[.bool r1, .int .u64 r2, .int .u64 r3]) ∧ Below w.heap.size w w' := by
 have hu43 := Try.underlying43
 have HB := Aside0.mk (Below.refl w.heap.size w)
 have H := h
 unfold flyballref16_Meet.f at H
 clear h
 obtain ⟨⟨t1147, t1148, t1149⟩, A3, H⟩ := zbs H
 try dsimp only at H
 obtain ⟨⟨t1151, t1152, t1153⟩, A4, H⟩ := zbs H
 try dsimp only at H
 have HC5 := Aside0.mk H
 clear H
 go_enter Try.func48, Try.ntmps48
 go_upto_region 3 with (first | ((with_reducible refine gtd 2 rfl ?_); refine zbx 2 #[.bool a0_0, .int .u64 a0_1, .int .u64 a0_2] 43 (h := ?_); intro gb1144 hg w6 hbox hb; have GW1144 := zkZ hg (zaB (p := Below w.heap.size w _)); replace HB := Aside0.mk (below_step zaB hb); have BK1144 := Aside0.mk (hbox); clear hb hbox hg) | ((with_reducible refine gtd 3 rfl ?_); refine zbx 3 #[.bool a1_0, .int .u64 a1_1, .int .u64 a1_2] 43 (h := ?_); intro gb1145 hg w7 hbox hb; refine zbn1 HB BK1144 hg hb hbox (c := ?_); clear HB BK1144 hb hbox hg; intro GW1145 NB1144_1145 BK1144 HB BK1145) | ((with_reducible refine gtd 4 rfl ?_); refine zbx 4 #[.bool false, .int .u64 0, .int .u64 0] 43 (h := ?_); intro gb1146 hg w8 hbox hb; refine zbn2 HB BK1144 BK1145 hg hb hbox (c := ?_); clear HB BK1144 BK1145 hb hbox hg; intro GW1146 NB1144_1146 NB1145_1146 BK1144 BK1145 HB BK1146; refine zt2 NB1144_1145 NB1144_1146 fun _ _ _ _ => ?_; refine zu3 BK1144 fun z11_0 z11_1 z11_2 f11_0 f11_1 f11_2 => ?_) | ((with_reducible refine gtc 49 rfl ?_); refine zgL 8 Try.func49 (flyballref16_Norm.calls k a0_0 a0_1 a0_2 t1147 t1148 t1149 _ A3.out) (h := ?_); rintro w12 hb; refine zcn3 HB BK1144 BK1145 BK1146 hb (c := ?_); clear HB BK1144 BK1145 BK1146 hb; intro BK1144 BK1145 BK1146 HB) | ((with_reducible refine gtd 5 rfl ?_); refine zbx 5 #[.bool false, .int .u64 0, .int .u64 0] 43 (h := ?_); intro gb1150 hg w13 hbox hb; refine zbn3 HB BK1144 BK1145 BK1146 hg hb hbox (c := ?_); clear HB BK1144 BK1145 BK1146 hb hbox hg; intro GW1150 NB1144_1150 NB1145_1150 NB1146_1150 BK1144 BK1145 BK1146 HB BK1150; refine zt3 NB1144_1150 NB1145_1150 NB1146_1150 fun _ _ _ _ _ _ => ?_; refine zu3 BK1150 fun z17_0 z17_1 z17_2 f17_0 f17_1 f17_2 => ?_; refine zt1 NB1145_1146 fun _ _ => ?_; refine zu3 BK1145 fun z19_0 z19_1 z19_2 f19_0 f19_1 f19_2 => ?_) | ((with_reducible refine gtc 49 rfl ?_); refine zgL 10 Try.func49 (flyballref16_Norm.calls k a1_0 a1_1 a1_2 t1151 t1152 t1153 _ A4.out) (h := ?_); rintro w20 hb; replace BK1144 := Aside0.mk (blk_below (zkf (zkf (zkf BK1144.out NB1144_1150.out _) NB1144_1150.out _) NB1144_1150.out _) hb); replace BK1145 := Aside0.mk (blk_below (zkf (zkf (zkf BK1145.out NB1145_1150.out _) NB1145_1150.out _) NB1145_1150.out _) hb); replace BK1146 := Aside0.mk (blk_below (zkf (zkf (zkf BK1146.out NB1146_1150.out _) NB1146_1150.out _) NB1146_1150.out _) hb); replace BK1150 := Aside0.mk (blk_below (o := .cells #[.bool t1147, .int .u64 t1148, .int .u64 t1149] 43 (0, 0)) (blk_put (cs := #[.bool t1147, .int .u64 t1148, .int .u64 0]) (blk_put (cs := #[.bool t1147, .int .u64 0, .int .u64 0]) (blk_put BK1150.out 0 _ rfl) 1 _ rfl) 2 _ rfl) hb); replace HB := Aside0.mk (below_step (below_set (below_set (below_set HB.out GW1150.out) GW1150.out) GW1150.out) hb); (try clear hb)) | ((with_reducible refine gtd 6 rfl ?_); refine zbx 6 #[.bool false, .int .u64 0, .int .u64 0] 43 (h := ?_); intro gb1154 hg w21 hbox hb; refine zbn4 HB BK1144 BK1145 BK1146 BK1150 hg hb hbox (c := ?_); clear HB BK1144 BK1145 BK1146 BK1150 hb hbox hg; intro GW1154 NB1144_1154 NB1145_1154 NB1146_1154 NB1150_1154 BK1144 BK1145 BK1146 BK1150 HB BK1154; refine zt4 NB1144_1154 NB1145_1154 NB1146_1154 NB1150_1154 fun _ _ _ _ _ _ _ _ => ?_; refine zu3 BK1154 fun z26_0 z26_1 z26_2 f26_0 f26_1 f26_2 => ?_))
 (try simp only [Act.put, List.setIfInBounds_toArray, List.set_cons_zero, List.set_cons_succ])
 go_cut [16] (fun v16 wc => ∃ (kq : Nat) (x16_4 : Bool), v16 = .bool x16_4 ∧ Aside0 (flyballref16_Meet.j0 kq x16_4 t1147 t1148 t1149 t1151 t1152 t1153 = some (r1, r2, r3)) ∧ Aside0 (kq ≤ k) ∧ Aside0 (wc.heap[gb1144]? = some (.cells #[.bool a0_0, .int .u64 a0_1, .int .u64 a0_2] 43 (0, 0))) ∧ Aside0 (wc.heap[gb1145]? = some (.cells #[.bool a1_0, .int .u64 a1_1, .int .u64 a1_2] 43 (0, 0))) ∧ Aside0 (wc.heap[gb1146]? = some (.cells #[.bool false, .int .u64 0, .int .u64 0] 43 (0, 0))) ∧ Aside0 (wc.heap[gb1150]? = some (.cells #[.bool t1147, .int .u64 t1148, .int .u64 t1149] 43 (0, 0))) ∧ Aside0 (wc.heap[gb1154]? = some (.cells #[.bool t1151, .int .u64 t1152, .int .u64 t1153] 43 (0, 0))) ∧ Aside0 (Below w.heap.size w wc))
 case first =>
  have H := HC5.out
  clear HC5
  by_cases c27 : t1147 = true
  ·subst c27
   replace H := zit H
   have H' := Aside0.mk H
   clear H
   refine zt4 NB1144_1150 NB1145_1150 NB1146_1150 NB1150_1154 fun _ _ _ _ _ _ _ _ => ?_
   refine zu3 BK1150 fun z32_0 z32_1 z32_2 f32_0 f32_1 f32_2 => ?_
   go_wp2
   go_meet
   case rel => exact ⟨_, (true), zrl, H', ⟨zle⟩, ⟨(zkf (zkf (zkf (zkq BK1144) NB1144_1154.out _) NB1144_1154.out _) NB1144_1154.out _)⟩, ⟨(zkf (zkf (zkf (zkq BK1145) NB1145_1154.out _) NB1145_1154.out _) NB1145_1154.out _)⟩, ⟨(zkf (zkf (zkf (zkq BK1146) NB1146_1154.out _) NB1146_1154.out _) NB1146_1154.out _)⟩, ⟨(zkf (zkf (zkf (zkq BK1150) NB1150_1154.out _) NB1150_1154.out _) NB1150_1154.out _)⟩, ⟨(blk_put (cs := #[.bool t1151, .int .u64 t1152, .int .u64 0]) (blk_put (cs := #[.bool t1151, .int .u64 0, .int .u64 0]) (blk_put (zkq BK1154) 0 _ rfl) 1 _ rfl) 2 _ rfl)⟩, ⟨zaB⟩⟩
  replace c27 := Bool.eq_false_iff.mpr c27
  subst c27
  replace H := zif H
  have H' := Aside0.mk H
  clear H
  refine zt4 NB1144_1150 NB1145_1150 NB1146_1150 NB1150_1154 fun _ _ _ _ _ _ _ _ => ?_
  refine zu3 BK1150 fun z37_0 z37_1 z37_2 f37_0 f37_1 f37_2 => ?_
  refine zt3 NB1144_1154 NB1145_1154 NB1146_1154 fun _ _ _ _ _ _ => ?_
  refine zu3 BK1154 fun z41_0 z41_1 z41_2 f41_0 f41_1 f41_2 => ?_
  go_wp2
  go_meet
  case rel => exact ⟨_, (t1151), zrl, H', ⟨zle⟩, ⟨(zkf (zkf (zkf (zkq BK1144) NB1144_1154.out _) NB1144_1154.out _) NB1144_1154.out _)⟩, ⟨(zkf (zkf (zkf (zkq BK1145) NB1145_1154.out _) NB1145_1154.out _) NB1145_1154.out _)⟩, ⟨(zkf (zkf (zkf (zkq BK1146) NB1146_1154.out _) NB1146_1154.out _) NB1146_1154.out _)⟩, ⟨(zkf (zkf (zkf (zkq BK1150) NB1150_1154.out _) NB1150_1154.out _) NB1150_1154.out _)⟩, ⟨(blk_put (cs := #[.bool t1151, .int .u64 t1152, .int .u64 0]) (blk_put (cs := #[.bool t1151, .int .u64 0, .int .u64 0]) (blk_put (zkq BK1154) 0 _ rfl) 1 _ rfl) 2 _ rfl)⟩, ⟨zaB⟩⟩
 case rest =>
  clear HC5
  try clear z11_0 z11_1 z11_2 f11_0 f11_1 f11_2
  try clear z17_0 z17_1 z17_2 f17_0 f17_1 f17_2
  try clear z19_0 z19_1 z19_2 f19_0 f19_1 f19_2
  try clear z26_0 z26_1 z26_2 f26_0 f26_1 f26_2
  try clear z32_0 z32_1 z32_2 f32_0 f32_1 f32_2
  try clear z37_0 z37_1 z37_2 f37_0 f37_1 f37_2
  try clear z41_0 z41_1 z41_2 f41_0 f41_1 f41_2
  obtain ⟨kq, x16_4, rfl, HA, HJ4, BK1144, BK1145, BK1146, BK1150, BK1154, HB⟩ := hcut
  cases kq with
  | zero => exact absurd HA.out (by simp [flyballref16_Meet.j0])
  | succ kj4 =>
   have H := HA.out
   clear HA
   simp only [flyballref16_Meet.j0] at H
   by_cases c42 : x16_4 = true
   ·subst c42
    replace H := zit H
    simp only [Option.some.injEq, Prod.mk.injEq] at H
    obtain ⟨rfl, rfl, rfl⟩ := H
    refine zt4 NB1144_1146 NB1145_1146 NB1146_1150 NB1146_1154 fun _ _ _ _ _ _ _ _ => ?_
    refine zu3 BK1146 fun z47_0 z47_1 z47_2 f47_0 f47_1 f47_2 => ?_
    go_wp2
    refine bodyPost_ret (results_cell_row rfl _ _ gb1146 43 #[.bool true, .int .u64 0, .int .u64 0] (0, 0) _ rfl (blk_put (cs := #[.bool true, .int .u64 0, .int .u64 0]) (blk_put (cs := #[.bool true, .int .u64 0, .int .u64 0]) (blk_put (zkq BK1146) 0 _ rfl) 1 _ rfl) 2 _ rfl) Try.underlying43 rfl (by kernel_rfl)) rfl ?_
    exact ⟨zaE, zaB⟩
   replace c42 := Bool.eq_false_iff.mpr c42
   subst c42
   replace H := zif H
   obtain ⟨t1155, A48, H⟩ := zbs H
   try dsimp only at H
   have HC49 := Aside0.mk H
   clear H
   refine zt4 NB1144_1150 NB1145_1150 NB1146_1150 NB1150_1154 fun _ _ _ _ _ _ _ _ => ?_
   refine zu3 BK1150 fun z54_0 z54_1 z54_2 f54_0 f54_1 f54_2 => ?_
   refine zt3 NB1144_1154 NB1145_1154 NB1146_1154 fun _ _ _ _ _ _ => ?_
   refine zu3 BK1154 fun z58_0 z58_1 z58_2 f58_0 f58_1 f58_2 => ?_
   go_upto_if 22 with (first | ((with_reducible refine gtc 116 rfl ?_); refine zgL 22 Try.func116 (flyballref16_le.calls kj4 t1148 t1152 t1155 _ A48.out) (h := ?_); rintro w' ⟨nd, rfl⟩))
   (try simp only [Act.put, List.setIfInBounds_toArray, List.set_cons_zero, List.set_cons_succ])
   go_cut [] (fun wc => ∃ (kq : Nat) (x1151001_48 : Int), Aside0 (flyballref16_Meet.j1 kq t1147 x1151001_48 t1149 t1151 t1152 t1153 = some (r1, r2, r3)) ∧ Aside0 (kq ≤ kj4) ∧ Aside0 (wc.heap[gb1144]? = some (.cells #[.bool a0_0, .int .u64 a0_1, .int .u64 a0_2] 43 (0, 0))) ∧ Aside0 (wc.heap[gb1145]? = some (.cells #[.bool a1_0, .int .u64 a1_1, .int .u64 a1_2] 43 (0, 0))) ∧ Aside0 (wc.heap[gb1146]? = some (.cells #[.bool false, .int .u64 0, .int .u64 0] 43 (0, 0))) ∧ Aside0 (wc.heap[gb1150]? = some (.cells #[.bool t1147, .int .u64 x1151001_48, .int .u64 t1149] 43 (0, 0))) ∧ Aside0 (wc.heap[gb1154]? = some (.cells #[.bool t1151, .int .u64 t1152, .int .u64 t1153] 43 (0, 0))) ∧ Aside0 (Below w.heap.size w wc))
   case first =>
    have H := HC49.out
    clear HC49
    by_cases c59 : t1155 = true
    ·subst c59
     replace H := zit H
     have H' := Aside0.mk H
     clear H
     refine zt4 NB1144_1154 NB1145_1154 NB1146_1154 NB1150_1154 fun _ _ _ _ _ _ _ _ => ?_
     refine zu3 BK1154 fun z64_0 z64_1 z64_2 f64_0 f64_1 f64_2 => ?_
     refine zt3 NB1144_1150 NB1145_1150 NB1146_1150 fun _ _ _ _ _ _ => ?_
     refine zu3 BK1150 fun z68_0 z68_1 z68_2 f68_0 f68_1 f68_2 => ?_
     go_wp2
     go_meet
     case rel => exact ⟨_, (t1152), H', ⟨by have := HJ4.out; first | omega | exact Nat.le_refl _⟩, ⟨(zkf (zkq BK1144) NB1144_1150.out _)⟩, ⟨(zkf (zkq BK1145) NB1145_1150.out _)⟩, ⟨(zkf (zkq BK1146) NB1146_1150.out _)⟩, ⟨(blk_put (zkq BK1150) 1 _ rfl)⟩, ⟨(zkf (zkq BK1154) (zks NB1150_1154).out _)⟩, ⟨zaB⟩⟩
    replace c59 := Bool.eq_false_iff.mpr c59
    subst c59
    replace H := zif H
    have H' := Aside0.mk H
    clear H
    go_wp2
    go_meet
    case rel => exact ⟨_, (t1148), H', ⟨by have := HJ4.out; first | omega | exact Nat.le_refl _⟩, ⟨zkq BK1144⟩, ⟨zkq BK1145⟩, ⟨zkq BK1146⟩, ⟨zkq BK1150⟩, ⟨zkq BK1154⟩, ⟨zaB⟩⟩
   case rest =>
    clear HC49
    try clear z11_0 z11_1 z11_2 f11_0 f11_1 f11_2
    try clear z17_0 z17_1 z17_2 f17_0 f17_1 f17_2
    try clear z19_0 z19_1 z19_2 f19_0 f19_1 f19_2
    try clear z26_0 z26_1 z26_2 f26_0 f26_1 f26_2
    try clear z32_0 z32_1 z32_2 f32_0 f32_1 f32_2
    try clear z37_0 z37_1 z37_2 f37_0 f37_1 f37_2
    try clear z41_0 z41_1 z41_2 f41_0 f41_1 f41_2
    try clear z47_0 z47_1 z47_2 f47_0 f47_1 f47_2
    try clear z54_0 z54_1 z54_2 f54_0 f54_1 f54_2
    try clear z58_0 z58_1 z58_2 f58_0 f58_1 f58_2
    try clear z64_0 z64_1 z64_2 f64_0 f64_1 f64_2
    try clear z68_0 z68_1 z68_2 f68_0 f68_1 f68_2
    obtain ⟨kq, x1151001_48, HA, HJ48, BK1144, BK1145, BK1146, BK1150, BK1154, HB⟩ := hcut
    cases kq with
    | zero => exact absurd HA.out (by simp [flyballref16_Meet.j1])
    | succ kj48 =>
     have H := HA.out
     clear HA
     simp only [flyballref16_Meet.j1] at H
     obtain ⟨t1156, A69, H⟩ := zbs H
     try dsimp only at H
     by_cases c70 : t1156 = true
     ·subst c70
      replace H := zit H
      obtain ⟨⟨t1157, t1158, t1159⟩, A71, H⟩ := zbs H
      try dsimp only at H
      simp only [Option.some.injEq, Prod.mk.injEq] at H
      obtain ⟨rfl, rfl, rfl⟩ := H
      refine zt4 NB1144_1154 NB1145_1154 NB1146_1154 NB1150_1154 fun _ _ _ _ _ _ _ _ => ?_
      refine zu3 BK1154 fun _ _ _ _ _ _ => ?_
      refine zt3 NB1144_1150 NB1145_1150 NB1146_1150 fun _ _ _ _ _ _ => ?_
      refine zu3 BK1150 fun _ _ _ _ _ _ => ?_
      go_wp2_with (first | ((with_reducible refine gtc 116 rfl ?_); refine zgL 30 Try.func116 (flyballref16_le.calls kj48 t1153 t1149 true _ A69.out) (h := ?_); rintro w' ⟨nd, rfl⟩; (try (rw [drewN_self wc]; generalize hq_ : World.drewN wc _ = wc; have n0_ : Aside0 (wc.heap[gb1144]? = some (.cells #[.bool a0_0, .int .u64 a0_1, .int .u64 a0_2] 43 (0, 0))) := ⟨by rw [← hq_]; exact (zkq BK1144)⟩; have n1_ : Aside0 (wc.heap[gb1145]? = some (.cells #[.bool a1_0, .int .u64 a1_1, .int .u64 a1_2] 43 (0, 0))) := ⟨by rw [← hq_]; exact (zkq BK1145)⟩; have n2_ : Aside0 (wc.heap[gb1146]? = some (.cells #[.bool false, .int .u64 0, .int .u64 0] 43 (0, 0))) := ⟨by rw [← hq_]; exact (zkq BK1146)⟩; have n3_ : Aside0 (wc.heap[gb1150]? = some (.cells #[.bool t1147, .int .u64 x1151001_48, .int .u64 t1149] 43 (0, 0))) := ⟨by rw [← hq_]; exact (zkq BK1150)⟩; have n4_ : Aside0 (wc.heap[gb1154]? = some (.cells #[.bool t1151, .int .u64 t1152, .int .u64 t1153] 43 (0, 0))) := ⟨by rw [← hq_]; exact (zkq BK1154)⟩; have n5_ : Aside0 (Below w.heap.size w wc) := ⟨by rw [← hq_]; exact zaB⟩; clear BK1144 BK1145 BK1146 BK1150 BK1154 HB hq_; have BK1144 := n0_; have BK1145 := n1_; have BK1146 := n2_; have BK1150 := n3_; have BK1154 := n4_; have HB := n5_; clear n0_ n1_ n2_ n3_ n4_ n5_; have hdq1144_0 := zc0 BK1144; have hdq1144_1 := zc1 BK1144; have hdq1144_2 := zc2 BK1144; have hdq1144_f := zfz BK1144; have hdq1145_0 := zc0 BK1145; have hdq1145_1 := zc1 BK1145; have hdq1145_2 := zc2 BK1145; have hdq1145_f := zfz BK1145; have hdq1146_0 := zc0 BK1146; have hdq1146_1 := zc1 BK1146; have hdq1146_2 := zc2 BK1146; have hdq1146_f := zfz BK1146; have hdq1150_0 := zc0 BK1150; have hdq1150_1 := zc1 BK1150; have hdq1150_2 := zc2 BK1150; have hdq1150_f := zfz BK1150; have hdq1154_0 := zc0 BK1154; have hdq1154_1 := zc1 BK1154; have hdq1154_2 := zc2 BK1154; have hdq1154_f := zfz BK1154))) | ((with_reducible refine gtc 49 rfl ?_); refine zgL 35 Try.func49 (flyballref16_Norm.calls kj48 t1147 x1151001_48 t1153 t1157 t1158 t1159 _ A71.out) (h := ?_); rintro w81 hb; replace BK1144 := Aside0.mk (blk_below (zkf BK1144.out NB1144_1150.out _) hb); replace BK1145 := Aside0.mk (blk_below (zkf BK1145.out NB1145_1150.out _) hb); replace BK1146 := Aside0.mk (blk_below (zkf BK1146.out NB1146_1150.out _) hb); replace BK1150 := Aside0.mk (blk_below (o := .cells #[.bool t1147, .int .u64 x1151001_48, .int .u64 t1153] 43 (0, 0)) (blk_put BK1150.out 2 _ rfl) hb); replace BK1154 := Aside0.mk (blk_below (zkf BK1154.out (zks NB1150_1154).out _) hb); replace HB := Aside0.mk (below_step (below_set HB.out GW1150.out) hb); (try clear hb); refine zt2 NB1144_1146 NB1145_1146 fun _ _ _ _ => ?_; refine zu3 BK1146 fun _ _ _ _ _ _ => ?_))
      refine bodyPost_ret (results_cell_row rfl _ _ gb1146 43 #[.bool t1157, .int .u64 t1158, .int .u64 t1159] (0, 0) _ rfl (blk_put (cs := #[.bool t1157, .int .u64 t1158, .int .u64 0]) (blk_put (cs := #[.bool t1157, .int .u64 0, .int .u64 0]) (blk_put (zkq BK1146) 0 _ rfl) 1 _ rfl) 2 _ rfl) Try.underlying43 rfl (by kernel_rfl)) rfl ?_
      exact ⟨zaE, zaB⟩
     replace c70 := Bool.eq_false_iff.mpr c70
     subst c70
     replace H := zif H
     obtain ⟨⟨t1160, t1161, t1162⟩, A85, H⟩ := zbs H
     try dsimp only at H
     simp only [Option.some.injEq, Prod.mk.injEq] at H
     obtain ⟨rfl, rfl, rfl⟩ := H
     refine zt4 NB1144_1154 NB1145_1154 NB1146_1154 NB1150_1154 fun _ _ _ _ _ _ _ _ => ?_
     refine zu3 BK1154 fun _ _ _ _ _ _ => ?_
     refine zt3 NB1144_1150 NB1145_1150 NB1146_1150 fun _ _ _ _ _ _ => ?_
     refine zu3 BK1150 fun _ _ _ _ _ _ => ?_
     go_wp2_with (first | ((with_reducible refine gtc 116 rfl ?_); refine zgL 30 Try.func116 (flyballref16_le.calls kj48 t1153 t1149 false _ A69.out) (h := ?_); rintro w' ⟨nd, rfl⟩; (try (rw [drewN_self wc]; generalize hq_ : World.drewN wc _ = wc; have n0_ : Aside0 (wc.heap[gb1144]? = some (.cells #[.bool a0_0, .int .u64 a0_1, .int .u64 a0_2] 43 (0, 0))) := ⟨by rw [← hq_]; exact (zkq BK1144)⟩; have n1_ : Aside0 (wc.heap[gb1145]? = some (.cells #[.bool a1_0, .int .u64 a1_1, .int .u64 a1_2] 43 (0, 0))) := ⟨by rw [← hq_]; exact (zkq BK1145)⟩; have n2_ : Aside0 (wc.heap[gb1146]? = some (.cells #[.bool false, .int .u64 0, .int .u64 0] 43 (0, 0))) := ⟨by rw [← hq_]; exact (zkq BK1146)⟩; have n3_ : Aside0 (wc.heap[gb1150]? = some (.cells #[.bool t1147, .int .u64 x1151001_48, .int .u64 t1149] 43 (0, 0))) := ⟨by rw [← hq_]; exact (zkq BK1150)⟩; have n4_ : Aside0 (wc.heap[gb1154]? = some (.cells #[.bool t1151, .int .u64 t1152, .int .u64 t1153] 43 (0, 0))) := ⟨by rw [← hq_]; exact (zkq BK1154)⟩; have n5_ : Aside0 (Below w.heap.size w wc) := ⟨by rw [← hq_]; exact zaB⟩; clear BK1144 BK1145 BK1146 BK1150 BK1154 HB hq_; have BK1144 := n0_; have BK1145 := n1_; have BK1146 := n2_; have BK1150 := n3_; have BK1154 := n4_; have HB := n5_; clear n0_ n1_ n2_ n3_ n4_ n5_; have hdq1144_0 := zc0 BK1144; have hdq1144_1 := zc1 BK1144; have hdq1144_2 := zc2 BK1144; have hdq1144_f := zfz BK1144; have hdq1145_0 := zc0 BK1145; have hdq1145_1 := zc1 BK1145; have hdq1145_2 := zc2 BK1145; have hdq1145_f := zfz BK1145; have hdq1146_0 := zc0 BK1146; have hdq1146_1 := zc1 BK1146; have hdq1146_2 := zc2 BK1146; have hdq1146_f := zfz BK1146; have hdq1150_0 := zc0 BK1150; have hdq1150_1 := zc1 BK1150; have hdq1150_2 := zc2 BK1150; have hdq1150_f := zfz BK1150; have hdq1154_0 := zc0 BK1154; have hdq1154_1 := zc1 BK1154; have hdq1154_2 := zc2 BK1154; have hdq1154_f := zfz BK1154))) | ((with_reducible refine gtc 49 rfl ?_); refine zgL 35 Try.func49 (flyballref16_Norm.calls kj48 t1147 x1151001_48 t1149 t1160 t1161 t1162 _ A85.out) (h := ?_); rintro w95 hb; refine zcn5 HB BK1144 BK1145 BK1146 BK1150 BK1154 hb (c := ?_); clear HB BK1144 BK1145 BK1146 BK1150 BK1154 hb; intro BK1144 BK1145 BK1146 BK1150 BK1154 HB; refine zt2 NB1144_1146 NB1145_1146 fun _ _ _ _ => ?_; refine zu3 BK1146 fun _ _ _ _ _ _ => ?_))
     refine bodyPost_ret (results_cell_row rfl _ _ gb1146 43 #[.bool t1160, .int .u64 t1161, .int .u64 t1162] (0, 0) _ rfl (blk_put (cs := #[.bool t1160, .int .u64 t1161, .int .u64 0]) (blk_put (cs := #[.bool t1160, .int .u64 0, .int .u64 0]) (blk_put (zkq BK1146) 0 _ rfl) 1 _ rfl) 2 _ rfl) Try.underlying43 rfl (by kernel_rfl)) rfl ?_
     exact ⟨zaE, zaB⟩
theorem flyballref04_Finite.calls (k : Nat) (a0 : Int) (r : Bool) (w : World) (h : flyballref04_Finite.f k a0 = some r) :
  Calls Try.prog 115 #[.int .u64 a0] w fun e w' => e = .returned (.bool r) ∧ Drawn0 w w' := by
 have H := h
 unfold flyballref04_Finite.f at H
 clear h
 obtain ⟨t1109, A2, H⟩ := zbs H
 try dsimp only at H
 by_cases c3 : t1109 = 3
 ·rw [if_pos c3] at H
  have c3b0 : (t1109 == 3) = true := beq_iff_eq.mpr c3
  have c3b1 : (t1109 != 3) = false := bne_eq_false_iff_eq.mpr c3
  clear c3
  obtain rfl := Option.some.inj H
  go_enter Try.func115, Try.ntmps115
  go_wp2_with (first | ((with_reducible refine gtc 128 rfl ?_); refine zgL 5 Try.func128 (flyballref04_Class.calls k a0 t1109 _ A2.out) (h := ?_); rintro w' ⟨nd, rfl⟩))
  go_ret
  exact ⟨by first | rfl | (simp; done) | (simp [*]; done), by repeat (first | exact Drawn0.refl _ | apply Drawn0.step)⟩
 rw [if_neg c3] at H
 have c3b0 : (t1109 == 3) = false := beq_eq_false_iff_ne.mpr c3
 have c3b1 : (t1109 != 3) = true := bne_iff_ne.mpr c3
 obtain rfl := Option.some.inj H
 go_enter Try.func115, Try.ntmps115
 go_wp2_with (first | ((with_reducible refine gtc 128 rfl ?_); refine zgL 5 Try.func128 (flyballref04_Class.calls k a0 t1109 _ A2.out) (h := ?_); rintro w' ⟨nd, rfl⟩))
 go_ret
 exact ⟨by first | rfl | (simp; done) | (simp [*]; done), by repeat (first | exact Drawn0.refl _ | apply Drawn0.step)⟩
theorem flyballref04_Make.calls (a0 : Bool) (a1 : Int) (a2 : Int) (r : Int) (w : World) (h : flyballref04_Make.f a0 a1 a2 = some r) :
  Calls Try.prog 157 #[.bool a0, .int .i64 a1, .int .u64 a2] w fun e w' => e = .returned (.int .u64 r) ∧ Drawn0 w w' := by
 have H := h
 unfold flyballref04_Make.f at H
 clear h
 by_cases c4 : a0 = true
 ·subst c4
  replace H := zit H
  obtain rfl := Option.some.inj H
  go_enter Try.func157, Try.ntmps157
  go_wp2
  go_ret
  exact ⟨by first | rfl | (simp; done) | (simp [*]; done), by repeat (first | exact Drawn0.refl _ | apply Drawn0.step)⟩
 replace c4 := Bool.eq_false_iff.mpr c4
 subst c4
 replace H := zif H
 obtain rfl := Option.some.inj H
 go_enter Try.func157, Try.ntmps157
 go_wp2
 go_ret
 exact ⟨by first | rfl | (simp; done) | (simp [*]; done), by repeat (first | exact Drawn0.refl _ | apply Drawn0.step)⟩
theorem flyballref04_Of.calls (k : Nat) (a0 : Int) (a1 : Bool) (r : Int) (w : World) (h : flyballref04_Of.f k a0 a1 = some r) :
  Calls Try.prog 158 #[.int .i64 a0, .bool a1] w fun e w' => e = .returned (.int .u64 r) ∧ Drawn0 w w' := by
 have H := h
 unfold flyballref04_Of.f at H
 clear h
 have HC3 := Aside0.mk H
 clear H
 go_enter Try.func158, Try.ntmps158
 go_upto_region 1 with (fail)
 go_cut [13] (fun v13 wc => ∃ (kq : Nat) (x13_2 : Bool), v13 = .bool x13_2 ∧ Aside0 (flyballref04_Of.j0 kq a0 x13_2 = some r) ∧ Aside0 (kq ≤ k) ∧ Drawn0 w wc)
 case first =>
  have H := HC3.out
  clear HC3
  by_cases c4 : a0 < 0
  ·rw [if_pos c4] at H
   have c4b0 : decide (a0 < 0) = true := decide_eq_true c4
   clear c4
   (first | rw [c4b0] | (simp only [i64_w, i32_w]; rw [c4b0]) | skip)
   have H' := Aside0.mk H
   clear H
   go_wp2
   go_meet
   case rel => exact ⟨_, (true), zrl, H', ⟨zle⟩, by repeat (first | exact Drawn0.refl _ | apply Drawn0.step)⟩
  rw [if_neg c4] at H
  have c4b0 : decide (a0 < 0) = false := decide_eq_false c4
  clear c4
  (first | rw [c4b0] | (simp only [i64_w, i32_w]; rw [c4b0]) | skip)
  by_cases c5 : a0 = 0
  ·rw [if_pos c5] at H
   have c5b0 : (a0 == 0) = true := beq_iff_eq.mpr c5
   have c5b1 : (a0 != 0) = false := bne_eq_false_iff_eq.mpr c5
   clear c5
   have H' := Aside0.mk H
   clear H
   go_wp2
   go_meet
   case rel => exact ⟨_, (a1), zrl, H', ⟨zle⟩, by repeat (first | exact Drawn0.refl _ | apply Drawn0.step)⟩
  rw [if_neg c5] at H
  have c5b0 : (a0 == 0) = false := beq_eq_false_iff_ne.mpr c5
  have c5b1 : (a0 != 0) = true := bne_iff_ne.mpr c5
  have H' := Aside0.mk H
  clear H
  go_wp2
  go_meet
  case rel => exact ⟨_, (false), zrl, H', ⟨zle⟩, by repeat (first | exact Drawn0.refl _ | apply Drawn0.step)⟩
 case rest =>
  clear HC3
  try clear c4b0
  try clear c5b0
  try clear c5b1
  obtain ⟨kq, x13_2, rfl, HA, HJ2, ⟨mc2, rfl⟩⟩ := hcut
  cases kq with
  | zero => exact absurd HA.out (by simp [flyballref04_Of.j0])
  | succ kj2 =>
   have H := HA.out
   clear HA
   simp only [flyballref04_Of.j0] at H
   by_cases c6 : x13_2 = true
   ·subst c6
    replace H := zit H
    obtain ⟨t393, A7, H⟩ := zbs H
    try dsimp only at H
    obtain rfl := Option.some.inj H
    go_wp2_with (first | ((with_reducible refine gtc 157 rfl ?_); refine zgL 21 Try.func157 (flyballref04_Make.calls true (wrap64 (Int.tdiv (wrap64 (-a0)) 4503599627370496)) (IntKind.u64.wrap (Int.tmod (wrap64 (-a0)) 4503599627370496)) t393 _ A7.out) (h := ?_); rintro w' ⟨nd, rfl⟩))
    go_ret
    exact ⟨by first | rfl | (simp; done) | (simp [*]; done), by repeat (first | exact Drawn0.refl _ | apply Drawn0.step)⟩
   replace c6 := Bool.eq_false_iff.mpr c6
   subst c6
   replace H := zif H
   obtain ⟨t394, A8, H⟩ := zbs H
   try dsimp only at H
   obtain rfl := Option.some.inj H
   go_wp2_with (first | ((with_reducible refine gtc 157 rfl ?_); refine zgL 27 Try.func157 (flyballref04_Make.calls false (wrap64 (Int.tdiv a0 4503599627370496)) (IntKind.u64.wrap (Int.tmod a0 4503599627370496)) t394 _ A8.out) (h := ?_); rintro w' ⟨nd, rfl⟩))
   go_ret
   exact ⟨by first | rfl | (simp; done) | (simp [*]; done), by repeat (first | exact Drawn0.refl _ | apply Drawn0.step)⟩
theorem flyballref04_Prev.calls (k : Nat) (a0 : Int) (r : Int) (w : World) (h : flyballref04_Prev.f k a0 = some r) :
  Calls Try.prog 169 #[.int .u64 a0] w fun e w' => e = .returned (.int .u64 r) ∧ Drawn0 w w' := by
 have H := h
 unfold flyballref04_Prev.f at H
 clear h
 have HC2 := Aside0.mk H
 clear H
 go_enter Try.func169, Try.ntmps169
 go_upto_region 1 with (fail)
 go_cut [10] (fun v10 wc => ∃ (kq : Nat) (x10_1 : Bool), v10 = .bool x10_1 ∧ Aside0 (flyballref04_Prev.j0 kq a0 x10_1 = some r) ∧ Aside0 (kq ≤ k) ∧ Drawn0 w wc)
 case first =>
  have H := HC2.out
  clear HC2
  obtain ⟨t1252, A3, H⟩ := zbs H
  try dsimp only at H
  by_cases c4 : t1252 = 4
  ·rw [if_pos c4] at H
   have c4b0 : (t1252 == 4) = true := beq_iff_eq.mpr c4
   have c4b1 : (t1252 != 4) = false := bne_eq_false_iff_eq.mpr c4
   clear c4
   (first | rw [c4b0] | (simp only [i64_w, i32_w]; rw [c4b0]) | skip)
   have H' := Aside0.mk H
   clear H
   go_wp2_with (first | ((with_reducible refine gtc 128 rfl ?_); refine zgL 4 Try.func128 (flyballref04_Class.calls k a0 t1252 _ A3.out) (h := ?_); rintro w' ⟨nd, rfl⟩))
   go_meet
   case rel => exact ⟨_, (true), zrl, H', ⟨zle⟩, by repeat (first | exact Drawn0.refl _ | apply Drawn0.step)⟩
  rw [if_neg c4] at H
  have c4b0 : (t1252 == 4) = false := beq_eq_false_iff_ne.mpr c4
  have c4b1 : (t1252 != 4) = true := bne_iff_ne.mpr c4
  (first | rw [c4b0] | (simp only [i64_w, i32_w]; rw [c4b0]) | skip)
  obtain ⟨t1253, A5, H⟩ := zbs H
  try dsimp only at H
  have H' := Aside0.mk H
  clear H
  go_wp2_with (first | ((with_reducible refine gtc 128 rfl ?_); refine zgL 4 Try.func128 (flyballref04_Class.calls k a0 t1252 _ A3.out) (h := ?_); rintro w' ⟨nd, rfl⟩) | (go_at_call 129; (with_reducible refine (flyballref04_Key.calls a0 t1253 _ A5.out).mono ?_); rintro e w' ⟨rfl, ⟨nd, rfl⟩⟩))
  go_meet
  case rel => exact ⟨_, ((t1253 == (-9218868437227405312))), zrl, H', ⟨zle⟩, by repeat (first | exact Drawn0.refl _ | apply Drawn0.step)⟩
 case rest =>
  clear HC2
  try clear c4b0
  try clear c4b1
  obtain ⟨kq, x10_1, rfl, HA, HJ1, ⟨mc1, rfl⟩⟩ := hcut
  cases kq with
  | zero => exact absurd HA.out (by simp [flyballref04_Prev.j0])
  | succ kj1 =>
   have H := HA.out
   clear HA
   simp only [flyballref04_Prev.j0] at H
   by_cases c6 : x10_1 = true
   ·subst c6
    replace H := zit H
    obtain rfl := Option.some.inj H
    go_wp2
    go_ret
    exact ⟨by first | rfl | (simp; done) | (simp [*]; done), by repeat (first | exact Drawn0.refl _ | apply Drawn0.step)⟩
   replace c6 := Bool.eq_false_iff.mpr c6
   subst c6
   replace H := zif H
   obtain ⟨t1254, A7, H⟩ := zbs H
   try dsimp only at H
   obtain ⟨t1255, A8, H⟩ := zbs H
   try dsimp only at H
   obtain ⟨t1256, A9, H⟩ := zbs H
   try dsimp only at H
   obtain rfl := Option.some.inj H
   go_wp2_with (first | ((with_reducible refine gtc 129 rfl ?_); refine zgL 13 Try.func129 (flyballref04_Key.calls a0 t1254 _ A7.out) (h := ?_); rintro w' ⟨nd, rfl⟩) | ((with_reducible refine gtc 129 rfl ?_); refine zgL 16 Try.func129 (flyballref04_Key.calls a0 t1255 _ A8.out) (h := ?_); rintro w' ⟨nd, rfl⟩) | ((with_reducible refine gtc 158 rfl ?_); refine zgL 18 Try.func158 (flyballref04_Of.calls kj1 (wrap64 (t1254 - 1)) (decide (t1255 ≤ 0)) t1256 _ A9.out) (h := ?_); rintro w' ⟨nd, rfl⟩))
   go_ret
   exact ⟨by first | rfl | (simp; done) | (simp [*]; done), by repeat (first | exact Drawn0.refl _ | apply Drawn0.step)⟩
theorem flyballref16_below.calls (k : Nat) (a0_0 : Bool) (a0_1 : Int) (a0_2 : Int) (a1 : Int) (a2 : Bool) (r1 : Bool) (r2 : Int) (r3 : Int) (w : World) (h : flyballref16_below.f k a0_0 a0_1 a0_2 a1 a2 = some (r1, r2, r3)) :
  Calls Try.prog 124 #[.agg #[.bool a0_0, .int .u64 a0_1, .int .u64 a0_2], .int .u64 a1, .bool a2] w fun e w' => e = .returned (.agg #[.bool r1, .int .u64 r2, .int .u64 r3]) ∧ Below w.heap.size w w' := by
 have hu43 := Try.underlying43
 have HB := Aside0.mk (Below.refl w.heap.size w)
 have H := h
 unfold flyballref16_below.f at H
 clear h
 have HC4 := Aside0.mk H
 clear H
 go_enter Try.func124, Try.ntmps124
 go_upto_region 1 with (first | ((with_reducible refine gtd 3 rfl ?_); refine zbx 3 #[.bool a0_0, .int .u64 a0_1, .int .u64 a0_2] 43 (h := ?_); intro gb1257 hg w5 hbox hb; have GW1257 := zkZ hg (zaB (p := Below w.heap.size w _)); replace HB := Aside0.mk (below_step zaB hb); have BK1257 := Aside0.mk (hbox); clear hb hbox hg) | ((with_reducible refine gtd 6 rfl ?_); refine zbx 6 #[.bool false, .int .u64 0, .int .u64 0] 43 (h := ?_); intro gb1258 hg w6 hbox hb; refine zbn1 HB BK1257 hg hb hbox (c := ?_); clear HB BK1257 hb hbox hg; intro GW1258 NB1257_1258 BK1257 HB BK1258))
 (try simp only [Act.put, List.setIfInBounds_toArray, List.set_cons_zero, List.set_cons_succ])
 go_cut [11] (fun v11 wc => ∃ (kq : Nat) (x11_3 : Bool), v11 = .bool x11_3 ∧ Aside0 (flyballref16_below.j0 kq a1 x11_3 a0_0 a0_1 a0_2 = some (r1, r2, r3)) ∧ Aside0 (kq ≤ k) ∧ Aside0 (wc.heap[gb1257]? = some (.cells #[.bool a0_0, .int .u64 a0_1, .int .u64 a0_2] 43 (0, 0))) ∧ Aside0 (wc.heap[gb1258]? = some (.cells #[.bool false, .int .u64 0, .int .u64 0] 43 (0, 0))) ∧ Aside0 (Below w.heap.size w wc))
 case first =>
  have H := HC4.out
  clear HC4
  by_cases c7 : a2 = true
  ·subst c7
   replace H := zit H
   obtain ⟨t1259, A8, H⟩ := zbs H
   try dsimp only at H
   have H' := Aside0.mk H
   clear H
   go_wp2_with (first | (go_at_call 115; (with_reducible refine (flyballref04_Finite.calls k a1 t1259 _ A8.out).mono ?_); rintro e w' ⟨rfl, ⟨nd, rfl⟩⟩))
   go_meet
   case rel => exact ⟨_, (t1259), zrl, H', ⟨zle⟩, ⟨zkq BK1257⟩, ⟨zkq BK1258⟩, ⟨zaB⟩⟩
  replace c7 := Bool.eq_false_iff.mpr c7
  subst c7
  replace H := zif H
  have H' := Aside0.mk H
  clear H
  go_wp2
  go_meet
  case rel => exact ⟨_, (false), zrl, H', ⟨zle⟩, ⟨zkq BK1257⟩, ⟨zkq BK1258⟩, ⟨zaB⟩⟩
 case rest =>
  clear HC4
  obtain ⟨kq, x11_3, rfl, HA, HJ3, BK1257, BK1258, HB⟩ := hcut
  cases kq with
  | zero => exact absurd HA.out (by simp [flyballref16_below.j0])
  | succ kj3 =>
   have H := HA.out
   clear HA
   simp only [flyballref16_below.j0] at H
   by_cases c9 : x11_3 = true
   ·subst c9
    replace H := zit H
    obtain ⟨t1260, A10, H⟩ := zbs H
    try dsimp only at H
    obtain ⟨⟨t1261, t1262, t1263⟩, A11, H⟩ := zbs H
    try dsimp only at H
    simp only [Option.some.injEq, Prod.mk.injEq] at H
    obtain ⟨rfl, rfl, rfl⟩ := H
    go_wp2_with (first | ((with_reducible refine gtc 169 rfl ?_); refine zgL 13 Try.func169 (flyballref04_Prev.calls kj3 a1 t1260 _ A10.out) (h := ?_); rintro w' ⟨nd, rfl⟩; (try (rw [drewN_self wc]; generalize hq_ : World.drewN wc _ = wc; have n0_ : Aside0 (wc.heap[gb1257]? = some (.cells #[.bool a0_0, .int .u64 a0_1, .int .u64 a0_2] 43 (0, 0))) := ⟨by rw [← hq_]; exact (zkq BK1257)⟩; have n1_ : Aside0 (wc.heap[gb1258]? = some (.cells #[.bool false, .int .u64 0, .int .u64 0] 43 (0, 0))) := ⟨by rw [← hq_]; exact (zkq BK1258)⟩; have n2_ : Aside0 (Below w.heap.size w wc) := ⟨by rw [← hq_]; exact zaB⟩; clear BK1257 BK1258 HB hq_; have BK1257 := n0_; have BK1258 := n1_; have HB := n2_; clear n0_ n1_ n2_)); refine zt1 NB1257_1258 fun _ _ => ?_; refine zu3 BK1257 fun _ _ _ _ _ _ => ?_) | ((with_reducible refine gtc 48 rfl ?_); refine zgL 17 Try.func48 (flyballref16_Meet.calls kj3 a0_0 a0_1 a0_2 false 18442240474082181120 t1260 t1261 t1262 t1263 _ A11.out) (h := ?_); rintro w14 hb; refine zcn2 HB BK1257 BK1258 hb (c := ?_); clear HB BK1257 BK1258 hb; intro BK1257 BK1258 HB; refine zu3 BK1258 fun _ _ _ _ _ _ => ?_))
    refine bodyPost_ret (results_cell_row rfl _ _ gb1258 43 #[.bool t1261, .int .u64 t1262, .int .u64 t1263] (0, 0) _ rfl (blk_put (cs := #[.bool t1261, .int .u64 t1262, .int .u64 0]) (blk_put (cs := #[.bool t1261, .int .u64 0, .int .u64 0]) (blk_put (zkq BK1258) 0 _ rfl) 1 _ rfl) 2 _ rfl) Try.underlying43 rfl (by kernel_rfl)) rfl ?_
    exact ⟨zaE, zaB⟩
   replace c9 := Bool.eq_false_iff.mpr c9
   subst c9
   replace H := zif H
   obtain ⟨⟨t1264, t1265, t1266⟩, A16, H⟩ := zbs H
   try dsimp only at H
   simp only [Option.some.injEq, Prod.mk.injEq] at H
   obtain ⟨rfl, rfl, rfl⟩ := H
   refine zt1 NB1257_1258 fun _ _ => ?_
   refine zu3 BK1257 fun _ _ _ _ _ _ => ?_
   go_wp2_with (first | ((with_reducible refine gtc 48 rfl ?_); refine zgL 17 Try.func48 (flyballref16_Meet.calls kj3 a0_0 a0_1 a0_2 false 18442240474082181120 a1 t1264 t1265 t1266 _ A16.out) (h := ?_); rintro w19 hb; refine zcn2 HB BK1257 BK1258 hb (c := ?_); clear HB BK1257 BK1258 hb; intro BK1257 BK1258 HB; refine zu3 BK1258 fun _ _ _ _ _ _ => ?_))
   refine bodyPost_ret (results_cell_row rfl _ _ gb1258 43 #[.bool t1264, .int .u64 t1265, .int .u64 t1266] (0, 0) _ rfl (blk_put (cs := #[.bool t1264, .int .u64 t1265, .int .u64 0]) (blk_put (cs := #[.bool t1264, .int .u64 0, .int .u64 0]) (blk_put (zkq BK1258) 0 _ rfl) 1 _ rfl) 2 _ rfl) Try.underlying43 rfl (by kernel_rfl)) rfl ?_
   exact ⟨zaE, zaB⟩
theorem flyballref04_Next.calls (k : Nat) (a0 : Int) (r : Int) (w : World) (h : flyballref04_Next.f k a0 = some r) :
  Calls Try.prog 170 #[.int .u64 a0] w fun e w' => e = .returned (.int .u64 r) ∧ Drawn0 w w' := by
 have H := h
 unfold flyballref04_Next.f at H
 clear h
 have HC2 := Aside0.mk H
 clear H
 go_enter Try.func170, Try.ntmps170
 go_upto_region 1 with (fail)
 go_cut [10] (fun v10 wc => ∃ (kq : Nat) (x10_1 : Bool), v10 = .bool x10_1 ∧ Aside0 (flyballref04_Next.j0 kq a0 x10_1 = some r) ∧ Aside0 (kq ≤ k) ∧ Drawn0 w wc)
 case first =>
  have H := HC2.out
  clear HC2
  obtain ⟨t1267, A3, H⟩ := zbs H
  try dsimp only at H
  by_cases c4 : t1267 = 4
  ·rw [if_pos c4] at H
   have c4b0 : (t1267 == 4) = true := beq_iff_eq.mpr c4
   have c4b1 : (t1267 != 4) = false := bne_eq_false_iff_eq.mpr c4
   clear c4
   (first | rw [c4b0] | (simp only [i64_w, i32_w]; rw [c4b0]) | skip)
   have H' := Aside0.mk H
   clear H
   go_wp2_with (first | ((with_reducible refine gtc 128 rfl ?_); refine zgL 4 Try.func128 (flyballref04_Class.calls k a0 t1267 _ A3.out) (h := ?_); rintro w' ⟨nd, rfl⟩))
   go_meet
   case rel => exact ⟨_, (true), zrl, H', ⟨zle⟩, by repeat (first | exact Drawn0.refl _ | apply Drawn0.step)⟩
  rw [if_neg c4] at H
  have c4b0 : (t1267 == 4) = false := beq_eq_false_iff_ne.mpr c4
  have c4b1 : (t1267 != 4) = true := bne_iff_ne.mpr c4
  (first | rw [c4b0] | (simp only [i64_w, i32_w]; rw [c4b0]) | skip)
  obtain ⟨t1268, A5, H⟩ := zbs H
  try dsimp only at H
  have H' := Aside0.mk H
  clear H
  go_wp2_with (first | ((with_reducible refine gtc 128 rfl ?_); refine zgL 4 Try.func128 (flyballref04_Class.calls k a0 t1267 _ A3.out) (h := ?_); rintro w' ⟨nd, rfl⟩) | (go_at_call 129; (with_reducible refine (flyballref04_Key.calls a0 t1268 _ A5.out).mono ?_); rintro e w' ⟨rfl, ⟨nd, rfl⟩⟩))
  go_meet
  case rel => exact ⟨_, ((t1268 == 9218868437227405312)), zrl, H', ⟨zle⟩, by repeat (first | exact Drawn0.refl _ | apply Drawn0.step)⟩
 case rest =>
  clear HC2
  try clear c4b0
  try clear c4b1
  obtain ⟨kq, x10_1, rfl, HA, HJ1, ⟨mc1, rfl⟩⟩ := hcut
  cases kq with
  | zero => exact absurd HA.out (by simp [flyballref04_Next.j0])
  | succ kj1 =>
   have H := HA.out
   clear HA
   simp only [flyballref04_Next.j0] at H
   by_cases c6 : x10_1 = true
   ·subst c6
    replace H := zit H
    obtain rfl := Option.some.inj H
    go_wp2
    go_ret
    exact ⟨by first | rfl | (simp; done) | (simp [*]; done), by repeat (first | exact Drawn0.refl _ | apply Drawn0.step)⟩
   replace c6 := Bool.eq_false_iff.mpr c6
   subst c6
   replace H := zif H
   obtain ⟨t1269, A7, H⟩ := zbs H
   try dsimp only at H
   obtain ⟨t1270, A8, H⟩ := zbs H
   try dsimp only at H
   obtain ⟨t1271, A9, H⟩ := zbs H
   try dsimp only at H
   obtain rfl := Option.some.inj H
   go_wp2_with (first | ((with_reducible refine gtc 129 rfl ?_); refine zgL 13 Try.func129 (flyballref04_Key.calls a0 t1269 _ A7.out) (h := ?_); rintro w' ⟨nd, rfl⟩) | ((with_reducible refine gtc 129 rfl ?_); refine zgL 16 Try.func129 (flyballref04_Key.calls a0 t1270 _ A8.out) (h := ?_); rintro w' ⟨nd, rfl⟩) | ((with_reducible refine gtc 158 rfl ?_); refine zgL 18 Try.func158 (flyballref04_Of.calls kj1 (wrap64 (t1269 + 1)) (decide (t1270 < 0)) t1271 _ A9.out) (h := ?_); rintro w' ⟨nd, rfl⟩))
   go_ret
   exact ⟨by first | rfl | (simp; done) | (simp [*]; done), by repeat (first | exact Drawn0.refl _ | apply Drawn0.step)⟩
theorem flyballref16_from.calls (k : Nat) (a0_0 : Bool) (a0_1 : Int) (a0_2 : Int) (a1 : Int) (a2 : Bool) (r1 : Bool) (r2 : Int) (r3 : Int) (w : World) (h : flyballref16_from.f k a0_0 a0_1 a0_2 a1 a2 = some (r1, r2, r3)) :
  Calls Try.prog 125 #[.agg #[.bool a0_0, .int .u64 a0_1, .int .u64 a0_2], .int .u64 a1, .bool a2] w fun e w' => e = .returned (.agg #[.bool r1, .int .u64 r2, .int .u64 r3]) ∧ Below w.heap.size w w' := by
 have hu43 := Try.underlying43
 have HB := Aside0.mk (Below.refl w.heap.size w)
 have H := h
 unfold flyballref16_from.f at H
 clear h
 have HC4 := Aside0.mk H
 clear H
 go_enter Try.func125, Try.ntmps125
 go_upto_region 1 with (first | ((with_reducible refine gtd 3 rfl ?_); refine zbx 3 #[.bool a0_0, .int .u64 a0_1, .int .u64 a0_2] 43 (h := ?_); intro gb1272 hg w5 hbox hb; have GW1272 := zkZ hg (zaB (p := Below w.heap.size w _)); replace HB := Aside0.mk (below_step zaB hb); have BK1272 := Aside0.mk (hbox); clear hb hbox hg) | ((with_reducible refine gtd 6 rfl ?_); refine zbx 6 #[.bool false, .int .u64 0, .int .u64 0] 43 (h := ?_); intro gb1273 hg w6 hbox hb; refine zbn1 HB BK1272 hg hb hbox (c := ?_); clear HB BK1272 hb hbox hg; intro GW1273 NB1272_1273 BK1272 HB BK1273))
 (try simp only [Act.put, List.setIfInBounds_toArray, List.set_cons_zero, List.set_cons_succ])
 go_cut [11] (fun v11 wc => ∃ (kq : Nat) (x11_3 : Bool), v11 = .bool x11_3 ∧ Aside0 (flyballref16_from.j0 kq a1 x11_3 a0_0 a0_1 a0_2 = some (r1, r2, r3)) ∧ Aside0 (kq ≤ k) ∧ Aside0 (wc.heap[gb1272]? = some (.cells #[.bool a0_0, .int .u64 a0_1, .int .u64 a0_2] 43 (0, 0))) ∧ Aside0 (wc.heap[gb1273]? = some (.cells #[.bool false, .int .u64 0, .int .u64 0] 43 (0, 0))) ∧ Aside0 (Below w.heap.size w wc))
 case first =>
  have H := HC4.out
  clear HC4
  by_cases c7 : a2 = true
  ·subst c7
   replace H := zit H
   obtain ⟨t1274, A8, H⟩ := zbs H
   try dsimp only at H
   have H' := Aside0.mk H
   clear H
   go_wp2_with (first | (go_at_call 115; (with_reducible refine (flyballref04_Finite.calls k a1 t1274 _ A8.out).mono ?_); rintro e w' ⟨rfl, ⟨nd, rfl⟩⟩))
   go_meet
   case rel => exact ⟨_, (t1274), zrl, H', ⟨zle⟩, ⟨zkq BK1272⟩, ⟨zkq BK1273⟩, ⟨zaB⟩⟩
  replace c7 := Bool.eq_false_iff.mpr c7
  subst c7
  replace H := zif H
  have H' := Aside0.mk H
  clear H
  go_wp2
  go_meet
  case rel => exact ⟨_, (false), zrl, H', ⟨zle⟩, ⟨zkq BK1272⟩, ⟨zkq BK1273⟩, ⟨zaB⟩⟩
 case rest =>
  clear HC4
  obtain ⟨kq, x11_3, rfl, HA, HJ3, BK1272, BK1273, HB⟩ := hcut
  cases kq with
  | zero => exact absurd HA.out (by simp [flyballref16_from.j0])
  | succ kj3 =>
   have H := HA.out
   clear HA
   simp only [flyballref16_from.j0] at H
   by_cases c9 : x11_3 = true
   ·subst c9
    replace H := zit H
    obtain ⟨t1275, A10, H⟩ := zbs H
    try dsimp only at H
    obtain ⟨⟨t1276, t1277, t1278⟩, A11, H⟩ := zbs H
    try dsimp only at H
    simp only [Option.some.injEq, Prod.mk.injEq] at H
    obtain ⟨rfl, rfl, rfl⟩ := H
    go_wp2_with (first | ((with_reducible refine gtc 170 rfl ?_); refine zgL 13 Try.func170 (flyballref04_Next.calls kj3 a1 t1275 _ A10.out) (h := ?_); rintro w' ⟨nd, rfl⟩; (try (rw [drewN_self wc]; generalize hq_ : World.drewN wc _ = wc; have n0_ : Aside0 (wc.heap[gb1272]? = some (.cells #[.bool a0_0, .int .u64 a0_1, .int .u64 a0_2] 43 (0, 0))) := ⟨by rw [← hq_]; exact (zkq BK1272)⟩; have n1_ : Aside0 (wc.heap[gb1273]? = some (.cells #[.bool false, .int .u64 0, .int .u64 0] 43 (0, 0))) := ⟨by rw [← hq_]; exact (zkq BK1273)⟩; have n2_ : Aside0 (Below w.heap.size w wc) := ⟨by rw [← hq_]; exact zaB⟩; clear BK1272 BK1273 HB hq_; have BK1272 := n0_; have BK1273 := n1_; have HB := n2_; clear n0_ n1_ n2_)); refine zt1 NB1272_1273 fun _ _ => ?_; refine zu3 BK1272 fun _ _ _ _ _ _ => ?_) | ((with_reducible refine gtc 48 rfl ?_); refine zgL 17 Try.func48 (flyballref16_Meet.calls kj3 a0_0 a0_1 a0_2 false t1275 9218868437227405312 t1276 t1277 t1278 _ A11.out) (h := ?_); rintro w14 hb; refine zcn2 HB BK1272 BK1273 hb (c := ?_); clear HB BK1272 BK1273 hb; intro BK1272 BK1273 HB; refine zu3 BK1273 fun _ _ _ _ _ _ => ?_))
    refine bodyPost_ret (results_cell_row rfl _ _ gb1273 43 #[.bool t1276, .int .u64 t1277, .int .u64 t1278] (0, 0) _ rfl (blk_put (cs := #[.bool t1276, .int .u64 t1277, .int .u64 0]) (blk_put (cs := #[.bool t1276, .int .u64 0, .int .u64 0]) (blk_put (zkq BK1273) 0 _ rfl) 1 _ rfl) 2 _ rfl) Try.underlying43 rfl (by kernel_rfl)) rfl ?_
    exact ⟨zaE, zaB⟩
   replace c9 := Bool.eq_false_iff.mpr c9
   subst c9
   replace H := zif H
   obtain ⟨⟨t1279, t1280, t1281⟩, A16, H⟩ := zbs H
   try dsimp only at H
   simp only [Option.some.injEq, Prod.mk.injEq] at H
   obtain ⟨rfl, rfl, rfl⟩ := H
   refine zt1 NB1272_1273 fun _ _ => ?_
   refine zu3 BK1272 fun _ _ _ _ _ _ => ?_
   go_wp2_with (first | ((with_reducible refine gtc 48 rfl ?_); refine zgL 17 Try.func48 (flyballref16_Meet.calls kj3 a0_0 a0_1 a0_2 false a1 9218868437227405312 t1279 t1280 t1281 _ A16.out) (h := ?_); rintro w19 hb; refine zcn2 HB BK1272 BK1273 hb (c := ?_); clear HB BK1272 BK1273 hb; intro BK1272 BK1273 HB; refine zu3 BK1273 fun _ _ _ _ _ _ => ?_))
   refine bodyPost_ret (results_cell_row rfl _ _ gb1273 43 #[.bool t1279, .int .u64 t1280, .int .u64 t1281] (0, 0) _ rfl (blk_put (cs := #[.bool t1279, .int .u64 t1280, .int .u64 0]) (blk_put (cs := #[.bool t1279, .int .u64 0, .int .u64 0]) (blk_put (zkq BK1273) 0 _ rfl) 1 _ rfl) 2 _ rfl) Try.underlying43 rfl (by kernel_rfl)) rfl ?_
   exact ⟨zaE, zaB⟩
theorem flyballref16_without.calls (k : Nat) (a0_0 : Bool) (a0_1 : Int) (a0_2 : Int) (a1 : Int) (r1 : Bool) (r2 : Int) (r3 : Int) (w : World) (h : flyballref16_without.f k a0_0 a0_1 a0_2 a1 = some (r1, r2, r3)) :
  Calls Try.prog 126 #[.agg #[.bool a0_0, .int .u64 a0_1, .int .u64 a0_2], .int .u64 a1] w fun e w' => e = .returned (.agg #[.bool r1, .int .u64 r2, .int .u64 r3]) ∧ Below w.heap.size w w' := by
 have hu43 := Try.underlying43
 have HB := Aside0.mk (Below.refl w.heap.size w)
 have H := h
 unfold flyballref16_without.f at H
 clear h
 have HC3 := Aside0.mk H
 clear H
 go_enter Try.func126, Try.ntmps126
 go_upto_region 1 with (first | ((with_reducible refine gtd 2 rfl ?_); refine zbx 2 #[.bool a0_0, .int .u64 a0_1, .int .u64 a0_2] 43 (h := ?_); intro gb1282 hg w4 hbox hb; have GW1282 := zkZ hg (zaB (p := Below w.heap.size w _)); replace HB := Aside0.mk (below_step zaB hb); have BK1282 := Aside0.mk (hbox); clear hb hbox hg) | ((with_reducible refine gtd 4 rfl ?_); refine zbx 4 #[.bool false, .int .u64 0, .int .u64 0] 43 (h := ?_); intro gb1283 hg w5 hbox hb; refine zbn1 HB BK1282 hg hb hbox (c := ?_); clear HB BK1282 hb hbox hg; intro GW1283 NB1282_1283 BK1282 HB BK1283))
 (try simp only [Act.put, List.setIfInBounds_toArray, List.set_cons_zero, List.set_cons_succ])
 go_cut [14] (fun v14 wc => ∃ (kq : Nat) (x14_2 : Bool), v14 = .bool x14_2 ∧ Aside0 (flyballref16_without.j0 kq a1 x14_2 a0_0 a0_1 a0_2 = some (r1, r2, r3)) ∧ Aside0 (kq ≤ k) ∧ Aside0 (wc.heap[gb1282]? = some (.cells #[.bool a0_0, .int .u64 a0_1, .int .u64 a0_2] 43 (0, 0))) ∧ Aside0 (wc.heap[gb1283]? = some (.cells #[.bool false, .int .u64 0, .int .u64 0] 43 (0, 0))) ∧ Aside0 (Below w.heap.size w wc))
 case first =>
  have H := HC3.out
  clear HC3
  by_cases c6 : a0_1 = a1
  ·rw [if_pos c6] at H
   have c6b0 : (a0_1 == a1) = true := beq_iff_eq.mpr c6
   have c6b1 : (a0_1 != a1) = false := bne_eq_false_iff_eq.mpr c6
   clear c6
   (first | rw [c6b0] | (simp only [i64_w, i32_w]; rw [c6b0]) | skip)
   have H' := Aside0.mk H
   clear H
   refine zt1 NB1282_1283 fun _ _ => ?_
   refine zu3 BK1282 fun z8_0 z8_1 z8_2 f8_0 f8_1 f8_2 => ?_
   go_wp2
   go_meet
   case rel => exact ⟨_, ((a0_2 == a1)), zrl, H', ⟨zle⟩, ⟨zkq BK1282⟩, ⟨zkq BK1283⟩, ⟨zaB⟩⟩
  rw [if_neg c6] at H
  have c6b0 : (a0_1 == a1) = false := beq_eq_false_iff_ne.mpr c6
  have c6b1 : (a0_1 != a1) = true := bne_iff_ne.mpr c6
  (first | rw [c6b0] | (simp only [i64_w, i32_w]; rw [c6b0]) | skip)
  have H' := Aside0.mk H
  clear H
  refine zt1 NB1282_1283 fun _ _ => ?_
  refine zu3 BK1282 fun z10_0 z10_1 z10_2 f10_0 f10_1 f10_2 => ?_
  go_wp2
  go_meet
  case rel => exact ⟨_, (false), zrl, H', ⟨zle⟩, ⟨zkq BK1282⟩, ⟨zkq BK1283⟩, ⟨zaB⟩⟩
 case rest =>
  clear HC3
  try clear c6b0
  try clear c6b1
  try clear z10_0 z10_1 z10_2 f10_0 f10_1 f10_2
  try clear z8_0 z8_1 z8_2 f8_0 f8_1 f8_2
  obtain ⟨kq, x14_2, rfl, HA, HJ2, BK1282, BK1283, HB⟩ := hcut
  cases kq with
  | zero => exact absurd HA.out (by simp [flyballref16_without.j0])
  | succ kj2 =>
   have H := HA.out
   clear HA
   simp only [flyballref16_without.j0] at H
   by_cases c11 : x14_2 = true
   ·subst c11
    replace H := zit H
    simp only [Option.some.injEq, Prod.mk.injEq] at H
    obtain ⟨rfl, rfl, rfl⟩ := H
    refine zt1 NB1282_1283 fun _ _ => ?_
    refine zu3 BK1283 fun _ _ _ _ _ _ => ?_
    go_wp2
    refine bodyPost_ret (results_cell_row rfl _ _ gb1283 43 #[.bool true, .int .u64 0, .int .u64 0] (0, 0) _ rfl (blk_put (cs := #[.bool true, .int .u64 0, .int .u64 0]) (blk_put (cs := #[.bool true, .int .u64 0, .int .u64 0]) (blk_put (zkq BK1283) 0 _ rfl) 1 _ rfl) 2 _ rfl) Try.underlying43 rfl (by kernel_rfl)) rfl ?_
    exact ⟨zaE, zaB⟩
   replace c11 := Bool.eq_false_iff.mpr c11
   subst c11
   replace H := zif H
   by_cases c14 : a0_1 = a1
   ·rw [if_pos c14] at H
    have c14b0 : (a0_1 == a1) = true := beq_iff_eq.mpr c14
    have c14b1 : (a0_1 != a1) = false := bne_eq_false_iff_eq.mpr c14
    clear c14
    obtain ⟨⟨t1284, t1285, t1286⟩, A15, H⟩ := zbs H
    try dsimp only at H
    simp only [Option.some.injEq, Prod.mk.injEq] at H
    obtain ⟨rfl, rfl, rfl⟩ := H
    refine zt1 NB1282_1283 fun _ _ => ?_
    refine zu3 BK1282 fun _ _ _ _ _ _ => ?_
    go_wp2_with (first | ((with_reducible refine gtc 125 rfl ?_); refine zgL 22 Try.func125 (flyballref16_from.calls kj2 a0_0 a0_1 a0_2 a1 true t1284 t1285 t1286 _ A15.out) (h := ?_); rintro w18 hb; refine zcn2 HB BK1282 BK1283 hb (c := ?_); clear HB BK1282 BK1283 hb; intro BK1282 BK1283 HB; refine zu3 BK1283 fun _ _ _ _ _ _ => ?_))
    refine bodyPost_ret (results_cell_row rfl _ _ gb1283 43 #[.bool t1284, .int .u64 t1285, .int .u64 t1286] (0, 0) _ rfl (blk_put (cs := #[.bool t1284, .int .u64 t1285, .int .u64 0]) (blk_put (cs := #[.bool t1284, .int .u64 0, .int .u64 0]) (blk_put (zkq BK1283) 0 _ rfl) 1 _ rfl) 2 _ rfl) Try.underlying43 rfl (by kernel_rfl)) rfl ?_
    exact ⟨zaE, zaB⟩
   rw [if_neg c14] at H
   have c14b0 : (a0_1 == a1) = false := beq_eq_false_iff_ne.mpr c14
   have c14b1 : (a0_1 != a1) = true := bne_iff_ne.mpr c14
   by_cases c20 : a0_2 = a1
   ·rw [if_pos c20] at H
    have c20b0 : (a0_2 == a1) = true := beq_iff_eq.mpr c20
    have c20b1 : (a0_2 != a1) = false := bne_eq_false_iff_eq.mpr c20
    clear c20
    obtain ⟨⟨t1287, t1288, t1289⟩, A21, H⟩ := zbs H
    try dsimp only at H
    simp only [Option.some.injEq, Prod.mk.injEq] at H
    obtain ⟨rfl, rfl, rfl⟩ := H
    refine zt1 NB1282_1283 fun _ _ => ?_
    refine zu3 BK1282 fun _ _ _ _ _ _ => ?_
    go_wp2_with (first | ((with_reducible refine gtc 124 rfl ?_); refine zgL 29 Try.func124 (flyballref16_below.calls kj2 a0_0 a0_1 a0_2 a1 true t1287 t1288 t1289 _ A21.out) (h := ?_); rintro w24 hb; refine zcn2 HB BK1282 BK1283 hb (c := ?_); clear HB BK1282 BK1283 hb; intro BK1282 BK1283 HB; refine zu3 BK1283 fun _ _ _ _ _ _ => ?_))
    refine bodyPost_ret (results_cell_row rfl _ _ gb1283 43 #[.bool t1287, .int .u64 t1288, .int .u64 t1289] (0, 0) _ rfl (blk_put (cs := #[.bool t1287, .int .u64 t1288, .int .u64 0]) (blk_put (cs := #[.bool t1287, .int .u64 0, .int .u64 0]) (blk_put (zkq BK1283) 0 _ rfl) 1 _ rfl) 2 _ rfl) Try.underlying43 rfl (by kernel_rfl)) rfl ?_
    exact ⟨zaE, zaB⟩
   rw [if_neg c20] at H
   have c20b0 : (a0_2 == a1) = false := beq_eq_false_iff_ne.mpr c20
   have c20b1 : (a0_2 != a1) = true := bne_iff_ne.mpr c20
   simp only [Option.some.injEq, Prod.mk.injEq] at H
   obtain ⟨rfl, rfl, rfl⟩ := H
   refine zt1 NB1282_1283 fun _ _ => ?_
   refine zu3 BK1282 fun _ _ _ _ _ _ => ?_
   refine zu3 BK1283 fun _ _ _ _ _ _ => ?_
   go_wp2
   refine bodyPost_ret (results_cell_row rfl _ _ gb1283 43 #[.bool a0_0, .int .u64 a0_1, .int .u64 a0_2] (0, 0) _ rfl (blk_put (cs := #[.bool a0_0, .int .u64 a0_1, .int .u64 0]) (blk_put (cs := #[.bool a0_0, .int .u64 0, .int .u64 0]) (blk_put (zkq BK1283) 0 _ rfl) 1 _ rfl) 2 _ rfl) Try.underlying43 rfl (by kernel_rfl)) rfl ?_
   exact ⟨zaE, zaB⟩
theorem flyballref16_Test.calls (k : Nat) (a0 : Int) (a1_0 : Bool) (a1_1 : Int) (a1_2 : Int) (a2_0 : Bool) (a2_1 : Int) (a2_2 : Int) (r1 : Bool) (r2 : Int) (r3 : Int) (r4 : Bool) (r5 : Int) (r6 : Int) (w : World) (h : flyballref16_Test.f k a0 a1_0 a1_1 a1_2 a2_0 a2_1 a2_2 = some (r1, r2, r3, r4, r5, r6)) :
  Calls Try.prog 53 #[.int .u8 a0, .agg #[.bool a1_0, .int .u64 a1_1, .int .u64 a1_2], .agg #[.bool a2_0, .int .u64 a2_1, .int .u64 a2_2]] w fun e w' => e = .returned (.tuple #[.agg #[.bool r1, .int .u64 r2, .int .u64 r3], .agg #[.bool r4, .int .u64 r5, .int .u64 r6]]) ∧ Below w.heap.size w w' := by
 have hu43 := Try.underlying43
 have HB := Aside0.mk (Below.refl w.heap.size w)
 have H := h
 unfold flyballref16_Test.f at H
 clear h
 obtain ⟨⟨t1294, t1295, t1296⟩, A4, H⟩ := zbs H
 try dsimp only at H
 obtain ⟨⟨t1298, t1299, t1300⟩, A5, H⟩ := zbs H
 try dsimp only at H
 have HC6 := Aside0.mk H
 clear H
 go_enter Try.func53, Try.ntmps53
 go_upto_region 4 with (first | ((with_reducible refine gtd 4 rfl ?_); refine zbx 4 #[.bool a1_0, .int .u64 a1_1, .int .u64 a1_2] 43 (h := ?_); intro gb1290 hg w7 hbox hb; have GW1290 := zkZ hg (zaB (p := Below w.heap.size w _)); replace HB := Aside0.mk (below_step zaB hb); have BK1290 := Aside0.mk (hbox); clear hb hbox hg) | ((with_reducible refine gtd 5 rfl ?_); refine zbx 5 #[.bool a2_0, .int .u64 a2_1, .int .u64 a2_2] 43 (h := ?_); intro gb1291 hg w8 hbox hb; refine zbn1 HB BK1290 hg hb hbox (c := ?_); clear HB BK1290 hb hbox hg; intro GW1291 NB1290_1291 BK1290 HB BK1291) | ((with_reducible refine gtd 6 rfl ?_); refine zbx 6 #[.bool false, .int .u64 0, .int .u64 0] 43 (h := ?_); intro gb1292 hg w9 hbox hb; refine zbn2 HB BK1290 BK1291 hg hb hbox (c := ?_); clear HB BK1290 BK1291 hb hbox hg; intro GW1292 NB1290_1292 NB1291_1292 BK1290 BK1291 HB BK1292) | ((with_reducible refine gtd 7 rfl ?_); refine zbx 7 #[.bool false, .int .u64 0, .int .u64 0] 43 (h := ?_); intro gb1293 hg w10 hbox hb; refine zbn3 HB BK1290 BK1291 BK1292 hg hb hbox (c := ?_); clear HB BK1290 BK1291 BK1292 hb hbox hg; intro GW1293 NB1290_1293 NB1291_1293 NB1292_1293 BK1290 BK1291 BK1292 HB BK1293; refine zt3 NB1290_1291 NB1290_1292 NB1290_1293 fun _ _ _ _ _ _ => ?_; refine zu3 BK1290 fun z14_0 z14_1 z14_2 f14_0 f14_1 f14_2 => ?_) | ((with_reducible refine gtc 49 rfl ?_); refine zgL 14 Try.func49 (flyballref16_Norm.calls k a1_0 a1_1 a1_2 t1294 t1295 t1296 _ A4.out) (h := ?_); rintro w15 hb; refine zcn4 HB BK1290 BK1291 BK1292 BK1293 hb (c := ?_); clear HB BK1290 BK1291 BK1292 BK1293 hb; intro BK1290 BK1291 BK1292 BK1293 HB) | ((with_reducible refine gtd 8 rfl ?_); refine zbx 8 #[.bool false, .int .u64 0, .int .u64 0] 43 (h := ?_); intro gb1297 hg w16 hbox hb; refine zbn4 HB BK1290 BK1291 BK1292 BK1293 hg hb hbox (c := ?_); clear HB BK1290 BK1291 BK1292 BK1293 hb hbox hg; intro GW1297 NB1290_1297 NB1291_1297 NB1292_1297 NB1293_1297 BK1290 BK1291 BK1292 BK1293 HB BK1297; refine zt4 NB1290_1297 NB1291_1297 NB1292_1297 NB1293_1297 fun _ _ _ _ _ _ _ _ => ?_; refine zu3 BK1297 fun z21_0 z21_1 z21_2 f21_0 f21_1 f21_2 => ?_; refine zt2 NB1291_1292 NB1291_1293 fun _ _ _ _ => ?_; refine zu3 BK1291 fun z24_0 z24_1 z24_2 f24_0 f24_1 f24_2 => ?_) | ((with_reducible refine gtc 49 rfl ?_); refine zgL 16 Try.func49 (flyballref16_Norm.calls k a2_0 a2_1 a2_2 t1298 t1299 t1300 _ A5.out) (h := ?_); rintro w25 hb; replace BK1290 := Aside0.mk (blk_below (zkf (zkf (zkf BK1290.out NB1290_1297.out _) NB1290_1297.out _) NB1290_1297.out _) hb); replace BK1291 := Aside0.mk (blk_below (zkf (zkf (zkf BK1291.out NB1291_1297.out _) NB1291_1297.out _) NB1291_1297.out _) hb); replace BK1292 := Aside0.mk (blk_below (zkf (zkf (zkf BK1292.out NB1292_1297.out _) NB1292_1297.out _) NB1292_1297.out _) hb); replace BK1293 := Aside0.mk (blk_below (zkf (zkf (zkf BK1293.out NB1293_1297.out _) NB1293_1297.out _) NB1293_1297.out _) hb); replace BK1297 := Aside0.mk (blk_below (o := .cells #[.bool t1294, .int .u64 t1295, .int .u64 t1296] 43 (0, 0)) (blk_put (cs := #[.bool t1294, .int .u64 t1295, .int .u64 0]) (blk_put (cs := #[.bool t1294, .int .u64 0, .int .u64 0]) (blk_put BK1297.out 0 _ rfl) 1 _ rfl) 2 _ rfl) hb); replace HB := Aside0.mk (below_step (below_set (below_set (below_set HB.out GW1297.out) GW1297.out) GW1297.out) hb); (try clear hb)) | ((with_reducible refine gtd 9 rfl ?_); refine zbx 9 #[.bool false, .int .u64 0, .int .u64 0] 43 (h := ?_); intro gb1301 hg w26 hbox hb; refine zbn5 HB BK1290 BK1291 BK1292 BK1293 BK1297 hg hb hbox (c := ?_); clear HB BK1290 BK1291 BK1292 BK1293 BK1297 hb hbox hg; intro GW1301 NB1290_1301 NB1291_1301 NB1292_1301 NB1293_1301 NB1297_1301 BK1290 BK1291 BK1292 BK1293 BK1297 HB BK1301; refine zt5 NB1290_1301 NB1291_1301 NB1292_1301 NB1293_1301 NB1297_1301 fun _ _ _ _ _ _ _ _ _ _ => ?_; refine zu3 BK1301 fun z32_0 z32_1 z32_2 f32_0 f32_1 f32_2 => ?_) | ((with_reducible refine gtd 10 rfl ?_); refine zbx 10 #[.bool false, .int .u64 0, .int .u64 0] 43 (h := ?_); intro gb1302 hg w33 hbox hb; have GW1302 := zkZ hg (below_set (below_set (below_set HB.out GW1301.out) GW1301.out) GW1301.out); have NB1290_1302 := zkL hg (zkf (zkf (zkf BK1290.out NB1290_1301.out _) NB1290_1301.out _) NB1290_1301.out _); have NB1291_1302 := zkL hg (zkf (zkf (zkf BK1291.out NB1291_1301.out _) NB1291_1301.out _) NB1291_1301.out _); have NB1292_1302 := zkL hg (zkf (zkf (zkf BK1292.out NB1292_1301.out _) NB1292_1301.out _) NB1292_1301.out _); have NB1293_1302 := zkL hg (zkf (zkf (zkf BK1293.out NB1293_1301.out _) NB1293_1301.out _) NB1293_1301.out _); have NB1297_1302 := zkL hg (zkf (zkf (zkf BK1297.out NB1297_1301.out _) NB1297_1301.out _) NB1297_1301.out _); have NB1301_1302 := zkL hg (ob := .cells #[.bool t1298, .int .u64 t1299, .int .u64 t1300] 43 (0, 0)) (blk_put (cs := #[.bool t1298, .int .u64 t1299, .int .u64 0]) (blk_put (cs := #[.bool t1298, .int .u64 0, .int .u64 0]) (blk_put BK1301.out 0 _ rfl) 1 _ rfl) 2 _ rfl); replace BK1290 := Aside0.mk (blk_below (zkf (zkf (zkf BK1290.out NB1290_1301.out _) NB1290_1301.out _) NB1290_1301.out _) hb); replace BK1291 := Aside0.mk (blk_below (zkf (zkf (zkf BK1291.out NB1291_1301.out _) NB1291_1301.out _) NB1291_1301.out _) hb); replace BK1292 := Aside0.mk (blk_below (zkf (zkf (zkf BK1292.out NB1292_1301.out _) NB1292_1301.out _) NB1292_1301.out _) hb); replace BK1293 := Aside0.mk (blk_below (zkf (zkf (zkf BK1293.out NB1293_1301.out _) NB1293_1301.out _) NB1293_1301.out _) hb); replace BK1297 := Aside0.mk (blk_below (zkf (zkf (zkf BK1297.out NB1297_1301.out _) NB1297_1301.out _) NB1297_1301.out _) hb); replace BK1301 := Aside0.mk (blk_below (o := .cells #[.bool t1298, .int .u64 t1299, .int .u64 t1300] 43 (0, 0)) (blk_put (cs := #[.bool t1298, .int .u64 t1299, .int .u64 0]) (blk_put (cs := #[.bool t1298, .int .u64 0, .int .u64 0]) (blk_put BK1301.out 0 _ rfl) 1 _ rfl) 2 _ rfl) hb); replace HB := Aside0.mk (below_step (below_set (below_set (below_set HB.out GW1301.out) GW1301.out) GW1301.out) hb); have BK1302 := Aside0.mk (hbox); clear hb hbox hg; refine zt6 NB1290_1302 NB1291_1302 NB1292_1302 NB1293_1302 NB1297_1302 NB1301_1302 fun _ _ _ _ _ _ _ _ _ _ _ _ => ?_; refine zu3 BK1302 fun z40_0 z40_1 z40_2 f40_0 f40_1 f40_2 => ?_))
 (try simp only [Act.put, List.setIfInBounds_toArray, List.set_cons_zero, List.set_cons_succ])
 go_cut [23] (fun v23 wc => ∃ (kq : Nat) (x23_5 : Bool), v23 = .bool x23_5 ∧ Aside0 (flyballref16_Test.j0 kq a0 x23_5 t1294 t1295 t1296 t1298 t1299 t1300 true 0 0 = some (r1, r2, r3, r4, r5, r6)) ∧ Aside0 (kq ≤ k) ∧ Aside0 (wc.heap[gb1290]? = some (.cells #[.bool a1_0, .int .u64 a1_1, .int .u64 a1_2] 43 (0, 0))) ∧ Aside0 (wc.heap[gb1291]? = some (.cells #[.bool a2_0, .int .u64 a2_1, .int .u64 a2_2] 43 (0, 0))) ∧ Aside0 (wc.heap[gb1292]? = some (.cells #[.bool false, .int .u64 0, .int .u64 0] 43 (0, 0))) ∧ Aside0 (wc.heap[gb1293]? = some (.cells #[.bool false, .int .u64 0, .int .u64 0] 43 (0, 0))) ∧ Aside0 (wc.heap[gb1297]? = some (.cells #[.bool t1294, .int .u64 t1295, .int .u64 t1296] 43 (0, 0))) ∧ Aside0 (wc.heap[gb1301]? = some (.cells #[.bool t1298, .int .u64 t1299, .int .u64 t1300] 43 (0, 0))) ∧ Aside0 (wc.heap[gb1302]? = some (.cells #[.bool true, .int .u64 0, .int .u64 0] 43 (0, 0))) ∧ Aside0 (Below w.heap.size w wc))
 case first =>
  have H := HC6.out
  clear HC6
  by_cases c41 : t1294 = true
  ·subst c41
   replace H := zit H
   have H' := Aside0.mk H
   clear H
   refine zt6 NB1290_1297 NB1291_1297 NB1292_1297 NB1293_1297 NB1297_1301 NB1297_1302 fun _ _ _ _ _ _ _ _ _ _ _ _ => ?_
   refine zu3 BK1297 fun z48_0 z48_1 z48_2 f48_0 f48_1 f48_2 => ?_
   go_wp2
   go_meet
   case rel => exact ⟨_, (true), zrl, H', ⟨zle⟩, ⟨(zkf (zkf (zkf (zkq BK1290) NB1290_1302.out _) NB1290_1302.out _) NB1290_1302.out _)⟩, ⟨(zkf (zkf (zkf (zkq BK1291) NB1291_1302.out _) NB1291_1302.out _) NB1291_1302.out _)⟩, ⟨(zkf (zkf (zkf (zkq BK1292) NB1292_1302.out _) NB1292_1302.out _) NB1292_1302.out _)⟩, ⟨(zkf (zkf (zkf (zkq BK1293) NB1293_1302.out _) NB1293_1302.out _) NB1293_1302.out _)⟩, ⟨(zkf (zkf (zkf (zkq BK1297) NB1297_1302.out _) NB1297_1302.out _) NB1297_1302.out _)⟩, ⟨(zkf (zkf (zkf (zkq BK1301) NB1301_1302.out _) NB1301_1302.out _) NB1301_1302.out _)⟩, ⟨(blk_put (cs := #[.bool true, .int .u64 0, .int .u64 0]) (blk_put (cs := #[.bool true, .int .u64 0, .int .u64 0]) (blk_put (zkq BK1302) 0 _ rfl) 1 _ rfl) 2 _ rfl)⟩, ⟨zaB⟩⟩
  replace c41 := Bool.eq_false_iff.mpr c41
  subst c41
  replace H := zif H
  have H' := Aside0.mk H
  clear H
  refine zt6 NB1290_1297 NB1291_1297 NB1292_1297 NB1293_1297 NB1297_1301 NB1297_1302 fun _ _ _ _ _ _ _ _ _ _ _ _ => ?_
  refine zu3 BK1297 fun z55_0 z55_1 z55_2 f55_0 f55_1 f55_2 => ?_
  refine zt5 NB1290_1301 NB1291_1301 NB1292_1301 NB1293_1301 NB1301_1302 fun _ _ _ _ _ _ _ _ _ _ => ?_
  refine zu3 BK1301 fun z61_0 z61_1 z61_2 f61_0 f61_1 f61_2 => ?_
  go_wp2
  go_meet
  case rel => exact ⟨_, (t1298), zrl, H', ⟨zle⟩, ⟨(zkf (zkf (zkf (zkq BK1290) NB1290_1302.out _) NB1290_1302.out _) NB1290_1302.out _)⟩, ⟨(zkf (zkf (zkf (zkq BK1291) NB1291_1302.out _) NB1291_1302.out _) NB1291_1302.out _)⟩, ⟨(zkf (zkf (zkf (zkq BK1292) NB1292_1302.out _) NB1292_1302.out _) NB1292_1302.out _)⟩, ⟨(zkf (zkf (zkf (zkq BK1293) NB1293_1302.out _) NB1293_1302.out _) NB1293_1302.out _)⟩, ⟨(zkf (zkf (zkf (zkq BK1297) NB1297_1302.out _) NB1297_1302.out _) NB1297_1302.out _)⟩, ⟨(zkf (zkf (zkf (zkq BK1301) NB1301_1302.out _) NB1301_1302.out _) NB1301_1302.out _)⟩, ⟨(blk_put (cs := #[.bool true, .int .u64 0, .int .u64 0]) (blk_put (cs := #[.bool true, .int .u64 0, .int .u64 0]) (blk_put (zkq BK1302) 0 _ rfl) 1 _ rfl) 2 _ rfl)⟩, ⟨zaB⟩⟩
 case rest =>
  clear HC6
  try clear z14_0 z14_1 z14_2 f14_0 f14_1 f14_2
  try clear z21_0 z21_1 z21_2 f21_0 f21_1 f21_2
  try clear z24_0 z24_1 z24_2 f24_0 f24_1 f24_2
  try clear z32_0 z32_1 z32_2 f32_0 f32_1 f32_2
  try clear z40_0 z40_1 z40_2 f40_0 f40_1 f40_2
  try clear z48_0 z48_1 z48_2 f48_0 f48_1 f48_2
  try clear z55_0 z55_1 z55_2 f55_0 f55_1 f55_2
  try clear z61_0 z61_1 z61_2 f61_0 f61_1 f61_2
  obtain ⟨kq, x23_5, rfl, HA, HJ5, BK1290, BK1291, BK1292, BK1293, BK1297, BK1301, BK1302, HB⟩ := hcut
  cases kq with
  | zero => exact absurd HA.out (by simp [flyballref16_Test.j0])
  | succ kj5 =>
   have H := HA.out
   clear HA
   simp only [flyballref16_Test.j0] at H
   by_cases c62 : x23_5 = true
   ·subst c62
    replace H := zit H
    simp only [Option.some.injEq, Prod.mk.injEq] at H
    obtain ⟨rfl, rfl, rfl, rfl, rfl, rfl⟩ := H
    try go_wp2
    replace BK1290 := Aside0.mk (blk_drew BK1290.out)
    replace BK1291 := Aside0.mk (blk_drew BK1291.out)
    replace BK1292 := Aside0.mk (blk_drew BK1292.out)
    replace BK1293 := Aside0.mk (blk_drew BK1293.out)
    replace BK1297 := Aside0.mk (blk_drew BK1297.out)
    replace BK1301 := Aside0.mk (blk_drew BK1301.out)
    replace BK1302 := Aside0.mk (blk_drew BK1302.out)
    replace HB := Aside0.mk (below_drew1 HB.out)
    refine start_ (n := 4) (S := fun w' => w'.cell? ⟨gb1302, 0, none⟩ = some (.bool true) ∧ w'.cell? ⟨gb1302, 1, none⟩ = some (.int .u64 0) ∧ w'.cell? ⟨gb1302, 2, none⟩ = some (.int .u64 0)) (ds := []) #[false, false, false, false] (by kernel_rfl) rfl rfl (ze3 BK1302) (fun hHeld => ?_)
    generalize wc.drew = w63 at BK1290 BK1291 BK1292 BK1293 BK1297 BK1301 BK1302 HB hHeld ⊢
    refine ztA 0 24 (h := ?_)
    refine ztA 1 25 (h := ?_)
    refine one_ (i := 2) (N := none) #[true, true, true, false] rfl rfl (by kernel_rfl) (by decide) (fun K hK => ?_)
    have hs64 := zc0 BK1292
    have hfs64 := blk_frozen BK1292.out 0
    refine zt6 NB1290_1292 NB1291_1292 NB1292_1293 NB1292_1297 NB1292_1301 NB1292_1302 fun _ _ _ _ _ _ _ _ _ _ _ _ => ?_
    have hs65 := zc1 BK1292
    have hfs65 := blk_frozen BK1292.out 1
    refine zt6 NB1290_1292 NB1291_1292 NB1292_1293 NB1292_1297 NB1292_1301 NB1292_1302 fun _ _ _ _ _ _ _ _ _ _ _ _ => ?_
    have hs66 := zc2 BK1292
    have hfs66 := blk_frozen BK1292.out 2
    refine zt6 NB1290_1292 NB1291_1292 NB1292_1293 NB1292_1297 NB1292_1301 NB1292_1302 fun _ _ _ _ _ _ _ _ _ _ _ _ => ?_
    refine skip_ (w1 := ?_) (by rfl) rfl ?_ ?_
    rotate_left
    ·go_simp
     rfl
    refine hK.out _ _ ⟨(zff (zks NB1292_1302) (zff (zks NB1292_1302) (zff (zks NB1292_1302) hHeld.1))), (zff (zks NB1292_1302) (zff (zks NB1292_1302) (zff (zks NB1292_1302) hHeld.2.1))), (zff (zks NB1292_1302) (zff (zks NB1292_1302) (zff (zks NB1292_1302) hHeld.2.2)))⟩ (fun hHeld => ?_)
    clear hK K
    refine one_ (i := 3) (N := none) #[true, true, true, true] rfl rfl (by kernel_rfl) (by decide) (fun K hK => ?_)
    have hs67 := zc0 BK1293
    have hfs67 := blk_frozen BK1293.out 0
    refine zt6 NB1290_1293 NB1291_1293 NB1292_1293 NB1293_1297 NB1293_1301 NB1293_1302 fun _ _ _ _ _ _ _ _ _ _ _ _ => ?_
    have hs68 := zc1 BK1293
    have hfs68 := blk_frozen BK1293.out 1
    refine zt6 NB1290_1293 NB1291_1293 NB1292_1293 NB1293_1297 NB1293_1301 NB1293_1302 fun _ _ _ _ _ _ _ _ _ _ _ _ => ?_
    have hs69 := zc2 BK1293
    have hfs69 := blk_frozen BK1293.out 2
    refine zt6 NB1290_1293 NB1291_1293 NB1292_1293 NB1293_1297 NB1293_1301 NB1293_1302 fun _ _ _ _ _ _ _ _ _ _ _ _ => ?_
    refine skip_ (w1 := ?_) (by rfl) rfl ?_ ?_
    rotate_left
    ·go_simp
     rfl
    refine hK.out _ _ ⟨(zff (zks NB1293_1302) (zff (zks NB1293_1302) (zff (zks NB1293_1302) hHeld.1))), (zff (zks NB1293_1302) (zff (zks NB1293_1302) (zff (zks NB1293_1302) hHeld.2.1))), (zff (zks NB1293_1302) (zff (zks NB1293_1302) (zff (zks NB1293_1302) hHeld.2.2)))⟩ (fun hHeld => ?_)
    clear hK K
    refine done_ (by kernel_rfl) ?_
    try go_wp2
    refine bodyPost_ret (results_cc rfl _ _ gb1292 gb1293 43 43 #[.bool true, .int .u64 0, .int .u64 0] #[.bool true, .int .u64 0, .int .u64 0] (0, 0) (0, 0) _ _ rfl (zkf (zkf (zkf (blk_put (cs := #[.bool true, .int .u64 0, .int .u64 0]) (blk_put (cs := #[.bool true, .int .u64 0, .int .u64 0]) (blk_put (zkq BK1292) 0 _ rfl) 1 _ rfl) 2 _ rfl) NB1292_1293.out _) NB1292_1293.out _) NB1292_1293.out _) Try.underlying43 rfl (by kernel_rfl) rfl (blk_put (cs := #[.bool true, .int .u64 0, .int .u64 0]) (blk_put (cs := #[.bool true, .int .u64 0, .int .u64 0]) (blk_put (zkf (zkf (zkf (zkq BK1293) (zks NB1292_1293).out _) (zks NB1292_1293).out _) (zks NB1292_1293).out _) 0 _ rfl) 1 _ rfl) 2 _ rfl) Try.underlying43 rfl (by kernel_rfl)) rfl ?_
    exact ⟨zaE, zaB⟩
   replace c62 := Bool.eq_false_iff.mpr c62
   subst c62
   replace H := zif H
   have HC70 := Aside0.mk H
   clear H
   refine zt6 NB1290_1297 NB1291_1297 NB1292_1297 NB1293_1297 NB1297_1301 NB1297_1302 fun _ _ _ _ _ _ _ _ _ _ _ _ => ?_
   refine zu3 BK1297 fun z77_0 z77_1 z77_2 f77_0 f77_1 f77_2 => ?_
   go_upto_if 29 with (first | ((with_reducible refine gtd 11 rfl ?_); refine zbx 11 #[.bool false, .int .u64 0, .int .u64 0] 43 (h := ?_); intro gb1303 hg w78 hbox hb; refine zbn7 HB BK1290 BK1291 BK1292 BK1293 BK1297 BK1301 BK1302 hg hb hbox (c := ?_); clear HB BK1290 BK1291 BK1292 BK1293 BK1297 BK1301 BK1302 hb hbox hg; intro GW1303 NB1290_1303 NB1291_1303 NB1292_1303 NB1293_1303 NB1297_1303 NB1301_1303 NB1302_1303 BK1290 BK1291 BK1292 BK1293 BK1297 BK1301 BK1302 HB BK1303; refine zt7 NB1290_1303 NB1291_1303 NB1292_1303 NB1293_1303 NB1297_1303 NB1301_1303 NB1302_1303 fun _ _ _ _ _ _ _ _ _ _ _ _ _ _ => ?_; refine zu3 BK1303 fun z86_0 z86_1 z86_2 f86_0 f86_1 f86_2 => ?_; refine zt5 NB1290_1301 NB1291_1301 NB1292_1301 NB1293_1301 NB1301_1302 fun _ _ _ _ _ _ _ _ _ _ => ?_; refine zu3 BK1301 fun z92_0 z92_1 z92_2 f92_0 f92_1 f92_2 => ?_) | ((with_reducible refine gtd 12 rfl ?_); refine zbx 12 #[.bool false, .int .u64 0, .int .u64 0] 43 (h := ?_); intro gb1304 hg w93 hbox hb; have GW1304 := zkZ hg (below_set (below_set (below_set HB.out GW1303.out) GW1303.out) GW1303.out); have NB1290_1304 := zkL hg (zkf (zkf (zkf BK1290.out NB1290_1303.out _) NB1290_1303.out _) NB1290_1303.out _); have NB1291_1304 := zkL hg (zkf (zkf (zkf BK1291.out NB1291_1303.out _) NB1291_1303.out _) NB1291_1303.out _); have NB1292_1304 := zkL hg (zkf (zkf (zkf BK1292.out NB1292_1303.out _) NB1292_1303.out _) NB1292_1303.out _); have NB1293_1304 := zkL hg (zkf (zkf (zkf BK1293.out NB1293_1303.out _) NB1293_1303.out _) NB1293_1303.out _); have NB1297_1304 := zkL hg (zkf (zkf (zkf BK1297.out NB1297_1303.out _) NB1297_1303.out _) NB1297_1303.out _); have NB1301_1304 := zkL hg (zkf (zkf (zkf BK1301.out NB1301_1303.out _) NB1301_1303.out _) NB1301_1303.out _); have NB1302_1304 := zkL hg (zkf (zkf (zkf BK1302.out NB1302_1303.out _) NB1302_1303.out _) NB1302_1303.out _); have NB1303_1304 := zkL hg (ob := .cells #[.bool t1294, .int .u64 t1295, .int .u64 t1296] 43 (0, 0)) (blk_put (cs := #[.bool t1294, .int .u64 t1295, .int .u64 0]) (blk_put (cs := #[.bool t1294, .int .u64 0, .int .u64 0]) (blk_put BK1303.out 0 _ rfl) 1 _ rfl) 2 _ rfl); replace BK1290 := Aside0.mk (blk_below (zkf (zkf (zkf BK1290.out NB1290_1303.out _) NB1290_1303.out _) NB1290_1303.out _) hb); replace BK1291 := Aside0.mk (blk_below (zkf (zkf (zkf BK1291.out NB1291_1303.out _) NB1291_1303.out _) NB1291_1303.out _) hb); replace BK1292 := Aside0.mk (blk_below (zkf (zkf (zkf BK1292.out NB1292_1303.out _) NB1292_1303.out _) NB1292_1303.out _) hb); replace BK1293 := Aside0.mk (blk_below (zkf (zkf (zkf BK1293.out NB1293_1303.out _) NB1293_1303.out _) NB1293_1303.out _) hb); replace BK1297 := Aside0.mk (blk_below (zkf (zkf (zkf BK1297.out NB1297_1303.out _) NB1297_1303.out _) NB1297_1303.out _) hb); replace BK1301 := Aside0.mk (blk_below (zkf (zkf (zkf BK1301.out NB1301_1303.out _) NB1301_1303.out _) NB1301_1303.out _) hb); replace BK1302 := Aside0.mk (blk_below (zkf (zkf (zkf BK1302.out NB1302_1303.out _) NB1302_1303.out _) NB1302_1303.out _) hb); replace BK1303 := Aside0.mk (blk_below (o := .cells #[.bool t1294, .int .u64 t1295, .int .u64 t1296] 43 (0, 0)) (blk_put (cs := #[.bool t1294, .int .u64 t1295, .int .u64 0]) (blk_put (cs := #[.bool t1294, .int .u64 0, .int .u64 0]) (blk_put BK1303.out 0 _ rfl) 1 _ rfl) 2 _ rfl) hb); replace HB := Aside0.mk (below_step (below_set (below_set (below_set HB.out GW1303.out) GW1303.out) GW1303.out) hb); have BK1304 := Aside0.mk (hbox); clear hb hbox hg; refine zt8 NB1290_1304 NB1291_1304 NB1292_1304 NB1293_1304 NB1297_1304 NB1301_1304 NB1302_1304 NB1303_1304 fun _ _ _ _ _ _ _ _ _ _ _ _ _ _ _ _ => ?_; refine zu3 BK1304 fun z102_0 z102_1 z102_2 f102_0 f102_1 f102_2 => ?_))
   (try simp only [Act.put, List.setIfInBounds_toArray, List.set_cons_zero, List.set_cons_succ])
   go_cut [29] (fun v29 wc => ∃ (kq : Nat) (x29_69 : Bool), v29 = .bool x29_69 ∧ Aside0 (flyballref16_Test.j1 kq a0 a0 x29_69 t1294 t1295 t1296 t1298 t1299 t1300 true 0 0 t1294 t1295 t1296 t1298 t1299 t1300 = some (r1, r2, r3, r4, r5, r6)) ∧ Aside0 (kq ≤ kj5) ∧ Aside0 (wc.heap[gb1290]? = some (.cells #[.bool a1_0, .int .u64 a1_1, .int .u64 a1_2] 43 (0, 0))) ∧ Aside0 (wc.heap[gb1291]? = some (.cells #[.bool a2_0, .int .u64 a2_1, .int .u64 a2_2] 43 (0, 0))) ∧ Aside0 (wc.heap[gb1292]? = some (.cells #[.bool false, .int .u64 0, .int .u64 0] 43 (0, 0))) ∧ Aside0 (wc.heap[gb1293]? = some (.cells #[.bool false, .int .u64 0, .int .u64 0] 43 (0, 0))) ∧ Aside0 (wc.heap[gb1297]? = some (.cells #[.bool t1294, .int .u64 t1295, .int .u64 t1296] 43 (0, 0))) ∧ Aside0 (wc.heap[gb1301]? = some (.cells #[.bool t1298, .int .u64 t1299, .int .u64 t1300] 43 (0, 0))) ∧ Aside0 (wc.heap[gb1302]? = some (.cells #[.bool true, .int .u64 0, .int .u64 0] 43 (0, 0))) ∧ Aside0 (wc.heap[gb1303]? = some (.cells #[.bool t1294, .int .u64 t1295, .int .u64 t1296] 43 (0, 0))) ∧ Aside0 (wc.heap[gb1304]? = some (.cells #[.bool t1298, .int .u64 t1299, .int .u64 t1300] 43 (0, 0))) ∧ Aside0 (Below w.heap.size w wc))
   case first =>
    have H := HC70.out
    clear HC70
    by_cases c103 : a0 = 9
    ·rw [if_pos c103] at H
     have c103b0 : (a0 == 9) = true := beq_iff_eq.mpr c103
     have c103b1 : (a0 != 9) = false := bne_eq_false_iff_eq.mpr c103
     clear c103
     (first | rw [c103b0] | (simp only [i64_w, i32_w]; rw [c103b0]) | skip)
     have H' := Aside0.mk H
     clear H
     go_wp2
     go_meet
     case rel => exact ⟨_, ((a0 == 9)), zrl, H', ⟨by have := HJ5.out; first | omega | exact Nat.le_refl _⟩, ⟨(zkf (zkf (zkf (zkq BK1290) NB1290_1304.out _) NB1290_1304.out _) NB1290_1304.out _)⟩, ⟨(zkf (zkf (zkf (zkq BK1291) NB1291_1304.out _) NB1291_1304.out _) NB1291_1304.out _)⟩, ⟨(zkf (zkf (zkf (zkq BK1292) NB1292_1304.out _) NB1292_1304.out _) NB1292_1304.out _)⟩, ⟨(zkf (zkf (zkf (zkq BK1293) NB1293_1304.out _) NB1293_1304.out _) NB1293_1304.out _)⟩, ⟨(zkf (zkf (zkf (zkq BK1297) NB1297_1304.out _) NB1297_1304.out _) NB1297_1304.out _)⟩, ⟨(zkf (zkf (zkf (zkq BK1301) NB1301_1304.out _) NB1301_1304.out _) NB1301_1304.out _)⟩, ⟨(zkf (zkf (zkf (zkq BK1302) NB1302_1304.out _) NB1302_1304.out _) NB1302_1304.out _)⟩, ⟨(zkf (zkf (zkf (zkq BK1303) NB1303_1304.out _) NB1303_1304.out _) NB1303_1304.out _)⟩, ⟨(blk_put (cs := #[.bool t1298, .int .u64 t1299, .int .u64 0]) (blk_put (cs := #[.bool t1298, .int .u64 0, .int .u64 0]) (blk_put (zkq BK1304) 0 _ rfl) 1 _ rfl) 2 _ rfl)⟩, ⟨zaB⟩⟩
    rw [if_neg c103] at H
    have c103b0 : (a0 == 9) = false := beq_eq_false_iff_ne.mpr c103
    have c103b1 : (a0 != 9) = true := bne_iff_ne.mpr c103
    (first | rw [c103b0] | (simp only [i64_w, i32_w]; rw [c103b0]) | skip)
    have H' := Aside0.mk H
    clear H
    go_wp2
    go_meet
    case rel => exact ⟨_, ((a0 == 10)), zrl, H', ⟨by have := HJ5.out; first | omega | exact Nat.le_refl _⟩, ⟨(zkf (zkf (zkf (zkq BK1290) NB1290_1304.out _) NB1290_1304.out _) NB1290_1304.out _)⟩, ⟨(zkf (zkf (zkf (zkq BK1291) NB1291_1304.out _) NB1291_1304.out _) NB1291_1304.out _)⟩, ⟨(zkf (zkf (zkf (zkq BK1292) NB1292_1304.out _) NB1292_1304.out _) NB1292_1304.out _)⟩, ⟨(zkf (zkf (zkf (zkq BK1293) NB1293_1304.out _) NB1293_1304.out _) NB1293_1304.out _)⟩, ⟨(zkf (zkf (zkf (zkq BK1297) NB1297_1304.out _) NB1297_1304.out _) NB1297_1304.out _)⟩, ⟨(zkf (zkf (zkf (zkq BK1301) NB1301_1304.out _) NB1301_1304.out _) NB1301_1304.out _)⟩, ⟨(zkf (zkf (zkf (zkq BK1302) NB1302_1304.out _) NB1302_1304.out _) NB1302_1304.out _)⟩, ⟨(zkf (zkf (zkf (zkq BK1303) NB1303_1304.out _) NB1303_1304.out _) NB1303_1304.out _)⟩, ⟨(blk_put (cs := #[.bool t1298, .int .u64 t1299, .int .u64 0]) (blk_put (cs := #[.bool t1298, .int .u64 0, .int .u64 0]) (blk_put (zkq BK1304) 0 _ rfl) 1 _ rfl) 2 _ rfl)⟩, ⟨zaB⟩⟩
   case rest =>
    clear HC70
    try clear c103b0
    try clear c103b1
    try clear z102_0 z102_1 z102_2 f102_0 f102_1 f102_2
    try clear z14_0 z14_1 z14_2 f14_0 f14_1 f14_2
    try clear z21_0 z21_1 z21_2 f21_0 f21_1 f21_2
    try clear z24_0 z24_1 z24_2 f24_0 f24_1 f24_2
    try clear z32_0 z32_1 z32_2 f32_0 f32_1 f32_2
    try clear z40_0 z40_1 z40_2 f40_0 f40_1 f40_2
    try clear z48_0 z48_1 z48_2 f48_0 f48_1 f48_2
    try clear z55_0 z55_1 z55_2 f55_0 f55_1 f55_2
    try clear z61_0 z61_1 z61_2 f61_0 f61_1 f61_2
    try clear z77_0 z77_1 z77_2 f77_0 f77_1 f77_2
    try clear z86_0 z86_1 z86_2 f86_0 f86_1 f86_2
    try clear z92_0 z92_1 z92_2 f92_0 f92_1 f92_2
    obtain ⟨kq, x29_69, rfl, HA, HJ69, BK1290, BK1291, BK1292, BK1293, BK1297, BK1301, BK1302, BK1303, BK1304, HB⟩ := hcut
    cases kq with
    | zero => exact absurd HA.out (by simp [flyballref16_Test.j1])
    | succ kj69 =>
     have H := HA.out
     clear HA
     simp only [flyballref16_Test.j1] at H
     by_cases c104 : x29_69 = true
     ·subst c104
      replace H := zit H
      obtain ⟨⟨t1305, t1306, t1307⟩, A105, H⟩ := zbs H
      try dsimp only at H
      obtain ⟨⟨t1308, t1309, t1310⟩, A106, H⟩ := zbs H
      try dsimp only at H
      by_cases c107 : t1305 = true
      ·subst c107
       replace H := zit H
       simp only [Option.some.injEq, Prod.mk.injEq] at H
       obtain ⟨rfl, rfl, rfl, rfl, rfl, rfl⟩ := H
       refine zt8 NB1290_1297 NB1291_1297 NB1292_1297 NB1293_1297 NB1297_1301 NB1297_1302 NB1297_1303 NB1297_1304 fun _ _ _ _ _ _ _ _ _ _ _ _ _ _ _ _ => ?_
       refine zu3 BK1297 fun _ _ _ _ _ _ => ?_
       refine zt7 NB1290_1301 NB1291_1301 NB1292_1301 NB1293_1301 NB1301_1302 NB1301_1303 NB1301_1304 fun _ _ _ _ _ _ _ _ _ _ _ _ _ _ => ?_
       refine zu3 BK1301 fun _ _ _ _ _ _ => ?_
       try go_wp2_with (first | ((with_reducible refine gtc 124 rfl ?_); refine zgL 37 Try.func124 (flyballref16_below.calls kj69 t1294 t1295 t1296 t1300 (a0 == 9) true t1306 t1307 _ A105.out) (h := ?_); rintro w125 hb; refine zcn9 HB BK1290 BK1291 BK1292 BK1293 BK1297 BK1301 BK1302 BK1303 BK1304 hb (c := ?_); clear HB BK1290 BK1291 BK1292 BK1293 BK1297 BK1301 BK1302 BK1303 BK1304 hb; intro BK1290 BK1291 BK1292 BK1293 BK1297 BK1301 BK1302 BK1303 BK1304 HB; refine zt6 NB1290_1303 NB1291_1303 NB1292_1303 NB1293_1303 NB1302_1303 NB1303_1304 fun _ _ _ _ _ _ _ _ _ _ _ _ => ?_; refine zu3 BK1303 fun _ _ _ _ _ _ => ?_; refine zu3 BK1301 fun _ _ _ _ _ _ => ?_; refine zu3 BK1297 fun _ _ _ _ _ _ => ?_) | ((with_reducible refine gtc 125 rfl ?_); refine zgL 43 Try.func125 (flyballref16_from.calls kj69 t1298 t1299 t1300 t1295 (a0 == 9) t1308 t1309 t1310 _ A106.out) (h := ?_); rintro w135 hb; replace BK1290 := Aside0.mk (blk_below (zkf (zkf (zkf BK1290.out NB1290_1303.out _) NB1290_1303.out _) NB1290_1303.out _) hb); replace BK1291 := Aside0.mk (blk_below (zkf (zkf (zkf BK1291.out NB1291_1303.out _) NB1291_1303.out _) NB1291_1303.out _) hb); replace BK1292 := Aside0.mk (blk_below (zkf (zkf (zkf BK1292.out NB1292_1303.out _) NB1292_1303.out _) NB1292_1303.out _) hb); replace BK1293 := Aside0.mk (blk_below (zkf (zkf (zkf BK1293.out NB1293_1303.out _) NB1293_1303.out _) NB1293_1303.out _) hb); replace BK1297 := Aside0.mk (blk_below (zkf (zkf (zkf BK1297.out NB1297_1303.out _) NB1297_1303.out _) NB1297_1303.out _) hb); replace BK1301 := Aside0.mk (blk_below (zkf (zkf (zkf BK1301.out NB1301_1303.out _) NB1301_1303.out _) NB1301_1303.out _) hb); replace BK1302 := Aside0.mk (blk_below (zkf (zkf (zkf BK1302.out NB1302_1303.out _) NB1302_1303.out _) NB1302_1303.out _) hb); replace BK1303 := Aside0.mk (blk_below (o := .cells #[.bool true, .int .u64 t1306, .int .u64 t1307] 43 (0, 0)) (blk_put (cs := #[.bool true, .int .u64 t1306, .int .u64 t1296]) (blk_put (cs := #[.bool true, .int .u64 t1295, .int .u64 t1296]) (blk_put BK1303.out 0 _ rfl) 1 _ rfl) 2 _ rfl) hb); replace BK1304 := Aside0.mk (blk_below (zkf (zkf (zkf BK1304.out (zks NB1303_1304).out _) (zks NB1303_1304).out _) (zks NB1303_1304).out _) hb); replace HB := Aside0.mk (below_step (below_set (below_set (below_set HB.out GW1303.out) GW1303.out) GW1303.out) hb); (try clear hb); refine zt5 NB1290_1304 NB1291_1304 NB1292_1304 NB1293_1304 NB1302_1304 fun _ _ _ _ _ _ _ _ _ _ => ?_; refine zu3 BK1304 fun _ _ _ _ _ _ => ?_; refine zu3 BK1303 fun _ _ _ _ _ _ => ?_))
       generalize hW_ : (((w135.setCell ⟨gb1304, 0, none⟩ (.bool t1308)).setCell ⟨gb1304, 1, none⟩ (.int .u64 t1309)).setCell ⟨gb1304, 2, none⟩ (.int .u64 t1310)) = w143
       replace BK1290 := zkg hW_ (zkf (zkf (zkf BK1290.out NB1290_1304.out _) NB1290_1304.out _) NB1290_1304.out _)
       replace BK1291 := zkg hW_ (zkf (zkf (zkf BK1291.out NB1291_1304.out _) NB1291_1304.out _) NB1291_1304.out _)
       replace BK1292 := zkg hW_ (zkf (zkf (zkf BK1292.out NB1292_1304.out _) NB1292_1304.out _) NB1292_1304.out _)
       replace BK1293 := zkg hW_ (zkf (zkf (zkf BK1293.out NB1293_1304.out _) NB1293_1304.out _) NB1293_1304.out _)
       replace BK1297 := zkg hW_ (zkf (zkf (zkf BK1297.out NB1297_1304.out _) NB1297_1304.out _) NB1297_1304.out _)
       replace BK1301 := zkg hW_ (zkf (zkf (zkf BK1301.out NB1301_1304.out _) NB1301_1304.out _) NB1301_1304.out _)
       replace BK1302 := zkg hW_ (zkf (zkf (zkf BK1302.out NB1302_1304.out _) NB1302_1304.out _) NB1302_1304.out _)
       replace BK1303 := zkg hW_ (zkf (zkf (zkf BK1303.out NB1303_1304.out _) NB1303_1304.out _) NB1303_1304.out _)
       replace BK1304 := zkg hW_ (ob := .cells #[.bool t1308, .int .u64 t1309, .int .u64 t1310] 43 (0, 0)) (blk_put (cs := #[.bool t1308, .int .u64 t1309, .int .u64 t1300]) (blk_put (cs := #[.bool t1308, .int .u64 t1299, .int .u64 t1300]) (blk_put BK1304.out 0 _ rfl) 1 _ rfl) 2 _ rfl)
       replace HB := zkG hW_ (below_set (below_set (below_set HB.out GW1304.out) GW1304.out) GW1304.out)
       clear hW_
       replace BK1290 := Aside0.mk (blk_drew BK1290.out)
       replace BK1291 := Aside0.mk (blk_drew BK1291.out)
       replace BK1292 := Aside0.mk (blk_drew BK1292.out)
       replace BK1293 := Aside0.mk (blk_drew BK1293.out)
       replace BK1297 := Aside0.mk (blk_drew BK1297.out)
       replace BK1301 := Aside0.mk (blk_drew BK1301.out)
       replace BK1302 := Aside0.mk (blk_drew BK1302.out)
       replace BK1303 := Aside0.mk (blk_drew BK1303.out)
       replace BK1304 := Aside0.mk (blk_drew BK1304.out)
       replace HB := Aside0.mk (below_drew1 HB.out)
       refine start_ (n := 4) (S := fun w' => w'.cell? ⟨gb1302, 0, none⟩ = some (.bool true) ∧ w'.cell? ⟨gb1302, 1, none⟩ = some (.int .u64 0) ∧ w'.cell? ⟨gb1302, 2, none⟩ = some (.int .u64 0)) (ds := []) #[false, false, false, false] (by kernel_rfl) rfl rfl (ze3 BK1302) (fun hHeld => ?_)
       generalize w143.drew = w144 at BK1290 BK1291 BK1292 BK1293 BK1297 BK1301 BK1302 BK1303 BK1304 HB hHeld ⊢
       refine ztA 0 91 (h := ?_)
       refine ztA 1 92 (h := ?_)
       refine one_ (i := 2) (N := none) #[true, true, true, false] rfl rfl (by kernel_rfl) (by decide) (fun K hK => ?_)
       have hs145 := zc0 BK1292
       have hfs145 := blk_frozen BK1292.out 0
       refine zt8 NB1290_1292 NB1291_1292 NB1292_1293 NB1292_1297 NB1292_1301 NB1292_1302 NB1292_1303 NB1292_1304 fun _ _ _ _ _ _ _ _ _ _ _ _ _ _ _ _ => ?_
       have hs146 := zc1 BK1292
       have hfs146 := blk_frozen BK1292.out 1
       refine zt8 NB1290_1292 NB1291_1292 NB1292_1293 NB1292_1297 NB1292_1301 NB1292_1302 NB1292_1303 NB1292_1304 fun _ _ _ _ _ _ _ _ _ _ _ _ _ _ _ _ => ?_
       have hs147 := zc2 BK1292
       have hfs147 := blk_frozen BK1292.out 2
       refine zt8 NB1290_1292 NB1291_1292 NB1292_1293 NB1292_1297 NB1292_1301 NB1292_1302 NB1292_1303 NB1292_1304 fun _ _ _ _ _ _ _ _ _ _ _ _ _ _ _ _ => ?_
       refine skip_ (w1 := ?_) (by rfl) rfl ?_ ?_
       rotate_left
       ·go_simp
        rfl
       refine hK.out _ _ ⟨(zff (zks NB1292_1302) (zff (zks NB1292_1302) (zff (zks NB1292_1302) hHeld.1))), (zff (zks NB1292_1302) (zff (zks NB1292_1302) (zff (zks NB1292_1302) hHeld.2.1))), (zff (zks NB1292_1302) (zff (zks NB1292_1302) (zff (zks NB1292_1302) hHeld.2.2)))⟩ (fun hHeld => ?_)
       clear hK K
       refine one_ (i := 3) (N := none) #[true, true, true, true] rfl rfl (by kernel_rfl) (by decide) (fun K hK => ?_)
       have hs148 := zc0 BK1293
       have hfs148 := blk_frozen BK1293.out 0
       refine zt8 NB1290_1293 NB1291_1293 NB1292_1293 NB1293_1297 NB1293_1301 NB1293_1302 NB1293_1303 NB1293_1304 fun _ _ _ _ _ _ _ _ _ _ _ _ _ _ _ _ => ?_
       have hs149 := zc1 BK1293
       have hfs149 := blk_frozen BK1293.out 1
       refine zt8 NB1290_1293 NB1291_1293 NB1292_1293 NB1293_1297 NB1293_1301 NB1293_1302 NB1293_1303 NB1293_1304 fun _ _ _ _ _ _ _ _ _ _ _ _ _ _ _ _ => ?_
       have hs150 := zc2 BK1293
       have hfs150 := blk_frozen BK1293.out 2
       refine zt8 NB1290_1293 NB1291_1293 NB1292_1293 NB1293_1297 NB1293_1301 NB1293_1302 NB1293_1303 NB1293_1304 fun _ _ _ _ _ _ _ _ _ _ _ _ _ _ _ _ => ?_
       refine skip_ (w1 := ?_) (by rfl) rfl ?_ ?_
       rotate_left
       ·go_simp
        rfl
       refine hK.out _ _ ⟨(zff (zks NB1293_1302) (zff (zks NB1293_1302) (zff (zks NB1293_1302) hHeld.1))), (zff (zks NB1293_1302) (zff (zks NB1293_1302) (zff (zks NB1293_1302) hHeld.2.1))), (zff (zks NB1293_1302) (zff (zks NB1293_1302) (zff (zks NB1293_1302) hHeld.2.2)))⟩ (fun hHeld => ?_)
       clear hK K
       refine done_ (by kernel_rfl) ?_
       try go_wp2
       refine bodyPost_ret (results_cc rfl _ _ gb1292 gb1293 43 43 #[.bool true, .int .u64 0, .int .u64 0] #[.bool true, .int .u64 0, .int .u64 0] (0, 0) (0, 0) _ _ rfl (zkf (zkf (zkf (blk_put (cs := #[.bool true, .int .u64 0, .int .u64 0]) (blk_put (cs := #[.bool true, .int .u64 0, .int .u64 0]) (blk_put (zkq BK1292) 0 _ rfl) 1 _ rfl) 2 _ rfl) NB1292_1293.out _) NB1292_1293.out _) NB1292_1293.out _) Try.underlying43 rfl (by kernel_rfl) rfl (blk_put (cs := #[.bool true, .int .u64 0, .int .u64 0]) (blk_put (cs := #[.bool true, .int .u64 0, .int .u64 0]) (blk_put (zkf (zkf (zkf (zkq BK1293) (zks NB1292_1293).out _) (zks NB1292_1293).out _) (zks NB1292_1293).out _) 0 _ rfl) 1 _ rfl) 2 _ rfl) Try.underlying43 rfl (by kernel_rfl)) rfl ?_
       exact ⟨zaE, zaB⟩
      replace c107 := Bool.eq_false_iff.mpr c107
      subst c107
      replace H := zif H
      by_cases c151 : t1308 = true
      ·subst c151
       replace H := zit H
       simp only [Option.some.injEq, Prod.mk.injEq] at H
       obtain ⟨rfl, rfl, rfl, rfl, rfl, rfl⟩ := H
       refine zt8 NB1290_1297 NB1291_1297 NB1292_1297 NB1293_1297 NB1297_1301 NB1297_1302 NB1297_1303 NB1297_1304 fun _ _ _ _ _ _ _ _ _ _ _ _ _ _ _ _ => ?_
       refine zu3 BK1297 fun z160_0 z160_1 z160_2 f160_0 f160_1 f160_2 => ?_
       refine zt7 NB1290_1301 NB1291_1301 NB1292_1301 NB1293_1301 NB1301_1302 NB1301_1303 NB1301_1304 fun _ _ _ _ _ _ _ _ _ _ _ _ _ _ => ?_
       refine zu3 BK1301 fun z168_0 z168_1 z168_2 f168_0 f168_1 f168_2 => ?_
       try go_wp2_with (first | ((with_reducible refine gtc 124 rfl ?_); refine zgL 37 Try.func124 (flyballref16_below.calls kj69 t1294 t1295 t1296 t1300 (a0 == 9) false t1306 t1307 _ A105.out) (h := ?_); rintro w169 hb; refine zcn9 HB BK1290 BK1291 BK1292 BK1293 BK1297 BK1301 BK1302 BK1303 BK1304 hb (c := ?_); clear HB BK1290 BK1291 BK1292 BK1293 BK1297 BK1301 BK1302 BK1303 BK1304 hb; intro BK1290 BK1291 BK1292 BK1293 BK1297 BK1301 BK1302 BK1303 BK1304 HB; refine zt6 NB1290_1303 NB1291_1303 NB1292_1303 NB1293_1303 NB1302_1303 NB1303_1304 fun _ _ _ _ _ _ _ _ _ _ _ _ => ?_; refine zu3 BK1303 fun z176_0 z176_1 z176_2 f176_0 f176_1 f176_2 => ?_; refine zu3 BK1301 fun z177_0 z177_1 z177_2 f177_0 f177_1 f177_2 => ?_; refine zu3 BK1297 fun z178_0 z178_1 z178_2 f178_0 f178_1 f178_2 => ?_) | ((with_reducible refine gtc 125 rfl ?_); refine zgL 43 Try.func125 (flyballref16_from.calls kj69 t1298 t1299 t1300 t1295 (a0 == 9) true t1309 t1310 _ A106.out) (h := ?_); rintro w179 hb; replace BK1290 := Aside0.mk (blk_below (zkf (zkf (zkf BK1290.out NB1290_1303.out _) NB1290_1303.out _) NB1290_1303.out _) hb); replace BK1291 := Aside0.mk (blk_below (zkf (zkf (zkf BK1291.out NB1291_1303.out _) NB1291_1303.out _) NB1291_1303.out _) hb); replace BK1292 := Aside0.mk (blk_below (zkf (zkf (zkf BK1292.out NB1292_1303.out _) NB1292_1303.out _) NB1292_1303.out _) hb); replace BK1293 := Aside0.mk (blk_below (zkf (zkf (zkf BK1293.out NB1293_1303.out _) NB1293_1303.out _) NB1293_1303.out _) hb); replace BK1297 := Aside0.mk (blk_below (zkf (zkf (zkf BK1297.out NB1297_1303.out _) NB1297_1303.out _) NB1297_1303.out _) hb); replace BK1301 := Aside0.mk (blk_below (zkf (zkf (zkf BK1301.out NB1301_1303.out _) NB1301_1303.out _) NB1301_1303.out _) hb); replace BK1302 := Aside0.mk (blk_below (zkf (zkf (zkf BK1302.out NB1302_1303.out _) NB1302_1303.out _) NB1302_1303.out _) hb); replace BK1303 := Aside0.mk (blk_below (o := .cells #[.bool false, .int .u64 t1306, .int .u64 t1307] 43 (0, 0)) (blk_put (cs := #[.bool false, .int .u64 t1306, .int .u64 t1296]) (blk_put (cs := #[.bool false, .int .u64 t1295, .int .u64 t1296]) (blk_put BK1303.out 0 _ rfl) 1 _ rfl) 2 _ rfl) hb); replace BK1304 := Aside0.mk (blk_below (zkf (zkf (zkf BK1304.out (zks NB1303_1304).out _) (zks NB1303_1304).out _) (zks NB1303_1304).out _) hb); replace HB := Aside0.mk (below_step (below_set (below_set (below_set HB.out GW1303.out) GW1303.out) GW1303.out) hb); (try clear hb); refine zt5 NB1290_1304 NB1291_1304 NB1292_1304 NB1293_1304 NB1302_1304 fun _ _ _ _ _ _ _ _ _ _ => ?_; refine zu3 BK1304 fun z185_0 z185_1 z185_2 f185_0 f185_1 f185_2 => ?_; refine zu3 BK1303 fun z186_0 z186_1 z186_2 f186_0 f186_1 f186_2 => ?_))
       generalize hW_ : (((w179.setCell ⟨gb1304, 0, none⟩ (.bool true)).setCell ⟨gb1304, 1, none⟩ (.int .u64 t1309)).setCell ⟨gb1304, 2, none⟩ (.int .u64 t1310)) = w187
       replace BK1290 := zkg hW_ (zkf (zkf (zkf BK1290.out NB1290_1304.out _) NB1290_1304.out _) NB1290_1304.out _)
       replace BK1291 := zkg hW_ (zkf (zkf (zkf BK1291.out NB1291_1304.out _) NB1291_1304.out _) NB1291_1304.out _)
       replace BK1292 := zkg hW_ (zkf (zkf (zkf BK1292.out NB1292_1304.out _) NB1292_1304.out _) NB1292_1304.out _)
       replace BK1293 := zkg hW_ (zkf (zkf (zkf BK1293.out NB1293_1304.out _) NB1293_1304.out _) NB1293_1304.out _)
       replace BK1297 := zkg hW_ (zkf (zkf (zkf BK1297.out NB1297_1304.out _) NB1297_1304.out _) NB1297_1304.out _)
       replace BK1301 := zkg hW_ (zkf (zkf (zkf BK1301.out NB1301_1304.out _) NB1301_1304.out _) NB1301_1304.out _)
       replace BK1302 := zkg hW_ (zkf (zkf (zkf BK1302.out NB1302_1304.out _) NB1302_1304.out _) NB1302_1304.out _)
       replace BK1303 := zkg hW_ (zkf (zkf (zkf BK1303.out NB1303_1304.out _) NB1303_1304.out _) NB1303_1304.out _)
       replace BK1304 := zkg hW_ (ob := .cells #[.bool true, .int .u64 t1309, .int .u64 t1310] 43 (0, 0)) (blk_put (cs := #[.bool true, .int .u64 t1309, .int .u64 t1300]) (blk_put (cs := #[.bool true, .int .u64 t1299, .int .u64 t1300]) (blk_put BK1304.out 0 _ rfl) 1 _ rfl) 2 _ rfl)
       replace HB := zkG hW_ (below_set (below_set (below_set HB.out GW1304.out) GW1304.out) GW1304.out)
       clear hW_
       replace BK1290 := Aside0.mk (blk_drew BK1290.out)
       replace BK1291 := Aside0.mk (blk_drew BK1291.out)
       replace BK1292 := Aside0.mk (blk_drew BK1292.out)
       replace BK1293 := Aside0.mk (blk_drew BK1293.out)
       replace BK1297 := Aside0.mk (blk_drew BK1297.out)
       replace BK1301 := Aside0.mk (blk_drew BK1301.out)
       replace BK1302 := Aside0.mk (blk_drew BK1302.out)
       replace BK1303 := Aside0.mk (blk_drew BK1303.out)
       replace BK1304 := Aside0.mk (blk_drew BK1304.out)
       replace HB := Aside0.mk (below_drew1 HB.out)
       refine start_ (n := 4) (S := fun w' => w'.cell? ⟨gb1302, 0, none⟩ = some (.bool true) ∧ w'.cell? ⟨gb1302, 1, none⟩ = some (.int .u64 0) ∧ w'.cell? ⟨gb1302, 2, none⟩ = some (.int .u64 0)) (ds := []) #[false, false, false, false] (by kernel_rfl) rfl rfl (ze3 BK1302) (fun hHeld => ?_)
       generalize w187.drew = w188 at BK1290 BK1291 BK1292 BK1293 BK1297 BK1301 BK1302 BK1303 BK1304 HB hHeld ⊢
       refine ztA 0 91 (h := ?_)
       refine ztA 1 92 (h := ?_)
       refine one_ (i := 2) (N := none) #[true, true, true, false] rfl rfl (by kernel_rfl) (by decide) (fun K hK => ?_)
       have hs189 := zc0 BK1292
       have hfs189 := blk_frozen BK1292.out 0
       refine zt8 NB1290_1292 NB1291_1292 NB1292_1293 NB1292_1297 NB1292_1301 NB1292_1302 NB1292_1303 NB1292_1304 fun _ _ _ _ _ _ _ _ _ _ _ _ _ _ _ _ => ?_
       have hs190 := zc1 BK1292
       have hfs190 := blk_frozen BK1292.out 1
       refine zt8 NB1290_1292 NB1291_1292 NB1292_1293 NB1292_1297 NB1292_1301 NB1292_1302 NB1292_1303 NB1292_1304 fun _ _ _ _ _ _ _ _ _ _ _ _ _ _ _ _ => ?_
       have hs191 := zc2 BK1292
       have hfs191 := blk_frozen BK1292.out 2
       refine zt8 NB1290_1292 NB1291_1292 NB1292_1293 NB1292_1297 NB1292_1301 NB1292_1302 NB1292_1303 NB1292_1304 fun _ _ _ _ _ _ _ _ _ _ _ _ _ _ _ _ => ?_
       refine skip_ (w1 := ?_) (by rfl) rfl ?_ ?_
       rotate_left
       ·go_simp
        rfl
       refine hK.out _ _ ⟨(zff (zks NB1292_1302) (zff (zks NB1292_1302) (zff (zks NB1292_1302) hHeld.1))), (zff (zks NB1292_1302) (zff (zks NB1292_1302) (zff (zks NB1292_1302) hHeld.2.1))), (zff (zks NB1292_1302) (zff (zks NB1292_1302) (zff (zks NB1292_1302) hHeld.2.2)))⟩ (fun hHeld => ?_)
       clear hK K
       refine one_ (i := 3) (N := none) #[true, true, true, true] rfl rfl (by kernel_rfl) (by decide) (fun K hK => ?_)
       have hs192 := zc0 BK1293
       have hfs192 := blk_frozen BK1293.out 0
       refine zt8 NB1290_1293 NB1291_1293 NB1292_1293 NB1293_1297 NB1293_1301 NB1293_1302 NB1293_1303 NB1293_1304 fun _ _ _ _ _ _ _ _ _ _ _ _ _ _ _ _ => ?_
       have hs193 := zc1 BK1293
       have hfs193 := blk_frozen BK1293.out 1
       refine zt8 NB1290_1293 NB1291_1293 NB1292_1293 NB1293_1297 NB1293_1301 NB1293_1302 NB1293_1303 NB1293_1304 fun _ _ _ _ _ _ _ _ _ _ _ _ _ _ _ _ => ?_
       have hs194 := zc2 BK1293
       have hfs194 := blk_frozen BK1293.out 2
       refine zt8 NB1290_1293 NB1291_1293 NB1292_1293 NB1293_1297 NB1293_1301 NB1293_1302 NB1293_1303 NB1293_1304 fun _ _ _ _ _ _ _ _ _ _ _ _ _ _ _ _ => ?_
       refine skip_ (w1 := ?_) (by rfl) rfl ?_ ?_
       rotate_left
       ·go_simp
        rfl
       refine hK.out _ _ ⟨(zff (zks NB1293_1302) (zff (zks NB1293_1302) (zff (zks NB1293_1302) hHeld.1))), (zff (zks NB1293_1302) (zff (zks NB1293_1302) (zff (zks NB1293_1302) hHeld.2.1))), (zff (zks NB1293_1302) (zff (zks NB1293_1302) (zff (zks NB1293_1302) hHeld.2.2)))⟩ (fun hHeld => ?_)
       clear hK K
       refine done_ (by kernel_rfl) ?_
       try go_wp2
       refine bodyPost_ret (results_cc rfl _ _ gb1292 gb1293 43 43 #[.bool true, .int .u64 0, .int .u64 0] #[.bool true, .int .u64 0, .int .u64 0] (0, 0) (0, 0) _ _ rfl (zkf (zkf (zkf (blk_put (cs := #[.bool true, .int .u64 0, .int .u64 0]) (blk_put (cs := #[.bool true, .int .u64 0, .int .u64 0]) (blk_put (zkq BK1292) 0 _ rfl) 1 _ rfl) 2 _ rfl) NB1292_1293.out _) NB1292_1293.out _) NB1292_1293.out _) Try.underlying43 rfl (by kernel_rfl) rfl (blk_put (cs := #[.bool true, .int .u64 0, .int .u64 0]) (blk_put (cs := #[.bool true, .int .u64 0, .int .u64 0]) (blk_put (zkf (zkf (zkf (zkq BK1293) (zks NB1292_1293).out _) (zks NB1292_1293).out _) (zks NB1292_1293).out _) 0 _ rfl) 1 _ rfl) 2 _ rfl) Try.underlying43 rfl (by kernel_rfl)) rfl ?_
       exact ⟨zaE, zaB⟩
      replace c151 := Bool.eq_false_iff.mpr c151
      subst c151
      replace H := zif H
      simp only [Option.some.injEq, Prod.mk.injEq] at H
      obtain ⟨rfl, rfl, rfl, rfl, rfl, rfl⟩ := H
      refine zt8 NB1290_1297 NB1291_1297 NB1292_1297 NB1293_1297 NB1297_1301 NB1297_1302 NB1297_1303 NB1297_1304 fun _ _ _ _ _ _ _ _ _ _ _ _ _ _ _ _ => ?_
      refine zu3 BK1297 fun z203_0 z203_1 z203_2 f203_0 f203_1 f203_2 => ?_
      refine zt7 NB1290_1301 NB1291_1301 NB1292_1301 NB1293_1301 NB1301_1302 NB1301_1303 NB1301_1304 fun _ _ _ _ _ _ _ _ _ _ _ _ _ _ => ?_
      refine zu3 BK1301 fun z211_0 z211_1 z211_2 f211_0 f211_1 f211_2 => ?_
      try go_wp2_with (first | ((with_reducible refine gtc 124 rfl ?_); refine zgL 37 Try.func124 (flyballref16_below.calls kj69 t1294 t1295 t1296 t1300 (a0 == 9) false t1306 t1307 _ A105.out) (h := ?_); rintro w212 hb; refine zcn9 HB BK1290 BK1291 BK1292 BK1293 BK1297 BK1301 BK1302 BK1303 BK1304 hb (c := ?_); clear HB BK1290 BK1291 BK1292 BK1293 BK1297 BK1301 BK1302 BK1303 BK1304 hb; intro BK1290 BK1291 BK1292 BK1293 BK1297 BK1301 BK1302 BK1303 BK1304 HB; refine zt6 NB1290_1303 NB1291_1303 NB1292_1303 NB1293_1303 NB1302_1303 NB1303_1304 fun _ _ _ _ _ _ _ _ _ _ _ _ => ?_; refine zu3 BK1303 fun z219_0 z219_1 z219_2 f219_0 f219_1 f219_2 => ?_; refine zu3 BK1301 fun z220_0 z220_1 z220_2 f220_0 f220_1 f220_2 => ?_; refine zu3 BK1297 fun z221_0 z221_1 z221_2 f221_0 f221_1 f221_2 => ?_) | ((with_reducible refine gtc 125 rfl ?_); refine zgL 43 Try.func125 (flyballref16_from.calls kj69 t1298 t1299 t1300 t1295 (a0 == 9) false t1309 t1310 _ A106.out) (h := ?_); rintro w222 hb; replace BK1290 := Aside0.mk (blk_below (zkf (zkf (zkf BK1290.out NB1290_1303.out _) NB1290_1303.out _) NB1290_1303.out _) hb); replace BK1291 := Aside0.mk (blk_below (zkf (zkf (zkf BK1291.out NB1291_1303.out _) NB1291_1303.out _) NB1291_1303.out _) hb); replace BK1292 := Aside0.mk (blk_below (zkf (zkf (zkf BK1292.out NB1292_1303.out _) NB1292_1303.out _) NB1292_1303.out _) hb); replace BK1293 := Aside0.mk (blk_below (zkf (zkf (zkf BK1293.out NB1293_1303.out _) NB1293_1303.out _) NB1293_1303.out _) hb); replace BK1297 := Aside0.mk (blk_below (zkf (zkf (zkf BK1297.out NB1297_1303.out _) NB1297_1303.out _) NB1297_1303.out _) hb); replace BK1301 := Aside0.mk (blk_below (zkf (zkf (zkf BK1301.out NB1301_1303.out _) NB1301_1303.out _) NB1301_1303.out _) hb); replace BK1302 := Aside0.mk (blk_below (zkf (zkf (zkf BK1302.out NB1302_1303.out _) NB1302_1303.out _) NB1302_1303.out _) hb); replace BK1303 := Aside0.mk (blk_below (o := .cells #[.bool false, .int .u64 t1306, .int .u64 t1307] 43 (0, 0)) (blk_put (cs := #[.bool false, .int .u64 t1306, .int .u64 t1296]) (blk_put (cs := #[.bool false, .int .u64 t1295, .int .u64 t1296]) (blk_put BK1303.out 0 _ rfl) 1 _ rfl) 2 _ rfl) hb); replace BK1304 := Aside0.mk (blk_below (zkf (zkf (zkf BK1304.out (zks NB1303_1304).out _) (zks NB1303_1304).out _) (zks NB1303_1304).out _) hb); replace HB := Aside0.mk (below_step (below_set (below_set (below_set HB.out GW1303.out) GW1303.out) GW1303.out) hb); (try clear hb); refine zt5 NB1290_1304 NB1291_1304 NB1292_1304 NB1293_1304 NB1302_1304 fun _ _ _ _ _ _ _ _ _ _ => ?_; refine zu3 BK1304 fun z228_0 z228_1 z228_2 f228_0 f228_1 f228_2 => ?_; refine zu3 BK1303 fun z229_0 z229_1 z229_2 f229_0 f229_1 f229_2 => ?_))
      generalize hW_ : (((w222.setCell ⟨gb1304, 0, none⟩ (.bool false)).setCell ⟨gb1304, 1, none⟩ (.int .u64 t1309)).setCell ⟨gb1304, 2, none⟩ (.int .u64 t1310)) = w230
      replace BK1290 := zkg hW_ (zkf (zkf (zkf BK1290.out NB1290_1304.out _) NB1290_1304.out _) NB1290_1304.out _)
      replace BK1291 := zkg hW_ (zkf (zkf (zkf BK1291.out NB1291_1304.out _) NB1291_1304.out _) NB1291_1304.out _)
      replace BK1292 := zkg hW_ (zkf (zkf (zkf BK1292.out NB1292_1304.out _) NB1292_1304.out _) NB1292_1304.out _)
      replace BK1293 := zkg hW_ (zkf (zkf (zkf BK1293.out NB1293_1304.out _) NB1293_1304.out _) NB1293_1304.out _)
      replace BK1297 := zkg hW_ (zkf (zkf (zkf BK1297.out NB1297_1304.out _) NB1297_1304.out _) NB1297_1304.out _)
      replace BK1301 := zkg hW_ (zkf (zkf (zkf BK1301.out NB1301_1304.out _) NB1301_1304.out _) NB1301_1304.out _)
      replace BK1302 := zkg hW_ (zkf (zkf (zkf BK1302.out NB1302_1304.out _) NB1302_1304.out _) NB1302_1304.out _)
      replace BK1303 := zkg hW_ (zkf (zkf (zkf BK1303.out NB1303_1304.out _) NB1303_1304.out _) NB1303_1304.out _)
      replace BK1304 := zkg hW_ (ob := .cells #[.bool false, .int .u64 t1309, .int .u64 t1310] 43 (0, 0)) (blk_put (cs := #[.bool false, .int .u64 t1309, .int .u64 t1300]) (blk_put (cs := #[.bool false, .int .u64 t1299, .int .u64 t1300]) (blk_put BK1304.out 0 _ rfl) 1 _ rfl) 2 _ rfl)
      replace HB := zkG hW_ (below_set (below_set (below_set HB.out GW1304.out) GW1304.out) GW1304.out)
      clear hW_
      replace BK1290 := Aside0.mk (blk_drew BK1290.out)
      replace BK1291 := Aside0.mk (blk_drew BK1291.out)
      replace BK1292 := Aside0.mk (blk_drew BK1292.out)
      replace BK1293 := Aside0.mk (blk_drew BK1293.out)
      replace BK1297 := Aside0.mk (blk_drew BK1297.out)
      replace BK1301 := Aside0.mk (blk_drew BK1301.out)
      replace BK1302 := Aside0.mk (blk_drew BK1302.out)
      replace BK1303 := Aside0.mk (blk_drew BK1303.out)
      replace BK1304 := Aside0.mk (blk_drew BK1304.out)
      replace HB := Aside0.mk (below_drew1 HB.out)
      refine start_ (n := 4) (S := fun w' => w'.cell? ⟨gb1303, 0, none⟩ = some (.bool false) ∧ w'.cell? ⟨gb1303, 1, none⟩ = some (.int .u64 t1306) ∧ w'.cell? ⟨gb1303, 2, none⟩ = some (.int .u64 t1307) ∧ w'.cell? ⟨gb1304, 0, none⟩ = some (.bool false) ∧ w'.cell? ⟨gb1304, 1, none⟩ = some (.int .u64 t1309) ∧ w'.cell? ⟨gb1304, 2, none⟩ = some (.int .u64 t1310)) (ds := []) #[false, false, false, false] (by kernel_rfl) rfl rfl (zk3 BK1303 (ze3 BK1304)) (fun hHeld => ?_)
      generalize w230.drew = w231 at BK1290 BK1291 BK1292 BK1293 BK1297 BK1301 BK1302 BK1303 BK1304 HB hHeld ⊢
      refine ztA 0 93 (h := ?_)
      refine ztA 1 94 (h := ?_)
      refine one_ (i := 2) (N := none) #[true, true, true, false] rfl rfl (by kernel_rfl) (by decide) (fun K hK => ?_)
      have hs232 := zc0 BK1292
      have hfs232 := blk_frozen BK1292.out 0
      refine zt8 NB1290_1292 NB1291_1292 NB1292_1293 NB1292_1297 NB1292_1301 NB1292_1302 NB1292_1303 NB1292_1304 fun _ _ _ _ _ _ _ _ _ _ _ _ _ _ _ _ => ?_
      have hs233 := zc1 BK1292
      have hfs233 := blk_frozen BK1292.out 1
      refine zt8 NB1290_1292 NB1291_1292 NB1292_1293 NB1292_1297 NB1292_1301 NB1292_1302 NB1292_1303 NB1292_1304 fun _ _ _ _ _ _ _ _ _ _ _ _ _ _ _ _ => ?_
      have hs234 := zc2 BK1292
      have hfs234 := blk_frozen BK1292.out 2
      refine zt8 NB1290_1292 NB1291_1292 NB1292_1293 NB1292_1297 NB1292_1301 NB1292_1302 NB1292_1303 NB1292_1304 fun _ _ _ _ _ _ _ _ _ _ _ _ _ _ _ _ => ?_
      refine skip_ (w1 := ?_) (by rfl) rfl ?_ ?_
      rotate_left
      ·go_simp
       rfl
      refine hK.out _ _ ⟨(zff (zks NB1292_1303) (zff (zks NB1292_1303) (zff (zks NB1292_1303) hHeld.1))), (zff (zks NB1292_1303) (zff (zks NB1292_1303) (zff (zks NB1292_1303) hHeld.2.1))), (zff (zks NB1292_1303) (zff (zks NB1292_1303) (zff (zks NB1292_1303) hHeld.2.2.1))), (zff (zks NB1292_1304) (zff (zks NB1292_1304) (zff (zks NB1292_1304) hHeld.2.2.2.1))), (zff (zks NB1292_1304) (zff (zks NB1292_1304) (zff (zks NB1292_1304) hHeld.2.2.2.2.1))), (zff (zks NB1292_1304) (zff (zks NB1292_1304) (zff (zks NB1292_1304) hHeld.2.2.2.2.2)))⟩ (fun hHeld => ?_)
      clear hK K
      refine one_ (i := 3) (N := none) #[true, true, true, true] rfl rfl (by kernel_rfl) (by decide) (fun K hK => ?_)
      have hs235 := zc0 BK1293
      have hfs235 := blk_frozen BK1293.out 0
      refine zt8 NB1290_1293 NB1291_1293 NB1292_1293 NB1293_1297 NB1293_1301 NB1293_1302 NB1293_1303 NB1293_1304 fun _ _ _ _ _ _ _ _ _ _ _ _ _ _ _ _ => ?_
      have hs236 := zc1 BK1293
      have hfs236 := blk_frozen BK1293.out 1
      refine zt8 NB1290_1293 NB1291_1293 NB1292_1293 NB1293_1297 NB1293_1301 NB1293_1302 NB1293_1303 NB1293_1304 fun _ _ _ _ _ _ _ _ _ _ _ _ _ _ _ _ => ?_
      have hs237 := zc2 BK1293
      have hfs237 := blk_frozen BK1293.out 2
      refine zt8 NB1290_1293 NB1291_1293 NB1292_1293 NB1293_1297 NB1293_1301 NB1293_1302 NB1293_1303 NB1293_1304 fun _ _ _ _ _ _ _ _ _ _ _ _ _ _ _ _ => ?_
      refine skip_ (w1 := ?_) (by rfl) rfl ?_ ?_
      rotate_left
      ·go_simp
       rfl
      refine hK.out _ _ ⟨(zff (zks NB1293_1303) (zff (zks NB1293_1303) (zff (zks NB1293_1303) hHeld.1))), (zff (zks NB1293_1303) (zff (zks NB1293_1303) (zff (zks NB1293_1303) hHeld.2.1))), (zff (zks NB1293_1303) (zff (zks NB1293_1303) (zff (zks NB1293_1303) hHeld.2.2.1))), (zff (zks NB1293_1304) (zff (zks NB1293_1304) (zff (zks NB1293_1304) hHeld.2.2.2.1))), (zff (zks NB1293_1304) (zff (zks NB1293_1304) (zff (zks NB1293_1304) hHeld.2.2.2.2.1))), (zff (zks NB1293_1304) (zff (zks NB1293_1304) (zff (zks NB1293_1304) hHeld.2.2.2.2.2)))⟩ (fun hHeld => ?_)
      clear hK K
      refine done_ (by kernel_rfl) ?_
      try go_wp2
      refine bodyPost_ret (results_cc rfl _ _ gb1292 gb1293 43 43 #[.bool false, .int .u64 t1306, .int .u64 t1307] #[.bool false, .int .u64 t1309, .int .u64 t1310] (0, 0) (0, 0) _ _ rfl (zkf (zkf (zkf (blk_put (cs := #[.bool false, .int .u64 t1306, .int .u64 0]) (blk_put (cs := #[.bool false, .int .u64 0, .int .u64 0]) (blk_put (zkq BK1292) 0 _ rfl) 1 _ rfl) 2 _ rfl) NB1292_1293.out _) NB1292_1293.out _) NB1292_1293.out _) Try.underlying43 rfl (by kernel_rfl) rfl (blk_put (cs := #[.bool false, .int .u64 t1309, .int .u64 0]) (blk_put (cs := #[.bool false, .int .u64 0, .int .u64 0]) (blk_put (zkf (zkf (zkf (zkq BK1293) (zks NB1292_1293).out _) (zks NB1292_1293).out _) (zks NB1292_1293).out _) 0 _ rfl) 1 _ rfl) 2 _ rfl) Try.underlying43 rfl (by kernel_rfl)) rfl ?_
      exact ⟨zaE, zaB⟩
     replace c104 := Bool.eq_false_iff.mpr c104
     subst c104
     replace H := zif H
     have HC238 := Aside0.mk H
     clear H
     go_upto_if 44 with (fail)
     go_cut [44] (fun v44 wc => ∃ (kq : Nat) (x44_237 : Bool), v44 = .bool x44_237 ∧ Aside0 (flyballref16_Test.j2 kq a0 a0 x44_237 t1294 t1295 t1296 t1298 t1299 t1300 true 0 0 t1294 t1295 t1296 t1298 t1299 t1300 = some (r1, r2, r3, r4, r5, r6)) ∧ Aside0 (kq ≤ kj69) ∧ Aside0 (wc.heap[gb1290]? = some (.cells #[.bool a1_0, .int .u64 a1_1, .int .u64 a1_2] 43 (0, 0))) ∧ Aside0 (wc.heap[gb1291]? = some (.cells #[.bool a2_0, .int .u64 a2_1, .int .u64 a2_2] 43 (0, 0))) ∧ Aside0 (wc.heap[gb1292]? = some (.cells #[.bool false, .int .u64 0, .int .u64 0] 43 (0, 0))) ∧ Aside0 (wc.heap[gb1293]? = some (.cells #[.bool false, .int .u64 0, .int .u64 0] 43 (0, 0))) ∧ Aside0 (wc.heap[gb1297]? = some (.cells #[.bool t1294, .int .u64 t1295, .int .u64 t1296] 43 (0, 0))) ∧ Aside0 (wc.heap[gb1301]? = some (.cells #[.bool t1298, .int .u64 t1299, .int .u64 t1300] 43 (0, 0))) ∧ Aside0 (wc.heap[gb1302]? = some (.cells #[.bool true, .int .u64 0, .int .u64 0] 43 (0, 0))) ∧ Aside0 (wc.heap[gb1303]? = some (.cells #[.bool t1294, .int .u64 t1295, .int .u64 t1296] 43 (0, 0))) ∧ Aside0 (wc.heap[gb1304]? = some (.cells #[.bool t1298, .int .u64 t1299, .int .u64 t1300] 43 (0, 0))) ∧ Aside0 (Below w.heap.size w wc))
     case first =>
      have H := HC238.out
      clear HC238
      by_cases c239 : a0 = 13
      ·rw [if_pos c239] at H
       have c239b0 : (a0 == 13) = true := beq_iff_eq.mpr c239
       have c239b1 : (a0 != 13) = false := bne_eq_false_iff_eq.mpr c239
       clear c239
       (first | rw [c239b0] | (simp only [i64_w, i32_w]; rw [c239b0]) | skip)
       have H' := Aside0.mk H
       clear H
       go_wp2
       go_meet
       case rel => exact ⟨_, ((a0 == 13)), zrl, H', ⟨by have := HJ5.out; have := HJ69.out; first | omega | exact Nat.le_refl _⟩, ⟨zkq BK1290⟩, ⟨zkq BK1291⟩, ⟨zkq BK1292⟩, ⟨zkq BK1293⟩, ⟨zkq BK1297⟩, ⟨zkq BK1301⟩, ⟨zkq BK1302⟩, ⟨zkq BK1303⟩, ⟨zkq BK1304⟩, ⟨zaB⟩⟩
      rw [if_neg c239] at H
      have c239b0 : (a0 == 13) = false := beq_eq_false_iff_ne.mpr c239
      have c239b1 : (a0 != 13) = true := bne_iff_ne.mpr c239
      (first | rw [c239b0] | (simp only [i64_w, i32_w]; rw [c239b0]) | skip)
      have H' := Aside0.mk H
      clear H
      go_wp2
      go_meet
      case rel => exact ⟨_, ((a0 == 14)), zrl, H', ⟨by have := HJ5.out; have := HJ69.out; first | omega | exact Nat.le_refl _⟩, ⟨zkq BK1290⟩, ⟨zkq BK1291⟩, ⟨zkq BK1292⟩, ⟨zkq BK1293⟩, ⟨zkq BK1297⟩, ⟨zkq BK1301⟩, ⟨zkq BK1302⟩, ⟨zkq BK1303⟩, ⟨zkq BK1304⟩, ⟨zaB⟩⟩
     case rest =>
      clear HC238
      try clear c239b0
      try clear c239b1
      try clear z160_0 z160_1 z160_2 f160_0 f160_1 f160_2
      try clear z168_0 z168_1 z168_2 f168_0 f168_1 f168_2
      try clear z176_0 z176_1 z176_2 f176_0 f176_1 f176_2
      try clear z177_0 z177_1 z177_2 f177_0 f177_1 f177_2
      try clear z178_0 z178_1 z178_2 f178_0 f178_1 f178_2
      try clear z185_0 z185_1 z185_2 f185_0 f185_1 f185_2
      try clear z186_0 z186_1 z186_2 f186_0 f186_1 f186_2
      try clear z203_0 z203_1 z203_2 f203_0 f203_1 f203_2
      try clear z211_0 z211_1 z211_2 f211_0 f211_1 f211_2
      try clear z219_0 z219_1 z219_2 f219_0 f219_1 f219_2
      try clear z220_0 z220_1 z220_2 f220_0 f220_1 f220_2
      try clear z221_0 z221_1 z221_2 f221_0 f221_1 f221_2
      try clear z228_0 z228_1 z228_2 f228_0 f228_1 f228_2
      try clear z229_0 z229_1 z229_2 f229_0 f229_1 f229_2
      obtain ⟨kq, x44_237, rfl, HA, HJ237, BK1290, BK1291, BK1292, BK1293, BK1297, BK1301, BK1302, BK1303, BK1304, HB⟩ := hcut
      cases kq with
      | zero => exact absurd HA.out (by simp [flyballref16_Test.j2])
      | succ kj237 =>
       have H := HA.out
       clear HA
       simp only [flyballref16_Test.j2] at H
       by_cases c240 : x44_237 = true
       ·subst c240
        replace H := zit H
        obtain ⟨⟨t1311, t1312, t1313⟩, A241, H⟩ := zbs H
        try dsimp only at H
        obtain ⟨⟨t1314, t1315, t1316⟩, A242, H⟩ := zbs H
        try dsimp only at H
        by_cases c243 : t1311 = true
        ·subst c243
         replace H := zit H
         simp only [Option.some.injEq, Prod.mk.injEq] at H
         obtain ⟨rfl, rfl, rfl, rfl, rfl, rfl⟩ := H
         refine zt8 NB1290_1297 NB1291_1297 NB1292_1297 NB1293_1297 NB1297_1301 NB1297_1302 NB1297_1303 NB1297_1304 fun _ _ _ _ _ _ _ _ _ _ _ _ _ _ _ _ => ?_
         refine zu3 BK1297 fun _ _ _ _ _ _ => ?_
         refine zt7 NB1290_1301 NB1291_1301 NB1292_1301 NB1293_1301 NB1301_1302 NB1301_1303 NB1301_1304 fun _ _ _ _ _ _ _ _ _ _ _ _ _ _ => ?_
         refine zu3 BK1301 fun _ _ _ _ _ _ => ?_
         try go_wp2_with (first | ((with_reducible refine gtc 125 rfl ?_); refine zgL 52 Try.func125 (flyballref16_from.calls kj237 t1294 t1295 t1296 t1299 (a0 == 13) true t1312 t1313 _ A241.out) (h := ?_); rintro w261 hb; refine zcn9 HB BK1290 BK1291 BK1292 BK1293 BK1297 BK1301 BK1302 BK1303 BK1304 hb (c := ?_); clear HB BK1290 BK1291 BK1292 BK1293 BK1297 BK1301 BK1302 BK1303 BK1304 hb; intro BK1290 BK1291 BK1292 BK1293 BK1297 BK1301 BK1302 BK1303 BK1304 HB; refine zt6 NB1290_1303 NB1291_1303 NB1292_1303 NB1293_1303 NB1302_1303 NB1303_1304 fun _ _ _ _ _ _ _ _ _ _ _ _ => ?_; refine zu3 BK1303 fun _ _ _ _ _ _ => ?_; refine zu3 BK1301 fun _ _ _ _ _ _ => ?_; refine zu3 BK1297 fun _ _ _ _ _ _ => ?_) | ((with_reducible refine gtc 124 rfl ?_); refine zgL 58 Try.func124 (flyballref16_below.calls kj237 t1298 t1299 t1300 t1296 (a0 == 13) t1314 t1315 t1316 _ A242.out) (h := ?_); rintro w271 hb; replace BK1290 := Aside0.mk (blk_below (zkf (zkf (zkf BK1290.out NB1290_1303.out _) NB1290_1303.out _) NB1290_1303.out _) hb); replace BK1291 := Aside0.mk (blk_below (zkf (zkf (zkf BK1291.out NB1291_1303.out _) NB1291_1303.out _) NB1291_1303.out _) hb); replace BK1292 := Aside0.mk (blk_below (zkf (zkf (zkf BK1292.out NB1292_1303.out _) NB1292_1303.out _) NB1292_1303.out _) hb); replace BK1293 := Aside0.mk (blk_below (zkf (zkf (zkf BK1293.out NB1293_1303.out _) NB1293_1303.out _) NB1293_1303.out _) hb); replace BK1297 := Aside0.mk (blk_below (zkf (zkf (zkf BK1297.out NB1297_1303.out _) NB1297_1303.out _) NB1297_1303.out _) hb); replace BK1301 := Aside0.mk (blk_below (zkf (zkf (zkf BK1301.out NB1301_1303.out _) NB1301_1303.out _) NB1301_1303.out _) hb); replace BK1302 := Aside0.mk (blk_below (zkf (zkf (zkf BK1302.out NB1302_1303.out _) NB1302_1303.out _) NB1302_1303.out _) hb); replace BK1303 := Aside0.mk (blk_below (o := .cells #[.bool true, .int .u64 t1312, .int .u64 t1313] 43 (0, 0)) (blk_put (cs := #[.bool true, .int .u64 t1312, .int .u64 t1296]) (blk_put (cs := #[.bool true, .int .u64 t1295, .int .u64 t1296]) (blk_put BK1303.out 0 _ rfl) 1 _ rfl) 2 _ rfl) hb); replace BK1304 := Aside0.mk (blk_below (zkf (zkf (zkf BK1304.out (zks NB1303_1304).out _) (zks NB1303_1304).out _) (zks NB1303_1304).out _) hb); replace HB := Aside0.mk (below_step (below_set (below_set (below_set HB.out GW1303.out) GW1303.out) GW1303.out) hb); (try clear hb); refine zt5 NB1290_1304 NB1291_1304 NB1292_1304 NB1293_1304 NB1302_1304 fun _ _ _ _ _ _ _ _ _ _ => ?_; refine zu3 BK1304 fun _ _ _ _ _ _ => ?_; refine zu3 BK1303 fun _ _ _ _ _ _ => ?_))
         generalize hW_ : (((w271.setCell ⟨gb1304, 0, none⟩ (.bool t1314)).setCell ⟨gb1304, 1, none⟩ (.int .u64 t1315)).setCell ⟨gb1304, 2, none⟩ (.int .u64 t1316)) = w279
         replace BK1290 := zkg hW_ (zkf (zkf (zkf BK1290.out NB1290_1304.out _) NB1290_1304.out _) NB1290_1304.out _)
         replace BK1291 := zkg hW_ (zkf (zkf (zkf BK1291.out NB1291_1304.out _) NB1291_1304.out _) NB1291_1304.out _)
         replace BK1292 := zkg hW_ (zkf (zkf (zkf BK1292.out NB1292_1304.out _) NB1292_1304.out _) NB1292_1304.out _)
         replace BK1293 := zkg hW_ (zkf (zkf (zkf BK1293.out NB1293_1304.out _) NB1293_1304.out _) NB1293_1304.out _)
         replace BK1297 := zkg hW_ (zkf (zkf (zkf BK1297.out NB1297_1304.out _) NB1297_1304.out _) NB1297_1304.out _)
         replace BK1301 := zkg hW_ (zkf (zkf (zkf BK1301.out NB1301_1304.out _) NB1301_1304.out _) NB1301_1304.out _)
         replace BK1302 := zkg hW_ (zkf (zkf (zkf BK1302.out NB1302_1304.out _) NB1302_1304.out _) NB1302_1304.out _)
         replace BK1303 := zkg hW_ (zkf (zkf (zkf BK1303.out NB1303_1304.out _) NB1303_1304.out _) NB1303_1304.out _)
         replace BK1304 := zkg hW_ (ob := .cells #[.bool t1314, .int .u64 t1315, .int .u64 t1316] 43 (0, 0)) (blk_put (cs := #[.bool t1314, .int .u64 t1315, .int .u64 t1300]) (blk_put (cs := #[.bool t1314, .int .u64 t1299, .int .u64 t1300]) (blk_put BK1304.out 0 _ rfl) 1 _ rfl) 2 _ rfl)
         replace HB := zkG hW_ (below_set (below_set (below_set HB.out GW1304.out) GW1304.out) GW1304.out)
         clear hW_
         replace BK1290 := Aside0.mk (blk_drew BK1290.out)
         replace BK1291 := Aside0.mk (blk_drew BK1291.out)
         replace BK1292 := Aside0.mk (blk_drew BK1292.out)
         replace BK1293 := Aside0.mk (blk_drew BK1293.out)
         replace BK1297 := Aside0.mk (blk_drew BK1297.out)
         replace BK1301 := Aside0.mk (blk_drew BK1301.out)
         replace BK1302 := Aside0.mk (blk_drew BK1302.out)
         replace BK1303 := Aside0.mk (blk_drew BK1303.out)
         replace BK1304 := Aside0.mk (blk_drew BK1304.out)
         replace HB := Aside0.mk (below_drew1 HB.out)
         refine start_ (n := 4) (S := fun w' => w'.cell? ⟨gb1302, 0, none⟩ = some (.bool true) ∧ w'.cell? ⟨gb1302, 1, none⟩ = some (.int .u64 0) ∧ w'.cell? ⟨gb1302, 2, none⟩ = some (.int .u64 0)) (ds := []) #[false, false, false, false] (by kernel_rfl) rfl rfl (ze3 BK1302) (fun hHeld => ?_)
         generalize w279.drew = w280 at BK1290 BK1291 BK1292 BK1293 BK1297 BK1301 BK1302 BK1303 BK1304 HB hHeld ⊢
         refine ztA 0 91 (h := ?_)
         refine ztA 1 92 (h := ?_)
         refine one_ (i := 2) (N := none) #[true, true, true, false] rfl rfl (by kernel_rfl) (by decide) (fun K hK => ?_)
         have hs281 := zc0 BK1292
         have hfs281 := blk_frozen BK1292.out 0
         refine zt8 NB1290_1292 NB1291_1292 NB1292_1293 NB1292_1297 NB1292_1301 NB1292_1302 NB1292_1303 NB1292_1304 fun _ _ _ _ _ _ _ _ _ _ _ _ _ _ _ _ => ?_
         have hs282 := zc1 BK1292
         have hfs282 := blk_frozen BK1292.out 1
         refine zt8 NB1290_1292 NB1291_1292 NB1292_1293 NB1292_1297 NB1292_1301 NB1292_1302 NB1292_1303 NB1292_1304 fun _ _ _ _ _ _ _ _ _ _ _ _ _ _ _ _ => ?_
         have hs283 := zc2 BK1292
         have hfs283 := blk_frozen BK1292.out 2
         refine zt8 NB1290_1292 NB1291_1292 NB1292_1293 NB1292_1297 NB1292_1301 NB1292_1302 NB1292_1303 NB1292_1304 fun _ _ _ _ _ _ _ _ _ _ _ _ _ _ _ _ => ?_
         refine skip_ (w1 := ?_) (by rfl) rfl ?_ ?_
         rotate_left
         ·go_simp
          rfl
         refine hK.out _ _ ⟨(zff (zks NB1292_1302) (zff (zks NB1292_1302) (zff (zks NB1292_1302) hHeld.1))), (zff (zks NB1292_1302) (zff (zks NB1292_1302) (zff (zks NB1292_1302) hHeld.2.1))), (zff (zks NB1292_1302) (zff (zks NB1292_1302) (zff (zks NB1292_1302) hHeld.2.2)))⟩ (fun hHeld => ?_)
         clear hK K
         refine one_ (i := 3) (N := none) #[true, true, true, true] rfl rfl (by kernel_rfl) (by decide) (fun K hK => ?_)
         have hs284 := zc0 BK1293
         have hfs284 := blk_frozen BK1293.out 0
         refine zt8 NB1290_1293 NB1291_1293 NB1292_1293 NB1293_1297 NB1293_1301 NB1293_1302 NB1293_1303 NB1293_1304 fun _ _ _ _ _ _ _ _ _ _ _ _ _ _ _ _ => ?_
         have hs285 := zc1 BK1293
         have hfs285 := blk_frozen BK1293.out 1
         refine zt8 NB1290_1293 NB1291_1293 NB1292_1293 NB1293_1297 NB1293_1301 NB1293_1302 NB1293_1303 NB1293_1304 fun _ _ _ _ _ _ _ _ _ _ _ _ _ _ _ _ => ?_
         have hs286 := zc2 BK1293
         have hfs286 := blk_frozen BK1293.out 2
         refine zt8 NB1290_1293 NB1291_1293 NB1292_1293 NB1293_1297 NB1293_1301 NB1293_1302 NB1293_1303 NB1293_1304 fun _ _ _ _ _ _ _ _ _ _ _ _ _ _ _ _ => ?_
         refine skip_ (w1 := ?_) (by rfl) rfl ?_ ?_
         rotate_left
         ·go_simp
          rfl
         refine hK.out _ _ ⟨(zff (zks NB1293_1302) (zff (zks NB1293_1302) (zff (zks NB1293_1302) hHeld.1))), (zff (zks NB1293_1302) (zff (zks NB1293_1302) (zff (zks NB1293_1302) hHeld.2.1))), (zff (zks NB1293_1302) (zff (zks NB1293_1302) (zff (zks NB1293_1302) hHeld.2.2)))⟩ (fun hHeld => ?_)
         clear hK K
         refine done_ (by kernel_rfl) ?_
         try go_wp2
         refine bodyPost_ret (results_cc rfl _ _ gb1292 gb1293 43 43 #[.bool true, .int .u64 0, .int .u64 0] #[.bool true, .int .u64 0, .int .u64 0] (0, 0) (0, 0) _ _ rfl (zkf (zkf (zkf (blk_put (cs := #[.bool true, .int .u64 0, .int .u64 0]) (blk_put (cs := #[.bool true, .int .u64 0, .int .u64 0]) (blk_put (zkq BK1292) 0 _ rfl) 1 _ rfl) 2 _ rfl) NB1292_1293.out _) NB1292_1293.out _) NB1292_1293.out _) Try.underlying43 rfl (by kernel_rfl) rfl (blk_put (cs := #[.bool true, .int .u64 0, .int .u64 0]) (blk_put (cs := #[.bool true, .int .u64 0, .int .u64 0]) (blk_put (zkf (zkf (zkf (zkq BK1293) (zks NB1292_1293).out _) (zks NB1292_1293).out _) (zks NB1292_1293).out _) 0 _ rfl) 1 _ rfl) 2 _ rfl) Try.underlying43 rfl (by kernel_rfl)) rfl ?_
         exact ⟨zaE, zaB⟩
        replace c243 := Bool.eq_false_iff.mpr c243
        subst c243
        replace H := zif H
        by_cases c287 : t1314 = true
        ·subst c287
         replace H := zit H
         simp only [Option.some.injEq, Prod.mk.injEq] at H
         obtain ⟨rfl, rfl, rfl, rfl, rfl, rfl⟩ := H
         refine zt8 NB1290_1297 NB1291_1297 NB1292_1297 NB1293_1297 NB1297_1301 NB1297_1302 NB1297_1303 NB1297_1304 fun _ _ _ _ _ _ _ _ _ _ _ _ _ _ _ _ => ?_
         refine zu3 BK1297 fun _ _ _ _ _ _ => ?_
         refine zt7 NB1290_1301 NB1291_1301 NB1292_1301 NB1293_1301 NB1301_1302 NB1301_1303 NB1301_1304 fun _ _ _ _ _ _ _ _ _ _ _ _ _ _ => ?_
         refine zu3 BK1301 fun _ _ _ _ _ _ => ?_
         try go_wp2_with (first | ((with_reducible refine gtc 125 rfl ?_); refine zgL 52 Try.func125 (flyballref16_from.calls kj237 t1294 t1295 t1296 t1299 (a0 == 13) false t1312 t1313 _ A241.out) (h := ?_); rintro w305 hb; refine zcn9 HB BK1290 BK1291 BK1292 BK1293 BK1297 BK1301 BK1302 BK1303 BK1304 hb (c := ?_); clear HB BK1290 BK1291 BK1292 BK1293 BK1297 BK1301 BK1302 BK1303 BK1304 hb; intro BK1290 BK1291 BK1292 BK1293 BK1297 BK1301 BK1302 BK1303 BK1304 HB; refine zt6 NB1290_1303 NB1291_1303 NB1292_1303 NB1293_1303 NB1302_1303 NB1303_1304 fun _ _ _ _ _ _ _ _ _ _ _ _ => ?_; refine zu3 BK1303 fun _ _ _ _ _ _ => ?_; refine zu3 BK1301 fun _ _ _ _ _ _ => ?_; refine zu3 BK1297 fun _ _ _ _ _ _ => ?_) | ((with_reducible refine gtc 124 rfl ?_); refine zgL 58 Try.func124 (flyballref16_below.calls kj237 t1298 t1299 t1300 t1296 (a0 == 13) true t1315 t1316 _ A242.out) (h := ?_); rintro w315 hb; replace BK1290 := Aside0.mk (blk_below (zkf (zkf (zkf BK1290.out NB1290_1303.out _) NB1290_1303.out _) NB1290_1303.out _) hb); replace BK1291 := Aside0.mk (blk_below (zkf (zkf (zkf BK1291.out NB1291_1303.out _) NB1291_1303.out _) NB1291_1303.out _) hb); replace BK1292 := Aside0.mk (blk_below (zkf (zkf (zkf BK1292.out NB1292_1303.out _) NB1292_1303.out _) NB1292_1303.out _) hb); replace BK1293 := Aside0.mk (blk_below (zkf (zkf (zkf BK1293.out NB1293_1303.out _) NB1293_1303.out _) NB1293_1303.out _) hb); replace BK1297 := Aside0.mk (blk_below (zkf (zkf (zkf BK1297.out NB1297_1303.out _) NB1297_1303.out _) NB1297_1303.out _) hb); replace BK1301 := Aside0.mk (blk_below (zkf (zkf (zkf BK1301.out NB1301_1303.out _) NB1301_1303.out _) NB1301_1303.out _) hb); replace BK1302 := Aside0.mk (blk_below (zkf (zkf (zkf BK1302.out NB1302_1303.out _) NB1302_1303.out _) NB1302_1303.out _) hb); replace BK1303 := Aside0.mk (blk_below (o := .cells #[.bool false, .int .u64 t1312, .int .u64 t1313] 43 (0, 0)) (blk_put (cs := #[.bool false, .int .u64 t1312, .int .u64 t1296]) (blk_put (cs := #[.bool false, .int .u64 t1295, .int .u64 t1296]) (blk_put BK1303.out 0 _ rfl) 1 _ rfl) 2 _ rfl) hb); replace BK1304 := Aside0.mk (blk_below (zkf (zkf (zkf BK1304.out (zks NB1303_1304).out _) (zks NB1303_1304).out _) (zks NB1303_1304).out _) hb); replace HB := Aside0.mk (below_step (below_set (below_set (below_set HB.out GW1303.out) GW1303.out) GW1303.out) hb); (try clear hb); refine zt5 NB1290_1304 NB1291_1304 NB1292_1304 NB1293_1304 NB1302_1304 fun _ _ _ _ _ _ _ _ _ _ => ?_; refine zu3 BK1304 fun _ _ _ _ _ _ => ?_; refine zu3 BK1303 fun _ _ _ _ _ _ => ?_))
         generalize hW_ : (((w315.setCell ⟨gb1304, 0, none⟩ (.bool true)).setCell ⟨gb1304, 1, none⟩ (.int .u64 t1315)).setCell ⟨gb1304, 2, none⟩ (.int .u64 t1316)) = w323
         replace BK1290 := zkg hW_ (zkf (zkf (zkf BK1290.out NB1290_1304.out _) NB1290_1304.out _) NB1290_1304.out _)
         replace BK1291 := zkg hW_ (zkf (zkf (zkf BK1291.out NB1291_1304.out _) NB1291_1304.out _) NB1291_1304.out _)
         replace BK1292 := zkg hW_ (zkf (zkf (zkf BK1292.out NB1292_1304.out _) NB1292_1304.out _) NB1292_1304.out _)
         replace BK1293 := zkg hW_ (zkf (zkf (zkf BK1293.out NB1293_1304.out _) NB1293_1304.out _) NB1293_1304.out _)
         replace BK1297 := zkg hW_ (zkf (zkf (zkf BK1297.out NB1297_1304.out _) NB1297_1304.out _) NB1297_1304.out _)
         replace BK1301 := zkg hW_ (zkf (zkf (zkf BK1301.out NB1301_1304.out _) NB1301_1304.out _) NB1301_1304.out _)
         replace BK1302 := zkg hW_ (zkf (zkf (zkf BK1302.out NB1302_1304.out _) NB1302_1304.out _) NB1302_1304.out _)
         replace BK1303 := zkg hW_ (zkf (zkf (zkf BK1303.out NB1303_1304.out _) NB1303_1304.out _) NB1303_1304.out _)
         replace BK1304 := zkg hW_ (ob := .cells #[.bool true, .int .u64 t1315, .int .u64 t1316] 43 (0, 0)) (blk_put (cs := #[.bool true, .int .u64 t1315, .int .u64 t1300]) (blk_put (cs := #[.bool true, .int .u64 t1299, .int .u64 t1300]) (blk_put BK1304.out 0 _ rfl) 1 _ rfl) 2 _ rfl)
         replace HB := zkG hW_ (below_set (below_set (below_set HB.out GW1304.out) GW1304.out) GW1304.out)
         clear hW_
         replace BK1290 := Aside0.mk (blk_drew BK1290.out)
         replace BK1291 := Aside0.mk (blk_drew BK1291.out)
         replace BK1292 := Aside0.mk (blk_drew BK1292.out)
         replace BK1293 := Aside0.mk (blk_drew BK1293.out)
         replace BK1297 := Aside0.mk (blk_drew BK1297.out)
         replace BK1301 := Aside0.mk (blk_drew BK1301.out)
         replace BK1302 := Aside0.mk (blk_drew BK1302.out)
         replace BK1303 := Aside0.mk (blk_drew BK1303.out)
         replace BK1304 := Aside0.mk (blk_drew BK1304.out)
         replace HB := Aside0.mk (below_drew1 HB.out)
         refine start_ (n := 4) (S := fun w' => w'.cell? ⟨gb1302, 0, none⟩ = some (.bool true) ∧ w'.cell? ⟨gb1302, 1, none⟩ = some (.int .u64 0) ∧ w'.cell? ⟨gb1302, 2, none⟩ = some (.int .u64 0)) (ds := []) #[false, false, false, false] (by kernel_rfl) rfl rfl (ze3 BK1302) (fun hHeld => ?_)
         generalize w323.drew = w324 at BK1290 BK1291 BK1292 BK1293 BK1297 BK1301 BK1302 BK1303 BK1304 HB hHeld ⊢
         refine ztA 0 91 (h := ?_)
         refine ztA 1 92 (h := ?_)
         refine one_ (i := 2) (N := none) #[true, true, true, false] rfl rfl (by kernel_rfl) (by decide) (fun K hK => ?_)
         have hs325 := zc0 BK1292
         have hfs325 := blk_frozen BK1292.out 0
         refine zt8 NB1290_1292 NB1291_1292 NB1292_1293 NB1292_1297 NB1292_1301 NB1292_1302 NB1292_1303 NB1292_1304 fun _ _ _ _ _ _ _ _ _ _ _ _ _ _ _ _ => ?_
         have hs326 := zc1 BK1292
         have hfs326 := blk_frozen BK1292.out 1
         refine zt8 NB1290_1292 NB1291_1292 NB1292_1293 NB1292_1297 NB1292_1301 NB1292_1302 NB1292_1303 NB1292_1304 fun _ _ _ _ _ _ _ _ _ _ _ _ _ _ _ _ => ?_
         have hs327 := zc2 BK1292
         have hfs327 := blk_frozen BK1292.out 2
         refine zt8 NB1290_1292 NB1291_1292 NB1292_1293 NB1292_1297 NB1292_1301 NB1292_1302 NB1292_1303 NB1292_1304 fun _ _ _ _ _ _ _ _ _ _ _ _ _ _ _ _ => ?_
         refine skip_ (w1 := ?_) (by rfl) rfl ?_ ?_
         rotate_left
         ·go_simp
          rfl
         refine hK.out _ _ ⟨(zff (zks NB1292_1302) (zff (zks NB1292_1302) (zff (zks NB1292_1302) hHeld.1))), (zff (zks NB1292_1302) (zff (zks NB1292_1302) (zff (zks NB1292_1302) hHeld.2.1))), (zff (zks NB1292_1302) (zff (zks NB1292_1302) (zff (zks NB1292_1302) hHeld.2.2)))⟩ (fun hHeld => ?_)
         clear hK K
         refine one_ (i := 3) (N := none) #[true, true, true, true] rfl rfl (by kernel_rfl) (by decide) (fun K hK => ?_)
         have hs328 := zc0 BK1293
         have hfs328 := blk_frozen BK1293.out 0
         refine zt8 NB1290_1293 NB1291_1293 NB1292_1293 NB1293_1297 NB1293_1301 NB1293_1302 NB1293_1303 NB1293_1304 fun _ _ _ _ _ _ _ _ _ _ _ _ _ _ _ _ => ?_
         have hs329 := zc1 BK1293
         have hfs329 := blk_frozen BK1293.out 1
         refine zt8 NB1290_1293 NB1291_1293 NB1292_1293 NB1293_1297 NB1293_1301 NB1293_1302 NB1293_1303 NB1293_1304 fun _ _ _ _ _ _ _ _ _ _ _ _ _ _ _ _ => ?_
         have hs330 := zc2 BK1293
         have hfs330 := blk_frozen BK1293.out 2
         refine zt8 NB1290_1293 NB1291_1293 NB1292_1293 NB1293_1297 NB1293_1301 NB1293_1302 NB1293_1303 NB1293_1304 fun _ _ _ _ _ _ _ _ _ _ _ _ _ _ _ _ => ?_
         refine skip_ (w1 := ?_) (by rfl) rfl ?_ ?_
         rotate_left
         ·go_simp
          rfl
         refine hK.out _ _ ⟨(zff (zks NB1293_1302) (zff (zks NB1293_1302) (zff (zks NB1293_1302) hHeld.1))), (zff (zks NB1293_1302) (zff (zks NB1293_1302) (zff (zks NB1293_1302) hHeld.2.1))), (zff (zks NB1293_1302) (zff (zks NB1293_1302) (zff (zks NB1293_1302) hHeld.2.2)))⟩ (fun hHeld => ?_)
         clear hK K
         refine done_ (by kernel_rfl) ?_
         try go_wp2
         refine bodyPost_ret (results_cc rfl _ _ gb1292 gb1293 43 43 #[.bool true, .int .u64 0, .int .u64 0] #[.bool true, .int .u64 0, .int .u64 0] (0, 0) (0, 0) _ _ rfl (zkf (zkf (zkf (blk_put (cs := #[.bool true, .int .u64 0, .int .u64 0]) (blk_put (cs := #[.bool true, .int .u64 0, .int .u64 0]) (blk_put (zkq BK1292) 0 _ rfl) 1 _ rfl) 2 _ rfl) NB1292_1293.out _) NB1292_1293.out _) NB1292_1293.out _) Try.underlying43 rfl (by kernel_rfl) rfl (blk_put (cs := #[.bool true, .int .u64 0, .int .u64 0]) (blk_put (cs := #[.bool true, .int .u64 0, .int .u64 0]) (blk_put (zkf (zkf (zkf (zkq BK1293) (zks NB1292_1293).out _) (zks NB1292_1293).out _) (zks NB1292_1293).out _) 0 _ rfl) 1 _ rfl) 2 _ rfl) Try.underlying43 rfl (by kernel_rfl)) rfl ?_
         exact ⟨zaE, zaB⟩
        replace c287 := Bool.eq_false_iff.mpr c287
        subst c287
        replace H := zif H
        simp only [Option.some.injEq, Prod.mk.injEq] at H
        obtain ⟨rfl, rfl, rfl, rfl, rfl, rfl⟩ := H
        refine zt8 NB1290_1297 NB1291_1297 NB1292_1297 NB1293_1297 NB1297_1301 NB1297_1302 NB1297_1303 NB1297_1304 fun _ _ _ _ _ _ _ _ _ _ _ _ _ _ _ _ => ?_
        refine zu3 BK1297 fun _ _ _ _ _ _ => ?_
        refine zt7 NB1290_1301 NB1291_1301 NB1292_1301 NB1293_1301 NB1301_1302 NB1301_1303 NB1301_1304 fun _ _ _ _ _ _ _ _ _ _ _ _ _ _ => ?_
        refine zu3 BK1301 fun _ _ _ _ _ _ => ?_
        try go_wp2_with (first | ((with_reducible refine gtc 125 rfl ?_); refine zgL 52 Try.func125 (flyballref16_from.calls kj237 t1294 t1295 t1296 t1299 (a0 == 13) false t1312 t1313 _ A241.out) (h := ?_); rintro w348 hb; refine zcn9 HB BK1290 BK1291 BK1292 BK1293 BK1297 BK1301 BK1302 BK1303 BK1304 hb (c := ?_); clear HB BK1290 BK1291 BK1292 BK1293 BK1297 BK1301 BK1302 BK1303 BK1304 hb; intro BK1290 BK1291 BK1292 BK1293 BK1297 BK1301 BK1302 BK1303 BK1304 HB; refine zt6 NB1290_1303 NB1291_1303 NB1292_1303 NB1293_1303 NB1302_1303 NB1303_1304 fun _ _ _ _ _ _ _ _ _ _ _ _ => ?_; refine zu3 BK1303 fun _ _ _ _ _ _ => ?_; refine zu3 BK1301 fun _ _ _ _ _ _ => ?_; refine zu3 BK1297 fun _ _ _ _ _ _ => ?_) | ((with_reducible refine gtc 124 rfl ?_); refine zgL 58 Try.func124 (flyballref16_below.calls kj237 t1298 t1299 t1300 t1296 (a0 == 13) false t1315 t1316 _ A242.out) (h := ?_); rintro w358 hb; replace BK1290 := Aside0.mk (blk_below (zkf (zkf (zkf BK1290.out NB1290_1303.out _) NB1290_1303.out _) NB1290_1303.out _) hb); replace BK1291 := Aside0.mk (blk_below (zkf (zkf (zkf BK1291.out NB1291_1303.out _) NB1291_1303.out _) NB1291_1303.out _) hb); replace BK1292 := Aside0.mk (blk_below (zkf (zkf (zkf BK1292.out NB1292_1303.out _) NB1292_1303.out _) NB1292_1303.out _) hb); replace BK1293 := Aside0.mk (blk_below (zkf (zkf (zkf BK1293.out NB1293_1303.out _) NB1293_1303.out _) NB1293_1303.out _) hb); replace BK1297 := Aside0.mk (blk_below (zkf (zkf (zkf BK1297.out NB1297_1303.out _) NB1297_1303.out _) NB1297_1303.out _) hb); replace BK1301 := Aside0.mk (blk_below (zkf (zkf (zkf BK1301.out NB1301_1303.out _) NB1301_1303.out _) NB1301_1303.out _) hb); replace BK1302 := Aside0.mk (blk_below (zkf (zkf (zkf BK1302.out NB1302_1303.out _) NB1302_1303.out _) NB1302_1303.out _) hb); replace BK1303 := Aside0.mk (blk_below (o := .cells #[.bool false, .int .u64 t1312, .int .u64 t1313] 43 (0, 0)) (blk_put (cs := #[.bool false, .int .u64 t1312, .int .u64 t1296]) (blk_put (cs := #[.bool false, .int .u64 t1295, .int .u64 t1296]) (blk_put BK1303.out 0 _ rfl) 1 _ rfl) 2 _ rfl) hb); replace BK1304 := Aside0.mk (blk_below (zkf (zkf (zkf BK1304.out (zks NB1303_1304).out _) (zks NB1303_1304).out _) (zks NB1303_1304).out _) hb); replace HB := Aside0.mk (below_step (below_set (below_set (below_set HB.out GW1303.out) GW1303.out) GW1303.out) hb); (try clear hb); refine zt5 NB1290_1304 NB1291_1304 NB1292_1304 NB1293_1304 NB1302_1304 fun _ _ _ _ _ _ _ _ _ _ => ?_; refine zu3 BK1304 fun _ _ _ _ _ _ => ?_; refine zu3 BK1303 fun _ _ _ _ _ _ => ?_))
        generalize hW_ : (((w358.setCell ⟨gb1304, 0, none⟩ (.bool false)).setCell ⟨gb1304, 1, none⟩ (.int .u64 t1315)).setCell ⟨gb1304, 2, none⟩ (.int .u64 t1316)) = w366
        replace BK1290 := zkg hW_ (zkf (zkf (zkf BK1290.out NB1290_1304.out _) NB1290_1304.out _) NB1290_1304.out _)
        replace BK1291 := zkg hW_ (zkf (zkf (zkf BK1291.out NB1291_1304.out _) NB1291_1304.out _) NB1291_1304.out _)
        replace BK1292 := zkg hW_ (zkf (zkf (zkf BK1292.out NB1292_1304.out _) NB1292_1304.out _) NB1292_1304.out _)
        replace BK1293 := zkg hW_ (zkf (zkf (zkf BK1293.out NB1293_1304.out _) NB1293_1304.out _) NB1293_1304.out _)
        replace BK1297 := zkg hW_ (zkf (zkf (zkf BK1297.out NB1297_1304.out _) NB1297_1304.out _) NB1297_1304.out _)
        replace BK1301 := zkg hW_ (zkf (zkf (zkf BK1301.out NB1301_1304.out _) NB1301_1304.out _) NB1301_1304.out _)
        replace BK1302 := zkg hW_ (zkf (zkf (zkf BK1302.out NB1302_1304.out _) NB1302_1304.out _) NB1302_1304.out _)
        replace BK1303 := zkg hW_ (zkf (zkf (zkf BK1303.out NB1303_1304.out _) NB1303_1304.out _) NB1303_1304.out _)
        replace BK1304 := zkg hW_ (ob := .cells #[.bool false, .int .u64 t1315, .int .u64 t1316] 43 (0, 0)) (blk_put (cs := #[.bool false, .int .u64 t1315, .int .u64 t1300]) (blk_put (cs := #[.bool false, .int .u64 t1299, .int .u64 t1300]) (blk_put BK1304.out 0 _ rfl) 1 _ rfl) 2 _ rfl)
        replace HB := zkG hW_ (below_set (below_set (below_set HB.out GW1304.out) GW1304.out) GW1304.out)
        clear hW_
        replace BK1290 := Aside0.mk (blk_drew BK1290.out)
        replace BK1291 := Aside0.mk (blk_drew BK1291.out)
        replace BK1292 := Aside0.mk (blk_drew BK1292.out)
        replace BK1293 := Aside0.mk (blk_drew BK1293.out)
        replace BK1297 := Aside0.mk (blk_drew BK1297.out)
        replace BK1301 := Aside0.mk (blk_drew BK1301.out)
        replace BK1302 := Aside0.mk (blk_drew BK1302.out)
        replace BK1303 := Aside0.mk (blk_drew BK1303.out)
        replace BK1304 := Aside0.mk (blk_drew BK1304.out)
        replace HB := Aside0.mk (below_drew1 HB.out)
        refine start_ (n := 4) (S := fun w' => w'.cell? ⟨gb1303, 0, none⟩ = some (.bool false) ∧ w'.cell? ⟨gb1303, 1, none⟩ = some (.int .u64 t1312) ∧ w'.cell? ⟨gb1303, 2, none⟩ = some (.int .u64 t1313) ∧ w'.cell? ⟨gb1304, 0, none⟩ = some (.bool false) ∧ w'.cell? ⟨gb1304, 1, none⟩ = some (.int .u64 t1315) ∧ w'.cell? ⟨gb1304, 2, none⟩ = some (.int .u64 t1316)) (ds := []) #[false, false, false, false] (by kernel_rfl) rfl rfl (zk3 BK1303 (ze3 BK1304)) (fun hHeld => ?_)
        generalize w366.drew = w367 at BK1290 BK1291 BK1292 BK1293 BK1297 BK1301 BK1302 BK1303 BK1304 HB hHeld ⊢
        refine ztA 0 93 (h := ?_)
        refine ztA 1 94 (h := ?_)
        refine one_ (i := 2) (N := none) #[true, true, true, false] rfl rfl (by kernel_rfl) (by decide) (fun K hK => ?_)
        have hs368 := zc0 BK1292
        have hfs368 := blk_frozen BK1292.out 0
        refine zt8 NB1290_1292 NB1291_1292 NB1292_1293 NB1292_1297 NB1292_1301 NB1292_1302 NB1292_1303 NB1292_1304 fun _ _ _ _ _ _ _ _ _ _ _ _ _ _ _ _ => ?_
        have hs369 := zc1 BK1292
        have hfs369 := blk_frozen BK1292.out 1
        refine zt8 NB1290_1292 NB1291_1292 NB1292_1293 NB1292_1297 NB1292_1301 NB1292_1302 NB1292_1303 NB1292_1304 fun _ _ _ _ _ _ _ _ _ _ _ _ _ _ _ _ => ?_
        have hs370 := zc2 BK1292
        have hfs370 := blk_frozen BK1292.out 2
        refine zt8 NB1290_1292 NB1291_1292 NB1292_1293 NB1292_1297 NB1292_1301 NB1292_1302 NB1292_1303 NB1292_1304 fun _ _ _ _ _ _ _ _ _ _ _ _ _ _ _ _ => ?_
        refine skip_ (w1 := ?_) (by rfl) rfl ?_ ?_
        rotate_left
        ·go_simp
         rfl
        refine hK.out _ _ ⟨(zff (zks NB1292_1303) (zff (zks NB1292_1303) (zff (zks NB1292_1303) hHeld.1))), (zff (zks NB1292_1303) (zff (zks NB1292_1303) (zff (zks NB1292_1303) hHeld.2.1))), (zff (zks NB1292_1303) (zff (zks NB1292_1303) (zff (zks NB1292_1303) hHeld.2.2.1))), (zff (zks NB1292_1304) (zff (zks NB1292_1304) (zff (zks NB1292_1304) hHeld.2.2.2.1))), (zff (zks NB1292_1304) (zff (zks NB1292_1304) (zff (zks NB1292_1304) hHeld.2.2.2.2.1))), (zff (zks NB1292_1304) (zff (zks NB1292_1304) (zff (zks NB1292_1304) hHeld.2.2.2.2.2)))⟩ (fun hHeld => ?_)
        clear hK K
        refine one_ (i := 3) (N := none) #[true, true, true, true] rfl rfl (by kernel_rfl) (by decide) (fun K hK => ?_)
        have hs371 := zc0 BK1293
        have hfs371 := blk_frozen BK1293.out 0
        refine zt8 NB1290_1293 NB1291_1293 NB1292_1293 NB1293_1297 NB1293_1301 NB1293_1302 NB1293_1303 NB1293_1304 fun _ _ _ _ _ _ _ _ _ _ _ _ _ _ _ _ => ?_
        have hs372 := zc1 BK1293
        have hfs372 := blk_frozen BK1293.out 1
        refine zt8 NB1290_1293 NB1291_1293 NB1292_1293 NB1293_1297 NB1293_1301 NB1293_1302 NB1293_1303 NB1293_1304 fun _ _ _ _ _ _ _ _ _ _ _ _ _ _ _ _ => ?_
        have hs373 := zc2 BK1293
        have hfs373 := blk_frozen BK1293.out 2
        refine zt8 NB1290_1293 NB1291_1293 NB1292_1293 NB1293_1297 NB1293_1301 NB1293_1302 NB1293_1303 NB1293_1304 fun _ _ _ _ _ _ _ _ _ _ _ _ _ _ _ _ => ?_
        refine skip_ (w1 := ?_) (by rfl) rfl ?_ ?_
        rotate_left
        ·go_simp
         rfl
        refine hK.out _ _ ⟨(zff (zks NB1293_1303) (zff (zks NB1293_1303) (zff (zks NB1293_1303) hHeld.1))), (zff (zks NB1293_1303) (zff (zks NB1293_1303) (zff (zks NB1293_1303) hHeld.2.1))), (zff (zks NB1293_1303) (zff (zks NB1293_1303) (zff (zks NB1293_1303) hHeld.2.2.1))), (zff (zks NB1293_1304) (zff (zks NB1293_1304) (zff (zks NB1293_1304) hHeld.2.2.2.1))), (zff (zks NB1293_1304) (zff (zks NB1293_1304) (zff (zks NB1293_1304) hHeld.2.2.2.2.1))), (zff (zks NB1293_1304) (zff (zks NB1293_1304) (zff (zks NB1293_1304) hHeld.2.2.2.2.2)))⟩ (fun hHeld => ?_)
        clear hK K
        refine done_ (by kernel_rfl) ?_
        try go_wp2
        refine bodyPost_ret (results_cc rfl _ _ gb1292 gb1293 43 43 #[.bool false, .int .u64 t1312, .int .u64 t1313] #[.bool false, .int .u64 t1315, .int .u64 t1316] (0, 0) (0, 0) _ _ rfl (zkf (zkf (zkf (blk_put (cs := #[.bool false, .int .u64 t1312, .int .u64 0]) (blk_put (cs := #[.bool false, .int .u64 0, .int .u64 0]) (blk_put (zkq BK1292) 0 _ rfl) 1 _ rfl) 2 _ rfl) NB1292_1293.out _) NB1292_1293.out _) NB1292_1293.out _) Try.underlying43 rfl (by kernel_rfl) rfl (blk_put (cs := #[.bool false, .int .u64 t1315, .int .u64 0]) (blk_put (cs := #[.bool false, .int .u64 0, .int .u64 0]) (blk_put (zkf (zkf (zkf (zkq BK1293) (zks NB1292_1293).out _) (zks NB1292_1293).out _) (zks NB1292_1293).out _) 0 _ rfl) 1 _ rfl) 2 _ rfl) Try.underlying43 rfl (by kernel_rfl)) rfl ?_
        exact ⟨zaE, zaB⟩
       replace c240 := Bool.eq_false_iff.mpr c240
       subst c240
       replace H := zif H
       by_cases c374 : a0 = 11
       ·rw [if_pos c374] at H
        have c374b0 : (a0 == 11) = true := beq_iff_eq.mpr c374
        have c374b1 : (a0 != 11) = false := bne_eq_false_iff_eq.mpr c374
        clear c374
        obtain ⟨⟨t1317, t1318, t1319⟩, A375, H⟩ := zbs H
        try dsimp only at H
        by_cases c376 : t1317 = true
        ·subst c376
         replace H := zit H
         simp only [Option.some.injEq, Prod.mk.injEq] at H
         obtain ⟨rfl, rfl, rfl, rfl, rfl, rfl⟩ := H
         refine zt8 NB1290_1297 NB1291_1297 NB1292_1297 NB1293_1297 NB1297_1301 NB1297_1302 NB1297_1303 NB1297_1304 fun _ _ _ _ _ _ _ _ _ _ _ _ _ _ _ _ => ?_
         refine zu3 BK1297 fun z385_0 z385_1 z385_2 f385_0 f385_1 f385_2 => ?_
         refine zt7 NB1290_1301 NB1291_1301 NB1292_1301 NB1293_1301 NB1301_1302 NB1301_1303 NB1301_1304 fun _ _ _ _ _ _ _ _ _ _ _ _ _ _ => ?_
         refine zu3 BK1301 fun z393_0 z393_1 z393_2 f393_0 f393_1 f393_2 => ?_
         try go_wp2_with (first | ((with_reducible refine gtc 48 rfl ?_); refine zgL 63 Try.func48 (flyballref16_Meet.calls kj237 t1294 t1295 t1296 t1298 t1299 t1300 true t1318 t1319 _ A375.out) (h := ?_); rintro w394 hb; refine zcn9 HB BK1290 BK1291 BK1292 BK1293 BK1297 BK1301 BK1302 BK1303 BK1304 hb (c := ?_); clear HB BK1290 BK1291 BK1292 BK1293 BK1297 BK1301 BK1302 BK1303 BK1304 hb; intro BK1290 BK1291 BK1292 BK1293 BK1297 BK1301 BK1302 BK1303 BK1304 HB; refine zt6 NB1290_1303 NB1291_1303 NB1292_1303 NB1293_1303 NB1302_1303 NB1303_1304 fun _ _ _ _ _ _ _ _ _ _ _ _ => ?_; refine zu3 BK1303 fun z401_0 z401_1 z401_2 f401_0 f401_1 f401_2 => ?_; refine zt5 NB1290_1304 NB1291_1304 NB1292_1304 NB1293_1304 NB1302_1304 fun _ _ _ _ _ _ _ _ _ _ => ?_; refine zu3 BK1304 fun z407_0 z407_1 z407_2 f407_0 f407_1 f407_2 => ?_))
         generalize hW_ : ((((((w394.setCell ⟨gb1303, 0, none⟩ (.bool true)).setCell ⟨gb1303, 1, none⟩ (.int .u64 t1318)).setCell ⟨gb1303, 2, none⟩ (.int .u64 t1319)).setCell ⟨gb1304, 0, none⟩ (.bool true)).setCell ⟨gb1304, 1, none⟩ (.int .u64 t1318)).setCell ⟨gb1304, 2, none⟩ (.int .u64 t1319)) = w408
         replace BK1290 := zkg hW_ (zkf (zkf (zkf (zkf (zkf (zkf BK1290.out NB1290_1303.out _) NB1290_1303.out _) NB1290_1303.out _) NB1290_1304.out _) NB1290_1304.out _) NB1290_1304.out _)
         replace BK1291 := zkg hW_ (zkf (zkf (zkf (zkf (zkf (zkf BK1291.out NB1291_1303.out _) NB1291_1303.out _) NB1291_1303.out _) NB1291_1304.out _) NB1291_1304.out _) NB1291_1304.out _)
         replace BK1292 := zkg hW_ (zkf (zkf (zkf (zkf (zkf (zkf BK1292.out NB1292_1303.out _) NB1292_1303.out _) NB1292_1303.out _) NB1292_1304.out _) NB1292_1304.out _) NB1292_1304.out _)
         replace BK1293 := zkg hW_ (zkf (zkf (zkf (zkf (zkf (zkf BK1293.out NB1293_1303.out _) NB1293_1303.out _) NB1293_1303.out _) NB1293_1304.out _) NB1293_1304.out _) NB1293_1304.out _)
         replace BK1297 := zkg hW_ (zkf (zkf (zkf (zkf (zkf (zkf BK1297.out NB1297_1303.out _) NB1297_1303.out _) NB1297_1303.out _) NB1297_1304.out _) NB1297_1304.out _) NB1297_1304.out _)
         replace BK1301 := zkg hW_ (zkf (zkf (zkf (zkf (zkf (zkf BK1301.out NB1301_1303.out _) NB1301_1303.out _) NB1301_1303.out _) NB1301_1304.out _) NB1301_1304.out _) NB1301_1304.out _)
         replace BK1302 := zkg hW_ (zkf (zkf (zkf (zkf (zkf (zkf BK1302.out NB1302_1303.out _) NB1302_1303.out _) NB1302_1303.out _) NB1302_1304.out _) NB1302_1304.out _) NB1302_1304.out _)
         replace BK1303 := zkg hW_ (ob := .cells #[.bool true, .int .u64 t1318, .int .u64 t1319] 43 (0, 0)) (zkf (zkf (zkf (blk_put (cs := #[.bool true, .int .u64 t1318, .int .u64 t1296]) (blk_put (cs := #[.bool true, .int .u64 t1295, .int .u64 t1296]) (blk_put BK1303.out 0 _ rfl) 1 _ rfl) 2 _ rfl) NB1303_1304.out _) NB1303_1304.out _) NB1303_1304.out _)
         replace BK1304 := zkg hW_ (ob := .cells #[.bool true, .int .u64 t1318, .int .u64 t1319] 43 (0, 0)) (blk_put (cs := #[.bool true, .int .u64 t1318, .int .u64 t1300]) (blk_put (cs := #[.bool true, .int .u64 t1299, .int .u64 t1300]) (blk_put (zkf (zkf (zkf BK1304.out (zks NB1303_1304).out _) (zks NB1303_1304).out _) (zks NB1303_1304).out _) 0 _ rfl) 1 _ rfl) 2 _ rfl)
         replace HB := zkG hW_ (below_set (below_set (below_set (below_set (below_set (below_set HB.out GW1303.out) GW1303.out) GW1303.out) GW1304.out) GW1304.out) GW1304.out)
         clear hW_
         replace BK1290 := Aside0.mk (blk_drew BK1290.out)
         replace BK1291 := Aside0.mk (blk_drew BK1291.out)
         replace BK1292 := Aside0.mk (blk_drew BK1292.out)
         replace BK1293 := Aside0.mk (blk_drew BK1293.out)
         replace BK1297 := Aside0.mk (blk_drew BK1297.out)
         replace BK1301 := Aside0.mk (blk_drew BK1301.out)
         replace BK1302 := Aside0.mk (blk_drew BK1302.out)
         replace BK1303 := Aside0.mk (blk_drew BK1303.out)
         replace BK1304 := Aside0.mk (blk_drew BK1304.out)
         replace HB := Aside0.mk (below_drew1 HB.out)
         refine start_ (n := 4) (S := fun w' => w'.cell? ⟨gb1302, 0, none⟩ = some (.bool true) ∧ w'.cell? ⟨gb1302, 1, none⟩ = some (.int .u64 0) ∧ w'.cell? ⟨gb1302, 2, none⟩ = some (.int .u64 0)) (ds := []) #[false, false, false, false] (by kernel_rfl) rfl rfl (ze3 BK1302) (fun hHeld => ?_)
         generalize w408.drew = w409 at BK1290 BK1291 BK1292 BK1293 BK1297 BK1301 BK1302 BK1303 BK1304 HB hHeld ⊢
         refine ztA 0 91 (h := ?_)
         refine ztA 1 92 (h := ?_)
         refine one_ (i := 2) (N := none) #[true, true, true, false] rfl rfl (by kernel_rfl) (by decide) (fun K hK => ?_)
         have hs410 := zc0 BK1292
         have hfs410 := blk_frozen BK1292.out 0
         refine zt8 NB1290_1292 NB1291_1292 NB1292_1293 NB1292_1297 NB1292_1301 NB1292_1302 NB1292_1303 NB1292_1304 fun _ _ _ _ _ _ _ _ _ _ _ _ _ _ _ _ => ?_
         have hs411 := zc1 BK1292
         have hfs411 := blk_frozen BK1292.out 1
         refine zt8 NB1290_1292 NB1291_1292 NB1292_1293 NB1292_1297 NB1292_1301 NB1292_1302 NB1292_1303 NB1292_1304 fun _ _ _ _ _ _ _ _ _ _ _ _ _ _ _ _ => ?_
         have hs412 := zc2 BK1292
         have hfs412 := blk_frozen BK1292.out 2
         refine zt8 NB1290_1292 NB1291_1292 NB1292_1293 NB1292_1297 NB1292_1301 NB1292_1302 NB1292_1303 NB1292_1304 fun _ _ _ _ _ _ _ _ _ _ _ _ _ _ _ _ => ?_
         refine skip_ (w1 := ?_) (by rfl) rfl ?_ ?_
         rotate_left
         ·go_simp
          rfl
         refine hK.out _ _ ⟨(zff (zks NB1292_1302) (zff (zks NB1292_1302) (zff (zks NB1292_1302) hHeld.1))), (zff (zks NB1292_1302) (zff (zks NB1292_1302) (zff (zks NB1292_1302) hHeld.2.1))), (zff (zks NB1292_1302) (zff (zks NB1292_1302) (zff (zks NB1292_1302) hHeld.2.2)))⟩ (fun hHeld => ?_)
         clear hK K
         refine one_ (i := 3) (N := none) #[true, true, true, true] rfl rfl (by kernel_rfl) (by decide) (fun K hK => ?_)
         have hs413 := zc0 BK1293
         have hfs413 := blk_frozen BK1293.out 0
         refine zt8 NB1290_1293 NB1291_1293 NB1292_1293 NB1293_1297 NB1293_1301 NB1293_1302 NB1293_1303 NB1293_1304 fun _ _ _ _ _ _ _ _ _ _ _ _ _ _ _ _ => ?_
         have hs414 := zc1 BK1293
         have hfs414 := blk_frozen BK1293.out 1
         refine zt8 NB1290_1293 NB1291_1293 NB1292_1293 NB1293_1297 NB1293_1301 NB1293_1302 NB1293_1303 NB1293_1304 fun _ _ _ _ _ _ _ _ _ _ _ _ _ _ _ _ => ?_
         have hs415 := zc2 BK1293
         have hfs415 := blk_frozen BK1293.out 2
         refine zt8 NB1290_1293 NB1291_1293 NB1292_1293 NB1293_1297 NB1293_1301 NB1293_1302 NB1293_1303 NB1293_1304 fun _ _ _ _ _ _ _ _ _ _ _ _ _ _ _ _ => ?_
         refine skip_ (w1 := ?_) (by rfl) rfl ?_ ?_
         rotate_left
         ·go_simp
          rfl
         refine hK.out _ _ ⟨(zff (zks NB1293_1302) (zff (zks NB1293_1302) (zff (zks NB1293_1302) hHeld.1))), (zff (zks NB1293_1302) (zff (zks NB1293_1302) (zff (zks NB1293_1302) hHeld.2.1))), (zff (zks NB1293_1302) (zff (zks NB1293_1302) (zff (zks NB1293_1302) hHeld.2.2)))⟩ (fun hHeld => ?_)
         clear hK K
         refine done_ (by kernel_rfl) ?_
         try go_wp2
         refine bodyPost_ret (results_cc rfl _ _ gb1292 gb1293 43 43 #[.bool true, .int .u64 0, .int .u64 0] #[.bool true, .int .u64 0, .int .u64 0] (0, 0) (0, 0) _ _ rfl (zkf (zkf (zkf (blk_put (cs := #[.bool true, .int .u64 0, .int .u64 0]) (blk_put (cs := #[.bool true, .int .u64 0, .int .u64 0]) (blk_put (zkq BK1292) 0 _ rfl) 1 _ rfl) 2 _ rfl) NB1292_1293.out _) NB1292_1293.out _) NB1292_1293.out _) Try.underlying43 rfl (by kernel_rfl) rfl (blk_put (cs := #[.bool true, .int .u64 0, .int .u64 0]) (blk_put (cs := #[.bool true, .int .u64 0, .int .u64 0]) (blk_put (zkf (zkf (zkf (zkq BK1293) (zks NB1292_1293).out _) (zks NB1292_1293).out _) (zks NB1292_1293).out _) 0 _ rfl) 1 _ rfl) 2 _ rfl) Try.underlying43 rfl (by kernel_rfl)) rfl ?_
         exact ⟨zaE, zaB⟩
        replace c376 := Bool.eq_false_iff.mpr c376
        subst c376
        replace H := zif H
        simp only [Option.some.injEq, Prod.mk.injEq] at H
        obtain ⟨rfl, rfl, rfl, rfl, rfl, rfl⟩ := H
        refine zt8 NB1290_1297 NB1291_1297 NB1292_1297 NB1293_1297 NB1297_1301 NB1297_1302 NB1297_1303 NB1297_1304 fun _ _ _ _ _ _ _ _ _ _ _ _ _ _ _ _ => ?_
        refine zu3 BK1297 fun z424_0 z424_1 z424_2 f424_0 f424_1 f424_2 => ?_
        refine zt7 NB1290_1301 NB1291_1301 NB1292_1301 NB1293_1301 NB1301_1302 NB1301_1303 NB1301_1304 fun _ _ _ _ _ _ _ _ _ _ _ _ _ _ => ?_
        refine zu3 BK1301 fun z432_0 z432_1 z432_2 f432_0 f432_1 f432_2 => ?_
        try go_wp2_with (first | ((with_reducible refine gtc 48 rfl ?_); refine zgL 63 Try.func48 (flyballref16_Meet.calls kj237 t1294 t1295 t1296 t1298 t1299 t1300 false t1318 t1319 _ A375.out) (h := ?_); rintro w433 hb; refine zcn9 HB BK1290 BK1291 BK1292 BK1293 BK1297 BK1301 BK1302 BK1303 BK1304 hb (c := ?_); clear HB BK1290 BK1291 BK1292 BK1293 BK1297 BK1301 BK1302 BK1303 BK1304 hb; intro BK1290 BK1291 BK1292 BK1293 BK1297 BK1301 BK1302 BK1303 BK1304 HB; refine zt6 NB1290_1303 NB1291_1303 NB1292_1303 NB1293_1303 NB1302_1303 NB1303_1304 fun _ _ _ _ _ _ _ _ _ _ _ _ => ?_; refine zu3 BK1303 fun z440_0 z440_1 z440_2 f440_0 f440_1 f440_2 => ?_; refine zt5 NB1290_1304 NB1291_1304 NB1292_1304 NB1293_1304 NB1302_1304 fun _ _ _ _ _ _ _ _ _ _ => ?_; refine zu3 BK1304 fun z446_0 z446_1 z446_2 f446_0 f446_1 f446_2 => ?_))
        generalize hW_ : ((((((w433.setCell ⟨gb1303, 0, none⟩ (.bool false)).setCell ⟨gb1303, 1, none⟩ (.int .u64 t1318)).setCell ⟨gb1303, 2, none⟩ (.int .u64 t1319)).setCell ⟨gb1304, 0, none⟩ (.bool false)).setCell ⟨gb1304, 1, none⟩ (.int .u64 t1318)).setCell ⟨gb1304, 2, none⟩ (.int .u64 t1319)) = w447
        replace BK1290 := zkg hW_ (zkf (zkf (zkf (zkf (zkf (zkf BK1290.out NB1290_1303.out _) NB1290_1303.out _) NB1290_1303.out _) NB1290_1304.out _) NB1290_1304.out _) NB1290_1304.out _)
        replace BK1291 := zkg hW_ (zkf (zkf (zkf (zkf (zkf (zkf BK1291.out NB1291_1303.out _) NB1291_1303.out _) NB1291_1303.out _) NB1291_1304.out _) NB1291_1304.out _) NB1291_1304.out _)
        replace BK1292 := zkg hW_ (zkf (zkf (zkf (zkf (zkf (zkf BK1292.out NB1292_1303.out _) NB1292_1303.out _) NB1292_1303.out _) NB1292_1304.out _) NB1292_1304.out _) NB1292_1304.out _)
        replace BK1293 := zkg hW_ (zkf (zkf (zkf (zkf (zkf (zkf BK1293.out NB1293_1303.out _) NB1293_1303.out _) NB1293_1303.out _) NB1293_1304.out _) NB1293_1304.out _) NB1293_1304.out _)
        replace BK1297 := zkg hW_ (zkf (zkf (zkf (zkf (zkf (zkf BK1297.out NB1297_1303.out _) NB1297_1303.out _) NB1297_1303.out _) NB1297_1304.out _) NB1297_1304.out _) NB1297_1304.out _)
        replace BK1301 := zkg hW_ (zkf (zkf (zkf (zkf (zkf (zkf BK1301.out NB1301_1303.out _) NB1301_1303.out _) NB1301_1303.out _) NB1301_1304.out _) NB1301_1304.out _) NB1301_1304.out _)
        replace BK1302 := zkg hW_ (zkf (zkf (zkf (zkf (zkf (zkf BK1302.out NB1302_1303.out _) NB1302_1303.out _) NB1302_1303.out _) NB1302_1304.out _) NB1302_1304.out _) NB1302_1304.out _)
        replace BK1303 := zkg hW_ (ob := .cells #[.bool false, .int .u64 t1318, .int .u64 t1319] 43 (0, 0)) (zkf (zkf (zkf (blk_put (cs := #[.bool false, .int .u64 t1318, .int .u64 t1296]) (blk_put (cs := #[.bool false, .int .u64 t1295, .int .u64 t1296]) (blk_put BK1303.out 0 _ rfl) 1 _ rfl) 2 _ rfl) NB1303_1304.out _) NB1303_1304.out _) NB1303_1304.out _)
        replace BK1304 := zkg hW_ (ob := .cells #[.bool false, .int .u64 t1318, .int .u64 t1319] 43 (0, 0)) (blk_put (cs := #[.bool false, .int .u64 t1318, .int .u64 t1300]) (blk_put (cs := #[.bool false, .int .u64 t1299, .int .u64 t1300]) (blk_put (zkf (zkf (zkf BK1304.out (zks NB1303_1304).out _) (zks NB1303_1304).out _) (zks NB1303_1304).out _) 0 _ rfl) 1 _ rfl) 2 _ rfl)
        replace HB := zkG hW_ (below_set (below_set (below_set (below_set (below_set (below_set HB.out GW1303.out) GW1303.out) GW1303.out) GW1304.out) GW1304.out) GW1304.out)
        clear hW_
        replace BK1290 := Aside0.mk (blk_drew BK1290.out)
        replace BK1291 := Aside0.mk (blk_drew BK1291.out)
        replace BK1292 := Aside0.mk (blk_drew BK1292.out)
        replace BK1293 := Aside0.mk (blk_drew BK1293.out)
        replace BK1297 := Aside0.mk (blk_drew BK1297.out)
        replace BK1301 := Aside0.mk (blk_drew BK1301.out)
        replace BK1302 := Aside0.mk (blk_drew BK1302.out)
        replace BK1303 := Aside0.mk (blk_drew BK1303.out)
        replace BK1304 := Aside0.mk (blk_drew BK1304.out)
        replace HB := Aside0.mk (below_drew1 HB.out)
        refine start_ (n := 4) (S := fun w' => w'.cell? ⟨gb1303, 0, none⟩ = some (.bool false) ∧ w'.cell? ⟨gb1303, 1, none⟩ = some (.int .u64 t1318) ∧ w'.cell? ⟨gb1303, 2, none⟩ = some (.int .u64 t1319) ∧ w'.cell? ⟨gb1304, 0, none⟩ = some (.bool false) ∧ w'.cell? ⟨gb1304, 1, none⟩ = some (.int .u64 t1318) ∧ w'.cell? ⟨gb1304, 2, none⟩ = some (.int .u64 t1319)) (ds := []) #[false, false, false, false] (by kernel_rfl) rfl rfl (zk3 BK1303 (ze3 BK1304)) (fun hHeld => ?_)
        generalize w447.drew = w448 at BK1290 BK1291 BK1292 BK1293 BK1297 BK1301 BK1302 BK1303 BK1304 HB hHeld ⊢
        refine ztA 0 93 (h := ?_)
        refine ztA 1 94 (h := ?_)
        refine one_ (i := 2) (N := none) #[true, true, true, false] rfl rfl (by kernel_rfl) (by decide) (fun K hK => ?_)
        have hs449 := zc0 BK1292
        have hfs449 := blk_frozen BK1292.out 0
        refine zt8 NB1290_1292 NB1291_1292 NB1292_1293 NB1292_1297 NB1292_1301 NB1292_1302 NB1292_1303 NB1292_1304 fun _ _ _ _ _ _ _ _ _ _ _ _ _ _ _ _ => ?_
        have hs450 := zc1 BK1292
        have hfs450 := blk_frozen BK1292.out 1
        refine zt8 NB1290_1292 NB1291_1292 NB1292_1293 NB1292_1297 NB1292_1301 NB1292_1302 NB1292_1303 NB1292_1304 fun _ _ _ _ _ _ _ _ _ _ _ _ _ _ _ _ => ?_
        have hs451 := zc2 BK1292
        have hfs451 := blk_frozen BK1292.out 2
        refine zt8 NB1290_1292 NB1291_1292 NB1292_1293 NB1292_1297 NB1292_1301 NB1292_1302 NB1292_1303 NB1292_1304 fun _ _ _ _ _ _ _ _ _ _ _ _ _ _ _ _ => ?_
        refine skip_ (w1 := ?_) (by rfl) rfl ?_ ?_
        rotate_left
        ·go_simp
         rfl
        refine hK.out _ _ ⟨(zff (zks NB1292_1303) (zff (zks NB1292_1303) (zff (zks NB1292_1303) hHeld.1))), (zff (zks NB1292_1303) (zff (zks NB1292_1303) (zff (zks NB1292_1303) hHeld.2.1))), (zff (zks NB1292_1303) (zff (zks NB1292_1303) (zff (zks NB1292_1303) hHeld.2.2.1))), (zff (zks NB1292_1304) (zff (zks NB1292_1304) (zff (zks NB1292_1304) hHeld.2.2.2.1))), (zff (zks NB1292_1304) (zff (zks NB1292_1304) (zff (zks NB1292_1304) hHeld.2.2.2.2.1))), (zff (zks NB1292_1304) (zff (zks NB1292_1304) (zff (zks NB1292_1304) hHeld.2.2.2.2.2)))⟩ (fun hHeld => ?_)
        clear hK K
        refine one_ (i := 3) (N := none) #[true, true, true, true] rfl rfl (by kernel_rfl) (by decide) (fun K hK => ?_)
        have hs452 := zc0 BK1293
        have hfs452 := blk_frozen BK1293.out 0
        refine zt8 NB1290_1293 NB1291_1293 NB1292_1293 NB1293_1297 NB1293_1301 NB1293_1302 NB1293_1303 NB1293_1304 fun _ _ _ _ _ _ _ _ _ _ _ _ _ _ _ _ => ?_
        have hs453 := zc1 BK1293
        have hfs453 := blk_frozen BK1293.out 1
        refine zt8 NB1290_1293 NB1291_1293 NB1292_1293 NB1293_1297 NB1293_1301 NB1293_1302 NB1293_1303 NB1293_1304 fun _ _ _ _ _ _ _ _ _ _ _ _ _ _ _ _ => ?_
        have hs454 := zc2 BK1293
        have hfs454 := blk_frozen BK1293.out 2
        refine zt8 NB1290_1293 NB1291_1293 NB1292_1293 NB1293_1297 NB1293_1301 NB1293_1302 NB1293_1303 NB1293_1304 fun _ _ _ _ _ _ _ _ _ _ _ _ _ _ _ _ => ?_
        refine skip_ (w1 := ?_) (by rfl) rfl ?_ ?_
        rotate_left
        ·go_simp
         rfl
        refine hK.out _ _ ⟨(zff (zks NB1293_1303) (zff (zks NB1293_1303) (zff (zks NB1293_1303) hHeld.1))), (zff (zks NB1293_1303) (zff (zks NB1293_1303) (zff (zks NB1293_1303) hHeld.2.1))), (zff (zks NB1293_1303) (zff (zks NB1293_1303) (zff (zks NB1293_1303) hHeld.2.2.1))), (zff (zks NB1293_1304) (zff (zks NB1293_1304) (zff (zks NB1293_1304) hHeld.2.2.2.1))), (zff (zks NB1293_1304) (zff (zks NB1293_1304) (zff (zks NB1293_1304) hHeld.2.2.2.2.1))), (zff (zks NB1293_1304) (zff (zks NB1293_1304) (zff (zks NB1293_1304) hHeld.2.2.2.2.2)))⟩ (fun hHeld => ?_)
        clear hK K
        refine done_ (by kernel_rfl) ?_
        try go_wp2
        refine bodyPost_ret (results_cc rfl _ _ gb1292 gb1293 43 43 #[.bool false, .int .u64 t1318, .int .u64 t1319] #[.bool false, .int .u64 t1318, .int .u64 t1319] (0, 0) (0, 0) _ _ rfl (zkf (zkf (zkf (blk_put (cs := #[.bool false, .int .u64 t1318, .int .u64 0]) (blk_put (cs := #[.bool false, .int .u64 0, .int .u64 0]) (blk_put (zkq BK1292) 0 _ rfl) 1 _ rfl) 2 _ rfl) NB1292_1293.out _) NB1292_1293.out _) NB1292_1293.out _) Try.underlying43 rfl (by kernel_rfl) rfl (blk_put (cs := #[.bool false, .int .u64 t1318, .int .u64 0]) (blk_put (cs := #[.bool false, .int .u64 0, .int .u64 0]) (blk_put (zkf (zkf (zkf (zkq BK1293) (zks NB1292_1293).out _) (zks NB1292_1293).out _) (zks NB1292_1293).out _) 0 _ rfl) 1 _ rfl) 2 _ rfl) Try.underlying43 rfl (by kernel_rfl)) rfl ?_
        exact ⟨zaE, zaB⟩
       rw [if_neg c374] at H
       have c374b0 : (a0 == 11) = false := beq_eq_false_iff_ne.mpr c374
       have c374b1 : (a0 != 11) = true := bne_iff_ne.mpr c374
       by_cases c455 : a0 = 12
       ·rw [if_pos c455] at H
        have c455b0 : (a0 == 12) = true := beq_iff_eq.mpr c455
        have c455b1 : (a0 != 12) = false := bne_eq_false_iff_eq.mpr c455
        clear c455
        have HC456 := Aside0.mk H
        clear H
        refine zt8 NB1290_1301 NB1291_1301 NB1292_1301 NB1293_1301 NB1297_1301 NB1301_1302 NB1301_1303 NB1301_1304 fun _ _ _ _ _ _ _ _ _ _ _ _ _ _ _ _ => ?_
        refine zu3 BK1301 fun z465_0 z465_1 z465_2 f465_0 f465_1 f465_2 => ?_
        go_upto_if 71 with (fail)
        go_cut [] (fun wc => ∃ (kq : Nat) (x1304000_455 : Bool) (x1304001_455 : Int) (x1304002_455 : Int), Aside0 (flyballref16_Test.j3 kq t1294 t1295 t1296 t1298 t1299 t1300 true 0 0 x1304000_455 x1304001_455 x1304002_455 t1298 t1299 t1300 = some (r1, r2, r3, r4, r5, r6)) ∧ Aside0 (kq ≤ kj237) ∧ Aside0 (wc.heap[gb1290]? = some (.cells #[.bool a1_0, .int .u64 a1_1, .int .u64 a1_2] 43 (0, 0))) ∧ Aside0 (wc.heap[gb1291]? = some (.cells #[.bool a2_0, .int .u64 a2_1, .int .u64 a2_2] 43 (0, 0))) ∧ Aside0 (wc.heap[gb1292]? = some (.cells #[.bool false, .int .u64 0, .int .u64 0] 43 (0, 0))) ∧ Aside0 (wc.heap[gb1293]? = some (.cells #[.bool false, .int .u64 0, .int .u64 0] 43 (0, 0))) ∧ Aside0 (wc.heap[gb1297]? = some (.cells #[.bool t1294, .int .u64 t1295, .int .u64 t1296] 43 (0, 0))) ∧ Aside0 (wc.heap[gb1301]? = some (.cells #[.bool t1298, .int .u64 t1299, .int .u64 t1300] 43 (0, 0))) ∧ Aside0 (wc.heap[gb1302]? = some (.cells #[.bool true, .int .u64 0, .int .u64 0] 43 (0, 0))) ∧ Aside0 (wc.heap[gb1303]? = some (.cells #[.bool x1304000_455, .int .u64 x1304001_455, .int .u64 x1304002_455] 43 (0, 0))) ∧ Aside0 (wc.heap[gb1304]? = some (.cells #[.bool t1298, .int .u64 t1299, .int .u64 t1300] 43 (0, 0))) ∧ Aside0 (Below w.heap.size w wc))
        case first =>
         have H := HC456.out
         clear HC456
         by_cases c466 : t1299 = t1300
         ·rw [if_pos c466] at H
          have c466b0 : (t1299 == t1300) = true := beq_iff_eq.mpr c466
          have c466b1 : (t1299 != t1300) = false := bne_eq_false_iff_eq.mpr c466
          clear c466
          (first | rw [c466b0] | (simp only [i64_w, i32_w]; rw [c466b0]) | skip)
          obtain ⟨⟨t1320, t1321, t1322⟩, A467, H⟩ := zbs H
          try dsimp only at H
          have H' := Aside0.mk H
          clear H
          refine zt8 NB1290_1297 NB1291_1297 NB1292_1297 NB1293_1297 NB1297_1301 NB1297_1302 NB1297_1303 NB1297_1304 fun _ _ _ _ _ _ _ _ _ _ _ _ _ _ _ _ => ?_
          refine zu3 BK1297 fun z476_0 z476_1 z476_2 f476_0 f476_1 f476_2 => ?_
          refine zt7 NB1290_1301 NB1291_1301 NB1292_1301 NB1293_1301 NB1301_1302 NB1301_1303 NB1301_1304 fun _ _ _ _ _ _ _ _ _ _ _ _ _ _ => ?_
          refine zu3 BK1301 fun z484_0 z484_1 z484_2 f484_0 f484_1 f484_2 => ?_
          go_wp2_with (first | ((with_reducible refine gtc 126 rfl ?_); refine zgL 75 Try.func126 (flyballref16_without.calls kj237 t1294 t1295 t1296 t1299 t1320 t1321 t1322 _ A467.out) (h := ?_); rintro w485 hb; refine zcn9 HB BK1290 BK1291 BK1292 BK1293 BK1297 BK1301 BK1302 BK1303 BK1304 hb (c := ?_); clear HB BK1290 BK1291 BK1292 BK1293 BK1297 BK1301 BK1302 BK1303 BK1304 hb; intro BK1290 BK1291 BK1292 BK1293 BK1297 BK1301 BK1302 BK1303 BK1304 HB; refine zt6 NB1290_1303 NB1291_1303 NB1292_1303 NB1293_1303 NB1302_1303 NB1303_1304 fun _ _ _ _ _ _ _ _ _ _ _ _ => ?_; refine zu3 BK1303 fun z492_0 z492_1 z492_2 f492_0 f492_1 f492_2 => ?_))
          go_meet
          case rel => exact ⟨_, (t1320), (t1321), (t1322), H', ⟨by have := HJ5.out; have := HJ69.out; have := HJ237.out; first | omega | exact Nat.le_refl _⟩, ⟨(zkf (zkf (zkf (zkq BK1290) NB1290_1303.out _) NB1290_1303.out _) NB1290_1303.out _)⟩, ⟨(zkf (zkf (zkf (zkq BK1291) NB1291_1303.out _) NB1291_1303.out _) NB1291_1303.out _)⟩, ⟨(zkf (zkf (zkf (zkq BK1292) NB1292_1303.out _) NB1292_1303.out _) NB1292_1303.out _)⟩, ⟨(zkf (zkf (zkf (zkq BK1293) NB1293_1303.out _) NB1293_1303.out _) NB1293_1303.out _)⟩, ⟨(zkf (zkf (zkf (zkq BK1297) NB1297_1303.out _) NB1297_1303.out _) NB1297_1303.out _)⟩, ⟨(zkf (zkf (zkf (zkq BK1301) NB1301_1303.out _) NB1301_1303.out _) NB1301_1303.out _)⟩, ⟨(zkf (zkf (zkf (zkq BK1302) NB1302_1303.out _) NB1302_1303.out _) NB1302_1303.out _)⟩, ⟨(blk_put (cs := #[.bool t1320, .int .u64 t1321, .int .u64 t1296]) (blk_put (cs := #[.bool t1320, .int .u64 t1295, .int .u64 t1296]) (blk_put (zkq BK1303) 0 _ rfl) 1 _ rfl) 2 _ rfl)⟩, ⟨(zkf (zkf (zkf (zkq BK1304) (zks NB1303_1304).out _) (zks NB1303_1304).out _) (zks NB1303_1304).out _)⟩, ⟨zaB⟩⟩
         rw [if_neg c466] at H
         have c466b0 : (t1299 == t1300) = false := beq_eq_false_iff_ne.mpr c466
         have c466b1 : (t1299 != t1300) = true := bne_iff_ne.mpr c466
         (first | rw [c466b0] | (simp only [i64_w, i32_w]; rw [c466b0]) | skip)
         have H' := Aside0.mk H
         clear H
         go_wp2
         go_meet
         case rel => exact ⟨_, (t1294), (t1295), (t1296), H', ⟨by have := HJ5.out; have := HJ69.out; have := HJ237.out; first | omega | exact Nat.le_refl _⟩, ⟨zkq BK1290⟩, ⟨zkq BK1291⟩, ⟨zkq BK1292⟩, ⟨zkq BK1293⟩, ⟨zkq BK1297⟩, ⟨zkq BK1301⟩, ⟨zkq BK1302⟩, ⟨zkq BK1303⟩, ⟨zkq BK1304⟩, ⟨zaB⟩⟩
        case rest =>
         clear HC456
         try clear c374b0
         try clear c374b1
         try clear c455b0
         try clear c455b1
         try clear c466b0
         try clear c466b1
         try clear z385_0 z385_1 z385_2 f385_0 f385_1 f385_2
         try clear z393_0 z393_1 z393_2 f393_0 f393_1 f393_2
         try clear z401_0 z401_1 z401_2 f401_0 f401_1 f401_2
         try clear z407_0 z407_1 z407_2 f407_0 f407_1 f407_2
         try clear z424_0 z424_1 z424_2 f424_0 f424_1 f424_2
         try clear z432_0 z432_1 z432_2 f432_0 f432_1 f432_2
         try clear z440_0 z440_1 z440_2 f440_0 f440_1 f440_2
         try clear z446_0 z446_1 z446_2 f446_0 f446_1 f446_2
         try clear z465_0 z465_1 z465_2 f465_0 f465_1 f465_2
         try clear z476_0 z476_1 z476_2 f476_0 f476_1 f476_2
         try clear z484_0 z484_1 z484_2 f484_0 f484_1 f484_2
         try clear z492_0 z492_1 z492_2 f492_0 f492_1 f492_2
         obtain ⟨kq, x1304000_455, x1304001_455, x1304002_455, HA, HJ455, BK1290, BK1291, BK1292, BK1293, BK1297, BK1301, BK1302, BK1303, BK1304, HB⟩ := hcut
         cases kq with
         | zero => exact absurd HA.out (by simp [flyballref16_Test.j3])
         | succ kj455 =>
          have H := HA.out
          clear HA
          simp only [flyballref16_Test.j3] at H
          by_cases c493 : t1295 = t1296
          ·rw [if_pos c493] at H
           have c493b0 : (t1295 == t1296) = true := beq_iff_eq.mpr c493
           have c493b1 : (t1295 != t1296) = false := bne_eq_false_iff_eq.mpr c493
           clear c493
           obtain ⟨⟨t1323, t1324, t1325⟩, A494, H⟩ := zbs H
           try dsimp only at H
           by_cases c495 : x1304000_455 = true
           ·subst c495
            replace H := zit H
            simp only [Option.some.injEq, Prod.mk.injEq] at H
            obtain ⟨rfl, rfl, rfl, rfl, rfl, rfl⟩ := H
            refine zt8 NB1290_1297 NB1291_1297 NB1292_1297 NB1293_1297 NB1297_1301 NB1297_1302 NB1297_1303 NB1297_1304 fun _ _ _ _ _ _ _ _ _ _ _ _ _ _ _ _ => ?_
            refine zu3 BK1297 fun _ _ _ _ _ _ => ?_
            refine zt7 NB1290_1301 NB1291_1301 NB1292_1301 NB1293_1301 NB1301_1302 NB1301_1303 NB1301_1304 fun _ _ _ _ _ _ _ _ _ _ _ _ _ _ => ?_
            refine zu3 BK1301 fun _ _ _ _ _ _ => ?_
            try go_wp2_with (first | ((with_reducible refine gtc 126 rfl ?_); refine zgL 84 Try.func126 (flyballref16_without.calls kj455 t1298 t1299 t1300 t1295 t1323 t1324 t1325 _ A494.out) (h := ?_); rintro w513 hb; refine zcn9 HB BK1290 BK1291 BK1292 BK1293 BK1297 BK1301 BK1302 BK1303 BK1304 hb (c := ?_); clear HB BK1290 BK1291 BK1292 BK1293 BK1297 BK1301 BK1302 BK1303 BK1304 hb; intro BK1290 BK1291 BK1292 BK1293 BK1297 BK1301 BK1302 BK1303 BK1304 HB; refine zt6 NB1290_1304 NB1291_1304 NB1292_1304 NB1293_1304 NB1302_1304 NB1303_1304 fun _ _ _ _ _ _ _ _ _ _ _ _ => ?_; refine zu3 BK1304 fun _ _ _ _ _ _ => ?_; refine zt5 NB1290_1303 NB1291_1303 NB1292_1303 NB1293_1303 NB1302_1303 fun _ _ _ _ _ _ _ _ _ _ => ?_; refine zu3 BK1303 fun _ _ _ _ _ _ => ?_))
            generalize hW_ : (((w513.setCell ⟨gb1304, 0, none⟩ (.bool t1323)).setCell ⟨gb1304, 1, none⟩ (.int .u64 t1324)).setCell ⟨gb1304, 2, none⟩ (.int .u64 t1325)) = w527
            replace BK1290 := zkg hW_ (zkf (zkf (zkf BK1290.out NB1290_1304.out _) NB1290_1304.out _) NB1290_1304.out _)
            replace BK1291 := zkg hW_ (zkf (zkf (zkf BK1291.out NB1291_1304.out _) NB1291_1304.out _) NB1291_1304.out _)
            replace BK1292 := zkg hW_ (zkf (zkf (zkf BK1292.out NB1292_1304.out _) NB1292_1304.out _) NB1292_1304.out _)
            replace BK1293 := zkg hW_ (zkf (zkf (zkf BK1293.out NB1293_1304.out _) NB1293_1304.out _) NB1293_1304.out _)
            replace BK1297 := zkg hW_ (zkf (zkf (zkf BK1297.out NB1297_1304.out _) NB1297_1304.out _) NB1297_1304.out _)
            replace BK1301 := zkg hW_ (zkf (zkf (zkf BK1301.out NB1301_1304.out _) NB1301_1304.out _) NB1301_1304.out _)
            replace BK1302 := zkg hW_ (zkf (zkf (zkf BK1302.out NB1302_1304.out _) NB1302_1304.out _) NB1302_1304.out _)
            replace BK1303 := zkg hW_ (zkf (zkf (zkf BK1303.out NB1303_1304.out _) NB1303_1304.out _) NB1303_1304.out _)
            replace BK1304 := zkg hW_ (ob := .cells #[.bool t1323, .int .u64 t1324, .int .u64 t1325] 43 (0, 0)) (blk_put (cs := #[.bool t1323, .int .u64 t1324, .int .u64 t1300]) (blk_put (cs := #[.bool t1323, .int .u64 t1299, .int .u64 t1300]) (blk_put BK1304.out 0 _ rfl) 1 _ rfl) 2 _ rfl)
            replace HB := zkG hW_ (below_set (below_set (below_set HB.out GW1304.out) GW1304.out) GW1304.out)
            clear hW_
            replace BK1290 := Aside0.mk (blk_drew BK1290.out)
            replace BK1291 := Aside0.mk (blk_drew BK1291.out)
            replace BK1292 := Aside0.mk (blk_drew BK1292.out)
            replace BK1293 := Aside0.mk (blk_drew BK1293.out)
            replace BK1297 := Aside0.mk (blk_drew BK1297.out)
            replace BK1301 := Aside0.mk (blk_drew BK1301.out)
            replace BK1302 := Aside0.mk (blk_drew BK1302.out)
            replace BK1303 := Aside0.mk (blk_drew BK1303.out)
            replace BK1304 := Aside0.mk (blk_drew BK1304.out)
            replace HB := Aside0.mk (below_drew1 HB.out)
            refine start_ (n := 4) (S := fun w' => w'.cell? ⟨gb1302, 0, none⟩ = some (.bool true) ∧ w'.cell? ⟨gb1302, 1, none⟩ = some (.int .u64 0) ∧ w'.cell? ⟨gb1302, 2, none⟩ = some (.int .u64 0)) (ds := []) #[false, false, false, false] (by kernel_rfl) rfl rfl (ze3 BK1302) (fun hHeld => ?_)
            generalize w527.drew = w528 at BK1290 BK1291 BK1292 BK1293 BK1297 BK1301 BK1302 BK1303 BK1304 HB hHeld ⊢
            refine ztA 0 91 (h := ?_)
            refine ztA 1 92 (h := ?_)
            refine one_ (i := 2) (N := none) #[true, true, true, false] rfl rfl (by kernel_rfl) (by decide) (fun K hK => ?_)
            have hs529 := zc0 BK1292
            have hfs529 := blk_frozen BK1292.out 0
            refine zt8 NB1290_1292 NB1291_1292 NB1292_1293 NB1292_1297 NB1292_1301 NB1292_1302 NB1292_1303 NB1292_1304 fun _ _ _ _ _ _ _ _ _ _ _ _ _ _ _ _ => ?_
            have hs530 := zc1 BK1292
            have hfs530 := blk_frozen BK1292.out 1
            refine zt8 NB1290_1292 NB1291_1292 NB1292_1293 NB1292_1297 NB1292_1301 NB1292_1302 NB1292_1303 NB1292_1304 fun _ _ _ _ _ _ _ _ _ _ _ _ _ _ _ _ => ?_
            have hs531 := zc2 BK1292
            have hfs531 := blk_frozen BK1292.out 2
            refine zt8 NB1290_1292 NB1291_1292 NB1292_1293 NB1292_1297 NB1292_1301 NB1292_1302 NB1292_1303 NB1292_1304 fun _ _ _ _ _ _ _ _ _ _ _ _ _ _ _ _ => ?_
            refine skip_ (w1 := ?_) (by rfl) rfl ?_ ?_
            rotate_left
            ·go_simp
             rfl
            refine hK.out _ _ ⟨(zff (zks NB1292_1302) (zff (zks NB1292_1302) (zff (zks NB1292_1302) hHeld.1))), (zff (zks NB1292_1302) (zff (zks NB1292_1302) (zff (zks NB1292_1302) hHeld.2.1))), (zff (zks NB1292_1302) (zff (zks NB1292_1302) (zff (zks NB1292_1302) hHeld.2.2)))⟩ (fun hHeld => ?_)
            clear hK K
            refine one_ (i := 3) (N := none) #[true, true, true, true] rfl rfl (by kernel_rfl) (by decide) (fun K hK => ?_)
            have hs532 := zc0 BK1293
            have hfs532 := blk_frozen BK1293.out 0
            refine zt8 NB1290_1293 NB1291_1293 NB1292_1293 NB1293_1297 NB1293_1301 NB1293_1302 NB1293_1303 NB1293_1304 fun _ _ _ _ _ _ _ _ _ _ _ _ _ _ _ _ => ?_
            have hs533 := zc1 BK1293
            have hfs533 := blk_frozen BK1293.out 1
            refine zt8 NB1290_1293 NB1291_1293 NB1292_1293 NB1293_1297 NB1293_1301 NB1293_1302 NB1293_1303 NB1293_1304 fun _ _ _ _ _ _ _ _ _ _ _ _ _ _ _ _ => ?_
            have hs534 := zc2 BK1293
            have hfs534 := blk_frozen BK1293.out 2
            refine zt8 NB1290_1293 NB1291_1293 NB1292_1293 NB1293_1297 NB1293_1301 NB1293_1302 NB1293_1303 NB1293_1304 fun _ _ _ _ _ _ _ _ _ _ _ _ _ _ _ _ => ?_
            refine skip_ (w1 := ?_) (by rfl) rfl ?_ ?_
            rotate_left
            ·go_simp
             rfl
            refine hK.out _ _ ⟨(zff (zks NB1293_1302) (zff (zks NB1293_1302) (zff (zks NB1293_1302) hHeld.1))), (zff (zks NB1293_1302) (zff (zks NB1293_1302) (zff (zks NB1293_1302) hHeld.2.1))), (zff (zks NB1293_1302) (zff (zks NB1293_1302) (zff (zks NB1293_1302) hHeld.2.2)))⟩ (fun hHeld => ?_)
            clear hK K
            refine done_ (by kernel_rfl) ?_
            try go_wp2
            refine bodyPost_ret (results_cc rfl _ _ gb1292 gb1293 43 43 #[.bool true, .int .u64 0, .int .u64 0] #[.bool true, .int .u64 0, .int .u64 0] (0, 0) (0, 0) _ _ rfl (zkf (zkf (zkf (blk_put (cs := #[.bool true, .int .u64 0, .int .u64 0]) (blk_put (cs := #[.bool true, .int .u64 0, .int .u64 0]) (blk_put (zkq BK1292) 0 _ rfl) 1 _ rfl) 2 _ rfl) NB1292_1293.out _) NB1292_1293.out _) NB1292_1293.out _) Try.underlying43 rfl (by kernel_rfl) rfl (blk_put (cs := #[.bool true, .int .u64 0, .int .u64 0]) (blk_put (cs := #[.bool true, .int .u64 0, .int .u64 0]) (blk_put (zkf (zkf (zkf (zkq BK1293) (zks NB1292_1293).out _) (zks NB1292_1293).out _) (zks NB1292_1293).out _) 0 _ rfl) 1 _ rfl) 2 _ rfl) Try.underlying43 rfl (by kernel_rfl)) rfl ?_
            exact ⟨zaE, zaB⟩
           replace c495 := Bool.eq_false_iff.mpr c495
           subst c495
           replace H := zif H
           by_cases c535 : t1323 = true
           ·subst c535
            replace H := zit H
            simp only [Option.some.injEq, Prod.mk.injEq] at H
            obtain ⟨rfl, rfl, rfl, rfl, rfl, rfl⟩ := H
            refine zt8 NB1290_1297 NB1291_1297 NB1292_1297 NB1293_1297 NB1297_1301 NB1297_1302 NB1297_1303 NB1297_1304 fun _ _ _ _ _ _ _ _ _ _ _ _ _ _ _ _ => ?_
            refine zu3 BK1297 fun _ _ _ _ _ _ => ?_
            refine zt7 NB1290_1301 NB1291_1301 NB1292_1301 NB1293_1301 NB1301_1302 NB1301_1303 NB1301_1304 fun _ _ _ _ _ _ _ _ _ _ _ _ _ _ => ?_
            refine zu3 BK1301 fun _ _ _ _ _ _ => ?_
            try go_wp2_with (first | ((with_reducible refine gtc 126 rfl ?_); refine zgL 84 Try.func126 (flyballref16_without.calls kj455 t1298 t1299 t1300 t1295 true t1324 t1325 _ A494.out) (h := ?_); rintro w553 hb; refine zcn9 HB BK1290 BK1291 BK1292 BK1293 BK1297 BK1301 BK1302 BK1303 BK1304 hb (c := ?_); clear HB BK1290 BK1291 BK1292 BK1293 BK1297 BK1301 BK1302 BK1303 BK1304 hb; intro BK1290 BK1291 BK1292 BK1293 BK1297 BK1301 BK1302 BK1303 BK1304 HB; refine zt6 NB1290_1304 NB1291_1304 NB1292_1304 NB1293_1304 NB1302_1304 NB1303_1304 fun _ _ _ _ _ _ _ _ _ _ _ _ => ?_; refine zu3 BK1304 fun _ _ _ _ _ _ => ?_; refine zt5 NB1290_1303 NB1291_1303 NB1292_1303 NB1293_1303 NB1302_1303 fun _ _ _ _ _ _ _ _ _ _ => ?_; refine zu3 BK1303 fun _ _ _ _ _ _ => ?_))
            generalize hW_ : (((w553.setCell ⟨gb1304, 0, none⟩ (.bool true)).setCell ⟨gb1304, 1, none⟩ (.int .u64 t1324)).setCell ⟨gb1304, 2, none⟩ (.int .u64 t1325)) = w567
            replace BK1290 := zkg hW_ (zkf (zkf (zkf BK1290.out NB1290_1304.out _) NB1290_1304.out _) NB1290_1304.out _)
            replace BK1291 := zkg hW_ (zkf (zkf (zkf BK1291.out NB1291_1304.out _) NB1291_1304.out _) NB1291_1304.out _)
            replace BK1292 := zkg hW_ (zkf (zkf (zkf BK1292.out NB1292_1304.out _) NB1292_1304.out _) NB1292_1304.out _)
            replace BK1293 := zkg hW_ (zkf (zkf (zkf BK1293.out NB1293_1304.out _) NB1293_1304.out _) NB1293_1304.out _)
            replace BK1297 := zkg hW_ (zkf (zkf (zkf BK1297.out NB1297_1304.out _) NB1297_1304.out _) NB1297_1304.out _)
            replace BK1301 := zkg hW_ (zkf (zkf (zkf BK1301.out NB1301_1304.out _) NB1301_1304.out _) NB1301_1304.out _)
            replace BK1302 := zkg hW_ (zkf (zkf (zkf BK1302.out NB1302_1304.out _) NB1302_1304.out _) NB1302_1304.out _)
            replace BK1303 := zkg hW_ (zkf (zkf (zkf BK1303.out NB1303_1304.out _) NB1303_1304.out _) NB1303_1304.out _)
            replace BK1304 := zkg hW_ (ob := .cells #[.bool true, .int .u64 t1324, .int .u64 t1325] 43 (0, 0)) (blk_put (cs := #[.bool true, .int .u64 t1324, .int .u64 t1300]) (blk_put (cs := #[.bool true, .int .u64 t1299, .int .u64 t1300]) (blk_put BK1304.out 0 _ rfl) 1 _ rfl) 2 _ rfl)
            replace HB := zkG hW_ (below_set (below_set (below_set HB.out GW1304.out) GW1304.out) GW1304.out)
            clear hW_
            replace BK1290 := Aside0.mk (blk_drew BK1290.out)
            replace BK1291 := Aside0.mk (blk_drew BK1291.out)
            replace BK1292 := Aside0.mk (blk_drew BK1292.out)
            replace BK1293 := Aside0.mk (blk_drew BK1293.out)
            replace BK1297 := Aside0.mk (blk_drew BK1297.out)
            replace BK1301 := Aside0.mk (blk_drew BK1301.out)
            replace BK1302 := Aside0.mk (blk_drew BK1302.out)
            replace BK1303 := Aside0.mk (blk_drew BK1303.out)
            replace BK1304 := Aside0.mk (blk_drew BK1304.out)
            replace HB := Aside0.mk (below_drew1 HB.out)
            refine start_ (n := 4) (S := fun w' => w'.cell? ⟨gb1302, 0, none⟩ = some (.bool true) ∧ w'.cell? ⟨gb1302, 1, none⟩ = some (.int .u64 0) ∧ w'.cell? ⟨gb1302, 2, none⟩ = some (.int .u64 0)) (ds := []) #[false, false, false, false] (by kernel_rfl) rfl rfl (ze3 BK1302) (fun hHeld => ?_)
            generalize w567.drew = w568 at BK1290 BK1291 BK1292 BK1293 BK1297 BK1301 BK1302 BK1303 BK1304 HB hHeld ⊢
            refine ztA 0 91 (h := ?_)
            refine ztA 1 92 (h := ?_)
            refine one_ (i := 2) (N := none) #[true, true, true, false] rfl rfl (by kernel_rfl) (by decide) (fun K hK => ?_)
            have hs569 := zc0 BK1292
            have hfs569 := blk_frozen BK1292.out 0
            refine zt8 NB1290_1292 NB1291_1292 NB1292_1293 NB1292_1297 NB1292_1301 NB1292_1302 NB1292_1303 NB1292_1304 fun _ _ _ _ _ _ _ _ _ _ _ _ _ _ _ _ => ?_
            have hs570 := zc1 BK1292
            have hfs570 := blk_frozen BK1292.out 1
            refine zt8 NB1290_1292 NB1291_1292 NB1292_1293 NB1292_1297 NB1292_1301 NB1292_1302 NB1292_1303 NB1292_1304 fun _ _ _ _ _ _ _ _ _ _ _ _ _ _ _ _ => ?_
            have hs571 := zc2 BK1292
            have hfs571 := blk_frozen BK1292.out 2
            refine zt8 NB1290_1292 NB1291_1292 NB1292_1293 NB1292_1297 NB1292_1301 NB1292_1302 NB1292_1303 NB1292_1304 fun _ _ _ _ _ _ _ _ _ _ _ _ _ _ _ _ => ?_
            refine skip_ (w1 := ?_) (by rfl) rfl ?_ ?_
            rotate_left
            ·go_simp
             rfl
            refine hK.out _ _ ⟨(zff (zks NB1292_1302) (zff (zks NB1292_1302) (zff (zks NB1292_1302) hHeld.1))), (zff (zks NB1292_1302) (zff (zks NB1292_1302) (zff (zks NB1292_1302) hHeld.2.1))), (zff (zks NB1292_1302) (zff (zks NB1292_1302) (zff (zks NB1292_1302) hHeld.2.2)))⟩ (fun hHeld => ?_)
            clear hK K
            refine one_ (i := 3) (N := none) #[true, true, true, true] rfl rfl (by kernel_rfl) (by decide) (fun K hK => ?_)
            have hs572 := zc0 BK1293
            have hfs572 := blk_frozen BK1293.out 0
            refine zt8 NB1290_1293 NB1291_1293 NB1292_1293 NB1293_1297 NB1293_1301 NB1293_1302 NB1293_1303 NB1293_1304 fun _ _ _ _ _ _ _ _ _ _ _ _ _ _ _ _ => ?_
            have hs573 := zc1 BK1293
            have hfs573 := blk_frozen BK1293.out 1
            refine zt8 NB1290_1293 NB1291_1293 NB1292_1293 NB1293_1297 NB1293_1301 NB1293_1302 NB1293_1303 NB1293_1304 fun _ _ _ _ _ _ _ _ _ _ _ _ _ _ _ _ => ?_
            have hs574 := zc2 BK1293
            have hfs574 := blk_frozen BK1293.out 2
            refine zt8 NB1290_1293 NB1291_1293 NB1292_1293 NB1293_1297 NB1293_1301 NB1293_1302 NB1293_1303 NB1293_1304 fun _ _ _ _ _ _ _ _ _ _ _ _ _ _ _ _ => ?_
            refine skip_ (w1 := ?_) (by rfl) rfl ?_ ?_
            rotate_left
            ·go_simp
             rfl
            refine hK.out _ _ ⟨(zff (zks NB1293_1302) (zff (zks NB1293_1302) (zff (zks NB1293_1302) hHeld.1))), (zff (zks NB1293_1302) (zff (zks NB1293_1302) (zff (zks NB1293_1302) hHeld.2.1))), (zff (zks NB1293_1302) (zff (zks NB1293_1302) (zff (zks NB1293_1302) hHeld.2.2)))⟩ (fun hHeld => ?_)
            clear hK K
            refine done_ (by kernel_rfl) ?_
            try go_wp2
            refine bodyPost_ret (results_cc rfl _ _ gb1292 gb1293 43 43 #[.bool true, .int .u64 0, .int .u64 0] #[.bool true, .int .u64 0, .int .u64 0] (0, 0) (0, 0) _ _ rfl (zkf (zkf (zkf (blk_put (cs := #[.bool true, .int .u64 0, .int .u64 0]) (blk_put (cs := #[.bool true, .int .u64 0, .int .u64 0]) (blk_put (zkq BK1292) 0 _ rfl) 1 _ rfl) 2 _ rfl) NB1292_1293.out _) NB1292_1293.out _) NB1292_1293.out _) Try.underlying43 rfl (by kernel_rfl) rfl (blk_put (cs := #[.bool true, .int .u64 0, .int .u64 0]) (blk_put (cs := #[.bool true, .int .u64 0, .int .u64 0]) (blk_put (zkf (zkf (zkf (zkq BK1293) (zks NB1292_1293).out _) (zks NB1292_1293).out _) (zks NB1292_1293).out _) 0 _ rfl) 1 _ rfl) 2 _ rfl) Try.underlying43 rfl (by kernel_rfl)) rfl ?_
            exact ⟨zaE, zaB⟩
           replace c535 := Bool.eq_false_iff.mpr c535
           subst c535
           replace H := zif H
           simp only [Option.some.injEq, Prod.mk.injEq] at H
           obtain ⟨rfl, rfl, rfl, rfl, rfl, rfl⟩ := H
           refine zt8 NB1290_1297 NB1291_1297 NB1292_1297 NB1293_1297 NB1297_1301 NB1297_1302 NB1297_1303 NB1297_1304 fun _ _ _ _ _ _ _ _ _ _ _ _ _ _ _ _ => ?_
           refine zu3 BK1297 fun _ _ _ _ _ _ => ?_
           refine zt7 NB1290_1301 NB1291_1301 NB1292_1301 NB1293_1301 NB1301_1302 NB1301_1303 NB1301_1304 fun _ _ _ _ _ _ _ _ _ _ _ _ _ _ => ?_
           refine zu3 BK1301 fun _ _ _ _ _ _ => ?_
           try go_wp2_with (first | ((with_reducible refine gtc 126 rfl ?_); refine zgL 84 Try.func126 (flyballref16_without.calls kj455 t1298 t1299 t1300 t1295 false t1324 t1325 _ A494.out) (h := ?_); rintro w592 hb; refine zcn9 HB BK1290 BK1291 BK1292 BK1293 BK1297 BK1301 BK1302 BK1303 BK1304 hb (c := ?_); clear HB BK1290 BK1291 BK1292 BK1293 BK1297 BK1301 BK1302 BK1303 BK1304 hb; intro BK1290 BK1291 BK1292 BK1293 BK1297 BK1301 BK1302 BK1303 BK1304 HB; refine zt6 NB1290_1304 NB1291_1304 NB1292_1304 NB1293_1304 NB1302_1304 NB1303_1304 fun _ _ _ _ _ _ _ _ _ _ _ _ => ?_; refine zu3 BK1304 fun _ _ _ _ _ _ => ?_; refine zt5 NB1290_1303 NB1291_1303 NB1292_1303 NB1293_1303 NB1302_1303 fun _ _ _ _ _ _ _ _ _ _ => ?_; refine zu3 BK1303 fun _ _ _ _ _ _ => ?_))
           generalize hW_ : (((w592.setCell ⟨gb1304, 0, none⟩ (.bool false)).setCell ⟨gb1304, 1, none⟩ (.int .u64 t1324)).setCell ⟨gb1304, 2, none⟩ (.int .u64 t1325)) = w606
           replace BK1290 := zkg hW_ (zkf (zkf (zkf BK1290.out NB1290_1304.out _) NB1290_1304.out _) NB1290_1304.out _)
           replace BK1291 := zkg hW_ (zkf (zkf (zkf BK1291.out NB1291_1304.out _) NB1291_1304.out _) NB1291_1304.out _)
           replace BK1292 := zkg hW_ (zkf (zkf (zkf BK1292.out NB1292_1304.out _) NB1292_1304.out _) NB1292_1304.out _)
           replace BK1293 := zkg hW_ (zkf (zkf (zkf BK1293.out NB1293_1304.out _) NB1293_1304.out _) NB1293_1304.out _)
           replace BK1297 := zkg hW_ (zkf (zkf (zkf BK1297.out NB1297_1304.out _) NB1297_1304.out _) NB1297_1304.out _)
           replace BK1301 := zkg hW_ (zkf (zkf (zkf BK1301.out NB1301_1304.out _) NB1301_1304.out _) NB1301_1304.out _)
           replace BK1302 := zkg hW_ (zkf (zkf (zkf BK1302.out NB1302_1304.out _) NB1302_1304.out _) NB1302_1304.out _)
           replace BK1303 := zkg hW_ (zkf (zkf (zkf BK1303.out NB1303_1304.out _) NB1303_1304.out _) NB1303_1304.out _)
           replace BK1304 := zkg hW_ (ob := .cells #[.bool false, .int .u64 t1324, .int .u64 t1325] 43 (0, 0)) (blk_put (cs := #[.bool false, .int .u64 t1324, .int .u64 t1300]) (blk_put (cs := #[.bool false, .int .u64 t1299, .int .u64 t1300]) (blk_put BK1304.out 0 _ rfl) 1 _ rfl) 2 _ rfl)
           replace HB := zkG hW_ (below_set (below_set (below_set HB.out GW1304.out) GW1304.out) GW1304.out)
           clear hW_
           replace BK1290 := Aside0.mk (blk_drew BK1290.out)
           replace BK1291 := Aside0.mk (blk_drew BK1291.out)
           replace BK1292 := Aside0.mk (blk_drew BK1292.out)
           replace BK1293 := Aside0.mk (blk_drew BK1293.out)
           replace BK1297 := Aside0.mk (blk_drew BK1297.out)
           replace BK1301 := Aside0.mk (blk_drew BK1301.out)
           replace BK1302 := Aside0.mk (blk_drew BK1302.out)
           replace BK1303 := Aside0.mk (blk_drew BK1303.out)
           replace BK1304 := Aside0.mk (blk_drew BK1304.out)
           replace HB := Aside0.mk (below_drew1 HB.out)
           refine start_ (n := 4) (S := fun w' => w'.cell? ⟨gb1303, 0, none⟩ = some (.bool false) ∧ w'.cell? ⟨gb1303, 1, none⟩ = some (.int .u64 x1304001_455) ∧ w'.cell? ⟨gb1303, 2, none⟩ = some (.int .u64 x1304002_455) ∧ w'.cell? ⟨gb1304, 0, none⟩ = some (.bool false) ∧ w'.cell? ⟨gb1304, 1, none⟩ = some (.int .u64 t1324) ∧ w'.cell? ⟨gb1304, 2, none⟩ = some (.int .u64 t1325)) (ds := []) #[false, false, false, false] (by kernel_rfl) rfl rfl (zk3 BK1303 (ze3 BK1304)) (fun hHeld => ?_)
           generalize w606.drew = w607 at BK1290 BK1291 BK1292 BK1293 BK1297 BK1301 BK1302 BK1303 BK1304 HB hHeld ⊢
           refine ztA 0 93 (h := ?_)
           refine ztA 1 94 (h := ?_)
           refine one_ (i := 2) (N := none) #[true, true, true, false] rfl rfl (by kernel_rfl) (by decide) (fun K hK => ?_)
           have hs608 := zc0 BK1292
           have hfs608 := blk_frozen BK1292.out 0
           refine zt8 NB1290_1292 NB1291_1292 NB1292_1293 NB1292_1297 NB1292_1301 NB1292_1302 NB1292_1303 NB1292_1304 fun _ _ _ _ _ _ _ _ _ _ _ _ _ _ _ _ => ?_
           have hs609 := zc1 BK1292
           have hfs609 := blk_frozen BK1292.out 1
           refine zt8 NB1290_1292 NB1291_1292 NB1292_1293 NB1292_1297 NB1292_1301 NB1292_1302 NB1292_1303 NB1292_1304 fun _ _ _ _ _ _ _ _ _ _ _ _ _ _ _ _ => ?_
           have hs610 := zc2 BK1292
           have hfs610 := blk_frozen BK1292.out 2
           refine zt8 NB1290_1292 NB1291_1292 NB1292_1293 NB1292_1297 NB1292_1301 NB1292_1302 NB1292_1303 NB1292_1304 fun _ _ _ _ _ _ _ _ _ _ _ _ _ _ _ _ => ?_
           refine skip_ (w1 := ?_) (by rfl) rfl ?_ ?_
           rotate_left
           ·go_simp
            rfl
           refine hK.out _ _ ⟨(zff (zks NB1292_1303) (zff (zks NB1292_1303) (zff (zks NB1292_1303) hHeld.1))), (zff (zks NB1292_1303) (zff (zks NB1292_1303) (zff (zks NB1292_1303) hHeld.2.1))), (zff (zks NB1292_1303) (zff (zks NB1292_1303) (zff (zks NB1292_1303) hHeld.2.2.1))), (zff (zks NB1292_1304) (zff (zks NB1292_1304) (zff (zks NB1292_1304) hHeld.2.2.2.1))), (zff (zks NB1292_1304) (zff (zks NB1292_1304) (zff (zks NB1292_1304) hHeld.2.2.2.2.1))), (zff (zks NB1292_1304) (zff (zks NB1292_1304) (zff (zks NB1292_1304) hHeld.2.2.2.2.2)))⟩ (fun hHeld => ?_)
           clear hK K
           refine one_ (i := 3) (N := none) #[true, true, true, true] rfl rfl (by kernel_rfl) (by decide) (fun K hK => ?_)
           have hs611 := zc0 BK1293
           have hfs611 := blk_frozen BK1293.out 0
           refine zt8 NB1290_1293 NB1291_1293 NB1292_1293 NB1293_1297 NB1293_1301 NB1293_1302 NB1293_1303 NB1293_1304 fun _ _ _ _ _ _ _ _ _ _ _ _ _ _ _ _ => ?_
           have hs612 := zc1 BK1293
           have hfs612 := blk_frozen BK1293.out 1
           refine zt8 NB1290_1293 NB1291_1293 NB1292_1293 NB1293_1297 NB1293_1301 NB1293_1302 NB1293_1303 NB1293_1304 fun _ _ _ _ _ _ _ _ _ _ _ _ _ _ _ _ => ?_
           have hs613 := zc2 BK1293
           have hfs613 := blk_frozen BK1293.out 2
           refine zt8 NB1290_1293 NB1291_1293 NB1292_1293 NB1293_1297 NB1293_1301 NB1293_1302 NB1293_1303 NB1293_1304 fun _ _ _ _ _ _ _ _ _ _ _ _ _ _ _ _ => ?_
           refine skip_ (w1 := ?_) (by rfl) rfl ?_ ?_
           rotate_left
           ·go_simp
            rfl
           refine hK.out _ _ ⟨(zff (zks NB1293_1303) (zff (zks NB1293_1303) (zff (zks NB1293_1303) hHeld.1))), (zff (zks NB1293_1303) (zff (zks NB1293_1303) (zff (zks NB1293_1303) hHeld.2.1))), (zff (zks NB1293_1303) (zff (zks NB1293_1303) (zff (zks NB1293_1303) hHeld.2.2.1))), (zff (zks NB1293_1304) (zff (zks NB1293_1304) (zff (zks NB1293_1304) hHeld.2.2.2.1))), (zff (zks NB1293_1304) (zff (zks NB1293_1304) (zff (zks NB1293_1304) hHeld.2.2.2.2.1))), (zff (zks NB1293_1304) (zff (zks NB1293_1304) (zff (zks NB1293_1304) hHeld.2.2.2.2.2)))⟩ (fun hHeld => ?_)
           clear hK K
           refine done_ (by kernel_rfl) ?_
           try go_wp2
           refine bodyPost_ret (results_cc rfl _ _ gb1292 gb1293 43 43 #[.bool false, .int .u64 x1304001_455, .int .u64 x1304002_455] #[.bool false, .int .u64 t1324, .int .u64 t1325] (0, 0) (0, 0) _ _ rfl (zkf (zkf (zkf (blk_put (cs := #[.bool false, .int .u64 x1304001_455, .int .u64 0]) (blk_put (cs := #[.bool false, .int .u64 0, .int .u64 0]) (blk_put (zkq BK1292) 0 _ rfl) 1 _ rfl) 2 _ rfl) NB1292_1293.out _) NB1292_1293.out _) NB1292_1293.out _) Try.underlying43 rfl (by kernel_rfl) rfl (blk_put (cs := #[.bool false, .int .u64 t1324, .int .u64 0]) (blk_put (cs := #[.bool false, .int .u64 0, .int .u64 0]) (blk_put (zkf (zkf (zkf (zkq BK1293) (zks NB1292_1293).out _) (zks NB1292_1293).out _) (zks NB1292_1293).out _) 0 _ rfl) 1 _ rfl) 2 _ rfl) Try.underlying43 rfl (by kernel_rfl)) rfl ?_
           exact ⟨zaE, zaB⟩
          rw [if_neg c493] at H
          have c493b0 : (t1295 == t1296) = false := beq_eq_false_iff_ne.mpr c493
          have c493b1 : (t1295 != t1296) = true := bne_iff_ne.mpr c493
          by_cases c614 : x1304000_455 = true
          ·subst c614
           replace H := zit H
           simp only [Option.some.injEq, Prod.mk.injEq] at H
           obtain ⟨rfl, rfl, rfl, rfl, rfl, rfl⟩ := H
           refine zt8 NB1290_1297 NB1291_1297 NB1292_1297 NB1293_1297 NB1297_1301 NB1297_1302 NB1297_1303 NB1297_1304 fun _ _ _ _ _ _ _ _ _ _ _ _ _ _ _ _ => ?_
           refine zu3 BK1297 fun _ _ _ _ _ _ => ?_
           refine zt7 NB1290_1303 NB1291_1303 NB1292_1303 NB1293_1303 NB1301_1303 NB1302_1303 NB1303_1304 fun _ _ _ _ _ _ _ _ _ _ _ _ _ _ => ?_
           refine zu3 BK1303 fun _ _ _ _ _ _ => ?_
           try go_wp2
           replace BK1290 := Aside0.mk (blk_drew BK1290.out)
           replace BK1291 := Aside0.mk (blk_drew BK1291.out)
           replace BK1292 := Aside0.mk (blk_drew BK1292.out)
           replace BK1293 := Aside0.mk (blk_drew BK1293.out)
           replace BK1297 := Aside0.mk (blk_drew BK1297.out)
           replace BK1301 := Aside0.mk (blk_drew BK1301.out)
           replace BK1302 := Aside0.mk (blk_drew BK1302.out)
           replace BK1303 := Aside0.mk (blk_drew BK1303.out)
           replace BK1304 := Aside0.mk (blk_drew BK1304.out)
           replace HB := Aside0.mk (below_drew1 HB.out)
           refine start_ (n := 4) (S := fun w' => w'.cell? ⟨gb1302, 0, none⟩ = some (.bool true) ∧ w'.cell? ⟨gb1302, 1, none⟩ = some (.int .u64 0) ∧ w'.cell? ⟨gb1302, 2, none⟩ = some (.int .u64 0)) (ds := []) #[false, false, false, false] (by kernel_rfl) rfl rfl (ze3 BK1302) (fun hHeld => ?_)
           generalize wc.drew = w632 at BK1290 BK1291 BK1292 BK1293 BK1297 BK1301 BK1302 BK1303 BK1304 HB hHeld ⊢
           refine ztA 0 91 (h := ?_)
           refine ztA 1 92 (h := ?_)
           refine one_ (i := 2) (N := none) #[true, true, true, false] rfl rfl (by kernel_rfl) (by decide) (fun K hK => ?_)
           have hs633 := zc0 BK1292
           have hfs633 := blk_frozen BK1292.out 0
           refine zt8 NB1290_1292 NB1291_1292 NB1292_1293 NB1292_1297 NB1292_1301 NB1292_1302 NB1292_1303 NB1292_1304 fun _ _ _ _ _ _ _ _ _ _ _ _ _ _ _ _ => ?_
           have hs634 := zc1 BK1292
           have hfs634 := blk_frozen BK1292.out 1
           refine zt8 NB1290_1292 NB1291_1292 NB1292_1293 NB1292_1297 NB1292_1301 NB1292_1302 NB1292_1303 NB1292_1304 fun _ _ _ _ _ _ _ _ _ _ _ _ _ _ _ _ => ?_
           have hs635 := zc2 BK1292
           have hfs635 := blk_frozen BK1292.out 2
           refine zt8 NB1290_1292 NB1291_1292 NB1292_1293 NB1292_1297 NB1292_1301 NB1292_1302 NB1292_1303 NB1292_1304 fun _ _ _ _ _ _ _ _ _ _ _ _ _ _ _ _ => ?_
           refine skip_ (w1 := ?_) (by rfl) rfl ?_ ?_
           rotate_left
           ·go_simp
            rfl
           refine hK.out _ _ ⟨(zff (zks NB1292_1302) (zff (zks NB1292_1302) (zff (zks NB1292_1302) hHeld.1))), (zff (zks NB1292_1302) (zff (zks NB1292_1302) (zff (zks NB1292_1302) hHeld.2.1))), (zff (zks NB1292_1302) (zff (zks NB1292_1302) (zff (zks NB1292_1302) hHeld.2.2)))⟩ (fun hHeld => ?_)
           clear hK K
           refine one_ (i := 3) (N := none) #[true, true, true, true] rfl rfl (by kernel_rfl) (by decide) (fun K hK => ?_)
           have hs636 := zc0 BK1293
           have hfs636 := blk_frozen BK1293.out 0
           refine zt8 NB1290_1293 NB1291_1293 NB1292_1293 NB1293_1297 NB1293_1301 NB1293_1302 NB1293_1303 NB1293_1304 fun _ _ _ _ _ _ _ _ _ _ _ _ _ _ _ _ => ?_
           have hs637 := zc1 BK1293
           have hfs637 := blk_frozen BK1293.out 1
           refine zt8 NB1290_1293 NB1291_1293 NB1292_1293 NB1293_1297 NB1293_1301 NB1293_1302 NB1293_1303 NB1293_1304 fun _ _ _ _ _ _ _ _ _ _ _ _ _ _ _ _ => ?_
           have hs638 := zc2 BK1293
           have hfs638 := blk_frozen BK1293.out 2
           refine zt8 NB1290_1293 NB1291_1293 NB1292_1293 NB1293_1297 NB1293_1301 NB1293_1302 NB1293_1303 NB1293_1304 fun _ _ _ _ _ _ _ _ _ _ _ _ _ _ _ _ => ?_
           refine skip_ (w1 := ?_) (by rfl) rfl ?_ ?_
           rotate_left
           ·go_simp
            rfl
           refine hK.out _ _ ⟨(zff (zks NB1293_1302) (zff (zks NB1293_1302) (zff (zks NB1293_1302) hHeld.1))), (zff (zks NB1293_1302) (zff (zks NB1293_1302) (zff (zks NB1293_1302) hHeld.2.1))), (zff (zks NB1293_1302) (zff (zks NB1293_1302) (zff (zks NB1293_1302) hHeld.2.2)))⟩ (fun hHeld => ?_)
           clear hK K
           refine done_ (by kernel_rfl) ?_
           try go_wp2
           refine bodyPost_ret (results_cc rfl _ _ gb1292 gb1293 43 43 #[.bool true, .int .u64 0, .int .u64 0] #[.bool true, .int .u64 0, .int .u64 0] (0, 0) (0, 0) _ _ rfl (zkf (zkf (zkf (blk_put (cs := #[.bool true, .int .u64 0, .int .u64 0]) (blk_put (cs := #[.bool true, .int .u64 0, .int .u64 0]) (blk_put (zkq BK1292) 0 _ rfl) 1 _ rfl) 2 _ rfl) NB1292_1293.out _) NB1292_1293.out _) NB1292_1293.out _) Try.underlying43 rfl (by kernel_rfl) rfl (blk_put (cs := #[.bool true, .int .u64 0, .int .u64 0]) (blk_put (cs := #[.bool true, .int .u64 0, .int .u64 0]) (blk_put (zkf (zkf (zkf (zkq BK1293) (zks NB1292_1293).out _) (zks NB1292_1293).out _) (zks NB1292_1293).out _) 0 _ rfl) 1 _ rfl) 2 _ rfl) Try.underlying43 rfl (by kernel_rfl)) rfl ?_
           exact ⟨zaE, zaB⟩
          replace c614 := Bool.eq_false_iff.mpr c614
          subst c614
          replace H := zif H
          by_cases c639 : t1298 = true
          ·subst c639
           replace H := zit H
           simp only [Option.some.injEq, Prod.mk.injEq] at H
           obtain ⟨rfl, rfl, rfl, rfl, rfl, rfl⟩ := H
           refine zt8 NB1290_1297 NB1291_1297 NB1292_1297 NB1293_1297 NB1297_1301 NB1297_1302 NB1297_1303 NB1297_1304 fun _ _ _ _ _ _ _ _ _ _ _ _ _ _ _ _ => ?_
           refine zu3 BK1297 fun _ _ _ _ _ _ => ?_
           refine zt7 NB1290_1303 NB1291_1303 NB1292_1303 NB1293_1303 NB1301_1303 NB1302_1303 NB1303_1304 fun _ _ _ _ _ _ _ _ _ _ _ _ _ _ => ?_
           refine zu3 BK1303 fun _ _ _ _ _ _ => ?_
           refine zt6 NB1290_1304 NB1291_1304 NB1292_1304 NB1293_1304 NB1301_1304 NB1302_1304 fun _ _ _ _ _ _ _ _ _ _ _ _ => ?_
           refine zu3 BK1304 fun _ _ _ _ _ _ => ?_
           try go_wp2
           replace BK1290 := Aside0.mk (blk_drew BK1290.out)
           replace BK1291 := Aside0.mk (blk_drew BK1291.out)
           replace BK1292 := Aside0.mk (blk_drew BK1292.out)
           replace BK1293 := Aside0.mk (blk_drew BK1293.out)
           replace BK1297 := Aside0.mk (blk_drew BK1297.out)
           replace BK1301 := Aside0.mk (blk_drew BK1301.out)
           replace BK1302 := Aside0.mk (blk_drew BK1302.out)
           replace BK1303 := Aside0.mk (blk_drew BK1303.out)
           replace BK1304 := Aside0.mk (blk_drew BK1304.out)
           replace HB := Aside0.mk (below_drew1 HB.out)
           refine start_ (n := 4) (S := fun w' => w'.cell? ⟨gb1302, 0, none⟩ = some (.bool true) ∧ w'.cell? ⟨gb1302, 1, none⟩ = some (.int .u64 0) ∧ w'.cell? ⟨gb1302, 2, none⟩ = some (.int .u64 0)) (ds := []) #[false, false, false, false] (by kernel_rfl) rfl rfl (ze3 BK1302) (fun hHeld => ?_)
           generalize wc.drew = w664 at BK1290 BK1291 BK1292 BK1293 BK1297 BK1301 BK1302 BK1303 BK1304 HB hHeld ⊢
           refine ztA 0 91 (h := ?_)
           refine ztA 1 92 (h := ?_)
           refine one_ (i := 2) (N := none) #[true, true, true, false] rfl rfl (by kernel_rfl) (by decide) (fun K hK => ?_)
           have hs665 := zc0 BK1292
           have hfs665 := blk_frozen BK1292.out 0
           refine zt8 NB1290_1292 NB1291_1292 NB1292_1293 NB1292_1297 NB1292_1301 NB1292_1302 NB1292_1303 NB1292_1304 fun _ _ _ _ _ _ _ _ _ _ _ _ _ _ _ _ => ?_
           have hs666 := zc1 BK1292
           have hfs666 := blk_frozen BK1292.out 1
           refine zt8 NB1290_1292 NB1291_1292 NB1292_1293 NB1292_1297 NB1292_1301 NB1292_1302 NB1292_1303 NB1292_1304 fun _ _ _ _ _ _ _ _ _ _ _ _ _ _ _ _ => ?_
           have hs667 := zc2 BK1292
           have hfs667 := blk_frozen BK1292.out 2
           refine zt8 NB1290_1292 NB1291_1292 NB1292_1293 NB1292_1297 NB1292_1301 NB1292_1302 NB1292_1303 NB1292_1304 fun _ _ _ _ _ _ _ _ _ _ _ _ _ _ _ _ => ?_
           refine skip_ (w1 := ?_) (by rfl) rfl ?_ ?_
           rotate_left
           ·go_simp
            rfl
           refine hK.out _ _ ⟨(zff (zks NB1292_1302) (zff (zks NB1292_1302) (zff (zks NB1292_1302) hHeld.1))), (zff (zks NB1292_1302) (zff (zks NB1292_1302) (zff (zks NB1292_1302) hHeld.2.1))), (zff (zks NB1292_1302) (zff (zks NB1292_1302) (zff (zks NB1292_1302) hHeld.2.2)))⟩ (fun hHeld => ?_)
           clear hK K
           refine one_ (i := 3) (N := none) #[true, true, true, true] rfl rfl (by kernel_rfl) (by decide) (fun K hK => ?_)
           have hs668 := zc0 BK1293
           have hfs668 := blk_frozen BK1293.out 0
           refine zt8 NB1290_1293 NB1291_1293 NB1292_1293 NB1293_1297 NB1293_1301 NB1293_1302 NB1293_1303 NB1293_1304 fun _ _ _ _ _ _ _ _ _ _ _ _ _ _ _ _ => ?_
           have hs669 := zc1 BK1293
           have hfs669 := blk_frozen BK1293.out 1
           refine zt8 NB1290_1293 NB1291_1293 NB1292_1293 NB1293_1297 NB1293_1301 NB1293_1302 NB1293_1303 NB1293_1304 fun _ _ _ _ _ _ _ _ _ _ _ _ _ _ _ _ => ?_
           have hs670 := zc2 BK1293
           have hfs670 := blk_frozen BK1293.out 2
           refine zt8 NB1290_1293 NB1291_1293 NB1292_1293 NB1293_1297 NB1293_1301 NB1293_1302 NB1293_1303 NB1293_1304 fun _ _ _ _ _ _ _ _ _ _ _ _ _ _ _ _ => ?_
           refine skip_ (w1 := ?_) (by rfl) rfl ?_ ?_
           rotate_left
           ·go_simp
            rfl
           refine hK.out _ _ ⟨(zff (zks NB1293_1302) (zff (zks NB1293_1302) (zff (zks NB1293_1302) hHeld.1))), (zff (zks NB1293_1302) (zff (zks NB1293_1302) (zff (zks NB1293_1302) hHeld.2.1))), (zff (zks NB1293_1302) (zff (zks NB1293_1302) (zff (zks NB1293_1302) hHeld.2.2)))⟩ (fun hHeld => ?_)
           clear hK K
           refine done_ (by kernel_rfl) ?_
           try go_wp2
           refine bodyPost_ret (results_cc rfl _ _ gb1292 gb1293 43 43 #[.bool true, .int .u64 0, .int .u64 0] #[.bool true, .int .u64 0, .int .u64 0] (0, 0) (0, 0) _ _ rfl (zkf (zkf (zkf (blk_put (cs := #[.bool true, .int .u64 0, .int .u64 0]) (blk_put (cs := #[.bool true, .int .u64 0, .int .u64 0]) (blk_put (zkq BK1292) 0 _ rfl) 1 _ rfl) 2 _ rfl) NB1292_1293.out _) NB1292_1293.out _) NB1292_1293.out _) Try.underlying43 rfl (by kernel_rfl) rfl (blk_put (cs := #[.bool true, .int .u64 0, .int .u64 0]) (blk_put (cs := #[.bool true, .int .u64 0, .int .u64 0]) (blk_put (zkf (zkf (zkf (zkq BK1293) (zks NB1292_1293).out _) (zks NB1292_1293).out _) (zks NB1292_1293).out _) 0 _ rfl) 1 _ rfl) 2 _ rfl) Try.underlying43 rfl (by kernel_rfl)) rfl ?_
           exact ⟨zaE, zaB⟩
          replace c639 := Bool.eq_false_iff.mpr c639
          subst c639
          replace H := zif H
          simp only [Option.some.injEq, Prod.mk.injEq] at H
          obtain ⟨rfl, rfl, rfl, rfl, rfl, rfl⟩ := H
          refine zt8 NB1290_1297 NB1291_1297 NB1292_1297 NB1293_1297 NB1297_1301 NB1297_1302 NB1297_1303 NB1297_1304 fun _ _ _ _ _ _ _ _ _ _ _ _ _ _ _ _ => ?_
          refine zu3 BK1297 fun _ _ _ _ _ _ => ?_
          refine zt7 NB1290_1303 NB1291_1303 NB1292_1303 NB1293_1303 NB1301_1303 NB1302_1303 NB1303_1304 fun _ _ _ _ _ _ _ _ _ _ _ _ _ _ => ?_
          refine zu3 BK1303 fun _ _ _ _ _ _ => ?_
          refine zt6 NB1290_1304 NB1291_1304 NB1292_1304 NB1293_1304 NB1301_1304 NB1302_1304 fun _ _ _ _ _ _ _ _ _ _ _ _ => ?_
          refine zu3 BK1304 fun _ _ _ _ _ _ => ?_
          try go_wp2
          replace BK1290 := Aside0.mk (blk_drew BK1290.out)
          replace BK1291 := Aside0.mk (blk_drew BK1291.out)
          replace BK1292 := Aside0.mk (blk_drew BK1292.out)
          replace BK1293 := Aside0.mk (blk_drew BK1293.out)
          replace BK1297 := Aside0.mk (blk_drew BK1297.out)
          replace BK1301 := Aside0.mk (blk_drew BK1301.out)
          replace BK1302 := Aside0.mk (blk_drew BK1302.out)
          replace BK1303 := Aside0.mk (blk_drew BK1303.out)
          replace BK1304 := Aside0.mk (blk_drew BK1304.out)
          replace HB := Aside0.mk (below_drew1 HB.out)
          refine start_ (n := 4) (S := fun w' => w'.cell? ⟨gb1303, 0, none⟩ = some (.bool false) ∧ w'.cell? ⟨gb1303, 1, none⟩ = some (.int .u64 x1304001_455) ∧ w'.cell? ⟨gb1303, 2, none⟩ = some (.int .u64 x1304002_455) ∧ w'.cell? ⟨gb1304, 0, none⟩ = some (.bool false) ∧ w'.cell? ⟨gb1304, 1, none⟩ = some (.int .u64 t1299) ∧ w'.cell? ⟨gb1304, 2, none⟩ = some (.int .u64 t1300)) (ds := []) #[false, false, false, false] (by kernel_rfl) rfl rfl (zk3 BK1303 (ze3 BK1304)) (fun hHeld => ?_)
          generalize wc.drew = w695 at BK1290 BK1291 BK1292 BK1293 BK1297 BK1301 BK1302 BK1303 BK1304 HB hHeld ⊢
          refine ztA 0 93 (h := ?_)
          refine ztA 1 94 (h := ?_)
          refine one_ (i := 2) (N := none) #[true, true, true, false] rfl rfl (by kernel_rfl) (by decide) (fun K hK => ?_)
          have hs696 := zc0 BK1292
          have hfs696 := blk_frozen BK1292.out 0
          refine zt8 NB1290_1292 NB1291_1292 NB1292_1293 NB1292_1297 NB1292_1301 NB1292_1302 NB1292_1303 NB1292_1304 fun _ _ _ _ _ _ _ _ _ _ _ _ _ _ _ _ => ?_
          have hs697 := zc1 BK1292
          have hfs697 := blk_frozen BK1292.out 1
          refine zt8 NB1290_1292 NB1291_1292 NB1292_1293 NB1292_1297 NB1292_1301 NB1292_1302 NB1292_1303 NB1292_1304 fun _ _ _ _ _ _ _ _ _ _ _ _ _ _ _ _ => ?_
          have hs698 := zc2 BK1292
          have hfs698 := blk_frozen BK1292.out 2
          refine zt8 NB1290_1292 NB1291_1292 NB1292_1293 NB1292_1297 NB1292_1301 NB1292_1302 NB1292_1303 NB1292_1304 fun _ _ _ _ _ _ _ _ _ _ _ _ _ _ _ _ => ?_
          refine skip_ (w1 := ?_) (by rfl) rfl ?_ ?_
          rotate_left
          ·go_simp
           rfl
          refine hK.out _ _ ⟨(zff (zks NB1292_1303) (zff (zks NB1292_1303) (zff (zks NB1292_1303) hHeld.1))), (zff (zks NB1292_1303) (zff (zks NB1292_1303) (zff (zks NB1292_1303) hHeld.2.1))), (zff (zks NB1292_1303) (zff (zks NB1292_1303) (zff (zks NB1292_1303) hHeld.2.2.1))), (zff (zks NB1292_1304) (zff (zks NB1292_1304) (zff (zks NB1292_1304) hHeld.2.2.2.1))), (zff (zks NB1292_1304) (zff (zks NB1292_1304) (zff (zks NB1292_1304) hHeld.2.2.2.2.1))), (zff (zks NB1292_1304) (zff (zks NB1292_1304) (zff (zks NB1292_1304) hHeld.2.2.2.2.2)))⟩ (fun hHeld => ?_)
          clear hK K
          refine one_ (i := 3) (N := none) #[true, true, true, true] rfl rfl (by kernel_rfl) (by decide) (fun K hK => ?_)
          have hs699 := zc0 BK1293
          have hfs699 := blk_frozen BK1293.out 0
          refine zt8 NB1290_1293 NB1291_1293 NB1292_1293 NB1293_1297 NB1293_1301 NB1293_1302 NB1293_1303 NB1293_1304 fun _ _ _ _ _ _ _ _ _ _ _ _ _ _ _ _ => ?_
          have hs700 := zc1 BK1293
          have hfs700 := blk_frozen BK1293.out 1
          refine zt8 NB1290_1293 NB1291_1293 NB1292_1293 NB1293_1297 NB1293_1301 NB1293_1302 NB1293_1303 NB1293_1304 fun _ _ _ _ _ _ _ _ _ _ _ _ _ _ _ _ => ?_
          have hs701 := zc2 BK1293
          have hfs701 := blk_frozen BK1293.out 2
          refine zt8 NB1290_1293 NB1291_1293 NB1292_1293 NB1293_1297 NB1293_1301 NB1293_1302 NB1293_1303 NB1293_1304 fun _ _ _ _ _ _ _ _ _ _ _ _ _ _ _ _ => ?_
          refine skip_ (w1 := ?_) (by rfl) rfl ?_ ?_
          rotate_left
          ·go_simp
           rfl
          refine hK.out _ _ ⟨(zff (zks NB1293_1303) (zff (zks NB1293_1303) (zff (zks NB1293_1303) hHeld.1))), (zff (zks NB1293_1303) (zff (zks NB1293_1303) (zff (zks NB1293_1303) hHeld.2.1))), (zff (zks NB1293_1303) (zff (zks NB1293_1303) (zff (zks NB1293_1303) hHeld.2.2.1))), (zff (zks NB1293_1304) (zff (zks NB1293_1304) (zff (zks NB1293_1304) hHeld.2.2.2.1))), (zff (zks NB1293_1304) (zff (zks NB1293_1304) (zff (zks NB1293_1304) hHeld.2.2.2.2.1))), (zff (zks NB1293_1304) (zff (zks NB1293_1304) (zff (zks NB1293_1304) hHeld.2.2.2.2.2)))⟩ (fun hHeld => ?_)
          clear hK K
          refine done_ (by kernel_rfl) ?_
          try go_wp2
          refine bodyPost_ret (results_cc rfl _ _ gb1292 gb1293 43 43 #[.bool false, .int .u64 x1304001_455, .int .u64 x1304002_455] #[.bool false, .int .u64 t1299, .int .u64 t1300] (0, 0) (0, 0) _ _ rfl (zkf (zkf (zkf (blk_put (cs := #[.bool false, .int .u64 x1304001_455, .int .u64 0]) (blk_put (cs := #[.bool false, .int .u64 0, .int .u64 0]) (blk_put (zkq BK1292) 0 _ rfl) 1 _ rfl) 2 _ rfl) NB1292_1293.out _) NB1292_1293.out _) NB1292_1293.out _) Try.underlying43 rfl (by kernel_rfl) rfl (blk_put (cs := #[.bool false, .int .u64 t1299, .int .u64 0]) (blk_put (cs := #[.bool false, .int .u64 0, .int .u64 0]) (blk_put (zkf (zkf (zkf (zkq BK1293) (zks NB1292_1293).out _) (zks NB1292_1293).out _) (zks NB1292_1293).out _) 0 _ rfl) 1 _ rfl) 2 _ rfl) Try.underlying43 rfl (by kernel_rfl)) rfl ?_
          exact ⟨zaE, zaB⟩
       rw [if_neg c455] at H
       have c455b0 : (a0 == 12) = false := beq_eq_false_iff_ne.mpr c455
       have c455b1 : (a0 != 12) = true := bne_iff_ne.mpr c455
       by_cases c702 : t1294 = true
       ·subst c702
        replace H := zit H
        simp only [Option.some.injEq, Prod.mk.injEq] at H
        obtain ⟨rfl, rfl, rfl, rfl, rfl, rfl⟩ := H
        refine zt8 NB1290_1303 NB1291_1303 NB1292_1303 NB1293_1303 NB1297_1303 NB1301_1303 NB1302_1303 NB1303_1304 fun _ _ _ _ _ _ _ _ _ _ _ _ _ _ _ _ => ?_
        refine zu3 BK1303 fun _ _ _ _ _ _ => ?_
        try go_wp2
        replace BK1290 := Aside0.mk (blk_drew BK1290.out)
        replace BK1291 := Aside0.mk (blk_drew BK1291.out)
        replace BK1292 := Aside0.mk (blk_drew BK1292.out)
        replace BK1293 := Aside0.mk (blk_drew BK1293.out)
        replace BK1297 := Aside0.mk (blk_drew BK1297.out)
        replace BK1301 := Aside0.mk (blk_drew BK1301.out)
        replace BK1302 := Aside0.mk (blk_drew BK1302.out)
        replace BK1303 := Aside0.mk (blk_drew BK1303.out)
        replace BK1304 := Aside0.mk (blk_drew BK1304.out)
        replace HB := Aside0.mk (below_drew1 HB.out)
        refine start_ (n := 4) (S := fun w' => w'.cell? ⟨gb1302, 0, none⟩ = some (.bool true) ∧ w'.cell? ⟨gb1302, 1, none⟩ = some (.int .u64 0) ∧ w'.cell? ⟨gb1302, 2, none⟩ = some (.int .u64 0)) (ds := []) #[false, false, false, false] (by kernel_rfl) rfl rfl (ze3 BK1302) (fun hHeld => ?_)
        generalize wc.drew = w712 at BK1290 BK1291 BK1292 BK1293 BK1297 BK1301 BK1302 BK1303 BK1304 HB hHeld ⊢
        refine ztA 0 91 (h := ?_)
        refine ztA 1 92 (h := ?_)
        refine one_ (i := 2) (N := none) #[true, true, true, false] rfl rfl (by kernel_rfl) (by decide) (fun K hK => ?_)
        have hs713 := zc0 BK1292
        have hfs713 := blk_frozen BK1292.out 0
        refine zt8 NB1290_1292 NB1291_1292 NB1292_1293 NB1292_1297 NB1292_1301 NB1292_1302 NB1292_1303 NB1292_1304 fun _ _ _ _ _ _ _ _ _ _ _ _ _ _ _ _ => ?_
        have hs714 := zc1 BK1292
        have hfs714 := blk_frozen BK1292.out 1
        refine zt8 NB1290_1292 NB1291_1292 NB1292_1293 NB1292_1297 NB1292_1301 NB1292_1302 NB1292_1303 NB1292_1304 fun _ _ _ _ _ _ _ _ _ _ _ _ _ _ _ _ => ?_
        have hs715 := zc2 BK1292
        have hfs715 := blk_frozen BK1292.out 2
        refine zt8 NB1290_1292 NB1291_1292 NB1292_1293 NB1292_1297 NB1292_1301 NB1292_1302 NB1292_1303 NB1292_1304 fun _ _ _ _ _ _ _ _ _ _ _ _ _ _ _ _ => ?_
        refine skip_ (w1 := ?_) (by rfl) rfl ?_ ?_
        rotate_left
        ·go_simp
         rfl
        refine hK.out _ _ ⟨(zff (zks NB1292_1302) (zff (zks NB1292_1302) (zff (zks NB1292_1302) hHeld.1))), (zff (zks NB1292_1302) (zff (zks NB1292_1302) (zff (zks NB1292_1302) hHeld.2.1))), (zff (zks NB1292_1302) (zff (zks NB1292_1302) (zff (zks NB1292_1302) hHeld.2.2)))⟩ (fun hHeld => ?_)
        clear hK K
        refine one_ (i := 3) (N := none) #[true, true, true, true] rfl rfl (by kernel_rfl) (by decide) (fun K hK => ?_)
        have hs716 := zc0 BK1293
        have hfs716 := blk_frozen BK1293.out 0
        refine zt8 NB1290_1293 NB1291_1293 NB1292_1293 NB1293_1297 NB1293_1301 NB1293_1302 NB1293_1303 NB1293_1304 fun _ _ _ _ _ _ _ _ _ _ _ _ _ _ _ _ => ?_
        have hs717 := zc1 BK1293
        have hfs717 := blk_frozen BK1293.out 1
        refine zt8 NB1290_1293 NB1291_1293 NB1292_1293 NB1293_1297 NB1293_1301 NB1293_1302 NB1293_1303 NB1293_1304 fun _ _ _ _ _ _ _ _ _ _ _ _ _ _ _ _ => ?_
        have hs718 := zc2 BK1293
        have hfs718 := blk_frozen BK1293.out 2
        refine zt8 NB1290_1293 NB1291_1293 NB1292_1293 NB1293_1297 NB1293_1301 NB1293_1302 NB1293_1303 NB1293_1304 fun _ _ _ _ _ _ _ _ _ _ _ _ _ _ _ _ => ?_
        refine skip_ (w1 := ?_) (by rfl) rfl ?_ ?_
        rotate_left
        ·go_simp
         rfl
        refine hK.out _ _ ⟨(zff (zks NB1293_1302) (zff (zks NB1293_1302) (zff (zks NB1293_1302) hHeld.1))), (zff (zks NB1293_1302) (zff (zks NB1293_1302) (zff (zks NB1293_1302) hHeld.2.1))), (zff (zks NB1293_1302) (zff (zks NB1293_1302) (zff (zks NB1293_1302) hHeld.2.2)))⟩ (fun hHeld => ?_)
        clear hK K
        refine done_ (by kernel_rfl) ?_
        try go_wp2
        refine bodyPost_ret (results_cc rfl _ _ gb1292 gb1293 43 43 #[.bool true, .int .u64 0, .int .u64 0] #[.bool true, .int .u64 0, .int .u64 0] (0, 0) (0, 0) _ _ rfl (zkf (zkf (zkf (blk_put (cs := #[.bool true, .int .u64 0, .int .u64 0]) (blk_put (cs := #[.bool true, .int .u64 0, .int .u64 0]) (blk_put (zkq BK1292) 0 _ rfl) 1 _ rfl) 2 _ rfl) NB1292_1293.out _) NB1292_1293.out _) NB1292_1293.out _) Try.underlying43 rfl (by kernel_rfl) rfl (blk_put (cs := #[.bool true, .int .u64 0, .int .u64 0]) (blk_put (cs := #[.bool true, .int .u64 0, .int .u64 0]) (blk_put (zkf (zkf (zkf (zkq BK1293) (zks NB1292_1293).out _) (zks NB1292_1293).out _) (zks NB1292_1293).out _) 0 _ rfl) 1 _ rfl) 2 _ rfl) Try.underlying43 rfl (by kernel_rfl)) rfl ?_
        exact ⟨zaE, zaB⟩
       replace c702 := Bool.eq_false_iff.mpr c702
       subst c702
       replace H := zif H
       by_cases c719 : t1298 = true
       ·subst c719
        replace H := zit H
        simp only [Option.some.injEq, Prod.mk.injEq] at H
        obtain ⟨rfl, rfl, rfl, rfl, rfl, rfl⟩ := H
        refine zt8 NB1290_1303 NB1291_1303 NB1292_1303 NB1293_1303 NB1297_1303 NB1301_1303 NB1302_1303 NB1303_1304 fun _ _ _ _ _ _ _ _ _ _ _ _ _ _ _ _ => ?_
        refine zu3 BK1303 fun _ _ _ _ _ _ => ?_
        refine zt7 NB1290_1304 NB1291_1304 NB1292_1304 NB1293_1304 NB1297_1304 NB1301_1304 NB1302_1304 fun _ _ _ _ _ _ _ _ _ _ _ _ _ _ => ?_
        refine zu3 BK1304 fun _ _ _ _ _ _ => ?_
        try go_wp2
        replace BK1290 := Aside0.mk (blk_drew BK1290.out)
        replace BK1291 := Aside0.mk (blk_drew BK1291.out)
        replace BK1292 := Aside0.mk (blk_drew BK1292.out)
        replace BK1293 := Aside0.mk (blk_drew BK1293.out)
        replace BK1297 := Aside0.mk (blk_drew BK1297.out)
        replace BK1301 := Aside0.mk (blk_drew BK1301.out)
        replace BK1302 := Aside0.mk (blk_drew BK1302.out)
        replace BK1303 := Aside0.mk (blk_drew BK1303.out)
        replace BK1304 := Aside0.mk (blk_drew BK1304.out)
        replace HB := Aside0.mk (below_drew1 HB.out)
        refine start_ (n := 4) (S := fun w' => w'.cell? ⟨gb1302, 0, none⟩ = some (.bool true) ∧ w'.cell? ⟨gb1302, 1, none⟩ = some (.int .u64 0) ∧ w'.cell? ⟨gb1302, 2, none⟩ = some (.int .u64 0)) (ds := []) #[false, false, false, false] (by kernel_rfl) rfl rfl (ze3 BK1302) (fun hHeld => ?_)
        generalize wc.drew = w737 at BK1290 BK1291 BK1292 BK1293 BK1297 BK1301 BK1302 BK1303 BK1304 HB hHeld ⊢
        refine ztA 0 91 (h := ?_)
        refine ztA 1 92 (h := ?_)
        refine one_ (i := 2) (N := none) #[true, true, true, false] rfl rfl (by kernel_rfl) (by decide) (fun K hK => ?_)
        have hs738 := zc0 BK1292
        have hfs738 := blk_frozen BK1292.out 0
        refine zt8 NB1290_1292 NB1291_1292 NB1292_1293 NB1292_1297 NB1292_1301 NB1292_1302 NB1292_1303 NB1292_1304 fun _ _ _ _ _ _ _ _ _ _ _ _ _ _ _ _ => ?_
        have hs739 := zc1 BK1292
        have hfs739 := blk_frozen BK1292.out 1
        refine zt8 NB1290_1292 NB1291_1292 NB1292_1293 NB1292_1297 NB1292_1301 NB1292_1302 NB1292_1303 NB1292_1304 fun _ _ _ _ _ _ _ _ _ _ _ _ _ _ _ _ => ?_
        have hs740 := zc2 BK1292
        have hfs740 := blk_frozen BK1292.out 2
        refine zt8 NB1290_1292 NB1291_1292 NB1292_1293 NB1292_1297 NB1292_1301 NB1292_1302 NB1292_1303 NB1292_1304 fun _ _ _ _ _ _ _ _ _ _ _ _ _ _ _ _ => ?_
        refine skip_ (w1 := ?_) (by rfl) rfl ?_ ?_
        rotate_left
        ·go_simp
         rfl
        refine hK.out _ _ ⟨(zff (zks NB1292_1302) (zff (zks NB1292_1302) (zff (zks NB1292_1302) hHeld.1))), (zff (zks NB1292_1302) (zff (zks NB1292_1302) (zff (zks NB1292_1302) hHeld.2.1))), (zff (zks NB1292_1302) (zff (zks NB1292_1302) (zff (zks NB1292_1302) hHeld.2.2)))⟩ (fun hHeld => ?_)
        clear hK K
        refine one_ (i := 3) (N := none) #[true, true, true, true] rfl rfl (by kernel_rfl) (by decide) (fun K hK => ?_)
        have hs741 := zc0 BK1293
        have hfs741 := blk_frozen BK1293.out 0
        refine zt8 NB1290_1293 NB1291_1293 NB1292_1293 NB1293_1297 NB1293_1301 NB1293_1302 NB1293_1303 NB1293_1304 fun _ _ _ _ _ _ _ _ _ _ _ _ _ _ _ _ => ?_
        have hs742 := zc1 BK1293
        have hfs742 := blk_frozen BK1293.out 1
        refine zt8 NB1290_1293 NB1291_1293 NB1292_1293 NB1293_1297 NB1293_1301 NB1293_1302 NB1293_1303 NB1293_1304 fun _ _ _ _ _ _ _ _ _ _ _ _ _ _ _ _ => ?_
        have hs743 := zc2 BK1293
        have hfs743 := blk_frozen BK1293.out 2
        refine zt8 NB1290_1293 NB1291_1293 NB1292_1293 NB1293_1297 NB1293_1301 NB1293_1302 NB1293_1303 NB1293_1304 fun _ _ _ _ _ _ _ _ _ _ _ _ _ _ _ _ => ?_
        refine skip_ (w1 := ?_) (by rfl) rfl ?_ ?_
        rotate_left
        ·go_simp
         rfl
        refine hK.out _ _ ⟨(zff (zks NB1293_1302) (zff (zks NB1293_1302) (zff (zks NB1293_1302) hHeld.1))), (zff (zks NB1293_1302) (zff (zks NB1293_1302) (zff (zks NB1293_1302) hHeld.2.1))), (zff (zks NB1293_1302) (zff (zks NB1293_1302) (zff (zks NB1293_1302) hHeld.2.2)))⟩ (fun hHeld => ?_)
        clear hK K
        refine done_ (by kernel_rfl) ?_
        try go_wp2
        refine bodyPost_ret (results_cc rfl _ _ gb1292 gb1293 43 43 #[.bool true, .int .u64 0, .int .u64 0] #[.bool true, .int .u64 0, .int .u64 0] (0, 0) (0, 0) _ _ rfl (zkf (zkf (zkf (blk_put (cs := #[.bool true, .int .u64 0, .int .u64 0]) (blk_put (cs := #[.bool true, .int .u64 0, .int .u64 0]) (blk_put (zkq BK1292) 0 _ rfl) 1 _ rfl) 2 _ rfl) NB1292_1293.out _) NB1292_1293.out _) NB1292_1293.out _) Try.underlying43 rfl (by kernel_rfl) rfl (blk_put (cs := #[.bool true, .int .u64 0, .int .u64 0]) (blk_put (cs := #[.bool true, .int .u64 0, .int .u64 0]) (blk_put (zkf (zkf (zkf (zkq BK1293) (zks NB1292_1293).out _) (zks NB1292_1293).out _) (zks NB1292_1293).out _) 0 _ rfl) 1 _ rfl) 2 _ rfl) Try.underlying43 rfl (by kernel_rfl)) rfl ?_
        exact ⟨zaE, zaB⟩
       replace c719 := Bool.eq_false_iff.mpr c719
       subst c719
       replace H := zif H
       simp only [Option.some.injEq, Prod.mk.injEq] at H
       obtain ⟨rfl, rfl, rfl, rfl, rfl, rfl⟩ := H
       refine zt8 NB1290_1303 NB1291_1303 NB1292_1303 NB1293_1303 NB1297_1303 NB1301_1303 NB1302_1303 NB1303_1304 fun _ _ _ _ _ _ _ _ _ _ _ _ _ _ _ _ => ?_
       refine zu3 BK1303 fun _ _ _ _ _ _ => ?_
       refine zt7 NB1290_1304 NB1291_1304 NB1292_1304 NB1293_1304 NB1297_1304 NB1301_1304 NB1302_1304 fun _ _ _ _ _ _ _ _ _ _ _ _ _ _ => ?_
       refine zu3 BK1304 fun _ _ _ _ _ _ => ?_
       try go_wp2
       replace BK1290 := Aside0.mk (blk_drew BK1290.out)
       replace BK1291 := Aside0.mk (blk_drew BK1291.out)
       replace BK1292 := Aside0.mk (blk_drew BK1292.out)
       replace BK1293 := Aside0.mk (blk_drew BK1293.out)
       replace BK1297 := Aside0.mk (blk_drew BK1297.out)
       replace BK1301 := Aside0.mk (blk_drew BK1301.out)
       replace BK1302 := Aside0.mk (blk_drew BK1302.out)
       replace BK1303 := Aside0.mk (blk_drew BK1303.out)
       replace BK1304 := Aside0.mk (blk_drew BK1304.out)
       replace HB := Aside0.mk (below_drew1 HB.out)
       refine start_ (n := 4) (S := fun w' => w'.cell? ⟨gb1303, 0, none⟩ = some (.bool false) ∧ w'.cell? ⟨gb1303, 1, none⟩ = some (.int .u64 t1295) ∧ w'.cell? ⟨gb1303, 2, none⟩ = some (.int .u64 t1296) ∧ w'.cell? ⟨gb1304, 0, none⟩ = some (.bool false) ∧ w'.cell? ⟨gb1304, 1, none⟩ = some (.int .u64 t1299) ∧ w'.cell? ⟨gb1304, 2, none⟩ = some (.int .u64 t1300)) (ds := []) #[false, false, false, false] (by kernel_rfl) rfl rfl (zk3 BK1303 (ze3 BK1304)) (fun hHeld => ?_)
       generalize wc.drew = w761 at BK1290 BK1291 BK1292 BK1293 BK1297 BK1301 BK1302 BK1303 BK1304 HB hHeld ⊢
       refine ztA 0 93 (h := ?_)
       refine ztA 1 94 (h := ?_)
       refine one_ (i := 2) (N := none) #[true, true, true, false] rfl rfl (by kernel_rfl) (by decide) (fun K hK => ?_)
       have hs762 := zc0 BK1292
       have hfs762 := blk_frozen BK1292.out 0
       refine zt8 NB1290_1292 NB1291_1292 NB1292_1293 NB1292_1297 NB1292_1301 NB1292_1302 NB1292_1303 NB1292_1304 fun _ _ _ _ _ _ _ _ _ _ _ _ _ _ _ _ => ?_
       have hs763 := zc1 BK1292
       have hfs763 := blk_frozen BK1292.out 1
       refine zt8 NB1290_1292 NB1291_1292 NB1292_1293 NB1292_1297 NB1292_1301 NB1292_1302 NB1292_1303 NB1292_1304 fun _ _ _ _ _ _ _ _ _ _ _ _ _ _ _ _ => ?_
       have hs764 := zc2 BK1292
       have hfs764 := blk_frozen BK1292.out 2
       refine zt8 NB1290_1292 NB1291_1292 NB1292_1293 NB1292_1297 NB1292_1301 NB1292_1302 NB1292_1303 NB1292_1304 fun _ _ _ _ _ _ _ _ _ _ _ _ _ _ _ _ => ?_
       refine skip_ (w1 := ?_) (by rfl) rfl ?_ ?_
       rotate_left
       ·go_simp
        rfl
       refine hK.out _ _ ⟨(zff (zks NB1292_1303) (zff (zks NB1292_1303) (zff (zks NB1292_1303) hHeld.1))), (zff (zks NB1292_1303) (zff (zks NB1292_1303) (zff (zks NB1292_1303) hHeld.2.1))), (zff (zks NB1292_1303) (zff (zks NB1292_1303) (zff (zks NB1292_1303) hHeld.2.2.1))), (zff (zks NB1292_1304) (zff (zks NB1292_1304) (zff (zks NB1292_1304) hHeld.2.2.2.1))), (zff (zks NB1292_1304) (zff (zks NB1292_1304) (zff (zks NB1292_1304) hHeld.2.2.2.2.1))), (zff (zks NB1292_1304) (zff (zks NB1292_1304) (zff (zks NB1292_1304) hHeld.2.2.2.2.2)))⟩ (fun hHeld => ?_)
       clear hK K
       refine one_ (i := 3) (N := none) #[true, true, true, true] rfl rfl (by kernel_rfl) (by decide) (fun K hK => ?_)
       have hs765 := zc0 BK1293
       have hfs765 := blk_frozen BK1293.out 0
       refine zt8 NB1290_1293 NB1291_1293 NB1292_1293 NB1293_1297 NB1293_1301 NB1293_1302 NB1293_1303 NB1293_1304 fun _ _ _ _ _ _ _ _ _ _ _ _ _ _ _ _ => ?_
       have hs766 := zc1 BK1293
       have hfs766 := blk_frozen BK1293.out 1
       refine zt8 NB1290_1293 NB1291_1293 NB1292_1293 NB1293_1297 NB1293_1301 NB1293_1302 NB1293_1303 NB1293_1304 fun _ _ _ _ _ _ _ _ _ _ _ _ _ _ _ _ => ?_
       have hs767 := zc2 BK1293
       have hfs767 := blk_frozen BK1293.out 2
       refine zt8 NB1290_1293 NB1291_1293 NB1292_1293 NB1293_1297 NB1293_1301 NB1293_1302 NB1293_1303 NB1293_1304 fun _ _ _ _ _ _ _ _ _ _ _ _ _ _ _ _ => ?_
       refine skip_ (w1 := ?_) (by rfl) rfl ?_ ?_
       rotate_left
       ·go_simp
        rfl
       refine hK.out _ _ ⟨(zff (zks NB1293_1303) (zff (zks NB1293_1303) (zff (zks NB1293_1303) hHeld.1))), (zff (zks NB1293_1303) (zff (zks NB1293_1303) (zff (zks NB1293_1303) hHeld.2.1))), (zff (zks NB1293_1303) (zff (zks NB1293_1303) (zff (zks NB1293_1303) hHeld.2.2.1))), (zff (zks NB1293_1304) (zff (zks NB1293_1304) (zff (zks NB1293_1304) hHeld.2.2.2.1))), (zff (zks NB1293_1304) (zff (zks NB1293_1304) (zff (zks NB1293_1304) hHeld.2.2.2.2.1))), (zff (zks NB1293_1304) (zff (zks NB1293_1304) (zff (zks NB1293_1304) hHeld.2.2.2.2.2)))⟩ (fun hHeld => ?_)
       clear hK K
       refine done_ (by kernel_rfl) ?_
       try go_wp2
       refine bodyPost_ret (results_cc rfl _ _ gb1292 gb1293 43 43 #[.bool false, .int .u64 t1295, .int .u64 t1296] #[.bool false, .int .u64 t1299, .int .u64 t1300] (0, 0) (0, 0) _ _ rfl (zkf (zkf (zkf (blk_put (cs := #[.bool false, .int .u64 t1295, .int .u64 0]) (blk_put (cs := #[.bool false, .int .u64 0, .int .u64 0]) (blk_put (zkq BK1292) 0 _ rfl) 1 _ rfl) 2 _ rfl) NB1292_1293.out _) NB1292_1293.out _) NB1292_1293.out _) Try.underlying43 rfl (by kernel_rfl) rfl (blk_put (cs := #[.bool false, .int .u64 t1299, .int .u64 0]) (blk_put (cs := #[.bool false, .int .u64 0, .int .u64 0]) (blk_put (zkf (zkf (zkf (zkq BK1293) (zks NB1292_1293).out _) (zks NB1292_1293).out _) (zks NB1292_1293).out _) 0 _ rfl) 1 _ rfl) 2 _ rfl) Try.underlying43 rfl (by kernel_rfl)) rfl ?_
       exact ⟨zaE, zaB⟩
end Go.Proofs.Ytmadjhmecfbcmaa.F
end
section
namespace Go.Proofs.Ytmadjhmecfbcmaa.F
open Go.RowKit Go.Proofs.YtmadjhmecfbcmaaW.PrintWords Go.Proofs.YtmadjhmecfbcmaaW.PrintLast Go.Proofs.YtmadjhmecfbcmaaW.PrintMore
attribute [local go_sem] max2_int min2_int max_two min_two max_three min_three max_four min_four
set_option linter.unusedVariables false
set_option linter.unusedSimpArgs false
set_option maxHeartbeats 8000000
set_option maxRecDepth 100000
attribute [local go_sem high] eqA43
theorem flyballlaw16_SpanTests.calls (k : Nat) (a0 : Int) (a1_0 : Bool) (a1_1 : Int) (a1_2 : Int) (a2_0 : Bool) (a2_1 : Int) (a2_2 : Int) (r : Bool) (w : World) (h : flyballlaw16_SpanTests.f k a0 a1_0 a1_1 a1_2 a2_0 a2_1 a2_2 = some r) (hr_ : r = true) :
  Calls Try.prog 11 #[.int .u8 a0, .agg #[.bool a1_0, .int .u64 a1_1, .int .u64 a1_2], .agg #[.bool a2_0, .int .u64 a2_1, .int .u64 a2_2]] w fun e w' => e = .returned (.bool r) ∧ Below w.heap.size w w' := by
 have hu43 := Try.underlying43
 have HB := Aside0.mk (Below.refl w.heap.size w)
 have H := h
 unfold flyballlaw16_SpanTests.f at H
 clear h
 obtain ⟨t1328, A4, H⟩ := zbs H
 try dsimp only at H
 by_cases c5 : t1328 = true
 ·subst c5
  replace H := zit H
  obtain ⟨⟨t1329, t1330, t1331, t1332, t1333, t1334⟩, A6, H⟩ := zbs H
  try dsimp only at H
  obtain ⟨⟨t1337, t1338, t1339, t1340, t1341, t1342⟩, A7, H⟩ := zbs H
  try dsimp only at H
  by_cases c8 : (t1329 == t1337 && (t1330 == t1338 && (t1331 == t1339))) = true
  ·rw [if_pos c8] at H
   have c8b0 : (t1329 == t1337 && (t1330 == t1338 && (t1331 == t1339))) = true := c8
   (try (have c8b1 : decide (t1329 = t1337 && (t1330 == t1338 && (t1331 == t1339))) = true := by simpa using c8))
   (try (have c8b2 : (t1329 == t1337 && (t1330 == t1338 && (t1331 == t1339))) = true := by simpa using c8))
   clear c8
   obtain rfl := Option.some.inj H
   go_enter Try.func11, Try.ntmps11
   go_wp2_with (first | ((with_reducible refine gtd 4 rfl ?_); refine zbx 4 #[.bool a1_0, .int .u64 a1_1, .int .u64 a1_2] 43 (h := ?_); intro gb1326 hg w9 hbox hb; have GW1326 := zkZ hg (zaB (p := Below w.heap.size w _)); replace HB := Aside0.mk (below_step zaB hb); have BK1326 := Aside0.mk (hbox); clear hb hbox hg) | ((with_reducible refine gtd 5 rfl ?_); refine zbx 5 #[.bool a2_0, .int .u64 a2_1, .int .u64 a2_2] 43 (h := ?_); intro gb1327 hg w10 hbox hb; refine zbn1 HB BK1326 hg hb hbox (c := ?_); clear HB BK1326 hb hbox hg; intro GW1327 NB1326_1327 BK1326 HB BK1327) | ((with_reducible refine gtc 36 rfl ?_); refine zgL 12 Try.func36 (flyballlaw16_works.calls k  true _ A4.out rfl) (h := ?_); rintro w11 hb; refine zcn2 HB BK1326 BK1327 hb (c := ?_); clear HB BK1326 BK1327 hb; intro BK1326 BK1327 HB; refine zt1 NB1326_1327 fun _ _ => ?_; refine zu3 BK1326 fun _ _ _ _ _ _ => ?_; refine zu3 BK1327 fun _ _ _ _ _ _ => ?_) | ((with_reducible refine gtc 52 rfl ?_); refine zgL 19 Try.func52 (span_Test.calls k a0 a1_0 a1_1 a1_2 a2_0 a2_1 a2_2 t1329 t1330 t1331 t1332 t1333 t1334 _ A6.out) (h := ?_); rintro w15 hb; refine zcn2 HB BK1326 BK1327 hb (c := ?_); clear HB BK1326 BK1327 hb; intro BK1326 BK1327 HB) | ((with_reducible refine gtd 8 rfl ?_); refine zbx 8 #[.bool false, .int .u64 0, .int .u64 0] 43 (h := ?_); intro gb1335 hg w16 hbox hb; refine zbn2 HB BK1326 BK1327 hg hb hbox (c := ?_); clear HB BK1326 BK1327 hb hbox hg; intro GW1335 NB1326_1335 NB1327_1335 BK1326 BK1327 HB BK1335) | ((with_reducible refine gtd 9 rfl ?_); refine zbx 9 #[.bool false, .int .u64 0, .int .u64 0] 43 (h := ?_); intro gb1336 hg w17 hbox hb; refine zbn3 HB BK1326 BK1327 BK1335 hg hb hbox (c := ?_); clear HB BK1326 BK1327 BK1335 hb hbox hg; intro GW1336 NB1326_1336 NB1327_1336 NB1335_1336 BK1326 BK1327 BK1335 HB BK1336; refine zt3 NB1326_1335 NB1327_1335 NB1335_1336 fun _ _ _ _ _ _ => ?_; refine zu3 BK1335 fun _ _ _ _ _ _ => ?_; refine zt2 NB1326_1336 NB1327_1336 fun _ _ _ _ => ?_; refine zu3 BK1336 fun _ _ _ _ _ _ => ?_; refine zu3 BK1326 fun _ _ _ _ _ _ => ?_; refine zu3 BK1327 fun _ _ _ _ _ _ => ?_) | ((with_reducible refine gtc 53 rfl ?_); refine zgL 26 Try.func53 (flyballref16_Test.calls k a0 a1_0 a1_1 a1_2 a2_0 a2_1 a2_2 t1337 t1338 t1339 t1340 t1341 t1342 _ A7.out) (h := ?_); rintro w27 hb; replace BK1326 := Aside0.mk (blk_below (zkf (zkf (zkf (zkf (zkf (zkf BK1326.out NB1326_1335.out _) NB1326_1335.out _) NB1326_1335.out _) NB1326_1336.out _) NB1326_1336.out _) NB1326_1336.out _) hb); replace BK1327 := Aside0.mk (blk_below (zkf (zkf (zkf (zkf (zkf (zkf BK1327.out NB1327_1335.out _) NB1327_1335.out _) NB1327_1335.out _) NB1327_1336.out _) NB1327_1336.out _) NB1327_1336.out _) hb); replace BK1335 := Aside0.mk (blk_below (o := .cells #[.bool t1329, .int .u64 t1330, .int .u64 t1331] 43 (0, 0)) (zkf (zkf (zkf (blk_put (cs := #[.bool t1329, .int .u64 t1330, .int .u64 0]) (blk_put (cs := #[.bool t1329, .int .u64 0, .int .u64 0]) (blk_put BK1335.out 0 _ rfl) 1 _ rfl) 2 _ rfl) NB1335_1336.out _) NB1335_1336.out _) NB1335_1336.out _) hb); replace BK1336 := Aside0.mk (blk_below (o := .cells #[.bool t1332, .int .u64 t1333, .int .u64 t1334] 43 (0, 0)) (blk_put (cs := #[.bool t1332, .int .u64 t1333, .int .u64 0]) (blk_put (cs := #[.bool t1332, .int .u64 0, .int .u64 0]) (blk_put (zkf (zkf (zkf BK1336.out (zks NB1335_1336).out _) (zks NB1335_1336).out _) (zks NB1335_1336).out _) 0 _ rfl) 1 _ rfl) 2 _ rfl) hb); replace HB := Aside0.mk (below_step (below_set (below_set (below_set (below_set (below_set (below_set HB.out GW1335.out) GW1335.out) GW1335.out) GW1336.out) GW1336.out) GW1336.out) hb); (try clear hb)) | ((with_reducible refine gtd 10 rfl ?_); refine zbx 10 #[.bool false, .int .u64 0, .int .u64 0] 43 (h := ?_); intro gb1343 hg w28 hbox hb; refine zbn4 HB BK1326 BK1327 BK1335 BK1336 hg hb hbox (c := ?_); clear HB BK1326 BK1327 BK1335 BK1336 hb hbox hg; intro GW1343 NB1326_1343 NB1327_1343 NB1335_1343 NB1336_1343 BK1326 BK1327 BK1335 BK1336 HB BK1343) | ((with_reducible refine gtd 11 rfl ?_); refine zbx 11 #[.bool false, .int .u64 0, .int .u64 0] 43 (h := ?_); intro gb1344 hg w29 hbox hb; refine zbn5 HB BK1326 BK1327 BK1335 BK1336 BK1343 hg hb hbox (c := ?_); clear HB BK1326 BK1327 BK1335 BK1336 BK1343 hb hbox hg; intro GW1344 NB1326_1344 NB1327_1344 NB1335_1344 NB1336_1344 NB1343_1344 BK1326 BK1327 BK1335 BK1336 BK1343 HB BK1344; refine zt5 NB1326_1343 NB1327_1343 NB1335_1343 NB1336_1343 NB1343_1344 fun _ _ _ _ _ _ _ _ _ _ => ?_; refine zu3 BK1343 fun _ _ _ _ _ _ => ?_; refine zt4 NB1326_1344 NB1327_1344 NB1335_1344 NB1336_1344 fun _ _ _ _ _ _ _ _ => ?_; refine zu3 BK1344 fun _ _ _ _ _ _ => ?_; refine zu3 BK1335 fun _ _ _ _ _ _ => ?_; refine zu3 BK1336 fun _ _ _ _ _ _ => ?_))
   go_ret
   exact ⟨zaE, zaB⟩
  rw [if_neg c8] at H
  have c8b0 : (t1329 == t1337 && (t1330 == t1338 && (t1331 == t1339))) = false := by simpa using c8
  (try (have c8b1 : decide (t1329 = t1337 && (t1330 == t1338 && (t1331 == t1339))) = false := by simpa using c8))
  (try (have c8b2 : (t1329 == t1337 && (t1330 == t1338 && (t1331 == t1339))) = false := by simpa using c8))
  (try (have c8b3 : ¬ (t1329 = t1337 && (t1330 == t1338 && (t1331 == t1339))) := by simpa using c8))
  clear c8
  subst hr_
  cases H
 replace c5 := Bool.eq_false_iff.mpr c5
 subst c5
 replace H := zif H
 subst hr_
 cases H
end Go.Proofs.Ytmadjhmecfbcmaa.F
end
section
namespace Go.Proofs.Ytmadjhmecfbcmaa.M
open Go.RowKit Go.Proofs.YtmadjhmecfbcmaaW.PrintWords Go.Proofs.YtmadjhmecfbcmaaW.PrintLast Go.Proofs.YtmadjhmecfbcmaaW.PrintMore Go.Proofs.Ytmadjhmecfbcmaa.F
def sgn (a : Nat) : Bool := a / 9223372036854775808 == 1
def ex (a : Nat) : Nat := a / 4503599627370496 % 2048
def fr (a : Nat) : Nat := a % 4503599627370496
def cls (a : Nat) : Nat := if ex a = 2047 then (if fr a = 0 then 3 else 4) else if ex a = 0 then (if fr a = 0 then 0 else 1) else 2
def spm (a : Nat) : Nat := if cls a = 2 then 4503599627370496 + fr a else if cls a = 1 then fr a else 0
def spe (a : Nat) : Int := if cls a = 2 then (ex a : Int) - 1075 else if cls a = 1 then -1074 else 0
def key (a : Nat) : Nat := a % 9223372036854775808
def U (a : Nat) : Prop := a < 18446744073709551616
theorem sgn_cast (a : Nat) : ((a : Int) / 9223372036854775808 == 1) = sgn a := by
 unfold sgn
 rw [Bool.eq_iff_iff, beq_iff_eq, beq_iff_eq]; omega
theorem ex_lt (a : Nat) : ex a < 2048 := by unfold ex; omega
theorem fr_lt (a : Nat) : fr a < 4503599627370496 := by unfold fr; omega
theorem key_lt (a : Nat) : key a < 9223372036854775808 := by unfold key; omega
theorem key_parts' (a : Nat) : key a = ex a * 4503599627370496 + fr a := by unfold key ex fr; omega
theorem a_parts (a : Nat) (h : U a) : a = sg (sgn a) + key a := by
 unfold sg sgn key U at *
 by_cases e : a / 9223372036854775808 = 1
 ·rw [beq_iff_eq.2 e, if_pos rfl]; omega
 ·rw [beq_eq_false_iff_ne.2 e, if_neg (by simp)]; omega
theorem Parts_ok (a : Nat) (h : U a) : pattern_Parts.f (a : Int) = some (sgn a, (ex a : Int), (fr a : Int)) := by
 unfold pattern_Parts.f U at *
 rw [sgn_cast, show (a : Int) / 4503599627370496 = ((a / 4503599627370496 : Nat) : Int) from by omega, and_2047 _ (by omega), and_52 _ h, w64 (by omega) (by omega)]
 rfl
theorem ref_Parts_ok (a : Nat) (h : U a) : flyballref04_Parts.f (a : Int) = some (sgn a, (ex a : Int), (fr a : Int)) := by
 unfold flyballref04_Parts.f U at *
 have e1 : Int.tdiv (a : Int) 9223372036854775808 = (a : Int) / 9223372036854775808 := Int.tdiv_eq_ediv_of_nonneg (by omega)
 have e2 : Int.tdiv (a : Int) 4503599627370496 = (a : Int) / 4503599627370496 := Int.tdiv_eq_ediv_of_nonneg (by omega)
 have e3 : Int.tmod (a : Int) 4503599627370496 = (a : Int) % 4503599627370496 := Int.tmod_eq_emod_of_nonneg (by omega)
 rw [e1, e2, e3, wu64 (by omega) (by omega), wu64 (by omega) (by omega), sgn_cast, Int.tmod_eq_emod_of_nonneg (by omega), w64 (by omega) (by omega)]
 unfold ex fr
 congr 3
theorem Class_ev (a : Nat) (h : U a) : Ev (fun k => pattern_Class.f k (a : Int)) (cls a : Int) := by
 refine Ev.later 2 fun k => ?_
 unfold pattern_Class.f
 rw [bind_of _ (Parts_ok a h)]
 dsimp only
 have e1 : ((fr a : Int) == 0) = decide (fr a = 0) := by rw [Bool.eq_iff_iff]; simp
 rw [e1]
 unfold cls
 by_cases c1 : ex a = 2047
 ·rw [if_pos (by omega), if_pos c1]
  by_cases c2 : fr a = 0
  ·simp [pattern_Class.j0, c2]
  ·simp [pattern_Class.j0, c2, c1]
 ·rw [if_neg (by omega), if_neg c1]
  by_cases c3 : ex a = 0
  ·by_cases c2 : fr a = 0
   ·simp [pattern_Class.j0, pattern_Class.j1, c2, c3]
   ·simp [pattern_Class.j0, pattern_Class.j1, c2, c3]
  ·have : ¬ ((ex a : Int) = 2047) := by omega
   simp [pattern_Class.j0, pattern_Class.j1, this, c3]
theorem ref_Class_ev (a : Nat) (h : U a) : Ev (fun k => flyballref04_Class.f k (a : Int)) (cls a : Int) := by
 refine Ev.later 2 fun k => ?_
 unfold flyballref04_Class.f
 rw [bind_of _ (ref_Parts_ok a h)]
 dsimp only
 have e1 : ((fr a : Int) == 0) = decide (fr a = 0) := by rw [Bool.eq_iff_iff]; simp
 rw [e1]
 unfold cls
 by_cases c1 : ex a = 2047
 ·rw [if_pos (by omega), if_pos c1]
  by_cases c2 : fr a = 0
  ·simp [flyballref04_Class.j0, c2]
  ·simp [flyballref04_Class.j0, c2, c1]
 ·rw [if_neg (by omega), if_neg c1]
  by_cases c3 : ex a = 0
  ·by_cases c2 : fr a = 0
   ·simp [flyballref04_Class.j0, flyballref04_Class.j1, c2, c3]
   ·simp [flyballref04_Class.j0, flyballref04_Class.j1, c2, c3]
  ·have : ¬ ((ex a : Int) = 2047) := by omega
   simp [flyballref04_Class.j0, flyballref04_Class.j1, this, c3]
theorem cls_le (a : Nat) : cls a ≤ 4 := by unfold cls; (repeat' split) <;> omega
theorem spm_lt (a : Nat) : spm a < 9007199254740992 := by have := fr_lt a; unfold spm; (repeat' split) <;> omega
theorem spe_bd (a : Nat) : -1074 ≤ spe a ∧ spe a ≤ 971 := by
 unfold spe
 split
 ·rename_i h
  have := ex_lt a
  have : 1 ≤ ex a ∧ ex a ≠ 2047 := by unfold cls at h; (repeat' split at h) <;> first | omega | (refine ⟨by omega, by omega⟩)
  omega
 ·split <;> omega
theorem split_mn (a : Nat) : (if (cls a : Int) = 2 then (some ((4503599627370496 : Int) + (fr a : Int), (ex a : Int) - 1075)) else (if (cls a : Int) = 1 then (some ((fr a : Int), (-1074 : Int))) else (some (0, 0)))) = some ((spm a : Int), spe a) := by
 unfold spm spe
 by_cases c1 : cls a = 2
 ·simp only [c1, if_true]; rw [Int.natCast_add]; rfl
 ·have h1 : ¬ (cls a : Int) = 2 := by omega
  by_cases c2 : cls a = 1
  ·have h2 : (cls a : Int) = 1 := by omega
   rw [if_neg h1, if_pos h2, if_neg c1, if_neg c1, if_pos c2, if_pos c2]
  ·have h2 : ¬ (cls a : Int) = 1 := by omega
   rw [if_neg h1, if_neg h2, if_neg c1, if_neg c1, if_neg c2, if_neg c2]; rfl
theorem Split_ev (a : Nat) (h : U a) : Ev (fun k => pattern_Split.f k (a : Int)) ((spm a : Int), spe a) := by
 unfold pattern_Split.f
 refine Ev.b _ (Ev.const (Parts_ok a h)) (Ev.b _ (Class_ev a h) (Ev.const ?_))
 dsimp only
 have h1 := fr_lt a
 have h2 := ex_lt a
 have e1 : bits .or .u64 4503599627370496 (fr a : Int) = 4503599627370496 + (fr a : Int) := by
  have := or_join 4503599627370496 (fr a) 52 (by decide) (by omega) (by decide) (by omega)
  rw [Int.natCast_add] at this; exact this
 have e2 : wrap64 ((ex a : Int) - 1075) = (ex a : Int) - 1075 := w64 (by omega) (by omega)
 refine Eq.trans ?_ (split_mn a)
 rw [e1, e2]
theorem of_ev (a : Nat) (h : U a) : Ev (fun k => soft_of.f k (a : Int)) ((a : Int), (cls a : Int), sgn a, (spm a : Int), spe a) := by
 unfold soft_of.f
 refine Ev.b _ (Split_ev a h) (Ev.b _ (Class_ev a h) (Ev.const ?_))
 rw [sgn_cast]
def mk (neg : Bool) (e f : Nat) : Nat := sg neg + (e * 4503599627370496 + f)
theorem Make_ev (neg : Bool) (e f : Nat) (he : e ≤ 2047) (hf : f < 4503599627370496) : Ev (fun k => pattern_Make.f k neg (e : Int) (f : Int)) ((mk neg e f : Int), 0) := by
 refine Ev.later 1 fun k => ?_
 unfold pattern_Make.f
 rw [if_neg (by omega), if_neg (by omega), decide_eq_false (by omega)]
 simp only [pattern_Make.j0]
 rw [if_neg (by simp), wu64 (n := (e : Int)) (by omega) (by omega), wu64 (n := (e : Int) * 4503599627370496) (by omega) (by omega)]
 rw [show (e : Int) * 4503599627370496 = ((e * 4503599627370496 : Nat) : Int) from by omega]
 rw [or_join (e * 4503599627370496) f 52 (by omega) hf (by omega) (by omega)]
 unfold mk sg
 cases neg
 ·rw [if_neg (by simp)]; simp
 ·rw [if_pos rfl, show (9223372036854775808 : Int) = ((9223372036854775808 : Nat) : Int) from rfl, or_join' 9223372036854775808 _ 63 (by decide) (by omega) (by decide) (by omega)]
  simp
theorem ref_Make_ok (neg : Bool) (e f : Nat) (he : e ≤ 2047) (hf : f < 4503599627370496) : flyballref04_Make.f neg (e : Int) (f : Int) = some (mk neg e f : Int) := by
 unfold flyballref04_Make.f mk sg
 rw [wu64 (n := (e : Int)) (by omega) (by omega), wu64 (n := (e : Int) * 4503599627370496) (by omega) (by omega), wu64 (n := (e : Int) * 4503599627370496 + f) (by omega) (by omega)]
 cases neg
 ·rw [if_neg (by simp)]; simp
 ·rw [if_pos rfl, wu64 (by omega) (by omega)]; congr 1; simp; omega
theorem zero_ev (neg : Bool) : Ev (fun k => soft_zero.f k neg) (sg neg : Int) := by
 unfold soft_zero.f
 exact Ev.b _ (Make_ev neg 0 0 (by omega) (by omega)) (Ev.now _)
theorem Inf_ev (neg : Bool) : Ev (fun k => pattern_Inf.f k neg) ((sg neg + 9218868437227405312 : Nat) : Int) := by
 unfold pattern_Inf.f
 exact Ev.b _ (Make_ev neg 2047 0 (by omega) (by omega)) (Ev.now _)
theorem nan_ev (a : Nat) (h : U a) : Ev (fun k => pattern_nan.f k (a : Int)) (decide (cls a = 4)) := by
 unfold pattern_nan.f
 refine Ev.b _ (Class_ev a h) (Ev.const ?_)
 congr 1; rw [Bool.eq_iff_iff, beq_iff_eq, decide_eq_true_iff]; omega
theorem flip_U (a : Nat) (h : U a) : U (flip a) := by unfold U flip at *; split <;> omega
def ng (a : Nat) : Nat := if cls a = 4 then a else flip a
theorem ng_U (a : Nat) (h : U a) : U (ng a) := by unfold ng; split; exact h; exact flip_U a h
theorem Neg_ev (a : Nat) (h : U a) : Ev (fun k => pattern_Neg.f k (a : Int)) (ng a : Int) := by
 unfold pattern_Neg.f
 refine Ev.b _ (nan_ev a h) (Ev.const ?_)
 unfold ng
 by_cases c : cls a = 4
 ·rw [decide_eq_true c, if_pos rfl, if_pos c]
 ·rw [decide_eq_false c, if_neg (by simp), if_neg c, xor_sign a h]
end Go.Proofs.Ytmadjhmecfbcmaa.M
end
section
namespace Go.Proofs.Ytmadjhmecfbcmaa.M
open Go.RowKit Go.Proofs.YtmadjhmecfbcmaaW.PrintWords Go.Proofs.YtmadjhmecfbcmaaW.PrintLast Go.Proofs.YtmadjhmecfbcmaaW.PrintMore Go.Proofs.Ytmadjhmecfbcmaa.F
theorem mod_mul_add (x B d : Nat) (hd : d < B) : (x * B + d) % (B * B) = x % B * B + d := by
 have h1 := Nat.div_add_mod x B
 have hB : 0 < B := by omega
 have h2 : x * B + d = (x % B * B + d) + (B * B) * (x / B) := by
  have : x * B = (B * (x / B) + x % B) * B := by rw [h1]
  rw [this, Nat.add_mul]; grind
 rw [h2, Nat.add_mul_mod_self_left]
 apply Nat.mod_eq_of_lt
 have : x % B + 1 ≤ B := Nat.mod_lt x hB
 have : (x % B + 1) * B ≤ B * B := Nat.mul_le_mul_right B this
 rw [Nat.add_mul] at this; omega
theorem mul_mod_join (hi c B P Q : Nat) (hPQ : P * Q = B) (hQ : 0 < Q) (hc : c < P) : (hi * P + c) % B = hi * P % B + c := by
 have e : hi * P % B = hi % Q * P := by
  rw [← hPQ, Nat.mul_comm hi P, Nat.mul_mod_mul_left, Nat.mul_comm]
 have h1 := Nat.div_add_mod hi Q
 have h2 : hi * P + c = (hi % Q * P + c) + B * (hi / Q) := by
  have : hi * P = (Q * (hi / Q) + hi % Q) * P := by rw [h1]
  rw [this, ← hPQ]; grind
 rw [h2, Nat.add_mul_mod_self_left, e]
 apply Nat.mod_eq_of_lt
 have : hi % Q + 1 ≤ Q := Nat.mod_lt hi hQ
 have : (hi % Q + 1) * P ≤ Q * P := Nat.mul_le_mul_right P this
 rw [Nat.add_mul, Nat.mul_comm Q P] at this; omega
def tw (V : Nat) : Int × Int := (((V / 18446744073709551616 : Nat) : Int), ((V % 18446744073709551616 : Nat) : Int))
theorem tw_join (q d : Nat) (h : d < 18446744073709551616) : tw (q * 18446744073709551616 + d) = ((q : Int), (d : Int)) := by
 rw [tw, show (q * 18446744073709551616 + d) / 18446744073709551616 = q by omega, show (q * 18446744073709551616 + d) % 18446744073709551616 = d by omega]
theorem shl_arith (hi lo n : Nat) (h1 : lo < 18446744073709551616) (hn : n < 64) :
  (hi * 18446744073709551616 + lo) * 2 ^ n % (18446744073709551616 * 18446744073709551616) =
   (hi * 2 ^ n % 18446744073709551616 + lo / 2 ^ (64 - n)) * 18446744073709551616 + lo * 2 ^ n % 18446744073709551616 := by
 have hPQ : 2 ^ n * 2 ^ (64 - n) = 18446744073709551616 := by rw [← Nat.pow_add, show n + (64 - n) = 64 by omega]
 have hc : lo * 2 ^ n / 18446744073709551616 = lo / 2 ^ (64 - n) := by
  rw [← hPQ, Nat.mul_comm lo, Nat.mul_div_mul_left _ _ (two_pos n)]
 have hc2 : lo / 2 ^ (64 - n) < 2 ^ n := by rw [Nat.div_lt_iff_lt_mul (two_pos _), hPQ]; exact h1
 have h2 := Nat.div_add_mod (lo * 2 ^ n) 18446744073709551616
 have e : (hi * 18446744073709551616 + lo) * 2 ^ n = (hi * 2 ^ n + lo / 2 ^ (64 - n)) * 18446744073709551616 + lo * 2 ^ n % 18446744073709551616 := by
  rw [← hc, Nat.add_mul, Nat.add_mul, Nat.mul_right_comm]; omega
 rw [e, mod_mul_add _ _ _ (Nat.mod_lt _ (by decide)), mul_mod_join _ _ _ _ _ hPQ (two_pos _) hc2]
theorem Shl_ev (n : Nat) : ∀ (hi lo : Nat), hi < 18446744073709551616 → lo < 18446744073709551616 → n < 1000000 →
  Ev (fun k => wide_U128_Shl.l0 k (n : Int) (hi : Int) (lo : Int)) (tw ((hi * 18446744073709551616 + lo) * 2 ^ n % (18446744073709551616 * 18446744073709551616))) := by
 induction n using Nat.strongRecOn with
 | _ n ih =>
 intro hi lo hhi hlo hn
 refine Ev.next ?_
 simp only [wide_U128_Shl.l0]
 by_cases c : 64 ≤ n
 ·have hB : 2 ^ n = 18446744073709551616 * 2 ^ (n - 64) := by rw [← show 64 + (n - 64) = n by omega, Nat.pow_add, show 64 + (n - 64) - 64 = n - 64 by omega]
  have e : (hi * 18446744073709551616 + lo) * 2 ^ n % (18446744073709551616 * 18446744073709551616) = (lo * 18446744073709551616 + 0) * 2 ^ (n - 64) % (18446744073709551616 * 18446744073709551616) := by
   have : (hi * 18446744073709551616 + lo) * 2 ^ n = (lo * 18446744073709551616 + 0) * 2 ^ (n - 64) + (18446744073709551616 * 18446744073709551616) * (hi * 2 ^ (n - 64)) := by rw [hB]; grind
   rw [this, Nat.add_mul_mod_self_left]
  rw [e]
  by_cases z : lo = 0
  ·subst z
   refine Ev.all fun k => ?_
   rw [if_pos (by omega), if_pos (by rfl)]
   simp [tw]
  ·have := ih (n - 64) (by omega) lo 0 hlo (by omega) (by omega)
   refine Ev.congr (fun k => ?_) this
   have z' : ¬ ((lo : Int) == 0) = true := by rw [beq_iff_eq]; omega
   rw [if_pos (by omega), if_neg z', w64 (by omega) (by omega), show (n : Int) - 64 = ((n - 64 : Nat) : Int) from by omega]; rfl
 ·refine Ev.all fun k => ?_
  rw [if_neg (by omega)]
  by_cases z : n = 0
  ·subst z
   rw [if_pos (by omega)]
   have : (hi * 18446744073709551616 + lo) * 2 ^ 0 % (18446744073709551616 * 18446744073709551616) = hi * 18446744073709551616 + lo := by omega
   rw [this, tw, show (hi * 18446744073709551616 + lo) / 18446744073709551616 = hi by omega, show (hi * 18446744073709551616 + lo) % 18446744073709551616 = lo by omega]
  ·rw [if_neg (by omega), if_pos (by omega), w64 (by omega) (by omega), if_pos (by omega), shl_arith hi lo n hlo (by omega)]
   rw [show (64 : Int) - (n : Int) = ((64 - n : Nat) : Int) from by omega, shl_nat _ _ (by omega), shl_nat _ _ (by omega), shr_nat _ _ (by omega)]
   have hPQ : 2 ^ n * 2 ^ (64 - n) = 18446744073709551616 := by rw [← Nat.pow_add, show n + (64 - n) = 64 by omega]
   have hc2 : lo / 2 ^ (64 - n) < 2 ^ n := by rw [Nat.div_lt_iff_lt_mul (two_pos _), hPQ]; exact hlo
   have hm : hi * 2 ^ n % 18446744073709551616 % 2 ^ n = 0 := by
    rw [← hPQ, Nat.mul_comm hi, Nat.mul_mod_mul_left, Nat.mul_mod_right]
   have hl : lo / 2 ^ (64 - n) ≤ lo := Nat.div_le_self _ _
   have hlt : hi * 2 ^ n % 18446744073709551616 + lo / 2 ^ (64 - n) < 18446744073709551616 := by
    have := mul_mod_join hi (lo / 2 ^ (64 - n)) 18446744073709551616 (2 ^ n) (2 ^ (64 - n)) hPQ (two_pos _) hc2
    rw [← this]; exact Nat.mod_lt _ (by decide)
   rw [or_join _ _ n (Nat.mod_lt _ (by decide)) hc2 hm (by omega)]
   have hd : lo * 2 ^ n % 18446744073709551616 < 18446744073709551616 := Nat.mod_lt _ (by decide)
   generalize lo * 2 ^ n % 18446744073709551616 = d at *
   generalize hi * 2 ^ n % 18446744073709551616 + lo / 2 ^ (64 - n) = q at *
   rw [tw_join q d hd]
theorem U128_Shl (hi lo n : Nat) (h1 : hi < 18446744073709551616) (h2 : lo < 18446744073709551616) (hn : n < 1000000) :
  Ev (fun k => wide_U128_Shl.f k (hi : Int) (lo : Int) (n : Int)) (tw ((hi * 18446744073709551616 + lo) * 2 ^ n % (18446744073709551616 * 18446744073709551616))) := Shl_ev n hi lo h1 h2 hn
theorem shr_arith (hi lo n : Nat) (hlo : lo < 18446744073709551616) (h0 : 0 < n) (hn : n < 64) :
  (hi * 18446744073709551616 + lo) / 2 ^ n = hi / 2 ^ n * 18446744073709551616 + (hi * 2 ^ (64 - n) % 18446744073709551616 + lo / 2 ^ n) ∧
  (hi * 18446744073709551616 + lo) % 2 ^ n = lo % 2 ^ n ∧ hi * 2 ^ (64 - n) % 18446744073709551616 % 2 ^ (64 - n) = 0 ∧ lo / 2 ^ n < 2 ^ (64 - n) ∧
  hi * 2 ^ (64 - n) % 18446744073709551616 + lo / 2 ^ n < 18446744073709551616 ∧ (lo * 2 ^ (64 - n) % 18446744073709551616 = 0 ↔ lo % 2 ^ n = 0) := by
 have hPQ : 2 ^ n * 2 ^ (64 - n) = 18446744073709551616 := by rw [← Nat.pow_add, show n + (64 - n) = 64 by omega]
 have hQP : 2 ^ (64 - n) * 2 ^ n = 18446744073709551616 := by rw [Nat.mul_comm]; exact hPQ
 have hc2 : lo / 2 ^ n < 2 ^ (64 - n) := by rw [Nat.div_lt_iff_lt_mul (two_pos _), hQP]; exact hlo
 have p1 := two_pos n
 have p2 := two_pos (64 - n)
 have h4 : hi * 2 ^ (64 - n) % 18446744073709551616 = hi % 2 ^ n * 2 ^ (64 - n) := by
  rw [← hQP, Nat.mul_comm hi, Nat.mul_mod_mul_left, Nat.mul_comm]
 have h5 : lo * 2 ^ (64 - n) % 18446744073709551616 = lo % 2 ^ n * 2 ^ (64 - n) := by
  rw [← hQP, Nat.mul_comm lo, Nat.mul_mod_mul_left, Nat.mul_comm]
 have hx : hi % 2 ^ n < 2 ^ n := Nat.mod_lt _ p1
 refine ⟨?_, ?_, ?_, hc2, ?_, ?_⟩
 ·rw [h4]
  have e : hi * 18446744073709551616 + lo = lo + 2 ^ n * (hi * 2 ^ (64 - n)) := by rw [← hPQ]; grind
  rw [e, Nat.add_mul_div_left _ _ p1]
  have := Nat.div_add_mod hi (2 ^ n)
  have e2 : hi * 2 ^ (64 - n) = hi / 2 ^ n * 18446744073709551616 + hi % 2 ^ n * 2 ^ (64 - n) := by
   rw [← hPQ]
   have : hi * 2 ^ (64 - n) = (2 ^ n * (hi / 2 ^ n) + hi % 2 ^ n) * 2 ^ (64 - n) := by rw [this]
   rw [this]; grind
  rw [e2]; omega
 ·have e : hi * 18446744073709551616 + lo = lo + 2 ^ n * (hi * 2 ^ (64 - n)) := by rw [← hPQ]; grind
  rw [e, Nat.add_mul_mod_self_left]
 ·rw [h4, Nat.mul_mod_left]
 ·rw [h4]
  have h6 : (hi % 2 ^ n + 1) * 2 ^ (64 - n) ≤ 2 ^ n * 2 ^ (64 - n) := Nat.mul_le_mul_right _ hx
  rw [hPQ, Nat.add_mul] at h6; omega
 ·rw [h5]
  constructor
  ·intro h; rcases Nat.mul_eq_zero.1 h with h | h <;> omega
  ·intro h; rw [h, Nat.zero_mul]
theorem Shr_ev (n : Nat) : ∀ (hi lo : Nat) (lost : Bool), hi < 18446744073709551616 → lo < 18446744073709551616 → n < 1000000 →
  Ev (fun k => wide_U128_Shr.l0 k (n : Int) lost (hi : Int) (lo : Int)) ((tw ((hi * 18446744073709551616 + lo) / 2 ^ n)).1, (tw ((hi * 18446744073709551616 + lo) / 2 ^ n)).2, lost || decide ((hi * 18446744073709551616 + lo) % 2 ^ n ≠ 0)) := by
 induction n using Nat.strongRecOn with
 | _ n ih =>
 intro hi lo lost hhi hlo hn
 refine Ev.next ?_
 simp only [wide_U128_Shr.l0]
 by_cases c : 64 ≤ n
 ·have hB : 2 ^ n = 18446744073709551616 * 2 ^ (n - 64) := by rw [← show 64 + (n - 64) = n by omega, Nat.pow_add, show 64 + (n - 64) - 64 = n - 64 by omega]
  have e : (hi * 18446744073709551616 + lo) / 2 ^ n = (0 * 18446744073709551616 + hi) / 2 ^ (n - 64) := by
   rw [hB, ← Nat.div_div_eq_div_mul]; congr 1; omega
  have e2 : (hi * 18446744073709551616 + lo) % 2 ^ n ≠ 0 ↔ lo ≠ 0 ∨ (0 * 18446744073709551616 + hi) % 2 ^ (n - 64) ≠ 0 := by
   rw [hB, Nat.mod_mul, show (hi * 18446744073709551616 + lo) % 18446744073709551616 = lo by omega, show (hi * 18446744073709551616 + lo) / 18446744073709551616 = 0 * 18446744073709551616 + hi by omega]
   have := two_pos (n - 64)
   constructor
   ·intro h; by_cases z : lo = 0
    ·right; intro h2; apply h; rw [h2, z]
    ·exact .inl z
   ·rintro (h | h) h2
    ·omega
    ·apply h; rcases Nat.eq_zero_of_add_eq_zero h2 with ⟨_, h3⟩
     rcases Nat.mul_eq_zero.1 h3 with h4 | h4
     ·cases h4
     ·exact h4
  have l1 : ((lo : Int) != 0) = decide (lo ≠ 0) := by rw [Bool.eq_iff_iff]; simp
  have e3 : (lost || decide ((hi * 18446744073709551616 + lo) % 2 ^ n ≠ 0)) = ((lost || decide (lo ≠ 0)) || decide ((0 * 18446744073709551616 + hi) % 2 ^ (n - 64) ≠ 0)) := by
   rw [Bool.eq_iff_iff]; simp only [Bool.or_eq_true, decide_eq_true_iff, e2]; grind
  rw [e, e3]
  by_cases z : hi = 0
  ·subst z
   refine Ev.all fun k => ?_
   rw [if_pos (by omega)]
   cases lost
   ·rw [if_neg (by simp), if_pos (by rfl), l1]; simp [tw]
   ·rw [if_pos rfl, if_pos (by rfl)]; simp [tw]
  ·have z' : ¬ ((hi : Int) == 0) = true := by rw [beq_iff_eq]; omega
   have hc : (n : Int) - 64 = ((n - 64 : Nat) : Int) := by omega
   cases lost
   ·have := ih (n - 64) (by omega) 0 hi (decide (lo ≠ 0)) (by omega) hhi (by omega)
    refine Ev.congr (fun k => ?_) (by rw [Bool.false_or]; exact this)
    rw [if_pos (by omega), if_neg (by simp), if_neg z', w64 (by omega) (by omega), hc, l1]; rfl
   ·have := ih (n - 64) (by omega) 0 hi true (by omega) hhi (by omega)
    refine Ev.congr (fun k => ?_) (by rw [Bool.true_or]; exact this)
    rw [if_pos (by omega), if_pos rfl, if_neg z', w64 (by omega) (by omega), hc]; rfl
 ·refine Ev.all fun k => ?_
  rw [if_neg (by omega)]
  by_cases z : n = 0
  ·subst z
   rw [if_pos (by omega)]
   have : (hi * 18446744073709551616 + lo) / 2 ^ 0 = hi * 18446744073709551616 + lo := by omega
   rw [this, tw, show (hi * 18446744073709551616 + lo) / 18446744073709551616 = hi by omega, show (hi * 18446744073709551616 + lo) % 18446744073709551616 = lo by omega]
   have : (hi * 18446744073709551616 + lo) % 2 ^ 0 = 0 := by omega
   rw [this]; simp
  ·obtain ⟨a1, a2, a3, a4, a5, a6⟩ := shr_arith hi lo n hlo (by omega) (by omega)
   have hl : lo / 2 ^ n ≤ lo := Nat.div_le_self _ _
   have hd : hi / 2 ^ n ≤ hi := Nat.div_le_self _ _
   rw [if_neg (by omega), if_pos (by omega), w64 (by omega) (by omega), if_pos (by omega)]
   rw [show (64 : Int) - (n : Int) = ((64 - n : Nat) : Int) from by omega, shr_nat _ _ (by omega), shr_nat _ _ (by omega), shl_nat _ _ (by omega), shl_nat _ _ (by omega)]
   rw [or_join' _ _ (64 - n) (Nat.mod_lt _ (by decide)) a4 a3 (by omega), a1, a2]
   have l1 : (((lo * 2 ^ (64 - n) % 18446744073709551616 : Nat) : Int) != 0) = decide (lo % 2 ^ n ≠ 0) := by
    rw [Bool.eq_iff_iff]; simp only [bne_iff_ne, decide_eq_true_iff, Ne, ← a6]; omega
   generalize hi * 2 ^ (64 - n) % 18446744073709551616 + lo / 2 ^ n = d at *
   generalize hi / 2 ^ n = q at *
   rw [tw_join q d a5]
   cases lost
   ·rw [if_neg (by simp), l1]; rfl
   ·rw [if_pos rfl]; rfl
theorem U128_Shr (hi lo n : Nat) (h1 : hi < 18446744073709551616) (h2 : lo < 18446744073709551616) (hn : n < 1000000) :
  Ev (fun k => wide_U128_Shr.f k (hi : Int) (lo : Int) (n : Int)) ((tw ((hi * 18446744073709551616 + lo) / 2 ^ n)).1, (tw ((hi * 18446744073709551616 + lo) / 2 ^ n)).2, decide ((hi * 18446744073709551616 + lo) % 2 ^ n ≠ 0)) := by
 have := Shr_ev n hi lo false h1 h2 hn
 rw [Bool.false_or] at this; exact this
def bl (x : Nat) : Nat := if x = 0 then 0 else x.log2 + 1
theorem Len64_ok (x : Nat) (h : x < 18446744073709551616) : bits_Len64.f (x : Int) = some (bl x : Int) := by
 unfold bits_Len64.f bl
 rw [if_pos (by omega), Int.toNat_natCast]
 split
 ·rename_i e; subst e; rfl
 ·rename_i e; rw [bitLen_log2 x e h]
theorem log2_join (hi lo : Nat) (h : hi ≠ 0) (h2 : lo < 18446744073709551616) : (hi * 18446744073709551616 + lo).log2 = hi.log2 + 64 := by
 have a1 := Nat.log2_self_le h
 have a2 : hi < 2 ^ (hi.log2 + 1) := Nat.lt_log2_self
 have n0 : hi * 18446744073709551616 + lo ≠ 0 := by omega
 have b1 : hi.log2 + 64 ≤ (hi * 18446744073709551616 + lo).log2 := by
  rw [Nat.le_log2 n0, Nat.pow_add]; omega
 have b2 : (hi * 18446744073709551616 + lo).log2 < hi.log2 + 1 + 64 := by
  rw [Nat.log2_lt n0, Nat.pow_add]; omega
 omega
theorem bl_le {x n : Nat} (h : x < 2 ^ n) : bl x ≤ n := by
 unfold bl; split
 ·omega
 ·rename_i e; have := (Nat.log2_lt e).2 h; omega
theorem U128_Len (hi lo : Nat) (h1 : hi < 18446744073709551616) (h2 : lo < 18446744073709551616) :
  wide_U128_Len.f (hi : Int) (lo : Int) = some (bl (hi * 18446744073709551616 + lo) : Int) := by
 unfold wide_U128_Len.f
 by_cases c : hi = 0
 ·subst c
  rw [if_neg (by omega), bind_of _ (Len64_ok lo h2), show 0 * 18446744073709551616 + lo = lo by omega]
 ·rw [if_pos (by omega), bind_of _ (Len64_ok hi h1)]
  have := bl_le (x := hi) (n := 64) h1
  rw [w64 (by omega) (by omega)]
  unfold bl
  rw [if_neg c, if_neg (by omega), log2_join hi lo c h2]; congr 1; omega
end Go.Proofs.Ytmadjhmecfbcmaa.M
end
section
namespace Go.Proofs.Ytmadjhmecfbcmaa.M
open Go.RowKit Go.Proofs.YtmadjhmecfbcmaaW.PrintWords Go.Proofs.YtmadjhmecfbcmaaW.PrintLast Go.Proofs.YtmadjhmecfbcmaaW.PrintMore Go.Proofs.Ytmadjhmecfbcmaa.F
def FN (A : Nat) (e : Int) : Nat := A * 2 ^ (e + 1075).toNat
def FD (B : Nat) (e : Int) : Nat := B * 2 ^ (-(e + 1075)).toNat
def FX (A B : Nat) (e : Int) : Nat := FN A e / FD B e
def FS (A B : Nat) (e : Int) (rest : Bool) : Bool := rest || decide (FN A e % FD B e ≠ 0)
theorem shift_div (m p n : Nat) : m * 2 ^ p / 2 ^ n = if p ≤ n then m / 2 ^ (n - p) else m * 2 ^ (p - n) := by
 split
 ·rename_i h
  have : 2 ^ n = 2 ^ p * 2 ^ (n - p) := by rw [← Nat.pow_add, show p + (n - p) = n by omega]
  rw [this, Nat.mul_comm m, Nat.mul_div_mul_left _ _ (two_pos p)]
 ·rename_i h
  have : 2 ^ p = 2 ^ n * 2 ^ (p - n) := by rw [← Nat.pow_add, show n + (p - n) = p by omega]
  rw [this, Nat.mul_left_comm, Nat.mul_div_cancel_left _ (two_pos n)]
theorem shift_mod (m p n : Nat) : m * 2 ^ p % 2 ^ n = 0 ↔ n ≤ p ∨ m % 2 ^ (n - p) = 0 := by
 by_cases h : n ≤ p
 ·have : 2 ^ p = 2 ^ n * 2 ^ (p - n) := by rw [← Nat.pow_add, show n + (p - n) = p by omega]
  rw [this, Nat.mul_left_comm, Nat.mul_mod_right]; simp [h]
 ·have : 2 ^ n = 2 ^ p * 2 ^ (n - p) := by rw [← Nat.pow_add, show p + (n - p) = n by omega]
  rw [this, Nat.mul_comm m, Nat.mul_mod_mul_left, Nat.mul_eq_zero]
  have := two_pos p
  constructor
  ·rintro (h2 | h2)
   ·omega
   ·exact .inr h2
  ·rintro (h2 | h2)
   ·omega
   ·exact .inr h2
theorem FX_one (m : Nat) (e : Int) : FX m 1 e = m * 2 ^ (e + 1075).toNat / 2 ^ (-(e + 1075)).toNat := by unfold FX FN FD; rw [Nat.one_mul]
theorem FS_one (m : Nat) (e : Int) (r : Bool) : FS m 1 e r = (r || decide (m * 2 ^ (e + 1075).toNat % 2 ^ (-(e + 1075)).toNat ≠ 0)) := by unfold FS FN FD; rw [Nat.one_mul]
theorem bl_bd (m : Nat) (h : m ≠ 0) : 1 ≤ bl m ∧ 2 ^ (bl m - 1) ≤ m ∧ m < 2 ^ bl m := by
 unfold bl; rw [if_neg h]
 exact ⟨by omega, by rw [show m.log2 + 1 - 1 = m.log2 by omega]; exact Nat.log2_self_le h, Nat.lt_log2_self⟩
theorem FX_lt (m : Nat) (e : Int) (n : Nat) (h : (bl m : Int) + e + 1075 ≤ n) (h0 : m ≠ 0) : FX m 1 e < 2 ^ n := by
 have hb := bl_bd m h0
 rw [FX_one, Nat.div_lt_iff_lt_mul (two_pos _), ← Nat.pow_add]
 have h1 : m * 2 ^ (e + 1075).toNat < 2 ^ bl m * 2 ^ (e + 1075).toNat := Nat.mul_lt_mul_of_pos_right hb.2.2 (two_pos _)
 rw [← Nat.pow_add] at h1
 have h2 : 2 ^ (bl m + (e + 1075).toNat) ≤ 2 ^ (n + (-(e + 1075)).toNat) := pow_le (by omega)
 omega
theorem FX_ge (m : Nat) (e : Int) (n : Nat) (h : (n : Int) ≤ (bl m : Int) - 1 + e + 1075) (h0 : m ≠ 0) : 2 ^ n ≤ FX m 1 e := by
 have hb := bl_bd m h0
 rw [FX_one, Nat.le_div_iff_mul_le (two_pos _), ← Nat.pow_add]
 have h1 : 2 ^ (bl m - 1) * 2 ^ (e + 1075).toNat ≤ m * 2 ^ (e + 1075).toNat := Nat.mul_le_mul_right _ hb.2.1
 rw [← Nat.pow_add] at h1
 have h2 : 2 ^ (n + (-(e + 1075)).toNat) ≤ 2 ^ (bl m - 1 + (e + 1075).toNat) := pow_le (by omega)
 omega
theorem sh_FX (m : Nat) (e q : Int) (h0 : m ≠ 0) (hq : q = (bl m : Int) - 53 + e ∧ -1074 ≤ q ∨ q = -1074 ∧ (bl m : Int) - 53 + e ≤ -1074) : sh (FX m 1 e) = (q + 1075).toNat := by
 apply sh_unique
 by_cases c : q = -1074
 ·left
  refine ⟨by omega, ?_⟩
  have := FX_lt m e 54 (by omega) h0
  omega
 ·right
  refine ⟨by omega, ?_, ?_⟩
  ·exact FX_ge m e _ (by omega) h0
  ·exact FX_lt m e _ (by omega) h0
theorem keep_out (m : Nat) (e q : Int) (r : Bool) (h : -1074 ≤ q) (hs : sh (FX m 1 e) = (q + 1075).toNat) (hd : 0 < q - e) :
  wd (FX m 1 e) = m / 2 ^ (q - e).toNat ∧ hf (FX m 1 e) = (m / 2 ^ (q - e - 1).toNat % 2 == 1) ∧ rs (FX m 1 e) (FS m 1 e r) = (r || decide (m % 2 ^ (q - e - 1).toNat ≠ 0)) := by
 unfold wd hf rs
 rw [hs, FX_one, FS_one]
 have a1 : ∀ n, m * 2 ^ (e + 1075).toNat / 2 ^ (-(e + 1075)).toNat / 2 ^ n = m * 2 ^ (e + 1075).toNat / 2 ^ ((-(e + 1075)).toNat + n) := by
  intro n; rw [Nat.div_div_eq_div_mul, ← Nat.pow_add]
 refine ⟨?_, ?_, ?_⟩
 ·rw [a1, shift_div, if_pos (by omega), show (-(e + 1075)).toNat + (q + 1075).toNat - (e + 1075).toNat = (q - e).toNat by omega]
 ·rw [a1, shift_div, if_pos (by omega), show (-(e + 1075)).toNat + ((q + 1075).toNat - 1) - (e + 1075).toNat = (q - e - 1).toNat by omega]
 ·rw [Bool.or_assoc]; congr 1
  rw [Bool.eq_iff_iff, Bool.or_eq_true, bne_iff_ne, decide_eq_true_iff, decide_eq_true_iff]
  have k : m * 2 ^ (e + 1075).toNat % 2 ^ ((-(e + 1075)).toNat + ((q + 1075).toNat - 1)) = 0 ↔ m * 2 ^ (e + 1075).toNat % 2 ^ (-(e + 1075)).toNat = 0 ∧ m * 2 ^ (e + 1075).toNat / 2 ^ (-(e + 1075)).toNat % 2 ^ ((q + 1075).toNat - 1) = 0 := by
   rw [Nat.pow_add, Nat.mod_mul]
   have := two_pos (-(e + 1075)).toNat
   constructor
   ·intro h; obtain ⟨h1, h2⟩ := Nat.eq_zero_of_add_eq_zero h
    refine ⟨h1, ?_⟩
    rcases Nat.mul_eq_zero.1 h2 with h3 | h3
    ·omega
    ·exact h3
   ·rintro ⟨h1, h2⟩; rw [h1, h2, Nat.mul_zero]
  rw [shift_mod, show (-(e + 1075)).toNat + ((q + 1075).toNat - 1) - (e + 1075).toNat = (q - e - 1).toNat by omega] at k
  constructor
  ·intro h1 h2
   have := k.1 (.inr h2)
   rcases h1 with h1 | h1
   ·exact h1 this.1
   ·exact h1 this.2
  ·intro h1
   by_cases c : m * 2 ^ (e + 1075).toNat % 2 ^ (-(e + 1075)).toNat = 0
   ·right; intro h2
    rcases k.2 ⟨c, h2⟩ with h3 | h3
    ·have : (q - e - 1).toNat = 0 := by omega
     rw [this] at h1; omega
    ·exact h1 h3
   ·exact .inl c
theorem keep_in (m : Nat) (e q : Int) (h : -1074 ≤ q) (hs : sh (FX m 1 e) = (q + 1075).toNat) (hd : q - e ≤ 0) :
  wd (FX m 1 e) = m * 2 ^ (e - q).toNat ∧ hf (FX m 1 e) = false ∧ rs (FX m 1 e) (FS m 1 e false) = false := by
 unfold wd hf rs
 have h0 : (-(e + 1075)).toNat = 0 := by omega
 rw [hs, FX_one, FS_one, h0]
 have e1 : 2 ^ (e + 1075).toNat = 2 ^ (q + 1075).toNat * 2 ^ (e - q).toNat := by rw [← Nat.pow_add]; congr 1; omega
 have e2 : 2 ^ (q + 1075).toNat = 2 ^ ((q + 1075).toNat - 1) * 2 := by rw [← Nat.pow_succ]; congr 1; omega
 rw [Nat.pow_zero, Nat.div_one]
 refine ⟨?_, ?_, ?_⟩
 ·rw [e1, Nat.mul_left_comm, Nat.mul_div_cancel_left _ (two_pos _)]
 ·rw [e1, e2, show m * (2 ^ ((q + 1075).toNat - 1) * 2 * 2 ^ (e - q).toNat) = 2 ^ ((q + 1075).toNat - 1) * (2 * (m * 2 ^ (e - q).toNat)) by grind, Nat.mul_div_cancel_left _ (two_pos _), beq_eq_false_iff_ne]
  omega
 ·have : m * 2 ^ (e + 1075).toNat % 2 ^ ((q + 1075).toNat - 1) = 0 := by
   rw [e1, e2, show m * (2 ^ ((q + 1075).toNat - 1) * 2 * 2 ^ (e - q).toNat) = 2 ^ ((q + 1075).toNat - 1) * (2 * (m * 2 ^ (e - q).toNat)) by grind, Nat.mul_mod_right]
  rw [this]; simp [Nat.mod_one]
theorem up_ok (neg : Bool) (h l e : Int) (r0 : Bool) (mode : Nat) (odd half rest : Bool) :
  round_number_up.f neg h l e r0 (mode : Int) odd half rest = some (if dir neg mode = 1 then half || rest else if dir neg mode = 2 then false else half && (rest || odd)) := by
 unfold round_number_up.f round_number_away.f round_number_towards.f dir
 by_cases m1 : mode = 1
 ·subst m1
  cases neg <;> cases half <;> cases rest <;> simp
 ·by_cases m2 : mode = 2
  ·subst m2
   cases neg <;> cases half <;> cases rest <;> simp
  ·have c1 : ¬ (mode : Int) = 1 := by omega
   have c2 : ¬ (mode : Int) = 2 := by omega
   cases half <;> cases rest <;> simp [c1, c2, m1, m2]
theorem towards_ok (neg : Bool) (h l e : Int) (r0 : Bool) (mode : Nat) : round_number_towards.f neg h l e r0 (mode : Int) = some (decide (dir neg mode = 2)) := by
 unfold round_number_towards.f dir
 by_cases m1 : mode = 1
 ·subst m1; cases neg <;> simp
 ·by_cases m2 : mode = 2
  ·subst m2; cases neg <;> simp
  ·have c1 : ¬ (mode : Int) = 1 := by omega
   have c2 : ¬ (mode : Int) = 2 := by omega
   simp [c1, c2, m1, m2]
theorem over_ev (neg : Bool) (h l e : Int) (r0 : Bool) (mode : Nat) :
  Ev (fun k => round_number_over.f k neg h l e r0 (mode : Int)) (((sg neg + (if dir neg mode = 2 then 9218868437227405311 else 9218868437227405312) : Nat) : Int), 5) := by
 unfold round_number_over.f
 refine Ev.b _ (Inf_ev neg) (Ev.b _ (Ev.const (towards_ok neg h l e r0 mode)) (Ev.const ?_))
 by_cases c : dir neg mode = 2
 ·rw [decide_eq_true c, if_pos rfl, if_pos c]
  cases neg <;> rfl
 ·rw [decide_eq_false c, if_neg (by simp), if_neg c]
theorem bits_or_1_2 : bits .or .u8 1 2 = 3 := by decide
theorem j3_ev (neg : Bool) (h l e : Int) (r0 : Bool) (n q w : Nat) (inx : Bool) (hq : q ≤ 2045) (hw : w < 9007199254740992) (hn : n ≤ 1000) (he : -5000 ≤ e ∧ e ≤ 5000) :
  Ev (fun k => round_number_float.j3 k (n : Int) ((q : Int) - 1074) (w : Int) 0 inx neg h l e r0)
   (((sg neg + (if 4503599627370496 ≤ w then q * 4503599627370496 + w else w) : Nat) : Int), if inx then (if (n : Int) + e ≤ -1022 then 3 else 1) else 0) := by
 have hm : bits .and .u64 (w : Int) 4503599627370495 = ((w % 4503599627370496 : Nat) : Int) := and_52 w (by omega)
 have e1 : wrap64 (wrap64 ((q : Int) - 1074 - -1074) + 1) = ((q + 1 : Nat) : Int) := by rw [w64 (n := (q : Int) - 1074 - -1074) (by omega) (by omega), w64 (by omega) (by omega)]; omega
 have e2 : wrap64 ((n : Int) + e) = (n : Int) + e := w64 (by omega) (by omega)
 have mk1 : 4503599627370496 ≤ w → mk neg (q + 1) (w % 4503599627370496) = sg neg + (q * 4503599627370496 + w) := by intro hw2; unfold mk; omega
 have mk0 : w < 4503599627370496 → mk neg 0 (w % 4503599627370496) = sg neg + w := by intro hw2; unfold mk; omega
 refine Ev.next ?_
 simp only [round_number_float.j3]
 rw [hm, e1, e2, bits_or_1_2]
 by_cases c1 : 4503599627370496 ≤ w
 ·have d1 : (w : Int) / 4503599627370496 = 1 := by omega
  have M := Make_ev neg (q + 1) (w % 4503599627370496) (by omega) (Nat.mod_lt _ (by decide))
  rw [mk1 c1] at M
  rw [if_pos c1]
  cases inx
  ·exact Ev.congr (fun k => by rw [if_neg (by simp), if_pos d1]) (Ev.b (f := fun _ b => some (b.1, (0 : Int))) _ M (Ev.now _))
  ·by_cases c2 : (n : Int) + e ≤ -1022
   ·rw [if_pos rfl, if_pos c2]
    exact Ev.congr (fun k => by rw [if_pos rfl, if_pos c2, if_pos d1]) (Ev.b (f := fun _ b => some (b.1, (3 : Int))) _ M (Ev.now _))
   ·rw [if_pos rfl, if_neg c2]
    exact Ev.congr (fun k => by rw [if_pos rfl, if_neg c2, if_pos d1]) (Ev.b (f := fun _ b => some (b.1, (1 : Int))) _ M (Ev.now _))
 ·have d1 : ¬ (w : Int) / 4503599627370496 = 1 := by omega
  have M : Ev (fun k => pattern_Make.f k neg 0 ((w % 4503599627370496 : Nat) : Int)) ((mk neg 0 (w % 4503599627370496) : Int), 0) := Make_ev neg 0 (w % 4503599627370496) (by omega) (Nat.mod_lt _ (by decide))
  rw [mk0 (by omega)] at M
  rw [if_neg c1]
  cases inx
  ·exact Ev.congr (fun k => by rw [if_neg (by simp), if_neg d1]) (Ev.b (f := fun _ b => some (b.1, (0 : Int))) _ M (Ev.now _))
  ·by_cases c2 : (n : Int) + e ≤ -1022
   ·rw [if_pos rfl, if_pos c2]
    exact Ev.congr (fun k => by rw [if_pos rfl, if_pos c2, if_neg d1]) (Ev.b (f := fun _ b => some (b.1, (3 : Int))) _ M (Ev.now _))
   ·rw [if_pos rfl, if_neg c2]
    exact Ev.congr (fun k => by rw [if_pos rfl, if_neg c2, if_neg d1]) (Ev.b (f := fun _ b => some (b.1, (1 : Int))) _ M (Ev.now _))
theorem j1_ev (neg : Bool) (h l e : Int) (r0 : Bool) (mode n q w : Nat) (half rest : Bool) (hq : q ≤ 20000) (hw : w ≤ 9007199254740992) (hn : n ≤ 1000) (he : -5000 ≤ e ∧ e ≤ 5000)
    (hp : q = 0 ∨ 4503599627370496 ≤ w) :
    Ev (fun k => round_number_float.j1 k (mode : Int) (n : Int) ((q : Int) - 1074) half rest (w : Int) neg h l e r0)
      (if 9218868437227405312 ≤ q * 4503599627370496 + w then (((sg neg + (if dir neg mode = 2 then 9218868437227405311 else 9218868437227405312) : Nat) : Int), 5)
       else (((sg neg + (q * 4503599627370496 + w) : Nat) : Int), if half || rest then (if (n : Int) + e ≤ -1022 then 3 else 1) else 0)) := by
  have J2 : ∀ (q w : Nat), q ≤ 20001 → w < 9007199254740992 → (q = 0 ∨ 4503599627370496 ≤ w) →
      Ev (fun k => round_number_float.j2 k (mode : Int) (n : Int) ((q : Int) - 1074) half rest (w : Int) neg h l e r0)
      (if 9218868437227405312 ≤ q * 4503599627370496 + w then (((sg neg + (if dir neg mode = 2 then 9218868437227405311 else 9218868437227405312) : Nat) : Int), 5)
       else (((sg neg + (q * 4503599627370496 + w) : Nat) : Int), if half || rest then (if (n : Int) + e ≤ -1022 then 3 else 1) else 0)) := by
    intro q w hq hw hp
    refine Ev.next ?_
    simp only [round_number_float.j2]
    by_cases c : (q : Int) - 1074 > 971
    · rw [if_pos (by omega)]
      exact Ev.congr (fun k => by rw [if_pos c]) (Ev.b _ (over_ev neg h l e r0 mode) (Ev.now _))
    · rw [if_neg (by omega)]
      have J := j3_ev neg h l e r0 n q w (half || rest) (by omega) hw hn he
      have e1 : (if 4503599627370496 ≤ w then q * 4503599627370496 + w else w) = q * 4503599627370496 + w := by split <;> omega
      rw [e1] at J
      cases half
      · exact Ev.congr (fun k => by rw [if_neg c, if_neg (by simp)]; rfl) J
      · exact Ev.congr (fun k => by rw [if_neg c, if_pos rfl]; rfl) J
  refine Ev.next ?_
  simp only [round_number_float.j1]
  by_cases c : w = 9007199254740992
  · have e1 : wrap64 ((q : Int) - 1074 + 1) = ((q + 1 : Nat) : Int) - 1074 := by rw [w64 (by omega) (by omega)]; omega
    have e2 : (w : Int) / 2 = ((4503599627370496 : Nat) : Int) := by omega
    have J := J2 (q + 1) 4503599627370496 (by omega) (by omega) (by omega)
    rw [show (q + 1) * 4503599627370496 + 4503599627370496 = q * 4503599627370496 + w by omega] at J
    exact Ev.congr (fun k => by rw [if_pos (by omega), e1, e2]) J
  · exact Ev.congr (fun k => by rw [if_neg (by omega)]) (J2 q w (by omega) (by omega) hp)
def pr (r : Nat × Nat) : Int × Int := ((r.1 : Int), (r.2 : Int))
theorem tail_ev (neg : Bool) (m : Nat) (e : Int) (rest r0 : Bool) (mode : Nat) (h l hi lo : Int) (q : Nat) (w : Nat) (half rst : Bool) (hm : m ≠ 0) (hL : bl m ≤ 128) (he : -5000 ≤ e ∧ e ≤ 5000) (hq : q ≤ 10000)
    (hs : sh (FX m 1 e) = q + 1) (h1 : wd (FX m 1 e) = w) (h2 : hf (FX m 1 e) = half) (h3 : rs (FX m 1 e) (FS m 1 e rest) = rst) (hlo : lo = (w : Int)) :
    Ev (fun k => round_number_float.j0 k (mode : Int) (bl m : Int) ((q : Int) - 1074) half rst neg h l e r0 hi lo) (pr (RND neg (FX m 1 e) (FS m 1 e rest) mode)) := by
  subst hlo
  have hwl := wd_lt (FX m 1 e)
  rw [h1] at hwl
  have hwg : q = 0 ∨ 4503599627370496 ≤ w := by
    by_cases c : q = 0
    · exact .inl c
    · right; rw [← h1]; exact wd_ge _ (by omega)
  have hfk : fk (FX m 1 e) = q * 4503599627370496 + w := by unfold fk; rw [hs, h1]; congr 1
  have hX : FX m 1 e < 9007199254740992 ↔ (bl m : Int) + e ≤ -1022 := by
    constructor
    · intro hh
      by_cases c : (bl m : Int) + e ≤ -1022
      · exact c
      · have := FX_ge m e 53 (by omega) hm
        omega
    · intro hh
      have := FX_lt m e 53 (by omega) hm
      omega
  have hodd : FX m 1 e / 2 ^ sh (FX m 1 e) = w := h1
  refine Ev.next ?_
  simp only [round_number_float.j0]
  have hand : (bits .and .u64 (w : Int) 1 == 1) = (w % 2 == 1) := by
    rw [and_1 w (by omega), Bool.eq_iff_iff, beq_iff_eq, beq_iff_eq]; omega
  rw [hand]
  have hu := up_ok neg h l e r0 mode (w % 2 == 1) half rst
  refine Ev.b _ (Ev.const hu) ?_
  have hup : upw (FX m 1 e) (FS m 1 e rest) (dir neg mode) = (if dir neg mode = 1 then half || rst else if dir neg mode = 2 then false else half && (rst || (w % 2 == 1))) := by
    unfold upw; rw [h2, h3, hodd]
  rw [← hup]
  have key : ∀ (b : Bool), upw (FX m 1 e) (FS m 1 e rest) (dir neg mode) = b → (if 9218868437227405312 ≤ q * 4503599627370496 + (w + if b then 1 else 0) then (((sg neg + (if dir neg mode = 2 then 9218868437227405311 else 9218868437227405312) : Nat) : Int), 5)
       else (((sg neg + (q * 4503599627370496 + (w + if b then 1 else 0)) : Nat) : Int), if half || rst then (if (bl m : Int) + e ≤ -1022 then 3 else 1) else 0)) = pr (RND neg (FX m 1 e) (FS m 1 e rest) mode) := by
    intro b hb
    have hk : kk (FX m 1 e) (FS m 1 e rest) (dir neg mode) = q * 4503599627370496 + (w + if b = true then 1 else 0) := by
      unfold kk; rw [hb, hfk, Nat.add_assoc]
    by_cases c : 9218868437227405312 ≤ q * 4503599627370496 + (w + if b then 1 else 0)
    · rw [if_pos c, RND_over (by rw [hk]; exact c)]; rfl
    · rw [if_neg c, RND_in (by rw [hk]; exact c), hk, h2, h3]
      have e3 : (if (half || rst) = true then (if (bl m : Int) + e ≤ -1022 then (3 : Int) else 1) else 0) = ((if (half || rst) = true then (if FX m 1 e < 9007199254740992 then 3 else 1) else 0 : Nat) : Int) := by
        cases half || rst
        · rfl
        · by_cases c2 : (bl m : Int) + e ≤ -1022
          · rw [if_pos rfl, if_pos rfl, if_pos c2, if_pos (hX.2 c2)]; rfl
          · rw [if_pos rfl, if_pos rfl, if_neg c2, if_neg (fun hh => c2 (hX.1 hh))]; rfl
      rw [e3]; rfl
  cases hb : upw (FX m 1 e) (FS m 1 e rest) (dir neg mode)
  · have K := key false hb
    rw [show (w + if false = true then 1 else 0) = w from by simp] at K
    rw [← K]
    exact Ev.congr (fun k => by rw [if_neg (by simp)]) (j1_ev neg h l e r0 mode (bl m) q w half rst (by omega) (by omega) (by omega) he (by omega))
  · have K := key true hb
    rw [show (w + if true = true then 1 else 0) = w + 1 from by simp] at K
    rw [← K]
    have e1 : IntKind.u64.wrap ((w : Int) + 1) = ((w + 1 : Nat) : Int) := by rw [wu64 (by omega) (by omega)]; omega
    exact Ev.congr (fun k => by rw [if_pos rfl, e1]) (j1_ev neg h l e r0 mode (bl m) q (w + 1) half rst (by omega) (by omega) (by omega) he (by omega))
end Go.Proofs.Ytmadjhmecfbcmaa.M
end
section
namespace Go.Proofs.Ytmadjhmecfbcmaa.M
open Go.RowKit Go.Proofs.YtmadjhmecfbcmaaW.PrintWords Go.Proofs.YtmadjhmecfbcmaaW.PrintLast Go.Proofs.YtmadjhmecfbcmaaW.PrintMore Go.Proofs.Ytmadjhmecfbcmaa.F
theorem tw_lo (V : Nat) : (tw V).2 = ((V % 18446744073709551616 : Nat) : Int) := rfl
theorem words (m : Nat) : m / 18446744073709551616 * 18446744073709551616 + m % 18446744073709551616 = m := by omega
theorem word_lt (m : Nat) : m % 18446744073709551616 < 18446744073709551616 := Nat.mod_lt _ (by decide)
theorem word_hi_lt {m : Nat} (h : m < 340282366920938463463374607431768211456) : m / 18446744073709551616 < 18446744073709551616 := by omega
theorem bl_small {m n : Nat} (h : bl m ≤ n) : m < 2 ^ n := by
 by_cases c : m = 0
 ·subst c; exact two_pos n
 ·have := (bl_bd m c).2.2
  have : 2 ^ bl m ≤ 2 ^ n := pow_le h
  omega
theorem Shl_tw (m n : Nat) (hm : m < 340282366920938463463374607431768211456) (hn : n < 1000000) :
  Ev (fun k => wide_U128_Shl.f k (tw m).1 (tw m).2 (n : Int)) (tw (m * 2 ^ n % 340282366920938463463374607431768211456)) := by
 have := U128_Shl (m / 18446744073709551616) (m % 18446744073709551616) n (word_hi_lt hm) (word_lt m) hn
 rw [words] at this; exact this
theorem Shr_tw (m n : Nat) (hm : m < 340282366920938463463374607431768211456) (hn : n < 1000000) :
  Ev (fun k => wide_U128_Shr.f k (tw m).1 (tw m).2 (n : Int)) ((tw (m / 2 ^ n)).1, (tw (m / 2 ^ n)).2, decide (m % 2 ^ n ≠ 0)) := by
 have := U128_Shr (m / 18446744073709551616) (m % 18446744073709551616) n (word_hi_lt hm) (word_lt m) hn
 rw [words] at this; exact this
theorem Len_tw (m : Nat) (hm : m < 340282366920938463463374607431768211456) : wide_U128_Len.f (tw m).1 (tw m).2 = some (bl m : Int) := by
 have := U128_Len (m / 18446744073709551616) (m % 18446744073709551616) (word_hi_lt hm) (word_lt m)
 rw [words] at this; exact this
theorem mx_eq (a b : Int) : mx a b = max a b := by unfold mx; omega
theorem mn_eq (a b : Int) : mn a b = min a b := by unfold mn; omega
theorem float_ev (neg : Bool) (m : Nat) (e : Int) (rest : Bool) (mode : Nat) (hm : m ≠ 0) (hm2 : m < 340282366920938463463374607431768211456) (he : -5000 ≤ e ∧ e ≤ 5000) (hr : rest = true → 53 < bl m) :
  Ev (fun k => round_number_float.f k neg (tw m).1 (tw m).2 e rest (mode : Int)) (pr (RND neg (FX m 1 e) (FS m 1 e rest) mode)) := by
 have hL : bl m ≤ 128 := bl_le (n := 128) hm2
 have hL1 := (bl_bd m hm).1
 obtain ⟨q, hq⟩ : ∃ q : Nat, max ((bl m : Int) - 53 + e) (-1074) = (q : Int) - 1074 := ⟨(max ((bl m : Int) - 53 + e) (-1074) + 1074).toNat, by omega⟩
 have hsh : sh (FX m 1 e) = q + 1 := by
  rw [sh_FX m e ((q : Int) - 1074) hm (by omega)]; omega
 have hsh' : sh (FX m 1 e) = ((q : Int) - 1074 + 1075).toNat := by rw [hsh]; omega
 have w1 : wrap64 ((bl m : Int) - 53) = (bl m : Int) - 53 := w64 (by omega) (by omega)
 have w2 : wrap64 ((bl m : Int) - 53 + e) = (bl m : Int) - 53 + e := w64 (by omega) (by omega)
 have w3 : wrap64 ((q : Int) - 1074 - e) = (q : Int) - 1074 - e := w64 (by omega) (by omega)
 unfold round_number_float.f
 refine Ev.b _ (Ev.const (Len_tw m hm2)) ?_
 rw [w1, w2, mx_eq, hq, w3]
 by_cases c : (q : Int) - 1074 - e > 0
 ·have w4 : wrap64 ((q : Int) - 1074 - e - 1) = (((q : Int) - 1074 - e - 1).toNat : Int) := by rw [w64 (by omega) (by omega)]; omega
  obtain ⟨k1, k2, k3⟩ := keep_out m e ((q : Int) - 1074) rest (by omega) hsh' c
  have S1 := Shr_tw m ((q : Int) - 1074 - e - 1).toNat hm2 (by omega)
  have hM : m / 2 ^ ((q : Int) - 1074 - e - 1).toNat ≤ m := Nat.div_le_self _ _
  have S2 := Shr_tw (m / 2 ^ ((q : Int) - 1074 - e - 1).toNat) 1 (by omega) (by omega)
  rw [show ((1 : Nat) : Int) = 1 from rfl] at S2
  have e1 : m / 2 ^ ((q : Int) - 1074 - e - 1).toNat / 2 ^ 1 = m / 2 ^ ((q : Int) - 1074 - e).toNat := by
   rw [Nat.div_div_eq_div_mul, ← Nat.pow_add]; congr 2; omega
  have hh : (bits .and .u64 (tw (m / 2 ^ ((q : Int) - 1074 - e - 1).toNat)).2 1 == 1) = (m / 2 ^ ((q : Int) - 1074 - e - 1).toNat % 2 == 1) := by
   rw [tw_lo, and_1 _ (word_lt _), Bool.eq_iff_iff, beq_iff_eq, beq_iff_eq]; omega
  have hw : m / 2 ^ ((q : Int) - 1074 - e).toNat < 18446744073709551616 := by
   rw [← k1]; have := wd_lt (FX m 1 e); omega
  refine Ev.congr (fun k => by rw [if_pos c, w4]) (Ev.b _ S1 ?_)
  dsimp only
  rw [hh]
  cases rest
  ·refine Ev.congr (fun k => by rw [if_neg (by simp)]) (Ev.b _ S2 ?_)
   dsimp only
   exact tail_ev neg m e false false mode _ _ _ _ q _ _ _ hm hL he (by omega) hsh k1 k2 (by rw [k3, Bool.false_or]) (by rw [tw_lo, e1, Nat.mod_eq_of_lt hw])
  ·refine Ev.congr (fun k => by rw [if_pos rfl]) (Ev.b _ S2 ?_)
   dsimp only
   exact tail_ev neg m e true true mode _ _ _ _ q _ _ _ hm hL he (by omega) hsh k1 k2 (by rw [k3, Bool.true_or]) (by rw [tw_lo, e1, Nat.mod_eq_of_lt hw])
 ·have hr2 : rest = false := by
   cases rest
   ·rfl
   ·have := hr rfl; omega
  subst hr2
  obtain ⟨k1, k2, k3⟩ := keep_in m e ((q : Int) - 1074) (by omega) hsh' (by omega)
  have w4 : wrap64 (-((q : Int) - 1074 - e)) = ((e - ((q : Int) - 1074)).toNat : Int) := by rw [w64 (by omega) (by omega)]; omega
  have S1 := Shl_tw m (e - ((q : Int) - 1074)).toNat hm2 (by omega)
  have hw : m * 2 ^ (e - ((q : Int) - 1074)).toNat < 9007199254740992 := by rw [← k1]; exact wd_lt _
  rw [Nat.mod_eq_of_lt (by omega)] at S1
  refine Ev.congr (fun k => by rw [if_neg c, w4]) (Ev.b _ S1 ?_)
  exact tail_ev neg m e false false mode _ _ _ _ q _ _ _ hm hL he (by omega) hsh k1 k2 k3 (by rw [tw_lo, Nat.mod_eq_of_lt (by omega)])
def cl (e : Int) : Int := min (max e (-5000)) 5000
theorem Round_ev (neg : Bool) (m : Nat) (e : Int) (rest : Bool) (mode : Nat) (hm2 : m < 340282366920938463463374607431768211456) :
  Ev (fun k => round_Round.f k neg (tw m).1 (tw m).2 e rest (mode : Int))
   (if m = 0 then ((sg neg : Int), 0) else pr (RND neg (FX m 1 (cl e)) (FS m 1 (cl e) (rest && decide (53 < bl m))) mode)) := by
 unfold round_Round.f
 refine Ev.b _ (Ev.const (Len_tw m hm2)) ?_
 by_cases c : m = 0
 ·rw [if_pos c]
  have : (bl m : Int) = 0 := by rw [c]; rfl
  refine Ev.congr (fun k => by rw [if_pos this]) (Ev.b (f := fun _ b => some (b.1, (0 : Int))) _ (show Ev (fun k => pattern_Make.f k neg 0 0) ((mk neg 0 0 : Int), 0) from Make_ev neg 0 0 (by omega) (by omega)) (Ev.now _))
 ·rw [if_neg c]
  have h1 := (bl_bd m c).1
  have c2 : ¬ (bl m : Int) = 0 := by omega
  have e1 : mn (mx e (-5000)) 5000 = cl e := by rw [mx_eq, mn_eq]; rfl
  rw [e1]
  have hc : -5000 ≤ cl e ∧ cl e ≤ 5000 := by unfold cl; omega
  have e2 : decide ((bl m : Int) > 53) = decide (53 < bl m) := by rw [Bool.eq_iff_iff, decide_eq_true_iff, decide_eq_true_iff]; omega
  rw [e2]
  cases rest
  ·exact Ev.congr (fun k => by rw [if_neg c2, if_neg (by simp)]) (Ev.b (f := fun _ b => some (b.1, b.2)) _ (float_ev neg m (cl e) false mode c hm2 hc (by simp)) (Ev.now _))
  ·exact Ev.congr (fun k => by rw [if_neg c2, if_pos rfl]) (Ev.b (f := fun _ b => some (b.1, b.2)) _ (float_ev neg m (cl e) (decide (53 < bl m)) mode c hm2 hc (by simp)) (Ev.now _))
end Go.Proofs.Ytmadjhmecfbcmaa.M
end
section
namespace Go.Proofs.Ytmadjhmecfbcmaa.M
open Go.RowKit Go.Proofs.YtmadjhmecfbcmaaW.PrintWords Go.Proofs.YtmadjhmecfbcmaaW.PrintLast Go.Proofs.YtmadjhmecfbcmaaW.PrintMore Go.Proofs.Ytmadjhmecfbcmaa.F
def QN : Nat := 9221120237041090560
def INF : Nat := 9218868437227405312
def mg (a : Nat) : Nat := magk (key a)
def sv (a : Nat) : Int := if sgn a then -(mg a : Int) else mg a
theorem key_cls (a : Nat) : (cls a ≤ 2 ↔ key a < 9218868437227405312) ∧ (cls a = 3 ↔ key a = 9218868437227405312) ∧ (cls a = 4 ↔ 9218868437227405312 < key a) ∧ (cls a = 0 ↔ key a = 0) := by
 rw [key_parts' a]
 have h1 := ex_lt a
 have h2 := fr_lt a
 unfold cls
 refine ⟨?_, ?_, ?_, ?_⟩ <;> (repeat' split) <;> omega
theorem mg_split (a : Nat) (h : cls a ≤ 2) : mg a = spm a * 2 ^ (spe a + 1074).toNat := by
 have h2 := fr_lt a
 have e1 : key a / 4503599627370496 = ex a := by rw [key_parts' a]; omega
 have e2 : key a % 4503599627370496 = fr a := by rw [key_parts' a]; omega
 unfold mg magk
 rw [e1, e2]
 unfold spm spe
 unfold cls at h ⊢
 by_cases c1 : ex a = 2047
 ·rw [if_pos c1] at h; split at h <;> omega
 ·rw [if_neg c1]
  by_cases c2 : ex a = 0
  ·rw [if_pos c2, if_pos c2]
   by_cases c3 : fr a = 0
   ·rw [if_pos c3, c3, if_neg (by decide), if_neg (by decide), Nat.zero_mul]
   ·rw [if_neg c3, if_neg (by decide), if_pos rfl, if_neg (by decide), if_pos rfl, show ((-1074 : Int) + 1074).toNat = 0 from rfl, Nat.pow_zero, Nat.mul_one]
  ·rw [if_neg c2, if_neg c2, if_pos rfl, if_pos rfl, show ((ex a : Int) - 1075 + 1074).toNat = ex a - 1 by omega]
theorem mg_zero (a : Nat) : mg a = 0 ↔ cls a = 0 := by
 rw [(key_cls a).2.2.2]
 have h0 : magk 0 = 0 := by unfold magk; simp
 constructor
 ·intro h; apply magk_inj; rw [h0]; exact h
 ·intro h; unfold mg; rw [h, h0]
theorem spm_zero (a : Nat) (h : cls a ≤ 2) : spm a = 0 ↔ cls a = 0 := by
 rw [← mg_zero, mg_split a h, Nat.mul_eq_zero]
 have := two_pos (spe a + 1074).toNat
 omega
theorem fk_magk (k : Nat) : fk (2 * magk k) = k := by
 have h1 : k ≤ fk (2 * magk k) := (fk_iff _ _).1 (Nat.le_refl _)
 have h2 := fk_le (2 * magk k)
 have h3 := magk_le_iff.1 (show magk (fk (2 * magk k)) ≤ magk k by omega)
 omega
theorem RND_exact (neg : Bool) (k mode : Nat) (h : k < 9218868437227405312) : RND neg (2 * magk k) false mode = (sg neg + k, 0) := by
 have hx : (hf (2 * magk k) || rs (2 * magk k) false) = false := by rw [exact_iff, fk_magk]; exact ⟨rfl, rfl⟩
 have hu : upw (2 * magk k) false (dir neg mode) = false := by
  unfold upw
  rw [Bool.or_eq_false_iff] at hx
  rw [hx.1, hx.2]; simp
 have hk : kk (2 * magk k) false (dir neg mode) = k := by unfold kk; rw [hu, fk_magk]; rfl
 rw [RND_in (by rw [hk]; omega), hk, hx]; rfl
theorem RND_sticky (neg : Bool) (X Y g : Nat) (s : Bool) (mode : Nat) (h1 : X / 2 ^ g = Y / 2 ^ g) (h2 : X % 2 ^ g = 0) (h3 : 9007199254740992 ≤ X / 2 ^ g) (h4 : s = true ∨ Y % 2 ^ g ≠ 0) :
  RND neg X true mode = RND neg Y s mode := by
 by_cases g0 : g = 0
 ·subst g0
  rw [Nat.pow_zero, Nat.div_one, Nat.div_one] at h1
  rw [Nat.pow_zero, Nat.mod_one] at h4
  have : s = true := by rcases h4 with h4 | h4; exact h4; exact absurd rfl h4
  rw [h1, this]
 have hz : X / 2 ^ g ≠ 0 := by omega
 have pg := two_pos g
 have hX := Nat.div_add_mod X (2 ^ g)
 have hY := Nat.div_add_mod Y (2 ^ g)
 have mX := Nat.mod_lt X pg
 have mY := Nat.mod_lt Y pg
 obtain ⟨Z, hZ⟩ : ∃ Z, X / 2 ^ g = Z := ⟨_, rfl⟩
 rw [← h1] at hY
 rw [hZ] at h1 h3 hz hX hY
 have zl := Nat.log2_self_le hz
 have zu : Z < 2 ^ (Z.log2 + 1) := Nat.lt_log2_self
 have z53 : 53 ≤ Z.log2 := by rw [Nat.le_log2 hz]; omega
 have lo : ∀ W, 2 ^ g * Z ≤ W → W < 2 ^ g * (Z + 1) → sh W = Z.log2 + g - 52 := by
  intro W w1 w2
  apply sh_unique
  right
  refine ⟨by omega, ?_, ?_⟩
  ·have : 2 ^ g * 2 ^ Z.log2 ≤ 2 ^ g * Z := Nat.mul_le_mul_left _ zl
   rw [← Nat.pow_add, show g + Z.log2 = Z.log2 + g - 52 + 52 by omega] at this; exact Nat.le_trans this w1
  ·have : 2 ^ g * (Z + 1) ≤ 2 ^ g * 2 ^ (Z.log2 + 1) := Nat.mul_le_mul_left _ zu
   rw [← Nat.pow_add, show g + (Z.log2 + 1) = Z.log2 + g - 52 + 53 by omega] at this; exact Nat.lt_of_lt_of_le w2 this
 have e0 : 2 ^ g * (Z + 1) = 2 ^ g * Z + 2 ^ g := by rw [Nat.mul_add, Nat.mul_one]
 have sX := lo X (by omega) (by omega)
 have sY := lo Y (by omega) (by omega)
 obtain ⟨v, hv⟩ : ∃ v, Z.log2 + g - 52 = g + (v + 1) := ⟨Z.log2 - 53, by omega⟩
 rw [hv] at sX sY
 have dX : ∀ n, X / 2 ^ (g + n) = Z / 2 ^ n := by intro n; rw [Nat.pow_add, ← Nat.div_div_eq_div_mul, hZ]
 have dY : ∀ n, Y / 2 ^ (g + n) = Z / 2 ^ n := by intro n; rw [Nat.pow_add, ← Nat.div_div_eq_div_mul, ← h1]
 have ew : wd X = wd Y := by unfold wd; rw [sX, sY, dX, dY]
 have eh : hf X = hf Y := by unfold hf; rw [sX, sY, show g + (v + 1) - 1 = g + v by omega, dX, dY]
 have er1 : rs X true = true := rfl
 have er2 : rs Y s = true := by
  unfold rs
  rcases h4 with h4 | h4
  ·rw [h4]; rfl
  ·have : Y % 2 ^ (sh Y - 1) ≠ 0 := by
    rw [sY, show g + (v + 1) - 1 = g + v by omega, Nat.pow_add, Nat.mod_mul]; omega
   rw [bne_iff_ne.2 this, Bool.or_true]
 have ef : fk X = fk Y := by unfold fk; rw [ew, sX, sY]
 have eu : upw X true (dir neg mode) = upw Y s (dir neg mode) := by unfold upw; rw [eh, er1, er2, sX, sY, dX, dY]
 have ek : kk X true (dir neg mode) = kk Y s (dir neg mode) := by unfold kk; rw [ef, eu]
 have gX : ¬ X < 9007199254740992 := by
  have : 1 * Z ≤ 2 ^ g * Z := Nat.mul_le_mul_right _ pg
  omega
 have gY : ¬ Y < 9007199254740992 := by
  have : 1 * Z ≤ 2 ^ g * Z := Nat.mul_le_mul_right _ pg
  omega
 unfold RND rnd
 rw [ek, eh, er1, er2, if_neg gX, if_neg gY]
theorem two_step (neg : Bool) (A B : Nat) (E : Int) (mode : Nat) (hB : 0 < B) (h : A % B = 0 ∨ 9007199254740992 ≤ A / B) :
  RND neg (FX (A / B) 1 E) (FS (A / B) 1 E (decide (A % B ≠ 0))) mode = RND neg (FX A B E) (FS A B E false) mode := by
 rw [FX_one, FS_one]
 unfold FX FS FN FD
 rw [Bool.false_or]
 have hAB := Nat.div_add_mod A B
 by_cases c : 0 ≤ E + 1075
 ·have h0 : (-(E + 1075)).toNat = 0 := by omega
  rw [h0, Nat.pow_zero, Nat.div_one, Nat.mul_one]
  generalize (E + 1075).toNat = g at *
  have pg := two_pos g
  have hm1 : A / B * 2 ^ g % 1 = 0 := Nat.mod_one _
  rw [hm1]
  by_cases z : A % B = 0
  ·have e1 : A * 2 ^ g = B * (A / B * 2 ^ g) := by rw [← Nat.mul_assoc]; congr 1; omega
   rw [e1, Nat.mul_div_cancel_left _ hB, Nat.mul_mod_right, z]; rfl
  ·have hq : 9007199254740992 ≤ A / B := by omega
   rw [decide_eq_true z, Bool.true_or]
   have d1 : A / B * 2 ^ g / 2 ^ g = A / B := Nat.mul_div_cancel _ pg
   have d2 : A * 2 ^ g / B / 2 ^ g = A / B := by rw [Nat.div_div_eq_div_mul, Nat.mul_div_mul_right _ _ pg]
   apply RND_sticky neg _ _ g
   ·rw [d1, d2]
   ·exact Nat.mul_mod_left _ _
   ·rw [d1]; exact hq
   ·by_cases y : A * 2 ^ g % B = 0
    ·right
     intro y2
     have k1 := Nat.div_add_mod (A * 2 ^ g) B
     have k2 := Nat.div_add_mod (A * 2 ^ g / B) (2 ^ g)
     rw [d2] at k2
     have k3 : A * 2 ^ g = B * (A / B) * 2 ^ g := by
      have : A * 2 ^ g / B = 2 ^ g * (A / B) := by omega
      rw [this] at k1
      have k4 : B * (2 ^ g * (A / B)) = B * (A / B) * 2 ^ g := by grind
      omega
     have := Nat.eq_of_mul_eq_mul_right pg k3
     omega
    ·left; rw [decide_eq_true y]
 ·have h0 : (E + 1075).toNat = 0 := by omega
  rw [h0, Nat.pow_zero, Nat.mul_one, Nat.mul_one]
  generalize (-(E + 1075)).toNat = r at *
  rw [Nat.div_div_eq_div_mul]
  congr 1
  rw [Bool.eq_iff_iff, Bool.or_eq_true, decide_eq_true_iff, decide_eq_true_iff, decide_eq_true_iff, Nat.mod_mul]
  constructor
  ·rintro (h1 | h1) h2
   ·omega
   ·obtain ⟨_, h3⟩ := Nat.eq_zero_of_add_eq_zero h2
    rcases Nat.mul_eq_zero.1 h3 with h4 | h4
    ·omega
    ·exact h1 h4
  ·intro h1
   by_cases y : A % B = 0
   ·right; intro y2; apply h1; rw [y, y2, Nat.mul_zero]
   ·exact .inl y
theorem FXS_scale (A B T : Nat) (E : Int) (r : Bool) : FX (A * 2 ^ T) B (E - T) = FX A B E ∧ FS (A * 2 ^ T) B (E - T) r = FS A B E r := by
 have key : ∃ u, FN (A * 2 ^ T) (E - T) = 2 ^ u * FN A E ∧ FD B (E - T) = 2 ^ u * FD B E := by
  refine ⟨T + (E - T + 1075).toNat - (E + 1075).toNat, ?_, ?_⟩
  ·unfold FN
   rw [Nat.mul_assoc, ← Nat.pow_add, Nat.mul_left_comm, ← Nat.pow_add]; congr 2; omega
  ·unfold FD
   rw [Nat.mul_left_comm, ← Nat.pow_add]; congr 2; omega
 obtain ⟨u, k1, k2⟩ := key
 unfold FX FS
 rw [k1, k2, Nat.mul_div_mul_left _ _ (two_pos u), Nat.mul_mod_mul_left]
 refine ⟨rfl, ?_⟩
 congr 2
 rw [Ne, Nat.mul_eq_zero, eq_iff_iff]
 have := two_pos u
 constructor
 ·intro h1 h2; exact h1 (.inr h2)
 ·rintro h1 (h2 | h2)
  ·omega
  ·exact h1 h2
def sAdd (a b mode : Nat) : Nat × Nat :=
 if cls a = 4 ∨ cls b = 4 then (QN, 0)
 else if cls a = 3 ∧ cls b = 3 ∧ sgn a ≠ sgn b then (QN, 16)
 else if cls a = 3 then (a, 0)
 else if cls b = 3 then (b, 0)
 else if sv a + sv b = 0 then (sg (if sgn a = sgn b then sgn a else decide (mode = 2)), 0)
 else RND (decide (sv a + sv b < 0)) (2 * (sv a + sv b).natAbs) false mode
def sMul (a b mode : Nat) : Nat × Nat :=
 if cls a = 4 ∨ cls b = 4 then (QN, 0)
 else if cls a = 3 ∧ cls b = 0 ∨ cls a = 0 ∧ cls b = 3 then (QN, 16)
 else if cls a = 3 ∨ cls b = 3 then (sg (sgn a != sgn b) + INF, 0)
 else if spm a * spm b = 0 then (sg (sgn a != sgn b), 0)
 else RND (sgn a != sgn b) (FX (spm a * spm b) 1 (spe a + spe b)) (FS (spm a * spm b) 1 (spe a + spe b) false) mode
def sDiv (a b mode : Nat) : Nat × Nat :=
 if cls a = 4 ∨ cls b = 4 then (QN, 0)
 else if cls a = 3 ∧ cls b = 3 ∨ cls a = 0 ∧ cls b = 0 then (QN, 16)
 else if cls a = 3 then (sg (sgn a != sgn b) + INF, 0)
 else if cls b = 0 then (sg (sgn a != sgn b) + INF, 8)
 else if cls a = 0 ∨ cls b = 3 then (sg (sgn a != sgn b), 0)
 else RND (sgn a != sgn b) (FX (spm a) (spm b) (spe a - spe b)) (FS (spm a) (spm b) (spe a - spe b) false) mode
end Go.Proofs.Ytmadjhmecfbcmaa.M
end
