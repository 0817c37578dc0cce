/- The walk of the law SlipWidens and what it computes, part 3 of 6: no conditions. -/
import Derived.Test.YtmadjhmecfbcmaaASlipWidens2
import Derived.Laws.Externs
import Derived.Shelf.Spec.BitsCarry
import Derived.Laws.BitsAllLaws
import Derived.Lib.ItoaNum
set_option linter.unusedVariables false
set_option linter.unusedSimpArgs false
section
namespace Go.Proofs.Ytmadjhmecfbcmaa.F
open Go.RowKit Go.Proofs.YtmadjhmecfbcmaaW.PrintWords Go.Proofs.YtmadjhmecfbcmaaW.PrintLast Go.Proofs.YtmadjhmecfbcmaaW.PrintMore
attribute [local go_sem] max2_int min2_int max_two min_two max_three min_three max_four min_four
set_option linter.unusedVariables false
set_option linter.unusedSimpArgs false
set_option maxHeartbeats 8000000
set_option maxRecDepth 100000
def soft_Mul.T9 : Bool × List (List Nat × List Nat) := (true, [([], []), ([], []), ([1], [1]), ([], []), ([3], [3]), ([2, 4], [2, 4]), ([], []), ([6], [6]), ([], []), ([8], [8]), ([7, 9], [7, 9]), ([], []), ([0, 5, 10, 11, 5], [0, 5, 10, 11]), ([12], [12]), ([12], [12]), ([13, 12, 0, 1, 2, 3, 4, 5, 6, 7, 8, 9, 10, 11, 12, 13, 14], [13]), ([14, 15, 0, 1, 2, 3, 4, 5, 6, 7, 8, 9, 10, 11, 12, 13, 14, 15], [14])])
def soft_Mul.B9 : List Nat := [0, 0, 2, 0, 8, 30, 0, 64, 0, 256, 960, 0, 4095, 8191, 8191, 32767, 65535]
theorem soft_Mul.tab9 : rtab .any (opsOf Try.f25 9) = soft_Mul.T9 := by kernel_rfl
theorem soft_Mul.bits9 : waitsOk soft_Mul.T9.2 soft_Mul.B9 = true := by kernel_rfl
theorem soft_Mul.calls (k : Nat) (a0 : Int) (a1 : Int) (a2 : Int) (r1 : Int) (r2 : Int) (w : World) (h : soft_Mul.f k a0 a1 a2 = some (r1, r2)) :
  Calls Try.prog 25 #[.int .u64 a0, .int .u64 a1, .int .u8 a2] w fun e w' => e = .returned (.tuple #[.int .u64 r1, .int .u8 r2]) ∧ Below w.heap.size w w' := by
 have hu88 := Try.underlying88
 have HB := Aside0.mk (Below.refl w.heap.size w)
 have H := h
 unfold soft_Mul.f at H
 clear h
 obtain ⟨⟨t232, t233, t234, t235, t236⟩, A4, H⟩ := zbs H
 try dsimp only at H
 obtain ⟨⟨t237, t238, t239, t240, t241⟩, A5, H⟩ := zbs H
 try dsimp only at H
 obtain ⟨t244, A6, H⟩ := zbs H
 try dsimp only at H
 by_cases c7 : t244 = true
 ·subst c7
  replace H := zit H
  obtain ⟨t245, A8, H⟩ := zbs H
  try dsimp only at H
  simp only [Option.some.injEq, Prod.mk.injEq] at H
  obtain ⟨rfl, rfl⟩ := H
  go_enter Try.func25, Try.ntmps25
  go_wp2_with (first | ((with_reducible refine gtc 82 rfl ?_); refine zgL 12 Try.func82 (soft_of.calls k a0 t232 t233 t234 t235 t236 _ A4.out) (h := ?_); rintro w9 hb; replace HB := Aside0.mk (below_step zaB hb); (try clear hb)) | ((with_reducible refine gtc 82 rfl ?_); refine zgL 14 Try.func82 (soft_of.calls k a1 t237 t238 t239 t240 t241 _ A5.out) (h := ?_); rintro w10 hb; replace HB := Aside0.mk (below_step zaB hb); (try clear hb)) | ((with_reducible refine gtd 8 rfl ?_); refine zbx 8 #[.int .u64 0, .int .u8 0, .bool false, .int .u64 0, .int .i64 0] 88 (h := ?_); intro gb242 hg w11 hbox hb; have GW242 := zkZ hg (zaB (p := Below w.heap.size w _)); replace HB := Aside0.mk (below_step zaB hb); have BK242 := Aside0.mk (hbox); clear hb hbox hg) | ((with_reducible refine gtd 9 rfl ?_); refine zbx 9 #[.int .u64 0, .int .u8 0, .bool false, .int .u64 0, .int .i64 0] 88 (h := ?_); intro gb243 hg w12 hbox hb; refine zbn1 HB BK242 hg hb hbox (c := ?_); clear HB BK242 hb hbox hg; intro GW243 NB242_243 BK242 HB BK243; refine zt1 NB242_243 fun _ _ => ?_; refine zu5 BK242 fun z14_0 z14_1 z14_2 z14_3 z14_4 f14_0 f14_1 f14_2 f14_3 f14_4 => ?_; refine zu5 BK243 fun z15_0 z15_1 z15_2 z15_3 z15_4 f15_0 f15_1 f15_2 f15_3 f15_4 => ?_) | ((with_reducible refine gtc 83 rfl ?_); refine zgL 23 Try.func83 (soft_either.calls t232 t233 t234 t235 t236 t237 t238 t239 t240 t241 4 true _ A6.out) (h := ?_); rintro w16 hb; replace BK242 := Aside0.mk (blk_below (o := .cells #[.int .u64 t232, .int .u8 t233, .bool t234, .int .u64 t235, .int .i64 t236] 88 (0, 0)) (zkf (zkf (zkf (zkf (zkf (blk_put (cs := #[.int .u64 t232, .int .u8 t233, .bool t234, .int .u64 t235, .int .i64 0]) (blk_put (cs := #[.int .u64 t232, .int .u8 t233, .bool t234, .int .u64 0, .int .i64 0]) (blk_put (cs := #[.int .u64 t232, .int .u8 t233, .bool false, .int .u64 0, .int .i64 0]) (blk_put (cs := #[.int .u64 t232, .int .u8 0, .bool false, .int .u64 0, .int .i64 0]) (blk_put BK242.out 0 _ rfl) 1 _ rfl) 2 _ rfl) 3 _ rfl) 4 _ rfl) NB242_243.out _) NB242_243.out _) NB242_243.out _) NB242_243.out _) NB242_243.out _) hb); replace BK243 := Aside0.mk (blk_below (o := .cells #[.int .u64 t237, .int .u8 t238, .bool t239, .int .u64 t240, .int .i64 t241] 88 (0, 0)) (blk_put (cs := #[.int .u64 t237, .int .u8 t238, .bool t239, .int .u64 t240, .int .i64 0]) (blk_put (cs := #[.int .u64 t237, .int .u8 t238, .bool t239, .int .u64 0, .int .i64 0]) (blk_put (cs := #[.int .u64 t237, .int .u8 t238, .bool false, .int .u64 0, .int .i64 0]) (blk_put (cs := #[.int .u64 t237, .int .u8 0, .bool false, .int .u64 0, .int .i64 0]) (blk_put (zkf (zkf (zkf (zkf (zkf BK243.out (zks NB242_243).out _) (zks NB242_243).out _) (zks NB242_243).out _) (zks NB242_243).out _) (zks NB242_243).out _) 0 _ rfl) 1 _ rfl) 2 _ rfl) 3 _ rfl) 4 _ rfl) hb); replace HB := Aside0.mk (below_step (below_set (below_set (below_set (below_set (below_set (below_set (below_set (below_set (below_set (below_set HB.out GW242.out) GW242.out) GW242.out) GW242.out) GW242.out) GW243.out) GW243.out) GW243.out) GW243.out) GW243.out) hb); (try clear hb)) | ((with_reducible refine gtc 81 rfl ?_); refine zgL 24 Try.func81 (pattern_Quiet.calls  t245 _ A8.out) (h := ?_); rintro w' ⟨nd, rfl⟩))
  go_ret2
  exact ⟨zaE, zaB⟩
 replace c7 := Bool.eq_false_iff.mpr c7
 subst c7
 replace H := zif H
 have HC17 := Aside0.mk H
 clear H
 go_enter Try.func25, Try.ntmps25
 go_upto_region 5 with (first | ((with_reducible refine gtc 82 rfl ?_); refine zgL 12 Try.func82 (soft_of.calls k a0 t232 t233 t234 t235 t236 _ A4.out) (h := ?_); rintro w18 hb; replace HB := Aside0.mk (below_step zaB hb); (try clear hb)) | ((with_reducible refine gtc 82 rfl ?_); refine zgL 14 Try.func82 (soft_of.calls k a1 t237 t238 t239 t240 t241 _ A5.out) (h := ?_); rintro w19 hb; replace HB := Aside0.mk (below_step zaB hb); (try clear hb)) | ((with_reducible refine gtd 8 rfl ?_); refine zbx 8 #[.int .u64 0, .int .u8 0, .bool false, .int .u64 0, .int .i64 0] 88 (h := ?_); intro gb242 hg w20 hbox hb; have GW242 := zkZ hg (zaB (p := Below w.heap.size w _)); replace HB := Aside0.mk (below_step zaB hb); have BK242 := Aside0.mk (hbox); clear hb hbox hg) | ((with_reducible refine gtd 9 rfl ?_); refine zbx 9 #[.int .u64 0, .int .u8 0, .bool false, .int .u64 0, .int .i64 0] 88 (h := ?_); intro gb243 hg w21 hbox hb; refine zbn1 HB BK242 hg hb hbox (c := ?_); clear HB BK242 hb hbox hg; intro GW243 NB242_243 BK242 HB BK243; refine zt1 NB242_243 fun _ _ => ?_; refine zu5 BK242 fun z23_0 z23_1 z23_2 z23_3 z23_4 f23_0 f23_1 f23_2 f23_3 f23_4 => ?_; refine zu5 BK243 fun z24_0 z24_1 z24_2 z24_3 z24_4 f24_0 f24_1 f24_2 f24_3 f24_4 => ?_) | ((with_reducible refine gtc 83 rfl ?_); refine zgL 23 Try.func83 (soft_either.calls t232 t233 t234 t235 t236 t237 t238 t239 t240 t241 4 false _ A6.out) (h := ?_); rintro w25 hb; replace BK242 := Aside0.mk (blk_below (o := .cells #[.int .u64 t232, .int .u8 t233, .bool t234, .int .u64 t235, .int .i64 t236] 88 (0, 0)) (zkf (zkf (zkf (zkf (zkf (blk_put (cs := #[.int .u64 t232, .int .u8 t233, .bool t234, .int .u64 t235, .int .i64 0]) (blk_put (cs := #[.int .u64 t232, .int .u8 t233, .bool t234, .int .u64 0, .int .i64 0]) (blk_put (cs := #[.int .u64 t232, .int .u8 t233, .bool false, .int .u64 0, .int .i64 0]) (blk_put (cs := #[.int .u64 t232, .int .u8 0, .bool false, .int .u64 0, .int .i64 0]) (blk_put BK242.out 0 _ rfl) 1 _ rfl) 2 _ rfl) 3 _ rfl) 4 _ rfl) NB242_243.out _) NB242_243.out _) NB242_243.out _) NB242_243.out _) NB242_243.out _) hb); replace BK243 := Aside0.mk (blk_below (o := .cells #[.int .u64 t237, .int .u8 t238, .bool t239, .int .u64 t240, .int .i64 t241] 88 (0, 0)) (blk_put (cs := #[.int .u64 t237, .int .u8 t238, .bool t239, .int .u64 t240, .int .i64 0]) (blk_put (cs := #[.int .u64 t237, .int .u8 t238, .bool t239, .int .u64 0, .int .i64 0]) (blk_put (cs := #[.int .u64 t237, .int .u8 t238, .bool false, .int .u64 0, .int .i64 0]) (blk_put (cs := #[.int .u64 t237, .int .u8 0, .bool false, .int .u64 0, .int .i64 0]) (blk_put (zkf (zkf (zkf (zkf (zkf BK243.out (zks NB242_243).out _) (zks NB242_243).out _) (zks NB242_243).out _) (zks NB242_243).out _) (zks NB242_243).out _) 0 _ rfl) 1 _ rfl) 2 _ rfl) 3 _ rfl) 4 _ rfl) hb); replace HB := Aside0.mk (below_step (below_set (below_set (below_set (below_set (below_set (below_set (below_set (below_set (below_set (below_set HB.out GW242.out) GW242.out) GW242.out) GW242.out) GW242.out) GW243.out) GW243.out) GW243.out) GW243.out) GW243.out) hb); (try clear hb)))
 (try simp only [Act.put, List.setIfInBounds_toArray, List.set_cons_zero, List.set_cons_succ])
 go_cut [25] (fun v25 wc => ∃ (kq : Nat) (x25_16 : Bool), v25 = .bool x25_16 ∧ Aside0 (soft_Mul.j0 kq a2 (t234 != t239) x25_16 t232 t233 t234 t235 t236 t237 t238 t239 t240 t241 = some (r1, r2)) ∧ Aside0 (kq ≤ k) ∧ Aside0 (wc.heap[gb242]? = some (.cells #[.int .u64 t232, .int .u8 t233, .bool t234, .int .u64 t235, .int .i64 t236] 88 (0, 0))) ∧ Aside0 (wc.heap[gb243]? = some (.cells #[.int .u64 t237, .int .u8 t238, .bool t239, .int .u64 t240, .int .i64 t241] 88 (0, 0))) ∧ Aside0 (Below w.heap.size w wc))
 case first =>
  have H := HC17.out
  clear HC17
  obtain ⟨t246, A26, H⟩ := zbs H
  try dsimp only at H
  by_cases c27 : t246 = true
  ·subst c27
   replace H := zit H
   obtain ⟨t247, A28, H⟩ := zbs H
   try dsimp only at H
   have H' := Aside0.mk H
   clear H
   refine zt1 NB242_243 fun _ _ => ?_
   refine zu5 BK242 fun z30_0 z30_1 z30_2 z30_3 z30_4 f30_0 f30_1 f30_2 f30_3 f30_4 => ?_
   refine zu5 BK243 fun z31_0 z31_1 z31_2 z31_3 z31_4 f31_0 f31_1 f31_2 f31_3 f31_4 => ?_
   go_wp2_with (first | ((with_reducible refine gtc 83 rfl ?_); refine zgL 28 Try.func83 (soft_either.calls t232 t233 t234 t235 t236 t237 t238 t239 t240 t241 3 true _ A26.out) (h := ?_); rintro w32 hb; refine zcn2 HB BK242 BK243 hb (c := ?_); clear HB BK242 BK243 hb; intro BK242 BK243 HB; refine zu5 BK242 fun z33_0 z33_1 z33_2 z33_3 z33_4 f33_0 f33_1 f33_2 f33_3 f33_4 => ?_; refine zu5 BK243 fun z34_0 z34_1 z34_2 z34_3 z34_4 f34_0 f34_1 f34_2 f34_3 f34_4 => ?_) | (go_at_call 83; (with_reducible refine (soft_either.calls t232 t233 t234 t235 t236 t237 t238 t239 t240 t241 0 t247 _ A28.out).mono ?_); rintro e w35 ⟨rfl, hb⟩; refine zcn2 HB BK242 BK243 hb (c := ?_); clear HB BK242 BK243 hb; intro BK242 BK243 HB))
   go_meet
   case rel => exact ⟨_, (t247), zrl, H', ⟨zle⟩, ⟨zkq BK242⟩, ⟨zkq BK243⟩, ⟨zaB⟩⟩
  replace c27 := Bool.eq_false_iff.mpr c27
  subst c27
  replace H := zif H
  have H' := Aside0.mk H
  clear H
  refine zt1 NB242_243 fun _ _ => ?_
  refine zu5 BK242 fun z37_0 z37_1 z37_2 z37_3 z37_4 f37_0 f37_1 f37_2 f37_3 f37_4 => ?_
  refine zu5 BK243 fun z38_0 z38_1 z38_2 z38_3 z38_4 f38_0 f38_1 f38_2 f38_3 f38_4 => ?_
  go_wp2_with (first | ((with_reducible refine gtc 83 rfl ?_); refine zgL 28 Try.func83 (soft_either.calls t232 t233 t234 t235 t236 t237 t238 t239 t240 t241 3 false _ A26.out) (h := ?_); rintro w39 hb; refine zcn2 HB BK242 BK243 hb (c := ?_); clear HB BK242 BK243 hb; intro BK242 BK243 HB))
  go_meet
  case rel => exact ⟨_, (false), zrl, H', ⟨zle⟩, ⟨zkq BK242⟩, ⟨zkq BK243⟩, ⟨zaB⟩⟩
 case rest =>
  clear HC17
  try clear z14_0 z14_1 z14_2 z14_3 z14_4 f14_0 f14_1 f14_2 f14_3 f14_4
  try clear z15_0 z15_1 z15_2 z15_3 z15_4 f15_0 f15_1 f15_2 f15_3 f15_4
  try clear z23_0 z23_1 z23_2 z23_3 z23_4 f23_0 f23_1 f23_2 f23_3 f23_4
  try clear z24_0 z24_1 z24_2 z24_3 z24_4 f24_0 f24_1 f24_2 f24_3 f24_4
  try clear z30_0 z30_1 z30_2 z30_3 z30_4 f30_0 f30_1 f30_2 f30_3 f30_4
  try clear z31_0 z31_1 z31_2 z31_3 z31_4 f31_0 f31_1 f31_2 f31_3 f31_4
  try clear z33_0 z33_1 z33_2 z33_3 z33_4 f33_0 f33_1 f33_2 f33_3 f33_4
  try clear z34_0 z34_1 z34_2 z34_3 z34_4 f34_0 f34_1 f34_2 f34_3 f34_4
  try clear z37_0 z37_1 z37_2 z37_3 z37_4 f37_0 f37_1 f37_2 f37_3 f37_4
  try clear z38_0 z38_1 z38_2 z38_3 z38_4 f38_0 f38_1 f38_2 f38_3 f38_4
  obtain ⟨kq, x25_16, rfl, HA, HJ16, BK242, BK243, HB⟩ := hcut
  cases kq with
  | zero => exact absurd HA.out (by simp [soft_Mul.j0])
  | succ kj16 =>
   have H := HA.out
   clear HA
   simp only [soft_Mul.j0] at H
   by_cases c40 : x25_16 = true
   ·subst c40
    replace H := zit H
    obtain ⟨⟨t248, t249⟩, A41, H⟩ := zbs H
    try dsimp only at H
    simp only [Option.some.injEq, Prod.mk.injEq] at H
    obtain ⟨rfl, rfl⟩ := H
    go_wp2_with (first | ((with_reducible refine gtc 84 rfl ?_); refine zgL 34 Try.func84 (soft_invalid.calls  t248 t249 _ A41.out) (h := ?_); rintro w' ⟨nd, rfl⟩))
    go_ret2
    exact ⟨zaE, zaB⟩
   replace c40 := Bool.eq_false_iff.mpr c40
   subst c40
   replace H := zif H
   obtain ⟨t250, A42, H⟩ := zbs H
   try dsimp only at H
   by_cases c43 : t250 = true
   ·subst c43
    replace H := zit H
    obtain ⟨t251, A44, H⟩ := zbs H
    try dsimp only at H
    simp only [Option.some.injEq, Prod.mk.injEq] at H
    obtain ⟨rfl, rfl⟩ := H
    refine zt1 NB242_243 fun _ _ => ?_
    refine zu5 BK242 fun _ _ _ _ _ _ _ _ _ _ => ?_
    refine zu5 BK243 fun _ _ _ _ _ _ _ _ _ _ => ?_
    go_wp2_with (first | ((with_reducible refine gtc 83 rfl ?_); refine zgL 40 Try.func83 (soft_either.calls t232 t233 t234 t235 t236 t237 t238 t239 t240 t241 3 true _ A42.out) (h := ?_); rintro w48 hb; refine zcn2 HB BK242 BK243 hb (c := ?_); clear HB BK242 BK243 hb; intro BK242 BK243 HB) | ((with_reducible refine gtc 79 rfl ?_); refine zgL 42 Try.func79 (pattern_Inf.calls kj16 (t234 != t239) t251 _ A44.out) (h := ?_); rintro w' ⟨nd, rfl⟩))
    go_ret2
    exact ⟨zaE, zaB⟩
   replace c43 := Bool.eq_false_iff.mpr c43
   subst c43
   replace H := zif H
   obtain ⟨⟨t252, t253⟩, A49, H⟩ := zbs H
   try dsimp only at H
   obtain ⟨⟨t254, t255⟩, A50, H⟩ := zbs H
   try dsimp only at H
   simp only [Option.some.injEq, Prod.mk.injEq] at H
   obtain ⟨rfl, rfl⟩ := H
   refine zt1 NB242_243 fun _ _ => ?_
   refine zu5 BK242 fun _ _ _ _ _ _ _ _ _ _ => ?_
   refine zu5 BK243 fun _ _ _ _ _ _ _ _ _ _ => ?_
   try go_wp2_with (first | ((with_reducible refine gtc 83 rfl ?_); refine zgL 40 Try.func83 (soft_either.calls t232 t233 t234 t235 t236 t237 t238 t239 t240 t241 3 false _ A42.out) (h := ?_); rintro w54 hb; refine zcn2 HB BK242 BK243 hb (c := ?_); clear HB BK242 BK243 hb; intro BK242 BK243 HB))
   replace BK242 := Aside0.mk (blk_drew BK242.out)
   replace BK243 := Aside0.mk (blk_drew BK243.out)
   replace HB := Aside0.mk (below_drew1 HB.out)
   refine start_ (n := 17) (S := fun w' => w'.cell? ⟨gb242, 0, none⟩ = some (.int .u64 t232) ∧ w'.cell? ⟨gb242, 1, none⟩ = some (.int .u8 t233) ∧ w'.cell? ⟨gb242, 2, none⟩ = some (.bool t234) ∧ w'.cell? ⟨gb242, 3, none⟩ = some (.int .u64 t235) ∧ w'.cell? ⟨gb242, 4, none⟩ = some (.int .i64 t236) ∧ w'.cell? ⟨gb243, 0, none⟩ = some (.int .u64 t237) ∧ w'.cell? ⟨gb243, 1, none⟩ = some (.int .u8 t238) ∧ w'.cell? ⟨gb243, 2, none⟩ = some (.bool t239) ∧ w'.cell? ⟨gb243, 3, none⟩ = some (.int .u64 t240) ∧ w'.cell? ⟨gb243, 4, none⟩ = some (.int .i64 t241)) (ds := []) #[false, false, false, false, false, false, false, false, false, false, false, false, false, false, false, false, false] (by kernel_rfl) rfl rfl (zk5 BK242 (ze5 BK243)) (fun hHeld => ?_); refine with_tabW soft_Mul.tab9 soft_Mul.bits9 (fun HT_ HW_ => ?_)
   generalize w54.drew = w55 at BK242 BK243 HB hHeld ⊢
   refine zpA 0 43 (h := ?_)
   refine zpA 1 44 (h := ?_)
   refine zpA 3 46 (h := ?_)
   refine zpA 6 49 (h := ?_)
   refine zpA 8 51 (h := ?_)
   refine zpA 11 54 (h := ?_)
   refine ztA 2 45 (h := ?_)
   refine ztA 4 47 (h := ?_)
   refine ztA 7 50 (h := ?_)
   refine ztA 9 52 (h := ?_)
   refine zpA 10 53 (h := ?_)
   refine zoA 5 48 (h := fun K hK => ?_)
   refine zgA Try.func100 (wide_Mul.calls t235 t240 t252 t253 _ A49.out) (h := ?_)
   rintro w56 hb
   refine zcn2 HB BK242 BK243 hb (c := ?_)
   clear HB BK242 BK243 hb
   intro BK242 BK243 HB
   refine hK.out _ _ (zk5 BK242 (ze5 BK243)) (fun hHeld => ?_)
   clear hK K
   refine znA 48 (h := ?_)
   refine zoA 12 55 (h := fun K hK => ?_)
   refine zgA Try.func99 (round_Round.calls kj16 (t234 != t239) t252 t253 (wrap64 (t236 + t241)) false a2 t254 t255 _ A50.out) (h := ?_)
   rintro w57 hb
   refine zcn2 HB BK242 BK243 hb (c := ?_)
   clear HB BK242 BK243 hb
   intro BK242 BK243 HB
   refine hK.out _ _ (zk5 BK242 (ze5 BK243)) (fun hHeld => ?_)
   clear hK K
   refine znA 55 (h := ?_)
   refine zpA 13 56 (h := ?_)
   refine zpA 14 57 (h := ?_)
   refine zpA 15 6 (h := ?_)
   refine zpA 16 7 (h := ?_)
   refine done_ (done_of HT_.out (by kernel_rfl)) ?_
   try go_wp2
   go_ret2
   exact ⟨zaE, zaB⟩
theorem slip_mul.calls (k : Nat) (a0 : Int) (a1 : Int) (r : Int) (w : World) (h : slip_mul.f k a0 a1 = some r) :
  Calls Try.prog 134 #[.int .u64 a0, .int .u64 a1] w fun e w' => e = .returned (.int .u64 r) ∧ Below w.heap.size w w' := by
 have HB := Aside0.mk (Below.refl w.heap.size w)
 have H := h
 unfold slip_mul.f at H
 clear h
 have HC3 := Aside0.mk H
 clear H
 go_enter Try.func134, Try.ntmps134
 go_upto_region 1 with (fail)
 go_cut [12] (fun v12 wc => ∃ (kq : Nat) (x12_2 : Bool), v12 = .bool x12_2 ∧ Aside0 (slip_mul.j0 kq a0 a1 x12_2 = some r) ∧ Aside0 (kq ≤ k) ∧ Aside0 (Below w.heap.size w wc))
 case first =>
  have H := HC3.out
  clear HC3
  obtain ⟨t1479, A4, H⟩ := zbs H
  try dsimp only at H
  by_cases c5 : t1479 = true
  ·subst c5
   replace H := zit H
   have H' := Aside0.mk H
   clear H
   go_wp2_with (first | ((with_reducible refine gtc 131 rfl ?_); refine zgL 8 Try.func131 (slip_zero.calls k a0 true _ A4.out) (h := ?_); rintro w' ⟨nd, rfl⟩))
   go_meet
   case rel => exact ⟨_, (true), zrl, H', ⟨zle⟩, ⟨zaB⟩⟩
  replace c5 := Bool.eq_false_iff.mpr c5
  subst c5
  replace H := zif H
  obtain ⟨t1480, A6, H⟩ := zbs H
  try dsimp only at H
  have H' := Aside0.mk H
  clear H
  go_wp2_with (first | ((with_reducible refine gtc 131 rfl ?_); refine zgL 8 Try.func131 (slip_zero.calls k a0 false _ A4.out) (h := ?_); rintro w' ⟨nd, rfl⟩) | (go_at_call 131; (with_reducible refine (slip_zero.calls k a1 t1480 _ A6.out).mono ?_); rintro e w' ⟨rfl, ⟨nd, rfl⟩⟩))
  go_meet
  case rel => exact ⟨_, (t1480), zrl, H', ⟨zle⟩, ⟨zaB⟩⟩
 case rest =>
  clear HC3
  obtain ⟨kq, x12_2, rfl, HA, HJ2, HB⟩ := hcut
  cases kq with
  | zero => exact absurd HA.out (by simp [slip_mul.j0])
  | succ kj2 =>
   have H := HA.out
   clear HA
   simp only [slip_mul.j0] at H
   by_cases c7 : x12_2 = true
   ·subst c7
    replace H := zit H
    obtain rfl := Option.some.inj H
    go_wp2
    go_ret
    exact ⟨zaE, zaB⟩
   replace c7 := Bool.eq_false_iff.mpr c7
   subst c7
   replace H := zif H
   obtain ⟨⟨t1481, t1482⟩, A8, H⟩ := zbs H
   try dsimp only at H
   obtain ⟨t1483, A9, H⟩ := zbs H
   try dsimp only at H
   obtain rfl := Option.some.inj H
   go_wp2_with (first | ((with_reducible refine gtc 25 rfl ?_); refine zgL 16 Try.func25 (soft_Mul.calls kj2 a0 a1 1 t1481 t1482 _ A8.out) (h := ?_); rintro w10 hb; replace HB := Aside0.mk (below_step zaB hb); (try clear hb)) | ((with_reducible refine gtc 61 rfl ?_); refine zgL 20 Try.func61 (slip_Good.calls kj2 t1481 t1483 _ A9.out) (h := ?_); rintro w' ⟨nd, rfl⟩))
   go_ret
   exact ⟨zaE, zaB⟩
theorem slip_Round.calls (k : Nat) (a0 : Int) (r : Int) (w : World) (h : slip_Round.f k a0 = some r) :
  Calls Try.prog 127 #[.int .u64 a0] w fun e w' => e = .returned (.int .u64 r) ∧ Below w.heap.size w w' := by
 have HB := Aside0.mk (Below.refl w.heap.size w)
 have H := h
 unfold slip_Round.f at H
 clear h
 obtain ⟨t1484, A2, H⟩ := zbs H
 try dsimp only at H
 by_cases c3 : t1484 = 0
 ·rw [if_pos c3] at H
  have c3b0 : (t1484 == 0) = true := beq_iff_eq.mpr c3
  have c3b1 : (t1484 != 0) = false := bne_eq_false_iff_eq.mpr c3
  clear c3
  obtain rfl := Option.some.inj H
  go_enter Try.func127, Try.ntmps127
  go_wp2_with (first | ((with_reducible refine gtc 61 rfl ?_); refine zgL 4 Try.func61 (slip_Good.calls k a0 t1484 _ A2.out) (h := ?_); rintro w' ⟨nd, rfl⟩))
  go_ret
  exact ⟨zaE, zaB⟩
 rw [if_neg c3] at H
 have c3b0 : (t1484 == 0) = false := beq_eq_false_iff_ne.mpr c3
 have c3b1 : (t1484 != 0) = true := bne_iff_ne.mpr c3
 obtain ⟨t1485, A4, H⟩ := zbs H
 try dsimp only at H
 by_cases c5 : t1484 = t1485
 ·rw [if_pos c5] at H
  have c5b0 : (t1484 == t1485) = true := beq_iff_eq.mpr c5
  have c5b1 : (t1484 != t1485) = false := bne_eq_false_iff_eq.mpr c5
  clear c5
  obtain rfl := Option.some.inj H
  go_enter Try.func127, Try.ntmps127
  go_wp2_with (first | ((with_reducible refine gtc 61 rfl ?_); refine zgL 4 Try.func61 (slip_Good.calls k a0 t1484 _ A2.out) (h := ?_); rintro w' ⟨nd, rfl⟩) | ((with_reducible refine gtc 130 rfl ?_); refine zgL 9 Try.func130 (slip_inf.calls k  t1485 _ A4.out) (h := ?_); rintro w' ⟨nd, rfl⟩))
  go_ret
  exact ⟨zaE, zaB⟩
 rw [if_neg c5] at H
 have c5b0 : (t1484 == t1485) = false := beq_eq_false_iff_ne.mpr c5
 have c5b1 : (t1484 != t1485) = true := bne_iff_ne.mpr c5
 obtain ⟨t1486, A6, H⟩ := zbs H
 try dsimp only at H
 obtain ⟨y1487, hy1487⟩ : ∃ y_ : List Int, y_ = (([t1486, 1] : List Int)) := ⟨_, rfl⟩
 replace H : ((pattern_Max.f k y1487).bind fun t1490 => (some t1490)) = some r := by first | (rw [hy1487]; with_reducible exact H) | (have H2_ := (Option.bind_some _ _).symm.trans H; rw [hy1487]; with_reducible exact H2_) | (have H2_ := (Option.bind_some _ _).symm.trans H; with_reducible exact H2_) | with_reducible exact H | (rw [hy1487]; exact H) | exact H
 have Ny1487 := Aside0.mk hy1487
 clear hy1487
 obtain ⟨t1490, A7, H⟩ := zbs H
 try dsimp only at H
 obtain rfl := Option.some.inj H
 go_enter Try.func127, Try.ntmps127
 go_wp2_with (first | ((with_reducible refine gtc 61 rfl ?_); refine zgL 4 Try.func61 (slip_Good.calls k a0 t1484 _ A2.out) (h := ?_); rintro w' ⟨nd, rfl⟩) | ((with_reducible refine gtc 130 rfl ?_); refine zgL 9 Try.func130 (slip_inf.calls k  t1485 _ A4.out) (h := ?_); rintro w' ⟨nd, rfl⟩) | ((with_reducible refine gtc 134 rfl ?_); refine zgL 13 Try.func134 (slip_mul.calls k t1484 4368491638549381120 t1486 _ A6.out) (h := ?_); rintro w8 hb; replace HB := Aside0.mk (below_step zaB hb); (try clear hb)) | ((with_reducible refine gtd 14 rfl ?_); refine Kd.R_lit (Kd.int .u64) _ 23 ?hg (N := 14) ?hd (xs := ([t1486, 1] : List Int)) (inner := [.int .u64 t1486, .int .u64 1]) (ok := fun _ => True) (okp := fun _ => True) ?hr ?hp (fun _ hk => hk) trivial (Below.refl _ _) (Nat.le_refl _) (by simp) ?_; (case hd => rfl); (case hg => rfl); (case hr => first | (go_simp; done) | (go_simp; rfl)); (case hp => exact (Reps.one (show Kd.M (Kd.int .u64) _ _ _ t1486 [.int .u64 t1486] from rfl) (Reps.one (show Kd.M (Kd.int .u64) _ _ _ 1 [.int .u64 1] from rfl) (Reps.none _ _)))); intro v1488 w9 ho10 hb hg_ hnew_; clear hg_ hnew_; (first | rw [← Ny1487.out] at ho10 | (simp only [Int.reduceToNat] at ho10; rw [← Ny1487.out] at ho10)); have HO1489 := Aside0.mk (Kd.R_lower ho10 (below_size zaB)); replace HB := Aside0.mk (below_step zaB hb); clear hb ho10; obtain ⟨Ao11, co11, eo11⟩ := Kd.R_slice HO1489.out; subst eo11) | ((with_reducible refine gtc 120 rfl ?_); refine goesL_ (some 15) rfl rfl Try.func120 (by kernel_rfl) rfl #[.slice Ao11 y1487.length co11] rfl (by (try simp only [List.map_toArray, List.map_cons, List.map_nil]); first | done | rfl | (simp only [List.length_drop, List.length_take]; rfl)) ?_; (with_reducible refine (pattern_Max.calls k _ _ y1487 t1490 _ ?side1 ?side2 A7.out).mono ?_); (case side1 => repeat (first | exact (Kd.R_reads' HO1489.out).2.2 | (with_reducible refine Kd.C_alloc ?_ _) | (with_reducible refine Kd.C_drewN ?_ _) | (with_reducible refine Kd.C_drew ?_))); (case side2 => exact (Kd.R_reads' HO1489.out).2.1); rintro e w12 ⟨rfl, hb⟩; refine ⟨_, rfl, ?_⟩; replace HO1489 := Aside0.mk (Kd.R_below (zRW HO1489.out) hb); replace HB := Aside0.mk (below_step zaB hb); (try clear hb)))
 go_ret
 exact ⟨zaE, zaB⟩
def span_Join.T6 : Bool × List (List Nat × List Nat) := (true, [([], []), ([0], [0]), ([], []), ([2], [2]), ([1, 3], [1, 3]), ([4], [4]), ([], []), ([6], [6]), ([], []), ([8], [8]), ([7, 9], [7, 9]), ([10, 5], [10]), ([5, 11, 11], [5, 11]), ([12, 12, 0, 1, 2, 3, 4, 5, 6, 7, 8, 9, 10, 11, 12], [12])])
def span_Join.B6 : List Nat := [0, 1, 0, 4, 15, 31, 0, 64, 0, 256, 960, 2047, 4095, 8191]
theorem span_Join.tab6 : rtab .any (opsOf Try.f45 6) = span_Join.T6 := by kernel_rfl
theorem span_Join.bits6 : waitsOk span_Join.T6.2 span_Join.B6 = true := by kernel_rfl
theorem span_Join.calls (k : Nat) (A0 : Option Addr) (c0 : Nat) (l0 : List (S43)) (r1 : Bool) (r2 : Int) (r3 : Int) (w : World) (hr0 : Kd.C k43 w A0 l0.length l0) (hc0 : l0.length ≤ c0) (h : span_Join.f k l0 = some (r1, r2, r3)) :
  Calls Try.prog 45 #[.slice A0 l0.length c0] w fun e w' => e = .returned (.agg #[.bool r1, .int .u64 r2, .int .u64 r3]) ∧ Below w.heap.size w w' := by
 have hu43 := Try.underlying43
 have HR0 := Aside0.mk hr0
 have HC0 := Aside0.mk hc0
 clear hr0 hc0
 have HB := Aside0.mk (Below.refl w.heap.size w)
 have H := h
 unfold span_Join.f at H
 clear h
 obtain ⟨⟨t751, t752, t753⟩, A2, H⟩ := zbs H
 try dsimp only at H
 have H' := Aside0.mk H
 clear H
 go_enter Try.func45, Try.ntmps45
 go_wp2_with (first | ((with_reducible refine gtd 2 rfl ?_); refine zbx 2 #[.bool false, .int .u64 0, .int .u64 0] 43 (h := ?_); intro gb750 hg w3 hbox hb; have GW750 := zkZ hg (zaB (p := Below w.heap.size w _)); replace HB := Aside0.mk (below_step zaB hb); have BK750 := Aside0.mk (hbox); clear hb hbox hg) | ((with_reducible refine gtc 118 rfl ?_); refine zgL 6 Try.func118 (span_none.calls  t751 t752 t753 _ A2.out) (h := ?_); rintro w4 hb; replace BK750 := zkb BK750 hb; replace HB := zkB HB hb; (try clear hb)) | ((with_reducible refine gtd 3 rfl ?_); refine zbx 3 #[.bool false, .int .u64 0, .int .u64 0] 43 (h := ?_); intro gb754 hg w5 hbox hb; refine zbn1 HB BK750 hg hb hbox (c := ?_); clear HB BK750 hb hbox hg; intro GW754 NB750_754 BK750 HB BK754; refine zt1 NB750_754 fun _ _ => ?_; refine zu3 BK754 fun z7_0 z7_1 z7_2 f7_0 f7_1 f7_2 => ?_))
 (try simp only [Act.put, List.setIfInBounds_toArray, List.set_cons_zero, List.set_cons_succ])
 go_loopg [9] k (fun kq v9 w' => ∃ (x9_1 : Int) (x755000_1 : Bool) (x755001_1 : Int) (x755002_1 : Int), v9 = .int .i64 x9_1 ∧ Aside0 (span_Join.l0 kq l0 (l0.length : Int) x9_1 x755000_1 x755001_1 x755002_1 = some (r1, r2, r3)) ∧ Aside0 (kq ≤ k) ∧ Aside0 (w'.heap[gb750]? = some (.cells #[.bool false, .int .u64 0, .int .u64 0] 43 (0, 0))) ∧ Aside0 (w'.heap[gb754]? = some (.cells #[.bool x755000_1, .int .u64 x755001_1, .int .u64 x755002_1] 43 (0, 0))) ∧ Aside0 (Below w.heap.size w w'))
 case atStart => exact ⟨(0), (t751), (t752), (t753), zrl, H', ⟨Nat.le_refl _⟩, ⟨(zkf (zkf (zkf (zkq BK750) NB750_754.out _) NB750_754.out _) NB750_754.out _)⟩, ⟨(blk_put (cs := #[.bool t751, .int .u64 t752, .int .u64 0]) (blk_put (cs := #[.bool t751, .int .u64 0, .int .u64 0]) (blk_put (zkq BK754) 0 _ rfl) 1 _ rfl) 2 _ rfl)⟩, ⟨zaB⟩⟩
 case round =>
  clear H'
  try clear z7_0 z7_1 z7_2 f7_0 f7_1 f7_2
  obtain ⟨x9_1, x755000_1, x755001_1, x755002_1, rfl, HA, HK1, BK750, BK754, HB⟩ := hrel
  cases gk with
  | zero => exact absurd HA.out (by simp [span_Join.l0])
  | succ k1 =>
   have H := HA.out
   clear HA
   simp only [span_Join.l0] at H
   by_cases c8 : x9_1 < (l0.length : Int)
   ·rw [if_pos c8] at H
    have c8b0 : decide (x9_1 < (l0.length : Int)) = true := decide_eq_true c8
    clear c8
    by_cases c9 : 0 ≤ x9_1
    ·rw [if_pos c9] at H
     have c9b0 : decide (0 ≤ x9_1) = true := decide_eq_true c9
     clear c9
     by_cases c10 : x9_1 < (l0.length : Int)
     ·rw [if_pos c10] at H
      have c10b0 : decide (x9_1 < (l0.length : Int)) = true := decide_eq_true c10
      clear c10
      obtain ⟨⟨t757, t758, t759⟩, A11, H⟩ := zbs H
      try dsimp only at H
      by_cases c12 : t757 = true
      ·subst c12
       replace H := zit H
       have H' := Aside0.mk H
       clear H
       have p755 : 0 ≤ (x9_1 : Int) := of_decide_eq_true (by first | (with_reducible assumption) | assumption)
       have q755 : x9_1 < (l0.length : Int) := of_decide_eq_true (by first | (with_reducible assumption) | assumption)
       obtain ⟨ad755, e755, hx755_0, hx755_1, hx755_2⟩ := at_T43 HR0.out x9_1 p755 q755
       cases e755
       replace hx755_0 := (HB.out.cell (World.block_lt_of_cell? w _ hx755_0)).trans hx755_0
       replace hx755_1 := (HB.out.cell (World.block_lt_of_cell? w _ hx755_1)).trans hx755_1
       replace hx755_2 := (HB.out.cell (World.block_lt_of_cell? w _ hx755_2)).trans hx755_2
       replace p755 := eq_true p755
       replace q755 := eq_true q755
       go_wp2_with (first | ((with_reducible refine gtd 5 rfl ?_); refine zbx 5 #[.bool false, .int .u64 0, .int .u64 0] 43 (h := ?_); intro gb756 hg w13 hbox hb; refine zbn2 HB BK750 BK754 hg hb hbox (c := ?_); clear HB BK750 BK754 hb hbox hg; intro GW756 NB750_756 NB754_756 BK750 BK754 HB BK756; refine zt2 NB750_756 NB754_756 fun _ _ _ _ => ?_; refine zu3 BK756 fun _ _ _ _ _ _ => ?_) | ((with_reducible refine gtc 112 rfl ?_); refine zgL 14 Try.func112 (span_norm.calls k1 ((rd_T43 l0 x9_1).f0) ((rd_T43 l0 x9_1).f1) ((rd_T43 l0 x9_1).f2) true t758 t759 _ A11.out) (h := ?_); rintro w17 hb; replace BK750 := Aside0.mk (blk_below (zkf (zkf (zkf BK750.out NB750_756.out _) NB750_756.out _) NB750_756.out _) hb); replace BK754 := Aside0.mk (blk_below (zkf (zkf (zkf BK754.out NB754_756.out _) NB754_756.out _) NB754_756.out _) hb); replace BK756 := Aside0.mk (blk_below (o := .cells #[.bool ((rd_T43 l0 x9_1).f0), .int .u64 ((rd_T43 l0 x9_1).f1), .int .u64 ((rd_T43 l0 x9_1).f2)] 43 (0, 0)) (blk_put (cs := #[.bool ((rd_T43 l0 x9_1).f0), .int .u64 ((rd_T43 l0 x9_1).f1), .int .u64 0]) (blk_put (cs := #[.bool ((rd_T43 l0 x9_1).f0), .int .u64 0, .int .u64 0]) (blk_put BK756.out 0 _ rfl) 1 _ rfl) 2 _ rfl) hb); replace HB := Aside0.mk (below_step (below_set (below_set (below_set HB.out GW756.out) GW756.out) GW756.out) hb); (try clear hb); have z18_0 : w17.cell? ⟨gb756, 0, none⟩ = some (.bool ((rd_T43 l0 x9_1).f0)) := (blk_cell BK756.out 0).trans rfl; have z18_1 : w17.cell? ⟨gb756, 1, none⟩ = some (.int .u64 ((rd_T43 l0 x9_1).f1)) := (blk_cell BK756.out 1).trans rfl; have z18_2 : w17.cell? ⟨gb756, 2, none⟩ = some (.int .u64 ((rd_T43 l0 x9_1).f2)) := (blk_cell BK756.out 2).trans rfl; have f18_0 := blk_frozen BK756.out 0; have f18_1 := blk_frozen BK756.out 1; have f18_2 := blk_frozen BK756.out 2))
       go_roundg k1
       case measure => have := HK1.out; omega
       case rel => exact ⟨(wrap64 (x9_1 + 1)), (x755000_1), (x755001_1), (x755002_1), zrl, H', ⟨by have := HK1.out; omega⟩, ⟨(zkf (zkf (zkf (zkq BK750) NB750_756.out _) NB750_756.out _) NB750_756.out _)⟩, ⟨(zkf (zkf (zkf (zkq BK754) NB754_756.out _) NB754_756.out _) NB754_756.out _)⟩, ⟨zaB⟩⟩
      replace c12 := Bool.eq_false_iff.mpr c12
      subst c12
      replace H := zif H
      by_cases c19 : x755000_1 = true
      ·subst c19
       replace H := zit H
       have H' := Aside0.mk H
       clear H
       have p755 : 0 ≤ (x9_1 : Int) := of_decide_eq_true (by first | (with_reducible assumption) | assumption)
       have q755 : x9_1 < (l0.length : Int) := of_decide_eq_true (by first | (with_reducible assumption) | assumption)
       obtain ⟨ad755, e755, hx755_0, hx755_1, hx755_2⟩ := at_T43 HR0.out x9_1 p755 q755
       cases e755
       replace hx755_0 := (HB.out.cell (World.block_lt_of_cell? w _ hx755_0)).trans hx755_0
       replace hx755_1 := (HB.out.cell (World.block_lt_of_cell? w _ hx755_1)).trans hx755_1
       replace hx755_2 := (HB.out.cell (World.block_lt_of_cell? w _ hx755_2)).trans hx755_2
       replace p755 := eq_true p755
       replace q755 := eq_true q755
       go_wp2_with (first | ((with_reducible refine gtd 5 rfl ?_); refine zbx 5 #[.bool false, .int .u64 0, .int .u64 0] 43 (h := ?_); intro gb756 hg w20 hbox hb; refine zbn2 HB BK750 BK754 hg hb hbox (c := ?_); clear HB BK750 BK754 hb hbox hg; intro GW756 NB750_756 NB754_756 BK750 BK754 HB BK756; refine zt2 NB750_756 NB754_756 fun _ _ _ _ => ?_; refine zu3 BK756 fun _ _ _ _ _ _ => ?_) | ((with_reducible refine gtc 112 rfl ?_); refine zgL 14 Try.func112 (span_norm.calls k1 ((rd_T43 l0 x9_1).f0) ((rd_T43 l0 x9_1).f1) ((rd_T43 l0 x9_1).f2) false t758 t759 _ A11.out) (h := ?_); rintro w24 hb; replace BK750 := Aside0.mk (blk_below (zkf (zkf (zkf BK750.out NB750_756.out _) NB750_756.out _) NB750_756.out _) hb); replace BK754 := Aside0.mk (blk_below (zkf (zkf (zkf BK754.out NB754_756.out _) NB754_756.out _) NB754_756.out _) hb); replace BK756 := Aside0.mk (blk_below (o := .cells #[.bool ((rd_T43 l0 x9_1).f0), .int .u64 ((rd_T43 l0 x9_1).f1), .int .u64 ((rd_T43 l0 x9_1).f2)] 43 (0, 0)) (blk_put (cs := #[.bool ((rd_T43 l0 x9_1).f0), .int .u64 ((rd_T43 l0 x9_1).f1), .int .u64 0]) (blk_put (cs := #[.bool ((rd_T43 l0 x9_1).f0), .int .u64 0, .int .u64 0]) (blk_put BK756.out 0 _ rfl) 1 _ rfl) 2 _ rfl) hb); replace HB := Aside0.mk (below_step (below_set (below_set (below_set HB.out GW756.out) GW756.out) GW756.out) hb); (try clear hb); have z25_0 : w24.cell? ⟨gb756, 0, none⟩ = some (.bool ((rd_T43 l0 x9_1).f0)) := (blk_cell BK756.out 0).trans rfl; have z25_1 : w24.cell? ⟨gb756, 1, none⟩ = some (.int .u64 ((rd_T43 l0 x9_1).f1)) := (blk_cell BK756.out 1).trans rfl; have z25_2 : w24.cell? ⟨gb756, 2, none⟩ = some (.int .u64 ((rd_T43 l0 x9_1).f2)) := (blk_cell BK756.out 2).trans rfl; have f25_0 := blk_frozen BK756.out 0; have f25_1 := blk_frozen BK756.out 1; have f25_2 := blk_frozen BK756.out 2; refine zt1 NB750_754 fun _ _ => ?_; refine zu3 BK754 fun _ _ _ _ _ _ => ?_))
       go_roundg k1
       case measure => have := HK1.out; omega
       case rel => exact ⟨(wrap64 (x9_1 + 1)), (false), (t758), (t759), zrl, H', ⟨by have := HK1.out; omega⟩, ⟨(zkf (zkf (zkf (zkf (zkf (zkf (zkq BK750) NB750_756.out _) NB750_756.out _) NB750_756.out _) NB750_754.out _) NB750_754.out _) NB750_754.out _)⟩, ⟨(blk_put (cs := #[.bool false, .int .u64 t758, .int .u64 x755002_1]) (blk_put (cs := #[.bool false, .int .u64 x755001_1, .int .u64 x755002_1]) (blk_put (zkf (zkf (zkf (zkq BK754) NB754_756.out _) NB754_756.out _) NB754_756.out _) 0 _ rfl) 1 _ rfl) 2 _ rfl)⟩, ⟨zaB⟩⟩
      replace c19 := Bool.eq_false_iff.mpr c19
      subst c19
      replace H := zif H
      obtain ⟨y760, hy760⟩ : ∃ y_ : List Int, y_ = (([x755001_1, t758] : List Int)) := ⟨_, rfl⟩
      replace H : ((pattern_Min.f k1 y760).bind fun t763 => ((pattern_Max.f k1 (([x755002_1, t759] : List Int))).bind fun t767 => ((span_Make.f k1 t763 t767).bind fun bt768 => (span_Join.l0 k1 l0 (l0.length : Int) (wrap64 (x9_1 + 1)) bt768.1 bt768.2.1 bt768.2.2)))) = some (r1, r2, r3) := by first | (rw [hy760]; with_reducible exact H) | (have H2_ := (Option.bind_some _ _).symm.trans H; rw [hy760]; with_reducible exact H2_) | (have H2_ := (Option.bind_some _ _).symm.trans H; with_reducible exact H2_) | with_reducible exact H | (rw [hy760]; exact H) | exact H
      have Ny760 := Aside0.mk hy760
      clear hy760
      obtain ⟨t763, A28, H⟩ := zbs H
      try dsimp only at H
      obtain ⟨y764, hy764⟩ : ∃ y_ : List Int, y_ = (([x755002_1, t759] : List Int)) := ⟨_, rfl⟩
      replace H : ((pattern_Max.f k1 y764).bind fun t767 => ((span_Make.f k1 t763 t767).bind fun bt768 => (span_Join.l0 k1 l0 (l0.length : Int) (wrap64 (x9_1 + 1)) bt768.1 bt768.2.1 bt768.2.2))) = some (r1, r2, r3) := by first | (rw [hy764]; with_reducible exact H) | (have H2_ := (Option.bind_some _ _).symm.trans H; rw [hy764]; with_reducible exact H2_) | (have H2_ := (Option.bind_some _ _).symm.trans H; with_reducible exact H2_) | with_reducible exact H | (rw [hy764]; exact H) | exact H
      have Ny764 := Aside0.mk hy764
      clear hy764
      obtain ⟨t767, A29, H⟩ := zbs H
      try dsimp only at H
      obtain ⟨⟨t768, t769, t770⟩, A30, H⟩ := zbs H
      try dsimp only at H
      have H' := Aside0.mk H
      clear H
      have p755 : 0 ≤ (x9_1 : Int) := of_decide_eq_true (by first | (with_reducible assumption) | assumption)
      have q755 : x9_1 < (l0.length : Int) := of_decide_eq_true (by first | (with_reducible assumption) | assumption)
      obtain ⟨ad755, e755, hx755_0, hx755_1, hx755_2⟩ := at_T43 HR0.out x9_1 p755 q755
      cases e755
      replace hx755_0 := (HB.out.cell (World.block_lt_of_cell? w _ hx755_0)).trans hx755_0
      replace hx755_1 := (HB.out.cell (World.block_lt_of_cell? w _ hx755_1)).trans hx755_1
      replace hx755_2 := (HB.out.cell (World.block_lt_of_cell? w _ hx755_2)).trans hx755_2
      replace p755 := eq_true p755
      replace q755 := eq_true q755
      try go_wp2_with (first | ((with_reducible refine gtd 5 rfl ?_); refine zbx 5 #[.bool false, .int .u64 0, .int .u64 0] 43 (h := ?_); intro gb756 hg w31 hbox hb; refine zbn2 HB BK750 BK754 hg hb hbox (c := ?_); clear HB BK750 BK754 hb hbox hg; intro GW756 NB750_756 NB754_756 BK750 BK754 HB BK756; refine zt2 NB750_756 NB754_756 fun _ _ _ _ => ?_; refine zu3 BK756 fun _ _ _ _ _ _ => ?_) | ((with_reducible refine gtc 112 rfl ?_); refine zgL 14 Try.func112 (span_norm.calls k1 ((rd_T43 l0 x9_1).f0) ((rd_T43 l0 x9_1).f1) ((rd_T43 l0 x9_1).f2) false t758 t759 _ A11.out) (h := ?_); rintro w35 hb; replace BK750 := Aside0.mk (blk_below (zkf (zkf (zkf BK750.out NB750_756.out _) NB750_756.out _) NB750_756.out _) hb); replace BK754 := Aside0.mk (blk_below (zkf (zkf (zkf BK754.out NB754_756.out _) NB754_756.out _) NB754_756.out _) hb); replace BK756 := Aside0.mk (blk_below (o := .cells #[.bool ((rd_T43 l0 x9_1).f0), .int .u64 ((rd_T43 l0 x9_1).f1), .int .u64 ((rd_T43 l0 x9_1).f2)] 43 (0, 0)) (blk_put (cs := #[.bool ((rd_T43 l0 x9_1).f0), .int .u64 ((rd_T43 l0 x9_1).f1), .int .u64 0]) (blk_put (cs := #[.bool ((rd_T43 l0 x9_1).f0), .int .u64 0, .int .u64 0]) (blk_put BK756.out 0 _ rfl) 1 _ rfl) 2 _ rfl) hb); replace HB := Aside0.mk (below_step (below_set (below_set (below_set HB.out GW756.out) GW756.out) GW756.out) hb); (try clear hb); have z36_0 : w35.cell? ⟨gb756, 0, none⟩ = some (.bool ((rd_T43 l0 x9_1).f0)) := (blk_cell BK756.out 0).trans rfl; have z36_1 : w35.cell? ⟨gb756, 1, none⟩ = some (.int .u64 ((rd_T43 l0 x9_1).f1)) := (blk_cell BK756.out 1).trans rfl; have z36_2 : w35.cell? ⟨gb756, 2, none⟩ = some (.int .u64 ((rd_T43 l0 x9_1).f2)) := (blk_cell BK756.out 2).trans rfl; have f36_0 := blk_frozen BK756.out 0; have f36_1 := blk_frozen BK756.out 1; have f36_2 := blk_frozen BK756.out 2; refine zt1 NB750_754 fun _ _ => ?_; refine zu3 BK754 fun _ _ _ _ _ _ => ?_))
      generalize hW_ : (((w35.setCell ⟨gb756, 0, none⟩ (.bool false)).setCell ⟨gb756, 1, none⟩ (.int .u64 t758)).setCell ⟨gb756, 2, none⟩ (.int .u64 t759)) = w39
      replace BK750 := zkg hW_ (zkf (zkf (zkf BK750.out NB750_756.out _) NB750_756.out _) NB750_756.out _)
      replace BK754 := zkg hW_ (zkf (zkf (zkf BK754.out NB754_756.out _) NB754_756.out _) NB754_756.out _)
      replace BK756 := zkg hW_ (ob := .cells #[.bool false, .int .u64 t758, .int .u64 t759] 43 (0, 0)) (blk_put (cs := #[.bool false, .int .u64 t758, .int .u64 ((rd_T43 l0 x9_1).f2)]) (blk_put (cs := #[.bool false, .int .u64 ((rd_T43 l0 x9_1).f1), .int .u64 ((rd_T43 l0 x9_1).f2)]) (blk_put BK756.out 0 _ rfl) 1 _ rfl) 2 _ rfl)
      replace HB := zkG hW_ (below_set (below_set (below_set HB.out GW756.out) GW756.out) GW756.out)
      clear hW_
      replace BK750 := Aside0.mk (blk_drew BK750.out)
      replace BK754 := Aside0.mk (blk_drew BK754.out)
      replace BK756 := Aside0.mk (blk_drew BK756.out)
      replace HB := Aside0.mk (below_drew1 HB.out)
      refine start_ (n := 14) (S := fun w' => w'.cell? ⟨gb754, 0, none⟩ = some (.bool false) ∧ w'.cell? ⟨gb754, 1, none⟩ = some (.int .u64 x755001_1) ∧ w'.cell? ⟨gb754, 2, none⟩ = some (.int .u64 x755002_1) ∧ w'.cell? ⟨gb756, 0, none⟩ = some (.bool false) ∧ w'.cell? ⟨gb756, 1, none⟩ = some (.int .u64 t758) ∧ w'.cell? ⟨gb756, 2, none⟩ = some (.int .u64 t759)) (ds := [13]) #[false, false, false, false, false, false, false, false, false, false, false, false, false, false] (by kernel_rfl) rfl rfl (zk3 BK754 (ze3 BK756)) (fun hHeld => ?_); refine with_tabW span_Join.tab6 span_Join.bits6 (fun HT_ HW_ => ?_)
      generalize w39.drew = w40 at BK750 BK754 BK756 HB hHeld ⊢
      refine zpA 0 15 (h := ?_)
      refine zpA 2 17 (h := ?_)
      refine zpA 6 21 (h := ?_)
      refine zpA 8 23 (h := ?_)
      refine ztA 1 16 (h := ?_)
      refine ztA 3 18 (h := ?_)
      refine ztA 7 22 (h := ?_)
      refine ztA 9 24 (h := ?_)
      refine join_ (σ := Value × Value) 3 #[true, true, true, true, true, true, true, true, true, true, true, false, false, false] (fun s_ => [(19, s_.1), (20, .int .u64 t763), (25, s_.2)]) (fun s_ w' => (w'.cell? ⟨gb754, 0, none⟩ = some (.bool false) ∧ w'.cell? ⟨gb754, 1, none⟩ = some (.int .u64 x755001_1) ∧ w'.cell? ⟨gb754, 2, none⟩ = some (.int .u64 x755002_1) ∧ w'.cell? ⟨gb756, 0, none⟩ = some (.bool false) ∧ w'.cell? ⟨gb756, 1, none⟩ = some (.int .u64 t758) ∧ w'.cell? ⟨gb756, 2, none⟩ = some (.int .u64 t759)) ∧ (Kd.R (Kd.int .u64) 23 w' w.heap.size (fun k_ => some k_ ≠ (s_.2 : Value).ownBlock) s_.1 y760) ∧ (Kd.R (Kd.int .u64) 23 w' w.heap.size (fun k_ => some k_ ≠ (s_.1 : Value).ownBlock) s_.2 y764) ∧ (w'.heap[gb750]? = some (.cells #[.bool false, .int .u64 0, .int .u64 0] 43 (0, 0))) ∧ (w'.heap[gb754]? = some (.cells #[.bool false, .int .u64 x755001_1, .int .u64 x755002_1] 43 (0, 0))) ∧ (w'.heap[gb756]? = some (.cells #[.bool false, .int .u64 t758, .int .u64 t759] 43 (0, 0))) ∧ (Below w.heap.size w w')) ?_ ?_
      rotate_left
      ·intro hCont
       refine two_ (i := 4) (j := 10) (Ni := some 19) (Nj := some 25) #[true, true, true, true, true, false, true, true, true, true, false, false, false, false] #[true, true, true, true, false, false, true, true, true, true, true, false, false, false] rfl rfl rfl rfl (two_of HT_.out (by kernel_rfl)) (by decide) (by decide) (fun K hK => ?_) (fun K hK => ?_)
       ·skip
        refine Kd.R_lit_step (Kd.int .u64) _ 23 ?hg (N := 19) ?hd (xs := ([x755001_1, t758] : List Int)) (inner := [.int .u64 x755001_1, .int .u64 t758]) (ok := fun _ => True) (okp := fun _ => True) ?hr ?hp (fun _ hk => hk) trivial (Below.refl _ _) (Nat.le_refl _) (by simp) ?_; (case hd => rfl); (case hg => rfl); (case hr => first | (go_simp; done) | (go_simp; rfl)); (case hp => exact (Reps.one (show Kd.M (Kd.int .u64) _ _ _ x755001_1 [.int .u64 x755001_1] from rfl) (Reps.one (show Kd.M (Kd.int .u64) _ _ _ t758 [.int .u64 t758] from rfl) (Reps.none _ _))))
        intro v761 w41 ho42 hb hg_ hnew_
        clear hg_ hnew_
        (first | rw [← Ny760.out] at ho42 | (simp only [Int.reduceToNat] at ho42; rw [← Ny760.out] at ho42))
        have HO762 := Aside0.mk (Kd.R_lower ho42 (below_size zaB))
        replace BK750 := zkb BK750 hb
        replace BK754 := zkb BK754 hb
        replace BK756 := zkb BK756 hb
        replace HB := zkB HB hb
        clear hb ho42
        obtain ⟨Ao43, co43, eo43⟩ := Kd.R_slice HO762.out
        (first | subst eo43 | (injection eo43 with f1_ f2_ f3_; have f4_ := f1_.symm; have f5_ := f3_.symm; clear f1_ f2_ f3_; subst f4_; subst f5_))
        refine hK.out _ _ (zk3 BK754 (ze3 BK756)) (fun hHeld => ?_)
        clear hK K
        refine znA 19 (h := ?_)
        refine two_ (i := 5) (j := 10) (Ni := some 20) (Nj := some 25) #[true, true, true, true, true, true, true, true, true, true, false, false, false, false] #[true, true, true, true, true, false, true, true, true, true, true, false, false, false] rfl rfl rfl rfl (two_of HT_.out (by kernel_rfl)) (by decide) (by decide) (fun K hK => ?_) (fun K hK => ?_)
        ·skip
         refine goes_ Try.func119 (by kernel_rfl) rfl #[.slice Ao43 y760.length co43] (by rfl) rfl rfl (by (try simp only [List.map_toArray, List.map_cons, List.map_nil]); first | done | rfl | (simp only [List.length_drop, List.length_take]; rfl)) ?_
         with_reducible refine (pattern_Min.calls k1 _ _ y760 t763 _ ?side1 ?side2 A28.out).mono ?_
         (case side1 => repeat (first | exact (Kd.R_reads' HO762.out).2.2 | (with_reducible refine Kd.C_alloc ?_ _) | (with_reducible refine Kd.C_drewN ?_ _) | (with_reducible refine Kd.C_drew ?_)))
         (case side2 => exact (Kd.R_reads' HO762.out).2.1)
         rintro e w44 ⟨rfl, hb⟩
         refine ⟨_, rfl, ?_⟩
         replace HO762 := Aside0.mk (Kd.R_below (zRW HO762.out) hb)
         refine zcn3 HB BK750 BK754 BK756 hb (c := ?_)
         clear HB BK750 BK754 BK756 hb
         intro BK750 BK754 BK756 HB
         refine hK.out _ _ (zk3 BK754 (ze3 BK756)) (fun hHeld => ?_)
         clear hK K
         refine znA 20 (h := ?_)
         refine zoA 10 25 (h := fun K hK => ?_)
         refine Kd.R_lit_step (Kd.int .u64) _ 23 ?hg (N := 25) ?hd (xs := ([x755002_1, t759] : List Int)) (inner := [.int .u64 x755002_1, .int .u64 t759]) (ok := fun _ => True) (okp := fun _ => True) ?hr ?hp (fun _ hk => hk) trivial (Below.refl _ _) (Nat.le_refl _) (by simp) ?_; (case hd => rfl); (case hg => rfl); (case hr => first | (go_simp; done) | (go_simp; rfl)); (case hp => exact (Reps.one (show Kd.M (Kd.int .u64) _ _ _ x755002_1 [.int .u64 x755002_1] from rfl) (Reps.one (show Kd.M (Kd.int .u64) _ _ _ t759 [.int .u64 t759] from rfl) (Reps.none _ _))))
         intro v765 w45 ho46 hb hg_ hnew_
         clear hg_ hnew_
         (first | rw [← Ny764.out] at ho46 | (simp only [Int.reduceToNat] at ho46; rw [← Ny764.out] at ho46))
         have HO766 := Aside0.mk (Kd.R_lower (Kd.R_new' ho46 (Kd.R_lt (zRW HO762.out))) (below_size zaB))
         replace HO762 := Aside0.mk (Kd.R_elder' (zRW HO762.out) (Kd.R_base ho46) hb)
         replace BK750 := zkb BK750 hb
         replace BK754 := zkb BK754 hb
         replace BK756 := zkb BK756 hb
         replace HB := zkB HB hb
         clear hb ho46
         refine hK.out _ _ (zk3 BK754 (ze3 BK756)) (fun hHeld => ?_)
         clear hK K
         refine znA 25 (h := ?_)
         exact norm_ (by simp only [putAll, Act.put, List.setIfInBounds_toArray, List.set_cons_zero, List.set_cons_succ]) (hCont (.slice Ao43 y760.length co43, v765) _ ⟨hHeld, (by (with_reducible repeat (first | apply Kd.R_alloc | apply Kd.R_drewN | apply Kd.R_drew)); exact Kd.R_mono HO762.out (fun _ hk => hk.2)), (by (with_reducible repeat (first | apply Kd.R_alloc | apply Kd.R_drewN | apply Kd.R_drew)); exact Kd.R_mono HO766.out (fun _ hk => hk.2)), (zkq BK750), (zkq BK754), (zkq BK756), zaB⟩)
        skip
        refine Kd.R_lit_step (Kd.int .u64) _ 23 ?hg (N := 25) ?hd (xs := ([x755002_1, t759] : List Int)) (inner := [.int .u64 x755002_1, .int .u64 t759]) (ok := fun _ => True) (okp := fun _ => True) ?hr ?hp (fun _ hk => hk) trivial (Below.refl _ _) (Nat.le_refl _) (by simp) ?_; (case hd => rfl); (case hg => rfl); (case hr => first | (go_simp; done) | (go_simp; rfl)); (case hp => exact (Reps.one (show Kd.M (Kd.int .u64) _ _ _ x755002_1 [.int .u64 x755002_1] from rfl) (Reps.one (show Kd.M (Kd.int .u64) _ _ _ t759 [.int .u64 t759] from rfl) (Reps.none _ _))))
        intro v765 w43 ho44 hb hg_ hnew_
        clear hg_ hnew_
        (first | rw [← Ny764.out] at ho44 | (simp only [Int.reduceToNat] at ho44; rw [← Ny764.out] at ho44))
        have HO766 := Aside0.mk (Kd.R_lower (Kd.R_new' ho44 (Kd.R_lt (zRW HO762.out))) (below_size zaB))
        replace HO762 := Aside0.mk (Kd.R_elder' (zRW HO762.out) (Kd.R_base ho44) hb)
        replace BK750 := zkb BK750 hb
        replace BK754 := zkb BK754 hb
        replace BK756 := zkb BK756 hb
        replace HB := zkB HB hb
        clear hb ho44
        obtain ⟨Ao45, co45, eo45⟩ := Kd.R_slice HO762.out
        (first | subst eo45 | (injection eo45 with f1_ f2_ f3_; have f4_ := f1_.symm; have f5_ := f3_.symm; clear f1_ f2_ f3_; subst f4_; subst f5_))
        refine hK.out _ _ (zk3 BK754 (ze3 BK756)) (fun hHeld => ?_)
        clear hK K
        refine znA 25 (h := ?_)
        refine zoA 5 20 (h := fun K hK => ?_)
        refine goes_ Try.func119 (by kernel_rfl) rfl #[.slice Ao45 y760.length co45] (by rfl) rfl rfl (by (try simp only [List.map_toArray, List.map_cons, List.map_nil]); first | done | rfl | (simp only [List.length_drop, List.length_take]; rfl)) ?_
        with_reducible refine (pattern_Min.calls k1 _ _ y760 t763 _ ?side1 ?side2 A28.out).mono ?_
        (case side1 => repeat (first | exact (Kd.R_reads' HO762.out).2.2 | (with_reducible refine Kd.C_alloc ?_ _) | (with_reducible refine Kd.C_drewN ?_ _) | (with_reducible refine Kd.C_drew ?_)))
        (case side2 => exact (Kd.R_reads' HO762.out).2.1)
        rintro e w46 ⟨rfl, hb⟩
        refine ⟨_, rfl, ?_⟩
        replace HO762 := Aside0.mk (Kd.R_below (zRW HO762.out) hb)
        replace HO766 := Aside0.mk (Kd.R_below (zRW HO766.out) hb)
        refine zcn3 HB BK750 BK754 BK756 hb (c := ?_)
        clear HB BK750 BK754 BK756 hb
        intro BK750 BK754 BK756 HB
        refine hK.out _ _ (zk3 BK754 (ze3 BK756)) (fun hHeld => ?_)
        clear hK K
        refine znA 20 (h := ?_)
        exact norm_ (by simp only [putAll, Act.put, List.setIfInBounds_toArray, List.set_cons_zero, List.set_cons_succ]) (hCont (.slice Ao45 y760.length co45, v765) _ ⟨hHeld, (by (with_reducible repeat (first | apply Kd.R_alloc | apply Kd.R_drewN | apply Kd.R_drew)); exact Kd.R_mono HO762.out (fun _ hk => hk.2)), (by (with_reducible repeat (first | apply Kd.R_alloc | apply Kd.R_drewN | apply Kd.R_drew)); exact Kd.R_mono HO766.out (fun _ hk => hk.2)), (zkq BK750), (zkq BK754), (zkq BK756), zaB⟩)
       skip
       refine Kd.R_lit_step (Kd.int .u64) _ 23 ?hg (N := 25) ?hd (xs := ([x755002_1, t759] : List Int)) (inner := [.int .u64 x755002_1, .int .u64 t759]) (ok := fun _ => True) (okp := fun _ => True) ?hr ?hp (fun _ hk => hk) trivial (Below.refl _ _) (Nat.le_refl _) (by simp) ?_; (case hd => rfl); (case hg => rfl); (case hr => first | (go_simp; done) | (go_simp; rfl)); (case hp => exact (Reps.one (show Kd.M (Kd.int .u64) _ _ _ x755002_1 [.int .u64 x755002_1] from rfl) (Reps.one (show Kd.M (Kd.int .u64) _ _ _ t759 [.int .u64 t759] from rfl) (Reps.none _ _))))
       intro v765 w41 ho42 hb hg_ hnew_
       clear hg_ hnew_
       (first | rw [← Ny764.out] at ho42 | (simp only [Int.reduceToNat] at ho42; rw [← Ny764.out] at ho42))
       have HO766 := Aside0.mk (Kd.R_lower ho42 (below_size zaB))
       replace BK750 := zkb BK750 hb
       replace BK754 := zkb BK754 hb
       replace BK756 := zkb BK756 hb
       replace HB := zkB HB hb
       clear hb ho42
       refine hK.out _ _ (zk3 BK754 (ze3 BK756)) (fun hHeld => ?_)
       clear hK K
       refine znA 25 (h := ?_)
       refine zoA 4 19 (h := fun K hK => ?_)
       refine Kd.R_lit_step (Kd.int .u64) _ 23 ?hg (N := 19) ?hd (xs := ([x755001_1, t758] : List Int)) (inner := [.int .u64 x755001_1, .int .u64 t758]) (ok := fun _ => True) (okp := fun _ => True) ?hr ?hp (fun _ hk => hk) trivial (Below.refl _ _) (Nat.le_refl _) (by simp) ?_; (case hd => rfl); (case hg => rfl); (case hr => first | (go_simp; done) | (go_simp; rfl)); (case hp => exact (Reps.one (show Kd.M (Kd.int .u64) _ _ _ x755001_1 [.int .u64 x755001_1] from rfl) (Reps.one (show Kd.M (Kd.int .u64) _ _ _ t758 [.int .u64 t758] from rfl) (Reps.none _ _))))
       intro v761 w43 ho44 hb hg_ hnew_
       clear hg_ hnew_
       (first | rw [← Ny760.out] at ho44 | (simp only [Int.reduceToNat] at ho44; rw [← Ny760.out] at ho44))
       have HO762 := Aside0.mk (Kd.R_lower (Kd.R_new' ho44 (Kd.R_lt (zRW HO766.out))) (below_size zaB))
       replace HO766 := Aside0.mk (Kd.R_elder' (zRW HO766.out) (Kd.R_base ho44) hb)
       replace BK750 := zkb BK750 hb
       replace BK754 := zkb BK754 hb
       replace BK756 := zkb BK756 hb
       replace HB := zkB HB hb
       clear hb ho44
       obtain ⟨Ao45, co45, eo45⟩ := Kd.R_slice HO762.out
       (first | subst eo45 | (injection eo45 with f1_ f2_ f3_; have f4_ := f1_.symm; have f5_ := f3_.symm; clear f1_ f2_ f3_; subst f4_; subst f5_))
       refine hK.out _ _ (zk3 BK754 (ze3 BK756)) (fun hHeld => ?_)
       clear hK K
       refine znA 19 (h := ?_)
       refine zoA 5 20 (h := fun K hK => ?_)
       refine goes_ Try.func119 (by kernel_rfl) rfl #[.slice Ao45 y760.length co45] (by rfl) rfl rfl (by (try simp only [List.map_toArray, List.map_cons, List.map_nil]); first | done | rfl | (simp only [List.length_drop, List.length_take]; rfl)) ?_
       with_reducible refine (pattern_Min.calls k1 _ _ y760 t763 _ ?side1 ?side2 A28.out).mono ?_
       (case side1 => repeat (first | exact (Kd.R_reads' HO762.out).2.2 | (with_reducible refine Kd.C_alloc ?_ _) | (with_reducible refine Kd.C_drewN ?_ _) | (with_reducible refine Kd.C_drew ?_)))
       (case side2 => exact (Kd.R_reads' HO762.out).2.1)
       rintro e w46 ⟨rfl, hb⟩
       refine ⟨_, rfl, ?_⟩
       replace HO766 := Aside0.mk (Kd.R_below (zRW HO766.out) hb)
       replace HO762 := Aside0.mk (Kd.R_below (zRW HO762.out) hb)
       refine zcn3 HB BK750 BK754 BK756 hb (c := ?_)
       clear HB BK750 BK754 BK756 hb
       intro BK750 BK754 BK756 HB
       refine hK.out _ _ (zk3 BK754 (ze3 BK756)) (fun hHeld => ?_)
       clear hK K
       refine znA 20 (h := ?_)
       exact norm_ (by simp only [putAll, Act.put, List.setIfInBounds_toArray, List.set_cons_zero, List.set_cons_succ]) (hCont (.slice Ao45 y760.length co45, v765) _ ⟨hHeld, (by (with_reducible repeat (first | apply Kd.R_alloc | apply Kd.R_drewN | apply Kd.R_drew)); exact Kd.R_mono HO762.out (fun _ hk => hk.2)), (by (with_reducible repeat (first | apply Kd.R_alloc | apply Kd.R_drewN | apply Kd.R_drew)); exact Kd.R_mono HO766.out (fun _ hk => hk.2)), (zkq BK750), (zkq BK754), (zkq BK756), zaB⟩)
      rintro ⟨v761, v765⟩ w47 ⟨hS_, h0_, h1_, h2_, h3_, h4_, h5_⟩
      have n0_ : Aside0 (Kd.R (Kd.int .u64) 23 w47 w.heap.size (fun k_ => some k_ ≠ (v765 : Value).ownBlock) v761 y760) := ⟨h0_⟩
      have n1_ : Aside0 (Kd.R (Kd.int .u64) 23 w47 w.heap.size (fun k_ => some k_ ≠ (v761 : Value).ownBlock) v765 y764) := ⟨h1_⟩
      have n2_ : Aside0 (w47.heap[gb750]? = some (.cells #[.bool false, .int .u64 0, .int .u64 0] 43 (0, 0))) := ⟨h2_⟩
      have n3_ : Aside0 (w47.heap[gb754]? = some (.cells #[.bool false, .int .u64 x755001_1, .int .u64 x755002_1] 43 (0, 0))) := ⟨h3_⟩
      have n4_ : Aside0 (w47.heap[gb756]? = some (.cells #[.bool false, .int .u64 t758, .int .u64 t759] 43 (0, 0))) := ⟨h4_⟩
      have n5_ : Aside0 (Below w.heap.size w w47) := ⟨h5_⟩
      clear BK750
      clear BK754
      clear BK756
      clear HB
      clear h0_ h1_ h2_ h3_ h4_ h5_
      have HO762 := n0_
      have HO766 := n1_
      have BK750 := n2_
      have BK754 := n3_
      have BK756 := n4_
      have HB := n5_
      clear n0_ n1_ n2_ n3_ n4_ n5_
      have hHeld : w47.cell? ⟨gb754, 0, none⟩ = some (.bool false) ∧ w47.cell? ⟨gb754, 1, none⟩ = some (.int .u64 x755001_1) ∧ w47.cell? ⟨gb754, 2, none⟩ = some (.int .u64 x755002_1) ∧ w47.cell? ⟨gb756, 0, none⟩ = some (.bool false) ∧ w47.cell? ⟨gb756, 1, none⟩ = some (.int .u64 t758) ∧ w47.cell? ⟨gb756, 2, none⟩ = some (.int .u64 t759) := hS_
      obtain ⟨Ao48, co48, eo48⟩ := Kd.R_slice HO766.out
      (first | subst eo48 | (injection eo48 with f1_ f2_ f3_; have f4_ := f1_.symm; have f5_ := f3_.symm; clear f1_ f2_ f3_; subst f4_; subst f5_))
      refine norm_ (a' := ?_) ?_ ?_
      rotate_left
      ·simp only [putAll, Act.put, List.setIfInBounds_toArray, List.set_cons_zero, List.set_cons_succ]
       rfl
      refine zoA 11 26 (h := fun K hK => ?_)
      refine goes_ Try.func120 (by kernel_rfl) rfl #[.slice Ao48 y764.length co48] (by rfl) rfl rfl (by (try simp only [List.map_toArray, List.map_cons, List.map_nil]); first | done | rfl | (simp only [List.length_drop, List.length_take]; rfl)) ?_
      with_reducible refine (pattern_Max.calls k1 _ _ y764 t767 _ ?side1 ?side2 A29.out).mono ?_
      (case side1 => repeat (first | exact (Kd.R_reads' HO766.out).2.2 | (with_reducible refine Kd.C_alloc ?_ _) | (with_reducible refine Kd.C_drewN ?_ _) | (with_reducible refine Kd.C_drew ?_)))
      (case side2 => exact (Kd.R_reads' HO766.out).2.1)
      rintro e w49 ⟨rfl, hb⟩
      refine ⟨_, rfl, ?_⟩
      replace HO762 := Aside0.mk (Kd.R_below (zRW HO762.out) hb)
      replace HO766 := Aside0.mk (Kd.R_below (zRW HO766.out) hb)
      refine zcn3 HB BK750 BK754 BK756 hb (c := ?_)
      clear HB BK750 BK754 BK756 hb
      intro BK750 BK754 BK756 HB
      refine hK.out _ _ (zk3 BK754 (ze3 BK756)) (fun hHeld => ?_)
      clear hK K
      refine znA 26 (h := ?_)
      refine zoA 12 27 (h := fun K hK => ?_)
      refine zgA Try.func37 (span_Make.calls k1 t763 t767 t768 t769 t770 _ A30.out) (h := ?_)
      rintro w50 hb
      replace HO762 := Aside0.mk (Kd.R_below (zRW HO762.out) hb)
      replace HO766 := Aside0.mk (Kd.R_below (zRW HO766.out) hb)
      refine zcn3 HB BK750 BK754 BK756 hb (c := ?_)
      clear HB BK750 BK754 BK756 hb
      intro BK750 BK754 BK756 HB
      refine hK.out _ _ (zk3 BK754 (ze3 BK756)) (fun hHeld => ?_)
      clear hK K
      refine znA 27 (h := ?_)
      refine last_ (i := 13) (N := none) #[true, true, true, true, true, true, true, true, true, true, true, true, true, true] rfl rfl (one_of HT_.out (by kernel_rfl)) (by decide) (fun K hK => ?_)
      have hs51 := zc0 BK754
      have hfs51 := blk_frozen BK754.out 0
      refine zt2 NB750_754 NB754_756 fun _ _ _ _ => ?_
      have hs52 := zc1 BK754
      have hfs52 := blk_frozen BK754.out 1
      refine zt2 NB750_754 NB754_756 fun _ _ _ _ => ?_
      have hs53 := zc2 BK754
      have hfs53 := blk_frozen BK754.out 2
      refine zt2 NB750_754 NB754_756 fun _ _ _ _ => ?_
      refine skip_ (w1 := ?_) (by rfl) rfl ?_ ?_
      rotate_left
      ·go_simp
       rfl
      refine hK.out _ _ ?_
      clear hK K
      refine done_ (done_of HT_.out (by kernel_rfl)) ?_
      try go_wp2
      go_roundg k1
      case measure => have := HK1.out; omega
      case rel => exact ⟨(wrap64 (x9_1 + 1)), (t768), (t769), (t770), zrl, H', ⟨by have := HK1.out; omega⟩, ⟨(zkf (zkf (zkf (zkq BK750) NB750_754.out _) NB750_754.out _) NB750_754.out _)⟩, ⟨(blk_put (cs := #[.bool t768, .int .u64 t769, .int .u64 x755002_1]) (blk_put (cs := #[.bool t768, .int .u64 x755001_1, .int .u64 x755002_1]) (blk_put (zkq BK754) 0 _ rfl) 1 _ rfl) 2 _ rfl)⟩, ⟨zaB⟩⟩
     rw [if_neg c10] at H
     exact absurd H (by simp)
    rw [if_neg c9] at H
    exact absurd H (by simp)
   rw [if_neg c8] at H
   have c8b0 : decide (x9_1 < (l0.length : Int)) = false := decide_eq_false c8
   clear c8
   simp only [Option.some.injEq, Prod.mk.injEq] at H
   obtain ⟨rfl, rfl, rfl⟩ := H
   refine zt1 NB750_754 fun _ _ => ?_
   refine zu3 BK754 fun _ _ _ _ _ _ => ?_
   refine zu3 BK750 fun _ _ _ _ _ _ => ?_
   go_wp2
   refine bodyPost_ret (results_cell_row rfl _ _ gb750 43 #[.bool x755000_1, .int .u64 x755001_1, .int .u64 x755002_1] (0, 0) _ rfl (blk_put (cs := #[.bool x755000_1, .int .u64 x755001_1, .int .u64 0]) (blk_put (cs := #[.bool x755000_1, .int .u64 0, .int .u64 0]) (blk_put (zkq BK750) 0 _ rfl) 1 _ rfl) 2 _ rfl) Try.underlying43 rfl (by kernel_rfl)) rfl ?_
   exact ⟨zaE, zaB⟩
theorem pattern_Neg.calls (k : Nat) (a0 : Int) (r : Int) (w : World) (h : pattern_Neg.f k a0 = some r) :
  Calls Try.prog 32 #[.int .u64 a0] w fun e w' => e = .returned (.int .u64 r) ∧ Drawn0 w w' := by
 have H := h
 unfold pattern_Neg.f at H
 clear h
 obtain ⟨t225, A2, H⟩ := zbs H
 try dsimp only at H
 by_cases c3 : t225 = true
 ·subst c3
  replace H := zit H
  obtain rfl := Option.some.inj H
  go_enter Try.func32, Try.ntmps32
  go_wp2_with (first | ((with_reducible refine gtc 109 rfl ?_); refine zgL 4 Try.func109 (pattern_nan.calls k a0 true _ A2.out) (h := ?_); rintro w' ⟨nd, rfl⟩))
  go_ret
  exact ⟨by first | rfl | (simp; done) | (simp [*]; done), by repeat (first | exact Drawn0.refl _ | apply Drawn0.step)⟩
 replace c3 := Bool.eq_false_iff.mpr c3
 subst c3
 replace H := zif H
 obtain rfl := Option.some.inj H
 go_enter Try.func32, Try.ntmps32
 go_wp2_with (first | ((with_reducible refine gtc 109 rfl ?_); refine zgL 4 Try.func109 (pattern_nan.calls k a0 false _ A2.out) (h := ?_); rintro w' ⟨nd, rfl⟩))
 go_ret
 exact ⟨by first | rfl | (simp; done) | (simp [*]; done), by repeat (first | exact Drawn0.refl _ | apply Drawn0.step)⟩
def span_Neg.T4 : Bool × List (List Nat × List Nat) := (true, [([], []), ([0], [0]), ([1], [1]), ([], []), ([3], [3]), ([4, 2], [4]), ([2, 5, 5], [2, 5]), ([6, 6, 0, 1, 2, 3, 4, 5, 6], [6])])
def span_Neg.B4 : List Nat := [0, 1, 3, 0, 8, 31, 63, 127]
theorem span_Neg.tab4 : rtab .any (opsOf Try.f111 4) = span_Neg.T4 := by kernel_rfl
theorem span_Neg.bits4 : waitsOk span_Neg.T4.2 span_Neg.B4 = true := by kernel_rfl
theorem span_Neg.calls (k : Nat) (a0_0 : Bool) (a0_1 : Int) (a0_2 : Int) (r1 : Bool) (r2 : Int) (r3 : Int) (w : World) (h : span_Neg.f k a0_0 a0_1 a0_2 = some (r1, r2, r3)) :
  Calls Try.prog 111 #[.agg #[.bool a0_0, .int .u64 a0_1, .int .u64 a0_2]] w fun e w' => e = .returned (.agg #[.bool r1, .int .u64 r2, .int .u64 r3]) ∧ Below w.heap.size w w' := by
 have hu43 := Try.underlying43
 have HB := Aside0.mk (Below.refl w.heap.size w)
 have H := h
 unfold span_Neg.f at H
 clear h
 obtain ⟨⟨t796, t797, t798⟩, A2, H⟩ := zbs H
 try dsimp only at H
 by_cases c3 : t796 = true
 ·subst c3
  replace H := zit H
  simp only [Option.some.injEq, Prod.mk.injEq] at H
  obtain ⟨rfl, rfl, rfl⟩ := H
  go_enter Try.func111, Try.ntmps111
  go_wp2_with (first | ((with_reducible refine gtd 1 rfl ?_); refine zbx 1 #[.bool a0_0, .int .u64 a0_1, .int .u64 a0_2] 43 (h := ?_); intro gb794 hg w4 hbox hb; have GW794 := zkZ hg (zaB (p := Below w.heap.size w _)); replace HB := Aside0.mk (below_step zaB hb); have BK794 := Aside0.mk (hbox); clear hb hbox hg) | ((with_reducible refine gtd 2 rfl ?_); refine zbx 2 #[.bool false, .int .u64 0, .int .u64 0] 43 (h := ?_); intro gb795 hg w5 hbox hb; refine zbn1 HB BK794 hg hb hbox (c := ?_); clear HB BK794 hb hbox hg; intro GW795 NB794_795 BK794 HB BK795; refine zt1 NB794_795 fun _ _ => ?_; refine zu3 BK794 fun _ _ _ _ _ _ => ?_) | ((with_reducible refine gtc 112 rfl ?_); refine zgL 4 Try.func112 (span_norm.calls k a0_0 a0_1 a0_2 true t797 t798 _ A2.out) (h := ?_); rintro w8 hb; refine zcn2 HB BK794 BK795 hb (c := ?_); clear HB BK794 BK795 hb; intro BK794 BK795 HB; refine zu3 BK794 fun _ _ _ _ _ _ => ?_; refine zu3 BK795 fun _ _ _ _ _ _ => ?_))
  refine bodyPost_ret (results_cell_row rfl _ _ gb795 43 #[.bool true, .int .u64 t797, .int .u64 t798] (0, 0) _ rfl (blk_put (cs := #[.bool true, .int .u64 t797, .int .u64 0]) (blk_put (cs := #[.bool true, .int .u64 0, .int .u64 0]) (blk_put (zkf (zkf (zkf (zkq BK795) (zks NB794_795).out _) (zks NB794_795).out _) (zks NB794_795).out _) 0 _ rfl) 1 _ rfl) 2 _ rfl) Try.underlying43 rfl (by kernel_rfl)) rfl ?_
  exact ⟨zaE, zaB⟩
 replace c3 := Bool.eq_false_iff.mpr c3
 subst c3
 replace H := zif H
 obtain ⟨t799, A11, H⟩ := zbs H
 try dsimp only at H
 obtain ⟨t800, A12, H⟩ := zbs H
 try dsimp only at H
 obtain ⟨⟨t801, t802, t803⟩, A13, H⟩ := zbs H
 try dsimp only at H
 simp only [Option.some.injEq, Prod.mk.injEq] at H
 obtain ⟨rfl, rfl, rfl⟩ := H
 go_enter Try.func111, Try.ntmps111
 try go_wp2_with (first | ((with_reducible refine gtd 1 rfl ?_); refine zbx 1 #[.bool a0_0, .int .u64 a0_1, .int .u64 a0_2] 43 (h := ?_); intro gb794 hg w14 hbox hb; have GW794 := zkZ hg (zaB (p := Below w.heap.size w _)); replace HB := Aside0.mk (below_step zaB hb); have BK794 := Aside0.mk (hbox); clear hb hbox hg) | ((with_reducible refine gtd 2 rfl ?_); refine zbx 2 #[.bool false, .int .u64 0, .int .u64 0] 43 (h := ?_); intro gb795 hg w15 hbox hb; refine zbn1 HB BK794 hg hb hbox (c := ?_); clear HB BK794 hb hbox hg; intro GW795 NB794_795 BK794 HB BK795; refine zt1 NB794_795 fun _ _ => ?_; refine zu3 BK794 fun _ _ _ _ _ _ => ?_) | ((with_reducible refine gtc 112 rfl ?_); refine zgL 4 Try.func112 (span_norm.calls k a0_0 a0_1 a0_2 false t797 t798 _ A2.out) (h := ?_); rintro w18 hb; refine zcn2 HB BK794 BK795 hb (c := ?_); clear HB BK794 BK795 hb; intro BK794 BK795 HB; refine zu3 BK794 fun _ _ _ _ _ _ => ?_))
 generalize hW_ : (((w18.setCell ⟨gb794, 0, none⟩ (.bool false)).setCell ⟨gb794, 1, none⟩ (.int .u64 t797)).setCell ⟨gb794, 2, none⟩ (.int .u64 t798)) = w20
 replace BK794 := zkg hW_ (ob := .cells #[.bool false, .int .u64 t797, .int .u64 t798] 43 (0, 0)) (blk_put (cs := #[.bool false, .int .u64 t797, .int .u64 a0_2]) (blk_put (cs := #[.bool false, .int .u64 a0_1, .int .u64 a0_2]) (blk_put BK794.out 0 _ rfl) 1 _ rfl) 2 _ rfl)
 replace BK795 := zkg hW_ (zkf (zkf (zkf BK795.out (zks NB794_795).out _) (zks NB794_795).out _) (zks NB794_795).out _)
 replace HB := zkG hW_ (below_set (below_set (below_set HB.out GW794.out) GW794.out) GW794.out)
 clear hW_
 replace BK794 := Aside0.mk (blk_drew BK794.out)
 replace BK795 := Aside0.mk (blk_drew BK795.out)
 replace HB := Aside0.mk (below_drew1 HB.out)
 refine start_ (n := 8) (S := fun w' => w'.cell? ⟨gb794, 0, none⟩ = some (.bool false) ∧ w'.cell? ⟨gb794, 1, none⟩ = some (.int .u64 t797) ∧ w'.cell? ⟨gb794, 2, none⟩ = some (.int .u64 t798)) (ds := []) #[false, false, false, false, false, false, false, false] (by kernel_rfl) rfl rfl (ze3 BK794) (fun hHeld => ?_); refine with_tabW span_Neg.tab4 span_Neg.bits4 (fun HT_ HW_ => ?_)
 generalize w20.drew = w21 at BK794 BK795 HB hHeld ⊢
 refine zpA 0 8 (h := ?_)
 refine zpA 3 11 (h := ?_)
 refine ztA 1 9 (h := ?_)
 refine ztA 4 12 (h := ?_)
 refine zoA 2 10 (h := fun K hK => ?_)
 refine zgA Try.func32 (pattern_Neg.calls k t798 t799 _ A11.out) (h := ?_)
 rintro w' ⟨nd, rfl⟩
 refine hK.out _ _ (ze3 BK794) (fun hHeld => ?_)
 clear hK K
 refine znA 10 (h := ?_)
 refine zoA 5 13 (h := fun K hK => ?_)
 refine zgA Try.func32 (pattern_Neg.calls k t797 t800 _ A12.out) (h := ?_)
 rintro w' ⟨nd, rfl⟩
 refine hK.out _ _ (ze3 BK794) (fun hHeld => ?_)
 clear hK K
 refine znA 13 (h := ?_)
 refine zoA 6 14 (h := fun K hK => ?_)
 refine zgA Try.func37 (span_Make.calls k t799 t800 t801 t802 t803 _ A13.out) (h := ?_)
 rintro w22 hb
 refine zcn2 HB BK794 BK795 hb (c := ?_)
 clear HB BK794 BK795 hb
 intro BK794 BK795 HB
 refine hK.out _ _ (ze3 BK794) (fun hHeld => ?_)
 clear hK K
 refine znA 14 (h := ?_)
 refine one_ (i := 7) (N := none) #[true, true, true, true, true, true, true, true] rfl rfl (one_of HT_.out (by kernel_rfl)) (by decide) (fun K hK => ?_)
 have hs23 := zc0 BK795
 have hfs23 := blk_frozen BK795.out 0
 refine zt1 NB794_795 fun _ _ => ?_
 have hs24 := zc1 BK795
 have hfs24 := blk_frozen BK795.out 1
 refine zt1 NB794_795 fun _ _ => ?_
 have hs25 := zc2 BK795
 have hfs25 := blk_frozen BK795.out 2
 refine zt1 NB794_795 fun _ _ => ?_
 refine skip_ (w1 := ?_) (by rfl) rfl ?_ ?_
 rotate_left
 ·go_simp
  rfl
 refine hK.out _ _ ⟨(zff NB794_795 (zff NB794_795 (zff NB794_795 hHeld.1))), (zff NB794_795 (zff NB794_795 (zff NB794_795 hHeld.2.1))), (zff NB794_795 (zff NB794_795 (zff NB794_795 hHeld.2.2)))⟩ (fun hHeld => ?_)
 clear hK K
 refine done_ (done_of HT_.out (by kernel_rfl)) ?_
 try go_wp2
 refine bodyPost_ret (results_cell_row rfl _ _ gb795 43 #[.bool t801, .int .u64 t802, .int .u64 t803] (0, 0) _ rfl (blk_put (cs := #[.bool t801, .int .u64 t802, .int .u64 0]) (blk_put (cs := #[.bool t801, .int .u64 0, .int .u64 0]) (blk_put (zkq BK795) 0 _ rfl) 1 _ rfl) 2 _ rfl) Try.underlying43 rfl (by kernel_rfl)) rfl ?_
 exact ⟨zaE, zaB⟩
def span_Abs.T7 : Bool × List (List Nat × List Nat) := (true, [([], []), ([0], [0]), ([1], [1]), ([], []), ([3], [3]), ([2, 4], [2, 4]), ([5, 2], [5]), ([6, 6], [6]), ([7, 7, 0, 1, 2, 3, 4, 5, 6, 7], [7])])
def span_Abs.B7 : List Nat := [0, 1, 3, 0, 8, 31, 63, 127, 255]
theorem span_Abs.tab7 : rtab .any (opsOf Try.f69 7) = span_Abs.T7 := by kernel_rfl
theorem span_Abs.bits7 : waitsOk span_Abs.T7.2 span_Abs.B7 = true := by kernel_rfl
theorem span_Abs.calls (k : Nat) (a0_0 : Bool) (a0_1 : Int) (a0_2 : Int) (r1 : Bool) (r2 : Int) (r3 : Int) (w : World) (h : span_Abs.f k a0_0 a0_1 a0_2 = some (r1, r2, r3)) :
  Calls Try.prog 69 #[.agg #[.bool a0_0, .int .u64 a0_1, .int .u64 a0_2]] w fun e w' => e = .returned (.agg #[.bool r1, .int .u64 r2, .int .u64 r3]) ∧ Below w.heap.size w w' := by
 have hu43 := Try.underlying43
 have HB := Aside0.mk (Below.refl w.heap.size w)
 have H := h
 unfold span_Abs.f at H
 clear h
 obtain ⟨⟨t806, t807, t808⟩, A2, H⟩ := zbs H
 try dsimp only at H
 have HC3 := Aside0.mk H
 clear H
 go_enter Try.func69, Try.ntmps69
 go_upto_if 5 with (first | ((with_reducible refine gtd 1 rfl ?_); refine zbx 1 #[.bool a0_0, .int .u64 a0_1, .int .u64 a0_2] 43 (h := ?_); intro gb804 hg w4 hbox hb; have GW804 := zkZ hg (zaB (p := Below w.heap.size w _)); replace HB := Aside0.mk (below_step zaB hb); have BK804 := Aside0.mk (hbox); clear hb hbox hg) | ((with_reducible refine gtd 2 rfl ?_); refine zbx 2 #[.bool false, .int .u64 0, .int .u64 0] 43 (h := ?_); intro gb805 hg w5 hbox hb; refine zbn1 HB BK804 hg hb hbox (c := ?_); clear HB BK804 hb hbox hg; intro GW805 NB804_805 BK804 HB BK805; refine zt1 NB804_805 fun _ _ => ?_; refine zu3 BK804 fun z7_0 z7_1 z7_2 f7_0 f7_1 f7_2 => ?_) | ((with_reducible refine gtc 112 rfl ?_); refine zgL 4 Try.func112 (span_norm.calls k a0_0 a0_1 a0_2 t806 t807 t808 _ A2.out) (h := ?_); rintro w8 hb; refine zcn2 HB BK804 BK805 hb (c := ?_); clear HB BK804 BK805 hb; intro BK804 BK805 HB; refine zu3 BK804 fun z9_0 z9_1 z9_2 f9_0 f9_1 f9_2 => ?_))
 (try simp only [Act.put, List.setIfInBounds_toArray, List.set_cons_zero, List.set_cons_succ])
 go_cut [5] (fun v5 wc => ∃ (kq : Nat) (x5_2 : Bool), v5 = .bool x5_2 ∧ Aside0 (span_Abs.j0 kq x5_2 t806 t807 t808 = some (r1, r2, r3)) ∧ Aside0 (kq ≤ k) ∧ Aside0 (wc.heap[gb804]? = some (.cells #[.bool t806, .int .u64 t807, .int .u64 t808] 43 (0, 0))) ∧ Aside0 (wc.heap[gb805]? = some (.cells #[.bool false, .int .u64 0, .int .u64 0] 43 (0, 0))) ∧ Aside0 (Below w.heap.size w wc))
 case first =>
  have H := HC3.out
  clear HC3
  by_cases c10 : t806 = true
  ·subst c10
   replace H := zit H
   have H' := Aside0.mk H
   clear H
   go_wp2
   go_meet
   case rel => exact ⟨_, (true), zrl, H', ⟨zle⟩, ⟨(blk_put (cs := #[.bool true, .int .u64 t807, .int .u64 a0_2]) (blk_put (cs := #[.bool true, .int .u64 a0_1, .int .u64 a0_2]) (blk_put (zkq BK804) 0 _ rfl) 1 _ rfl) 2 _ rfl)⟩, ⟨(zkf (zkf (zkf (zkq BK805) (zks NB804_805).out _) (zks NB804_805).out _) (zks NB804_805).out _)⟩, ⟨zaB⟩⟩
  replace c10 := Bool.eq_false_iff.mpr c10
  subst c10
  replace H := zif H
  obtain ⟨t809, A11, H⟩ := zbs H
  try dsimp only at H
  have H' := Aside0.mk H
  clear H
  refine zt1 NB804_805 fun _ _ => ?_
  refine zu3 BK804 fun z13_0 z13_1 z13_2 f13_0 f13_1 f13_2 => ?_
  go_wp2_with (first | ((with_reducible refine gtc 117 rfl ?_); refine zgL 10 Try.func117 (span_atMost.calls k 0 t807 t809 _ A11.out) (h := ?_); rintro w' ⟨nd, rfl⟩))
  go_meet
  case rel => exact ⟨_, (t809), zrl, H', ⟨zle⟩, ⟨(blk_put (cs := #[.bool false, .int .u64 t807, .int .u64 a0_2]) (blk_put (cs := #[.bool false, .int .u64 a0_1, .int .u64 a0_2]) (blk_put (zkq BK804) 0 _ rfl) 1 _ rfl) 2 _ rfl)⟩, ⟨(zkf (zkf (zkf (zkq BK805) (zks NB804_805).out _) (zks NB804_805).out _) (zks NB804_805).out _)⟩, ⟨zaB⟩⟩
 case rest =>
  clear HC3
  try clear z13_0 z13_1 z13_2 f13_0 f13_1 f13_2
  try clear z7_0 z7_1 z7_2 f7_0 f7_1 f7_2
  try clear z9_0 z9_1 z9_2 f9_0 f9_1 f9_2
  obtain ⟨kq, x5_2, rfl, HA, HJ2, BK804, BK805, HB⟩ := hcut
  cases kq with
  | zero => exact absurd HA.out (by simp [span_Abs.j0])
  | succ kj2 =>
   have H := HA.out
   clear HA
   simp only [span_Abs.j0] at H
   by_cases c14 : x5_2 = true
   ·subst c14
    replace H := zit H
    simp only [Option.some.injEq, Prod.mk.injEq] at H
    obtain ⟨rfl, rfl, rfl⟩ := H
    refine zt1 NB804_805 fun _ _ => ?_
    refine zu3 BK804 fun _ _ _ _ _ _ => ?_
    refine zu3 BK805 fun _ _ _ _ _ _ => ?_
    go_wp2
    refine bodyPost_ret (results_cell_row rfl _ _ gb805 43 #[.bool t806, .int .u64 t807, .int .u64 t808] (0, 0) _ rfl (blk_put (cs := #[.bool t806, .int .u64 t807, .int .u64 0]) (blk_put (cs := #[.bool t806, .int .u64 0, .int .u64 0]) (blk_put (zkq BK805) 0 _ rfl) 1 _ rfl) 2 _ rfl) Try.underlying43 rfl (by kernel_rfl)) rfl ?_
    exact ⟨zaE, zaB⟩
   replace c14 := Bool.eq_false_iff.mpr c14
   subst c14
   replace H := zif H
   obtain ⟨t810, A18, H⟩ := zbs H
   try dsimp only at H
   by_cases c19 : t810 = true
   ·subst c19
    replace H := zit H
    obtain ⟨⟨t811, t812, t813⟩, A20, H⟩ := zbs H
    try dsimp only at H
    simp only [Option.some.injEq, Prod.mk.injEq] at H
    obtain ⟨rfl, rfl, rfl⟩ := H
    refine zt1 NB804_805 fun _ _ => ?_
    refine zu3 BK804 fun _ _ _ _ _ _ => ?_
    go_wp2_with (first | ((with_reducible refine gtc 117 rfl ?_); refine zgL 15 Try.func117 (span_atMost.calls kj2 t808 0 true _ A18.out) (h := ?_); rintro w' ⟨nd, rfl⟩; (try (rw [drewN_self wc]; generalize hq_ : World.drewN wc _ = wc; have n0_ : Aside0 (wc.heap[gb804]? = some (.cells #[.bool t806, .int .u64 t807, .int .u64 t808] 43 (0, 0))) := ⟨by rw [← hq_]; exact (zkq BK804)⟩; have n1_ : Aside0 (wc.heap[gb805]? = some (.cells #[.bool false, .int .u64 0, .int .u64 0] 43 (0, 0))) := ⟨by rw [← hq_]; exact (zkq BK805)⟩; have n2_ : Aside0 (Below w.heap.size w wc) := ⟨by rw [← hq_]; exact zaB⟩; clear BK804 BK805 HB hq_; have BK804 := n0_; have BK805 := n1_; have HB := n2_; clear n0_ n1_ n2_; have hdq804_0 := zc0 BK804; have hdq804_1 := zc1 BK804; have hdq804_2 := zc2 BK804; have hdq804_f := zfz BK804; have hdq805_0 := zc0 BK805; have hdq805_1 := zc1 BK805; have hdq805_2 := zc2 BK805; have hdq805_f := zfz BK805))) | ((with_reducible refine gtc 111 rfl ?_); refine zgL 17 Try.func111 (span_Neg.calls kj2 t806 t807 t808 t811 t812 t813 _ A20.out) (h := ?_); rintro w23 hb; refine zcn2 HB BK804 BK805 hb (c := ?_); clear HB BK804 BK805 hb; intro BK804 BK805 HB; refine zu3 BK805 fun _ _ _ _ _ _ => ?_))
    refine bodyPost_ret (results_cell_row rfl _ _ gb805 43 #[.bool t811, .int .u64 t812, .int .u64 t813] (0, 0) _ rfl (blk_put (cs := #[.bool t811, .int .u64 t812, .int .u64 0]) (blk_put (cs := #[.bool t811, .int .u64 0, .int .u64 0]) (blk_put (zkq BK805) 0 _ rfl) 1 _ rfl) 2 _ rfl) Try.underlying43 rfl (by kernel_rfl)) rfl ?_
    exact ⟨zaE, zaB⟩
   replace c19 := Bool.eq_false_iff.mpr c19
   subst c19
   replace H := zif H
   obtain ⟨t814, A25, H⟩ := zbs H
   try dsimp only at H
   obtain ⟨y815, hy815⟩ : ∃ y_ : List Int, y_ = (([t814, t808] : List Int)) := ⟨_, rfl⟩
   replace H : ((pattern_Max.f kj2 y815).bind fun t818 => ((span_Make.f kj2 0 t818).bind fun bt819 => (some (bt819.1, bt819.2.1, bt819.2.2)))) = some (r1, r2, r3) := by first | (rw [hy815]; with_reducible exact H) | (have H2_ := (Option.bind_some _ _).symm.trans H; rw [hy815]; with_reducible exact H2_) | (have H2_ := (Option.bind_some _ _).symm.trans H; with_reducible exact H2_) | with_reducible exact H | (rw [hy815]; exact H) | exact H
   have Ny815 := Aside0.mk hy815
   clear hy815
   obtain ⟨t818, A26, H⟩ := zbs H
   try dsimp only at H
   obtain ⟨⟨t819, t820, t821⟩, A27, H⟩ := zbs H
   try dsimp only at H
   simp only [Option.some.injEq, Prod.mk.injEq] at H
   obtain ⟨rfl, rfl, rfl⟩ := H
   refine zt1 NB804_805 fun _ _ => ?_
   refine zu3 BK804 fun _ _ _ _ _ _ => ?_
   try go_wp2_with (first | ((with_reducible refine gtc 117 rfl ?_); refine zgL 15 Try.func117 (span_atMost.calls kj2 t808 0 false _ A18.out) (h := ?_); rintro w' ⟨nd, rfl⟩; (try (rw [drewN_self wc]; generalize hq_ : World.drewN wc _ = wc; have n0_ : Aside0 (wc.heap[gb804]? = some (.cells #[.bool t806, .int .u64 t807, .int .u64 t808] 43 (0, 0))) := ⟨by rw [← hq_]; exact (zkq BK804)⟩; have n1_ : Aside0 (wc.heap[gb805]? = some (.cells #[.bool false, .int .u64 0, .int .u64 0] 43 (0, 0))) := ⟨by rw [← hq_]; exact (zkq BK805)⟩; have n2_ : Aside0 (Below w.heap.size w wc) := ⟨by rw [← hq_]; exact zaB⟩; clear BK804 BK805 HB hq_; have BK804 := n0_; have BK805 := n1_; have HB := n2_; clear n0_ n1_ n2_; have hdq804_0 := zc0 BK804; have hdq804_1 := zc1 BK804; have hdq804_2 := zc2 BK804; have hdq804_f := zfz BK804; have hdq805_0 := zc0 BK805; have hdq805_1 := zc1 BK805; have hdq805_2 := zc2 BK805; have hdq805_f := zfz BK805))))
   (try (rw [drewN_self wc]; generalize hq_ : World.drewN wc _ = wc; replace BK804 := zkg hq_ (zkq BK804); replace BK805 := zkg hq_ (zkq BK805); replace HB := zkG hq_ (pw_below_drewN HB.out _); clear hq_))
   replace BK804 := Aside0.mk (blk_drew BK804.out)
   replace BK805 := Aside0.mk (blk_drew BK805.out)
   replace HB := Aside0.mk (below_drew1 HB.out)
   refine start_ (n := 9) (S := fun w' => w'.cell? ⟨gb804, 0, none⟩ = some (.bool t806) ∧ w'.cell? ⟨gb804, 1, none⟩ = some (.int .u64 t807) ∧ w'.cell? ⟨gb804, 2, none⟩ = some (.int .u64 t808)) (ds := []) #[false, false, false, false, false, false, false, false, false] (by kernel_rfl) rfl rfl (ze3 BK804) (fun hHeld => ?_); refine with_tabW span_Abs.tab7 span_Abs.bits7 (fun HT_ HW_ => ?_)
   generalize wc.drew = w30 at BK804 BK805 HB hHeld ⊢
   refine zpA 0 18 (h := ?_)
   refine zpA 3 21 (h := ?_)
   refine ztA 1 19 (h := ?_)
   refine ztA 4 22 (h := ?_)
   refine zoA 2 20 (h := fun K hK => ?_)
   refine zgA Try.func32 (pattern_Neg.calls kj2 t807 t814 _ A25.out) (h := ?_)
   rintro w' ⟨nd, rfl⟩
   refine hK.out _ _ (ze3 BK804) (fun hHeld => ?_)
   clear hK K
   refine znA 20 (h := ?_)
   refine zoA 5 23 (h := fun K hK => ?_)
   refine Kd.R_lit_step (Kd.int .u64) _ 23 ?hg (N := 23) ?hd (xs := ([t814, t808] : List Int)) (inner := [.int .u64 t814, .int .u64 t808]) (ok := fun _ => True) (okp := fun _ => True) ?hr ?hp (fun _ hk => hk) trivial (Below.refl _ _) (Nat.le_refl _) (by simp) ?_; (case hd => rfl); (case hg => rfl); (case hr => first | (go_simp; done) | (go_simp; rfl)); (case hp => exact (Reps.one (show Kd.M (Kd.int .u64) _ _ _ t814 [.int .u64 t814] from rfl) (Reps.one (show Kd.M (Kd.int .u64) _ _ _ t808 [.int .u64 t808] from rfl) (Reps.none _ _))))
   intro v816 w31 ho32 hb hg_ hnew_
   clear hg_ hnew_
   (first | rw [← Ny815.out] at ho32 | (simp only [Int.reduceToNat] at ho32; rw [← Ny815.out] at ho32))
   have HO817 := Aside0.mk (Kd.R_lower ho32 (below_size zaB))
   replace BK804 := zkb BK804 hb
   replace BK805 := zkb BK805 hb
   replace HB := zkB HB hb
   clear hb ho32
   obtain ⟨Ao33, co33, eo33⟩ := Kd.R_slice HO817.out
   (first | subst eo33 | (injection eo33 with f1_ f2_ f3_; have f4_ := f1_.symm; have f5_ := f3_.symm; clear f1_ f2_ f3_; subst f4_; subst f5_))
   refine hK.out _ _ (ze3 BK804) (fun hHeld => ?_)
   clear hK K
   refine znA 23 (h := ?_)
   refine zoA 6 24 (h := fun K hK => ?_)
   refine goes_ Try.func120 (by kernel_rfl) rfl #[.slice Ao33 y815.length co33] (by rfl) rfl rfl (by (try simp only [List.map_toArray, List.map_cons, List.map_nil]); first | done | rfl | (simp only [List.length_drop, List.length_take]; rfl)) ?_
   with_reducible refine (pattern_Max.calls kj2 _ _ y815 t818 _ ?side1 ?side2 A26.out).mono ?_
   (case side1 => repeat (first | exact (Kd.R_reads' HO817.out).2.2 | (with_reducible refine Kd.C_alloc ?_ _) | (with_reducible refine Kd.C_drewN ?_ _) | (with_reducible refine Kd.C_drew ?_)))
   (case side2 => exact (Kd.R_reads' HO817.out).2.1)
   rintro e w34 ⟨rfl, hb⟩
   refine ⟨_, rfl, ?_⟩
   replace HO817 := Aside0.mk (Kd.R_below (zRW HO817.out) hb)
   refine zcn2 HB BK804 BK805 hb (c := ?_)
   clear HB BK804 BK805 hb
   intro BK804 BK805 HB
   refine hK.out _ _ (ze3 BK804) (fun hHeld => ?_)
   clear hK K
   refine znA 24 (h := ?_)
   refine zoA 7 25 (h := fun K hK => ?_)
   refine zgA Try.func37 (span_Make.calls kj2 0 t818 t819 t820 t821 _ A27.out) (h := ?_)
   rintro w35 hb
   replace HO817 := Aside0.mk (Kd.R_below (zRW HO817.out) hb)
   refine zcn2 HB BK804 BK805 hb (c := ?_)
   clear HB BK804 BK805 hb
   intro BK804 BK805 HB
   refine hK.out _ _ (ze3 BK804) (fun hHeld => ?_)
   clear hK K
   refine znA 25 (h := ?_)
   refine one_ (i := 8) (N := none) #[true, true, true, true, true, true, true, true, true] rfl rfl (one_of HT_.out (by kernel_rfl)) (by decide) (fun K hK => ?_)
   have hs36 := zc0 BK805
   have hfs36 := blk_frozen BK805.out 0
   refine zt1 NB804_805 fun _ _ => ?_
   have hs37 := zc1 BK805
   have hfs37 := blk_frozen BK805.out 1
   refine zt1 NB804_805 fun _ _ => ?_
   have hs38 := zc2 BK805
   have hfs38 := blk_frozen BK805.out 2
   refine zt1 NB804_805 fun _ _ => ?_
   refine skip_ (w1 := ?_) (by rfl) rfl ?_ ?_
   rotate_left
   ·go_simp
    rfl
   refine hK.out _ _ ⟨(zff NB804_805 (zff NB804_805 (zff NB804_805 hHeld.1))), (zff NB804_805 (zff NB804_805 (zff NB804_805 hHeld.2.1))), (zff NB804_805 (zff NB804_805 (zff NB804_805 hHeld.2.2)))⟩ (fun hHeld => ?_)
   clear hK K
   refine done_ (done_of HT_.out (by kernel_rfl)) ?_
   try go_wp2
   refine bodyPost_ret (results_cell_row rfl _ _ gb805 43 #[.bool t819, .int .u64 t820, .int .u64 t821] (0, 0) _ rfl (blk_put (cs := #[.bool t819, .int .u64 t820, .int .u64 0]) (blk_put (cs := #[.bool t819, .int .u64 0, .int .u64 0]) (blk_put (zkq BK805) 0 _ rfl) 1 _ rfl) 2 _ rfl) Try.underlying43 rfl (by kernel_rfl)) rfl ?_
   exact ⟨zaE, zaB⟩
theorem span_Most.calls (k : Nat) (a0_0 : Bool) (a0_1 : Int) (a0_2 : Int) (r : Int) (w : World) (h : span_Most.f k a0_0 a0_1 a0_2 = some r) :
  Calls Try.prog 50 #[.agg #[.bool a0_0, .int .u64 a0_1, .int .u64 a0_2]] w fun e w' => e = .returned (.int .u64 r) ∧ Below w.heap.size w w' := by
 have hu43 := Try.underlying43
 have hfd0_ : ∀ (b : Bool) (x y : Int) (w : World), (Instr.field 43 (.agg #[.bool b, .int .u64 x, .int .u64 y]) 0).run Try.prog w = .ok (.bool b) w := fun _ _ _ _ => by kernel_rfl
 have hfd1_ : ∀ (b : Bool) (x y : Int) (w : World), (Instr.field 43 (.agg #[.bool b, .int .u64 x, .int .u64 y]) 1).run Try.prog w = .ok (.int .u64 x) w := fun _ _ _ _ => by kernel_rfl
 have hfd2_ : ∀ (b : Bool) (x y : Int) (w : World), (Instr.field 43 (.agg #[.bool b, .int .u64 x, .int .u64 y]) 2).run Try.prog w = .ok (.int .u64 y) w := fun _ _ _ _ => by kernel_rfl
 have HB := Aside0.mk (Below.refl w.heap.size w)
 have H : ((span_Abs.f k a0_0 a0_1 a0_2).bind fun bt823 => (some bt823.2.2)) = some r := h
 clear h
 obtain ⟨⟨t823, t824, t825⟩, A2, H⟩ := zbs H
 try dsimp only at H
 obtain rfl := Option.some.inj H
 go_enter Try.func50, Try.ntmps50
 go_wp2_with (first | ((with_reducible refine gtd 1 rfl ?_); refine zbx 1 #[.bool a0_0, .int .u64 a0_1, .int .u64 a0_2] 43 (h := ?_); intro gb822 hg w3 hbox hb; have GW822 := zkZ hg (zaB (p := Below w.heap.size w _)); replace HB := Aside0.mk (below_step zaB hb); have BK822 := Aside0.mk (hbox); clear hb hbox hg; refine zu3 BK822 fun _ _ _ _ _ _ => ?_) | ((with_reducible refine gtc 69 rfl ?_); refine zgL 4 Try.func69 (span_Abs.calls k a0_0 a0_1 a0_2 t823 t824 t825 _ A2.out) (h := ?_); rintro w5 hb; replace BK822 := zkb BK822 hb; replace HB := zkB HB hb; (try clear hb)))
 go_ret
 exact ⟨zaE, zaB⟩
theorem slip_sides_fades.calls (k : Nat) (a0_0 : Bool) (a0_1 : Int) (a0_2 : Int) (a0_3 : Bool) (a0_4 : Int) (a0_5 : Int) (a0_6 : Bool) (a0_7 : Int) (a0_8 : Int) (a0_9 : Int) (a0_10 : Int) (a1 : Int) (r : Bool) (w : World) (h : slip_sides_fades.f k a0_0 a0_1 a0_2 a0_3 a0_4 a0_5 a0_6 a0_7 a0_8 a0_9 a0_10 a1 = some r) :
  Calls Try.prog 132 #[.agg #[.bool a0_0, .int .u64 a0_1, .int .u64 a0_2, .bool a0_3, .int .u64 a0_4, .int .u64 a0_5, .bool a0_6, .int .u64 a0_7, .int .u64 a0_8, .int .u64 a0_9, .int .u64 a0_10], .int .u8 a1] w fun e w' => e = .returned (.bool r) ∧ Below w.heap.size w w' := by
 have hu128 := Try.underlying128
 have hu43 := Try.underlying43
 have HB := Aside0.mk (Below.refl w.heap.size w)
 have H := h
 unfold slip_sides_fades.f at H
 clear h
 by_cases c3 : a1 = 7
 ·rw [if_pos c3] at H
  have c3b0 : (a1 == 7) = true := beq_iff_eq.mpr c3
  have c3b1 : (a1 != 7) = false := bne_eq_false_iff_eq.mpr c3
  clear c3
  obtain ⟨t1492, A4, H⟩ := zbs H
  try dsimp only at H
  by_cases c5 : t1492 = 0
  ·rw [if_pos c5] at H
   have c5b0 : (t1492 == 0) = true := beq_iff_eq.mpr c5
   have c5b1 : (t1492 != 0) = false := bne_eq_false_iff_eq.mpr c5
   clear c5
   obtain rfl := Option.some.inj H
   go_enter Try.func132, Try.ntmps132
   go_wp2_with (first | ((with_reducible refine gtd 2 rfl ?_); refine zbx 2 #[.bool a0_0, .int .u64 a0_1, .int .u64 a0_2, .bool a0_3, .int .u64 a0_4, .int .u64 a0_5, .bool a0_6, .int .u64 a0_7, .int .u64 a0_8, .int .u64 a0_9, .int .u64 a0_10] 128 (h := ?_); intro gb1491 hg w6 hbox hb; have GW1491 := zkZ hg (zaB (p := Below w.heap.size w _)); replace HB := Aside0.mk (below_step zaB hb); have BK1491 := Aside0.mk (hbox); clear hb hbox hg; refine zu11 BK1491 fun _ _ _ _ _ _ _ _ _ _ _ _ _ _ _ _ _ _ _ _ _ _ => ?_) | ((with_reducible refine gtc 50 rfl ?_); refine zgL 10 Try.func50 (span_Most.calls k a0_0 a0_1 a0_2 t1492 _ A4.out) (h := ?_); rintro w8 hb; replace BK1491 := zkb BK1491 hb; replace HB := zkB HB hb; (try clear hb)))
   go_ret
   exact ⟨zaE, zaB⟩
  rw [if_neg c5] at H
  have c5b0 : (t1492 == 0) = false := beq_eq_false_iff_ne.mpr c5
  have c5b1 : (t1492 != 0) = true := bne_iff_ne.mpr c5
  obtain ⟨t1493, A9, H⟩ := zbs H
  try dsimp only at H
  obtain rfl := Option.some.inj H
  go_enter Try.func132, Try.ntmps132
  go_wp2_with (first | ((with_reducible refine gtd 2 rfl ?_); refine zbx 2 #[.bool a0_0, .int .u64 a0_1, .int .u64 a0_2, .bool a0_3, .int .u64 a0_4, .int .u64 a0_5, .bool a0_6, .int .u64 a0_7, .int .u64 a0_8, .int .u64 a0_9, .int .u64 a0_10] 128 (h := ?_); intro gb1491 hg w10 hbox hb; have GW1491 := zkZ hg (zaB (p := Below w.heap.size w _)); replace HB := Aside0.mk (below_step zaB hb); have BK1491 := Aside0.mk (hbox); clear hb hbox hg; refine zu11 BK1491 fun _ _ _ _ _ _ _ _ _ _ _ _ _ _ _ _ _ _ _ _ _ _ => ?_) | ((with_reducible refine gtc 50 rfl ?_); refine zgL 10 Try.func50 (span_Most.calls k a0_0 a0_1 a0_2 t1492 _ A4.out) (h := ?_); rintro w12 hb; replace BK1491 := zkb BK1491 hb; replace HB := zkB HB hb; (try clear hb); refine zu11 BK1491 fun _ _ _ _ _ _ _ _ _ _ _ _ _ _ _ _ _ _ _ _ _ _ => ?_) | (go_at_call 50; (with_reducible refine (span_Most.calls k a0_3 a0_4 a0_5 t1493 _ A9.out).mono ?_); rintro e w14 ⟨rfl, hb⟩; replace BK1491 := zkb BK1491 hb; replace HB := zkB HB hb; (try clear hb)))
  go_ret
  exact ⟨zaE, zaB⟩
 rw [if_neg c3] at H
 have c3b0 : (a1 == 7) = false := beq_eq_false_iff_ne.mpr c3
 have c3b1 : (a1 != 7) = true := bne_iff_ne.mpr c3
 by_cases c15 : a1 = 8
 ·rw [if_pos c15] at H
  have c15b0 : (a1 == 8) = true := beq_iff_eq.mpr c15
  have c15b1 : (a1 != 8) = false := bne_eq_false_iff_eq.mpr c15
  clear c15
  obtain ⟨t1494, A16, H⟩ := zbs H
  try dsimp only at H
  obtain rfl := Option.some.inj H
  go_enter Try.func132, Try.ntmps132
  go_wp2_with (first | ((with_reducible refine gtd 2 rfl ?_); refine zbx 2 #[.bool a0_0, .int .u64 a0_1, .int .u64 a0_2, .bool a0_3, .int .u64 a0_4, .int .u64 a0_5, .bool a0_6, .int .u64 a0_7, .int .u64 a0_8, .int .u64 a0_9, .int .u64 a0_10] 128 (h := ?_); intro gb1491 hg w17 hbox hb; have GW1491 := zkZ hg (zaB (p := Below w.heap.size w _)); replace HB := Aside0.mk (below_step zaB hb); have BK1491 := Aside0.mk (hbox); clear hb hbox hg; refine zu11 BK1491 fun _ _ _ _ _ _ _ _ _ _ _ _ _ _ _ _ _ _ _ _ _ _ => ?_) | ((with_reducible refine gtc 50 rfl ?_); refine zgL 22 Try.func50 (span_Most.calls k a0_0 a0_1 a0_2 t1494 _ A16.out) (h := ?_); rintro w19 hb; replace BK1491 := zkb BK1491 hb; replace HB := zkB HB hb; (try clear hb)))
  go_ret
  exact ⟨zaE, zaB⟩
 rw [if_neg c15] at H
 have c15b0 : (a1 == 8) = false := beq_eq_false_iff_ne.mpr c15
 have c15b1 : (a1 != 8) = true := bne_iff_ne.mpr c15
 obtain rfl := Option.some.inj H
 go_enter Try.func132, Try.ntmps132
 go_wp2_with (first | ((with_reducible refine gtd 2 rfl ?_); refine zbx 2 #[.bool a0_0, .int .u64 a0_1, .int .u64 a0_2, .bool a0_3, .int .u64 a0_4, .int .u64 a0_5, .bool a0_6, .int .u64 a0_7, .int .u64 a0_8, .int .u64 a0_9, .int .u64 a0_10] 128 (h := ?_); intro gb1491 hg w20 hbox hb; have GW1491 := zkZ hg (zaB (p := Below w.heap.size w _)); replace HB := Aside0.mk (below_step zaB hb); have BK1491 := Aside0.mk (hbox); clear hb hbox hg))
 go_ret
 exact ⟨zaE, zaB⟩
theorem soft_zero.calls (k : Nat) (a0 : Bool) (r : Int) (w : World) (h : soft_zero.f k a0 = some r) :
  Calls Try.prog 85 #[.bool a0] w fun e w' => e = .returned (.int .u64 r) ∧ Drawn0 w w' := by
 have H : ((pattern_Make.f k a0 0 0).bind fun bt115 => (some bt115.1)) = some r := h
 clear h
 obtain ⟨⟨t115, t116⟩, A2, H⟩ := zbs H
 try dsimp only at H
 obtain rfl := Option.some.inj H
 go_enter Try.func85, Try.ntmps85
 go_wp2_with (first | ((with_reducible refine gtc 150 rfl ?_); refine zgL 7 Try.func150 (pattern_Make.calls k a0 0 0 t115 t116 _ A2.out) (h := ?_); rintro w' ⟨nd, rfl⟩))
 go_ret
 exact ⟨by first | rfl | (simp; done) | (simp [*]; done), by repeat (first | exact Drawn0.refl _ | apply Drawn0.step)⟩
theorem wide_U128_Add.law (x y c : Int) (hx : 0 ≤ x) (hy : 0 ≤ y) (hc0 : 0 ≤ c) (hc : c ≤ 1) (w : World) :
  (callFunc 182 #[.int .u64 x, .int .u64 y, .int .u64 c]).run Try.prog w = .ok (.value (.tuple #[.int .u64 ((x + y + c) % 18446744073709551616), .int .u64 ((x + y + c) / 18446744073709551616)])) w := by
 rw [run_callFunc_extern Try.func182 (by kernel_rfl) (by kernel_rfl) (by kernel_rfl) (e := add64Entry) (by kernel_rfl), run_add64 x y c hx hy hc0 hc]
 rfl
theorem wide_U128_Add.ext_ {P : Program} {ops : Array Oper} {Q : Exit → Act → World → Prop} {rest : List Oper} {oi : Oper} {a : Act} {w : World} (N : Option Tmp) (hd : oi.dst = N) (hg : oi.guard = none) {f : FuncId} {ars : Array Operand} {ts : Array TypeId} (args : Array Value)
  (hop : oi.op = .call { callee := .value (.func f), args := ars, argTypes := ts }) (hargs : ars.map a.eval = args) {v : Value} (hl : (callFunc f args).run P w = .ok (.value v) w)
  (h : wpList P ops Q rest (a.put N v) w) : wpList P ops Q (oi :: rest) a w := by
 refine wpList_plain hg fun K hK => ?_
 have hrun : (execOp a.eval oi).run P w = .ok (.value v) w := by
  unfold execOp
  simp [hop, resolve, Deferred.ofValue, invoke, Act.eval, hargs, hl]
 unfold Oper.wp
 rw [hrun]
 subst hd
 exact hK _ _ h
theorem wide_U128_Add.walk (a0_0 : Int) (a0_1 : Int) (a1_0 : Int) (a1_1 : Int) (t174 : Int) (t175 : Int) (t176 : Int) (t177 : Int) (L0 : ∀ w, (callFunc 182 #[.int .u64 a0_1, .int .u64 a1_1, .int .u64 0]).run Try.prog w = .ok (.value (.tuple #[.int .u64 t174, .int .u64 t175])) w) (L1 : ∀ w, (callFunc 182 #[.int .u64 a0_0, .int .u64 a1_0, .int .u64 t175]).run Try.prog w = .ok (.value (.tuple #[.int .u64 t176, .int .u64 t177])) w) (w : World) :
  Calls Try.prog 152 #[.agg #[.int .u64 a0_0, .int .u64 a0_1], .agg #[.int .u64 a1_0, .int .u64 a1_1]] w fun e w' => e = .returned (.tuple #[.agg #[.int .u64 t176, .int .u64 t174], .int .u64 t177]) ∧ Below w.heap.size w w' := by
 have hu := Try.underlying109
 have HB := Aside0.mk (Below.refl w.heap.size w)
 go_enter Try.func152, Try.ntmps152
 go_wp2_with (first | ((with_reducible refine gtd 2 rfl ?_); refine zbx 2 #[.int .u64 a0_0, .int .u64 a0_1] 109 (h := ?_); intro gb171 hg w5 hbox hb; have GW171 := zkZ hg (zaB (p := Below w.heap.size w _)); replace HB := Aside0.mk (below_step zaB hb); have BK171 := Aside0.mk (hbox); clear hb hbox hg) | ((with_reducible refine gtd 3 rfl ?_); refine zbx 3 #[.int .u64 a1_0, .int .u64 a1_1] 109 (h := ?_); intro gb172 hg w6 hbox hb; refine zbn1 HB BK171 hg hb hbox (c := ?_); clear HB BK171 hb hbox hg; intro GW172 NB171_172 BK171 HB BK172) | ((with_reducible refine gtd 4 rfl ?_); refine zbx 4 #[.int .u64 0, .int .u64 0] 109 (h := ?_); intro gb173 hg w7 hbox hb; refine zbn2 HB BK171 BK172 hg hb hbox (c := ?_); clear HB BK171 BK172 hb hbox hg; intro GW173 NB171_173 NB172_173 BK171 BK172 HB BK173; refine zt2 NB171_172 NB171_173 fun _ _ _ _ => ?_; refine zu2 BK171 fun _ _ _ _ => ?_; refine zt1 NB172_173 fun _ _ => ?_; refine zu2 BK172 fun _ _ _ _ => ?_) | ((with_reducible refine gtc 182 rfl ?_); refine wide_U128_Add.ext_ (some 14) rfl rfl #[.int .u64 a0_1, .int .u64 a1_1, .int .u64 0] rfl (by (try simp only [List.map_toArray, List.map_cons, List.map_nil]); first | done | rfl | (simp only [List.length_drop, List.length_take]; rfl)) (L0 _) ?_) | ((with_reducible refine gtc 182 rfl ?_); refine wide_U128_Add.ext_ (some 23) rfl rfl #[.int .u64 a0_0, .int .u64 a1_0, .int .u64 t175] rfl (by (try simp only [List.map_toArray, List.map_cons, List.map_nil]); first | done | rfl | (simp only [List.length_drop, List.length_take]; rfl)) (L1 _) ?_; refine zu2 BK173 fun _ _ _ _ => ?_))
 refine bodyPost_ret (results_ct rfl _ _ gb173 109 #[.int .u64 t176, .int .u64 t174] (0, 0) _ rfl (blk_put (cs := #[.int .u64 t176, .int .u64 0]) (blk_put (zkq BK173) 0 _ rfl) 1 _ rfl) Try.underlying109 rfl (by kernel_rfl)) rfl ?_
 exact ⟨zaE, zaB⟩
theorem wide_U128_Add.calls (a0_0 : Int) (a0_1 : Int) (a1_0 : Int) (a1_1 : Int) (r1 : Int) (r2 : Int) (r3 : Int) (w : World) (h : wide_U128_Add.f a0_0 a0_1 a1_0 a1_1 = some (r1, r2, r3)) :
  Calls Try.prog 152 #[.agg #[.int .u64 a0_0, .int .u64 a0_1], .agg #[.int .u64 a1_0, .int .u64 a1_1]] w fun e w' => e = .returned (.tuple #[.agg #[.int .u64 r1, .int .u64 r2], .int .u64 r3]) ∧ Below w.heap.size w w' := by
 unfold wide_U128_Add.f at h
 split at h
 ·rename_i g
  obtain ⟨g1, g2, g3, g4, g5, g6⟩ := g
  simp only [Option.some.injEq, Prod.mk.injEq] at h
  obtain ⟨rfl, rfl, rfl⟩ := h
  have W := wide_U128_Add.walk a0_0 a0_1 a1_0 a1_1 _ _ _ _ (fun w => wide_U128_Add.law a0_1 a1_1 0 g2 g4 (by omega) (by omega) w) (fun w => wide_U128_Add.law a0_0 a1_0 _ g1 g3 (by omega) (by omega) w) w
  rw [Int.add_zero] at W
  exact W
 cases h
theorem wide_U128_Sub.law (x y b : Int) (hx : 0 ≤ x) (hy : 0 ≤ y) (hb0 : 0 ≤ b) (hb : b ≤ 1) (hx1 : x < 18446744073709551616) (hy1 : y < 18446744073709551616) (w : World) :
  (callFunc 183 #[.int .u64 x, .int .u64 y, .int .u64 b]).run Try.prog w = .ok (.value (.tuple #[.int .u64 ((x - y - b) % 18446744073709551616), .int .u64 (if x < y + b then 1 else 0)])) w := by
 obtain ⟨x, rfl⟩ := Int.eq_ofNat_of_zero_le hx
 obtain ⟨y, rfl⟩ := Int.eq_ofNat_of_zero_le hy
 obtain ⟨b, rfl⟩ := Int.eq_ofNat_of_zero_le hb0
 rw [run_callFunc_extern Try.func183 (by kernel_rfl) (by kernel_rfl) (by kernel_rfl) (e := sub64Entry) (by kernel_rfl), run_sub64 x y b (by omega)]
 have e1 : (((x + 18446744073709551616 - y - b) % 18446744073709551616 : Nat) : Int) = ((x : Int) - y - b) % 18446744073709551616 := by omega
 have e2 : ((if x < y + b then 1 else 0 : Nat) : Int) = (if (x : Int) < (y : Int) + (b : Int) then 1 else 0) := by split <;> split <;> omega
 rw [e1, e2]
 rfl
theorem wide_U128_Sub.ext_ {P : Program} {ops : Array Oper} {Q : Exit → Act → World → Prop} {rest : List Oper} {oi : Oper} {a : Act} {w : World} (N : Option Tmp) (hd : oi.dst = N) (hg : oi.guard = none) {f : FuncId} {ars : Array Operand} {ts : Array TypeId} (args : Array Value)
  (hop : oi.op = .call { callee := .value (.func f), args := ars, argTypes := ts }) (hargs : ars.map a.eval = args) {v : Value} (hl : (callFunc f args).run P w = .ok (.value v) w)
  (h : wpList P ops Q rest (a.put N v) w) : wpList P ops Q (oi :: rest) a w := by
 refine wpList_plain hg fun K hK => ?_
 have hrun : (execOp a.eval oi).run P w = .ok (.value v) w := by
  unfold execOp
  simp [hop, resolve, Deferred.ofValue, invoke, Act.eval, hargs, hl]
 unfold Oper.wp
 rw [hrun]
 subst hd
 exact hK _ _ h
theorem wide_U128_Sub.walk (a0_0 : Int) (a0_1 : Int) (a1_0 : Int) (a1_1 : Int) (t174 : Int) (t175 : Int) (t176 : Int) (t177 : Int) (L0 : ∀ w, (callFunc 183 #[.int .u64 a0_1, .int .u64 a1_1, .int .u64 0]).run Try.prog w = .ok (.value (.tuple #[.int .u64 t174, .int .u64 t175])) w) (L1 : ∀ w, (callFunc 183 #[.int .u64 a0_0, .int .u64 a1_0, .int .u64 t175]).run Try.prog w = .ok (.value (.tuple #[.int .u64 t176, .int .u64 t177])) w) (w : World) :
  Calls Try.prog 153 #[.agg #[.int .u64 a0_0, .int .u64 a0_1], .agg #[.int .u64 a1_0, .int .u64 a1_1]] w fun e w' => e = .returned (.tuple #[.agg #[.int .u64 t176, .int .u64 t174], .int .u64 t177]) ∧ Below w.heap.size w w' := by
 have hu := Try.underlying109
 have HB := Aside0.mk (Below.refl w.heap.size w)
 go_enter Try.func153, Try.ntmps153
 go_wp2_with (first | ((with_reducible refine gtd 2 rfl ?_); refine zbx 2 #[.int .u64 a0_0, .int .u64 a0_1] 109 (h := ?_); intro gb171 hg w5 hbox hb; have GW171 := zkZ hg (zaB (p := Below w.heap.size w _)); replace HB := Aside0.mk (below_step zaB hb); have BK171 := Aside0.mk (hbox); clear hb hbox hg) | ((with_reducible refine gtd 3 rfl ?_); refine zbx 3 #[.int .u64 a1_0, .int .u64 a1_1] 109 (h := ?_); intro gb172 hg w6 hbox hb; refine zbn1 HB BK171 hg hb hbox (c := ?_); clear HB BK171 hb hbox hg; intro GW172 NB171_172 BK171 HB BK172) | ((with_reducible refine gtd 4 rfl ?_); refine zbx 4 #[.int .u64 0, .int .u64 0] 109 (h := ?_); intro gb173 hg w7 hbox hb; refine zbn2 HB BK171 BK172 hg hb hbox (c := ?_); clear HB BK171 BK172 hb hbox hg; intro GW173 NB171_173 NB172_173 BK171 BK172 HB BK173; refine zt2 NB171_172 NB171_173 fun _ _ _ _ => ?_; refine zu2 BK171 fun _ _ _ _ => ?_; refine zt1 NB172_173 fun _ _ => ?_; refine zu2 BK172 fun _ _ _ _ => ?_) | ((with_reducible refine gtc 183 rfl ?_); refine wide_U128_Sub.ext_ (some 14) rfl rfl #[.int .u64 a0_1, .int .u64 a1_1, .int .u64 0] rfl (by (try simp only [List.map_toArray, List.map_cons, List.map_nil]); first | done | rfl | (simp only [List.length_drop, List.length_take]; rfl)) (L0 _) ?_) | ((with_reducible refine gtc 183 rfl ?_); refine wide_U128_Sub.ext_ (some 23) rfl rfl #[.int .u64 a0_0, .int .u64 a1_0, .int .u64 t175] rfl (by (try simp only [List.map_toArray, List.map_cons, List.map_nil]); first | done | rfl | (simp only [List.length_drop, List.length_take]; rfl)) (L1 _) ?_; refine zu2 BK173 fun _ _ _ _ => ?_))
 refine bodyPost_ret (results_ct rfl _ _ gb173 109 #[.int .u64 t176, .int .u64 t174] (0, 0) _ rfl (blk_put (cs := #[.int .u64 t176, .int .u64 0]) (blk_put (zkq BK173) 0 _ rfl) 1 _ rfl) Try.underlying109 rfl (by kernel_rfl)) rfl ?_
 exact ⟨zaE, zaB⟩
theorem wide_U128_Sub.calls (a0_0 : Int) (a0_1 : Int) (a1_0 : Int) (a1_1 : Int) (r1 : Int) (r2 : Int) (r3 : Int) (w : World) (h : wide_U128_Sub.f a0_0 a0_1 a1_0 a1_1 = some (r1, r2, r3)) :
  Calls Try.prog 153 #[.agg #[.int .u64 a0_0, .int .u64 a0_1], .agg #[.int .u64 a1_0, .int .u64 a1_1]] w fun e w' => e = .returned (.tuple #[.agg #[.int .u64 r1, .int .u64 r2], .int .u64 r3]) ∧ Below w.heap.size w w' := by
 unfold wide_U128_Sub.f at h
 split at h
 ·rename_i g
  obtain ⟨g1, g2, g3, g4, g5, g6, g7, g8⟩ := g
  simp only [Option.some.injEq, Prod.mk.injEq] at h
  obtain ⟨rfl, rfl, rfl⟩ := h
  have b0 : (0 : Int) ≤ (if a0_1 < a1_1 + 0 then 1 else 0) := by split <;> omega
  have b1 : (if a0_1 < a1_1 + 0 then (1 : Int) else 0) ≤ 1 := by split <;> omega
  have W := wide_U128_Sub.walk a0_0 a0_1 a1_0 a1_1 _ _ _ _ (fun w => wide_U128_Sub.law a0_1 a1_1 0 g2 g4 (by omega) (by omega) g6 g8 w) (fun w => wide_U128_Sub.law a0_0 a1_0 _ g1 g3 b0 b1 g5 g7 w) w
  rw [Int.add_zero, Int.sub_zero] at W
  exact W
 cases h
end Go.Proofs.Ytmadjhmecfbcmaa.F
end
section
namespace Go.Proofs.Ytmadjhmecfbcmaa.F
open Go.RowKit Go.Proofs.YtmadjhmecfbcmaaW.PrintWords Go.Proofs.YtmadjhmecfbcmaaW.PrintLast Go.Proofs.YtmadjhmecfbcmaaW.PrintMore
attribute [local go_sem] max2_int min2_int max_two min_two max_three min_three max_four min_four
set_option linter.unusedVariables false
set_option linter.unusedSimpArgs false
set_option maxHeartbeats 8000000
set_option maxRecDepth 100000
attribute [local go_sem high] eqA109
def soft_num_add.T2 : Bool × List (List Nat × List Nat) := (true, [([], []), ([0], [0]), ([1], [1]), ([2], [2]), ([], []), ([4], [4]), ([], []), ([6], [6]), ([5, 7], [5, 7]), ([3, 8, 3], [3, 8]), ([9], [9]), ([10], [10]), ([10], [10]), ([], []), ([13, 11, 9, 0, 1, 2, 3, 4, 5, 6, 7, 8, 9, 10, 11, 13], [11, 13]), ([12, 14, 0, 1, 2, 3, 4, 5, 6, 7, 8, 9, 10, 11, 12, 13, 14], [12])])
def soft_num_add.B2 : List Nat := [0, 1, 3, 7, 0, 16, 0, 64, 240, 511, 1023, 2047, 2047, 0, 12287, 32767]
theorem soft_num_add.tab2 : rtab .any (opsOf Try.f86 2) = soft_num_add.T2 := by kernel_rfl
theorem soft_num_add.bits2 : waitsOk soft_num_add.T2.2 soft_num_add.B2 = true := by kernel_rfl
theorem soft_num_add.calls (k : Nat) (a0_0 : Int) (a0_1 : Int) (a0_2 : Bool) (a0_3 : Int) (a0_4 : Int) (a1_0 : Int) (a1_1 : Int) (a1_2 : Bool) (a1_3 : Int) (a1_4 : Int) (a2 : Int) (r1 : Int) (r2 : Int) (w : World) (h : soft_num_add.f k a0_0 a0_1 a0_2 a0_3 a0_4 a1_0 a1_1 a1_2 a1_3 a1_4 a2 = some (r1, r2)) :
  Calls Try.prog 86 #[.agg #[.int .u64 a0_0, .int .u8 a0_1, .bool a0_2, .int .u64 a0_3, .int .i64 a0_4], .agg #[.int .u64 a1_0, .int .u8 a1_1, .bool a1_2, .int .u64 a1_3, .int .i64 a1_4], .int .u8 a2] w fun e w' => e = .returned (.tuple #[.int .u64 r1, .int .u8 r2]) ∧ Below w.heap.size w w' := by
 have hu88 := Try.underlying88
 have hu109 := Try.underlying109
 have HB := Aside0.mk (Below.refl w.heap.size w)
 have H := h
 unfold soft_num_add.f at H
 clear h
 obtain ⟨⟨t173, t174⟩, A4, H⟩ := zbs H
 try dsimp only at H
 obtain ⟨⟨t176, t177⟩, A5, H⟩ := zbs H
 try dsimp only at H
 obtain ⟨⟨t178, t179, t180⟩, A6, H⟩ := zbs H
 try dsimp only at H
 by_cases c7 : (a0_2 == a1_2) = true
 ·rw [if_pos c7] at H
  have c7b0 : (a0_2 == a1_2) = true := c7
  (try (have c7b1 : decide (a0_2 = a1_2) = true := by simpa using c7))
  (try (have c7b2 : (a0_2 == a1_2) = true := by simpa using c7))
  clear c7
  obtain ⟨⟨t183, t184, t185⟩, A8, H⟩ := zbs H
  try dsimp only at H
  obtain ⟨⟨t186, t187⟩, A9, H⟩ := zbs H
  try dsimp only at H
  simp only [Option.some.injEq, Prod.mk.injEq] at H
  obtain ⟨rfl, rfl⟩ := H
  go_enter Try.func86, Try.ntmps86
  try go_wp2_with (first | ((with_reducible refine gtd 3 rfl ?_); refine zbx 3 #[.int .u64 a0_0, .int .u8 a0_1, .bool a0_2, .int .u64 a0_3, .int .i64 a0_4] 88 (h := ?_); intro gb171 hg w10 hbox hb; have GW171 := zkZ hg (zaB (p := Below w.heap.size w _)); replace HB := Aside0.mk (below_step zaB hb); have BK171 := Aside0.mk (hbox); clear hb hbox hg) | ((with_reducible refine gtd 4 rfl ?_); refine zbx 4 #[.int .u64 a1_0, .int .u8 a1_1, .bool a1_2, .int .u64 a1_3, .int .i64 a1_4] 88 (h := ?_); intro gb172 hg w11 hbox hb; refine zbn1 HB BK171 hg hb hbox (c := ?_); clear HB BK171 hb hbox hg; intro GW172 NB171_172 BK171 HB BK172; refine zt1 NB171_172 fun _ _ => ?_; refine zu5 BK171 fun _ _ _ _ _ _ _ _ _ _ => ?_) | ((with_reducible refine gtc 106 rfl ?_); refine zgL 15 Try.func106 (wide_U128_Shl.calls k 0 a0_3 70 t173 t174 _ A4.out) (h := ?_); rintro w14 hb; refine zcn2 HB BK171 BK172 hb (c := ?_); clear HB BK171 BK172 hb; intro BK171 BK172 HB) | ((with_reducible refine gtd 8 rfl ?_); refine zbx 8 #[.int .u64 0, .int .u64 0] 109 (h := ?_); intro gb175 hg w15 hbox hb; refine zbn2 HB BK171 BK172 hg hb hbox (c := ?_); clear HB BK171 BK172 hb hbox hg; intro GW175 NB171_175 NB172_175 BK171 BK172 HB BK175; refine zt2 NB171_175 NB172_175 fun _ _ _ _ => ?_; refine zu2 BK175 fun _ _ _ _ => ?_))
  generalize hW_ : ((w15.setCell ⟨gb175, 0, none⟩ (.int .u64 t173)).setCell ⟨gb175, 1, none⟩ (.int .u64 t174)) = w19
  replace BK171 := zkg hW_ (zkf (zkf BK171.out NB171_175.out _) NB171_175.out _)
  replace BK172 := zkg hW_ (zkf (zkf BK172.out NB172_175.out _) NB172_175.out _)
  replace BK175 := zkg hW_ (ob := .cells #[.int .u64 t173, .int .u64 t174] 109 (0, 0)) (blk_put (cs := #[.int .u64 t173, .int .u64 0]) (blk_put BK175.out 0 _ rfl) 1 _ rfl)
  replace HB := zkG hW_ (below_set (below_set HB.out GW175.out) GW175.out)
  clear hW_
  replace BK171 := Aside0.mk (blk_drew BK171.out)
  replace BK172 := Aside0.mk (blk_drew BK172.out)
  replace BK175 := Aside0.mk (blk_drew BK175.out)
  replace HB := Aside0.mk (below_drew1 HB.out)
  refine start_ (n := 16) (S := fun w' => w'.cell? ⟨gb172, 0, none⟩ = some (.int .u64 a1_0) ∧ w'.cell? ⟨gb172, 1, none⟩ = some (.int .u8 a1_1) ∧ w'.cell? ⟨gb172, 2, none⟩ = some (.bool a1_2) ∧ w'.cell? ⟨gb172, 3, none⟩ = some (.int .u64 a1_3) ∧ w'.cell? ⟨gb172, 4, none⟩ = some (.int .i64 a1_4) ∧ w'.cell? ⟨gb171, 0, none⟩ = some (.int .u64 a0_0) ∧ w'.cell? ⟨gb171, 1, none⟩ = some (.int .u8 a0_1) ∧ w'.cell? ⟨gb171, 2, none⟩ = some (.bool a0_2) ∧ w'.cell? ⟨gb171, 3, none⟩ = some (.int .u64 a0_3) ∧ w'.cell? ⟨gb171, 4, none⟩ = some (.int .i64 a0_4)) (ds := []) #[false, false, false, false, false, false, false, false, false, false, false, false, false, false, false, false] (by kernel_rfl) rfl rfl (zk5 BK172 (ze5 BK171)) (fun hHeld => ?_); refine with_tabW soft_num_add.tab2 soft_num_add.bits2 (fun HT_ HW_ => ?_)
  generalize w19.drew = w20 at BK171 BK172 BK175 HB hHeld ⊢
  refine zpA 0 17 (h := ?_)
  refine zpA 4 21 (h := ?_)
  refine zpA 6 23 (h := ?_)
  refine ztA 1 18 (h := ?_)
  refine zpA 2 19 (h := ?_)
  refine ztA 5 22 (h := ?_)
  refine ztA 7 24 (h := ?_)
  refine zpA 8 25 (h := ?_)
  refine join_ (σ := Nat) 2 #[true, true, true, true, true, true, true, true, true, true, true, true, true, true, false, false] (fun s_ => [(20, .agg #[.int .u64 t176, .int .u64 t177]), (26, .tuple #[.agg #[.int .u64 t178, .int .u64 t179], .bool t180]), (9, .pointer (some ⟨s_, 0, none⟩)), (16, .tuple #[.agg #[.int .u64 t178, .int .u64 t179], .bool t180]), (27, .agg #[.int .u64 t178, .int .u64 t179]), (28, .bool t180)]) (fun s_ w' => (w'.cell? ⟨gb172, 0, none⟩ = some (.int .u64 a1_0) ∧ w'.cell? ⟨gb172, 1, none⟩ = some (.int .u8 a1_1) ∧ w'.cell? ⟨gb172, 2, none⟩ = some (.bool a1_2) ∧ w'.cell? ⟨gb172, 3, none⟩ = some (.int .u64 a1_3) ∧ w'.cell? ⟨gb172, 4, none⟩ = some (.int .i64 a1_4) ∧ w'.cell? ⟨gb171, 0, none⟩ = some (.int .u64 a0_0) ∧ w'.cell? ⟨gb171, 1, none⟩ = some (.int .u8 a0_1) ∧ w'.cell? ⟨gb171, 2, none⟩ = some (.bool a0_2) ∧ w'.cell? ⟨gb171, 3, none⟩ = some (.int .u64 a0_3) ∧ w'.cell? ⟨gb171, 4, none⟩ = some (.int .i64 a0_4)) ∧ (w'.heap[gb171]? = some (.cells #[.int .u64 a0_0, .int .u8 a0_1, .bool a0_2, .int .u64 a0_3, .int .i64 a0_4] 88 (0, 0))) ∧ (w'.heap[gb172]? = some (.cells #[.int .u64 a1_0, .int .u8 a1_1, .bool a1_2, .int .u64 a1_3, .int .i64 a1_4] 88 (0, 0))) ∧ (w'.heap[gb175]? = some (.cells #[.int .u64 t173, .int .u64 t174] 109 (0, 0))) ∧ (w'.heap[s_]? = some (.cells #[.int .u64 0, .int .u64 0] 109 (0, 0))) ∧ (w.heap.size ≤ s_) ∧ (w.heap.size ≤ s_) ∧ (gb171 ≠ s_) ∧ (s_ ≠ gb171) ∧ (gb172 ≠ s_) ∧ (s_ ≠ gb172) ∧ (gb175 ≠ s_) ∧ (s_ ≠ gb175) ∧ (Below w.heap.size w w')) ?_ ?_
  rotate_left
  ·intro hCont
   refine two_ (i := 3) (j := 13) (Ni := some 20) (Nj := some 9) #[true, true, true, true, true, true, true, true, true, false, false, false, false, false, false, false] #[true, true, true, false, true, true, true, true, true, false, false, false, false, true, false, false] rfl rfl rfl rfl (two_of HT_.out (by kernel_rfl)) (by decide) (by decide) (fun K hK => ?_) (fun K hK => ?_)
   ·skip
    refine zgA Try.func106 (wide_U128_Shl.calls k 0 a1_3 70 t176 t177 _ A5.out) (h := ?_)
    rintro w21 hb
    refine zcn3 HB BK171 BK172 BK175 hb (c := ?_)
    clear HB BK171 BK172 BK175 hb
    intro BK171 BK172 BK175 HB
    refine hK.out _ _ (zk5 BK172 (ze5 BK171)) (fun hHeld => ?_)
    clear hK K
    refine znA 20 (h := ?_)
    refine two_ (i := 9) (j := 13) (Ni := some 26) (Nj := some 9) #[true, true, true, true, true, true, true, true, true, true, false, false, false, false, false, false] #[true, true, true, true, true, true, true, true, true, false, false, false, false, true, false, false] rfl rfl rfl rfl (two_of HT_.out (by kernel_rfl)) (by decide) (by decide) (fun K hK => ?_) (fun K hK => ?_)
    ·skip
     refine zgA Try.func151 (wide_U128_Shr.calls k t176 t177 (wrap64 (a0_4 - a1_4)) t178 t179 t180 _ A6.out) (h := ?_)
     rintro w22 hb
     refine zcn3 HB BK171 BK172 BK175 hb (c := ?_)
     clear HB BK171 BK172 BK175 hb
     intro BK171 BK172 BK175 HB
     refine hK.out _ _ (zk5 BK172 (ze5 BK171)) (fun hHeld => ?_)
     clear hK K
     refine znA 26 (h := ?_)
     refine zpA 10 16 (h := ?_)
     refine zpA 11 27 (h := ?_)
     refine zpA 12 28 (h := ?_)
     refine zoA 13 9 (h := fun K hK => ?_)
     refine box_step ?hg (N := 9) ?hd (cs := #[.int .u64 0, .int .u64 0]) (t := 109) ?hr ?_; (case hd => rfl); (case hg => rfl); (case hr => first | (go_simp; done) | (go_simp; rfl))
     intro gb181 hg w23 hbox hb
     refine zbn3 HB BK171 BK172 BK175 hg hb hbox (c := ?_)
     clear HB BK171 BK172 BK175 hb hbox hg
     intro GW181 NB171_181 NB172_181 NB175_181 BK171 BK172 BK175 HB BK181
     refine hK.out _ _ (zk5 BK172 (ze5 BK171)) (fun hHeld => ?_)
     clear hK K
     refine znA 9 (h := ?_)
     exact norm_ (by simp only [putAll, Act.put, List.setIfInBounds_toArray, List.set_cons_zero, List.set_cons_succ]) (hCont (gb181) _ ⟨hHeld, (zkq BK171), (zkq BK172), (zkq BK175), (zkq BK181), GW181.out, GW181.out, NB171_181.out, (zks NB171_181).out, NB172_181.out, (zks NB172_181).out, NB175_181.out, (zks NB175_181).out, zaB⟩)
    skip
    refine box_step ?hg (N := 9) ?hd (cs := #[.int .u64 0, .int .u64 0]) (t := 109) ?hr ?_; (case hd => rfl); (case hg => rfl); (case hr => first | (go_simp; done) | (go_simp; rfl))
    intro gb181 hg w22 hbox hb
    refine zbn3 HB BK171 BK172 BK175 hg hb hbox (c := ?_)
    clear HB BK171 BK172 BK175 hb hbox hg
    intro GW181 NB171_181 NB172_181 NB175_181 BK171 BK172 BK175 HB BK181
    refine hK.out _ _ (zk5 BK172 (ze5 BK171)) (fun hHeld => ?_)
    clear hK K
    refine znA 9 (h := ?_)
    refine zoA 9 26 (h := fun K hK => ?_)
    refine zgA Try.func151 (wide_U128_Shr.calls k t176 t177 (wrap64 (a0_4 - a1_4)) t178 t179 t180 _ A6.out) (h := ?_)
    rintro w23 hb
    refine zcn4 HB BK171 BK172 BK175 BK181 hb (c := ?_)
    clear HB BK171 BK172 BK175 BK181 hb
    intro BK171 BK172 BK175 BK181 HB
    refine hK.out _ _ (zk5 BK172 (ze5 BK171)) (fun hHeld => ?_)
    clear hK K
    refine znA 26 (h := ?_)
    refine zpA 10 16 (h := ?_)
    refine zpA 11 27 (h := ?_)
    refine zpA 12 28 (h := ?_)
    exact norm_ (by simp only [putAll, Act.put, List.setIfInBounds_toArray, List.set_cons_zero, List.set_cons_succ]) (hCont (gb181) _ ⟨hHeld, (zkq BK171), (zkq BK172), (zkq BK175), (zkq BK181), GW181.out, GW181.out, NB171_181.out, (zks NB171_181).out, NB172_181.out, (zks NB172_181).out, NB175_181.out, (zks NB175_181).out, zaB⟩)
   skip
   refine box_step ?hg (N := 9) ?hd (cs := #[.int .u64 0, .int .u64 0]) (t := 109) ?hr ?_; (case hd => rfl); (case hg => rfl); (case hr => first | (go_simp; done) | (go_simp; rfl))
   intro gb181 hg w21 hbox hb
   refine zbn3 HB BK171 BK172 BK175 hg hb hbox (c := ?_)
   clear HB BK171 BK172 BK175 hb hbox hg
   intro GW181 NB171_181 NB172_181 NB175_181 BK171 BK172 BK175 HB BK181
   refine hK.out _ _ (zk5 BK172 (ze5 BK171)) (fun hHeld => ?_)
   clear hK K
   refine znA 9 (h := ?_)
   refine zoA 3 20 (h := fun K hK => ?_)
   refine zgA Try.func106 (wide_U128_Shl.calls k 0 a1_3 70 t176 t177 _ A5.out) (h := ?_)
   rintro w22 hb
   refine zcn4 HB BK171 BK172 BK175 BK181 hb (c := ?_)
   clear HB BK171 BK172 BK175 BK181 hb
   intro BK171 BK172 BK175 BK181 HB
   refine hK.out _ _ (zk5 BK172 (ze5 BK171)) (fun hHeld => ?_)
   clear hK K
   refine znA 20 (h := ?_)
   refine zoA 9 26 (h := fun K hK => ?_)
   refine zgA Try.func151 (wide_U128_Shr.calls k t176 t177 (wrap64 (a0_4 - a1_4)) t178 t179 t180 _ A6.out) (h := ?_)
   rintro w23 hb
   refine zcn4 HB BK171 BK172 BK175 BK181 hb (c := ?_)
   clear HB BK171 BK172 BK175 BK181 hb
   intro BK171 BK172 BK175 BK181 HB
   refine hK.out _ _ (zk5 BK172 (ze5 BK171)) (fun hHeld => ?_)
   clear hK K
   refine znA 26 (h := ?_)
   refine zpA 10 16 (h := ?_)
   refine zpA 11 27 (h := ?_)
   refine zpA 12 28 (h := ?_)
   exact norm_ (by simp only [putAll, Act.put, List.setIfInBounds_toArray, List.set_cons_zero, List.set_cons_succ]) (hCont (gb181) _ ⟨hHeld, (zkq BK171), (zkq BK172), (zkq BK175), (zkq BK181), GW181.out, GW181.out, NB171_181.out, (zks NB171_181).out, NB172_181.out, (zks NB172_181).out, NB175_181.out, (zks NB175_181).out, zaB⟩)
  rintro gb181 w24 ⟨hS_, h0_, h1_, h2_, h3_, h4_, h5_, h6_, h7_, h8_, h9_, h10_, h11_, h12_⟩
  have n0_ : Aside0 (w24.heap[gb171]? = some (.cells #[.int .u64 a0_0, .int .u8 a0_1, .bool a0_2, .int .u64 a0_3, .int .i64 a0_4] 88 (0, 0))) := ⟨h0_⟩
  have n1_ : Aside0 (w24.heap[gb172]? = some (.cells #[.int .u64 a1_0, .int .u8 a1_1, .bool a1_2, .int .u64 a1_3, .int .i64 a1_4] 88 (0, 0))) := ⟨h1_⟩
  have n2_ : Aside0 (w24.heap[gb175]? = some (.cells #[.int .u64 t173, .int .u64 t174] 109 (0, 0))) := ⟨h2_⟩
  have n3_ : Aside0 (w24.heap[gb181]? = some (.cells #[.int .u64 0, .int .u64 0] 109 (0, 0))) := ⟨h3_⟩
  have n4_ : Aside0 (w.heap.size ≤ gb181) := ⟨h4_⟩
  have n5_ : Aside0 (w.heap.size ≤ gb181) := ⟨h5_⟩
  have n6_ : Aside0 (gb171 ≠ gb181) := ⟨h6_⟩
  have n7_ : Aside0 (gb181 ≠ gb171) := ⟨h7_⟩
  have n8_ : Aside0 (gb172 ≠ gb181) := ⟨h8_⟩
  have n9_ : Aside0 (gb181 ≠ gb172) := ⟨h9_⟩
  have n10_ : Aside0 (gb175 ≠ gb181) := ⟨h10_⟩
  have n11_ : Aside0 (gb181 ≠ gb175) := ⟨h11_⟩
  have n12_ : Aside0 (Below w.heap.size w w24) := ⟨h12_⟩
  clear BK171
  clear BK172
  clear BK175
  clear HB
  clear h0_ h1_ h2_ h3_ h4_ h5_ h6_ h7_ h8_ h9_ h10_ h11_ h12_
  have BK171 := n0_
  have BK172 := n1_
  have BK175 := n2_
  have BK181 := n3_
  have GW181 := n4_
  have GW181 := n5_
  have NB171_181 := n6_
  have NB181_171 := n7_
  have NB172_181 := n8_
  have NB181_172 := n9_
  have NB175_181 := n10_
  have NB181_175 := n11_
  have HB := n12_
  clear n0_ n1_ n2_ n3_ n4_ n5_ n6_ n7_ n8_ n9_ n10_ n11_ n12_
  have hHeld : w24.cell? ⟨gb172, 0, none⟩ = some (.int .u64 a1_0) ∧ w24.cell? ⟨gb172, 1, none⟩ = some (.int .u8 a1_1) ∧ w24.cell? ⟨gb172, 2, none⟩ = some (.bool a1_2) ∧ w24.cell? ⟨gb172, 3, none⟩ = some (.int .u64 a1_3) ∧ w24.cell? ⟨gb172, 4, none⟩ = some (.int .i64 a1_4) ∧ w24.cell? ⟨gb171, 0, none⟩ = some (.int .u64 a0_0) ∧ w24.cell? ⟨gb171, 1, none⟩ = some (.int .u8 a0_1) ∧ w24.cell? ⟨gb171, 2, none⟩ = some (.bool a0_2) ∧ w24.cell? ⟨gb171, 3, none⟩ = some (.int .u64 a0_3) ∧ w24.cell? ⟨gb171, 4, none⟩ = some (.int .i64 a0_4) := hS_
  refine norm_ (a' := ?_) ?_ ?_
  rotate_left
  ·simp only [putAll, Act.put, List.setIfInBounds_toArray, List.set_cons_zero, List.set_cons_succ]
   rfl
  refine one_ (i := 14) (N := none) #[true, true, true, true, true, true, true, true, true, true, true, true, true, true, true, false] rfl rfl (one_of HT_.out (by kernel_rfl)) (by decide) (fun K hK => ?_)
  have hs25 := zc0 BK181
  have hfs25 := blk_frozen BK181.out 0
  refine zt3 NB171_181 NB172_181 NB175_181 fun _ _ _ _ _ _ => ?_
  have hs26 := zc1 BK181
  have hfs26 := blk_frozen BK181.out 1
  refine zt3 NB171_181 NB172_181 NB175_181 fun _ _ _ _ _ _ => ?_
  refine skip_ (w1 := ?_) (by rfl) rfl ?_ ?_
  rotate_left
  ·go_simp
   rfl
  refine hK.out _ _ ⟨(zff NB172_181 (zff NB172_181 hHeld.1)), (zff NB172_181 (zff NB172_181 hHeld.2.1)), (zff NB172_181 (zff NB172_181 hHeld.2.2.1)), (zff NB172_181 (zff NB172_181 hHeld.2.2.2.1)), (zff NB172_181 (zff NB172_181 hHeld.2.2.2.2.1)), (zff NB171_181 (zff NB171_181 hHeld.2.2.2.2.2.1)), (zff NB171_181 (zff NB171_181 hHeld.2.2.2.2.2.2.1)), (zff NB171_181 (zff NB171_181 hHeld.2.2.2.2.2.2.2.1)), (zff NB171_181 (zff NB171_181 hHeld.2.2.2.2.2.2.2.2.1)), (zff NB171_181 (zff NB171_181 hHeld.2.2.2.2.2.2.2.2.2))⟩ (fun hHeld => ?_)
  clear hK K
  refine zpA 15 10 (h := ?_)
  refine done_ (done_of HT_.out (by kernel_rfl)) ?_
  try go_wp2_with (first | ((with_reducible refine gtd 11 rfl ?_); refine zbx 11 #[.int .u64 0, .int .u64 0] 109 (h := ?_); intro gb182 hg w27 hbox hb; have GW182 := zkZ hg (below_set (below_set HB.out GW181.out) GW181.out); have NB171_182 := zkL hg (zkf (zkf BK171.out NB171_181.out _) NB171_181.out _); have NB172_182 := zkL hg (zkf (zkf BK172.out NB172_181.out _) NB172_181.out _); have NB175_182 := zkL hg (zkf (zkf BK175.out NB175_181.out _) NB175_181.out _); have NB181_182 := zkL hg (ob := .cells #[.int .u64 t178, .int .u64 t179] 109 (0, 0)) (blk_put (cs := #[.int .u64 t178, .int .u64 0]) (blk_put BK181.out 0 _ rfl) 1 _ rfl); replace BK171 := Aside0.mk (blk_below (zkf (zkf BK171.out NB171_181.out _) NB171_181.out _) hb); replace BK172 := Aside0.mk (blk_below (zkf (zkf BK172.out NB172_181.out _) NB172_181.out _) hb); replace BK175 := Aside0.mk (blk_below (zkf (zkf BK175.out NB175_181.out _) NB175_181.out _) hb); replace BK181 := Aside0.mk (blk_below (o := .cells #[.int .u64 t178, .int .u64 t179] 109 (0, 0)) (blk_put (cs := #[.int .u64 t178, .int .u64 0]) (blk_put BK181.out 0 _ rfl) 1 _ rfl) hb); replace HB := Aside0.mk (below_step (below_set (below_set HB.out GW181.out) GW181.out) hb); have BK182 := Aside0.mk (hbox); clear hb hbox hg; refine zt2 NB171_181 NB171_182 fun _ _ _ _ => ?_; refine zu5 BK171 fun _ _ _ _ _ _ _ _ _ _ => ?_; refine zt2 NB172_181 NB172_182 fun _ _ _ _ => ?_; refine zu5 BK172 fun _ _ _ _ _ _ _ _ _ _ => ?_; refine zt2 NB175_181 NB175_182 fun _ _ _ _ => ?_; refine zu2 BK175 fun _ _ _ _ => ?_; refine zt1 NB181_182 fun _ _ => ?_; refine zu2 BK181 fun _ _ _ _ => ?_) | ((with_reducible refine gtc 152 rfl ?_); refine zgL 37 Try.func152 (wide_U128_Add.calls t173 t174 t178 t179 t183 t184 t185 _ A8.out) (h := ?_); rintro w39 hb; refine zcn5 HB BK171 BK172 BK175 BK181 BK182 hb (c := ?_); clear HB BK171 BK172 BK175 BK181 BK182 hb; intro BK171 BK172 BK175 BK181 BK182 HB; refine zu2 BK182 fun _ _ _ _ => ?_; refine zu5 BK171 fun _ _ _ _ _ _ _ _ _ _ => ?_) | ((with_reducible refine gtc 99 rfl ?_); refine zgL 67 Try.func99 (round_Round.calls k a0_2 t183 t184 (wrap64 (a0_4 - 70)) t180 a2 t186 t187 _ A9.out) (h := ?_); rintro w42 hb; replace BK171 := Aside0.mk (blk_below (zkf (zkf BK171.out NB171_182.out _) NB171_182.out _) hb); replace BK172 := Aside0.mk (blk_below (zkf (zkf BK172.out NB172_182.out _) NB172_182.out _) hb); replace BK175 := Aside0.mk (blk_below (zkf (zkf BK175.out NB175_182.out _) NB175_182.out _) hb); replace BK181 := Aside0.mk (blk_below (zkf (zkf BK181.out NB181_182.out _) NB181_182.out _) hb); replace BK182 := Aside0.mk (blk_below (o := .cells #[.int .u64 t183, .int .u64 t184] 109 (0, 0)) (blk_put (cs := #[.int .u64 t183, .int .u64 0]) (blk_put BK182.out 0 _ rfl) 1 _ rfl) hb); replace HB := Aside0.mk (below_step (below_set (below_set HB.out GW182.out) GW182.out) hb); (try clear hb)))
  go_ret2
  exact ⟨zaE, zaB⟩
 rw [if_neg c7] at H
 have c7b0 : (a0_2 == a1_2) = false := by simpa using c7
 (try (have c7b1 : decide (a0_2 = a1_2) = false := by simpa using c7))
 (try (have c7b2 : (a0_2 == a1_2) = false := by simpa using c7))
 (try (have c7b3 : ¬ (a0_2 = a1_2) := by simpa using c7))
 clear c7
 obtain ⟨⟨t188, t189, t190⟩, A43, H⟩ := zbs H
 try dsimp only at H
 by_cases c44 : (t188 == 0 && (t189 == 0)) = true
 ·rw [if_pos c44] at H
  have c44b0 : (t188 == 0 && (t189 == 0)) = true := c44
  (try (have c44b1 : decide (t188 = 0 && (t189 == 0)) = true := by simpa using c44))
  (try (have c44b2 : (t188 == 0 && (t189 == 0)) = true := by simpa using c44))
  clear c44
  obtain ⟨t191, A45, H⟩ := zbs H
  try dsimp only at H
  simp only [Option.some.injEq, Prod.mk.injEq] at H
  obtain ⟨rfl, rfl⟩ := H
  go_enter Try.func86, Try.ntmps86
  try go_wp2_with (first | ((with_reducible refine gtd 3 rfl ?_); refine zbx 3 #[.int .u64 a0_0, .int .u8 a0_1, .bool a0_2, .int .u64 a0_3, .int .i64 a0_4] 88 (h := ?_); intro gb171 hg w46 hbox hb; have GW171 := zkZ hg (zaB (p := Below w.heap.size w _)); replace HB := Aside0.mk (below_step zaB hb); have BK171 := Aside0.mk (hbox); clear hb hbox hg) | ((with_reducible refine gtd 4 rfl ?_); refine zbx 4 #[.int .u64 a1_0, .int .u8 a1_1, .bool a1_2, .int .u64 a1_3, .int .i64 a1_4] 88 (h := ?_); intro gb172 hg w47 hbox hb; refine zbn1 HB BK171 hg hb hbox (c := ?_); clear HB BK171 hb hbox hg; intro GW172 NB171_172 BK171 HB BK172; refine zt1 NB171_172 fun _ _ => ?_; refine zu5 BK171 fun _ _ _ _ _ _ _ _ _ _ => ?_) | ((with_reducible refine gtc 106 rfl ?_); refine zgL 15 Try.func106 (wide_U128_Shl.calls k 0 a0_3 70 t173 t174 _ A4.out) (h := ?_); rintro w50 hb; refine zcn2 HB BK171 BK172 hb (c := ?_); clear HB BK171 BK172 hb; intro BK171 BK172 HB) | ((with_reducible refine gtd 8 rfl ?_); refine zbx 8 #[.int .u64 0, .int .u64 0] 109 (h := ?_); intro gb175 hg w51 hbox hb; refine zbn2 HB BK171 BK172 hg hb hbox (c := ?_); clear HB BK171 BK172 hb hbox hg; intro GW175 NB171_175 NB172_175 BK171 BK172 HB BK175; refine zt2 NB171_175 NB172_175 fun _ _ _ _ => ?_; refine zu2 BK175 fun _ _ _ _ => ?_))
  generalize hW_ : ((w51.setCell ⟨gb175, 0, none⟩ (.int .u64 t173)).setCell ⟨gb175, 1, none⟩ (.int .u64 t174)) = w55
  replace BK171 := zkg hW_ (zkf (zkf BK171.out NB171_175.out _) NB171_175.out _)
  replace BK172 := zkg hW_ (zkf (zkf BK172.out NB172_175.out _) NB172_175.out _)
  replace BK175 := zkg hW_ (ob := .cells #[.int .u64 t173, .int .u64 t174] 109 (0, 0)) (blk_put (cs := #[.int .u64 t173, .int .u64 0]) (blk_put BK175.out 0 _ rfl) 1 _ rfl)
  replace HB := zkG hW_ (below_set (below_set HB.out GW175.out) GW175.out)
  clear hW_
  replace BK171 := Aside0.mk (blk_drew BK171.out)
  replace BK172 := Aside0.mk (blk_drew BK172.out)
  replace BK175 := Aside0.mk (blk_drew BK175.out)
  replace HB := Aside0.mk (below_drew1 HB.out)
  refine start_ (n := 16) (S := fun w' => w'.cell? ⟨gb172, 0, none⟩ = some (.int .u64 a1_0) ∧ w'.cell? ⟨gb172, 1, none⟩ = some (.int .u8 a1_1) ∧ w'.cell? ⟨gb172, 2, none⟩ = some (.bool a1_2) ∧ w'.cell? ⟨gb172, 3, none⟩ = some (.int .u64 a1_3) ∧ w'.cell? ⟨gb172, 4, none⟩ = some (.int .i64 a1_4) ∧ w'.cell? ⟨gb171, 0, none⟩ = some (.int .u64 a0_0) ∧ w'.cell? ⟨gb171, 1, none⟩ = some (.int .u8 a0_1) ∧ w'.cell? ⟨gb171, 2, none⟩ = some (.bool a0_2) ∧ w'.cell? ⟨gb171, 3, none⟩ = some (.int .u64 a0_3) ∧ w'.cell? ⟨gb171, 4, none⟩ = some (.int .i64 a0_4)) (ds := []) #[false, false, false, false, false, false, false, false, false, false, false, false, false, false, false, false] (by kernel_rfl) rfl rfl (zk5 BK172 (ze5 BK171)) (fun hHeld => ?_); refine with_tabW soft_num_add.tab2 soft_num_add.bits2 (fun HT_ HW_ => ?_)
  generalize w55.drew = w56 at BK171 BK172 BK175 HB hHeld ⊢
  refine zpA 0 17 (h := ?_)
  refine zpA 4 21 (h := ?_)
  refine zpA 6 23 (h := ?_)
  refine ztA 1 18 (h := ?_)
  refine zpA 2 19 (h := ?_)
  refine ztA 5 22 (h := ?_)
  refine ztA 7 24 (h := ?_)
  refine zpA 8 25 (h := ?_)
  refine join_ (σ := Nat) 2 #[true, true, true, true, true, true, true, true, true, true, true, true, true, true, false, false] (fun s_ => [(20, .agg #[.int .u64 t176, .int .u64 t177]), (26, .tuple #[.agg #[.int .u64 t178, .int .u64 t179], .bool t180]), (9, .pointer (some ⟨s_, 0, none⟩)), (16, .tuple #[.agg #[.int .u64 t178, .int .u64 t179], .bool t180]), (27, .agg #[.int .u64 t178, .int .u64 t179]), (28, .bool t180)]) (fun s_ w' => (w'.cell? ⟨gb172, 0, none⟩ = some (.int .u64 a1_0) ∧ w'.cell? ⟨gb172, 1, none⟩ = some (.int .u8 a1_1) ∧ w'.cell? ⟨gb172, 2, none⟩ = some (.bool a1_2) ∧ w'.cell? ⟨gb172, 3, none⟩ = some (.int .u64 a1_3) ∧ w'.cell? ⟨gb172, 4, none⟩ = some (.int .i64 a1_4) ∧ w'.cell? ⟨gb171, 0, none⟩ = some (.int .u64 a0_0) ∧ w'.cell? ⟨gb171, 1, none⟩ = some (.int .u8 a0_1) ∧ w'.cell? ⟨gb171, 2, none⟩ = some (.bool a0_2) ∧ w'.cell? ⟨gb171, 3, none⟩ = some (.int .u64 a0_3) ∧ w'.cell? ⟨gb171, 4, none⟩ = some (.int .i64 a0_4)) ∧ (w'.heap[gb171]? = some (.cells #[.int .u64 a0_0, .int .u8 a0_1, .bool a0_2, .int .u64 a0_3, .int .i64 a0_4] 88 (0, 0))) ∧ (w'.heap[gb172]? = some (.cells #[.int .u64 a1_0, .int .u8 a1_1, .bool a1_2, .int .u64 a1_3, .int .i64 a1_4] 88 (0, 0))) ∧ (w'.heap[gb175]? = some (.cells #[.int .u64 t173, .int .u64 t174] 109 (0, 0))) ∧ (w'.heap[s_]? = some (.cells #[.int .u64 0, .int .u64 0] 109 (0, 0))) ∧ (w.heap.size ≤ s_) ∧ (w.heap.size ≤ s_) ∧ (gb171 ≠ s_) ∧ (s_ ≠ gb171) ∧ (gb172 ≠ s_) ∧ (s_ ≠ gb172) ∧ (gb175 ≠ s_) ∧ (s_ ≠ gb175) ∧ (Below w.heap.size w w')) ?_ ?_
  rotate_left
  ·intro hCont
   refine two_ (i := 3) (j := 13) (Ni := some 20) (Nj := some 9) #[true, true, true, true, true, true, true, true, true, false, false, false, false, false, false, false] #[true, true, true, false, true, true, true, true, true, false, false, false, false, true, false, false] rfl rfl rfl rfl (two_of HT_.out (by kernel_rfl)) (by decide) (by decide) (fun K hK => ?_) (fun K hK => ?_)
   ·skip
    refine zgA Try.func106 (wide_U128_Shl.calls k 0 a1_3 70 t176 t177 _ A5.out) (h := ?_)
    rintro w57 hb
    refine zcn3 HB BK171 BK172 BK175 hb (c := ?_)
    clear HB BK171 BK172 BK175 hb
    intro BK171 BK172 BK175 HB
    refine hK.out _ _ (zk5 BK172 (ze5 BK171)) (fun hHeld => ?_)
    clear hK K
    refine znA 20 (h := ?_)
    refine two_ (i := 9) (j := 13) (Ni := some 26) (Nj := some 9) #[true, true, true, true, true, true, true, true, true, true, false, false, false, false, false, false] #[true, true, true, true, true, true, true, true, true, false, false, false, false, true, false, false] rfl rfl rfl rfl (two_of HT_.out (by kernel_rfl)) (by decide) (by decide) (fun K hK => ?_) (fun K hK => ?_)
    ·skip
     refine zgA Try.func151 (wide_U128_Shr.calls k t176 t177 (wrap64 (a0_4 - a1_4)) t178 t179 t180 _ A6.out) (h := ?_)
     rintro w58 hb
     refine zcn3 HB BK171 BK172 BK175 hb (c := ?_)
     clear HB BK171 BK172 BK175 hb
     intro BK171 BK172 BK175 HB
     refine hK.out _ _ (zk5 BK172 (ze5 BK171)) (fun hHeld => ?_)
     clear hK K
     refine znA 26 (h := ?_)
     refine zpA 10 16 (h := ?_)
     refine zpA 11 27 (h := ?_)
     refine zpA 12 28 (h := ?_)
     refine zoA 13 9 (h := fun K hK => ?_)
     refine box_step ?hg (N := 9) ?hd (cs := #[.int .u64 0, .int .u64 0]) (t := 109) ?hr ?_; (case hd => rfl); (case hg => rfl); (case hr => first | (go_simp; done) | (go_simp; rfl))
     intro gb181 hg w59 hbox hb
     refine zbn3 HB BK171 BK172 BK175 hg hb hbox (c := ?_)
     clear HB BK171 BK172 BK175 hb hbox hg
     intro GW181 NB171_181 NB172_181 NB175_181 BK171 BK172 BK175 HB BK181
     refine hK.out _ _ (zk5 BK172 (ze5 BK171)) (fun hHeld => ?_)
     clear hK K
     refine znA 9 (h := ?_)
     exact norm_ (by simp only [putAll, Act.put, List.setIfInBounds_toArray, List.set_cons_zero, List.set_cons_succ]) (hCont (gb181) _ ⟨hHeld, (zkq BK171), (zkq BK172), (zkq BK175), (zkq BK181), GW181.out, GW181.out, NB171_181.out, (zks NB171_181).out, NB172_181.out, (zks NB172_181).out, NB175_181.out, (zks NB175_181).out, zaB⟩)
    skip
    refine box_step ?hg (N := 9) ?hd (cs := #[.int .u64 0, .int .u64 0]) (t := 109) ?hr ?_; (case hd => rfl); (case hg => rfl); (case hr => first | (go_simp; done) | (go_simp; rfl))
    intro gb181 hg w58 hbox hb
    refine zbn3 HB BK171 BK172 BK175 hg hb hbox (c := ?_)
    clear HB BK171 BK172 BK175 hb hbox hg
    intro GW181 NB171_181 NB172_181 NB175_181 BK171 BK172 BK175 HB BK181
    refine hK.out _ _ (zk5 BK172 (ze5 BK171)) (fun hHeld => ?_)
    clear hK K
    refine znA 9 (h := ?_)
    refine zoA 9 26 (h := fun K hK => ?_)
    refine zgA Try.func151 (wide_U128_Shr.calls k t176 t177 (wrap64 (a0_4 - a1_4)) t178 t179 t180 _ A6.out) (h := ?_)
    rintro w59 hb
    refine zcn4 HB BK171 BK172 BK175 BK181 hb (c := ?_)
    clear HB BK171 BK172 BK175 BK181 hb
    intro BK171 BK172 BK175 BK181 HB
    refine hK.out _ _ (zk5 BK172 (ze5 BK171)) (fun hHeld => ?_)
    clear hK K
    refine znA 26 (h := ?_)
    refine zpA 10 16 (h := ?_)
    refine zpA 11 27 (h := ?_)
    refine zpA 12 28 (h := ?_)
    exact norm_ (by simp only [putAll, Act.put, List.setIfInBounds_toArray, List.set_cons_zero, List.set_cons_succ]) (hCont (gb181) _ ⟨hHeld, (zkq BK171), (zkq BK172), (zkq BK175), (zkq BK181), GW181.out, GW181.out, NB171_181.out, (zks NB171_181).out, NB172_181.out, (zks NB172_181).out, NB175_181.out, (zks NB175_181).out, zaB⟩)
   skip
   refine box_step ?hg (N := 9) ?hd (cs := #[.int .u64 0, .int .u64 0]) (t := 109) ?hr ?_; (case hd => rfl); (case hg => rfl); (case hr => first | (go_simp; done) | (go_simp; rfl))
   intro gb181 hg w57 hbox hb
   refine zbn3 HB BK171 BK172 BK175 hg hb hbox (c := ?_)
   clear HB BK171 BK172 BK175 hb hbox hg
   intro GW181 NB171_181 NB172_181 NB175_181 BK171 BK172 BK175 HB BK181
   refine hK.out _ _ (zk5 BK172 (ze5 BK171)) (fun hHeld => ?_)
   clear hK K
   refine znA 9 (h := ?_)
   refine zoA 3 20 (h := fun K hK => ?_)
   refine zgA Try.func106 (wide_U128_Shl.calls k 0 a1_3 70 t176 t177 _ A5.out) (h := ?_)
   rintro w58 hb
   refine zcn4 HB BK171 BK172 BK175 BK181 hb (c := ?_)
   clear HB BK171 BK172 BK175 BK181 hb
   intro BK171 BK172 BK175 BK181 HB
   refine hK.out _ _ (zk5 BK172 (ze5 BK171)) (fun hHeld => ?_)
   clear hK K
   refine znA 20 (h := ?_)
   refine zoA 9 26 (h := fun K hK => ?_)
   refine zgA Try.func151 (wide_U128_Shr.calls k t176 t177 (wrap64 (a0_4 - a1_4)) t178 t179 t180 _ A6.out) (h := ?_)
   rintro w59 hb
   refine zcn4 HB BK171 BK172 BK175 BK181 hb (c := ?_)
   clear HB BK171 BK172 BK175 BK181 hb
   intro BK171 BK172 BK175 BK181 HB
   refine hK.out _ _ (zk5 BK172 (ze5 BK171)) (fun hHeld => ?_)
   clear hK K
   refine znA 26 (h := ?_)
   refine zpA 10 16 (h := ?_)
   refine zpA 11 27 (h := ?_)
   refine zpA 12 28 (h := ?_)
   exact norm_ (by simp only [putAll, Act.put, List.setIfInBounds_toArray, List.set_cons_zero, List.set_cons_succ]) (hCont (gb181) _ ⟨hHeld, (zkq BK171), (zkq BK172), (zkq BK175), (zkq BK181), GW181.out, GW181.out, NB171_181.out, (zks NB171_181).out, NB172_181.out, (zks NB172_181).out, NB175_181.out, (zks NB175_181).out, zaB⟩)
  rintro gb181 w60 ⟨hS_, h0_, h1_, h2_, h3_, h4_, h5_, h6_, h7_, h8_, h9_, h10_, h11_, h12_⟩
  have n0_ : Aside0 (w60.heap[gb171]? = some (.cells #[.int .u64 a0_0, .int .u8 a0_1, .bool a0_2, .int .u64 a0_3, .int .i64 a0_4] 88 (0, 0))) := ⟨h0_⟩
  have n1_ : Aside0 (w60.heap[gb172]? = some (.cells #[.int .u64 a1_0, .int .u8 a1_1, .bool a1_2, .int .u64 a1_3, .int .i64 a1_4] 88 (0, 0))) := ⟨h1_⟩
  have n2_ : Aside0 (w60.heap[gb175]? = some (.cells #[.int .u64 t173, .int .u64 t174] 109 (0, 0))) := ⟨h2_⟩
  have n3_ : Aside0 (w60.heap[gb181]? = some (.cells #[.int .u64 0, .int .u64 0] 109 (0, 0))) := ⟨h3_⟩
  have n4_ : Aside0 (w.heap.size ≤ gb181) := ⟨h4_⟩
  have n5_ : Aside0 (w.heap.size ≤ gb181) := ⟨h5_⟩
  have n6_ : Aside0 (gb171 ≠ gb181) := ⟨h6_⟩
  have n7_ : Aside0 (gb181 ≠ gb171) := ⟨h7_⟩
  have n8_ : Aside0 (gb172 ≠ gb181) := ⟨h8_⟩
  have n9_ : Aside0 (gb181 ≠ gb172) := ⟨h9_⟩
  have n10_ : Aside0 (gb175 ≠ gb181) := ⟨h10_⟩
  have n11_ : Aside0 (gb181 ≠ gb175) := ⟨h11_⟩
  have n12_ : Aside0 (Below w.heap.size w w60) := ⟨h12_⟩
  clear BK171
  clear BK172
  clear BK175
  clear HB
  clear h0_ h1_ h2_ h3_ h4_ h5_ h6_ h7_ h8_ h9_ h10_ h11_ h12_
  have BK171 := n0_
  have BK172 := n1_
  have BK175 := n2_
  have BK181 := n3_
  have GW181 := n4_
  have GW181 := n5_
  have NB171_181 := n6_
  have NB181_171 := n7_
  have NB172_181 := n8_
  have NB181_172 := n9_
  have NB175_181 := n10_
  have NB181_175 := n11_
  have HB := n12_
  clear n0_ n1_ n2_ n3_ n4_ n5_ n6_ n7_ n8_ n9_ n10_ n11_ n12_
  have hHeld : w60.cell? ⟨gb172, 0, none⟩ = some (.int .u64 a1_0) ∧ w60.cell? ⟨gb172, 1, none⟩ = some (.int .u8 a1_1) ∧ w60.cell? ⟨gb172, 2, none⟩ = some (.bool a1_2) ∧ w60.cell? ⟨gb172, 3, none⟩ = some (.int .u64 a1_3) ∧ w60.cell? ⟨gb172, 4, none⟩ = some (.int .i64 a1_4) ∧ w60.cell? ⟨gb171, 0, none⟩ = some (.int .u64 a0_0) ∧ w60.cell? ⟨gb171, 1, none⟩ = some (.int .u8 a0_1) ∧ w60.cell? ⟨gb171, 2, none⟩ = some (.bool a0_2) ∧ w60.cell? ⟨gb171, 3, none⟩ = some (.int .u64 a0_3) ∧ w60.cell? ⟨gb171, 4, none⟩ = some (.int .i64 a0_4) := hS_
  refine norm_ (a' := ?_) ?_ ?_
  rotate_left
  ·simp only [putAll, Act.put, List.setIfInBounds_toArray, List.set_cons_zero, List.set_cons_succ]
   rfl
  refine one_ (i := 14) (N := none) #[true, true, true, true, true, true, true, true, true, true, true, true, true, true, true, false] rfl rfl (one_of HT_.out (by kernel_rfl)) (by decide) (fun K hK => ?_)
  have hs61 := zc0 BK181
  have hfs61 := blk_frozen BK181.out 0
  refine zt3 NB171_181 NB172_181 NB175_181 fun _ _ _ _ _ _ => ?_
  have hs62 := zc1 BK181
  have hfs62 := blk_frozen BK181.out 1
  refine zt3 NB171_181 NB172_181 NB175_181 fun _ _ _ _ _ _ => ?_
  refine skip_ (w1 := ?_) (by rfl) rfl ?_ ?_
  rotate_left
  ·go_simp
   rfl
  refine hK.out _ _ ⟨(zff NB172_181 (zff NB172_181 hHeld.1)), (zff NB172_181 (zff NB172_181 hHeld.2.1)), (zff NB172_181 (zff NB172_181 hHeld.2.2.1)), (zff NB172_181 (zff NB172_181 hHeld.2.2.2.1)), (zff NB172_181 (zff NB172_181 hHeld.2.2.2.2.1)), (zff NB171_181 (zff NB171_181 hHeld.2.2.2.2.2.1)), (zff NB171_181 (zff NB171_181 hHeld.2.2.2.2.2.2.1)), (zff NB171_181 (zff NB171_181 hHeld.2.2.2.2.2.2.2.1)), (zff NB171_181 (zff NB171_181 hHeld.2.2.2.2.2.2.2.2.1)), (zff NB171_181 (zff NB171_181 hHeld.2.2.2.2.2.2.2.2.2))⟩ (fun hHeld => ?_)
  clear hK K
  refine zpA 15 10 (h := ?_)
  refine done_ (done_of HT_.out (by kernel_rfl)) ?_
  try go_wp2_with (first | ((with_reducible refine gtd 11 rfl ?_); refine zbx 11 #[.int .u64 0, .int .u64 0] 109 (h := ?_); intro gb182 hg w63 hbox hb; have GW182 := zkZ hg (below_set (below_set HB.out GW181.out) GW181.out); have NB171_182 := zkL hg (zkf (zkf BK171.out NB171_181.out _) NB171_181.out _); have NB172_182 := zkL hg (zkf (zkf BK172.out NB172_181.out _) NB172_181.out _); have NB175_182 := zkL hg (zkf (zkf BK175.out NB175_181.out _) NB175_181.out _); have NB181_182 := zkL hg (ob := .cells #[.int .u64 t178, .int .u64 t179] 109 (0, 0)) (blk_put (cs := #[.int .u64 t178, .int .u64 0]) (blk_put BK181.out 0 _ rfl) 1 _ rfl); replace BK171 := Aside0.mk (blk_below (zkf (zkf BK171.out NB171_181.out _) NB171_181.out _) hb); replace BK172 := Aside0.mk (blk_below (zkf (zkf BK172.out NB172_181.out _) NB172_181.out _) hb); replace BK175 := Aside0.mk (blk_below (zkf (zkf BK175.out NB175_181.out _) NB175_181.out _) hb); replace BK181 := Aside0.mk (blk_below (o := .cells #[.int .u64 t178, .int .u64 t179] 109 (0, 0)) (blk_put (cs := #[.int .u64 t178, .int .u64 0]) (blk_put BK181.out 0 _ rfl) 1 _ rfl) hb); replace HB := Aside0.mk (below_step (below_set (below_set HB.out GW181.out) GW181.out) hb); have BK182 := Aside0.mk (hbox); clear hb hbox hg; refine zt2 NB171_181 NB171_182 fun _ _ _ _ => ?_; refine zu5 BK171 fun _ _ _ _ _ _ _ _ _ _ => ?_; refine zt2 NB172_181 NB172_182 fun _ _ _ _ => ?_; refine zu5 BK172 fun _ _ _ _ _ _ _ _ _ _ => ?_; refine zt2 NB175_181 NB175_182 fun _ _ _ _ => ?_; refine zu2 BK175 fun _ _ _ _ => ?_; refine zt1 NB181_182 fun _ _ => ?_; refine zu2 BK181 fun _ _ _ _ => ?_) | ((with_reducible refine gtc 153 rfl ?_); refine zgL 43 Try.func153 (wide_U128_Sub.calls t173 t174 t178 t179 t188 t189 t190 _ A43.out) (h := ?_); rintro w75 hb; refine zcn5 HB BK171 BK172 BK175 BK181 BK182 hb (c := ?_); clear HB BK171 BK172 BK175 BK181 BK182 hb; intro BK171 BK172 BK175 BK181 BK182 HB; refine zu2 BK182 fun _ _ _ _ => ?_) | ((with_reducible refine gtc 85 rfl ?_); refine zgL 51 Try.func85 (soft_zero.calls k (a2 == 2) t191 _ A45.out) (h := ?_); rintro w' ⟨nd, rfl⟩))
  go_ret2
  exact ⟨zaE, zaB⟩
 rw [if_neg c44] at H
 have c44b0 : (t188 == 0 && (t189 == 0)) = false := by simpa using c44
 (try (have c44b1 : decide (t188 = 0 && (t189 == 0)) = false := by simpa using c44))
 (try (have c44b2 : (t188 == 0 && (t189 == 0)) = false := by simpa using c44))
 (try (have c44b3 : ¬ (t188 = 0 && (t189 == 0)) := by simpa using c44))
 clear c44
 by_cases c77 : t180 = true
 ·subst c77
  replace H := zit H
  obtain ⟨⟨t192, t193, t194⟩, A78, H⟩ := zbs H
  try dsimp only at H
  obtain ⟨⟨t195, t196⟩, A79, H⟩ := zbs H
  try dsimp only at H
  simp only [Option.some.injEq, Prod.mk.injEq] at H
  obtain ⟨rfl, rfl⟩ := H
  go_enter Try.func86, Try.ntmps86
  try go_wp2_with (first | ((with_reducible refine gtd 3 rfl ?_); refine zbx 3 #[.int .u64 a0_0, .int .u8 a0_1, .bool a0_2, .int .u64 a0_3, .int .i64 a0_4] 88 (h := ?_); intro gb171 hg w80 hbox hb; have GW171 := zkZ hg (zaB (p := Below w.heap.size w _)); replace HB := Aside0.mk (below_step zaB hb); have BK171 := Aside0.mk (hbox); clear hb hbox hg) | ((with_reducible refine gtd 4 rfl ?_); refine zbx 4 #[.int .u64 a1_0, .int .u8 a1_1, .bool a1_2, .int .u64 a1_3, .int .i64 a1_4] 88 (h := ?_); intro gb172 hg w81 hbox hb; refine zbn1 HB BK171 hg hb hbox (c := ?_); clear HB BK171 hb hbox hg; intro GW172 NB171_172 BK171 HB BK172; refine zt1 NB171_172 fun _ _ => ?_; refine zu5 BK171 fun _ _ _ _ _ _ _ _ _ _ => ?_) | ((with_reducible refine gtc 106 rfl ?_); refine zgL 15 Try.func106 (wide_U128_Shl.calls k 0 a0_3 70 t173 t174 _ A4.out) (h := ?_); rintro w84 hb; refine zcn2 HB BK171 BK172 hb (c := ?_); clear HB BK171 BK172 hb; intro BK171 BK172 HB) | ((with_reducible refine gtd 8 rfl ?_); refine zbx 8 #[.int .u64 0, .int .u64 0] 109 (h := ?_); intro gb175 hg w85 hbox hb; refine zbn2 HB BK171 BK172 hg hb hbox (c := ?_); clear HB BK171 BK172 hb hbox hg; intro GW175 NB171_175 NB172_175 BK171 BK172 HB BK175; refine zt2 NB171_175 NB172_175 fun _ _ _ _ => ?_; refine zu2 BK175 fun _ _ _ _ => ?_))
  generalize hW_ : ((w85.setCell ⟨gb175, 0, none⟩ (.int .u64 t173)).setCell ⟨gb175, 1, none⟩ (.int .u64 t174)) = w89
  replace BK171 := zkg hW_ (zkf (zkf BK171.out NB171_175.out _) NB171_175.out _)
  replace BK172 := zkg hW_ (zkf (zkf BK172.out NB172_175.out _) NB172_175.out _)
  replace BK175 := zkg hW_ (ob := .cells #[.int .u64 t173, .int .u64 t174] 109 (0, 0)) (blk_put (cs := #[.int .u64 t173, .int .u64 0]) (blk_put BK175.out 0 _ rfl) 1 _ rfl)
  replace HB := zkG hW_ (below_set (below_set HB.out GW175.out) GW175.out)
  clear hW_
  replace BK171 := Aside0.mk (blk_drew BK171.out)
  replace BK172 := Aside0.mk (blk_drew BK172.out)
  replace BK175 := Aside0.mk (blk_drew BK175.out)
  replace HB := Aside0.mk (below_drew1 HB.out)
  refine start_ (n := 16) (S := fun w' => w'.cell? ⟨gb172, 0, none⟩ = some (.int .u64 a1_0) ∧ w'.cell? ⟨gb172, 1, none⟩ = some (.int .u8 a1_1) ∧ w'.cell? ⟨gb172, 2, none⟩ = some (.bool a1_2) ∧ w'.cell? ⟨gb172, 3, none⟩ = some (.int .u64 a1_3) ∧ w'.cell? ⟨gb172, 4, none⟩ = some (.int .i64 a1_4) ∧ w'.cell? ⟨gb171, 0, none⟩ = some (.int .u64 a0_0) ∧ w'.cell? ⟨gb171, 1, none⟩ = some (.int .u8 a0_1) ∧ w'.cell? ⟨gb171, 2, none⟩ = some (.bool a0_2) ∧ w'.cell? ⟨gb171, 3, none⟩ = some (.int .u64 a0_3) ∧ w'.cell? ⟨gb171, 4, none⟩ = some (.int .i64 a0_4)) (ds := []) #[false, false, false, false, false, false, false, false, false, false, false, false, false, false, false, false] (by kernel_rfl) rfl rfl (zk5 BK172 (ze5 BK171)) (fun hHeld => ?_); refine with_tabW soft_num_add.tab2 soft_num_add.bits2 (fun HT_ HW_ => ?_)
  generalize w89.drew = w90 at BK171 BK172 BK175 HB hHeld ⊢
  refine zpA 0 17 (h := ?_)
  refine zpA 4 21 (h := ?_)
  refine zpA 6 23 (h := ?_)
  refine ztA 1 18 (h := ?_)
  refine zpA 2 19 (h := ?_)
  refine ztA 5 22 (h := ?_)
  refine ztA 7 24 (h := ?_)
  refine zpA 8 25 (h := ?_)
  refine join_ (σ := Nat) 2 #[true, true, true, true, true, true, true, true, true, true, true, true, true, true, false, false] (fun s_ => [(20, .agg #[.int .u64 t176, .int .u64 t177]), (26, .tuple #[.agg #[.int .u64 t178, .int .u64 t179], .bool true]), (9, .pointer (some ⟨s_, 0, none⟩)), (16, .tuple #[.agg #[.int .u64 t178, .int .u64 t179], .bool true]), (27, .agg #[.int .u64 t178, .int .u64 t179]), (28, .bool true)]) (fun s_ w' => (w'.cell? ⟨gb172, 0, none⟩ = some (.int .u64 a1_0) ∧ w'.cell? ⟨gb172, 1, none⟩ = some (.int .u8 a1_1) ∧ w'.cell? ⟨gb172, 2, none⟩ = some (.bool a1_2) ∧ w'.cell? ⟨gb172, 3, none⟩ = some (.int .u64 a1_3) ∧ w'.cell? ⟨gb172, 4, none⟩ = some (.int .i64 a1_4) ∧ w'.cell? ⟨gb171, 0, none⟩ = some (.int .u64 a0_0) ∧ w'.cell? ⟨gb171, 1, none⟩ = some (.int .u8 a0_1) ∧ w'.cell? ⟨gb171, 2, none⟩ = some (.bool a0_2) ∧ w'.cell? ⟨gb171, 3, none⟩ = some (.int .u64 a0_3) ∧ w'.cell? ⟨gb171, 4, none⟩ = some (.int .i64 a0_4)) ∧ (w'.heap[gb171]? = some (.cells #[.int .u64 a0_0, .int .u8 a0_1, .bool a0_2, .int .u64 a0_3, .int .i64 a0_4] 88 (0, 0))) ∧ (w'.heap[gb172]? = some (.cells #[.int .u64 a1_0, .int .u8 a1_1, .bool a1_2, .int .u64 a1_3, .int .i64 a1_4] 88 (0, 0))) ∧ (w'.heap[gb175]? = some (.cells #[.int .u64 t173, .int .u64 t174] 109 (0, 0))) ∧ (w'.heap[s_]? = some (.cells #[.int .u64 0, .int .u64 0] 109 (0, 0))) ∧ (w.heap.size ≤ s_) ∧ (w.heap.size ≤ s_) ∧ (gb171 ≠ s_) ∧ (s_ ≠ gb171) ∧ (gb172 ≠ s_) ∧ (s_ ≠ gb172) ∧ (gb175 ≠ s_) ∧ (s_ ≠ gb175) ∧ (Below w.heap.size w w')) ?_ ?_
  rotate_left
  ·intro hCont
   refine two_ (i := 3) (j := 13) (Ni := some 20) (Nj := some 9) #[true, true, true, true, true, true, true, true, true, false, false, false, false, false, false, false] #[true, true, true, false, true, true, true, true, true, false, false, false, false, true, false, false] rfl rfl rfl rfl (two_of HT_.out (by kernel_rfl)) (by decide) (by decide) (fun K hK => ?_) (fun K hK => ?_)
   ·skip
    refine zgA Try.func106 (wide_U128_Shl.calls k 0 a1_3 70 t176 t177 _ A5.out) (h := ?_)
    rintro w91 hb
    refine zcn3 HB BK171 BK172 BK175 hb (c := ?_)
    clear HB BK171 BK172 BK175 hb
    intro BK171 BK172 BK175 HB
    refine hK.out _ _ (zk5 BK172 (ze5 BK171)) (fun hHeld => ?_)
    clear hK K
    refine znA 20 (h := ?_)
    refine two_ (i := 9) (j := 13) (Ni := some 26) (Nj := some 9) #[true, true, true, true, true, true, true, true, true, true, false, false, false, false, false, false] #[true, true, true, true, true, true, true, true, true, false, false, false, false, true, false, false] rfl rfl rfl rfl (two_of HT_.out (by kernel_rfl)) (by decide) (by decide) (fun K hK => ?_) (fun K hK => ?_)
    ·skip
     refine zgA Try.func151 (wide_U128_Shr.calls k t176 t177 (wrap64 (a0_4 - a1_4)) t178 t179 true _ A6.out) (h := ?_)
     rintro w92 hb
     refine zcn3 HB BK171 BK172 BK175 hb (c := ?_)
     clear HB BK171 BK172 BK175 hb
     intro BK171 BK172 BK175 HB
     refine hK.out _ _ (zk5 BK172 (ze5 BK171)) (fun hHeld => ?_)
     clear hK K
     refine znA 26 (h := ?_)
     refine zpA 10 16 (h := ?_)
     refine zpA 11 27 (h := ?_)
     refine zpA 12 28 (h := ?_)
     refine zoA 13 9 (h := fun K hK => ?_)
     refine box_step ?hg (N := 9) ?hd (cs := #[.int .u64 0, .int .u64 0]) (t := 109) ?hr ?_; (case hd => rfl); (case hg => rfl); (case hr => first | (go_simp; done) | (go_simp; rfl))
     intro gb181 hg w93 hbox hb
     refine zbn3 HB BK171 BK172 BK175 hg hb hbox (c := ?_)
     clear HB BK171 BK172 BK175 hb hbox hg
     intro GW181 NB171_181 NB172_181 NB175_181 BK171 BK172 BK175 HB BK181
     refine hK.out _ _ (zk5 BK172 (ze5 BK171)) (fun hHeld => ?_)
     clear hK K
     refine znA 9 (h := ?_)
     exact norm_ (by simp only [putAll, Act.put, List.setIfInBounds_toArray, List.set_cons_zero, List.set_cons_succ]) (hCont (gb181) _ ⟨hHeld, (zkq BK171), (zkq BK172), (zkq BK175), (zkq BK181), GW181.out, GW181.out, NB171_181.out, (zks NB171_181).out, NB172_181.out, (zks NB172_181).out, NB175_181.out, (zks NB175_181).out, zaB⟩)
    skip
    refine box_step ?hg (N := 9) ?hd (cs := #[.int .u64 0, .int .u64 0]) (t := 109) ?hr ?_; (case hd => rfl); (case hg => rfl); (case hr => first | (go_simp; done) | (go_simp; rfl))
    intro gb181 hg w92 hbox hb
    refine zbn3 HB BK171 BK172 BK175 hg hb hbox (c := ?_)
    clear HB BK171 BK172 BK175 hb hbox hg
    intro GW181 NB171_181 NB172_181 NB175_181 BK171 BK172 BK175 HB BK181
    refine hK.out _ _ (zk5 BK172 (ze5 BK171)) (fun hHeld => ?_)
    clear hK K
    refine znA 9 (h := ?_)
    refine zoA 9 26 (h := fun K hK => ?_)
    refine zgA Try.func151 (wide_U128_Shr.calls k t176 t177 (wrap64 (a0_4 - a1_4)) t178 t179 true _ A6.out) (h := ?_)
    rintro w93 hb
    refine zcn4 HB BK171 BK172 BK175 BK181 hb (c := ?_)
    clear HB BK171 BK172 BK175 BK181 hb
    intro BK171 BK172 BK175 BK181 HB
    refine hK.out _ _ (zk5 BK172 (ze5 BK171)) (fun hHeld => ?_)
    clear hK K
    refine znA 26 (h := ?_)
    refine zpA 10 16 (h := ?_)
    refine zpA 11 27 (h := ?_)
    refine zpA 12 28 (h := ?_)
    exact norm_ (by simp only [putAll, Act.put, List.setIfInBounds_toArray, List.set_cons_zero, List.set_cons_succ]) (hCont (gb181) _ ⟨hHeld, (zkq BK171), (zkq BK172), (zkq BK175), (zkq BK181), GW181.out, GW181.out, NB171_181.out, (zks NB171_181).out, NB172_181.out, (zks NB172_181).out, NB175_181.out, (zks NB175_181).out, zaB⟩)
   skip
   refine box_step ?hg (N := 9) ?hd (cs := #[.int .u64 0, .int .u64 0]) (t := 109) ?hr ?_; (case hd => rfl); (case hg => rfl); (case hr => first | (go_simp; done) | (go_simp; rfl))
   intro gb181 hg w91 hbox hb
   refine zbn3 HB BK171 BK172 BK175 hg hb hbox (c := ?_)
   clear HB BK171 BK172 BK175 hb hbox hg
   intro GW181 NB171_181 NB172_181 NB175_181 BK171 BK172 BK175 HB BK181
   refine hK.out _ _ (zk5 BK172 (ze5 BK171)) (fun hHeld => ?_)
   clear hK K
   refine znA 9 (h := ?_)
   refine zoA 3 20 (h := fun K hK => ?_)
   refine zgA Try.func106 (wide_U128_Shl.calls k 0 a1_3 70 t176 t177 _ A5.out) (h := ?_)
   rintro w92 hb
   refine zcn4 HB BK171 BK172 BK175 BK181 hb (c := ?_)
   clear HB BK171 BK172 BK175 BK181 hb
   intro BK171 BK172 BK175 BK181 HB
   refine hK.out _ _ (zk5 BK172 (ze5 BK171)) (fun hHeld => ?_)
   clear hK K
   refine znA 20 (h := ?_)
   refine zoA 9 26 (h := fun K hK => ?_)
   refine zgA Try.func151 (wide_U128_Shr.calls k t176 t177 (wrap64 (a0_4 - a1_4)) t178 t179 true _ A6.out) (h := ?_)
   rintro w93 hb
   refine zcn4 HB BK171 BK172 BK175 BK181 hb (c := ?_)
   clear HB BK171 BK172 BK175 BK181 hb
   intro BK171 BK172 BK175 BK181 HB
   refine hK.out _ _ (zk5 BK172 (ze5 BK171)) (fun hHeld => ?_)
   clear hK K
   refine znA 26 (h := ?_)
   refine zpA 10 16 (h := ?_)
   refine zpA 11 27 (h := ?_)
   refine zpA 12 28 (h := ?_)
   exact norm_ (by simp only [putAll, Act.put, List.setIfInBounds_toArray, List.set_cons_zero, List.set_cons_succ]) (hCont (gb181) _ ⟨hHeld, (zkq BK171), (zkq BK172), (zkq BK175), (zkq BK181), GW181.out, GW181.out, NB171_181.out, (zks NB171_181).out, NB172_181.out, (zks NB172_181).out, NB175_181.out, (zks NB175_181).out, zaB⟩)
  rintro gb181 w94 ⟨hS_, h0_, h1_, h2_, h3_, h4_, h5_, h6_, h7_, h8_, h9_, h10_, h11_, h12_⟩
  have n0_ : Aside0 (w94.heap[gb171]? = some (.cells #[.int .u64 a0_0, .int .u8 a0_1, .bool a0_2, .int .u64 a0_3, .int .i64 a0_4] 88 (0, 0))) := ⟨h0_⟩
  have n1_ : Aside0 (w94.heap[gb172]? = some (.cells #[.int .u64 a1_0, .int .u8 a1_1, .bool a1_2, .int .u64 a1_3, .int .i64 a1_4] 88 (0, 0))) := ⟨h1_⟩
  have n2_ : Aside0 (w94.heap[gb175]? = some (.cells #[.int .u64 t173, .int .u64 t174] 109 (0, 0))) := ⟨h2_⟩
  have n3_ : Aside0 (w94.heap[gb181]? = some (.cells #[.int .u64 0, .int .u64 0] 109 (0, 0))) := ⟨h3_⟩
  have n4_ : Aside0 (w.heap.size ≤ gb181) := ⟨h4_⟩
  have n5_ : Aside0 (w.heap.size ≤ gb181) := ⟨h5_⟩
  have n6_ : Aside0 (gb171 ≠ gb181) := ⟨h6_⟩
  have n7_ : Aside0 (gb181 ≠ gb171) := ⟨h7_⟩
  have n8_ : Aside0 (gb172 ≠ gb181) := ⟨h8_⟩
  have n9_ : Aside0 (gb181 ≠ gb172) := ⟨h9_⟩
  have n10_ : Aside0 (gb175 ≠ gb181) := ⟨h10_⟩
  have n11_ : Aside0 (gb181 ≠ gb175) := ⟨h11_⟩
  have n12_ : Aside0 (Below w.heap.size w w94) := ⟨h12_⟩
  clear BK171
  clear BK172
  clear BK175
  clear HB
  clear h0_ h1_ h2_ h3_ h4_ h5_ h6_ h7_ h8_ h9_ h10_ h11_ h12_
  have BK171 := n0_
  have BK172 := n1_
  have BK175 := n2_
  have BK181 := n3_
  have GW181 := n4_
  have GW181 := n5_
  have NB171_181 := n6_
  have NB181_171 := n7_
  have NB172_181 := n8_
  have NB181_172 := n9_
  have NB175_181 := n10_
  have NB181_175 := n11_
  have HB := n12_
  clear n0_ n1_ n2_ n3_ n4_ n5_ n6_ n7_ n8_ n9_ n10_ n11_ n12_
  have hHeld : w94.cell? ⟨gb172, 0, none⟩ = some (.int .u64 a1_0) ∧ w94.cell? ⟨gb172, 1, none⟩ = some (.int .u8 a1_1) ∧ w94.cell? ⟨gb172, 2, none⟩ = some (.bool a1_2) ∧ w94.cell? ⟨gb172, 3, none⟩ = some (.int .u64 a1_3) ∧ w94.cell? ⟨gb172, 4, none⟩ = some (.int .i64 a1_4) ∧ w94.cell? ⟨gb171, 0, none⟩ = some (.int .u64 a0_0) ∧ w94.cell? ⟨gb171, 1, none⟩ = some (.int .u8 a0_1) ∧ w94.cell? ⟨gb171, 2, none⟩ = some (.bool a0_2) ∧ w94.cell? ⟨gb171, 3, none⟩ = some (.int .u64 a0_3) ∧ w94.cell? ⟨gb171, 4, none⟩ = some (.int .i64 a0_4) := hS_
  refine norm_ (a' := ?_) ?_ ?_
  rotate_left
  ·simp only [putAll, Act.put, List.setIfInBounds_toArray, List.set_cons_zero, List.set_cons_succ]
   rfl
  refine one_ (i := 14) (N := none) #[true, true, true, true, true, true, true, true, true, true, true, true, true, true, true, false] rfl rfl (one_of HT_.out (by kernel_rfl)) (by decide) (fun K hK => ?_)
  have hs95 := zc0 BK181
  have hfs95 := blk_frozen BK181.out 0
  refine zt3 NB171_181 NB172_181 NB175_181 fun _ _ _ _ _ _ => ?_
  have hs96 := zc1 BK181
  have hfs96 := blk_frozen BK181.out 1
  refine zt3 NB171_181 NB172_181 NB175_181 fun _ _ _ _ _ _ => ?_
  refine skip_ (w1 := ?_) (by rfl) rfl ?_ ?_
  rotate_left
  ·go_simp
   rfl
  refine hK.out _ _ ⟨(zff NB172_181 (zff NB172_181 hHeld.1)), (zff NB172_181 (zff NB172_181 hHeld.2.1)), (zff NB172_181 (zff NB172_181 hHeld.2.2.1)), (zff NB172_181 (zff NB172_181 hHeld.2.2.2.1)), (zff NB172_181 (zff NB172_181 hHeld.2.2.2.2.1)), (zff NB171_181 (zff NB171_181 hHeld.2.2.2.2.2.1)), (zff NB171_181 (zff NB171_181 hHeld.2.2.2.2.2.2.1)), (zff NB171_181 (zff NB171_181 hHeld.2.2.2.2.2.2.2.1)), (zff NB171_181 (zff NB171_181 hHeld.2.2.2.2.2.2.2.2.1)), (zff NB171_181 (zff NB171_181 hHeld.2.2.2.2.2.2.2.2.2))⟩ (fun hHeld => ?_)
  clear hK K
  refine zpA 15 10 (h := ?_)
  refine done_ (done_of HT_.out (by kernel_rfl)) ?_
  try go_wp2_with (first | ((with_reducible refine gtd 11 rfl ?_); refine zbx 11 #[.int .u64 0, .int .u64 0] 109 (h := ?_); intro gb182 hg w97 hbox hb; have GW182 := zkZ hg (below_set (below_set HB.out GW181.out) GW181.out); have NB171_182 := zkL hg (zkf (zkf BK171.out NB171_181.out _) NB171_181.out _); have NB172_182 := zkL hg (zkf (zkf BK172.out NB172_181.out _) NB172_181.out _); have NB175_182 := zkL hg (zkf (zkf BK175.out NB175_181.out _) NB175_181.out _); have NB181_182 := zkL hg (ob := .cells #[.int .u64 t178, .int .u64 t179] 109 (0, 0)) (blk_put (cs := #[.int .u64 t178, .int .u64 0]) (blk_put BK181.out 0 _ rfl) 1 _ rfl); replace BK171 := Aside0.mk (blk_below (zkf (zkf BK171.out NB171_181.out _) NB171_181.out _) hb); replace BK172 := Aside0.mk (blk_below (zkf (zkf BK172.out NB172_181.out _) NB172_181.out _) hb); replace BK175 := Aside0.mk (blk_below (zkf (zkf BK175.out NB175_181.out _) NB175_181.out _) hb); replace BK181 := Aside0.mk (blk_below (o := .cells #[.int .u64 t178, .int .u64 t179] 109 (0, 0)) (blk_put (cs := #[.int .u64 t178, .int .u64 0]) (blk_put BK181.out 0 _ rfl) 1 _ rfl) hb); replace HB := Aside0.mk (below_step (below_set (below_set HB.out GW181.out) GW181.out) hb); have BK182 := Aside0.mk (hbox); clear hb hbox hg; refine zt2 NB171_181 NB171_182 fun _ _ _ _ => ?_; refine zu5 BK171 fun _ _ _ _ _ _ _ _ _ _ => ?_; refine zt2 NB172_181 NB172_182 fun _ _ _ _ => ?_; refine zu5 BK172 fun _ _ _ _ _ _ _ _ _ _ => ?_; refine zt2 NB175_181 NB175_182 fun _ _ _ _ => ?_; refine zu2 BK175 fun _ _ _ _ => ?_; refine zt1 NB181_182 fun _ _ => ?_; refine zu2 BK181 fun _ _ _ _ => ?_) | ((with_reducible refine gtc 153 rfl ?_); refine zgL 43 Try.func153 (wide_U128_Sub.calls t173 t174 t178 t179 t188 t189 t190 _ A43.out) (h := ?_); rintro w109 hb; refine zcn5 HB BK171 BK172 BK175 BK181 BK182 hb (c := ?_); clear HB BK171 BK172 BK175 BK181 BK182 hb; intro BK171 BK172 BK175 BK181 BK182 HB; refine zu2 BK182 fun _ _ _ _ => ?_) | ((with_reducible refine gtc 153 rfl ?_); refine zgL 56 Try.func153 (wide_U128_Sub.calls t188 t189 0 1 t192 t193 t194 _ A78.out) (h := ?_); rintro w111 hb; replace BK171 := Aside0.mk (blk_below (zkf (zkf BK171.out NB171_182.out _) NB171_182.out _) hb); replace BK172 := Aside0.mk (blk_below (zkf (zkf BK172.out NB172_182.out _) NB172_182.out _) hb); replace BK175 := Aside0.mk (blk_below (zkf (zkf BK175.out NB175_182.out _) NB175_182.out _) hb); replace BK181 := Aside0.mk (blk_below (zkf (zkf BK181.out NB181_182.out _) NB181_182.out _) hb); replace BK182 := Aside0.mk (blk_below (o := .cells #[.int .u64 t188, .int .u64 t189] 109 (0, 0)) (blk_put (cs := #[.int .u64 t188, .int .u64 0]) (blk_put BK182.out 0 _ rfl) 1 _ rfl) hb); replace HB := Aside0.mk (below_step (below_set (below_set HB.out GW182.out) GW182.out) hb); (try clear hb); refine zu2 BK182 fun _ _ _ _ => ?_; refine zu5 BK171 fun _ _ _ _ _ _ _ _ _ _ => ?_) | ((with_reducible refine gtc 99 rfl ?_); refine zgL 67 Try.func99 (round_Round.calls k a0_2 t192 t193 (wrap64 (a0_4 - 70)) true a2 t195 t196 _ A79.out) (h := ?_); rintro w114 hb; replace BK171 := Aside0.mk (blk_below (zkf (zkf BK171.out NB171_182.out _) NB171_182.out _) hb); replace BK172 := Aside0.mk (blk_below (zkf (zkf BK172.out NB172_182.out _) NB172_182.out _) hb); replace BK175 := Aside0.mk (blk_below (zkf (zkf BK175.out NB175_182.out _) NB175_182.out _) hb); replace BK181 := Aside0.mk (blk_below (zkf (zkf BK181.out NB181_182.out _) NB181_182.out _) hb); replace BK182 := Aside0.mk (blk_below (o := .cells #[.int .u64 t192, .int .u64 t193] 109 (0, 0)) (blk_put (cs := #[.int .u64 t192, .int .u64 t189]) (blk_put BK182.out 0 _ rfl) 1 _ rfl) hb); replace HB := Aside0.mk (below_step (below_set (below_set HB.out GW182.out) GW182.out) hb); (try clear hb)))
  go_ret2
  exact ⟨zaE, zaB⟩
 replace c77 := Bool.eq_false_iff.mpr c77
 subst c77
 replace H := zif H
 obtain ⟨⟨t197, t198⟩, A115, H⟩ := zbs H
 try dsimp only at H
 simp only [Option.some.injEq, Prod.mk.injEq] at H
 obtain ⟨rfl, rfl⟩ := H
 go_enter Try.func86, Try.ntmps86
 try go_wp2_with (first | ((with_reducible refine gtd 3 rfl ?_); refine zbx 3 #[.int .u64 a0_0, .int .u8 a0_1, .bool a0_2, .int .u64 a0_3, .int .i64 a0_4] 88 (h := ?_); intro gb171 hg w116 hbox hb; have GW171 := zkZ hg (zaB (p := Below w.heap.size w _)); replace HB := Aside0.mk (below_step zaB hb); have BK171 := Aside0.mk (hbox); clear hb hbox hg) | ((with_reducible refine gtd 4 rfl ?_); refine zbx 4 #[.int .u64 a1_0, .int .u8 a1_1, .bool a1_2, .int .u64 a1_3, .int .i64 a1_4] 88 (h := ?_); intro gb172 hg w117 hbox hb; refine zbn1 HB BK171 hg hb hbox (c := ?_); clear HB BK171 hb hbox hg; intro GW172 NB171_172 BK171 HB BK172; refine zt1 NB171_172 fun _ _ => ?_; refine zu5 BK171 fun _ _ _ _ _ _ _ _ _ _ => ?_) | ((with_reducible refine gtc 106 rfl ?_); refine zgL 15 Try.func106 (wide_U128_Shl.calls k 0 a0_3 70 t173 t174 _ A4.out) (h := ?_); rintro w120 hb; refine zcn2 HB BK171 BK172 hb (c := ?_); clear HB BK171 BK172 hb; intro BK171 BK172 HB) | ((with_reducible refine gtd 8 rfl ?_); refine zbx 8 #[.int .u64 0, .int .u64 0] 109 (h := ?_); intro gb175 hg w121 hbox hb; refine zbn2 HB BK171 BK172 hg hb hbox (c := ?_); clear HB BK171 BK172 hb hbox hg; intro GW175 NB171_175 NB172_175 BK171 BK172 HB BK175; refine zt2 NB171_175 NB172_175 fun _ _ _ _ => ?_; refine zu2 BK175 fun _ _ _ _ => ?_))
 generalize hW_ : ((w121.setCell ⟨gb175, 0, none⟩ (.int .u64 t173)).setCell ⟨gb175, 1, none⟩ (.int .u64 t174)) = w125
 replace BK171 := zkg hW_ (zkf (zkf BK171.out NB171_175.out _) NB171_175.out _)
 replace BK172 := zkg hW_ (zkf (zkf BK172.out NB172_175.out _) NB172_175.out _)
 replace BK175 := zkg hW_ (ob := .cells #[.int .u64 t173, .int .u64 t174] 109 (0, 0)) (blk_put (cs := #[.int .u64 t173, .int .u64 0]) (blk_put BK175.out 0 _ rfl) 1 _ rfl)
 replace HB := zkG hW_ (below_set (below_set HB.out GW175.out) GW175.out)
 clear hW_
 replace BK171 := Aside0.mk (blk_drew BK171.out)
 replace BK172 := Aside0.mk (blk_drew BK172.out)
 replace BK175 := Aside0.mk (blk_drew BK175.out)
 replace HB := Aside0.mk (below_drew1 HB.out)
 refine start_ (n := 16) (S := fun w' => w'.cell? ⟨gb172, 0, none⟩ = some (.int .u64 a1_0) ∧ w'.cell? ⟨gb172, 1, none⟩ = some (.int .u8 a1_1) ∧ w'.cell? ⟨gb172, 2, none⟩ = some (.bool a1_2) ∧ w'.cell? ⟨gb172, 3, none⟩ = some (.int .u64 a1_3) ∧ w'.cell? ⟨gb172, 4, none⟩ = some (.int .i64 a1_4) ∧ w'.cell? ⟨gb171, 0, none⟩ = some (.int .u64 a0_0) ∧ w'.cell? ⟨gb171, 1, none⟩ = some (.int .u8 a0_1) ∧ w'.cell? ⟨gb171, 2, none⟩ = some (.bool a0_2) ∧ w'.cell? ⟨gb171, 3, none⟩ = some (.int .u64 a0_3) ∧ w'.cell? ⟨gb171, 4, none⟩ = some (.int .i64 a0_4)) (ds := []) #[false, false, false, false, false, false, false, false, false, false, false, false, false, false, false, false] (by kernel_rfl) rfl rfl (zk5 BK172 (ze5 BK171)) (fun hHeld => ?_); refine with_tabW soft_num_add.tab2 soft_num_add.bits2 (fun HT_ HW_ => ?_)
 generalize w125.drew = w126 at BK171 BK172 BK175 HB hHeld ⊢
 refine zpA 0 17 (h := ?_)
 refine zpA 4 21 (h := ?_)
 refine zpA 6 23 (h := ?_)
 refine ztA 1 18 (h := ?_)
 refine zpA 2 19 (h := ?_)
 refine ztA 5 22 (h := ?_)
 refine ztA 7 24 (h := ?_)
 refine zpA 8 25 (h := ?_)
 refine join_ (σ := Nat) 2 #[true, true, true, true, true, true, true, true, true, true, true, true, true, true, false, false] (fun s_ => [(20, .agg #[.int .u64 t176, .int .u64 t177]), (26, .tuple #[.agg #[.int .u64 t178, .int .u64 t179], .bool false]), (9, .pointer (some ⟨s_, 0, none⟩)), (16, .tuple #[.agg #[.int .u64 t178, .int .u64 t179], .bool false]), (27, .agg #[.int .u64 t178, .int .u64 t179]), (28, .bool false)]) (fun s_ w' => (w'.cell? ⟨gb172, 0, none⟩ = some (.int .u64 a1_0) ∧ w'.cell? ⟨gb172, 1, none⟩ = some (.int .u8 a1_1) ∧ w'.cell? ⟨gb172, 2, none⟩ = some (.bool a1_2) ∧ w'.cell? ⟨gb172, 3, none⟩ = some (.int .u64 a1_3) ∧ w'.cell? ⟨gb172, 4, none⟩ = some (.int .i64 a1_4) ∧ w'.cell? ⟨gb171, 0, none⟩ = some (.int .u64 a0_0) ∧ w'.cell? ⟨gb171, 1, none⟩ = some (.int .u8 a0_1) ∧ w'.cell? ⟨gb171, 2, none⟩ = some (.bool a0_2) ∧ w'.cell? ⟨gb171, 3, none⟩ = some (.int .u64 a0_3) ∧ w'.cell? ⟨gb171, 4, none⟩ = some (.int .i64 a0_4)) ∧ (w'.heap[gb171]? = some (.cells #[.int .u64 a0_0, .int .u8 a0_1, .bool a0_2, .int .u64 a0_3, .int .i64 a0_4] 88 (0, 0))) ∧ (w'.heap[gb172]? = some (.cells #[.int .u64 a1_0, .int .u8 a1_1, .bool a1_2, .int .u64 a1_3, .int .i64 a1_4] 88 (0, 0))) ∧ (w'.heap[gb175]? = some (.cells #[.int .u64 t173, .int .u64 t174] 109 (0, 0))) ∧ (w'.heap[s_]? = some (.cells #[.int .u64 0, .int .u64 0] 109 (0, 0))) ∧ (w.heap.size ≤ s_) ∧ (w.heap.size ≤ s_) ∧ (gb171 ≠ s_) ∧ (s_ ≠ gb171) ∧ (gb172 ≠ s_) ∧ (s_ ≠ gb172) ∧ (gb175 ≠ s_) ∧ (s_ ≠ gb175) ∧ (Below w.heap.size w w')) ?_ ?_
 rotate_left
 ·intro hCont
  refine two_ (i := 3) (j := 13) (Ni := some 20) (Nj := some 9) #[true, true, true, true, true, true, true, true, true, false, false, false, false, false, false, false] #[true, true, true, false, true, true, true, true, true, false, false, false, false, true, false, false] rfl rfl rfl rfl (two_of HT_.out (by kernel_rfl)) (by decide) (by decide) (fun K hK => ?_) (fun K hK => ?_)
  ·skip
   refine zgA Try.func106 (wide_U128_Shl.calls k 0 a1_3 70 t176 t177 _ A5.out) (h := ?_)
   rintro w127 hb
   refine zcn3 HB BK171 BK172 BK175 hb (c := ?_)
   clear HB BK171 BK172 BK175 hb
   intro BK171 BK172 BK175 HB
   refine hK.out _ _ (zk5 BK172 (ze5 BK171)) (fun hHeld => ?_)
   clear hK K
   refine znA 20 (h := ?_)
   refine two_ (i := 9) (j := 13) (Ni := some 26) (Nj := some 9) #[true, true, true, true, true, true, true, true, true, true, false, false, false, false, false, false] #[true, true, true, true, true, true, true, true, true, false, false, false, false, true, false, false] rfl rfl rfl rfl (two_of HT_.out (by kernel_rfl)) (by decide) (by decide) (fun K hK => ?_) (fun K hK => ?_)
   ·skip
    refine zgA Try.func151 (wide_U128_Shr.calls k t176 t177 (wrap64 (a0_4 - a1_4)) t178 t179 false _ A6.out) (h := ?_)
    rintro w128 hb
    refine zcn3 HB BK171 BK172 BK175 hb (c := ?_)
    clear HB BK171 BK172 BK175 hb
    intro BK171 BK172 BK175 HB
    refine hK.out _ _ (zk5 BK172 (ze5 BK171)) (fun hHeld => ?_)
    clear hK K
    refine znA 26 (h := ?_)
    refine zpA 10 16 (h := ?_)
    refine zpA 11 27 (h := ?_)
    refine zpA 12 28 (h := ?_)
    refine zoA 13 9 (h := fun K hK => ?_)
    refine box_step ?hg (N := 9) ?hd (cs := #[.int .u64 0, .int .u64 0]) (t := 109) ?hr ?_; (case hd => rfl); (case hg => rfl); (case hr => first | (go_simp; done) | (go_simp; rfl))
    intro gb181 hg w129 hbox hb
    refine zbn3 HB BK171 BK172 BK175 hg hb hbox (c := ?_)
    clear HB BK171 BK172 BK175 hb hbox hg
    intro GW181 NB171_181 NB172_181 NB175_181 BK171 BK172 BK175 HB BK181
    refine hK.out _ _ (zk5 BK172 (ze5 BK171)) (fun hHeld => ?_)
    clear hK K
    refine znA 9 (h := ?_)
    exact norm_ (by simp only [putAll, Act.put, List.setIfInBounds_toArray, List.set_cons_zero, List.set_cons_succ]) (hCont (gb181) _ ⟨hHeld, (zkq BK171), (zkq BK172), (zkq BK175), (zkq BK181), GW181.out, GW181.out, NB171_181.out, (zks NB171_181).out, NB172_181.out, (zks NB172_181).out, NB175_181.out, (zks NB175_181).out, zaB⟩)
   skip
   refine box_step ?hg (N := 9) ?hd (cs := #[.int .u64 0, .int .u64 0]) (t := 109) ?hr ?_; (case hd => rfl); (case hg => rfl); (case hr => first | (go_simp; done) | (go_simp; rfl))
   intro gb181 hg w128 hbox hb
   refine zbn3 HB BK171 BK172 BK175 hg hb hbox (c := ?_)
   clear HB BK171 BK172 BK175 hb hbox hg
   intro GW181 NB171_181 NB172_181 NB175_181 BK171 BK172 BK175 HB BK181
   refine hK.out _ _ (zk5 BK172 (ze5 BK171)) (fun hHeld => ?_)
   clear hK K
   refine znA 9 (h := ?_)
   refine zoA 9 26 (h := fun K hK => ?_)
   refine zgA Try.func151 (wide_U128_Shr.calls k t176 t177 (wrap64 (a0_4 - a1_4)) t178 t179 false _ A6.out) (h := ?_)
   rintro w129 hb
   refine zcn4 HB BK171 BK172 BK175 BK181 hb (c := ?_)
   clear HB BK171 BK172 BK175 BK181 hb
   intro BK171 BK172 BK175 BK181 HB
   refine hK.out _ _ (zk5 BK172 (ze5 BK171)) (fun hHeld => ?_)
   clear hK K
   refine znA 26 (h := ?_)
   refine zpA 10 16 (h := ?_)
   refine zpA 11 27 (h := ?_)
   refine zpA 12 28 (h := ?_)
   exact norm_ (by simp only [putAll, Act.put, List.setIfInBounds_toArray, List.set_cons_zero, List.set_cons_succ]) (hCont (gb181) _ ⟨hHeld, (zkq BK171), (zkq BK172), (zkq BK175), (zkq BK181), GW181.out, GW181.out, NB171_181.out, (zks NB171_181).out, NB172_181.out, (zks NB172_181).out, NB175_181.out, (zks NB175_181).out, zaB⟩)
  skip
  refine box_step ?hg (N := 9) ?hd (cs := #[.int .u64 0, .int .u64 0]) (t := 109) ?hr ?_; (case hd => rfl); (case hg => rfl); (case hr => first | (go_simp; done) | (go_simp; rfl))
  intro gb181 hg w127 hbox hb
  refine zbn3 HB BK171 BK172 BK175 hg hb hbox (c := ?_)
  clear HB BK171 BK172 BK175 hb hbox hg
  intro GW181 NB171_181 NB172_181 NB175_181 BK171 BK172 BK175 HB BK181
  refine hK.out _ _ (zk5 BK172 (ze5 BK171)) (fun hHeld => ?_)
  clear hK K
  refine znA 9 (h := ?_)
  refine zoA 3 20 (h := fun K hK => ?_)
  refine zgA Try.func106 (wide_U128_Shl.calls k 0 a1_3 70 t176 t177 _ A5.out) (h := ?_)
  rintro w128 hb
  refine zcn4 HB BK171 BK172 BK175 BK181 hb (c := ?_)
  clear HB BK171 BK172 BK175 BK181 hb
  intro BK171 BK172 BK175 BK181 HB
  refine hK.out _ _ (zk5 BK172 (ze5 BK171)) (fun hHeld => ?_)
  clear hK K
  refine znA 20 (h := ?_)
  refine zoA 9 26 (h := fun K hK => ?_)
  refine zgA Try.func151 (wide_U128_Shr.calls k t176 t177 (wrap64 (a0_4 - a1_4)) t178 t179 false _ A6.out) (h := ?_)
  rintro w129 hb
  refine zcn4 HB BK171 BK172 BK175 BK181 hb (c := ?_)
  clear HB BK171 BK172 BK175 BK181 hb
  intro BK171 BK172 BK175 BK181 HB
  refine hK.out _ _ (zk5 BK172 (ze5 BK171)) (fun hHeld => ?_)
  clear hK K
  refine znA 26 (h := ?_)
  refine zpA 10 16 (h := ?_)
  refine zpA 11 27 (h := ?_)
  refine zpA 12 28 (h := ?_)
  exact norm_ (by simp only [putAll, Act.put, List.setIfInBounds_toArray, List.set_cons_zero, List.set_cons_succ]) (hCont (gb181) _ ⟨hHeld, (zkq BK171), (zkq BK172), (zkq BK175), (zkq BK181), GW181.out, GW181.out, NB171_181.out, (zks NB171_181).out, NB172_181.out, (zks NB172_181).out, NB175_181.out, (zks NB175_181).out, zaB⟩)
 rintro gb181 w130 ⟨hS_, h0_, h1_, h2_, h3_, h4_, h5_, h6_, h7_, h8_, h9_, h10_, h11_, h12_⟩
 have n0_ : Aside0 (w130.heap[gb171]? = some (.cells #[.int .u64 a0_0, .int .u8 a0_1, .bool a0_2, .int .u64 a0_3, .int .i64 a0_4] 88 (0, 0))) := ⟨h0_⟩
 have n1_ : Aside0 (w130.heap[gb172]? = some (.cells #[.int .u64 a1_0, .int .u8 a1_1, .bool a1_2, .int .u64 a1_3, .int .i64 a1_4] 88 (0, 0))) := ⟨h1_⟩
 have n2_ : Aside0 (w130.heap[gb175]? = some (.cells #[.int .u64 t173, .int .u64 t174] 109 (0, 0))) := ⟨h2_⟩
 have n3_ : Aside0 (w130.heap[gb181]? = some (.cells #[.int .u64 0, .int .u64 0] 109 (0, 0))) := ⟨h3_⟩
 have n4_ : Aside0 (w.heap.size ≤ gb181) := ⟨h4_⟩
 have n5_ : Aside0 (w.heap.size ≤ gb181) := ⟨h5_⟩
 have n6_ : Aside0 (gb171 ≠ gb181) := ⟨h6_⟩
 have n7_ : Aside0 (gb181 ≠ gb171) := ⟨h7_⟩
 have n8_ : Aside0 (gb172 ≠ gb181) := ⟨h8_⟩
 have n9_ : Aside0 (gb181 ≠ gb172) := ⟨h9_⟩
 have n10_ : Aside0 (gb175 ≠ gb181) := ⟨h10_⟩
 have n11_ : Aside0 (gb181 ≠ gb175) := ⟨h11_⟩
 have n12_ : Aside0 (Below w.heap.size w w130) := ⟨h12_⟩
 clear BK171
 clear BK172
 clear BK175
 clear HB
 clear h0_ h1_ h2_ h3_ h4_ h5_ h6_ h7_ h8_ h9_ h10_ h11_ h12_
 have BK171 := n0_
 have BK172 := n1_
 have BK175 := n2_
 have BK181 := n3_
 have GW181 := n4_
 have GW181 := n5_
 have NB171_181 := n6_
 have NB181_171 := n7_
 have NB172_181 := n8_
 have NB181_172 := n9_
 have NB175_181 := n10_
 have NB181_175 := n11_
 have HB := n12_
 clear n0_ n1_ n2_ n3_ n4_ n5_ n6_ n7_ n8_ n9_ n10_ n11_ n12_
 have hHeld : w130.cell? ⟨gb172, 0, none⟩ = some (.int .u64 a1_0) ∧ w130.cell? ⟨gb172, 1, none⟩ = some (.int .u8 a1_1) ∧ w130.cell? ⟨gb172, 2, none⟩ = some (.bool a1_2) ∧ w130.cell? ⟨gb172, 3, none⟩ = some (.int .u64 a1_3) ∧ w130.cell? ⟨gb172, 4, none⟩ = some (.int .i64 a1_4) ∧ w130.cell? ⟨gb171, 0, none⟩ = some (.int .u64 a0_0) ∧ w130.cell? ⟨gb171, 1, none⟩ = some (.int .u8 a0_1) ∧ w130.cell? ⟨gb171, 2, none⟩ = some (.bool a0_2) ∧ w130.cell? ⟨gb171, 3, none⟩ = some (.int .u64 a0_3) ∧ w130.cell? ⟨gb171, 4, none⟩ = some (.int .i64 a0_4) := hS_
 refine norm_ (a' := ?_) ?_ ?_
 rotate_left
 ·simp only [putAll, Act.put, List.setIfInBounds_toArray, List.set_cons_zero, List.set_cons_succ]
  rfl
 refine one_ (i := 14) (N := none) #[true, true, true, true, true, true, true, true, true, true, true, true, true, true, true, false] rfl rfl (one_of HT_.out (by kernel_rfl)) (by decide) (fun K hK => ?_)
 have hs131 := zc0 BK181
 have hfs131 := blk_frozen BK181.out 0
 refine zt3 NB171_181 NB172_181 NB175_181 fun _ _ _ _ _ _ => ?_
 have hs132 := zc1 BK181
 have hfs132 := blk_frozen BK181.out 1
 refine zt3 NB171_181 NB172_181 NB175_181 fun _ _ _ _ _ _ => ?_
 refine skip_ (w1 := ?_) (by rfl) rfl ?_ ?_
 rotate_left
 ·go_simp
  rfl
 refine hK.out _ _ ⟨(zff NB172_181 (zff NB172_181 hHeld.1)), (zff NB172_181 (zff NB172_181 hHeld.2.1)), (zff NB172_181 (zff NB172_181 hHeld.2.2.1)), (zff NB172_181 (zff NB172_181 hHeld.2.2.2.1)), (zff NB172_181 (zff NB172_181 hHeld.2.2.2.2.1)), (zff NB171_181 (zff NB171_181 hHeld.2.2.2.2.2.1)), (zff NB171_181 (zff NB171_181 hHeld.2.2.2.2.2.2.1)), (zff NB171_181 (zff NB171_181 hHeld.2.2.2.2.2.2.2.1)), (zff NB171_181 (zff NB171_181 hHeld.2.2.2.2.2.2.2.2.1)), (zff NB171_181 (zff NB171_181 hHeld.2.2.2.2.2.2.2.2.2))⟩ (fun hHeld => ?_)
 clear hK K
 refine zpA 15 10 (h := ?_)
 refine done_ (done_of HT_.out (by kernel_rfl)) ?_
 try go_wp2_with (first | ((with_reducible refine gtd 11 rfl ?_); refine zbx 11 #[.int .u64 0, .int .u64 0] 109 (h := ?_); intro gb182 hg w133 hbox hb; have GW182 := zkZ hg (below_set (below_set HB.out GW181.out) GW181.out); have NB171_182 := zkL hg (zkf (zkf BK171.out NB171_181.out _) NB171_181.out _); have NB172_182 := zkL hg (zkf (zkf BK172.out NB172_181.out _) NB172_181.out _); have NB175_182 := zkL hg (zkf (zkf BK175.out NB175_181.out _) NB175_181.out _); have NB181_182 := zkL hg (ob := .cells #[.int .u64 t178, .int .u64 t179] 109 (0, 0)) (blk_put (cs := #[.int .u64 t178, .int .u64 0]) (blk_put BK181.out 0 _ rfl) 1 _ rfl); replace BK171 := Aside0.mk (blk_below (zkf (zkf BK171.out NB171_181.out _) NB171_181.out _) hb); replace BK172 := Aside0.mk (blk_below (zkf (zkf BK172.out NB172_181.out _) NB172_181.out _) hb); replace BK175 := Aside0.mk (blk_below (zkf (zkf BK175.out NB175_181.out _) NB175_181.out _) hb); replace BK181 := Aside0.mk (blk_below (o := .cells #[.int .u64 t178, .int .u64 t179] 109 (0, 0)) (blk_put (cs := #[.int .u64 t178, .int .u64 0]) (blk_put BK181.out 0 _ rfl) 1 _ rfl) hb); replace HB := Aside0.mk (below_step (below_set (below_set HB.out GW181.out) GW181.out) hb); have BK182 := Aside0.mk (hbox); clear hb hbox hg; refine zt2 NB171_181 NB171_182 fun _ _ _ _ => ?_; refine zu5 BK171 fun _ _ _ _ _ _ _ _ _ _ => ?_; refine zt2 NB172_181 NB172_182 fun _ _ _ _ => ?_; refine zu5 BK172 fun _ _ _ _ _ _ _ _ _ _ => ?_; refine zt2 NB175_181 NB175_182 fun _ _ _ _ => ?_; refine zu2 BK175 fun _ _ _ _ => ?_; refine zt1 NB181_182 fun _ _ => ?_; refine zu2 BK181 fun _ _ _ _ => ?_) | ((with_reducible refine gtc 153 rfl ?_); refine zgL 43 Try.func153 (wide_U128_Sub.calls t173 t174 t178 t179 t188 t189 t190 _ A43.out) (h := ?_); rintro w145 hb; refine zcn5 HB BK171 BK172 BK175 BK181 BK182 hb (c := ?_); clear HB BK171 BK172 BK175 BK181 BK182 hb; intro BK171 BK172 BK175 BK181 BK182 HB; refine zu2 BK182 fun _ _ _ _ => ?_; refine zu5 BK171 fun _ _ _ _ _ _ _ _ _ _ => ?_) | ((with_reducible refine gtc 99 rfl ?_); refine zgL 67 Try.func99 (round_Round.calls k a0_2 t188 t189 (wrap64 (a0_4 - 70)) false a2 t197 t198 _ A115.out) (h := ?_); rintro w148 hb; replace BK171 := Aside0.mk (blk_below (zkf (zkf BK171.out NB171_182.out _) NB171_182.out _) hb); replace BK172 := Aside0.mk (blk_below (zkf (zkf BK172.out NB172_182.out _) NB172_182.out _) hb); replace BK175 := Aside0.mk (blk_below (zkf (zkf BK175.out NB175_182.out _) NB175_182.out _) hb); replace BK181 := Aside0.mk (blk_below (zkf (zkf BK181.out NB181_182.out _) NB181_182.out _) hb); replace BK182 := Aside0.mk (blk_below (o := .cells #[.int .u64 t188, .int .u64 t189] 109 (0, 0)) (blk_put (cs := #[.int .u64 t188, .int .u64 0]) (blk_put BK182.out 0 _ rfl) 1 _ rfl) hb); replace HB := Aside0.mk (below_step (below_set (below_set HB.out GW182.out) GW182.out) hb); (try clear hb)))
 go_ret2
 exact ⟨zaE, zaB⟩
end Go.Proofs.Ytmadjhmecfbcmaa.F
end
section
namespace Go.Proofs.Ytmadjhmecfbcmaa.F
open Go.RowKit Go.Proofs.YtmadjhmecfbcmaaW.PrintWords Go.Proofs.YtmadjhmecfbcmaaW.PrintLast Go.Proofs.YtmadjhmecfbcmaaW.PrintMore
attribute [local go_sem] max2_int min2_int max_two min_two max_three min_three max_four min_four
set_option linter.unusedVariables false
set_option linter.unusedSimpArgs false
set_option maxHeartbeats 8000000
set_option maxRecDepth 100000
theorem soft_Add.calls (k : Nat) (a0 : Int) (a1 : Int) (a2 : Int) (r1 : Int) (r2 : Int) (w : World) (h : soft_Add.f k a0 a1 a2 = some (r1, r2)) :
  Calls Try.prog 21 #[.int .u64 a0, .int .u64 a1, .int .u8 a2] w fun e w' => e = .returned (.tuple #[.int .u64 r1, .int .u8 r2]) ∧ Below w.heap.size w w' := by
 have hu88 := Try.underlying88
 have HB := Aside0.mk (Below.refl w.heap.size w)
 have H := h
 unfold soft_Add.f at H
 clear h
 obtain ⟨⟨t199, t200, t201, t202, t203⟩, A4, H⟩ := zbs H
 try dsimp only at H
 obtain ⟨⟨t204, t205, t206, t207, t208⟩, A5, H⟩ := zbs H
 try dsimp only at H
 obtain ⟨t211, A6, H⟩ := zbs H
 try dsimp only at H
 by_cases c7 : t211 = true
 ·subst c7
  replace H := zit H
  obtain ⟨t212, A8, H⟩ := zbs H
  try dsimp only at H
  simp only [Option.some.injEq, Prod.mk.injEq] at H
  obtain ⟨rfl, rfl⟩ := H
  go_enter Try.func21, Try.ntmps21
  go_wp2_with (first | ((with_reducible refine gtc 82 rfl ?_); refine zgL 11 Try.func82 (soft_of.calls k a0 t199 t200 t201 t202 t203 _ A4.out) (h := ?_); rintro w9 hb; replace HB := Aside0.mk (below_step zaB hb); (try clear hb)) | ((with_reducible refine gtc 82 rfl ?_); refine zgL 13 Try.func82 (soft_of.calls k a1 t204 t205 t206 t207 t208 _ A5.out) (h := ?_); rintro w10 hb; replace HB := Aside0.mk (below_step zaB hb); (try clear hb)) | ((with_reducible refine gtd 8 rfl ?_); refine zbx 8 #[.int .u64 0, .int .u8 0, .bool false, .int .u64 0, .int .i64 0] 88 (h := ?_); intro gb209 hg w11 hbox hb; have GW209 := zkZ hg (zaB (p := Below w.heap.size w _)); replace HB := Aside0.mk (below_step zaB hb); have BK209 := Aside0.mk (hbox); clear hb hbox hg) | ((with_reducible refine gtd 9 rfl ?_); refine zbx 9 #[.int .u64 0, .int .u8 0, .bool false, .int .u64 0, .int .i64 0] 88 (h := ?_); intro gb210 hg w12 hbox hb; refine zbn1 HB BK209 hg hb hbox (c := ?_); clear HB BK209 hb hbox hg; intro GW210 NB209_210 BK209 HB BK210; refine zt1 NB209_210 fun _ _ => ?_; refine zu5 BK209 fun z14_0 z14_1 z14_2 z14_3 z14_4 f14_0 f14_1 f14_2 f14_3 f14_4 => ?_; refine zu5 BK210 fun z15_0 z15_1 z15_2 z15_3 z15_4 f15_0 f15_1 f15_2 f15_3 f15_4 => ?_) | ((with_reducible refine gtc 83 rfl ?_); refine zgL 17 Try.func83 (soft_either.calls t199 t200 t201 t202 t203 t204 t205 t206 t207 t208 4 true _ A6.out) (h := ?_); rintro w16 hb; replace BK209 := Aside0.mk (blk_below (o := .cells #[.int .u64 t199, .int .u8 t200, .bool t201, .int .u64 t202, .int .i64 t203] 88 (0, 0)) (zkf (zkf (zkf (zkf (zkf (blk_put (cs := #[.int .u64 t199, .int .u8 t200, .bool t201, .int .u64 t202, .int .i64 0]) (blk_put (cs := #[.int .u64 t199, .int .u8 t200, .bool t201, .int .u64 0, .int .i64 0]) (blk_put (cs := #[.int .u64 t199, .int .u8 t200, .bool false, .int .u64 0, .int .i64 0]) (blk_put (cs := #[.int .u64 t199, .int .u8 0, .bool false, .int .u64 0, .int .i64 0]) (blk_put BK209.out 0 _ rfl) 1 _ rfl) 2 _ rfl) 3 _ rfl) 4 _ rfl) NB209_210.out _) NB209_210.out _) NB209_210.out _) NB209_210.out _) NB209_210.out _) hb); replace BK210 := Aside0.mk (blk_below (o := .cells #[.int .u64 t204, .int .u8 t205, .bool t206, .int .u64 t207, .int .i64 t208] 88 (0, 0)) (blk_put (cs := #[.int .u64 t204, .int .u8 t205, .bool t206, .int .u64 t207, .int .i64 0]) (blk_put (cs := #[.int .u64 t204, .int .u8 t205, .bool t206, .int .u64 0, .int .i64 0]) (blk_put (cs := #[.int .u64 t204, .int .u8 t205, .bool false, .int .u64 0, .int .i64 0]) (blk_put (cs := #[.int .u64 t204, .int .u8 0, .bool false, .int .u64 0, .int .i64 0]) (blk_put (zkf (zkf (zkf (zkf (zkf BK210.out (zks NB209_210).out _) (zks NB209_210).out _) (zks NB209_210).out _) (zks NB209_210).out _) (zks NB209_210).out _) 0 _ rfl) 1 _ rfl) 2 _ rfl) 3 _ rfl) 4 _ rfl) hb); replace HB := Aside0.mk (below_step (below_set (below_set (below_set (below_set (below_set (below_set (below_set (below_set (below_set (below_set HB.out GW209.out) GW209.out) GW209.out) GW209.out) GW209.out) GW210.out) GW210.out) GW210.out) GW210.out) GW210.out) hb); (try clear hb)) | ((with_reducible refine gtc 81 rfl ?_); refine zgL 18 Try.func81 (pattern_Quiet.calls  t212 _ A8.out) (h := ?_); rintro w' ⟨nd, rfl⟩))
  go_ret2
  exact ⟨zaE, zaB⟩
 replace c7 := Bool.eq_false_iff.mpr c7
 subst c7
 replace H := zif H
 have HC17 := Aside0.mk H
 clear H
 go_enter Try.func21, Try.ntmps21
 go_upto_region 4 with (first | ((with_reducible refine gtc 82 rfl ?_); refine zgL 11 Try.func82 (soft_of.calls k a0 t199 t200 t201 t202 t203 _ A4.out) (h := ?_); rintro w18 hb; replace HB := Aside0.mk (below_step zaB hb); (try clear hb)) | ((with_reducible refine gtc 82 rfl ?_); refine zgL 13 Try.func82 (soft_of.calls k a1 t204 t205 t206 t207 t208 _ A5.out) (h := ?_); rintro w19 hb; replace HB := Aside0.mk (below_step zaB hb); (try clear hb)) | ((with_reducible refine gtd 8 rfl ?_); refine zbx 8 #[.int .u64 0, .int .u8 0, .bool false, .int .u64 0, .int .i64 0] 88 (h := ?_); intro gb209 hg w20 hbox hb; have GW209 := zkZ hg (zaB (p := Below w.heap.size w _)); replace HB := Aside0.mk (below_step zaB hb); have BK209 := Aside0.mk (hbox); clear hb hbox hg) | ((with_reducible refine gtd 9 rfl ?_); refine zbx 9 #[.int .u64 0, .int .u8 0, .bool false, .int .u64 0, .int .i64 0] 88 (h := ?_); intro gb210 hg w21 hbox hb; refine zbn1 HB BK209 hg hb hbox (c := ?_); clear HB BK209 hb hbox hg; intro GW210 NB209_210 BK209 HB BK210; refine zt1 NB209_210 fun _ _ => ?_; refine zu5 BK209 fun z23_0 z23_1 z23_2 z23_3 z23_4 f23_0 f23_1 f23_2 f23_3 f23_4 => ?_; refine zu5 BK210 fun z24_0 z24_1 z24_2 z24_3 z24_4 f24_0 f24_1 f24_2 f24_3 f24_4 => ?_) | ((with_reducible refine gtc 83 rfl ?_); refine zgL 17 Try.func83 (soft_either.calls t199 t200 t201 t202 t203 t204 t205 t206 t207 t208 4 false _ A6.out) (h := ?_); rintro w25 hb; replace BK209 := Aside0.mk (blk_below (o := .cells #[.int .u64 t199, .int .u8 t200, .bool t201, .int .u64 t202, .int .i64 t203] 88 (0, 0)) (zkf (zkf (zkf (zkf (zkf (blk_put (cs := #[.int .u64 t199, .int .u8 t200, .bool t201, .int .u64 t202, .int .i64 0]) (blk_put (cs := #[.int .u64 t199, .int .u8 t200, .bool t201, .int .u64 0, .int .i64 0]) (blk_put (cs := #[.int .u64 t199, .int .u8 t200, .bool false, .int .u64 0, .int .i64 0]) (blk_put (cs := #[.int .u64 t199, .int .u8 0, .bool false, .int .u64 0, .int .i64 0]) (blk_put BK209.out 0 _ rfl) 1 _ rfl) 2 _ rfl) 3 _ rfl) 4 _ rfl) NB209_210.out _) NB209_210.out _) NB209_210.out _) NB209_210.out _) NB209_210.out _) hb); replace BK210 := Aside0.mk (blk_below (o := .cells #[.int .u64 t204, .int .u8 t205, .bool t206, .int .u64 t207, .int .i64 t208] 88 (0, 0)) (blk_put (cs := #[.int .u64 t204, .int .u8 t205, .bool t206, .int .u64 t207, .int .i64 0]) (blk_put (cs := #[.int .u64 t204, .int .u8 t205, .bool t206, .int .u64 0, .int .i64 0]) (blk_put (cs := #[.int .u64 t204, .int .u8 t205, .bool false, .int .u64 0, .int .i64 0]) (blk_put (cs := #[.int .u64 t204, .int .u8 0, .bool false, .int .u64 0, .int .i64 0]) (blk_put (zkf (zkf (zkf (zkf (zkf BK210.out (zks NB209_210).out _) (zks NB209_210).out _) (zks NB209_210).out _) (zks NB209_210).out _) (zks NB209_210).out _) 0 _ rfl) 1 _ rfl) 2 _ rfl) 3 _ rfl) 4 _ rfl) hb); replace HB := Aside0.mk (below_step (below_set (below_set (below_set (below_set (below_set (below_set (below_set (below_set (below_set (below_set HB.out GW209.out) GW209.out) GW209.out) GW209.out) GW209.out) GW210.out) GW210.out) GW210.out) GW210.out) GW210.out) hb); (try clear hb)))
 (try simp only [Act.put, List.setIfInBounds_toArray, List.set_cons_zero, List.set_cons_succ])
 go_cut [19] (fun v19 wc => ∃ (kq : Nat) (x19_16 : Bool), v19 = .bool x19_16 ∧ Aside0 (soft_Add.j0 kq a0 a1 a2 x19_16 t199 t200 t201 t202 t203 t204 t205 t206 t207 t208 = some (r1, r2)) ∧ Aside0 (kq ≤ k) ∧ Aside0 (wc.heap[gb209]? = some (.cells #[.int .u64 t199, .int .u8 t200, .bool t201, .int .u64 t202, .int .i64 t203] 88 (0, 0))) ∧ Aside0 (wc.heap[gb210]? = some (.cells #[.int .u64 t204, .int .u8 t205, .bool t206, .int .u64 t207, .int .i64 t208] 88 (0, 0))) ∧ Aside0 (Below w.heap.size w wc))
 case first =>
  have H := HC17.out
  clear HC17
  by_cases c26 : t200 = 3
  ·rw [if_pos c26] at H
   have c26b0 : (t200 == 3) = true := beq_iff_eq.mpr c26
   have c26b1 : (t200 != 3) = false := bne_eq_false_iff_eq.mpr c26
   clear c26
   (first | rw [c26b0] | (simp only [i64_w, i32_w]; rw [c26b0]) | skip)
   by_cases c27 : t205 = 3
   ·rw [if_pos c27] at H
    have c27b0 : (t205 == 3) = true := beq_iff_eq.mpr c27
    have c27b1 : (t205 != 3) = false := bne_eq_false_iff_eq.mpr c27
    clear c27
    have H' := Aside0.mk H
    clear H
    refine zt1 NB209_210 fun _ _ => ?_
    refine zu5 BK209 fun z29_0 z29_1 z29_2 z29_3 z29_4 f29_0 f29_1 f29_2 f29_3 f29_4 => ?_
    refine zu5 BK210 fun z30_0 z30_1 z30_2 z30_3 z30_4 f30_0 f30_1 f30_2 f30_3 f30_4 => ?_
    go_wp2
    go_meet
    case rel => exact ⟨_, ((t201 != t206)), zrl, H', ⟨zle⟩, ⟨zkq BK209⟩, ⟨zkq BK210⟩, ⟨zaB⟩⟩
   rw [if_neg c27] at H
   have c27b0 : (t205 == 3) = false := beq_eq_false_iff_ne.mpr c27
   have c27b1 : (t205 != 3) = true := bne_iff_ne.mpr c27
   have H' := Aside0.mk H
   clear H
   refine zt1 NB209_210 fun _ _ => ?_
   refine zu5 BK209 fun z32_0 z32_1 z32_2 z32_3 z32_4 f32_0 f32_1 f32_2 f32_3 f32_4 => ?_
   refine zu5 BK210 fun z33_0 z33_1 z33_2 z33_3 z33_4 f33_0 f33_1 f33_2 f33_3 f33_4 => ?_
   go_wp2
   go_meet
   case rel => exact ⟨_, (false), zrl, H', ⟨zle⟩, ⟨zkq BK209⟩, ⟨zkq BK210⟩, ⟨zaB⟩⟩
  rw [if_neg c26] at H
  have c26b0 : (t200 == 3) = false := beq_eq_false_iff_ne.mpr c26
  have c26b1 : (t200 != 3) = true := bne_iff_ne.mpr c26
  (first | rw [c26b0] | (simp only [i64_w, i32_w]; rw [c26b0]) | skip)
  have H' := Aside0.mk H
  clear H
  refine zt1 NB209_210 fun _ _ => ?_
  refine zu5 BK209 fun z35_0 z35_1 z35_2 z35_3 z35_4 f35_0 f35_1 f35_2 f35_3 f35_4 => ?_
  go_wp2
  go_meet
  case rel => exact ⟨_, (false), zrl, H', ⟨zle⟩, ⟨zkq BK209⟩, ⟨zkq BK210⟩, ⟨zaB⟩⟩
 case rest =>
  clear HC17
  try clear c26b0
  try clear c26b1
  try clear c27b0
  try clear c27b1
  try clear z14_0 z14_1 z14_2 z14_3 z14_4 f14_0 f14_1 f14_2 f14_3 f14_4
  try clear z15_0 z15_1 z15_2 z15_3 z15_4 f15_0 f15_1 f15_2 f15_3 f15_4
  try clear z23_0 z23_1 z23_2 z23_3 z23_4 f23_0 f23_1 f23_2 f23_3 f23_4
  try clear z24_0 z24_1 z24_2 z24_3 z24_4 f24_0 f24_1 f24_2 f24_3 f24_4
  try clear z29_0 z29_1 z29_2 z29_3 z29_4 f29_0 f29_1 f29_2 f29_3 f29_4
  try clear z30_0 z30_1 z30_2 z30_3 z30_4 f30_0 f30_1 f30_2 f30_3 f30_4
  try clear z32_0 z32_1 z32_2 z32_3 z32_4 f32_0 f32_1 f32_2 f32_3 f32_4
  try clear z33_0 z33_1 z33_2 z33_3 z33_4 f33_0 f33_1 f33_2 f33_3 f33_4
  try clear z35_0 z35_1 z35_2 z35_3 z35_4 f35_0 f35_1 f35_2 f35_3 f35_4
  obtain ⟨kq, x19_16, rfl, HA, HJ16, BK209, BK210, HB⟩ := hcut
  cases kq with
  | zero => exact absurd HA.out (by simp [soft_Add.j0])
  | succ kj16 =>
   have H := HA.out
   clear HA
   simp only [soft_Add.j0] at H
   by_cases c36 : x19_16 = true
   ·subst c36
    replace H := zit H
    obtain ⟨⟨t213, t214⟩, A37, H⟩ := zbs H
    try dsimp only at H
    simp only [Option.some.injEq, Prod.mk.injEq] at H
    obtain ⟨rfl, rfl⟩ := H
    go_wp2_with (first | ((with_reducible refine gtc 84 rfl ?_); refine zgL 35 Try.func84 (soft_invalid.calls  t213 t214 _ A37.out) (h := ?_); rintro w' ⟨nd, rfl⟩))
    go_ret2
    exact ⟨zaE, zaB⟩
   replace c36 := Bool.eq_false_iff.mpr c36
   subst c36
   replace H := zif H
   by_cases c38 : t200 = 3
   ·rw [if_pos c38] at H
    have c38b0 : (t200 == 3) = true := beq_iff_eq.mpr c38
    have c38b1 : (t200 != 3) = false := bne_eq_false_iff_eq.mpr c38
    clear c38
    simp only [Option.some.injEq, Prod.mk.injEq] at H
    obtain ⟨rfl, rfl⟩ := H
    refine zt1 NB209_210 fun _ _ => ?_
    refine zu5 BK209 fun z40_0 z40_1 z40_2 z40_3 z40_4 f40_0 f40_1 f40_2 f40_3 f40_4 => ?_
    go_wp2
    go_ret2
    exact ⟨zaE, zaB⟩
   rw [if_neg c38] at H
   have c38b0 : (t200 == 3) = false := beq_eq_false_iff_ne.mpr c38
   have c38b1 : (t200 != 3) = true := bne_iff_ne.mpr c38
   by_cases c41 : t205 = 3
   ·rw [if_pos c41] at H
    have c41b0 : (t205 == 3) = true := beq_iff_eq.mpr c41
    have c41b1 : (t205 != 3) = false := bne_eq_false_iff_eq.mpr c41
    clear c41
    simp only [Option.some.injEq, Prod.mk.injEq] at H
    obtain ⟨rfl, rfl⟩ := H
    refine zt1 NB209_210 fun _ _ => ?_
    refine zu5 BK209 fun z43_0 z43_1 z43_2 z43_3 z43_4 f43_0 f43_1 f43_2 f43_3 f43_4 => ?_
    refine zu5 BK210 fun z44_0 z44_1 z44_2 z44_3 z44_4 f44_0 f44_1 f44_2 f44_3 f44_4 => ?_
    go_wp2
    go_ret2
    exact ⟨zaE, zaB⟩
   rw [if_neg c41] at H
   have c41b0 : (t205 == 3) = false := beq_eq_false_iff_ne.mpr c41
   have c41b1 : (t205 != 3) = true := bne_iff_ne.mpr c41
   have HC45 := Aside0.mk H
   clear H
   refine zt1 NB209_210 fun _ _ => ?_
   refine zu5 BK209 fun z47_0 z47_1 z47_2 z47_3 z47_4 f47_0 f47_1 f47_2 f47_3 f47_4 => ?_
   refine zu5 BK210 fun z48_0 z48_1 z48_2 z48_3 z48_4 f48_0 f48_1 f48_2 f48_3 f48_4 => ?_
   go_upto_region 10 with (fail)
   go_cut [48] (fun v48 wc => ∃ (kq : Nat) (x48_44 : Bool), v48 = .bool x48_44 ∧ Aside0 (soft_Add.j1 kq a0 a1 a2 x48_44 t199 t200 t201 t202 t203 t204 t205 t206 t207 t208 = some (r1, r2)) ∧ Aside0 (kq ≤ kj16) ∧ Aside0 (wc.heap[gb209]? = some (.cells #[.int .u64 t199, .int .u8 t200, .bool t201, .int .u64 t202, .int .i64 t203] 88 (0, 0))) ∧ Aside0 (wc.heap[gb210]? = some (.cells #[.int .u64 t204, .int .u8 t205, .bool t206, .int .u64 t207, .int .i64 t208] 88 (0, 0))) ∧ Aside0 (Below w.heap.size w wc))
   case first =>
    have H := HC45.out
    clear HC45
    by_cases c49 : t202 = 0
    ·rw [if_pos c49] at H
     have c49b0 : (t202 == 0) = true := beq_iff_eq.mpr c49
     have c49b1 : (t202 != 0) = false := bne_eq_false_iff_eq.mpr c49
     clear c49
     (first | rw [c49b0] | (simp only [i64_w, i32_w]; rw [c49b0]) | skip)
     by_cases c50 : t207 = 0
     ·rw [if_pos c50] at H
      have c50b0 : (t207 == 0) = true := beq_iff_eq.mpr c50
      have c50b1 : (t207 != 0) = false := bne_eq_false_iff_eq.mpr c50
      clear c50
      have H' := Aside0.mk H
      clear H
      refine zt1 NB209_210 fun _ _ => ?_
      refine zu5 BK209 fun z52_0 z52_1 z52_2 z52_3 z52_4 f52_0 f52_1 f52_2 f52_3 f52_4 => ?_
      refine zu5 BK210 fun z53_0 z53_1 z53_2 z53_3 z53_4 f53_0 f53_1 f53_2 f53_3 f53_4 => ?_
      go_wp2
      go_meet
      case rel => exact ⟨_, ((t201 == t206)), zrl, H', ⟨by have := HJ16.out; first | omega | exact Nat.le_refl _⟩, ⟨zkq BK209⟩, ⟨zkq BK210⟩, ⟨zaB⟩⟩
     rw [if_neg c50] at H
     have c50b0 : (t207 == 0) = false := beq_eq_false_iff_ne.mpr c50
     have c50b1 : (t207 != 0) = true := bne_iff_ne.mpr c50
     have H' := Aside0.mk H
     clear H
     refine zt1 NB209_210 fun _ _ => ?_
     refine zu5 BK209 fun z55_0 z55_1 z55_2 z55_3 z55_4 f55_0 f55_1 f55_2 f55_3 f55_4 => ?_
     refine zu5 BK210 fun z56_0 z56_1 z56_2 z56_3 z56_4 f56_0 f56_1 f56_2 f56_3 f56_4 => ?_
     go_wp2
     go_meet
     case rel => exact ⟨_, (false), zrl, H', ⟨by have := HJ16.out; first | omega | exact Nat.le_refl _⟩, ⟨zkq BK209⟩, ⟨zkq BK210⟩, ⟨zaB⟩⟩
    rw [if_neg c49] at H
    have c49b0 : (t202 == 0) = false := beq_eq_false_iff_ne.mpr c49
    have c49b1 : (t202 != 0) = true := bne_iff_ne.mpr c49
    (first | rw [c49b0] | (simp only [i64_w, i32_w]; rw [c49b0]) | skip)
    have H' := Aside0.mk H
    clear H
    refine zt1 NB209_210 fun _ _ => ?_
    refine zu5 BK209 fun z58_0 z58_1 z58_2 z58_3 z58_4 f58_0 f58_1 f58_2 f58_3 f58_4 => ?_
    go_wp2
    go_meet
    case rel => exact ⟨_, (false), zrl, H', ⟨by have := HJ16.out; first | omega | exact Nat.le_refl _⟩, ⟨zkq BK209⟩, ⟨zkq BK210⟩, ⟨zaB⟩⟩
   case rest =>
    clear HC45
    try clear c26b0
    try clear c26b1
    try clear c27b0
    try clear c27b1
    try clear c38b0
    try clear c38b1
    try clear c41b0
    try clear c41b1
    try clear c49b0
    try clear c49b1
    try clear c50b0
    try clear c50b1
    try clear z14_0 z14_1 z14_2 z14_3 z14_4 f14_0 f14_1 f14_2 f14_3 f14_4
    try clear z15_0 z15_1 z15_2 z15_3 z15_4 f15_0 f15_1 f15_2 f15_3 f15_4
    try clear z23_0 z23_1 z23_2 z23_3 z23_4 f23_0 f23_1 f23_2 f23_3 f23_4
    try clear z24_0 z24_1 z24_2 z24_3 z24_4 f24_0 f24_1 f24_2 f24_3 f24_4
    try clear z29_0 z29_1 z29_2 z29_3 z29_4 f29_0 f29_1 f29_2 f29_3 f29_4
    try clear z30_0 z30_1 z30_2 z30_3 z30_4 f30_0 f30_1 f30_2 f30_3 f30_4
    try clear z32_0 z32_1 z32_2 z32_3 z32_4 f32_0 f32_1 f32_2 f32_3 f32_4
    try clear z33_0 z33_1 z33_2 z33_3 z33_4 f33_0 f33_1 f33_2 f33_3 f33_4
    try clear z35_0 z35_1 z35_2 z35_3 z35_4 f35_0 f35_1 f35_2 f35_3 f35_4
    try clear z40_0 z40_1 z40_2 z40_3 z40_4 f40_0 f40_1 f40_2 f40_3 f40_4
    try clear z43_0 z43_1 z43_2 z43_3 z43_4 f43_0 f43_1 f43_2 f43_3 f43_4
    try clear z44_0 z44_1 z44_2 z44_3 z44_4 f44_0 f44_1 f44_2 f44_3 f44_4
    try clear z47_0 z47_1 z47_2 z47_3 z47_4 f47_0 f47_1 f47_2 f47_3 f47_4
    try clear z48_0 z48_1 z48_2 z48_3 z48_4 f48_0 f48_1 f48_2 f48_3 f48_4
    try clear z52_0 z52_1 z52_2 z52_3 z52_4 f52_0 f52_1 f52_2 f52_3 f52_4
    try clear z53_0 z53_1 z53_2 z53_3 z53_4 f53_0 f53_1 f53_2 f53_3 f53_4
    try clear z55_0 z55_1 z55_2 z55_3 z55_4 f55_0 f55_1 f55_2 f55_3 f55_4
    try clear z56_0 z56_1 z56_2 z56_3 z56_4 f56_0 f56_1 f56_2 f56_3 f56_4
    try clear z58_0 z58_1 z58_2 z58_3 z58_4 f58_0 f58_1 f58_2 f58_3 f58_4
    obtain ⟨kq, x48_44, rfl, HA, HJ44, BK209, BK210, HB⟩ := hcut
    cases kq with
    | zero => exact absurd HA.out (by simp [soft_Add.j1])
    | succ kj44 =>
     have H := HA.out
     clear HA
     simp only [soft_Add.j1] at H
     by_cases c59 : x48_44 = true
     ·subst c59
      replace H := zit H
      simp only [Option.some.injEq, Prod.mk.injEq] at H
      obtain ⟨rfl, rfl⟩ := H
      go_wp2
      go_ret2
      exact ⟨zaE, zaB⟩
     replace c59 := Bool.eq_false_iff.mpr c59
     subst c59
     replace H := zif H
     have HC60 := Aside0.mk H
     clear H
     go_upto_region 12 with (fail)
     go_cut [65] (fun v65 wc => ∃ (kq : Nat) (x65_59 : Bool), v65 = .bool x65_59 ∧ Aside0 (soft_Add.j2 kq a0 a1 a2 x65_59 t199 t200 t201 t202 t203 t204 t205 t206 t207 t208 = some (r1, r2)) ∧ Aside0 (kq ≤ kj44) ∧ Aside0 (wc.heap[gb209]? = some (.cells #[.int .u64 t199, .int .u8 t200, .bool t201, .int .u64 t202, .int .i64 t203] 88 (0, 0))) ∧ Aside0 (wc.heap[gb210]? = some (.cells #[.int .u64 t204, .int .u8 t205, .bool t206, .int .u64 t207, .int .i64 t208] 88 (0, 0))) ∧ Aside0 (Below w.heap.size w wc))
     case first =>
      have H := HC60.out
      clear HC60
      by_cases c61 : t202 = 0
      ·rw [if_pos c61] at H
       have c61b0 : (t202 == 0) = true := beq_iff_eq.mpr c61
       have c61b1 : (t202 != 0) = false := bne_eq_false_iff_eq.mpr c61
       clear c61
       (first | rw [c61b0] | (simp only [i64_w, i32_w]; rw [c61b0]) | skip)
       have H' := Aside0.mk H
       clear H
       refine zt1 NB209_210 fun _ _ => ?_
       refine zu5 BK209 fun z63_0 z63_1 z63_2 z63_3 z63_4 f63_0 f63_1 f63_2 f63_3 f63_4 => ?_
       refine zu5 BK210 fun z64_0 z64_1 z64_2 z64_3 z64_4 f64_0 f64_1 f64_2 f64_3 f64_4 => ?_
       go_wp2
       go_meet
       case rel => exact ⟨_, ((t207 == 0)), zrl, H', ⟨by have := HJ16.out; have := HJ44.out; first | omega | exact Nat.le_refl _⟩, ⟨zkq BK209⟩, ⟨zkq BK210⟩, ⟨zaB⟩⟩
      rw [if_neg c61] at H
      have c61b0 : (t202 == 0) = false := beq_eq_false_iff_ne.mpr c61
      have c61b1 : (t202 != 0) = true := bne_iff_ne.mpr c61
      (first | rw [c61b0] | (simp only [i64_w, i32_w]; rw [c61b0]) | skip)
      have H' := Aside0.mk H
      clear H
      refine zt1 NB209_210 fun _ _ => ?_
      refine zu5 BK209 fun z66_0 z66_1 z66_2 z66_3 z66_4 f66_0 f66_1 f66_2 f66_3 f66_4 => ?_
      go_wp2
      go_meet
      case rel => exact ⟨_, (false), zrl, H', ⟨by have := HJ16.out; have := HJ44.out; first | omega | exact Nat.le_refl _⟩, ⟨zkq BK209⟩, ⟨zkq BK210⟩, ⟨zaB⟩⟩
     case rest =>
      clear HC60
      try clear c26b0
      try clear c26b1
      try clear c27b0
      try clear c27b1
      try clear c38b0
      try clear c38b1
      try clear c41b0
      try clear c41b1
      try clear c49b0
      try clear c49b1
      try clear c50b0
      try clear c50b1
      try clear c61b0
      try clear c61b1
      try clear z14_0 z14_1 z14_2 z14_3 z14_4 f14_0 f14_1 f14_2 f14_3 f14_4
      try clear z15_0 z15_1 z15_2 z15_3 z15_4 f15_0 f15_1 f15_2 f15_3 f15_4
      try clear z23_0 z23_1 z23_2 z23_3 z23_4 f23_0 f23_1 f23_2 f23_3 f23_4
      try clear z24_0 z24_1 z24_2 z24_3 z24_4 f24_0 f24_1 f24_2 f24_3 f24_4
      try clear z29_0 z29_1 z29_2 z29_3 z29_4 f29_0 f29_1 f29_2 f29_3 f29_4
      try clear z30_0 z30_1 z30_2 z30_3 z30_4 f30_0 f30_1 f30_2 f30_3 f30_4
      try clear z32_0 z32_1 z32_2 z32_3 z32_4 f32_0 f32_1 f32_2 f32_3 f32_4
      try clear z33_0 z33_1 z33_2 z33_3 z33_4 f33_0 f33_1 f33_2 f33_3 f33_4
      try clear z35_0 z35_1 z35_2 z35_3 z35_4 f35_0 f35_1 f35_2 f35_3 f35_4
      try clear z40_0 z40_1 z40_2 z40_3 z40_4 f40_0 f40_1 f40_2 f40_3 f40_4
      try clear z43_0 z43_1 z43_2 z43_3 z43_4 f43_0 f43_1 f43_2 f43_3 f43_4
      try clear z44_0 z44_1 z44_2 z44_3 z44_4 f44_0 f44_1 f44_2 f44_3 f44_4
      try clear z47_0 z47_1 z47_2 z47_3 z47_4 f47_0 f47_1 f47_2 f47_3 f47_4
      try clear z48_0 z48_1 z48_2 z48_3 z48_4 f48_0 f48_1 f48_2 f48_3 f48_4
      try clear z52_0 z52_1 z52_2 z52_3 z52_4 f52_0 f52_1 f52_2 f52_3 f52_4
      try clear z53_0 z53_1 z53_2 z53_3 z53_4 f53_0 f53_1 f53_2 f53_3 f53_4
      try clear z55_0 z55_1 z55_2 z55_3 z55_4 f55_0 f55_1 f55_2 f55_3 f55_4
      try clear z56_0 z56_1 z56_2 z56_3 z56_4 f56_0 f56_1 f56_2 f56_3 f56_4
      try clear z58_0 z58_1 z58_2 z58_3 z58_4 f58_0 f58_1 f58_2 f58_3 f58_4
      try clear z63_0 z63_1 z63_2 z63_3 z63_4 f63_0 f63_1 f63_2 f63_3 f63_4
      try clear z64_0 z64_1 z64_2 z64_3 z64_4 f64_0 f64_1 f64_2 f64_3 f64_4
      try clear z66_0 z66_1 z66_2 z66_3 z66_4 f66_0 f66_1 f66_2 f66_3 f66_4
      obtain ⟨kq, x65_59, rfl, HA, HJ59, BK209, BK210, HB⟩ := hcut
      cases kq with
      | zero => exact absurd HA.out (by simp [soft_Add.j2])
      | succ kj59 =>
       have H := HA.out
       clear HA
       simp only [soft_Add.j2] at H
       by_cases c67 : x65_59 = true
       ·subst c67
        replace H := zit H
        obtain ⟨t215, A68, H⟩ := zbs H
        try dsimp only at H
        simp only [Option.some.injEq, Prod.mk.injEq] at H
        obtain ⟨rfl, rfl⟩ := H
        go_wp2_with (first | ((with_reducible refine gtc 85 rfl ?_); refine zgL 76 Try.func85 (soft_zero.calls kj59 (a2 == 2) t215 _ A68.out) (h := ?_); rintro w' ⟨nd, rfl⟩))
        go_ret2
        exact ⟨zaE, zaB⟩
       replace c67 := Bool.eq_false_iff.mpr c67
       subst c67
       replace H := zif H
       by_cases c69 : t202 = 0
       ·rw [if_pos c69] at H
        have c69b0 : (t202 == 0) = true := beq_iff_eq.mpr c69
        have c69b1 : (t202 != 0) = false := bne_eq_false_iff_eq.mpr c69
        clear c69
        simp only [Option.some.injEq, Prod.mk.injEq] at H
        obtain ⟨rfl, rfl⟩ := H
        refine zt1 NB209_210 fun _ _ => ?_
        refine zu5 BK209 fun _ _ _ _ _ _ _ _ _ _ => ?_
        go_wp2
        go_ret2
        exact ⟨zaE, zaB⟩
       rw [if_neg c69] at H
       have c69b0 : (t202 == 0) = false := beq_eq_false_iff_ne.mpr c69
       have c69b1 : (t202 != 0) = true := bne_iff_ne.mpr c69
       by_cases c72 : t207 = 0
       ·rw [if_pos c72] at H
        have c72b0 : (t207 == 0) = true := beq_iff_eq.mpr c72
        have c72b1 : (t207 != 0) = false := bne_eq_false_iff_eq.mpr c72
        clear c72
        simp only [Option.some.injEq, Prod.mk.injEq] at H
        obtain ⟨rfl, rfl⟩ := H
        refine zt1 NB209_210 fun _ _ => ?_
        refine zu5 BK209 fun _ _ _ _ _ _ _ _ _ _ => ?_
        refine zu5 BK210 fun _ _ _ _ _ _ _ _ _ _ => ?_
        go_wp2
        go_ret2
        exact ⟨zaE, zaB⟩
       rw [if_neg c72] at H
       have c72b0 : (t207 == 0) = false := beq_eq_false_iff_ne.mpr c72
       have c72b1 : (t207 != 0) = true := bne_iff_ne.mpr c72
       by_cases c76 : t203 < t208
       ·rw [if_pos c76] at H
        have c76b0 : decide (t203 < t208) = true := decide_eq_true c76
        clear c76
        obtain ⟨⟨t216, t217⟩, A77, H⟩ := zbs H
        try dsimp only at H
        simp only [Option.some.injEq, Prod.mk.injEq] at H
        obtain ⟨rfl, rfl⟩ := H
        refine zt1 NB209_210 fun _ _ => ?_
        refine zu5 BK209 fun _ _ _ _ _ _ _ _ _ _ => ?_
        refine zu5 BK210 fun _ _ _ _ _ _ _ _ _ _ => ?_
        go_wp2_with (first | ((with_reducible refine gtc 86 rfl ?_); refine zgL 111 Try.func86 (soft_num_add.calls kj59 t204 t205 t206 t207 t208 t199 t200 t201 t202 t203 a2 t216 t217 _ A77.out) (h := ?_); rintro w81 hb; replace BK209 := Aside0.mk (blk_below (o := .cells #[.int .u64 t204, .int .u8 t205, .bool t206, .int .u64 t207, .int .i64 t208] 88 (0, 0)) (zkf (zkf (zkf (zkf (zkf (blk_put (cs := #[.int .u64 t204, .int .u8 t205, .bool t206, .int .u64 t207, .int .i64 t203]) (blk_put (cs := #[.int .u64 t204, .int .u8 t205, .bool t206, .int .u64 t202, .int .i64 t203]) (blk_put (cs := #[.int .u64 t204, .int .u8 t205, .bool t201, .int .u64 t202, .int .i64 t203]) (blk_put (cs := #[.int .u64 t204, .int .u8 t200, .bool t201, .int .u64 t202, .int .i64 t203]) (blk_put BK209.out 0 _ rfl) 1 _ rfl) 2 _ rfl) 3 _ rfl) 4 _ rfl) NB209_210.out _) NB209_210.out _) NB209_210.out _) NB209_210.out _) NB209_210.out _) hb); replace BK210 := Aside0.mk (blk_below (o := .cells #[.int .u64 t199, .int .u8 t200, .bool t201, .int .u64 t202, .int .i64 t203] 88 (0, 0)) (blk_put (cs := #[.int .u64 t199, .int .u8 t200, .bool t201, .int .u64 t202, .int .i64 t208]) (blk_put (cs := #[.int .u64 t199, .int .u8 t200, .bool t201, .int .u64 t207, .int .i64 t208]) (blk_put (cs := #[.int .u64 t199, .int .u8 t200, .bool t206, .int .u64 t207, .int .i64 t208]) (blk_put (cs := #[.int .u64 t199, .int .u8 t205, .bool t206, .int .u64 t207, .int .i64 t208]) (blk_put (zkf (zkf (zkf (zkf (zkf BK210.out (zks NB209_210).out _) (zks NB209_210).out _) (zks NB209_210).out _) (zks NB209_210).out _) (zks NB209_210).out _) 0 _ rfl) 1 _ rfl) 2 _ rfl) 3 _ rfl) 4 _ rfl) hb); replace HB := Aside0.mk (below_step (below_set (below_set (below_set (below_set (below_set (below_set (below_set (below_set (below_set (below_set HB.out GW209.out) GW209.out) GW209.out) GW209.out) GW209.out) GW210.out) GW210.out) GW210.out) GW210.out) GW210.out) hb); (try clear hb)))
        go_ret2
        exact ⟨zaE, zaB⟩
       rw [if_neg c76] at H
       have c76b0 : decide (t203 < t208) = false := decide_eq_false c76
       clear c76
       by_cases c82 : t203 = t208
       ·rw [if_pos c82] at H
        have c82b0 : (t203 == t208) = true := beq_iff_eq.mpr c82
        have c82b1 : (t203 != t208) = false := bne_eq_false_iff_eq.mpr c82
        clear c82
        by_cases c83 : t202 < t207
        ·rw [if_pos c83] at H
         have c83b0 : decide (t202 < t207) = true := decide_eq_true c83
         clear c83
         obtain ⟨⟨t218, t219⟩, A84, H⟩ := zbs H
         try dsimp only at H
         simp only [Option.some.injEq, Prod.mk.injEq] at H
         obtain ⟨rfl, rfl⟩ := H
         refine zt1 NB209_210 fun _ _ => ?_
         refine zu5 BK209 fun _ _ _ _ _ _ _ _ _ _ => ?_
         refine zu5 BK210 fun _ _ _ _ _ _ _ _ _ _ => ?_
         go_wp2_with (first | ((with_reducible refine gtc 86 rfl ?_); refine zgL 111 Try.func86 (soft_num_add.calls kj59 t204 t205 t206 t207 t208 t199 t200 t201 t202 t203 a2 t218 t219 _ A84.out) (h := ?_); rintro w88 hb; replace BK209 := Aside0.mk (blk_below (o := .cells #[.int .u64 t204, .int .u8 t205, .bool t206, .int .u64 t207, .int .i64 t208] 88 (0, 0)) (zkf (zkf (zkf (zkf (zkf (blk_put (cs := #[.int .u64 t204, .int .u8 t205, .bool t206, .int .u64 t207, .int .i64 t203]) (blk_put (cs := #[.int .u64 t204, .int .u8 t205, .bool t206, .int .u64 t202, .int .i64 t203]) (blk_put (cs := #[.int .u64 t204, .int .u8 t205, .bool t201, .int .u64 t202, .int .i64 t203]) (blk_put (cs := #[.int .u64 t204, .int .u8 t200, .bool t201, .int .u64 t202, .int .i64 t203]) (blk_put BK209.out 0 _ rfl) 1 _ rfl) 2 _ rfl) 3 _ rfl) 4 _ rfl) NB209_210.out _) NB209_210.out _) NB209_210.out _) NB209_210.out _) NB209_210.out _) hb); replace BK210 := Aside0.mk (blk_below (o := .cells #[.int .u64 t199, .int .u8 t200, .bool t201, .int .u64 t202, .int .i64 t203] 88 (0, 0)) (blk_put (cs := #[.int .u64 t199, .int .u8 t200, .bool t201, .int .u64 t202, .int .i64 t208]) (blk_put (cs := #[.int .u64 t199, .int .u8 t200, .bool t201, .int .u64 t207, .int .i64 t208]) (blk_put (cs := #[.int .u64 t199, .int .u8 t200, .bool t206, .int .u64 t207, .int .i64 t208]) (blk_put (cs := #[.int .u64 t199, .int .u8 t205, .bool t206, .int .u64 t207, .int .i64 t208]) (blk_put (zkf (zkf (zkf (zkf (zkf BK210.out (zks NB209_210).out _) (zks NB209_210).out _) (zks NB209_210).out _) (zks NB209_210).out _) (zks NB209_210).out _) 0 _ rfl) 1 _ rfl) 2 _ rfl) 3 _ rfl) 4 _ rfl) hb); replace HB := Aside0.mk (below_step (below_set (below_set (below_set (below_set (below_set (below_set (below_set (below_set (below_set (below_set HB.out GW209.out) GW209.out) GW209.out) GW209.out) GW209.out) GW210.out) GW210.out) GW210.out) GW210.out) GW210.out) hb); (try clear hb)))
         go_ret2
         exact ⟨zaE, zaB⟩
        rw [if_neg c83] at H
        have c83b0 : decide (t202 < t207) = false := decide_eq_false c83
        clear c83
        obtain ⟨⟨t220, t221⟩, A89, H⟩ := zbs H
        try dsimp only at H
        simp only [Option.some.injEq, Prod.mk.injEq] at H
        obtain ⟨rfl, rfl⟩ := H
        refine zt1 NB209_210 fun _ _ => ?_
        refine zu5 BK209 fun _ _ _ _ _ _ _ _ _ _ => ?_
        refine zu5 BK210 fun _ _ _ _ _ _ _ _ _ _ => ?_
        go_wp2_with (first | ((with_reducible refine gtc 86 rfl ?_); refine zgL 111 Try.func86 (soft_num_add.calls kj59 t199 t200 t201 t202 t203 t204 t205 t206 t207 t208 a2 t220 t221 _ A89.out) (h := ?_); rintro w93 hb; refine zcn2 HB BK209 BK210 hb (c := ?_); clear HB BK209 BK210 hb; intro BK209 BK210 HB))
        go_ret2
        exact ⟨zaE, zaB⟩
       rw [if_neg c82] at H
       have c82b0 : (t203 == t208) = false := beq_eq_false_iff_ne.mpr c82
       have c82b1 : (t203 != t208) = true := bne_iff_ne.mpr c82
       obtain ⟨⟨t222, t223⟩, A94, H⟩ := zbs H
       try dsimp only at H
       simp only [Option.some.injEq, Prod.mk.injEq] at H
       obtain ⟨rfl, rfl⟩ := H
       refine zt1 NB209_210 fun _ _ => ?_
       refine zu5 BK209 fun _ _ _ _ _ _ _ _ _ _ => ?_
       refine zu5 BK210 fun _ _ _ _ _ _ _ _ _ _ => ?_
       go_wp2_with (first | ((with_reducible refine gtc 86 rfl ?_); refine zgL 111 Try.func86 (soft_num_add.calls kj59 t199 t200 t201 t202 t203 t204 t205 t206 t207 t208 a2 t222 t223 _ A94.out) (h := ?_); rintro w98 hb; refine zcn2 HB BK209 BK210 hb (c := ?_); clear HB BK209 BK210 hb; intro BK209 BK210 HB))
       go_ret2
       exact ⟨zaE, zaB⟩
theorem slip_add.calls (k : Nat) (a0 : Int) (a1 : Int) (r : Int) (w : World) (h : slip_add.f k a0 a1 = some r) :
  Calls Try.prog 133 #[.int .u64 a0, .int .u64 a1] w fun e w' => e = .returned (.int .u64 r) ∧ Below w.heap.size w w' := by
 have HB := Aside0.mk (Below.refl w.heap.size w)
 have H := h
 unfold slip_add.f at H
 clear h
 obtain ⟨⟨t1495, t1496⟩, A3, H⟩ := zbs H
 try dsimp only at H
 obtain ⟨t1497, A4, H⟩ := zbs H
 try dsimp only at H
 obtain rfl := Option.some.inj H
 go_enter Try.func133, Try.ntmps133
 go_wp2_with (first | ((with_reducible refine gtc 21 rfl ?_); refine zgL 10 Try.func21 (soft_Add.calls k a0 a1 1 t1495 t1496 _ A3.out) (h := ?_); rintro w5 hb; replace HB := Aside0.mk (below_step zaB hb); (try clear hb)) | ((with_reducible refine gtc 61 rfl ?_); refine zgL 14 Try.func61 (slip_Good.calls k t1495 t1497 _ A4.out) (h := ?_); rintro w' ⟨nd, rfl⟩))
 go_ret
 exact ⟨zaE, zaB⟩
theorem soft_Sub.calls (k : Nat) (a0 : Int) (a1 : Int) (a2 : Int) (r1 : Int) (r2 : Int) (w : World) (h : soft_Sub.f k a0 a1 a2 = some (r1, r2)) :
  Calls Try.prog 23 #[.int .u64 a0, .int .u64 a1, .int .u8 a2] w fun e w' => e = .returned (.tuple #[.int .u64 r1, .int .u8 r2]) ∧ Below w.heap.size w w' := by
 have HB := Aside0.mk (Below.refl w.heap.size w)
 have H := h
 unfold soft_Sub.f at H
 clear h
 obtain ⟨t226, A4, H⟩ := zbs H
 try dsimp only at H
 obtain ⟨⟨t227, t228⟩, A5, H⟩ := zbs H
 try dsimp only at H
 simp only [Option.some.injEq, Prod.mk.injEq] at H
 obtain ⟨rfl, rfl⟩ := H
 go_enter Try.func23, Try.ntmps23
 go_wp2_with (first | ((with_reducible refine gtc 32 rfl ?_); refine zgL 10 Try.func32 (pattern_Neg.calls k a1 t226 _ A4.out) (h := ?_); rintro w' ⟨nd, rfl⟩) | ((with_reducible refine gtc 21 rfl ?_); refine zgL 12 Try.func21 (soft_Add.calls k a0 t226 a2 t227 t228 _ A5.out) (h := ?_); rintro w6 hb; replace HB := Aside0.mk (below_step zaB hb); (try clear hb)))
 go_ret2
 exact ⟨zaE, zaB⟩
theorem span_Inside.calls (k : Nat) (a0_0 : Bool) (a0_1 : Int) (a0_2 : Int) (a1_0 : Bool) (a1_1 : Int) (a1_2 : Int) (r : Bool) (w : World) (h : span_Inside.f k a0_0 a0_1 a0_2 a1_0 a1_1 a1_2 = some r) :
  Calls Try.prog 43 #[.agg #[.bool a0_0, .int .u64 a0_1, .int .u64 a0_2], .agg #[.bool a1_0, .int .u64 a1_1, .int .u64 a1_2]] w fun e w' => e = .returned (.bool r) ∧ Below w.heap.size w w' := by
 have hu43 := Try.underlying43
 have HB := Aside0.mk (Below.refl w.heap.size w)
 have H := h
 unfold span_Inside.f at H
 clear h
 obtain ⟨⟨t733, t734, t735⟩, A3, H⟩ := zbs H
 try dsimp only at H
 obtain ⟨⟨t736, t737, t738⟩, A4, H⟩ := zbs H
 try dsimp only at H
 by_cases c5 : t733 = true
 ·subst c5
  replace H := zit H
  obtain rfl := Option.some.inj H
  go_enter Try.func43, Try.ntmps43
  try go_wp2_with (first | ((with_reducible refine gtd 2 rfl ?_); refine zbx 2 #[.bool a0_0, .int .u64 a0_1, .int .u64 a0_2] 43 (h := ?_); intro gb731 hg w6 hbox hb; have GW731 := zkZ hg (zaB (p := Below w.heap.size w _)); replace HB := Aside0.mk (below_step zaB hb); have BK731 := Aside0.mk (hbox); clear hb hbox hg) | ((with_reducible refine gtd 3 rfl ?_); refine zbx 3 #[.bool a1_0, .int .u64 a1_1, .int .u64 a1_2] 43 (h := ?_); intro gb732 hg w7 hbox hb; refine zbn1 HB BK731 hg hb hbox (c := ?_); clear HB BK731 hb hbox hg; intro GW732 NB731_732 BK731 HB BK732))
  replace BK731 := Aside0.mk (blk_drew BK731.out)
  replace BK732 := Aside0.mk (blk_drew BK732.out)
  replace HB := Aside0.mk (below_drew1 HB.out)
  refine start_ (n := 6) (S := fun w' => w'.cell? ⟨gb731, 0, none⟩ = some (.bool a0_0) ∧ w'.cell? ⟨gb731, 1, none⟩ = some (.int .u64 a0_1) ∧ w'.cell? ⟨gb731, 2, none⟩ = some (.int .u64 a0_2) ∧ w'.cell? ⟨gb732, 0, none⟩ = some (.bool a1_0) ∧ w'.cell? ⟨gb732, 1, none⟩ = some (.int .u64 a1_1) ∧ w'.cell? ⟨gb732, 2, none⟩ = some (.int .u64 a1_2)) (ds := [4, 5]) #[false, false, false, false, false, false] (by kernel_rfl) rfl rfl (zk3 BK731 (ze3 BK732)) (fun hHeld => ?_)
  generalize w7.drew = w8 at BK731 BK732 HB hHeld ⊢
  refine ztA 0 5 (h := ?_)
  refine ztA 2 7 (h := ?_)
  refine zoA 1 6 (h := fun K hK => ?_)
  refine zgA Try.func112 (span_norm.calls k a0_0 a0_1 a0_2 true t734 t735 _ A3.out) (h := ?_)
  rintro w9 hb
  refine zcn2 HB BK731 BK732 hb (c := ?_)
  clear HB BK731 BK732 hb
  intro BK731 BK732 HB
  refine hK.out _ _ (zk3 BK731 (ze3 BK732)) (fun hHeld => ?_)
  clear hK K
  refine znA 6 (h := ?_)
  refine zoA 3 8 (h := fun K hK => ?_)
  refine zgA Try.func112 (span_norm.calls k a1_0 a1_1 a1_2 t736 t737 t738 _ A4.out) (h := ?_)
  rintro w10 hb
  refine zcn2 HB BK731 BK732 hb (c := ?_)
  clear HB BK731 BK732 hb
  intro BK731 BK732 HB
  refine hK.out _ _ (zk3 BK731 (ze3 BK732)) (fun hHeld => ?_)
  clear hK K
  refine znA 8 (h := ?_)
  refine last_ (i := 4) (N := none) #[true, true, true, true, true, false] rfl rfl (by kernel_rfl) (by decide) (fun K hK => ?_)
  have hs11 := zc0 BK731
  have hfs11 := blk_frozen BK731.out 0
  refine zt1 NB731_732 fun _ _ => ?_
  have hs12 := zc1 BK731
  have hfs12 := blk_frozen BK731.out 1
  refine zt1 NB731_732 fun _ _ => ?_
  have hs13 := zc2 BK731
  have hfs13 := blk_frozen BK731.out 2
  refine zt1 NB731_732 fun _ _ => ?_
  refine skip_ (w1 := ?_) (by rfl) rfl ?_ ?_
  rotate_left
  ·go_simp
   rfl
  refine hK.out _ _ ?_
  clear hK K
  refine last_ (i := 5) (N := none) #[true, true, true, true, true, true] rfl rfl (by kernel_rfl) (by decide) (fun K hK => ?_)
  have hs14 := zc0 BK732
  have hfs14 := blk_frozen BK732.out 0
  refine zt1 NB731_732 fun _ _ => ?_
  have hs15 := zc1 BK732
  have hfs15 := blk_frozen BK732.out 1
  refine zt1 NB731_732 fun _ _ => ?_
  have hs16 := zc2 BK732
  have hfs16 := blk_frozen BK732.out 2
  refine zt1 NB731_732 fun _ _ => ?_
  refine skip_ (w1 := ?_) (by rfl) rfl ?_ ?_
  rotate_left
  ·go_simp
   rfl
  refine hK.out _ _ ?_
  clear hK K
  refine done_ (by kernel_rfl) ?_
  refine zt1 NB731_732 fun _ _ => ?_
  refine zu3 BK731 fun _ _ _ _ _ _ => ?_
  try go_wp2
  go_ret
  exact ⟨zaE, zaB⟩
 replace c5 := Bool.eq_false_iff.mpr c5
 subst c5
 replace H := zif H
 by_cases c19 : t736 = true
 ·subst c19
  replace H := zit H
  obtain rfl := Option.some.inj H
  go_enter Try.func43, Try.ntmps43
  try go_wp2_with (first | ((with_reducible refine gtd 2 rfl ?_); refine zbx 2 #[.bool a0_0, .int .u64 a0_1, .int .u64 a0_2] 43 (h := ?_); intro gb731 hg w20 hbox hb; have GW731 := zkZ hg (zaB (p := Below w.heap.size w _)); replace HB := Aside0.mk (below_step zaB hb); have BK731 := Aside0.mk (hbox); clear hb hbox hg) | ((with_reducible refine gtd 3 rfl ?_); refine zbx 3 #[.bool a1_0, .int .u64 a1_1, .int .u64 a1_2] 43 (h := ?_); intro gb732 hg w21 hbox hb; refine zbn1 HB BK731 hg hb hbox (c := ?_); clear HB BK731 hb hbox hg; intro GW732 NB731_732 BK731 HB BK732))
  replace BK731 := Aside0.mk (blk_drew BK731.out)
  replace BK732 := Aside0.mk (blk_drew BK732.out)
  replace HB := Aside0.mk (below_drew1 HB.out)
  refine start_ (n := 6) (S := fun w' => w'.cell? ⟨gb731, 0, none⟩ = some (.bool a0_0) ∧ w'.cell? ⟨gb731, 1, none⟩ = some (.int .u64 a0_1) ∧ w'.cell? ⟨gb731, 2, none⟩ = some (.int .u64 a0_2) ∧ w'.cell? ⟨gb732, 0, none⟩ = some (.bool a1_0) ∧ w'.cell? ⟨gb732, 1, none⟩ = some (.int .u64 a1_1) ∧ w'.cell? ⟨gb732, 2, none⟩ = some (.int .u64 a1_2)) (ds := [4, 5]) #[false, false, false, false, false, false] (by kernel_rfl) rfl rfl (zk3 BK731 (ze3 BK732)) (fun hHeld => ?_)
  generalize w21.drew = w22 at BK731 BK732 HB hHeld ⊢
  refine ztA 0 5 (h := ?_)
  refine ztA 2 7 (h := ?_)
  refine zoA 1 6 (h := fun K hK => ?_)
  refine zgA Try.func112 (span_norm.calls k a0_0 a0_1 a0_2 false t734 t735 _ A3.out) (h := ?_)
  rintro w23 hb
  refine zcn2 HB BK731 BK732 hb (c := ?_)
  clear HB BK731 BK732 hb
  intro BK731 BK732 HB
  refine hK.out _ _ (zk3 BK731 (ze3 BK732)) (fun hHeld => ?_)
  clear hK K
  refine znA 6 (h := ?_)
  refine zoA 3 8 (h := fun K hK => ?_)
  refine zgA Try.func112 (span_norm.calls k a1_0 a1_1 a1_2 true t737 t738 _ A4.out) (h := ?_)
  rintro w24 hb
  refine zcn2 HB BK731 BK732 hb (c := ?_)
  clear HB BK731 BK732 hb
  intro BK731 BK732 HB
  refine hK.out _ _ (zk3 BK731 (ze3 BK732)) (fun hHeld => ?_)
  clear hK K
  refine znA 8 (h := ?_)
  refine last_ (i := 4) (N := none) #[true, true, true, true, true, false] rfl rfl (by kernel_rfl) (by decide) (fun K hK => ?_)
  have hs25 := zc0 BK731
  have hfs25 := blk_frozen BK731.out 0
  refine zt1 NB731_732 fun _ _ => ?_
  have hs26 := zc1 BK731
  have hfs26 := blk_frozen BK731.out 1
  refine zt1 NB731_732 fun _ _ => ?_
  have hs27 := zc2 BK731
  have hfs27 := blk_frozen BK731.out 2
  refine zt1 NB731_732 fun _ _ => ?_
  refine skip_ (w1 := ?_) (by rfl) rfl ?_ ?_
  rotate_left
  ·go_simp
   rfl
  refine hK.out _ _ ?_
  clear hK K
  refine last_ (i := 5) (N := none) #[true, true, true, true, true, true] rfl rfl (by kernel_rfl) (by decide) (fun K hK => ?_)
  have hs28 := zc0 BK732
  have hfs28 := blk_frozen BK732.out 0
  refine zt1 NB731_732 fun _ _ => ?_
  have hs29 := zc1 BK732
  have hfs29 := blk_frozen BK732.out 1
  refine zt1 NB731_732 fun _ _ => ?_
  have hs30 := zc2 BK732
  have hfs30 := blk_frozen BK732.out 2
  refine zt1 NB731_732 fun _ _ => ?_
  refine skip_ (w1 := ?_) (by rfl) rfl ?_ ?_
  rotate_left
  ·go_simp
   rfl
  refine hK.out _ _ ?_
  clear hK K
  refine done_ (by kernel_rfl) ?_
  refine zt1 NB731_732 fun _ _ => ?_
  refine zu3 BK731 fun _ _ _ _ _ _ => ?_
  refine zu3 BK732 fun _ _ _ _ _ _ => ?_
  try go_wp2
  go_ret
  exact ⟨zaE, zaB⟩
 replace c19 := Bool.eq_false_iff.mpr c19
 subst c19
 replace H := zif H
 obtain ⟨t739, A34, H⟩ := zbs H
 try dsimp only at H
 by_cases c35 : t739 = true
 ·subst c35
  replace H := zit H
  obtain ⟨t740, A36, H⟩ := zbs H
  try dsimp only at H
  obtain rfl := Option.some.inj H
  go_enter Try.func43, Try.ntmps43
  try go_wp2_with (first | ((with_reducible refine gtd 2 rfl ?_); refine zbx 2 #[.bool a0_0, .int .u64 a0_1, .int .u64 a0_2] 43 (h := ?_); intro gb731 hg w37 hbox hb; have GW731 := zkZ hg (zaB (p := Below w.heap.size w _)); replace HB := Aside0.mk (below_step zaB hb); have BK731 := Aside0.mk (hbox); clear hb hbox hg) | ((with_reducible refine gtd 3 rfl ?_); refine zbx 3 #[.bool a1_0, .int .u64 a1_1, .int .u64 a1_2] 43 (h := ?_); intro gb732 hg w38 hbox hb; refine zbn1 HB BK731 hg hb hbox (c := ?_); clear HB BK731 hb hbox hg; intro GW732 NB731_732 BK731 HB BK732))
  replace BK731 := Aside0.mk (blk_drew BK731.out)
  replace BK732 := Aside0.mk (blk_drew BK732.out)
  replace HB := Aside0.mk (below_drew1 HB.out)
  refine start_ (n := 6) (S := fun w' => w'.cell? ⟨gb731, 0, none⟩ = some (.bool a0_0) ∧ w'.cell? ⟨gb731, 1, none⟩ = some (.int .u64 a0_1) ∧ w'.cell? ⟨gb731, 2, none⟩ = some (.int .u64 a0_2) ∧ w'.cell? ⟨gb732, 0, none⟩ = some (.bool a1_0) ∧ w'.cell? ⟨gb732, 1, none⟩ = some (.int .u64 a1_1) ∧ w'.cell? ⟨gb732, 2, none⟩ = some (.int .u64 a1_2)) (ds := [4, 5]) #[false, false, false, false, false, false] (by kernel_rfl) rfl rfl (zk3 BK731 (ze3 BK732)) (fun hHeld => ?_)
  generalize w38.drew = w39 at BK731 BK732 HB hHeld ⊢
  refine ztA 0 5 (h := ?_)
  refine ztA 2 7 (h := ?_)
  refine zoA 1 6 (h := fun K hK => ?_)
  refine zgA Try.func112 (span_norm.calls k a0_0 a0_1 a0_2 false t734 t735 _ A3.out) (h := ?_)
  rintro w40 hb
  refine zcn2 HB BK731 BK732 hb (c := ?_)
  clear HB BK731 BK732 hb
  intro BK731 BK732 HB
  refine hK.out _ _ (zk3 BK731 (ze3 BK732)) (fun hHeld => ?_)
  clear hK K
  refine znA 6 (h := ?_)
  refine zoA 3 8 (h := fun K hK => ?_)
  refine zgA Try.func112 (span_norm.calls k a1_0 a1_1 a1_2 false t737 t738 _ A4.out) (h := ?_)
  rintro w41 hb
  refine zcn2 HB BK731 BK732 hb (c := ?_)
  clear HB BK731 BK732 hb
  intro BK731 BK732 HB
  refine hK.out _ _ (zk3 BK731 (ze3 BK732)) (fun hHeld => ?_)
  clear hK K
  refine znA 8 (h := ?_)
  refine last_ (i := 4) (N := none) #[true, true, true, true, true, false] rfl rfl (by kernel_rfl) (by decide) (fun K hK => ?_)
  have hs42 := zc0 BK731
  have hfs42 := blk_frozen BK731.out 0
  refine zt1 NB731_732 fun _ _ => ?_
  have hs43 := zc1 BK731
  have hfs43 := blk_frozen BK731.out 1
  refine zt1 NB731_732 fun _ _ => ?_
  have hs44 := zc2 BK731
  have hfs44 := blk_frozen BK731.out 2
  refine zt1 NB731_732 fun _ _ => ?_
  refine skip_ (w1 := ?_) (by rfl) rfl ?_ ?_
  rotate_left
  ·go_simp
   rfl
  refine hK.out _ _ ?_
  clear hK K
  refine last_ (i := 5) (N := none) #[true, true, true, true, true, true] rfl rfl (by kernel_rfl) (by decide) (fun K hK => ?_)
  have hs45 := zc0 BK732
  have hfs45 := blk_frozen BK732.out 0
  refine zt1 NB731_732 fun _ _ => ?_
  have hs46 := zc1 BK732
  have hfs46 := blk_frozen BK732.out 1
  refine zt1 NB731_732 fun _ _ => ?_
  have hs47 := zc2 BK732
  have hfs47 := blk_frozen BK732.out 2
  refine zt1 NB731_732 fun _ _ => ?_
  refine skip_ (w1 := ?_) (by rfl) rfl ?_ ?_
  rotate_left
  ·go_simp
   rfl
  refine hK.out _ _ ?_
  clear hK K
  refine done_ (by kernel_rfl) ?_
  refine zt1 NB731_732 fun _ _ => ?_
  refine zu3 BK731 fun _ _ _ _ _ _ => ?_
  refine zu3 BK732 fun _ _ _ _ _ _ => ?_
  try go_wp2_with (first | (go_at_call 117; (with_reducible refine (span_atMost.calls k t737 t734 true _ A34.out).mono ?_); rintro e w' ⟨rfl, ⟨nd, rfl⟩⟩) | (go_at_call 117; (with_reducible refine (span_atMost.calls k t735 t738 t740 _ A36.out).mono ?_); rintro e w' ⟨rfl, ⟨nd, rfl⟩⟩))
  go_ret
  exact ⟨zaE, zaB⟩
 replace c35 := Bool.eq_false_iff.mpr c35
 subst c35
 replace H := zif H
 obtain rfl := Option.some.inj H
 go_enter Try.func43, Try.ntmps43
 try go_wp2_with (first | ((with_reducible refine gtd 2 rfl ?_); refine zbx 2 #[.bool a0_0, .int .u64 a0_1, .int .u64 a0_2] 43 (h := ?_); intro gb731 hg w51 hbox hb; have GW731 := zkZ hg (zaB (p := Below w.heap.size w _)); replace HB := Aside0.mk (below_step zaB hb); have BK731 := Aside0.mk (hbox); clear hb hbox hg) | ((with_reducible refine gtd 3 rfl ?_); refine zbx 3 #[.bool a1_0, .int .u64 a1_1, .int .u64 a1_2] 43 (h := ?_); intro gb732 hg w52 hbox hb; refine zbn1 HB BK731 hg hb hbox (c := ?_); clear HB BK731 hb hbox hg; intro GW732 NB731_732 BK731 HB BK732))
 replace BK731 := Aside0.mk (blk_drew BK731.out)
 replace BK732 := Aside0.mk (blk_drew BK732.out)
 replace HB := Aside0.mk (below_drew1 HB.out)
 refine start_ (n := 6) (S := fun w' => w'.cell? ⟨gb731, 0, none⟩ = some (.bool a0_0) ∧ w'.cell? ⟨gb731, 1, none⟩ = some (.int .u64 a0_1) ∧ w'.cell? ⟨gb731, 2, none⟩ = some (.int .u64 a0_2) ∧ w'.cell? ⟨gb732, 0, none⟩ = some (.bool a1_0) ∧ w'.cell? ⟨gb732, 1, none⟩ = some (.int .u64 a1_1) ∧ w'.cell? ⟨gb732, 2, none⟩ = some (.int .u64 a1_2)) (ds := [4, 5]) #[false, false, false, false, false, false] (by kernel_rfl) rfl rfl (zk3 BK731 (ze3 BK732)) (fun hHeld => ?_)
 generalize w52.drew = w53 at BK731 BK732 HB hHeld ⊢
 refine ztA 0 5 (h := ?_)
 refine ztA 2 7 (h := ?_)
 refine zoA 1 6 (h := fun K hK => ?_)
 refine zgA Try.func112 (span_norm.calls k a0_0 a0_1 a0_2 false t734 t735 _ A3.out) (h := ?_)
 rintro w54 hb
 refine zcn2 HB BK731 BK732 hb (c := ?_)
 clear HB BK731 BK732 hb
 intro BK731 BK732 HB
 refine hK.out _ _ (zk3 BK731 (ze3 BK732)) (fun hHeld => ?_)
 clear hK K
 refine znA 6 (h := ?_)
 refine zoA 3 8 (h := fun K hK => ?_)
 refine zgA Try.func112 (span_norm.calls k a1_0 a1_1 a1_2 false t737 t738 _ A4.out) (h := ?_)
 rintro w55 hb
 refine zcn2 HB BK731 BK732 hb (c := ?_)
 clear HB BK731 BK732 hb
 intro BK731 BK732 HB
 refine hK.out _ _ (zk3 BK731 (ze3 BK732)) (fun hHeld => ?_)
 clear hK K
 refine znA 8 (h := ?_)
 refine last_ (i := 4) (N := none) #[true, true, true, true, true, false] rfl rfl (by kernel_rfl) (by decide) (fun K hK => ?_)
 have hs56 := zc0 BK731
 have hfs56 := blk_frozen BK731.out 0
 refine zt1 NB731_732 fun _ _ => ?_
 have hs57 := zc1 BK731
 have hfs57 := blk_frozen BK731.out 1
 refine zt1 NB731_732 fun _ _ => ?_
 have hs58 := zc2 BK731
 have hfs58 := blk_frozen BK731.out 2
 refine zt1 NB731_732 fun _ _ => ?_
 refine skip_ (w1 := ?_) (by rfl) rfl ?_ ?_
 rotate_left
 ·go_simp
  rfl
 refine hK.out _ _ ?_
 clear hK K
 refine last_ (i := 5) (N := none) #[true, true, true, true, true, true] rfl rfl (by kernel_rfl) (by decide) (fun K hK => ?_)
 have hs59 := zc0 BK732
 have hfs59 := blk_frozen BK732.out 0
 refine zt1 NB731_732 fun _ _ => ?_
 have hs60 := zc1 BK732
 have hfs60 := blk_frozen BK732.out 1
 refine zt1 NB731_732 fun _ _ => ?_
 have hs61 := zc2 BK732
 have hfs61 := blk_frozen BK732.out 2
 refine zt1 NB731_732 fun _ _ => ?_
 refine skip_ (w1 := ?_) (by rfl) rfl ?_ ?_
 rotate_left
 ·go_simp
  rfl
 refine hK.out _ _ ?_
 clear hK K
 refine done_ (by kernel_rfl) ?_
 refine zt1 NB731_732 fun _ _ => ?_
 refine zu3 BK731 fun _ _ _ _ _ _ => ?_
 refine zu3 BK732 fun _ _ _ _ _ _ => ?_
 try go_wp2_with (first | (go_at_call 117; (with_reducible refine (span_atMost.calls k t737 t734 false _ A34.out).mono ?_); rintro e w' ⟨rfl, ⟨nd, rfl⟩⟩))
 go_ret
 exact ⟨zaE, zaB⟩
def span_Has.T1 : Bool × List (List Nat × List Nat) := (true, [([], []), ([0], [0]), ([1], [1]), ([2, 1], [2]), ([3], [3]), ([4, 3, 3], [3, 4]), ([5, 3], [3, 5]), ([6, 3], [3, 6]), ([3, 7], [3, 7]), ([8, 5], [8]), ([9], [9]), ([10, 9, 9], [9, 10]), ([9], [9]), ([11, 12, 11, 9], [9, 11, 12]), ([9, 13], [9, 13]), ([14, 13, 0, 1, 2, 3, 4, 5, 6, 7, 8, 9, 10, 11, 12, 13, 14], [14])])
def span_Has.B1 : List Nat := [0, 1, 3, 7, 15, 31, 63, 127, 255, 511, 1023, 2047, 1023, 8191, 16383, 32767]
theorem span_Has.tab1 : rtab .any (opsOf Try.f41 1) = span_Has.T1 := by kernel_rfl
theorem span_Has.bits1 : waitsOk span_Has.T1.2 span_Has.B1 = true := by kernel_rfl
theorem span_Has.calls (k : Nat) (a0_0 : Bool) (a0_1 : Int) (a0_2 : Int) (a1 : Int) (r : Bool) (w : World) (h : span_Has.f k a0_0 a0_1 a0_2 a1 = some r) :
  Calls Try.prog 41 #[.agg #[.bool a0_0, .int .u64 a0_1, .int .u64 a0_2], .int .u64 a1] w fun e w' => e = .returned (.bool r) ∧ Below w.heap.size w w' := by
 have hu43 := Try.underlying43
 have hfd0_ : ∀ (b : Bool) (x y : Int) (w : World), (Instr.field 43 (.agg #[.bool b, .int .u64 x, .int .u64 y]) 0).run Try.prog w = .ok (.bool b) w := fun _ _ _ _ => by kernel_rfl
 have hfd1_ : ∀ (b : Bool) (x y : Int) (w : World), (Instr.field 43 (.agg #[.bool b, .int .u64 x, .int .u64 y]) 1).run Try.prog w = .ok (.int .u64 x) w := fun _ _ _ _ => by kernel_rfl
 have hfd2_ : ∀ (b : Bool) (x y : Int) (w : World), (Instr.field 43 (.agg #[.bool b, .int .u64 x, .int .u64 y]) 2).run Try.prog w = .ok (.int .u64 y) w := fun _ _ _ _ => by kernel_rfl
 have HB := Aside0.mk (Below.refl w.heap.size w)
 have H := h
 unfold span_Has.f at H
 clear h
 obtain ⟨t742, A3, H⟩ := zbs H
 try dsimp only at H
 by_cases c4 : t742 = 3
 ·rw [if_pos c4] at H
  have c4b0 : (t742 == 3) = true := beq_iff_eq.mpr c4
  have c4b1 : (t742 != 3) = false := bne_eq_false_iff_eq.mpr c4
  clear c4
  obtain rfl := Option.some.inj H
  go_enter Try.func41, Try.ntmps41
  try go_wp2_with (first | ((with_reducible refine gtd 2 rfl ?_); refine zbx 2 #[.bool a0_0, .int .u64 a0_1, .int .u64 a0_2] 43 (h := ?_); intro gb741 hg w5 hbox hb; have GW741 := zkZ hg (zaB (p := Below w.heap.size w _)); replace HB := Aside0.mk (below_step zaB hb); have BK741 := Aside0.mk (hbox); clear hb hbox hg))
  replace BK741 := Aside0.mk (blk_drew BK741.out)
  replace HB := Aside0.mk (below_drew1 HB.out)
  refine start_ (n := 16) (S := fun w' => True) (ds := []) #[false, false, false, false, false, false, false, false, false, false, false, false, false, false, false, false] (by kernel_rfl) rfl rfl trivial (fun hHeld => ?_); refine with_tabW span_Has.tab1 span_Has.bits1 (fun HT_ HW_ => ?_)
  generalize w5.drew = w6 at BK741 HB hHeld ⊢
  refine zpA 0 5 (h := ?_)
  refine zoA 1 6 (h := fun K hK => ?_)
  refine zgA Try.func24 (pattern_Class.calls k a1 t742 _ A3.out) (h := ?_)
  rintro w' ⟨nd, rfl⟩
  refine hK.out _ _ trivial (fun hHeld => ?_)
  clear hK K
  refine znA 6 (h := ?_)
  refine zpA 2 7 (h := ?_)
  refine zpA 3 8 (h := ?_)
  refine zpU 4 9 (h := ?_)
  refine zpU 5 10 (h := ?_)
  refine zpU 6 11 (h := ?_)
  refine zpU 7 12 (h := ?_)
  refine zpA 8 13 (h := ?_)
  refine zpA 9 14 (h := ?_)
  refine zpU 10 15 (h := ?_)
  refine zpU 11 16 (h := ?_)
  refine zpU 12 17 (h := ?_)
  refine zpU 13 18 (h := ?_)
  refine zpA 14 19 (h := ?_)
  refine zpA 15 4 (h := ?_)
  refine done_ (done_of HT_.out (by kernel_rfl)) ?_
  try go_wp2
  go_ret
  exact ⟨zaE, zaB⟩
 rw [if_neg c4] at H
 have c4b0 : (t742 == 3) = false := beq_eq_false_iff_ne.mpr c4
 have c4b1 : (t742 != 3) = true := bne_iff_ne.mpr c4
 obtain ⟨⟨t743, t744, t745⟩, A7, H⟩ := zbs H
 try dsimp only at H
 by_cases c8 : t743 = true
 ·subst c8
  replace H := zit H
  obtain rfl := Option.some.inj H
  go_enter Try.func41, Try.ntmps41
  try go_wp2_with (first | ((with_reducible refine gtd 2 rfl ?_); refine zbx 2 #[.bool a0_0, .int .u64 a0_1, .int .u64 a0_2] 43 (h := ?_); intro gb741 hg w9 hbox hb; have GW741 := zkZ hg (zaB (p := Below w.heap.size w _)); replace HB := Aside0.mk (below_step zaB hb); have BK741 := Aside0.mk (hbox); clear hb hbox hg))
  replace BK741 := Aside0.mk (blk_drew BK741.out)
  replace HB := Aside0.mk (below_drew1 HB.out)
  refine start_ (n := 16) (S := fun w' => True) (ds := []) #[false, false, false, false, false, false, false, false, false, false, false, false, false, false, false, false] (by kernel_rfl) rfl rfl trivial (fun hHeld => ?_); refine with_tabW span_Has.tab1 span_Has.bits1 (fun HT_ HW_ => ?_)
  generalize w9.drew = w10 at BK741 HB hHeld ⊢
  refine zpA 0 5 (h := ?_)
  refine zoA 1 6 (h := fun K hK => ?_)
  refine zgA Try.func24 (pattern_Class.calls k a1 t742 _ A3.out) (h := ?_)
  rintro w' ⟨nd, rfl⟩
  refine hK.out _ _ trivial (fun hHeld => ?_)
  clear hK K
  refine znA 6 (h := ?_)
  refine zpA 2 7 (h := ?_)
  refine zpA 3 8 (h := ?_)
  refine zpA 4 9 (h := ?_)
  refine zoA 5 10 (h := fun K hK => ?_)
  refine zgA Try.func39 (span_Point.calls k a1 true t744 t745 _ A7.out) (h := ?_)
  rintro w11 hb
  replace BK741 := zkb BK741 hb
  replace HB := zkB HB hb
  (try clear hb)
  refine hK.out _ _ trivial (fun hHeld => ?_)
  clear hK K
  refine znA 10 (h := ?_)
  refine zpA 6 11 (h := ?_)
  refine zpA 7 12 (h := ?_)
  refine zpA 8 13 (h := ?_)
  refine zpA 9 14 (h := ?_)
  refine zpU 10 15 (h := ?_)
  refine zpU 11 16 (h := ?_)
  refine zpU 12 17 (h := ?_)
  refine zpU 13 18 (h := ?_)
  refine zpA 14 19 (h := ?_)
  refine zpA 15 4 (h := ?_)
  refine done_ (done_of HT_.out (by kernel_rfl)) ?_
  try go_wp2
  go_ret
  exact ⟨zaE, zaB⟩
 replace c8 := Bool.eq_false_iff.mpr c8
 subst c8
 replace H := zif H
 obtain ⟨⟨t746, t747, t748⟩, A12, H⟩ := zbs H
 try dsimp only at H
 obtain ⟨t749, A13, H⟩ := zbs H
 try dsimp only at H
 obtain rfl := Option.some.inj H
 go_enter Try.func41, Try.ntmps41
 try go_wp2_with (first | ((with_reducible refine gtd 2 rfl ?_); refine zbx 2 #[.bool a0_0, .int .u64 a0_1, .int .u64 a0_2] 43 (h := ?_); intro gb741 hg w14 hbox hb; have GW741 := zkZ hg (zaB (p := Below w.heap.size w _)); replace HB := Aside0.mk (below_step zaB hb); have BK741 := Aside0.mk (hbox); clear hb hbox hg))
 replace BK741 := Aside0.mk (blk_drew BK741.out)
 replace HB := Aside0.mk (below_drew1 HB.out)
 refine start_ (n := 16) (S := fun w' => w'.cell? ⟨gb741, 0, none⟩ = some (.bool a0_0) ∧ w'.cell? ⟨gb741, 1, none⟩ = some (.int .u64 a0_1) ∧ w'.cell? ⟨gb741, 2, none⟩ = some (.int .u64 a0_2)) (ds := []) #[false, false, false, false, false, false, false, false, false, false, false, false, false, false, false, false] (by kernel_rfl) rfl rfl (ze3 BK741) (fun hHeld => ?_); refine with_tabW span_Has.tab1 span_Has.bits1 (fun HT_ HW_ => ?_)
 generalize w14.drew = w15 at BK741 HB hHeld ⊢
 refine zpA 0 5 (h := ?_)
 refine zoA 1 6 (h := fun K hK => ?_)
 refine zgA Try.func24 (pattern_Class.calls k a1 t742 _ A3.out) (h := ?_)
 rintro w' ⟨nd, rfl⟩
 refine hK.out _ _ (ze3 BK741) (fun hHeld => ?_)
 clear hK K
 refine znA 6 (h := ?_)
 refine zpA 2 7 (h := ?_)
 refine zpA 3 8 (h := ?_)
 refine zpA 4 9 (h := ?_)
 refine zoA 5 10 (h := fun K hK => ?_)
 refine zgA Try.func39 (span_Point.calls k a1 false t744 t745 _ A7.out) (h := ?_)
 rintro w16 hb
 replace BK741 := zkb BK741 hb
 replace HB := zkB HB hb
 (try clear hb)
 refine hK.out _ _ (ze3 BK741) (fun hHeld => ?_)
 clear hK K
 refine znA 10 (h := ?_)
 refine zpA 6 11 (h := ?_)
 refine zpA 7 12 (h := ?_)
 refine zpA 8 13 (h := ?_)
 refine zpA 9 14 (h := ?_)
 refine zpA 10 15 (h := ?_)
 refine ztA 12 17 (h := ?_)
 refine zoA 11 16 (h := fun K hK => ?_)
 refine zgA Try.func39 (span_Point.calls k a1 t746 t747 t748 _ A12.out) (h := ?_)
 rintro w17 hb
 replace BK741 := zkb BK741 hb
 replace HB := zkB HB hb
 (try clear hb)
 refine hK.out _ _ (ze3 BK741) (fun hHeld => ?_)
 clear hK K
 refine znA 16 (h := ?_)
 refine zoA 13 18 (h := fun K hK => ?_)
 refine zgA Try.func43 (span_Inside.calls k t746 t747 t748 a0_0 a0_1 a0_2 t749 _ A13.out) (h := ?_)
 rintro w18 hb
 replace BK741 := zkb BK741 hb
 replace HB := zkB HB hb
 (try clear hb)
 refine hK.out _ _ (ze3 BK741) (fun hHeld => ?_)
 clear hK K
 refine znA 18 (h := ?_)
 refine zpA 14 19 (h := ?_)
 refine zpA 15 4 (h := ?_)
 refine done_ (done_of HT_.out (by kernel_rfl)) ?_
 try go_wp2
 go_ret
 exact ⟨zaE, zaB⟩
theorem bits_LeadingZeros64.calls (a0 : Int) (r : Int) (w : World) (h : bits_LeadingZeros64.f a0 = some r) :
  Calls Try.prog 186 #[.int .u64 a0] w fun e w' => e = .returned (.int .i64 r) ∧ Drawn0 w w' := by
 unfold bits_LeadingZeros64.f at h
 split at h
 ·rename_i g
  obtain rfl := Option.some.inj h
  exact (Try.bits_LeadingZeros64 a0 w g.1 g.2).mono fun e w' ⟨h1, h2⟩ => ⟨h1, h2 ▸ Drawn0.refl _⟩
 cases h
end Go.Proofs.Ytmadjhmecfbcmaa.F
end
section
namespace Go.Proofs.Ytmadjhmecfbcmaa.M
def sh (X : Nat) : Nat := if X < 18014398509481984 then 1 else X.log2 - 52
def wd (X : Nat) : Nat := X / 2 ^ sh X
def hf (X : Nat) : Bool := X / 2 ^ (sh X - 1) % 2 == 1
def rs (X : Nat) (s : Bool) : Bool := s || X % 2 ^ (sh X - 1) != 0
def fk (X : Nat) : Nat := (sh X - 1) * 4503599627370496 + wd X
def magk (k : Nat) : Nat := if k / 4503599627370496 = 0 then k % 4503599627370496 else (4503599627370496 + k % 4503599627370496) * 2 ^ (k / 4503599627370496 - 1)
def dir (neg : Bool) (mode : Nat) : Nat := if mode = 1 then (if neg then 2 else 1) else if mode = 2 then (if neg then 1 else 2) else 0
def upw (X : Nat) (s : Bool) (d : Nat) : Bool :=
 if d = 1 then hf X || rs X s else if d = 2 then false else hf X && (rs X s || X / 2 ^ sh X % 2 == 1)
def kk (X : Nat) (s : Bool) (d : Nat) : Nat := fk X + (if upw X s d then 1 else 0)
def rnd (X : Nat) (s : Bool) (d : Nat) : Nat × Nat :=
 if kk X s d ≥ 9218868437227405312 then (if d = 2 then 9218868437227405311 else 9218868437227405312, 5)
 else (kk X s d, if hf X || rs X s then (if X < 9007199254740992 then 3 else 1) else 0)
def sg (neg : Bool) : Nat := if neg then 9223372036854775808 else 0
def RND (neg : Bool) (X : Nat) (s : Bool) (mode : Nat) : Nat × Nat :=
 (sg neg + (rnd X s (dir neg mode)).1, (rnd X s (dir neg mode)).2)
theorem RND_over {neg : Bool} {X : Nat} {s : Bool} {mode : Nat} (h : 9218868437227405312 ≤ kk X s (dir neg mode)) :
  RND neg X s mode = (sg neg + (if dir neg mode = 2 then 9218868437227405311 else 9218868437227405312), 5) := by
 unfold RND rnd; rw [if_pos h]
theorem RND_in {neg : Bool} {X : Nat} {s : Bool} {mode : Nat} (h : ¬ 9218868437227405312 ≤ kk X s (dir neg mode)) :
  RND neg X s mode = (sg neg + kk X s (dir neg mode), if hf X || rs X s then (if X < 9007199254740992 then 3 else 1) else 0) := by
 unfold RND rnd; rw [if_neg h]
theorem sh_cases (X : Nat) : (sh X = 1 ∧ X < 18014398509481984) ∨ (2 ≤ sh X ∧ 2 ^ (sh X + 52) ≤ X ∧ X < 2 ^ (sh X + 53)) := by
 unfold sh
 split
 ·left; omega
 ·right
  have h0 : X ≠ 0 := by omega
  have h1 : 54 ≤ X.log2 := by rw [Nat.le_log2 h0]; omega
  have h2 := Nat.log2_self_le h0
  have h3 : X < 2 ^ (X.log2 + 1) := Nat.lt_log2_self
  refine ⟨by omega, ?_, ?_⟩
  ·rw [show X.log2 - 52 + 52 = X.log2 by omega]; exact h2
  ·rw [show X.log2 - 52 + 53 = X.log2 + 1 by omega]; exact h3
theorem sh_pos (X : Nat) : 1 ≤ sh X := by rcases sh_cases X with h | h <;> omega
theorem two_pos (n : Nat) : 0 < 2 ^ n := Nat.two_pow_pos n
theorem pow_le {a b : Nat} (h : a ≤ b) : 2 ^ a ≤ 2 ^ b := Nat.pow_le_pow_right (by omega) h
theorem sh_unique {X t : Nat} (h : (t = 1 ∧ X < 18014398509481984) ∨ (2 ≤ t ∧ 2 ^ (t + 52) ≤ X ∧ X < 2 ^ (t + 53))) : sh X = t := by
 rcases h with ⟨rfl, h⟩ | ⟨h1, h2, h3⟩
 ·unfold sh; rw [if_pos h]
 ·have h4 : 2 ^ 54 ≤ 2 ^ (t + 52) := pow_le (by omega)
  have h5 : ¬ X < 18014398509481984 := by omega
  have h0 : X ≠ 0 := by omega
  unfold sh; rw [if_neg h5]
  have a1 : t + 52 ≤ X.log2 := by rw [Nat.le_log2 h0]; exact h2
  have a2 : X.log2 < t + 53 := by rw [Nat.log2_lt h0]; exact h3
  omega
theorem wd_lt (X : Nat) : wd X < 9007199254740992 := by
 unfold wd
 rw [Nat.div_lt_iff_lt_mul (two_pos _)]
 rcases sh_cases X with ⟨h1, h2⟩ | ⟨_, _, h3⟩
 ·rw [h1]; omega
 ·rw [Nat.pow_add] at h3; omega
theorem wd_ge (X : Nat) (h : 2 ≤ sh X) : 4503599627370496 ≤ wd X := by
 unfold wd
 rw [Nat.le_div_iff_mul_le (two_pos _)]
 rcases sh_cases X with ⟨h1, _⟩ | ⟨_, h2, _⟩
 ·omega
 ·rw [Nat.pow_add] at h2; omega
theorem magk_parts (t w : Nat) (h : (t = 1 ∧ w < 9007199254740992) ∨ (2 ≤ t ∧ 4503599627370496 ≤ w ∧ w < 9007199254740992)) :
  magk ((t - 1) * 4503599627370496 + w) = w * 2 ^ (t - 1) := by
 unfold magk
 by_cases hw : w < 4503599627370496
 ·have ht : t = 1 := by omega
  subst ht
  rw [if_pos (by omega), show (1 - 1) * 4503599627370496 + w = w by omega, Nat.mod_eq_of_lt hw, show (1 - 1 : Nat) = 0 from rfl, Nat.pow_zero, Nat.mul_one]
 ·have e1 : ((t - 1) * 4503599627370496 + w) / 4503599627370496 = t := by omega
  have e2 : ((t - 1) * 4503599627370496 + w) % 4503599627370496 = w - 4503599627370496 := by omega
  rw [e1, e2, if_neg (by omega)]
  rw [show 4503599627370496 + (w - 4503599627370496) = w by omega]
theorem magk_parts_succ (t w : Nat) (h : (t = 1 ∧ w < 9007199254740992) ∨ (2 ≤ t ∧ 4503599627370496 ≤ w ∧ w < 9007199254740992)) :
  magk ((t - 1) * 4503599627370496 + w + 1) = (w + 1) * 2 ^ (t - 1) := by
 by_cases hw : w + 1 < 9007199254740992
 ·rw [Nat.add_assoc]; exact magk_parts t (w + 1) (by omega)
 ·have hw : w = 9007199254740991 := by omega
  have ht : 1 ≤ t := by omega
  have := magk_parts (t + 1) 4503599627370496 (by omega)
  rw [show t + 1 - 1 = t by omega] at this
  rw [show (t - 1) * 4503599627370496 + w + 1 = t * 4503599627370496 + 4503599627370496 by omega, this]
  obtain ⟨u, rfl⟩ : ∃ u, t = u + 1 := ⟨t - 1, by omega⟩
  rw [show u + 1 - 1 = u by omega, Nat.pow_succ, show w + 1 = 4503599627370496 * 2 by omega]; grind
theorem key_parts (k : Nat) : ∃ t w, k = (t - 1) * 4503599627370496 + w ∧ ((t = 1 ∧ w < 9007199254740992) ∨ (2 ≤ t ∧ 4503599627370496 ≤ w ∧ w < 9007199254740992)) := by
 by_cases h : k < 9007199254740992
 ·exact ⟨1, k, by omega, by omega⟩
 ·exact ⟨k / 4503599627370496, k % 4503599627370496 + 4503599627370496, by omega, by omega⟩
theorem magk_lt_succ (k : Nat) : magk k < magk (k + 1) := by
 obtain ⟨t, w, rfl, h⟩ := key_parts k
 rw [magk_parts t w h, magk_parts_succ t w h]
 exact Nat.mul_lt_mul_of_pos_right (by omega) (two_pos _)
theorem magk_strict {a b : Nat} (h : a < b) : magk a < magk b := by
 induction b with
 | zero => omega
 | succ b ih =>
  by_cases e : a = b
  ·subst e; exact magk_lt_succ a
  ·exact Nat.lt_trans (ih (by omega)) (magk_lt_succ b)
theorem magk_mono {a b : Nat} (h : a ≤ b) : magk a ≤ magk b := by
 by_cases e : a = b
 ·subst e; exact Nat.le_refl _
 ·exact Nat.le_of_lt (magk_strict (by omega))
theorem magk_le_iff {a b : Nat} : magk a ≤ magk b ↔ a ≤ b := by
 constructor
 ·intro h; by_cases e : a ≤ b
  ·exact e
  ·exact absurd (magk_strict (a := b) (b := a) (by omega)) (by omega)
 ·exact magk_mono
theorem magk_inj {a b : Nat} (h : magk a = magk b) : a = b := by
 have h1 := magk_le_iff.1 (Nat.le_of_eq h)
 have h2 := magk_le_iff.1 (Nat.le_of_eq h.symm)
 omega
theorem fk_parts (X : Nat) : (sh X = 1 ∧ wd X < 9007199254740992) ∨ (2 ≤ sh X ∧ 4503599627370496 ≤ wd X ∧ wd X < 9007199254740992) := by
 have h1 := wd_lt X
 have h2 := sh_pos X
 by_cases h : sh X = 1
 ·left; omega
 ·right; have := wd_ge X (by omega); omega
theorem two_magk_fk (X : Nat) : 2 * magk (fk X) = wd X * 2 ^ sh X := by
 unfold fk
 rw [magk_parts _ _ (fk_parts X)]
 obtain ⟨u, hu⟩ : ∃ u, sh X = u + 1 := ⟨sh X - 1, by have := sh_pos X; omega⟩
 rw [hu, show u + 1 - 1 = u by omega, Nat.pow_succ]; grind
theorem two_magk_fk_succ (X : Nat) : 2 * magk (fk X + 1) = (wd X + 1) * 2 ^ sh X := by
 unfold fk
 rw [magk_parts_succ _ _ (fk_parts X)]
 obtain ⟨u, hu⟩ : ∃ u, sh X = u + 1 := ⟨sh X - 1, by have := sh_pos X; omega⟩
 rw [hu, show u + 1 - 1 = u by omega, Nat.pow_succ]; grind
theorem fk_le (X : Nat) : 2 * magk (fk X) ≤ X := by
 rw [two_magk_fk]; exact Nat.div_mul_le_self _ _
theorem fk_lt (X : Nat) : X < 2 * magk (fk X + 1) := by
 rw [two_magk_fk_succ]; unfold wd
 exact Nat.lt_mul_of_div_lt (by omega) (two_pos _)
theorem fk_iff (X k : Nat) : 2 * magk k ≤ X ↔ k ≤ fk X := by
 constructor
 ·intro h
  by_cases e : k ≤ fk X
  ·exact e
  ·have := magk_mono (a := fk X + 1) (b := k) (by omega)
   have := fk_lt X
   omega
 ·intro h
  have := magk_mono h
  have := fk_le X
  omega
theorem X_parts (X : Nat) : X = wd X * 2 ^ sh X + (if hf X then 1 else 0) * 2 ^ (sh X - 1) + X % 2 ^ (sh X - 1) := by
 obtain ⟨u, hu⟩ : ∃ u, sh X = u + 1 := ⟨sh X - 1, by have := sh_pos X; omega⟩
 unfold wd hf
 rw [hu, show u + 1 - 1 = u by omega]
 have h1 := Nat.div_add_mod X (2 ^ u)
 have h2 : X / 2 ^ (u + 1) = X / 2 ^ u / 2 := by rw [Nat.pow_succ, Nat.div_div_eq_div_mul]
 have h3 := Nat.div_add_mod (X / 2 ^ u) 2
 rw [h2]
 have h4 : (if (X / 2 ^ u % 2 == 1) = true then 1 else 0) = X / 2 ^ u % 2 := by
  rcases Nat.mod_two_eq_zero_or_one (X / 2 ^ u) with h | h <;> rw [h] <;> rfl
 rw [h4, Nat.pow_succ]
 generalize hq : X / 2 ^ u = q at *
 have h5 : q / 2 * (2 ^ u * 2) + q % 2 * 2 ^ u = q * 2 ^ u := by
  rw [← Nat.mul_assoc, Nat.mul_right_comm, ← Nat.add_mul]; congr 1; omega
 rw [h5, Nat.mul_comm q]; omega
theorem exact_iff (X : Nat) (s : Bool) : (hf X || rs X s) = false ↔ X = 2 * magk (fk X) ∧ s = false := by
 rw [two_magk_fk]
 have hp := X_parts X
 have hm := Nat.mod_lt X (two_pos (sh X - 1))
 have h2 := two_pos (sh X - 1)
 unfold rs
 cases h : hf X <;> cases s <;> simp [h] at hp ⊢ <;> omega
end Go.Proofs.Ytmadjhmecfbcmaa.M
end
section
namespace Go.Proofs.Ytmadjhmecfbcmaa.M
open Go.RowKit Go.Proofs.YtmadjhmecfbcmaaW.PrintWords Go.Proofs.YtmadjhmecfbcmaaW.PrintLast Go.Proofs.YtmadjhmecfbcmaaW.PrintMore Go.Proofs.Ytmadjhmecfbcmaa.F
theorem w64 {n : Int} (h0 : -9223372036854775808 ≤ n) (h1 : n < 9223372036854775808) : wrap64 n = n := by unfold wrap64; omega
theorem wu64 {n : Int} (h0 : 0 ≤ n) (h1 : n < 18446744073709551616) : IntKind.u64.wrap n = n := by rw [IntKind.wrap_u64]; omega
theorem and_mask (a j : Nat) (ha : a < 18446744073709551616) (hj : j ≤ 63) : bits .and .u64 (a : Int) ((2 ^ j - 1 : Nat) : Int) = ((a % 2 ^ j : Nat) : Int) := by
 have h : 2 ^ j ≤ 2 ^ 63 := pow_le hj
 rw [u64_and_nat a (2 ^ j - 1) ha (by omega), Nat.and_two_pow_sub_one_eq_mod]
theorem and_1 (a : Nat) (ha : a < 18446744073709551616) : bits .and .u64 (a : Int) 1 = ((a % 2 : Nat) : Int) := and_mask a 1 ha (by decide)
theorem and_2047 (a : Nat) (ha : a < 18446744073709551616) : bits .and .u64 (a : Int) 2047 = ((a % 2048 : Nat) : Int) := and_mask a 11 ha (by decide)
theorem and_52 (a : Nat) (ha : a < 18446744073709551616) : bits .and .u64 (a : Int) 4503599627370495 = ((a % 4503599627370496 : Nat) : Int) := and_mask a 52 ha (by decide)
theorem or_join (a b i : Nat) (ha : a < 18446744073709551616) (hb : b < 2 ^ i) (hm : a % 2 ^ i = 0) (hi : b < 18446744073709551616) : bits .or .u64 (a : Int) (b : Int) = ((a + b : Nat) : Int) := by
 rw [u64_or_nat a b ha hi, nat_join i a b hm hb]
theorem or_join' (a b i : Nat) (ha : a < 18446744073709551616) (hb : b < 2 ^ i) (hm : a % 2 ^ i = 0) (hi : b < 18446744073709551616) : bits .or .u64 (b : Int) (a : Int) = ((a + b : Nat) : Int) := by
 rw [u64_or_nat b a hi ha, Nat.or_comm, nat_join i a b hm hb]
def flip (a : Nat) : Nat := if a < 9223372036854775808 then a + 9223372036854775808 else a - 9223372036854775808
theorem xor_sign (a : Nat) (ha : a < 18446744073709551616) : bits .xor .u64 (a : Int) 9223372036854775808 = ((flip a : Nat) : Int) := by
 rw [show (9223372036854775808 : Int) = ((9223372036854775808 : Nat) : Int) from rfl, u64_xor_nat a 9223372036854775808 ha (by decide)]
 congr 1
 unfold flip
 split
 ·rename_i h
  have e : a ^^^ 9223372036854775808 = 9223372036854775808 ||| a := by
   apply Nat.eq_of_testBit_eq
   intro j
   rw [Nat.testBit_xor, Nat.testBit_or]
   by_cases hj : j = 63
   ·subst hj
    have : a.testBit 63 = false := Nat.testBit_lt_two_pow (by omega)
    rw [this]; rfl
   ·rw [show (9223372036854775808 : Nat) = 2 ^ 63 from rfl, Nat.testBit_two_pow]
    simp [Ne.symm hj]
  rw [e, nat_join 63 _ _ (by decide) (by omega)]; omega
 ·rename_i h
  obtain ⟨b, rfl⟩ : ∃ b, a = 9223372036854775808 + b := ⟨a - 9223372036854775808, by omega⟩
  have hb : b < 2 ^ 63 := by omega
  rw [← nat_join 63 9223372036854775808 b (by decide) hb]
  have e : (9223372036854775808 ||| b) ^^^ 9223372036854775808 = b := by
   apply Nat.eq_of_testBit_eq
   intro j
   rw [Nat.testBit_xor, Nat.testBit_or]
   by_cases hj : j = 63
   ·subst hj
    have : b.testBit 63 = false := Nat.testBit_lt_two_pow hb
    rw [this]; rfl
   ·rw [show (9223372036854775808 : Nat) = 2 ^ 63 from rfl, Nat.testBit_two_pow]
    simp [Ne.symm hj]
  rw [e, nat_join 63 _ _ (by decide) hb]; omega
theorem andNot_sign (a : Nat) (ha : a < 18446744073709551616) : bits .andNot .u64 (a : Int) 9223372036854775808 = ((a % 9223372036854775808 : Nat) : Int) := by
 rw [show (9223372036854775808 : Int) = ((9223372036854775808 : Nat) : Int) from rfl, u64_andNot_nat a 9223372036854775808 ha (by decide)]
 rw [show (18446744073709551615 - 9223372036854775808 : Nat) = 2 ^ 63 - 1 from rfl, Nat.and_two_pow_sub_one_eq_mod]
theorem bitLen_log2 (n : Nat) (h0 : n ≠ 0) (h : n < 18446744073709551616) : Lib.bitLen n = n.log2 + 1 := by
 have h1 := Lib.bitLenAux_bounds 64 n (by omega) h0
 have h2 : Lib.bitLenAux 64 n - 1 ≤ n.log2 := by rw [Nat.le_log2 h0]; exact h1.2.1
 have h3 : n.log2 < Lib.bitLenAux 64 n := by rw [Nat.log2_lt h0]; exact h1.2.2
 unfold Lib.bitLen; omega
theorem shl_nat (x n : Nat) (h : n ≤ 64) : shl .u64 (x : Int) (n : Int) = ((x * 2 ^ n % 18446744073709551616 : Nat) : Int) := by
 unfold shl
 rw [IntKind.wrap_u64, show IntKind.u64.bits = 64 from rfl, Int.toNat_natCast, Nat.min_eq_left h]; simp
theorem shr_nat (x n : Nat) (h : n ≤ 64) : shr .u64 (x : Int) (n : Int) = ((x / 2 ^ n : Nat) : Int) := by
 unfold shr
 rw [show IntKind.u64.bits = 64 from rfl, Int.toNat_natCast, Nat.min_eq_left h]; simp
theorem bind_of {α β : Type} {x : Option α} {a : α} (f : α → Option β) (h : x = some a) : x.bind f = f a := by rw [h]; rfl
theorem Ev.later {α : Type} {g : Nat → Option α} {r : α} (n : Nat) (h : ∀ k, g (k + n) = some r) : Ev g r :=
 ⟨n, fun k hk => by have := h (k - n); rwa [Nat.sub_add_cancel hk] at this⟩
theorem Ev.next {α : Type} {g : Nat → Option α} {r : α} (h : Ev (fun k => g (k + 1)) r) : Ev g r := Ev.step (fun _ => rfl) h
theorem Ev.all {α : Type} {g : Nat → Option α} {r : α} (h : ∀ k, g k = some r) : Ev g r := ⟨0, fun k _ => h k⟩
theorem Ev.const {α : Type} {x : Option α} {r : α} (h : x = some r) : Ev (fun _ => x) r := ⟨0, fun _ _ => h⟩
theorem Ev.b {α β : Type} {g : Nat → Option α} {f : Nat → α → Option β} (a : α) {r : β} (h : Ev g a) (k : Ev (fun n => f n a) r) : Ev (fun n => (g n).bind (f n)) r := Ev.bind h k
end Go.Proofs.Ytmadjhmecfbcmaa.M
end
section
namespace Go.Proofs.Ytmadjhmecfbcmaa.M
open Go.RowKit Go.Proofs.YtmadjhmecfbcmaaW.PrintWords Go.Proofs.YtmadjhmecfbcmaaW.PrintLast Go.Proofs.YtmadjhmecfbcmaaW.PrintMore Go.Proofs.Ytmadjhmecfbcmaa.F
structure Kn (y y1 y0 u c t v : Nat) : Prop where
 hy : y = y1 * 4294967296 + y0
 h0 : y0 < 4294967296
 h1 : 2147483648 ≤ y1
 h2 : y1 < 4294967296
 hu : u < y
 hc : c < 4294967296
 hd : u * 4294967296 + c = t * y + v
 hv : v < y
theorem Kn.t_lt {y y1 y0 u c t v : Nat} (K : Kn y y1 y0 u c t v) : t < 4294967296 := by
 have h1 := K.hd; have h2 := K.hu; have h3 := K.hc
 by_cases h : t < 4294967296
 ·exact h
 ·have : 4294967296 * y ≤ t * y := Nat.mul_le_mul_right _ (by omega)
  omega
theorem Kn.too {y y1 y0 u c t v q r : Nat} (K : Kn y y1 y0 u c t v) (hs : u = q * y1 + r) (h : 4294967296 ≤ q ∨ 4294967296 * r + c < q * y0) : t < q := by
 have ht := K.t_lt
 rcases h with h | h
 ·omega
 ·have h1 := K.hd
  by_cases g : t < q
  ·exact g
  ·exfalso
   have h2 : q * y ≤ t * y := Nat.mul_le_mul_right _ (by omega)
   have h3 : q * y = q * y1 * 4294967296 + q * y0 := by rw [K.hy]; grind
   rw [hs] at h1
   omega
theorem Kn.fit {y y1 y0 u c t v q r : Nat} (K : Kn y y1 y0 u c t v) (hs : u = q * y1 + r) (h : q * y0 ≤ 4294967296 * r + c) : q ≤ t := by
 have h1 := K.hd
 have h3 : q * y = q * y1 * 4294967296 + q * y0 := by rw [K.hy]; grind
 by_cases g : q ≤ t
 ·exact g
 ·exfalso
  have h2 : (t + 1) * y ≤ q * y := Nat.mul_le_mul_right _ (by omega)
  have h4 := K.hv
  rw [hs] at h1
  rw [Nat.add_mul, Nat.one_mul] at h2
  omega
theorem Kn.start {y y1 y0 u c t v : Nat} (K : Kn y y1 y0 u c t v) : t ≤ u / y1 ∧ u / y1 ≤ 4294967297 ∧ u % y1 < 4294967296 ∧ u = u / y1 * y1 + u % y1 := by
 have h1 := K.h1; have h2 := K.h2; have h0 := K.h0; have hu := K.hu; have hy := K.hy; have hd := K.hd; have hc := K.hc
 have hm := Nat.mod_lt u (show 0 < y1 by omega)
 refine ⟨?_, ?_, by omega, by rw [Nat.mul_comm]; exact (Nat.div_add_mod u y1).symm⟩
 ·rw [Nat.le_div_iff_mul_le (by omega)]
  have h3 : t * y = t * y1 * 4294967296 + t * y0 := by rw [hy]; grind
  omega
 ·have : u / y1 < 4294967298 := by rw [Nat.div_lt_iff_lt_mul (by omega)]; omega
  omega
theorem Kn.mul_ok {y y1 y0 u c t v q : Nat} (K : Kn y y1 y0 u c t v) (hq : q ≤ 4294967297) : q * y0 < 18446744073709551616 := by
 have h0 := K.h0
 have : q * y0 ≤ 4294967297 * 4294967295 := Nat.mul_le_mul hq (by omega)
 omega
theorem wnat {n : Nat} (h : n < 18446744073709551616) : IntKind.u64.wrap (n : Int) = (n : Int) := wu64 (by omega) (by omega)
theorem Dv_l0 {y y1 y0 u c t v : Nat} (K : Kn y y1 y0 u c t v) (s u0 : Int) (res : Int × Int) (J : Ev (fun k => bits_Div64q.j2 k (y : Int) s (y1 : Int) (y0 : Int) (u : Int) (c : Int) u0 (t : Int)) res) :
  ∀ (n q r : Nat), q = t + n → q ≤ 4294967297 → r < 4294967296 → u = q * y1 + r →
   Ev (fun k => bits_Div64q.l0 k (y : Int) s (y1 : Int) (y0 : Int) (u : Int) (c : Int) u0 (q : Int) (r : Int)) res := by
 have h1 := K.h1; have h2 := K.h2; have h0 := K.h0; have hc := K.hc
 intro n
 induction n with
 | zero =>
  intro q r hq hq2 hr hs
  have hmul := K.mul_ok hq2
  have nc : ¬ (4294967296 ≤ q ∨ 4294967296 * r + c < q * y0) := fun h => by have := K.too hs h; omega
  have m1 : IntKind.u64.wrap ((q : Int) * (y0 : Int)) = ((q * y0 : Nat) : Int) := by rw [← Int.natCast_mul]; exact wnat hmul
  have m2 : IntKind.u64.wrap (4294967296 * (r : Int)) = ((4294967296 * r : Nat) : Int) := by rw [wu64 (by omega) (by omega)]; omega
  have m3 : IntKind.u64.wrap (((4294967296 * r : Nat) : Int) + (c : Int)) = ((4294967296 * r + c : Nat) : Int) := by rw [wu64 (by omega) (by omega)]; omega
  refine Ev.next ?_
  simp only [bits_Div64q.l0]
  rw [m1, m2, m3, decide_eq_false (show ¬ (((q * y0 : Nat) : Int) > ((4294967296 * r + c : Nat) : Int)) by omega)]
  refine Ev.congr (fun k => by rw [if_neg (show ¬ (q : Int) ≥ 4294967296 by omega)]) ?_
  refine Ev.next ?_
  simp only [bits_Div64q.j1]
  have e : q = t := by omega
  rw [e]
  exact Ev.congr (fun k => by rw [if_neg (by simp)]) J
 | succ n ih =>
  intro q r hq hq2 hr hs
  have hmul := K.mul_ok hq2
  have cc : 4294967296 ≤ q ∨ 4294967296 * r + c < q * y0 := by
   by_cases h : 4294967296 * r + c < q * y0
   ·exact .inr h
   ·have := K.fit hs (by omega); omega
  have m1 : IntKind.u64.wrap ((q : Int) * (y0 : Int)) = ((q * y0 : Nat) : Int) := by rw [← Int.natCast_mul]; exact wnat hmul
  have m2 : IntKind.u64.wrap (4294967296 * (r : Int)) = ((4294967296 * r : Nat) : Int) := by rw [wu64 (by omega) (by omega)]; omega
  have m3 : IntKind.u64.wrap (((4294967296 * r : Nat) : Int) + (c : Int)) = ((4294967296 * r + c : Nat) : Int) := by rw [wu64 (by omega) (by omega)]; omega
  have m4 : IntKind.u64.wrap ((r : Int) + (y1 : Int)) = ((r + y1 : Nat) : Int) := by rw [wu64 (by omega) (by omega)]; omega
  have m5 : IntKind.u64.wrap ((q : Int) - 1) = ((q - 1 : Nat) : Int) := by rw [wu64 (by omega) (by omega)]; omega
  have hs2 : u = (q - 1) * y1 + (r + y1) := by
   have : q * y1 = (q - 1) * y1 + y1 := by
    obtain ⟨p, rfl⟩ : ∃ p, q = p + 1 := ⟨q - 1, by omega⟩
    rw [Nat.add_sub_cancel, Nat.add_mul, Nat.one_mul]
   omega
  have B : Ev (fun k => bits_Div64q.j1 k (y : Int) s (y1 : Int) (y0 : Int) (u : Int) (c : Int) u0 (q : Int) (r : Int) true) res := by
   refine Ev.next ?_
   simp only [bits_Div64q.j1]
   rw [m4, m5]
   by_cases g : 4294967296 ≤ r + y1
   ·have hm : (q - 1) * y0 ≤ 4294967296 * 4294967296 := Nat.mul_le_mul (by omega) (by omega)
    have := K.fit hs2 (by omega)
    have e : q - 1 = t := by omega
    rw [e]
    exact Ev.congr (fun k => by rw [if_pos trivial, if_pos (by omega)]) J
   ·exact Ev.congr (fun k => by rw [if_pos trivial, if_neg (by omega)]) (ih (q - 1) (r + y1) (by omega) (by omega) (by omega) hs2)
  refine Ev.next ?_
  simp only [bits_Div64q.l0]
  rw [m1, m2, m3]
  by_cases g : 4294967296 ≤ q
  ·exact Ev.congr (fun k => by rw [if_pos (by omega)]) B
  ·have g2 : 4294967296 * r + c < q * y0 := by rcases cc with h | h; exact absurd h g; exact h
   rw [decide_eq_true (show ((q * y0 : Nat) : Int) > ((4294967296 * r + c : Nat) : Int) by omega)]
   exact Ev.congr (fun k => by rw [if_neg (by omega)]) B
theorem Dv_l1 {y y1 y0 u c t v : Nat} (K : Kn y y1 y0 u c t v) (s : Nat) (q1 : Nat) (hs64 : s ≤ 64) (hy : y < 18446744073709551616) (hq1 : q1 < 4294967296) :
  ∀ (n q r : Nat), q = t + n → q ≤ 4294967297 → r < 4294967296 → u = q * y1 + r →
   Ev (fun k => bits_Div64q.l1 k (y : Int) (s : Int) (y1 : Int) (y0 : Int) (c : Int) (q1 : Int) (r : Int) (u : Int) (q : Int)) (((q1 * 4294967296 + t : Nat) : Int), ((v / 2 ^ s : Nat) : Int)) := by
 have h1 := K.h1; have h2 := K.h2; have h0 := K.h0; have hc := K.hc; have hd := K.hd; have hv := K.hv; have hu := K.hu; have htl := K.t_lt
 have f1 : IntKind.u64.wrap (IntKind.u64.wrap ((q1 : Int) * 4294967296) + (t : Int)) = ((q1 * 4294967296 + t : Nat) : Int) := by
  simp only [IntKind.wrap_u64]; omega
 have f2 : IntKind.u64.wrap (IntKind.u64.wrap (IntKind.u64.wrap ((u : Int) * 4294967296) + (c : Int)) - IntKind.u64.wrap ((t : Int) * (y : Int))) = (v : Int) := by
  rw [← Int.natCast_mul t y]
  obtain ⟨p, hp⟩ : ∃ p, t * y = p := ⟨_, rfl⟩
  rw [hp] at hd ⊢
  simp only [IntKind.wrap_u64]; omega
 have f3 : shr .u64 (v : Int) (s : Int) = ((v / 2 ^ s : Nat) : Int) := shr_nat v s hs64
 intro n
 induction n with
 | zero =>
  intro q r hq hq2 hr hs
  have hmul := K.mul_ok hq2
  have nc : ¬ (4294967296 ≤ q ∨ 4294967296 * r + c < q * y0) := fun h => by have := K.too hs h; omega
  have m1 : IntKind.u64.wrap ((q : Int) * (y0 : Int)) = ((q * y0 : Nat) : Int) := by rw [← Int.natCast_mul]; exact wnat hmul
  have m2 : IntKind.u64.wrap (4294967296 * (r : Int)) = ((4294967296 * r : Nat) : Int) := by rw [wu64 (by omega) (by omega)]; omega
  have m3 : IntKind.u64.wrap (((4294967296 * r : Nat) : Int) + (c : Int)) = ((4294967296 * r + c : Nat) : Int) := by rw [wu64 (by omega) (by omega)]; omega
  refine Ev.next ?_
  simp only [bits_Div64q.l1]
  rw [m1, m2, m3, decide_eq_false (show ¬ (((q * y0 : Nat) : Int) > ((4294967296 * r + c : Nat) : Int)) by omega)]
  refine Ev.congr (fun k => by rw [if_neg (show ¬ (q : Int) ≥ 4294967296 by omega)]) ?_
  refine Ev.next ?_
  simp only [bits_Div64q.j4]
  have e : q = t := by omega
  rw [e, f1, f2, f3]
  exact Ev.congr (fun k => by rw [if_neg (by simp), if_pos (by omega)]) (Ev.now _)
 | succ n ih =>
  intro q r hq hq2 hr hs
  have hmul := K.mul_ok hq2
  have cc : 4294967296 ≤ q ∨ 4294967296 * r + c < q * y0 := by
   by_cases h : 4294967296 * r + c < q * y0
   ·exact .inr h
   ·have := K.fit hs (by omega); omega
  have m1 : IntKind.u64.wrap ((q : Int) * (y0 : Int)) = ((q * y0 : Nat) : Int) := by rw [← Int.natCast_mul]; exact wnat hmul
  have m2 : IntKind.u64.wrap (4294967296 * (r : Int)) = ((4294967296 * r : Nat) : Int) := by rw [wu64 (by omega) (by omega)]; omega
  have m3 : IntKind.u64.wrap (((4294967296 * r : Nat) : Int) + (c : Int)) = ((4294967296 * r + c : Nat) : Int) := by rw [wu64 (by omega) (by omega)]; omega
  have m4 : IntKind.u64.wrap ((r : Int) + (y1 : Int)) = ((r + y1 : Nat) : Int) := by rw [wu64 (by omega) (by omega)]; omega
  have m5 : IntKind.u64.wrap ((q : Int) - 1) = ((q - 1 : Nat) : Int) := by rw [wu64 (by omega) (by omega)]; omega
  have hs2 : u = (q - 1) * y1 + (r + y1) := by
   have : q * y1 = (q - 1) * y1 + y1 := by
    obtain ⟨p, rfl⟩ : ∃ p, q = p + 1 := ⟨q - 1, by omega⟩
    rw [Nat.add_sub_cancel, Nat.add_mul, Nat.one_mul]
   omega
  have B : Ev (fun k => bits_Div64q.j4 k (y : Int) (s : Int) (y1 : Int) (y0 : Int) (c : Int) (q1 : Int) (r : Int) (u : Int) (q : Int) true) (((q1 * 4294967296 + t : Nat) : Int), ((v / 2 ^ s : Nat) : Int)) := by
   refine Ev.next ?_
   simp only [bits_Div64q.j4]
   rw [m4, m5]
   by_cases g : 4294967296 ≤ r + y1
   ·have hm : (q - 1) * y0 ≤ 4294967296 * 4294967296 := Nat.mul_le_mul (by omega) (by omega)
    have := K.fit hs2 (by omega)
    have e : q - 1 = t := by omega
    rw [e, f1, f2, f3]
    exact Ev.congr (fun k => by rw [if_pos trivial, if_pos (by omega), if_pos (by omega)]) (Ev.now _)
   ·exact Ev.congr (fun k => by rw [if_pos trivial, if_neg (by omega)]) (ih (q - 1) (r + y1) (by omega) (by omega) (by omega) hs2)
  refine Ev.next ?_
  simp only [bits_Div64q.l1]
  rw [m1, m2, m3]
  by_cases g : 4294967296 ≤ q
  ·exact Ev.congr (fun k => by rw [if_pos (by omega)]) B
  ·have g2 : 4294967296 * r + c < q * y0 := by rcases cc with h | h; exact absurd h g; exact h
   rw [decide_eq_true (show ((q * y0 : Nat) : Int) > ((4294967296 * r + c : Nat) : Int) by omega)]
   exact Ev.congr (fun k => by rw [if_neg (by omega)]) B
theorem Dv_tot (u c c0 p v p2 v2 : Nat) (h1 : u * 4294967296 + c = p + v) (h2 : v * 4294967296 + c0 = p2 + v2) : (u * 4294967296 + c) * 4294967296 + c0 = p * 4294967296 + p2 + v2 := by
 rw [h1, Nat.add_mul, Nat.add_assoc, h2, Nat.add_assoc]
theorem Dv_f (y s u c c0 : Nat) (y1 y0 : Nat) (hy : y = y1 * 4294967296 + y0) (h0 : y0 < 4294967296) (h1 : 2147483648 ≤ y1) (h2 : y1 < 4294967296) (hu : u < y) (hc : c < 4294967296) (hc0 : c0 < 4294967296) (hs : s ≤ 64) :
  Ev (fun k => bits_Div64q.l0 k (y : Int) (s : Int) (y1 : Int) (y0 : Int) (u : Int) (c : Int) (c0 : Int) ((u / y1 : Nat) : Int) ((u % y1 : Nat) : Int))
   ((((u * 4294967296 + c) * 4294967296 + c0) / y : Nat), ((((u * 4294967296 + c) * 4294967296 + c0) % y / 2 ^ s : Nat) : Int)) := by
 have y0' : 0 < y := by omega
 have K : Kn y y1 y0 u c ((u * 4294967296 + c) / y) ((u * 4294967296 + c) % y) :=
  ⟨hy, h0, h1, h2, hu, hc, (Nat.div_add_mod' _ _).symm, Nat.mod_lt _ y0'⟩
 obtain ⟨t, ht⟩ : ∃ t, (u * 4294967296 + c) / y = t := ⟨_, rfl⟩
 obtain ⟨v, hv⟩ : ∃ v, (u * 4294967296 + c) % y = v := ⟨_, rfl⟩
 rw [ht, hv] at K
 have K2 : Kn y y1 y0 v c0 ((v * 4294967296 + c0) / y) ((v * 4294967296 + c0) % y) :=
  ⟨hy, h0, h1, h2, K.hv, hc0, (Nat.div_add_mod' _ _).symm, Nat.mod_lt _ y0'⟩
 obtain ⟨t2, ht2⟩ : ∃ t, (v * 4294967296 + c0) / y = t := ⟨_, rfl⟩
 obtain ⟨v2, hv2⟩ : ∃ v', (v * 4294967296 + c0) % y = v' := ⟨_, rfl⟩
 rw [ht2, hv2] at K2
 have hd := K.hd
 have hd2 := K2.hd
 have hv3 := K2.hv
 have hv1 := K.hv
 have tl := K.t_lt
 have tl2 := K2.t_lt
 have S := K.start
 have S2 := K2.start
 have total : (u * 4294967296 + c) * 4294967296 + c0 = (t * 4294967296 + t2) * y + v2 := by
  have e : (t * 4294967296 + t2) * y = t * y * 4294967296 + t2 * y := by rw [Nat.add_mul (t * 4294967296) t2 y, Nat.mul_right_comm t 4294967296 y]
  rw [e]
  exact Dv_tot u c c0 (t * y) v (t2 * y) v2 hd hd2
 have q_ok : ((u * 4294967296 + c) * 4294967296 + c0) / y = t * 4294967296 + t2 := by
  rw [total, Nat.add_comm, Nat.add_mul_div_right _ _ y0', Nat.div_eq_of_lt hv3, Nat.zero_add]
 have r_ok : ((u * 4294967296 + c) * 4294967296 + c0) % y = v2 := by
  rw [total, Nat.add_comm, Nat.add_mul_mod_self_right, Nat.mod_eq_of_lt hv3]
 rw [q_ok, r_ok]
 have L1 := Dv_l1 K2 s t hs (by omega) tl (v / y1 - t2) (v / y1) (v % y1) (by omega) S2.2.1 S2.2.2.1 S2.2.2.2
 have un : IntKind.u64.wrap (IntKind.u64.wrap (IntKind.u64.wrap ((u : Int) * 4294967296) + (c : Int)) - IntKind.u64.wrap ((t : Int) * (y : Int))) = (v : Int) := by
  rw [← Int.natCast_mul t y]
  obtain ⟨p, hp⟩ : ∃ p, t * y = p := ⟨_, rfl⟩
  rw [hp] at hd ⊢
  simp only [IntKind.wrap_u64]; omega
 have qd : IntKind.u64.wrap (Int.tdiv (v : Int) (y1 : Int)) = ((v / y1 : Nat) : Int) := by
  rw [Int.ofNat_tdiv]; exact wnat (by have := Nat.div_le_self v y1; omega)
 have rd : IntKind.u64.wrap ((v : Int) - IntKind.u64.wrap (((v / y1 : Nat) : Int) * (y1 : Int))) = ((v % y1 : Nat) : Int) := by
  rw [← Int.natCast_mul]
  have e := S2.2.2.2
  obtain ⟨p, hp⟩ : ∃ p, v / y1 * y1 = p := ⟨_, rfl⟩
  rw [hp] at e ⊢
  simp only [IntKind.wrap_u64]; omega
 have J : Ev (fun k => bits_Div64q.j2 k (y : Int) (s : Int) (y1 : Int) (y0 : Int) (u : Int) (c : Int) (c0 : Int) (t : Int)) (((t * 4294967296 + t2 : Nat) : Int), ((v2 / 2 ^ s : Nat) : Int)) := by
  refine Ev.next ?_
  simp only [bits_Div64q.j2]
  rw [un, qd, rd]
  exact Ev.congr (fun k => by rw [if_neg (by omega)]) L1
 exact Dv_l0 K (s : Int) (c0 : Int) _ J (u / y1 - t) (u / y1) (u % y1) (by omega) S.2.1 S.2.2.1 S.2.2.2
theorem Div64_ev (a0 a1 a2 : Nat) (h1 : a1 < 18446744073709551616) (h2 : a0 < a2) (h3 : a2 < 18446744073709551616) :
  Ev (fun k => bits_Div64q.f k (a0 : Int) (a1 : Int) (a2 : Int)) (((a0 * 18446744073709551616 + a1) / a2 : Nat), ((a0 * 18446744073709551616 + a1) % a2 : Nat)) := by
 unfold bits_Div64q.f
 by_cases z : a0 = 0
 ·subst z
  rw [Nat.zero_mul, Nat.zero_add]
  have e1 : IntKind.u64.wrap (Int.tdiv (a1 : Int) (a2 : Int)) = ((a1 / a2 : Nat) : Int) := by
   rw [Int.ofNat_tdiv]; exact wnat (by have := Nat.div_le_self a1 a2; omega)
  have e2 : Int.tmod (a1 : Int) (a2 : Int) = ((a1 % a2 : Nat) : Int) := (Int.ofNat_tmod a1 a2).symm
  rw [e1, e2]
  exact Ev.congr (fun k => by rw [if_pos (by omega), if_neg (by omega)]) (Ev.now _)
 have bd := Lib.bitLenAux_bounds 64 a2 (by omega) (by omega)
 obtain ⟨L, hL⟩ : ∃ L, Lib.bitLenAux 64 a2 = L := ⟨_, rfl⟩
 rw [hL] at bd
 have hLZ : bits_LeadingZeros64.f (a2 : Int) = some (((64 - L : Nat)) : Int) := by
  unfold bits_LeadingZeros64.f
  rw [if_pos (by omega), Int.toNat_natCast]
  congr 1
  show (64 : Int) - (Lib.bitLenAux 64 a2 : Nat) = _
  rw [hL]
  have : L ≤ 64 := by
   by_cases g : L ≤ 64
   ·exact g
   ·have : 2 ^ 64 ≤ 2 ^ (L - 1) := pow_le (by omega)
    omega
  omega
 have hL64 : L ≤ 64 := by
  by_cases g : L ≤ 64
  ·exact g
  ·have : 2 ^ 64 ≤ 2 ^ (L - 1) := pow_le (by omega)
   omega
 obtain ⟨s, hs⟩ : ∃ s, 64 - L = s := ⟨_, rfl⟩
 rw [hs] at hLZ
 have ps := two_pos s
 have pL : 2 ^ L * 2 ^ s = 18446744073709551616 := by rw [← Nat.pow_add, show L + s = 64 by omega]
 have pL1 : 2 ^ (L - 1) * 2 ^ s = 9223372036854775808 := by rw [← Nat.pow_add, show L - 1 + s = 63 by omega]
 have hy1 : a2 * 2 ^ s < 18446744073709551616 := by rw [← pL]; exact Nat.mul_lt_mul_of_pos_right bd.2.2 ps
 have hy2 : 9223372036854775808 ≤ a2 * 2 ^ s := by rw [← pL1]; exact Nat.mul_le_mul_right _ bd.2.1
 have pS : 2 ^ (64 - s) * 2 ^ s = 18446744073709551616 := by rw [← Nat.pow_add, show 64 - s + s = 64 by omega]
 have hs63 : s ≤ 63 := by omega
 have lohi : a1 / 2 ^ (64 - s) < 2 ^ s := by rw [Nat.div_lt_iff_lt_mul (two_pos _), Nat.mul_comm, pS]; exact h1
 have hhi : (a0 + 1) * 2 ^ s ≤ a2 * 2 ^ s := Nat.mul_le_mul_right _ (by omega)
 rw [Nat.add_mul, Nat.one_mul] at hhi
 have ps63 : 2 ^ s ≤ 2 ^ 63 := pow_le hs63
 have w1 : IntKind.u64.wrap (s : Int) = (s : Int) := wu64 (by omega) (by omega)
 have w2 : IntKind.u64.wrap (64 - (s : Int)) = ((64 - s : Nat) : Int) := by rw [wu64 (by omega) (by omega)]; omega
 have e1 : shl .u64 (a2 : Int) (s : Int) = ((a2 * 2 ^ s : Nat) : Int) := by rw [shl_nat a2 s (by omega), Nat.mod_eq_of_lt hy1]
 have e2 : shl .u64 (a0 : Int) (s : Int) = ((a0 * 2 ^ s : Nat) : Int) := by rw [shl_nat a0 s (by omega), Nat.mod_eq_of_lt (by omega)]
 have e3 : shr .u64 (a1 : Int) ((64 - s : Nat) : Int) = ((a1 / 2 ^ (64 - s) : Nat) : Int) := shr_nat a1 (64 - s) (by omega)
 have e4 : shl .u64 (a1 : Int) (s : Int) = ((a1 * 2 ^ s % 18446744073709551616 : Nat) : Int) := shl_nat a1 s (by omega)
 have e5 : bits .or .u64 ((a0 * 2 ^ s : Nat) : Int) ((a1 / 2 ^ (64 - s) : Nat) : Int) = ((a0 * 2 ^ s + a1 / 2 ^ (64 - s) : Nat) : Int) :=
  or_join _ _ s (by omega) lohi (by simp) (by omega)
 have lowp : a1 * 2 ^ s = a1 / 2 ^ (64 - s) * 18446744073709551616 + a1 * 2 ^ s % 18446744073709551616 := by
  have : a1 * 2 ^ s / 18446744073709551616 = a1 / 2 ^ (64 - s) := by rw [← pS]; exact Nat.mul_div_mul_right _ _ ps
  rw [← this]; exact (Nat.div_add_mod' _ _).symm
 have D1 : (a0 * 18446744073709551616 + a1) / a2 = (a0 * 18446744073709551616 + a1) * 2 ^ s / (a2 * 2 ^ s) := (Nat.mul_div_mul_right _ _ ps).symm
 have D2 : (a0 * 18446744073709551616 + a1) % a2 = (a0 * 18446744073709551616 + a1) * 2 ^ s % (a2 * 2 ^ s) / 2 ^ s := by
  rw [Nat.mul_mod_mul_right, Nat.mul_div_cancel _ ps]
 rw [D1, D2]
 rw [Nat.add_mul, Nat.mul_right_comm]
 obtain ⟨A0, hA0⟩ : ∃ x, a0 * 2 ^ s = x := ⟨_, rfl⟩
 obtain ⟨H, hH⟩ : ∃ x, a1 / 2 ^ (64 - s) = x := ⟨_, rfl⟩
 obtain ⟨Y, hY⟩ : ∃ x, a2 * 2 ^ s = x := ⟨_, rfl⟩
 obtain ⟨A1, hA1⟩ : ∃ x, a1 * 2 ^ s = x := ⟨_, rfl⟩
 obtain ⟨M, hM⟩ : ∃ x, A1 % 18446744073709551616 = x := ⟨_, rfl⟩
 rw [hA0, hA1, hY]
 rw [hA1, hM, hH] at lowp
 rw [hA0] at hhi e2 e5
 rw [hH] at lohi e3 e5
 rw [hY] at hy1 hy2 hhi e1
 rw [hA1, hM] at e4
 have hM64 : M < 18446744073709551616 := by omega
 have tot : A0 * 18446744073709551616 + A1 = ((A0 + H) * 4294967296 + M / 4294967296) * 4294967296 + M % 4294967296 := by omega
 have m32 : bits .and .u64 (Y : Int) 4294967295 = ((Y % 4294967296 : Nat) : Int) := and_mask Y 32 hy1 (by decide)
 have m32' : bits .and .u64 (M : Int) 4294967295 = ((M % 4294967296 : Nat) : Int) := and_mask M 32 hM64 (by decide)
 have dY : (Y : Int) / 4294967296 = ((Y / 4294967296 : Nat) : Int) := by omega
 have dM : (M : Int) / 4294967296 = ((M / 4294967296 : Nat) : Int) := by omega
 obtain ⟨y1, hy⟩ : ∃ x, Y / 4294967296 = x := ⟨_, rfl⟩
 obtain ⟨u, hu⟩ : ∃ x, A0 + H = x := ⟨_, rfl⟩
 have hy1b : 2147483648 ≤ y1 := by omega
 have hu64 : u < Y := by omega
 have qd : IntKind.u64.wrap (Int.tdiv (u : Int) (y1 : Int)) = ((u / y1 : Nat) : Int) := by
  rw [Int.ofNat_tdiv]; exact wnat (by have := Nat.div_le_self u y1; omega)
 have rd : IntKind.u64.wrap ((u : Int) - IntKind.u64.wrap (((u / y1 : Nat) : Int) * (y1 : Int))) = ((u % y1 : Nat) : Int) := by
  rw [← Int.natCast_mul]
  have e := (Nat.div_add_mod' u y1).symm
  obtain ⟨p, hp⟩ : ∃ p, u / y1 * y1 = p := ⟨_, rfl⟩
  rw [hp] at e ⊢
  have := Nat.mod_lt u (show 0 < y1 by omega)
  simp only [IntKind.wrap_u64]; omega
 have F := Dv_f Y s u (M / 4294967296) (M % 4294967296) y1 (Y % 4294967296) (by omega) (by omega) hy1b (by omega) hu64 (by omega) (by omega) (by omega)
 rw [hu] at tot e5
 rw [hy] at dY
 rw [tot]
 refine Ev.congr (fun k => by rw [if_neg (by omega)]) ?_
 refine Ev.b _ (Ev.const hLZ) ?_
 rw [w1, w2, e1, e2, e3, e4, e5, m32, m32', dY, dM, qd, rd]
 exact Ev.congr (fun k => by rw [if_pos (by omega), if_pos (by omega), if_neg (by omega)]) F
theorem Dv64_ok (a0 a1 a2 : Int) (h : 0 ≤ a0 ∧ 0 ≤ a1 ∧ a1 < 18446744073709551616 ∧ a0 < a2 ∧ a2 < 18446744073709551616) :
  ∃ k, bits_Div64q.f k a0 a1 a2 = some ((a0 * 18446744073709551616 + a1) / a2, (a0 * 18446744073709551616 + a1) % a2) := by
 obtain ⟨h1, h2, h3, h4, h5⟩ := h
 obtain ⟨x, rfl⟩ := Int.eq_ofNat_of_zero_le h1
 obtain ⟨y, rfl⟩ := Int.eq_ofNat_of_zero_le h2
 obtain ⟨z, rfl⟩ := Int.eq_ofNat_of_zero_le (show 0 ≤ a2 by omega)
 obtain ⟨k, hk⟩ := Div64_ev x y z (by omega) (by omega) (by omega)
 refine ⟨k, (hk k (Nat.le_refl _)).trans ?_⟩
 rw [Int.natCast_ediv, Int.natCast_emod, Int.natCast_add, Int.natCast_mul]
 rfl
end Go.Proofs.Ytmadjhmecfbcmaa.M
end
