/- The walk of the law SpanTests and what it computes, part 3 of 6: no conditions. -/
import Derived.Test.YtmadjhmecfbcmaaASpanTests2
set_option linter.unusedVariables false
set_option linter.unusedSimpArgs false
section
namespace Go.Proofs.Ytmadjhmecfbcmaa.F
open Go.RowKit Go.Proofs.YtmadjhmecfbcmaaW.PrintWords Go.Proofs.YtmadjhmecfbcmaaW.PrintLast Go.Proofs.YtmadjhmecfbcmaaW.PrintMore
attribute [local go_sem] max2_int min2_int max_two min_two max_three min_three max_four min_four
set_option linter.unusedVariables false
set_option linter.unusedSimpArgs false
set_option maxHeartbeats 8000000
set_option maxRecDepth 100000
def span_Test.T9 : Bool × List (List Nat × List Nat) := (true, [([], []), ([], []), ([1], [1]), ([], []), ([0, 2, 3], [0, 2, 3]), ([], []), ([], []), ([6], [6]), ([], []), ([5, 7, 8, 4], [5, 7, 8]), ([4, 9, 0, 1, 2, 3, 4], [4]), ([9, 10, 0, 1, 2, 3, 4, 5, 6, 7, 8, 9, 10], [9])])
def span_Test.B9 : List Nat := [0, 0, 2, 0, 15, 0, 0, 64, 0, 511, 1023, 2047]
theorem span_Test.tab9 : rtab .any (opsOf Try.f52 9) = span_Test.T9 := by kernel_rfl
theorem span_Test.bits9 : waitsOk span_Test.T9.2 span_Test.B9 = true := by kernel_rfl
def span_Test.T12 : Bool × List (List Nat × List Nat) := (true, [([], []), ([], []), ([1], [1]), ([], []), ([0, 2, 3], [0, 2, 3]), ([], []), ([], []), ([6], [6]), ([], []), ([5, 7, 8, 4], [5, 7, 8]), ([4, 9, 0, 1, 2, 3, 4], [4]), ([9, 10, 0, 1, 2, 3, 4, 5, 6, 7, 8, 9, 10], [9])])
def span_Test.B12 : List Nat := [0, 0, 2, 0, 15, 0, 0, 64, 0, 511, 1023, 2047]
theorem span_Test.tab12 : rtab .any (opsOf Try.f52 12) = span_Test.T12 := by kernel_rfl
theorem span_Test.bits12 : waitsOk span_Test.T12.2 span_Test.B12 = true := by kernel_rfl
def span_Test.T17 : Bool × List (List Nat × List Nat) := (true, [([], []), ([], []), ([0, 1], [0, 1]), ([], []), ([], []), ([3, 4, 2], [3, 4]), ([2, 5, 0, 1, 2], [2]), ([5, 6, 0, 1, 2, 3, 4, 5, 6], [5])])
def span_Test.B17 : List Nat := [0, 0, 3, 0, 0, 31, 63, 127]
theorem span_Test.tab17 : rtab .any (opsOf Try.f52 17) = span_Test.T17 := by kernel_rfl
theorem span_Test.bits17 : waitsOk span_Test.T17.2 span_Test.B17 = true := by kernel_rfl
theorem span_Test.calls (k : Nat) (a0 : Int) (a1_0 : Bool) (a1_1 : Int) (a1_2 : Int) (a2_0 : Bool) (a2_1 : Int) (a2_2 : Int) (r1 : Bool) (r2 : Int) (r3 : Int) (r4 : Bool) (r5 : Int) (r6 : Int) (w : World) (h : span_Test.f k a0 a1_0 a1_1 a1_2 a2_0 a2_1 a2_2 = some (r1, r2, r3, r4, r5, r6)) :
  Calls Try.prog 52 #[.int .u8 a0, .agg #[.bool a1_0, .int .u64 a1_1, .int .u64 a1_2], .agg #[.bool a2_0, .int .u64 a2_1, .int .u64 a2_2]] w fun e w' => e = .returned (.tuple #[.agg #[.bool r1, .int .u64 r2, .int .u64 r3], .agg #[.bool r4, .int .u64 r5, .int .u64 r6]]) ∧ Below w.heap.size w w' := by
 have hu43 := Try.underlying43
 have HB := Aside0.mk (Below.refl w.heap.size w)
 have H := h
 unfold span_Test.f at H
 clear h
 obtain ⟨⟨t867, t868, t869⟩, A4, H⟩ := zbs H
 try dsimp only at H
 obtain ⟨⟨t870, t871, t872⟩, A5, H⟩ := zbs H
 try dsimp only at H
 have HC6 := Aside0.mk H
 clear H
 go_enter Try.func52, Try.ntmps52
 try go_wp2_with (first | ((with_reducible refine gtd 4 rfl ?_); refine zbx 4 #[.bool a1_0, .int .u64 a1_1, .int .u64 a1_2] 43 (h := ?_); intro gb863 hg w7 hbox hb; have GW863 := zkZ hg (zaB (p := Below w.heap.size w _)); replace HB := Aside0.mk (below_step zaB hb); have BK863 := Aside0.mk (hbox); clear hb hbox hg) | ((with_reducible refine gtd 5 rfl ?_); refine zbx 5 #[.bool a2_0, .int .u64 a2_1, .int .u64 a2_2] 43 (h := ?_); intro gb864 hg w8 hbox hb; refine zbn1 HB BK863 hg hb hbox (c := ?_); clear HB BK863 hb hbox hg; intro GW864 NB863_864 BK863 HB BK864) | ((with_reducible refine gtd 6 rfl ?_); refine zbx 6 #[.bool false, .int .u64 0, .int .u64 0] 43 (h := ?_); intro gb865 hg w9 hbox hb; refine zbn2 HB BK863 BK864 hg hb hbox (c := ?_); clear HB BK863 BK864 hb hbox hg; intro GW865 NB863_865 NB864_865 BK863 BK864 HB BK865) | ((with_reducible refine gtd 7 rfl ?_); refine zbx 7 #[.bool false, .int .u64 0, .int .u64 0] 43 (h := ?_); intro gb866 hg w10 hbox hb; refine zbn3 HB BK863 BK864 BK865 hg hb hbox (c := ?_); clear HB BK863 BK864 BK865 hb hbox hg; intro GW866 NB863_866 NB864_866 NB865_866 BK863 BK864 BK865 HB BK866))
 replace BK863 := Aside0.mk (blk_drew BK863.out)
 replace BK864 := Aside0.mk (blk_drew BK864.out)
 replace BK865 := Aside0.mk (blk_drew BK865.out)
 replace BK866 := Aside0.mk (blk_drew BK866.out)
 replace HB := Aside0.mk (below_drew1 HB.out)
 refine start_ (n := 6) (S := fun w' => w'.cell? ⟨gb863, 0, none⟩ = some (.bool a1_0) ∧ w'.cell? ⟨gb863, 1, none⟩ = some (.int .u64 a1_1) ∧ w'.cell? ⟨gb863, 2, none⟩ = some (.int .u64 a1_2) ∧ w'.cell? ⟨gb864, 0, none⟩ = some (.bool a2_0) ∧ w'.cell? ⟨gb864, 1, none⟩ = some (.int .u64 a2_1) ∧ w'.cell? ⟨gb864, 2, none⟩ = some (.int .u64 a2_2)) (ds := [4, 5]) #[false, false, false, false, false, false] (by kernel_rfl) rfl rfl (zk3 BK863 (ze3 BK864)) (fun hHeld => ?_)
 generalize w10.drew = w11 at BK863 BK864 BK865 BK866 HB hHeld ⊢
 refine ztA 0 11 (h := ?_)
 refine ztA 2 13 (h := ?_)
 refine zoA 1 12 (h := fun K hK => ?_)
 refine zgA Try.func112 (span_norm.calls k a1_0 a1_1 a1_2 t867 t868 t869 _ A4.out) (h := ?_)
 rintro w12 hb
 refine zcn4 HB BK863 BK864 BK865 BK866 hb (c := ?_)
 clear HB BK863 BK864 BK865 BK866 hb
 intro BK863 BK864 BK865 BK866 HB
 refine hK.out _ _ (zk3 BK863 (ze3 BK864)) (fun hHeld => ?_)
 clear hK K
 refine znA 12 (h := ?_)
 refine zoA 3 14 (h := fun K hK => ?_)
 refine zgA Try.func112 (span_norm.calls k a2_0 a2_1 a2_2 t870 t871 t872 _ A5.out) (h := ?_)
 rintro w13 hb
 refine zcn4 HB BK863 BK864 BK865 BK866 hb (c := ?_)
 clear HB BK863 BK864 BK865 BK866 hb
 intro BK863 BK864 BK865 BK866 HB
 refine hK.out _ _ (zk3 BK863 (ze3 BK864)) (fun hHeld => ?_)
 clear hK K
 refine znA 14 (h := ?_)
 refine last_ (i := 4) (N := none) #[true, true, true, true, true, false] rfl rfl (by kernel_rfl) (by decide) (fun K hK => ?_)
 have hs14 := zc0 BK863
 have hfs14 := blk_frozen BK863.out 0
 refine zt3 NB863_864 NB863_865 NB863_866 fun _ _ _ _ _ _ => ?_
 have hs15 := zc1 BK863
 have hfs15 := blk_frozen BK863.out 1
 refine zt3 NB863_864 NB863_865 NB863_866 fun _ _ _ _ _ _ => ?_
 have hs16 := zc2 BK863
 have hfs16 := blk_frozen BK863.out 2
 refine zt3 NB863_864 NB863_865 NB863_866 fun _ _ _ _ _ _ => ?_
 refine skip_ (w1 := ?_) (by rfl) rfl ?_ ?_
 rotate_left
 ·go_simp
  rfl
 refine hK.out _ _ ?_
 clear hK K
 refine last_ (i := 5) (N := none) #[true, true, true, true, true, true] rfl rfl (by kernel_rfl) (by decide) (fun K hK => ?_)
 have hs17 := zc0 BK864
 have hfs17 := blk_frozen BK864.out 0
 refine zt3 NB863_864 NB864_865 NB864_866 fun _ _ _ _ _ _ => ?_
 have hs18 := zc1 BK864
 have hfs18 := blk_frozen BK864.out 1
 refine zt3 NB863_864 NB864_865 NB864_866 fun _ _ _ _ _ _ => ?_
 have hs19 := zc2 BK864
 have hfs19 := blk_frozen BK864.out 2
 refine zt3 NB863_864 NB864_865 NB864_866 fun _ _ _ _ _ _ => ?_
 refine skip_ (w1 := ?_) (by rfl) rfl ?_ ?_
 rotate_left
 ·go_simp
  rfl
 refine hK.out _ _ ?_
 clear hK K
 refine done_ (by kernel_rfl) ?_
 go_upto_region 2 with (fail)
 go_cut [20] (fun v20 wc => ∃ (kq : Nat) (x20_5 : Bool), v20 = .bool x20_5 ∧ Aside0 (span_Test.j0 kq a0 x20_5 t867 t868 t869 t870 t871 t872 = some (r1, r2, r3, r4, r5, r6)) ∧ Aside0 (kq ≤ k) ∧ Aside0 (wc.heap[gb863]? = some (.cells #[.bool t867, .int .u64 t868, .int .u64 t869] 43 (0, 0))) ∧ Aside0 (wc.heap[gb864]? = some (.cells #[.bool t870, .int .u64 t871, .int .u64 t872] 43 (0, 0))) ∧ Aside0 (wc.heap[gb865]? = some (.cells #[.bool false, .int .u64 0, .int .u64 0] 43 (0, 0))) ∧ Aside0 (wc.heap[gb866]? = some (.cells #[.bool false, .int .u64 0, .int .u64 0] 43 (0, 0))) ∧ Aside0 (Below w.heap.size w wc))
 case first =>
  have H := HC6.out
  clear HC6
  by_cases c20 : t867 = true
  ·subst c20
   replace H := zit H
   have H' := Aside0.mk H
   clear H
   refine zt3 NB863_864 NB863_865 NB863_866 fun _ _ _ _ _ _ => ?_
   refine zu3 BK863 fun z24_0 z24_1 z24_2 f24_0 f24_1 f24_2 => ?_
   go_wp2
   go_meet
   case rel => exact ⟨_, (true), zrl, H', ⟨zle⟩, ⟨(zkf (zkf (zkf (blk_put (cs := #[.bool true, .int .u64 t868, .int .u64 a1_2]) (blk_put (cs := #[.bool true, .int .u64 a1_1, .int .u64 a1_2]) (blk_put (zkq BK863) 0 _ rfl) 1 _ rfl) 2 _ rfl) NB863_864.out _) NB863_864.out _) NB863_864.out _)⟩, ⟨(blk_put (cs := #[.bool t870, .int .u64 t871, .int .u64 a2_2]) (blk_put (cs := #[.bool t870, .int .u64 a2_1, .int .u64 a2_2]) (blk_put (zkf (zkf (zkf (zkq BK864) (zks NB863_864).out _) (zks NB863_864).out _) (zks NB863_864).out _) 0 _ rfl) 1 _ rfl) 2 _ rfl)⟩, ⟨(zkf (zkf (zkf (zkf (zkf (zkf (zkq BK865) (zks NB863_865).out _) (zks NB863_865).out _) (zks NB863_865).out _) (zks NB864_865).out _) (zks NB864_865).out _) (zks NB864_865).out _)⟩, ⟨(zkf (zkf (zkf (zkf (zkf (zkf (zkq BK866) (zks NB863_866).out _) (zks NB863_866).out _) (zks NB863_866).out _) (zks NB864_866).out _) (zks NB864_866).out _) (zks NB864_866).out _)⟩, ⟨zaB⟩⟩
  replace c20 := Bool.eq_false_iff.mpr c20
  subst c20
  replace H := zif H
  have H' := Aside0.mk H
  clear H
  refine zt3 NB863_864 NB863_865 NB863_866 fun _ _ _ _ _ _ => ?_
  refine zu3 BK863 fun z28_0 z28_1 z28_2 f28_0 f28_1 f28_2 => ?_
  refine zt2 NB864_865 NB864_866 fun _ _ _ _ => ?_
  refine zu3 BK864 fun z31_0 z31_1 z31_2 f31_0 f31_1 f31_2 => ?_
  go_wp2
  go_meet
  case rel => exact ⟨_, (t870), zrl, H', ⟨zle⟩, ⟨(zkf (zkf (zkf (blk_put (cs := #[.bool false, .int .u64 t868, .int .u64 a1_2]) (blk_put (cs := #[.bool false, .int .u64 a1_1, .int .u64 a1_2]) (blk_put (zkq BK863) 0 _ rfl) 1 _ rfl) 2 _ rfl) NB863_864.out _) NB863_864.out _) NB863_864.out _)⟩, ⟨(blk_put (cs := #[.bool t870, .int .u64 t871, .int .u64 a2_2]) (blk_put (cs := #[.bool t870, .int .u64 a2_1, .int .u64 a2_2]) (blk_put (zkf (zkf (zkf (zkq BK864) (zks NB863_864).out _) (zks NB863_864).out _) (zks NB863_864).out _) 0 _ rfl) 1 _ rfl) 2 _ rfl)⟩, ⟨(zkf (zkf (zkf (zkf (zkf (zkf (zkq BK865) (zks NB863_865).out _) (zks NB863_865).out _) (zks NB863_865).out _) (zks NB864_865).out _) (zks NB864_865).out _) (zks NB864_865).out _)⟩, ⟨(zkf (zkf (zkf (zkf (zkf (zkf (zkq BK866) (zks NB863_866).out _) (zks NB863_866).out _) (zks NB863_866).out _) (zks NB864_866).out _) (zks NB864_866).out _) (zks NB864_866).out _)⟩, ⟨zaB⟩⟩
 case rest =>
  clear HC6
  try clear z24_0 z24_1 z24_2 f24_0 f24_1 f24_2
  try clear z28_0 z28_1 z28_2 f28_0 f28_1 f28_2
  try clear z31_0 z31_1 z31_2 f31_0 f31_1 f31_2
  obtain ⟨kq, x20_5, rfl, HA, HJ5, BK863, BK864, BK865, BK866, HB⟩ := hcut
  cases kq with
  | zero => exact absurd HA.out (by simp [span_Test.j0])
  | succ kj5 =>
   have H := HA.out
   clear HA
   simp only [span_Test.j0] at H
   by_cases c32 : x20_5 = true
   ·subst c32
    replace H := zit H
    obtain ⟨⟨t873, t874, t875⟩, A33, H⟩ := zbs H
    try dsimp only at H
    obtain ⟨⟨t876, t877, t878⟩, A34, H⟩ := zbs H
    try dsimp only at H
    simp only [Option.some.injEq, Prod.mk.injEq] at H
    obtain ⟨rfl, rfl, rfl, rfl, rfl, rfl⟩ := H
    go_wp2_with (first | ((with_reducible refine gtc 118 rfl ?_); refine zgL 21 Try.func118 (span_none.calls  t873 t874 t875 _ A33.out) (h := ?_); rintro w35 hb; refine zcn4 HB BK863 BK864 BK865 BK866 hb (c := ?_); clear HB BK863 BK864 BK865 BK866 hb; intro BK863 BK864 BK865 BK866 HB) | ((with_reducible refine gtc 118 rfl ?_); refine zgL 22 Try.func118 (span_none.calls  t876 t877 t878 _ A34.out) (h := ?_); rintro w36 hb; refine zcn4 HB BK863 BK864 BK865 BK866 hb (c := ?_); clear HB BK863 BK864 BK865 BK866 hb; intro BK863 BK864 BK865 BK866 HB; refine zt3 NB863_865 NB864_865 NB865_866 fun _ _ _ _ _ _ => ?_; refine zu3 BK865 fun z40_0 z40_1 z40_2 f40_0 f40_1 f40_2 => ?_; refine zt2 NB863_866 NB864_866 fun _ _ _ _ => ?_; refine zu3 BK866 fun z43_0 z43_1 z43_2 f43_0 f43_1 f43_2 => ?_))
    refine bodyPost_ret (results_cc rfl _ _ gb865 gb866 43 43 #[.bool t873, .int .u64 t874, .int .u64 t875] #[.bool t876, .int .u64 t877, .int .u64 t878] (0, 0) (0, 0) _ _ rfl (zkf (zkf (zkf (blk_put (cs := #[.bool t873, .int .u64 t874, .int .u64 0]) (blk_put (cs := #[.bool t873, .int .u64 0, .int .u64 0]) (blk_put (zkq BK865) 0 _ rfl) 1 _ rfl) 2 _ rfl) NB865_866.out _) NB865_866.out _) NB865_866.out _) Try.underlying43 rfl (by kernel_rfl) rfl (blk_put (cs := #[.bool t876, .int .u64 t877, .int .u64 0]) (blk_put (cs := #[.bool t876, .int .u64 0, .int .u64 0]) (blk_put (zkf (zkf (zkf (zkq BK866) (zks NB865_866).out _) (zks NB865_866).out _) (zks NB865_866).out _) 0 _ rfl) 1 _ rfl) 2 _ rfl) Try.underlying43 rfl (by kernel_rfl)) rfl ?_
    exact ⟨zaE, zaB⟩
   replace c32 := Bool.eq_false_iff.mpr c32
   subst c32
   replace H := zif H
   have HC44 := Aside0.mk H
   clear H
   try go_wp2
   replace BK863 := Aside0.mk (blk_drew BK863.out)
   replace BK864 := Aside0.mk (blk_drew BK864.out)
   replace BK865 := Aside0.mk (blk_drew BK865.out)
   replace BK866 := Aside0.mk (blk_drew BK866.out)
   replace HB := Aside0.mk (below_drew1 HB.out)
   refine start_ (n := 6) (S := fun w' => w'.cell? ⟨gb863, 0, none⟩ = some (.bool t867) ∧ w'.cell? ⟨gb863, 1, none⟩ = some (.int .u64 t868) ∧ w'.cell? ⟨gb863, 2, none⟩ = some (.int .u64 t869) ∧ w'.cell? ⟨gb864, 0, none⟩ = some (.bool t870) ∧ w'.cell? ⟨gb864, 1, none⟩ = some (.int .u64 t871) ∧ w'.cell? ⟨gb864, 2, none⟩ = some (.int .u64 t872)) (ds := []) #[false, false, false, false, false, false] (by kernel_rfl) rfl rfl (zk3 BK863 (ze3 BK864)) (fun hHeld => ?_)
   generalize wc.drew = w45 at BK863 BK864 BK865 BK866 HB hHeld ⊢
   refine ztA 0 23 (h := ?_)
   refine ztA 1 24 (h := ?_)
   refine join_ (σ := Nat × Nat) 2 #[true, true, true, true, false, false] (fun s_ => [(8, .pointer (some ⟨s_.1, 0, none⟩)), (9, .pointer (some ⟨s_.2, 0, none⟩))]) (fun s_ w' => (w'.cell? ⟨gb863, 0, none⟩ = some (.bool t867) ∧ w'.cell? ⟨gb863, 1, none⟩ = some (.int .u64 t868) ∧ w'.cell? ⟨gb863, 2, none⟩ = some (.int .u64 t869) ∧ w'.cell? ⟨gb864, 0, none⟩ = some (.bool t870) ∧ w'.cell? ⟨gb864, 1, none⟩ = some (.int .u64 t871) ∧ w'.cell? ⟨gb864, 2, none⟩ = some (.int .u64 t872)) ∧ (w'.heap[gb863]? = some (.cells #[.bool t867, .int .u64 t868, .int .u64 t869] 43 (0, 0))) ∧ (w'.heap[gb864]? = some (.cells #[.bool t870, .int .u64 t871, .int .u64 t872] 43 (0, 0))) ∧ (w'.heap[gb865]? = some (.cells #[.bool false, .int .u64 0, .int .u64 0] 43 (0, 0))) ∧ (w'.heap[gb866]? = some (.cells #[.bool false, .int .u64 0, .int .u64 0] 43 (0, 0))) ∧ (w'.heap[s_.1]? = some (.cells #[.bool false, .int .u64 0, .int .u64 0] 43 (0, 0))) ∧ (w'.heap[s_.2]? = some (.cells #[.bool false, .int .u64 0, .int .u64 0] 43 (0, 0))) ∧ (w.heap.size ≤ s_.1) ∧ (w.heap.size ≤ s_.1) ∧ (gb863 ≠ s_.1) ∧ (s_.1 ≠ gb863) ∧ (gb864 ≠ s_.1) ∧ (s_.1 ≠ gb864) ∧ (gb865 ≠ s_.1) ∧ (s_.1 ≠ gb865) ∧ (gb866 ≠ s_.1) ∧ (s_.1 ≠ gb866) ∧ (s_.2 ≠ s_.1) ∧ (s_.1 ≠ s_.2) ∧ (w.heap.size ≤ s_.2) ∧ (w.heap.size ≤ s_.2) ∧ (gb863 ≠ s_.2) ∧ (s_.2 ≠ gb863) ∧ (gb864 ≠ s_.2) ∧ (s_.2 ≠ gb864) ∧ (gb865 ≠ s_.2) ∧ (s_.2 ≠ gb865) ∧ (gb866 ≠ s_.2) ∧ (s_.2 ≠ gb866) ∧ (Below w.heap.size w w')) ?_ ?_
   rotate_left
   ·intro hCont
    refine two_ (i := 2) (j := 3) (Ni := some 8) (Nj := some 9) #[true, true, true, false, false, false] #[true, true, false, true, false, false] rfl rfl rfl rfl (by kernel_rfl) (by decide) (by decide) (fun K hK => ?_) (fun K hK => ?_)
    ·skip
     refine box_step ?hg (N := 8) ?hd (cs := #[.bool false, .int .u64 0, .int .u64 0]) (t := 43) ?hr ?_; (case hd => rfl); (case hg => rfl); (case hr => first | (go_simp; done) | (go_simp; rfl))
     intro gb879 hg w46 hbox hb
     refine zbn4 HB BK863 BK864 BK865 BK866 hg hb hbox (c := ?_)
     clear HB BK863 BK864 BK865 BK866 hb hbox hg
     intro GW879 NB863_879 NB864_879 NB865_879 NB866_879 BK863 BK864 BK865 BK866 HB BK879
     refine hK.out _ _ (zk3 BK863 (ze3 BK864)) (fun hHeld => ?_)
     clear hK K
     refine znA 8 (h := ?_)
     refine zoA 3 9 (h := fun K hK => ?_)
     refine box_step ?hg (N := 9) ?hd (cs := #[.bool false, .int .u64 0, .int .u64 0]) (t := 43) ?hr ?_; (case hd => rfl); (case hg => rfl); (case hr => first | (go_simp; done) | (go_simp; rfl))
     intro gb880 hg w47 hbox hb
     have GW880 := zkz HB hg
     have NB863_880 := zkl BK863 hg
     have NB864_880 := zkl BK864 hg
     have NB865_880 := zkl BK865 hg
     have NB866_880 := zkl BK866 hg
     have NB879_880 := zkl BK879 hg
     have NB880_879 := zkr BK879 hg
     replace BK863 := zkb BK863 hb
     replace BK864 := zkb BK864 hb
     replace BK865 := zkb BK865 hb
     replace BK866 := zkb BK866 hb
     replace BK879 := zkb BK879 hb
     replace HB := zkB HB hb
     have BK880 := Aside0.mk (hbox)
     clear hb hbox hg
     refine hK.out _ _ (zk3 BK863 (ze3 BK864)) (fun hHeld => ?_)
     clear hK K
     refine znA 9 (h := ?_)
     exact norm_ (by simp only [putAll, Act.put, List.setIfInBounds_toArray, List.set_cons_zero, List.set_cons_succ]) (hCont (gb879, gb880) _ ⟨hHeld, (zkq BK863), (zkq BK864), (zkq BK865), (zkq BK866), (zkq BK879), (zkq BK880), GW879.out, GW879.out, NB863_879.out, (zks NB863_879).out, NB864_879.out, (zks NB864_879).out, NB865_879.out, (zks NB865_879).out, NB866_879.out, (zks NB866_879).out, NB880_879.out, NB879_880.out, GW880.out, GW880.out, NB863_880.out, (zks NB863_880).out, NB864_880.out, (zks NB864_880).out, NB865_880.out, (zks NB865_880).out, NB866_880.out, (zks NB866_880).out, zaB⟩)
    skip
    refine box_step ?hg (N := 9) ?hd (cs := #[.bool false, .int .u64 0, .int .u64 0]) (t := 43) ?hr ?_; (case hd => rfl); (case hg => rfl); (case hr => first | (go_simp; done) | (go_simp; rfl))
    intro gb880 hg w46 hbox hb
    refine zbn4 HB BK863 BK864 BK865 BK866 hg hb hbox (c := ?_)
    clear HB BK863 BK864 BK865 BK866 hb hbox hg
    intro GW880 NB863_880 NB864_880 NB865_880 NB866_880 BK863 BK864 BK865 BK866 HB BK880
    refine hK.out _ _ (zk3 BK863 (ze3 BK864)) (fun hHeld => ?_)
    clear hK K
    refine znA 9 (h := ?_)
    refine zoA 2 8 (h := fun K hK => ?_)
    refine box_step ?hg (N := 8) ?hd (cs := #[.bool false, .int .u64 0, .int .u64 0]) (t := 43) ?hr ?_; (case hd => rfl); (case hg => rfl); (case hr => first | (go_simp; done) | (go_simp; rfl))
    intro gb879 hg w47 hbox hb
    have GW879 := zkz HB hg
    have NB863_879 := zkl BK863 hg
    have NB864_879 := zkl BK864 hg
    have NB865_879 := zkl BK865 hg
    have NB866_879 := zkl BK866 hg
    have NB880_879 := zkl BK880 hg
    have NB879_880 := zkr BK880 hg
    replace BK863 := zkb BK863 hb
    replace BK864 := zkb BK864 hb
    replace BK865 := zkb BK865 hb
    replace BK866 := zkb BK866 hb
    replace BK880 := zkb BK880 hb
    replace HB := zkB HB hb
    have BK879 := Aside0.mk (hbox)
    clear hb hbox hg
    refine hK.out _ _ (zk3 BK863 (ze3 BK864)) (fun hHeld => ?_)
    clear hK K
    refine znA 8 (h := ?_)
    exact norm_ (by simp only [putAll, Act.put, List.setIfInBounds_toArray, List.set_cons_zero, List.set_cons_succ]) (hCont (gb879, gb880) _ ⟨hHeld, (zkq BK863), (zkq BK864), (zkq BK865), (zkq BK866), (zkq BK879), (zkq BK880), GW879.out, GW879.out, NB863_879.out, (zks NB863_879).out, NB864_879.out, (zks NB864_879).out, NB865_879.out, (zks NB865_879).out, NB866_879.out, (zks NB866_879).out, NB880_879.out, NB879_880.out, GW880.out, GW880.out, NB863_880.out, (zks NB863_880).out, NB864_880.out, (zks NB864_880).out, NB865_880.out, (zks NB865_880).out, NB866_880.out, (zks NB866_880).out, zaB⟩)
   rintro ⟨gb879, gb880⟩ w48 ⟨hS_, h0_, h1_, h2_, h3_, h4_, h5_, h6_, h7_, h8_, h9_, h10_, h11_, h12_, h13_, h14_, h15_, h16_, h17_, h18_, h19_, h20_, h21_, h22_, h23_, h24_, h25_, h26_, h27_, h28_⟩
   have n0_ : Aside0 (w48.heap[gb863]? = some (.cells #[.bool t867, .int .u64 t868, .int .u64 t869] 43 (0, 0))) := ⟨h0_⟩
   have n1_ : Aside0 (w48.heap[gb864]? = some (.cells #[.bool t870, .int .u64 t871, .int .u64 t872] 43 (0, 0))) := ⟨h1_⟩
   have n2_ : Aside0 (w48.heap[gb865]? = some (.cells #[.bool false, .int .u64 0, .int .u64 0] 43 (0, 0))) := ⟨h2_⟩
   have n3_ : Aside0 (w48.heap[gb866]? = some (.cells #[.bool false, .int .u64 0, .int .u64 0] 43 (0, 0))) := ⟨h3_⟩
   have n4_ : Aside0 (w48.heap[gb879]? = some (.cells #[.bool false, .int .u64 0, .int .u64 0] 43 (0, 0))) := ⟨h4_⟩
   have n5_ : Aside0 (w48.heap[gb880]? = some (.cells #[.bool false, .int .u64 0, .int .u64 0] 43 (0, 0))) := ⟨h5_⟩
   have n6_ : Aside0 (w.heap.size ≤ gb879) := ⟨h6_⟩
   have n7_ : Aside0 (w.heap.size ≤ gb879) := ⟨h7_⟩
   have n8_ : Aside0 (gb863 ≠ gb879) := ⟨h8_⟩
   have n9_ : Aside0 (gb879 ≠ gb863) := ⟨h9_⟩
   have n10_ : Aside0 (gb864 ≠ gb879) := ⟨h10_⟩
   have n11_ : Aside0 (gb879 ≠ gb864) := ⟨h11_⟩
   have n12_ : Aside0 (gb865 ≠ gb879) := ⟨h12_⟩
   have n13_ : Aside0 (gb879 ≠ gb865) := ⟨h13_⟩
   have n14_ : Aside0 (gb866 ≠ gb879) := ⟨h14_⟩
   have n15_ : Aside0 (gb879 ≠ gb866) := ⟨h15_⟩
   have n16_ : Aside0 (gb880 ≠ gb879) := ⟨h16_⟩
   have n17_ : Aside0 (gb879 ≠ gb880) := ⟨h17_⟩
   have n18_ : Aside0 (w.heap.size ≤ gb880) := ⟨h18_⟩
   have n19_ : Aside0 (w.heap.size ≤ gb880) := ⟨h19_⟩
   have n20_ : Aside0 (gb863 ≠ gb880) := ⟨h20_⟩
   have n21_ : Aside0 (gb880 ≠ gb863) := ⟨h21_⟩
   have n22_ : Aside0 (gb864 ≠ gb880) := ⟨h22_⟩
   have n23_ : Aside0 (gb880 ≠ gb864) := ⟨h23_⟩
   have n24_ : Aside0 (gb865 ≠ gb880) := ⟨h24_⟩
   have n25_ : Aside0 (gb880 ≠ gb865) := ⟨h25_⟩
   have n26_ : Aside0 (gb866 ≠ gb880) := ⟨h26_⟩
   have n27_ : Aside0 (gb880 ≠ gb866) := ⟨h27_⟩
   have n28_ : Aside0 (Below w.heap.size w w48) := ⟨h28_⟩
   clear BK863
   clear BK864
   clear BK865
   clear BK866
   clear HB
   clear h0_ h1_ h2_ h3_ h4_ h5_ h6_ h7_ h8_ h9_ h10_ h11_ h12_ h13_ h14_ h15_ h16_ h17_ h18_ h19_ h20_ h21_ h22_ h23_ h24_ h25_ h26_ h27_ h28_
   have BK863 := n0_
   have BK864 := n1_
   have BK865 := n2_
   have BK866 := n3_
   have BK879 := n4_
   have BK880 := n5_
   have GW879 := n6_
   have GW879 := n7_
   have NB863_879 := n8_
   have NB879_863 := n9_
   have NB864_879 := n10_
   have NB879_864 := n11_
   have NB865_879 := n12_
   have NB879_865 := n13_
   have NB866_879 := n14_
   have NB879_866 := n15_
   have NB880_879 := n16_
   have NB879_880 := n17_
   have GW880 := n18_
   have GW880 := n19_
   have NB863_880 := n20_
   have NB880_863 := n21_
   have NB864_880 := n22_
   have NB880_864 := n23_
   have NB865_880 := n24_
   have NB880_865 := n25_
   have NB866_880 := n26_
   have NB880_866 := n27_
   have HB := n28_
   clear n0_ n1_ n2_ n3_ n4_ n5_ n6_ n7_ n8_ n9_ n10_ n11_ n12_ n13_ n14_ n15_ n16_ n17_ n18_ n19_ n20_ n21_ n22_ n23_ n24_ n25_ n26_ n27_ n28_
   have hHeld : w48.cell? ⟨gb863, 0, none⟩ = some (.bool t867) ∧ w48.cell? ⟨gb863, 1, none⟩ = some (.int .u64 t868) ∧ w48.cell? ⟨gb863, 2, none⟩ = some (.int .u64 t869) ∧ w48.cell? ⟨gb864, 0, none⟩ = some (.bool t870) ∧ w48.cell? ⟨gb864, 1, none⟩ = some (.int .u64 t871) ∧ w48.cell? ⟨gb864, 2, none⟩ = some (.int .u64 t872) := hS_
   refine norm_ (a' := ?_) ?_ ?_
   rotate_left
   ·simp only [putAll, Act.put, List.setIfInBounds_toArray, List.set_cons_zero, List.set_cons_succ]
    rfl
   refine one_ (i := 4) (N := none) #[true, true, true, true, true, false] rfl rfl (by kernel_rfl) (by decide) (fun K hK => ?_)
   have hs49 := zc0 BK879
   have hfs49 := blk_frozen BK879.out 0
   refine zt5 NB863_879 NB864_879 NB865_879 NB866_879 NB880_879 fun _ _ _ _ _ _ _ _ _ _ => ?_
   have hs50 := zc1 BK879
   have hfs50 := blk_frozen BK879.out 1
   refine zt5 NB863_879 NB864_879 NB865_879 NB866_879 NB880_879 fun _ _ _ _ _ _ _ _ _ _ => ?_
   have hs51 := zc2 BK879
   have hfs51 := blk_frozen BK879.out 2
   refine zt5 NB863_879 NB864_879 NB865_879 NB866_879 NB880_879 fun _ _ _ _ _ _ _ _ _ _ => ?_
   refine skip_ (w1 := ?_) (by rfl) rfl ?_ ?_
   rotate_left
   ·go_simp
    rfl
   refine hK.out _ _ ⟨(zff NB863_879 (zff NB863_879 (zff NB863_879 hHeld.1))), (zff NB863_879 (zff NB863_879 (zff NB863_879 hHeld.2.1))), (zff NB863_879 (zff NB863_879 (zff NB863_879 hHeld.2.2.1))), (zff NB864_879 (zff NB864_879 (zff NB864_879 hHeld.2.2.2.1))), (zff NB864_879 (zff NB864_879 (zff NB864_879 hHeld.2.2.2.2.1))), (zff NB864_879 (zff NB864_879 (zff NB864_879 hHeld.2.2.2.2.2)))⟩ (fun hHeld => ?_)
   clear hK K
   refine one_ (i := 5) (N := none) #[true, true, true, true, true, true] rfl rfl (by kernel_rfl) (by decide) (fun K hK => ?_)
   have hs52 := zc0 BK880
   have hfs52 := blk_frozen BK880.out 0
   refine zt5 NB863_880 NB864_880 NB865_880 NB866_880 NB879_880 fun _ _ _ _ _ _ _ _ _ _ => ?_
   have hs53 := zc1 BK880
   have hfs53 := blk_frozen BK880.out 1
   refine zt5 NB863_880 NB864_880 NB865_880 NB866_880 NB879_880 fun _ _ _ _ _ _ _ _ _ _ => ?_
   have hs54 := zc2 BK880
   have hfs54 := blk_frozen BK880.out 2
   refine zt5 NB863_880 NB864_880 NB865_880 NB866_880 NB879_880 fun _ _ _ _ _ _ _ _ _ _ => ?_
   refine skip_ (w1 := ?_) (by rfl) rfl ?_ ?_
   rotate_left
   ·go_simp
    rfl
   refine hK.out _ _ ⟨(zff NB863_880 (zff NB863_880 (zff NB863_880 hHeld.1))), (zff NB863_880 (zff NB863_880 (zff NB863_880 hHeld.2.1))), (zff NB863_880 (zff NB863_880 (zff NB863_880 hHeld.2.2.1))), (zff NB864_880 (zff NB864_880 (zff NB864_880 hHeld.2.2.2.1))), (zff NB864_880 (zff NB864_880 (zff NB864_880 hHeld.2.2.2.2.1))), (zff NB864_880 (zff NB864_880 (zff NB864_880 hHeld.2.2.2.2.2)))⟩ (fun hHeld => ?_)
   clear hK K
   refine done_ (by kernel_rfl) ?_
   go_upto_region 5 with (fail)
   go_cut [10] (fun v10 wc => ∃ (kq : Nat) (x10_43 : Bool), v10 = .bool x10_43 ∧ Aside0 (span_Test.j1 kq a0 x10_43 t867 t868 t869 t870 t871 t872 t867 t868 t869 t870 t871 t872 = some (r1, r2, r3, r4, r5, r6)) ∧ Aside0 (kq ≤ kj5) ∧ Aside0 (wc.heap[gb863]? = some (.cells #[.bool t867, .int .u64 t868, .int .u64 t869] 43 (0, 0))) ∧ Aside0 (wc.heap[gb864]? = some (.cells #[.bool t870, .int .u64 t871, .int .u64 t872] 43 (0, 0))) ∧ Aside0 (wc.heap[gb865]? = some (.cells #[.bool false, .int .u64 0, .int .u64 0] 43 (0, 0))) ∧ Aside0 (wc.heap[gb866]? = some (.cells #[.bool false, .int .u64 0, .int .u64 0] 43 (0, 0))) ∧ Aside0 (wc.heap[gb879]? = some (.cells #[.bool t867, .int .u64 t868, .int .u64 t869] 43 (0, 0))) ∧ Aside0 (wc.heap[gb880]? = some (.cells #[.bool t870, .int .u64 t871, .int .u64 t872] 43 (0, 0))) ∧ Aside0 (Below w.heap.size w wc))
   case first =>
    have H := HC44.out
    clear HC44
    by_cases c55 : a0 = 9
    ·rw [if_pos c55] at H
     have c55b0 : (a0 == 9) = true := beq_iff_eq.mpr c55
     have c55b1 : (a0 != 9) = false := bne_eq_false_iff_eq.mpr c55
     clear c55
     (first | rw [c55b0] | (simp only [i64_w, i32_w]; rw [c55b0]) | skip)
     have H' := Aside0.mk H
     clear H
     go_wp2
     go_meet
     case rel => exact ⟨_, (true), zrl, H', ⟨by have := HJ5.out; first | omega | exact Nat.le_refl _⟩, ⟨(zkf (zkf (zkf (zkf (zkf (zkf (zkq BK863) NB863_879.out _) NB863_879.out _) NB863_879.out _) NB863_880.out _) NB863_880.out _) NB863_880.out _)⟩, ⟨(zkf (zkf (zkf (zkf (zkf (zkf (zkq BK864) NB864_879.out _) NB864_879.out _) NB864_879.out _) NB864_880.out _) NB864_880.out _) NB864_880.out _)⟩, ⟨(zkf (zkf (zkf (zkf (zkf (zkf (zkq BK865) NB865_879.out _) NB865_879.out _) NB865_879.out _) NB865_880.out _) NB865_880.out _) NB865_880.out _)⟩, ⟨(zkf (zkf (zkf (zkf (zkf (zkf (zkq BK866) NB866_879.out _) NB866_879.out _) NB866_879.out _) NB866_880.out _) NB866_880.out _) NB866_880.out _)⟩, ⟨(zkf (zkf (zkf (blk_put (cs := #[.bool t867, .int .u64 t868, .int .u64 0]) (blk_put (cs := #[.bool t867, .int .u64 0, .int .u64 0]) (blk_put (zkq BK879) 0 _ rfl) 1 _ rfl) 2 _ rfl) NB879_880.out _) NB879_880.out _) NB879_880.out _)⟩, ⟨(blk_put (cs := #[.bool t870, .int .u64 t871, .int .u64 0]) (blk_put (cs := #[.bool t870, .int .u64 0, .int .u64 0]) (blk_put (zkf (zkf (zkf (zkq BK880) NB880_879.out _) NB880_879.out _) NB880_879.out _) 0 _ rfl) 1 _ rfl) 2 _ rfl)⟩, ⟨zaB⟩⟩
    rw [if_neg c55] at H
    have c55b0 : (a0 == 9) = false := beq_eq_false_iff_ne.mpr c55
    have c55b1 : (a0 != 9) = true := bne_iff_ne.mpr c55
    (first | rw [c55b0] | (simp only [i64_w, i32_w]; rw [c55b0]) | skip)
    have H' := Aside0.mk H
    clear H
    go_wp2
    go_meet
    case rel => exact ⟨_, ((a0 == 13)), zrl, H', ⟨by have := HJ5.out; first | omega | exact Nat.le_refl _⟩, ⟨(zkf (zkf (zkf (zkf (zkf (zkf (zkq BK863) NB863_879.out _) NB863_879.out _) NB863_879.out _) NB863_880.out _) NB863_880.out _) NB863_880.out _)⟩, ⟨(zkf (zkf (zkf (zkf (zkf (zkf (zkq BK864) NB864_879.out _) NB864_879.out _) NB864_879.out _) NB864_880.out _) NB864_880.out _) NB864_880.out _)⟩, ⟨(zkf (zkf (zkf (zkf (zkf (zkf (zkq BK865) NB865_879.out _) NB865_879.out _) NB865_879.out _) NB865_880.out _) NB865_880.out _) NB865_880.out _)⟩, ⟨(zkf (zkf (zkf (zkf (zkf (zkf (zkq BK866) NB866_879.out _) NB866_879.out _) NB866_879.out _) NB866_880.out _) NB866_880.out _) NB866_880.out _)⟩, ⟨(zkf (zkf (zkf (blk_put (cs := #[.bool t867, .int .u64 t868, .int .u64 0]) (blk_put (cs := #[.bool t867, .int .u64 0, .int .u64 0]) (blk_put (zkq BK879) 0 _ rfl) 1 _ rfl) 2 _ rfl) NB879_880.out _) NB879_880.out _) NB879_880.out _)⟩, ⟨(blk_put (cs := #[.bool t870, .int .u64 t871, .int .u64 0]) (blk_put (cs := #[.bool t870, .int .u64 0, .int .u64 0]) (blk_put (zkf (zkf (zkf (zkq BK880) NB880_879.out _) NB880_879.out _) NB880_879.out _) 0 _ rfl) 1 _ rfl) 2 _ rfl)⟩, ⟨zaB⟩⟩
   case rest =>
    clear HC44
    try clear c55b0
    try clear c55b1
    try clear z24_0 z24_1 z24_2 f24_0 f24_1 f24_2
    try clear z28_0 z28_1 z28_2 f28_0 f28_1 f28_2
    try clear z31_0 z31_1 z31_2 f31_0 f31_1 f31_2
    try clear z40_0 z40_1 z40_2 f40_0 f40_1 f40_2
    try clear z43_0 z43_1 z43_2 f43_0 f43_1 f43_2
    obtain ⟨kq, x10_43, rfl, HA, HJ43, BK863, BK864, BK865, BK866, BK879, BK880, HB⟩ := hcut
    cases kq with
    | zero => exact absurd HA.out (by simp [span_Test.j1])
    | succ kj43 =>
     have H := HA.out
     clear HA
     simp only [span_Test.j1] at H
     have HC56 := Aside0.mk H
     clear H
     go_upto_block 0 with (fail)
     go_cut [] (fun wc => ∃ (kq : Nat) (x880000_55 : Bool) (x880001_55 : Int) (x880002_55 : Int) (x881000_55 : Bool) (x881001_55 : Int) (x881002_55 : Int), Aside0 (span_Test.j4 kq x880000_55 x880001_55 x880002_55 x881000_55 x881001_55 x881002_55 = some (r1, r2, r3, r4, r5, r6)) ∧ Aside0 (kq ≤ kj43) ∧ Aside0 (wc.heap[gb863]? = some (.cells #[.bool t867, .int .u64 t868, .int .u64 t869] 43 (0, 0))) ∧ Aside0 (wc.heap[gb864]? = some (.cells #[.bool t870, .int .u64 t871, .int .u64 t872] 43 (0, 0))) ∧ Aside0 (wc.heap[gb865]? = some (.cells #[.bool false, .int .u64 0, .int .u64 0] 43 (0, 0))) ∧ Aside0 (wc.heap[gb866]? = some (.cells #[.bool false, .int .u64 0, .int .u64 0] 43 (0, 0))) ∧ Aside0 (wc.heap[gb879]? = some (.cells #[.bool x880000_55, .int .u64 x880001_55, .int .u64 x880002_55] 43 (0, 0))) ∧ Aside0 (wc.heap[gb880]? = some (.cells #[.bool x881000_55, .int .u64 x881001_55, .int .u64 x881002_55] 43 (0, 0))) ∧ Aside0 (Below w.heap.size w wc))
     case first =>
      have H := HC56.out
      clear HC56
      have HC57 := Aside0.mk H
      clear H
      go_upto_if 32 with (fail)
      go_cut [32] (fun v32 wc => ∃ (kq : Nat) (x32_56 : Bool), v32 = .bool x32_56 ∧ Aside0 (span_Test.j2 kq x10_43 a0 x32_56 t867 t868 t869 t870 t871 t872 t867 t868 t869 t870 t871 t872 = some (r1, r2, r3, r4, r5, r6)) ∧ Aside0 (kq ≤ kj43) ∧ Aside0 (wc.heap[gb863]? = some (.cells #[.bool t867, .int .u64 t868, .int .u64 t869] 43 (0, 0))) ∧ Aside0 (wc.heap[gb864]? = some (.cells #[.bool t870, .int .u64 t871, .int .u64 t872] 43 (0, 0))) ∧ Aside0 (wc.heap[gb865]? = some (.cells #[.bool false, .int .u64 0, .int .u64 0] 43 (0, 0))) ∧ Aside0 (wc.heap[gb866]? = some (.cells #[.bool false, .int .u64 0, .int .u64 0] 43 (0, 0))) ∧ Aside0 (wc.heap[gb879]? = some (.cells #[.bool t867, .int .u64 t868, .int .u64 t869] 43 (0, 0))) ∧ Aside0 (wc.heap[gb880]? = some (.cells #[.bool t870, .int .u64 t871, .int .u64 t872] 43 (0, 0))) ∧ Aside0 (Below w.heap.size w wc))
      case first =>
       have H := HC57.out
       clear HC57
       by_cases c58 : a0 = 9
       ·rw [if_pos c58] at H
        have c58b0 : (a0 == 9) = true := beq_iff_eq.mpr c58
        have c58b1 : (a0 != 9) = false := bne_eq_false_iff_eq.mpr c58
        clear c58
        (first | rw [c58b0] | (simp only [i64_w, i32_w]; rw [c58b0]) | skip)
        have H' := Aside0.mk H
        clear H
        go_wp2
        go_meet
        case rel => exact ⟨_, ((a0 == 9)), zrl, H', ⟨by have := HJ5.out; have := HJ43.out; first | omega | exact Nat.le_refl _⟩, ⟨zkq BK863⟩, ⟨zkq BK864⟩, ⟨zkq BK865⟩, ⟨zkq BK866⟩, ⟨zkq BK879⟩, ⟨zkq BK880⟩, ⟨zaB⟩⟩
       rw [if_neg c58] at H
       have c58b0 : (a0 == 9) = false := beq_eq_false_iff_ne.mpr c58
       have c58b1 : (a0 != 9) = true := bne_iff_ne.mpr c58
       (first | rw [c58b0] | (simp only [i64_w, i32_w]; rw [c58b0]) | skip)
       have H' := Aside0.mk H
       clear H
       go_wp2
       go_meet
       case rel => exact ⟨_, ((a0 == 10)), zrl, H', ⟨by have := HJ5.out; have := HJ43.out; first | omega | exact Nat.le_refl _⟩, ⟨zkq BK863⟩, ⟨zkq BK864⟩, ⟨zkq BK865⟩, ⟨zkq BK866⟩, ⟨zkq BK879⟩, ⟨zkq BK880⟩, ⟨zaB⟩⟩
      case rest =>
       clear HC57
       try clear c55b0
       try clear c55b1
       try clear c58b0
       try clear c58b1
       try clear z24_0 z24_1 z24_2 f24_0 f24_1 f24_2
       try clear z28_0 z28_1 z28_2 f28_0 f28_1 f28_2
       try clear z31_0 z31_1 z31_2 f31_0 f31_1 f31_2
       try clear z40_0 z40_1 z40_2 f40_0 f40_1 f40_2
       try clear z43_0 z43_1 z43_2 f43_0 f43_1 f43_2
       obtain ⟨kq, x32_56, rfl, HA, HJ56, BK863, BK864, BK865, BK866, BK879, BK880, HB⟩ := hcut
       cases kq with
       | zero => exact absurd HA.out (by simp [span_Test.j2])
       | succ kj56 =>
        have H := HA.out
        clear HA
        simp only [span_Test.j2] at H
        by_cases c59 : x32_56 = true
        ·subst c59
         replace H := zit H
         obtain ⟨⟨t881, t882, t883⟩, A60, H⟩ := zbs H
         try dsimp only at H
         obtain ⟨⟨t884, t885, t886⟩, A61, H⟩ := zbs H
         try dsimp only at H
         have H' := Aside0.mk H
         clear H
         try go_wp2
         replace BK863 := Aside0.mk (blk_drew BK863.out)
         replace BK864 := Aside0.mk (blk_drew BK864.out)
         replace BK865 := Aside0.mk (blk_drew BK865.out)
         replace BK866 := Aside0.mk (blk_drew BK866.out)
         replace BK879 := Aside0.mk (blk_drew BK879.out)
         replace BK880 := Aside0.mk (blk_drew BK880.out)
         replace HB := Aside0.mk (below_drew1 HB.out)
         refine start_ (n := 12) (S := fun w' => w'.cell? ⟨gb863, 0, none⟩ = some (.bool t867) ∧ w'.cell? ⟨gb863, 1, none⟩ = some (.int .u64 t868) ∧ w'.cell? ⟨gb863, 2, none⟩ = some (.int .u64 t869) ∧ w'.cell? ⟨gb864, 0, none⟩ = some (.bool t870) ∧ w'.cell? ⟨gb864, 1, none⟩ = some (.int .u64 t871) ∧ w'.cell? ⟨gb864, 2, none⟩ = some (.int .u64 t872)) (ds := []) #[false, false, false, false, false, false, false, false, false, false, false, false] (by kernel_rfl) rfl rfl (zk3 BK863 (ze3 BK864)) (fun hHeld => ?_); refine with_tabW span_Test.tab9 span_Test.bits9 (fun HT_ HW_ => ?_)
         generalize wc.drew = w62 at BK863 BK864 BK865 BK866 BK879 BK880 HB hHeld ⊢
         refine zpA 1 36 (h := ?_)
         refine zpA 3 38 (h := ?_)
         refine zpA 6 41 (h := ?_)
         refine zpA 8 43 (h := ?_)
         refine ztA 0 35 (h := ?_)
         refine ztA 2 37 (h := ?_)
         refine ztA 5 40 (h := ?_)
         refine ztA 7 42 (h := ?_)
         refine zoA 4 39 (h := fun K hK => ?_)
         refine zgA Try.func122 (span_side.calls kj56 t867 t868 t869 t872 false x10_43 t881 t882 t883 _ A60.out) (h := ?_)
         rintro w63 hb
         refine zcn6 HB BK863 BK864 BK865 BK866 BK879 BK880 hb (c := ?_)
         clear HB BK863 BK864 BK865 BK866 BK879 BK880 hb
         intro BK863 BK864 BK865 BK866 BK879 BK880 HB
         refine hK.out _ _ (zk3 BK863 (ze3 BK864)) (fun hHeld => ?_)
         clear hK K
         refine znA 39 (h := ?_)
         refine zoA 9 44 (h := fun K hK => ?_)
         refine zgA Try.func122 (span_side.calls kj56 t870 t871 t872 t868 true x10_43 t884 t885 t886 _ A61.out) (h := ?_)
         rintro w64 hb
         refine zcn6 HB BK863 BK864 BK865 BK866 BK879 BK880 hb (c := ?_)
         clear HB BK863 BK864 BK865 BK866 BK879 BK880 hb
         intro BK863 BK864 BK865 BK866 BK879 BK880 HB
         refine hK.out _ _ (zk3 BK863 (ze3 BK864)) (fun hHeld => ?_)
         clear hK K
         refine znA 44 (h := ?_)
         refine one_ (i := 10) (N := none) #[true, true, true, true, true, true, true, true, true, true, true, false] rfl rfl (one_of HT_.out (by kernel_rfl)) (by decide) (fun K hK => ?_)
         have hs65 := zc0 BK879
         have hfs65 := blk_frozen BK879.out 0
         refine zt5 NB863_879 NB864_879 NB865_879 NB866_879 NB880_879 fun _ _ _ _ _ _ _ _ _ _ => ?_
         have hs66 := zc1 BK879
         have hfs66 := blk_frozen BK879.out 1
         refine zt5 NB863_879 NB864_879 NB865_879 NB866_879 NB880_879 fun _ _ _ _ _ _ _ _ _ _ => ?_
         have hs67 := zc2 BK879
         have hfs67 := blk_frozen BK879.out 2
         refine zt5 NB863_879 NB864_879 NB865_879 NB866_879 NB880_879 fun _ _ _ _ _ _ _ _ _ _ => ?_
         refine skip_ (w1 := ?_) (by rfl) rfl ?_ ?_
         rotate_left
         ·go_simp
          rfl
         refine hK.out _ _ ⟨(zff NB863_879 (zff NB863_879 (zff NB863_879 hHeld.1))), (zff NB863_879 (zff NB863_879 (zff NB863_879 hHeld.2.1))), (zff NB863_879 (zff NB863_879 (zff NB863_879 hHeld.2.2.1))), (zff NB864_879 (zff NB864_879 (zff NB864_879 hHeld.2.2.2.1))), (zff NB864_879 (zff NB864_879 (zff NB864_879 hHeld.2.2.2.2.1))), (zff NB864_879 (zff NB864_879 (zff NB864_879 hHeld.2.2.2.2.2)))⟩ (fun hHeld => ?_)
         clear hK K
         refine one_ (i := 11) (N := none) #[true, true, true, true, true, true, true, true, true, true, true, true] rfl rfl (one_of HT_.out (by kernel_rfl)) (by decide) (fun K hK => ?_)
         have hs68 := zc0 BK880
         have hfs68 := blk_frozen BK880.out 0
         refine zt5 NB863_880 NB864_880 NB865_880 NB866_880 NB879_880 fun _ _ _ _ _ _ _ _ _ _ => ?_
         have hs69 := zc1 BK880
         have hfs69 := blk_frozen BK880.out 1
         refine zt5 NB863_880 NB864_880 NB865_880 NB866_880 NB879_880 fun _ _ _ _ _ _ _ _ _ _ => ?_
         have hs70 := zc2 BK880
         have hfs70 := blk_frozen BK880.out 2
         refine zt5 NB863_880 NB864_880 NB865_880 NB866_880 NB879_880 fun _ _ _ _ _ _ _ _ _ _ => ?_
         refine skip_ (w1 := ?_) (by rfl) rfl ?_ ?_
         rotate_left
         ·go_simp
          rfl
         refine hK.out _ _ ⟨(zff NB863_880 (zff NB863_880 (zff NB863_880 hHeld.1))), (zff NB863_880 (zff NB863_880 (zff NB863_880 hHeld.2.1))), (zff NB863_880 (zff NB863_880 (zff NB863_880 hHeld.2.2.1))), (zff NB864_880 (zff NB864_880 (zff NB864_880 hHeld.2.2.2.1))), (zff NB864_880 (zff NB864_880 (zff NB864_880 hHeld.2.2.2.2.1))), (zff NB864_880 (zff NB864_880 (zff NB864_880 hHeld.2.2.2.2.2)))⟩ (fun hHeld => ?_)
         clear hK K
         refine done_ (done_of HT_.out (by kernel_rfl)) ?_
         try go_wp2
         go_meet
         case rel => exact ⟨_, (t881), (t882), (t883), (t884), (t885), (t886), H', ⟨by have := HJ5.out; have := HJ43.out; have := HJ56.out; first | omega | exact Nat.le_refl _⟩, ⟨(zkf (zkf (zkf (zkf (zkf (zkf (zkq BK863) NB863_879.out _) NB863_879.out _) NB863_879.out _) NB863_880.out _) NB863_880.out _) NB863_880.out _)⟩, ⟨(zkf (zkf (zkf (zkf (zkf (zkf (zkq BK864) NB864_879.out _) NB864_879.out _) NB864_879.out _) NB864_880.out _) NB864_880.out _) NB864_880.out _)⟩, ⟨(zkf (zkf (zkf (zkf (zkf (zkf (zkq BK865) NB865_879.out _) NB865_879.out _) NB865_879.out _) NB865_880.out _) NB865_880.out _) NB865_880.out _)⟩, ⟨(zkf (zkf (zkf (zkf (zkf (zkf (zkq BK866) NB866_879.out _) NB866_879.out _) NB866_879.out _) NB866_880.out _) NB866_880.out _) NB866_880.out _)⟩, ⟨(zkf (zkf (zkf (blk_put (cs := #[.bool t881, .int .u64 t882, .int .u64 t869]) (blk_put (cs := #[.bool t881, .int .u64 t868, .int .u64 t869]) (blk_put (zkq BK879) 0 _ rfl) 1 _ rfl) 2 _ rfl) NB879_880.out _) NB879_880.out _) NB879_880.out _)⟩, ⟨(blk_put (cs := #[.bool t884, .int .u64 t885, .int .u64 t872]) (blk_put (cs := #[.bool t884, .int .u64 t871, .int .u64 t872]) (blk_put (zkf (zkf (zkf (zkq BK880) NB880_879.out _) NB880_879.out _) NB880_879.out _) 0 _ rfl) 1 _ rfl) 2 _ rfl)⟩, ⟨zaB⟩⟩
        replace c59 := Bool.eq_false_iff.mpr c59
        subst c59
        replace H := zif H
        have HC71 := Aside0.mk H
        clear H
        go_upto_if 45 with (fail)
        go_cut [45] (fun v45 wc => ∃ (kq : Nat) (x45_70 : Bool), v45 = .bool x45_70 ∧ Aside0 (span_Test.j3 kq x10_43 a0 x45_70 t867 t868 t869 t870 t871 t872 t867 t868 t869 t870 t871 t872 = some (r1, r2, r3, r4, r5, r6)) ∧ Aside0 (kq ≤ kj56) ∧ Aside0 (wc.heap[gb863]? = some (.cells #[.bool t867, .int .u64 t868, .int .u64 t869] 43 (0, 0))) ∧ Aside0 (wc.heap[gb864]? = some (.cells #[.bool t870, .int .u64 t871, .int .u64 t872] 43 (0, 0))) ∧ Aside0 (wc.heap[gb865]? = some (.cells #[.bool false, .int .u64 0, .int .u64 0] 43 (0, 0))) ∧ Aside0 (wc.heap[gb866]? = some (.cells #[.bool false, .int .u64 0, .int .u64 0] 43 (0, 0))) ∧ Aside0 (wc.heap[gb879]? = some (.cells #[.bool t867, .int .u64 t868, .int .u64 t869] 43 (0, 0))) ∧ Aside0 (wc.heap[gb880]? = some (.cells #[.bool t870, .int .u64 t871, .int .u64 t872] 43 (0, 0))) ∧ Aside0 (Below w.heap.size w wc))
        case first =>
         have H := HC71.out
         clear HC71
         by_cases c72 : a0 = 13
         ·rw [if_pos c72] at H
          have c72b0 : (a0 == 13) = true := beq_iff_eq.mpr c72
          have c72b1 : (a0 != 13) = false := bne_eq_false_iff_eq.mpr c72
          clear c72
          (first | rw [c72b0] | (simp only [i64_w, i32_w]; rw [c72b0]) | skip)
          have H' := Aside0.mk H
          clear H
          go_wp2
          go_meet
          case rel => exact ⟨_, ((a0 == 13)), zrl, H', ⟨by have := HJ5.out; have := HJ43.out; have := HJ56.out; first | omega | exact Nat.le_refl _⟩, ⟨zkq BK863⟩, ⟨zkq BK864⟩, ⟨zkq BK865⟩, ⟨zkq BK866⟩, ⟨zkq BK879⟩, ⟨zkq BK880⟩, ⟨zaB⟩⟩
         rw [if_neg c72] at H
         have c72b0 : (a0 == 13) = false := beq_eq_false_iff_ne.mpr c72
         have c72b1 : (a0 != 13) = true := bne_iff_ne.mpr c72
         (first | rw [c72b0] | (simp only [i64_w, i32_w]; rw [c72b0]) | skip)
         have H' := Aside0.mk H
         clear H
         go_wp2
         go_meet
         case rel => exact ⟨_, ((a0 == 14)), zrl, H', ⟨by have := HJ5.out; have := HJ43.out; have := HJ56.out; first | omega | exact Nat.le_refl _⟩, ⟨zkq BK863⟩, ⟨zkq BK864⟩, ⟨zkq BK865⟩, ⟨zkq BK866⟩, ⟨zkq BK879⟩, ⟨zkq BK880⟩, ⟨zaB⟩⟩
        case rest =>
         clear HC71
         try clear c55b0
         try clear c55b1
         try clear c58b0
         try clear c58b1
         try clear c72b0
         try clear c72b1
         try clear z24_0 z24_1 z24_2 f24_0 f24_1 f24_2
         try clear z28_0 z28_1 z28_2 f28_0 f28_1 f28_2
         try clear z31_0 z31_1 z31_2 f31_0 f31_1 f31_2
         try clear z40_0 z40_1 z40_2 f40_0 f40_1 f40_2
         try clear z43_0 z43_1 z43_2 f43_0 f43_1 f43_2
         obtain ⟨kq, x45_70, rfl, HA, HJ70, BK863, BK864, BK865, BK866, BK879, BK880, HB⟩ := hcut
         cases kq with
         | zero => exact absurd HA.out (by simp [span_Test.j3])
         | succ kj70 =>
          have H := HA.out
          clear HA
          simp only [span_Test.j3] at H
          by_cases c73 : x45_70 = true
          ·subst c73
           replace H := zit H
           obtain ⟨⟨t887, t888, t889⟩, A74, H⟩ := zbs H
           try dsimp only at H
           obtain ⟨⟨t890, t891, t892⟩, A75, H⟩ := zbs H
           try dsimp only at H
           have H' := Aside0.mk H
           clear H
           try go_wp2
           replace BK863 := Aside0.mk (blk_drew BK863.out)
           replace BK864 := Aside0.mk (blk_drew BK864.out)
           replace BK865 := Aside0.mk (blk_drew BK865.out)
           replace BK866 := Aside0.mk (blk_drew BK866.out)
           replace BK879 := Aside0.mk (blk_drew BK879.out)
           replace BK880 := Aside0.mk (blk_drew BK880.out)
           replace HB := Aside0.mk (below_drew1 HB.out)
           refine start_ (n := 12) (S := fun w' => w'.cell? ⟨gb863, 0, none⟩ = some (.bool t867) ∧ w'.cell? ⟨gb863, 1, none⟩ = some (.int .u64 t868) ∧ w'.cell? ⟨gb863, 2, none⟩ = some (.int .u64 t869) ∧ w'.cell? ⟨gb864, 0, none⟩ = some (.bool t870) ∧ w'.cell? ⟨gb864, 1, none⟩ = some (.int .u64 t871) ∧ w'.cell? ⟨gb864, 2, none⟩ = some (.int .u64 t872)) (ds := []) #[false, false, false, false, false, false, false, false, false, false, false, false] (by kernel_rfl) rfl rfl (zk3 BK863 (ze3 BK864)) (fun hHeld => ?_); refine with_tabW span_Test.tab12 span_Test.bits12 (fun HT_ HW_ => ?_)
           generalize wc.drew = w76 at BK863 BK864 BK865 BK866 BK879 BK880 HB hHeld ⊢
           refine zpA 1 49 (h := ?_)
           refine zpA 3 51 (h := ?_)
           refine zpA 6 54 (h := ?_)
           refine zpA 8 56 (h := ?_)
           refine ztA 0 48 (h := ?_)
           refine ztA 2 50 (h := ?_)
           refine ztA 5 53 (h := ?_)
           refine ztA 7 55 (h := ?_)
           refine zoA 4 52 (h := fun K hK => ?_)
           refine zgA Try.func122 (span_side.calls kj70 t867 t868 t869 t871 true x10_43 t887 t888 t889 _ A74.out) (h := ?_)
           rintro w77 hb
           refine zcn6 HB BK863 BK864 BK865 BK866 BK879 BK880 hb (c := ?_)
           clear HB BK863 BK864 BK865 BK866 BK879 BK880 hb
           intro BK863 BK864 BK865 BK866 BK879 BK880 HB
           refine hK.out _ _ (zk3 BK863 (ze3 BK864)) (fun hHeld => ?_)
           clear hK K
           refine znA 52 (h := ?_)
           refine zoA 9 57 (h := fun K hK => ?_)
           refine zgA Try.func122 (span_side.calls kj70 t870 t871 t872 t869 false x10_43 t890 t891 t892 _ A75.out) (h := ?_)
           rintro w78 hb
           refine zcn6 HB BK863 BK864 BK865 BK866 BK879 BK880 hb (c := ?_)
           clear HB BK863 BK864 BK865 BK866 BK879 BK880 hb
           intro BK863 BK864 BK865 BK866 BK879 BK880 HB
           refine hK.out _ _ (zk3 BK863 (ze3 BK864)) (fun hHeld => ?_)
           clear hK K
           refine znA 57 (h := ?_)
           refine one_ (i := 10) (N := none) #[true, true, true, true, true, true, true, true, true, true, true, false] rfl rfl (one_of HT_.out (by kernel_rfl)) (by decide) (fun K hK => ?_)
           have hs79 := zc0 BK879
           have hfs79 := blk_frozen BK879.out 0
           refine zt5 NB863_879 NB864_879 NB865_879 NB866_879 NB880_879 fun _ _ _ _ _ _ _ _ _ _ => ?_
           have hs80 := zc1 BK879
           have hfs80 := blk_frozen BK879.out 1
           refine zt5 NB863_879 NB864_879 NB865_879 NB866_879 NB880_879 fun _ _ _ _ _ _ _ _ _ _ => ?_
           have hs81 := zc2 BK879
           have hfs81 := blk_frozen BK879.out 2
           refine zt5 NB863_879 NB864_879 NB865_879 NB866_879 NB880_879 fun _ _ _ _ _ _ _ _ _ _ => ?_
           refine skip_ (w1 := ?_) (by rfl) rfl ?_ ?_
           rotate_left
           ·go_simp
            rfl
           refine hK.out _ _ ⟨(zff NB863_879 (zff NB863_879 (zff NB863_879 hHeld.1))), (zff NB863_879 (zff NB863_879 (zff NB863_879 hHeld.2.1))), (zff NB863_879 (zff NB863_879 (zff NB863_879 hHeld.2.2.1))), (zff NB864_879 (zff NB864_879 (zff NB864_879 hHeld.2.2.2.1))), (zff NB864_879 (zff NB864_879 (zff NB864_879 hHeld.2.2.2.2.1))), (zff NB864_879 (zff NB864_879 (zff NB864_879 hHeld.2.2.2.2.2)))⟩ (fun hHeld => ?_)
           clear hK K
           refine one_ (i := 11) (N := none) #[true, true, true, true, true, true, true, true, true, true, true, true] rfl rfl (one_of HT_.out (by kernel_rfl)) (by decide) (fun K hK => ?_)
           have hs82 := zc0 BK880
           have hfs82 := blk_frozen BK880.out 0
           refine zt5 NB863_880 NB864_880 NB865_880 NB866_880 NB879_880 fun _ _ _ _ _ _ _ _ _ _ => ?_
           have hs83 := zc1 BK880
           have hfs83 := blk_frozen BK880.out 1
           refine zt5 NB863_880 NB864_880 NB865_880 NB866_880 NB879_880 fun _ _ _ _ _ _ _ _ _ _ => ?_
           have hs84 := zc2 BK880
           have hfs84 := blk_frozen BK880.out 2
           refine zt5 NB863_880 NB864_880 NB865_880 NB866_880 NB879_880 fun _ _ _ _ _ _ _ _ _ _ => ?_
           refine skip_ (w1 := ?_) (by rfl) rfl ?_ ?_
           rotate_left
           ·go_simp
            rfl
           refine hK.out _ _ ⟨(zff NB863_880 (zff NB863_880 (zff NB863_880 hHeld.1))), (zff NB863_880 (zff NB863_880 (zff NB863_880 hHeld.2.1))), (zff NB863_880 (zff NB863_880 (zff NB863_880 hHeld.2.2.1))), (zff NB864_880 (zff NB864_880 (zff NB864_880 hHeld.2.2.2.1))), (zff NB864_880 (zff NB864_880 (zff NB864_880 hHeld.2.2.2.2.1))), (zff NB864_880 (zff NB864_880 (zff NB864_880 hHeld.2.2.2.2.2)))⟩ (fun hHeld => ?_)
           clear hK K
           refine done_ (done_of HT_.out (by kernel_rfl)) ?_
           try go_wp2
           go_meet
           case rel => exact ⟨_, (t887), (t888), (t889), (t890), (t891), (t892), H', ⟨by have := HJ5.out; have := HJ43.out; have := HJ56.out; have := HJ70.out; first | omega | exact Nat.le_refl _⟩, ⟨(zkf (zkf (zkf (zkf (zkf (zkf (zkq BK863) NB863_879.out _) NB863_879.out _) NB863_879.out _) NB863_880.out _) NB863_880.out _) NB863_880.out _)⟩, ⟨(zkf (zkf (zkf (zkf (zkf (zkf (zkq BK864) NB864_879.out _) NB864_879.out _) NB864_879.out _) NB864_880.out _) NB864_880.out _) NB864_880.out _)⟩, ⟨(zkf (zkf (zkf (zkf (zkf (zkf (zkq BK865) NB865_879.out _) NB865_879.out _) NB865_879.out _) NB865_880.out _) NB865_880.out _) NB865_880.out _)⟩, ⟨(zkf (zkf (zkf (zkf (zkf (zkf (zkq BK866) NB866_879.out _) NB866_879.out _) NB866_879.out _) NB866_880.out _) NB866_880.out _) NB866_880.out _)⟩, ⟨(zkf (zkf (zkf (blk_put (cs := #[.bool t887, .int .u64 t888, .int .u64 t869]) (blk_put (cs := #[.bool t887, .int .u64 t868, .int .u64 t869]) (blk_put (zkq BK879) 0 _ rfl) 1 _ rfl) 2 _ rfl) NB879_880.out _) NB879_880.out _) NB879_880.out _)⟩, ⟨(blk_put (cs := #[.bool t890, .int .u64 t891, .int .u64 t872]) (blk_put (cs := #[.bool t890, .int .u64 t871, .int .u64 t872]) (blk_put (zkf (zkf (zkf (zkq BK880) NB880_879.out _) NB880_879.out _) NB880_879.out _) 0 _ rfl) 1 _ rfl) 2 _ rfl)⟩, ⟨zaB⟩⟩
          replace c73 := Bool.eq_false_iff.mpr c73
          subst c73
          replace H := zif H
          by_cases c85 : a0 = 11
          ·rw [if_pos c85] at H
           have c85b0 : (a0 == 11) = true := beq_iff_eq.mpr c85
           have c85b1 : (a0 != 11) = false := bne_eq_false_iff_eq.mpr c85
           clear c85
           obtain ⟨⟨t893, t894, t895⟩, A86, H⟩ := zbs H
           try dsimp only at H
           have H' := Aside0.mk H
           clear H
           refine zt5 NB863_864 NB863_865 NB863_866 NB863_879 NB863_880 fun _ _ _ _ _ _ _ _ _ _ => ?_
           refine zu3 BK863 fun z92_0 z92_1 z92_2 f92_0 f92_1 f92_2 => ?_
           refine zt4 NB864_865 NB864_866 NB864_879 NB864_880 fun _ _ _ _ _ _ _ _ => ?_
           refine zu3 BK864 fun z97_0 z97_1 z97_2 f97_0 f97_1 f97_2 => ?_
           go_wp2_with (first | ((with_reducible refine gtc 47 rfl ?_); refine zgL 62 Try.func47 (span_Meet.calls kj70 t867 t868 t869 t870 t871 t872 t893 t894 t895 _ A86.out) (h := ?_); rintro w98 hb; refine zcn6 HB BK863 BK864 BK865 BK866 BK879 BK880 hb (c := ?_); clear HB BK863 BK864 BK865 BK866 BK879 BK880 hb; intro BK863 BK864 BK865 BK866 BK879 BK880 HB; refine zt3 NB865_879 NB866_879 NB879_880 fun _ _ _ _ _ _ => ?_; refine zu3 BK879 fun z102_0 z102_1 z102_2 f102_0 f102_1 f102_2 => ?_; refine zt2 NB865_880 NB866_880 fun _ _ _ _ => ?_; refine zu3 BK880 fun z105_0 z105_1 z105_2 f105_0 f105_1 f105_2 => ?_))
           go_meet
           case rel => exact ⟨_, (t893), (t894), (t895), (t893), (t894), (t895), H', ⟨by have := HJ5.out; have := HJ43.out; have := HJ56.out; have := HJ70.out; first | omega | exact Nat.le_refl _⟩, ⟨(zkf (zkf (zkf (zkf (zkf (zkf (zkq BK863) NB863_879.out _) NB863_879.out _) NB863_879.out _) NB863_880.out _) NB863_880.out _) NB863_880.out _)⟩, ⟨(zkf (zkf (zkf (zkf (zkf (zkf (zkq BK864) NB864_879.out _) NB864_879.out _) NB864_879.out _) NB864_880.out _) NB864_880.out _) NB864_880.out _)⟩, ⟨(zkf (zkf (zkf (zkf (zkf (zkf (zkq BK865) NB865_879.out _) NB865_879.out _) NB865_879.out _) NB865_880.out _) NB865_880.out _) NB865_880.out _)⟩, ⟨(zkf (zkf (zkf (zkf (zkf (zkf (zkq BK866) NB866_879.out _) NB866_879.out _) NB866_879.out _) NB866_880.out _) NB866_880.out _) NB866_880.out _)⟩, ⟨(zkf (zkf (zkf (blk_put (cs := #[.bool t893, .int .u64 t894, .int .u64 t869]) (blk_put (cs := #[.bool t893, .int .u64 t868, .int .u64 t869]) (blk_put (zkq BK879) 0 _ rfl) 1 _ rfl) 2 _ rfl) NB879_880.out _) NB879_880.out _) NB879_880.out _)⟩, ⟨(blk_put (cs := #[.bool t893, .int .u64 t894, .int .u64 t872]) (blk_put (cs := #[.bool t893, .int .u64 t871, .int .u64 t872]) (blk_put (zkf (zkf (zkf (zkq BK880) NB880_879.out _) NB880_879.out _) NB880_879.out _) 0 _ rfl) 1 _ rfl) 2 _ rfl)⟩, ⟨zaB⟩⟩
          rw [if_neg c85] at H
          have c85b0 : (a0 == 11) = false := beq_eq_false_iff_ne.mpr c85
          have c85b1 : (a0 != 11) = true := bne_iff_ne.mpr c85
          by_cases c106 : a0 = 12
          ·rw [if_pos c106] at H
           have c106b0 : (a0 == 12) = true := beq_iff_eq.mpr c106
           have c106b1 : (a0 != 12) = false := bne_eq_false_iff_eq.mpr c106
           clear c106
           obtain ⟨⟨t896, t897, t898⟩, A107, H⟩ := zbs H
           try dsimp only at H
           obtain ⟨⟨t899, t900, t901⟩, A108, H⟩ := zbs H
           try dsimp only at H
           have H' := Aside0.mk H
           clear H
           try go_wp2
           replace BK863 := Aside0.mk (blk_drew BK863.out)
           replace BK864 := Aside0.mk (blk_drew BK864.out)
           replace BK865 := Aside0.mk (blk_drew BK865.out)
           replace BK866 := Aside0.mk (blk_drew BK866.out)
           replace BK879 := Aside0.mk (blk_drew BK879.out)
           replace BK880 := Aside0.mk (blk_drew BK880.out)
           replace HB := Aside0.mk (below_drew1 HB.out)
           refine start_ (n := 8) (S := fun w' => w'.cell? ⟨gb863, 0, none⟩ = some (.bool t867) ∧ w'.cell? ⟨gb863, 1, none⟩ = some (.int .u64 t868) ∧ w'.cell? ⟨gb863, 2, none⟩ = some (.int .u64 t869) ∧ w'.cell? ⟨gb864, 0, none⟩ = some (.bool t870) ∧ w'.cell? ⟨gb864, 1, none⟩ = some (.int .u64 t871) ∧ w'.cell? ⟨gb864, 2, none⟩ = some (.int .u64 t872)) (ds := []) #[false, false, false, false, false, false, false, false] (by kernel_rfl) rfl rfl (zk3 BK863 (ze3 BK864)) (fun hHeld => ?_); refine with_tabW span_Test.tab17 span_Test.bits17 (fun HT_ HW_ => ?_)
           generalize wc.drew = w109 at BK863 BK864 BK865 BK866 BK879 BK880 HB hHeld ⊢
           refine ztA 0 66 (h := ?_)
           refine ztA 1 67 (h := ?_)
           refine ztA 3 69 (h := ?_)
           refine ztA 4 70 (h := ?_)
           refine zoA 2 68 (h := fun K hK => ?_)
           refine zgA Try.func123 (span_without.calls kj70 t867 t868 t869 t870 t871 t872 t896 t897 t898 _ A107.out) (h := ?_)
           rintro w110 hb
           refine zcn6 HB BK863 BK864 BK865 BK866 BK879 BK880 hb (c := ?_)
           clear HB BK863 BK864 BK865 BK866 BK879 BK880 hb
           intro BK863 BK864 BK865 BK866 BK879 BK880 HB
           refine hK.out _ _ (zk3 BK863 (ze3 BK864)) (fun hHeld => ?_)
           clear hK K
           refine znA 68 (h := ?_)
           refine zoA 5 71 (h := fun K hK => ?_)
           refine zgA Try.func123 (span_without.calls kj70 t870 t871 t872 t867 t868 t869 t899 t900 t901 _ A108.out) (h := ?_)
           rintro w111 hb
           refine zcn6 HB BK863 BK864 BK865 BK866 BK879 BK880 hb (c := ?_)
           clear HB BK863 BK864 BK865 BK866 BK879 BK880 hb
           intro BK863 BK864 BK865 BK866 BK879 BK880 HB
           refine hK.out _ _ (zk3 BK863 (ze3 BK864)) (fun hHeld => ?_)
           clear hK K
           refine znA 71 (h := ?_)
           refine one_ (i := 6) (N := none) #[true, true, true, true, true, true, true, false] rfl rfl (one_of HT_.out (by kernel_rfl)) (by decide) (fun K hK => ?_)
           have hs112 := zc0 BK879
           have hfs112 := blk_frozen BK879.out 0
           refine zt5 NB863_879 NB864_879 NB865_879 NB866_879 NB880_879 fun _ _ _ _ _ _ _ _ _ _ => ?_
           have hs113 := zc1 BK879
           have hfs113 := blk_frozen BK879.out 1
           refine zt5 NB863_879 NB864_879 NB865_879 NB866_879 NB880_879 fun _ _ _ _ _ _ _ _ _ _ => ?_
           have hs114 := zc2 BK879
           have hfs114 := blk_frozen BK879.out 2
           refine zt5 NB863_879 NB864_879 NB865_879 NB866_879 NB880_879 fun _ _ _ _ _ _ _ _ _ _ => ?_
           refine skip_ (w1 := ?_) (by rfl) rfl ?_ ?_
           rotate_left
           ·go_simp
            rfl
           refine hK.out _ _ ⟨(zff NB863_879 (zff NB863_879 (zff NB863_879 hHeld.1))), (zff NB863_879 (zff NB863_879 (zff NB863_879 hHeld.2.1))), (zff NB863_879 (zff NB863_879 (zff NB863_879 hHeld.2.2.1))), (zff NB864_879 (zff NB864_879 (zff NB864_879 hHeld.2.2.2.1))), (zff NB864_879 (zff NB864_879 (zff NB864_879 hHeld.2.2.2.2.1))), (zff NB864_879 (zff NB864_879 (zff NB864_879 hHeld.2.2.2.2.2)))⟩ (fun hHeld => ?_)
           clear hK K
           refine one_ (i := 7) (N := none) #[true, true, true, true, true, true, true, true] rfl rfl (one_of HT_.out (by kernel_rfl)) (by decide) (fun K hK => ?_)
           have hs115 := zc0 BK880
           have hfs115 := blk_frozen BK880.out 0
           refine zt5 NB863_880 NB864_880 NB865_880 NB866_880 NB879_880 fun _ _ _ _ _ _ _ _ _ _ => ?_
           have hs116 := zc1 BK880
           have hfs116 := blk_frozen BK880.out 1
           refine zt5 NB863_880 NB864_880 NB865_880 NB866_880 NB879_880 fun _ _ _ _ _ _ _ _ _ _ => ?_
           have hs117 := zc2 BK880
           have hfs117 := blk_frozen BK880.out 2
           refine zt5 NB863_880 NB864_880 NB865_880 NB866_880 NB879_880 fun _ _ _ _ _ _ _ _ _ _ => ?_
           refine skip_ (w1 := ?_) (by rfl) rfl ?_ ?_
           rotate_left
           ·go_simp
            rfl
           refine hK.out _ _ ⟨(zff NB863_880 (zff NB863_880 (zff NB863_880 hHeld.1))), (zff NB863_880 (zff NB863_880 (zff NB863_880 hHeld.2.1))), (zff NB863_880 (zff NB863_880 (zff NB863_880 hHeld.2.2.1))), (zff NB864_880 (zff NB864_880 (zff NB864_880 hHeld.2.2.2.1))), (zff NB864_880 (zff NB864_880 (zff NB864_880 hHeld.2.2.2.2.1))), (zff NB864_880 (zff NB864_880 (zff NB864_880 hHeld.2.2.2.2.2)))⟩ (fun hHeld => ?_)
           clear hK K
           refine done_ (done_of HT_.out (by kernel_rfl)) ?_
           try go_wp2
           go_meet
           case rel => exact ⟨_, (t896), (t897), (t898), (t899), (t900), (t901), H', ⟨by have := HJ5.out; have := HJ43.out; have := HJ56.out; have := HJ70.out; first | omega | exact Nat.le_refl _⟩, ⟨(zkf (zkf (zkf (zkf (zkf (zkf (zkq BK863) NB863_879.out _) NB863_879.out _) NB863_879.out _) NB863_880.out _) NB863_880.out _) NB863_880.out _)⟩, ⟨(zkf (zkf (zkf (zkf (zkf (zkf (zkq BK864) NB864_879.out _) NB864_879.out _) NB864_879.out _) NB864_880.out _) NB864_880.out _) NB864_880.out _)⟩, ⟨(zkf (zkf (zkf (zkf (zkf (zkf (zkq BK865) NB865_879.out _) NB865_879.out _) NB865_879.out _) NB865_880.out _) NB865_880.out _) NB865_880.out _)⟩, ⟨(zkf (zkf (zkf (zkf (zkf (zkf (zkq BK866) NB866_879.out _) NB866_879.out _) NB866_879.out _) NB866_880.out _) NB866_880.out _) NB866_880.out _)⟩, ⟨(zkf (zkf (zkf (blk_put (cs := #[.bool t896, .int .u64 t897, .int .u64 t869]) (blk_put (cs := #[.bool t896, .int .u64 t868, .int .u64 t869]) (blk_put (zkq BK879) 0 _ rfl) 1 _ rfl) 2 _ rfl) NB879_880.out _) NB879_880.out _) NB879_880.out _)⟩, ⟨(blk_put (cs := #[.bool t899, .int .u64 t900, .int .u64 t872]) (blk_put (cs := #[.bool t899, .int .u64 t871, .int .u64 t872]) (blk_put (zkf (zkf (zkf (zkq BK880) NB880_879.out _) NB880_879.out _) NB880_879.out _) 0 _ rfl) 1 _ rfl) 2 _ rfl)⟩, ⟨zaB⟩⟩
          rw [if_neg c106] at H
          have c106b0 : (a0 == 12) = false := beq_eq_false_iff_ne.mpr c106
          have c106b1 : (a0 != 12) = true := bne_iff_ne.mpr c106
          have H' := Aside0.mk H
          clear H
          go_wp2
          go_meet
          case rel => exact ⟨_, (t867), (t868), (t869), (t870), (t871), (t872), H', ⟨by have := HJ5.out; have := HJ43.out; have := HJ56.out; have := HJ70.out; first | omega | exact Nat.le_refl _⟩, ⟨zkq BK863⟩, ⟨zkq BK864⟩, ⟨zkq BK865⟩, ⟨zkq BK866⟩, ⟨zkq BK879⟩, ⟨zkq BK880⟩, ⟨zaB⟩⟩
     case rest =>
      clear HC56
      try clear c85b0
      try clear c85b1
      try clear c106b0
      try clear c106b1
      try clear z102_0 z102_1 z102_2 f102_0 f102_1 f102_2
      try clear z105_0 z105_1 z105_2 f105_0 f105_1 f105_2
      try clear z92_0 z92_1 z92_2 f92_0 f92_1 f92_2
      try clear z97_0 z97_1 z97_2 f97_0 f97_1 f97_2
      try clear f24_0
      try clear f24_1
      try clear f24_2
      try clear f28_0
      try clear f28_1
      try clear f28_2
      try clear f31_0
      try clear f31_1
      try clear f31_2
      try clear f40_0
      try clear f40_1
      try clear f40_2
      try clear f43_0
      try clear f43_1
      try clear f43_2
      obtain ⟨kq, x880000_55, x880001_55, x880002_55, x881000_55, x881001_55, x881002_55, HA, HJ55, BK863, BK864, BK865, BK866, BK879, BK880, HB⟩ := hcut
      cases kq with
      | zero => exact absurd HA.out (by simp [span_Test.j4])
      | succ kj55 =>
       have H := HA.out
       clear HA
       simp only [span_Test.j4] at H
       have HC118 := Aside0.mk H
       clear H
       go_upto_region 18 with (fail)
       go_cut [77] (fun v77 wc => ∃ (kq : Nat) (x77_117 : Bool), v77 = .bool x77_117 ∧ Aside0 (span_Test.j5 kq x77_117 x880000_55 x880001_55 x880002_55 x881000_55 x881001_55 x881002_55 = some (r1, r2, r3, r4, r5, r6)) ∧ Aside0 (kq ≤ kj55) ∧ Aside0 (wc.heap[gb863]? = some (.cells #[.bool t867, .int .u64 t868, .int .u64 t869] 43 (0, 0))) ∧ Aside0 (wc.heap[gb864]? = some (.cells #[.bool t870, .int .u64 t871, .int .u64 t872] 43 (0, 0))) ∧ Aside0 (wc.heap[gb865]? = some (.cells #[.bool false, .int .u64 0, .int .u64 0] 43 (0, 0))) ∧ Aside0 (wc.heap[gb866]? = some (.cells #[.bool false, .int .u64 0, .int .u64 0] 43 (0, 0))) ∧ Aside0 (wc.heap[gb879]? = some (.cells #[.bool x880000_55, .int .u64 x880001_55, .int .u64 x880002_55] 43 (0, 0))) ∧ Aside0 (wc.heap[gb880]? = some (.cells #[.bool x881000_55, .int .u64 x881001_55, .int .u64 x881002_55] 43 (0, 0))) ∧ Aside0 (Below w.heap.size w wc))
       case first =>
        have H := HC118.out
        clear HC118
        by_cases c119 : x880000_55 = true
        ·subst c119
         replace H := zit H
         have H' := Aside0.mk H
         clear H
         refine zt5 NB863_879 NB864_879 NB865_879 NB866_879 NB879_880 fun _ _ _ _ _ _ _ _ _ _ => ?_
         refine zu3 BK879 fun z125_0 z125_1 z125_2 f125_0 f125_1 f125_2 => ?_
         go_wp2
         go_meet
         case rel => exact ⟨_, (true), zrl, H', ⟨by have := HJ5.out; have := HJ43.out; have := HJ55.out; first | omega | exact Nat.le_refl _⟩, ⟨zkq BK863⟩, ⟨zkq BK864⟩, ⟨zkq BK865⟩, ⟨zkq BK866⟩, ⟨zkq BK879⟩, ⟨zkq BK880⟩, ⟨zaB⟩⟩
        replace c119 := Bool.eq_false_iff.mpr c119
        subst c119
        replace H := zif H
        have H' := Aside0.mk H
        clear H
        refine zt5 NB863_879 NB864_879 NB865_879 NB866_879 NB879_880 fun _ _ _ _ _ _ _ _ _ _ => ?_
        refine zu3 BK879 fun z131_0 z131_1 z131_2 f131_0 f131_1 f131_2 => ?_
        refine zt4 NB863_880 NB864_880 NB865_880 NB866_880 fun _ _ _ _ _ _ _ _ => ?_
        refine zu3 BK880 fun z136_0 z136_1 z136_2 f136_0 f136_1 f136_2 => ?_
        go_wp2
        go_meet
        case rel => exact ⟨_, (x881000_55), zrl, H', ⟨by have := HJ5.out; have := HJ43.out; have := HJ55.out; first | omega | exact Nat.le_refl _⟩, ⟨zkq BK863⟩, ⟨zkq BK864⟩, ⟨zkq BK865⟩, ⟨zkq BK866⟩, ⟨zkq BK879⟩, ⟨zkq BK880⟩, ⟨zaB⟩⟩
       case rest =>
        clear HC118
        try clear c85b0
        try clear c85b1
        try clear c106b0
        try clear c106b1
        try clear z102_0 z102_1 z102_2 f102_0 f102_1 f102_2
        try clear z105_0 z105_1 z105_2 f105_0 f105_1 f105_2
        try clear z125_0 z125_1 z125_2 f125_0 f125_1 f125_2
        try clear z131_0 z131_1 z131_2 f131_0 f131_1 f131_2
        try clear z136_0 z136_1 z136_2 f136_0 f136_1 f136_2
        try clear z92_0 z92_1 z92_2 f92_0 f92_1 f92_2
        try clear z97_0 z97_1 z97_2 f97_0 f97_1 f97_2
        try clear f24_0
        try clear f24_1
        try clear f24_2
        try clear f28_0
        try clear f28_1
        try clear f28_2
        try clear f31_0
        try clear f31_1
        try clear f31_2
        try clear f40_0
        try clear f40_1
        try clear f40_2
        try clear f43_0
        try clear f43_1
        try clear f43_2
        obtain ⟨kq, x77_117, rfl, HA, HJ117, BK863, BK864, BK865, BK866, BK879, BK880, HB⟩ := hcut
        cases kq with
        | zero => exact absurd HA.out (by simp [span_Test.j5])
        | succ kj117 =>
         have H := HA.out
         clear HA
         simp only [span_Test.j5] at H
         by_cases c137 : x77_117 = true
         ·subst c137
          replace H := zit H
          obtain ⟨⟨t902, t903, t904⟩, A138, H⟩ := zbs H
          try dsimp only at H
          obtain ⟨⟨t905, t906, t907⟩, A139, H⟩ := zbs H
          try dsimp only at H
          simp only [Option.some.injEq, Prod.mk.injEq] at H
          obtain ⟨rfl, rfl, rfl, rfl, rfl, rfl⟩ := H
          go_wp2_with (first | ((with_reducible refine gtc 118 rfl ?_); refine zgL 78 Try.func118 (span_none.calls  t902 t903 t904 _ A138.out) (h := ?_); rintro w140 hb; refine zcn6 HB BK863 BK864 BK865 BK866 BK879 BK880 hb (c := ?_); clear HB BK863 BK864 BK865 BK866 BK879 BK880 hb; intro BK863 BK864 BK865 BK866 BK879 BK880 HB) | ((with_reducible refine gtc 118 rfl ?_); refine zgL 79 Try.func118 (span_none.calls  t905 t906 t907 _ A139.out) (h := ?_); rintro w141 hb; refine zcn6 HB BK863 BK864 BK865 BK866 BK879 BK880 hb (c := ?_); clear HB BK863 BK864 BK865 BK866 BK879 BK880 hb; intro BK863 BK864 BK865 BK866 BK879 BK880 HB; refine zt5 NB863_865 NB864_865 NB865_866 NB865_879 NB865_880 fun _ _ _ _ _ _ _ _ _ _ => ?_; refine zu3 BK865 fun _ _ _ _ _ _ => ?_; refine zt4 NB863_866 NB864_866 NB866_879 NB866_880 fun _ _ _ _ _ _ _ _ => ?_; refine zu3 BK866 fun _ _ _ _ _ _ => ?_))
          refine bodyPost_ret (results_cc rfl _ _ gb865 gb866 43 43 #[.bool t902, .int .u64 t903, .int .u64 t904] #[.bool t905, .int .u64 t906, .int .u64 t907] (0, 0) (0, 0) _ _ rfl (zkf (zkf (zkf (blk_put (cs := #[.bool t902, .int .u64 t903, .int .u64 0]) (blk_put (cs := #[.bool t902, .int .u64 0, .int .u64 0]) (blk_put (zkq BK865) 0 _ rfl) 1 _ rfl) 2 _ rfl) NB865_866.out _) NB865_866.out _) NB865_866.out _) Try.underlying43 rfl (by kernel_rfl) rfl (blk_put (cs := #[.bool t905, .int .u64 t906, .int .u64 0]) (blk_put (cs := #[.bool t905, .int .u64 0, .int .u64 0]) (blk_put (zkf (zkf (zkf (zkq BK866) (zks NB865_866).out _) (zks NB865_866).out _) (zks NB865_866).out _) 0 _ rfl) 1 _ rfl) 2 _ rfl) Try.underlying43 rfl (by kernel_rfl)) rfl ?_
          exact ⟨zaE, zaB⟩
         replace c137 := Bool.eq_false_iff.mpr c137
         subst c137
         replace H := zif H
         simp only [Option.some.injEq, Prod.mk.injEq] at H
         obtain ⟨rfl, rfl, rfl, rfl, rfl, rfl⟩ := H
         try go_wp2
         replace BK863 := Aside0.mk (blk_drew BK863.out)
         replace BK864 := Aside0.mk (blk_drew BK864.out)
         replace BK865 := Aside0.mk (blk_drew BK865.out)
         replace BK866 := Aside0.mk (blk_drew BK866.out)
         replace BK879 := Aside0.mk (blk_drew BK879.out)
         replace BK880 := Aside0.mk (blk_drew BK880.out)
         replace HB := Aside0.mk (below_drew1 HB.out)
         refine start_ (n := 4) (S := fun w' => w'.cell? ⟨gb879, 0, none⟩ = some (.bool x880000_55) ∧ w'.cell? ⟨gb879, 1, none⟩ = some (.int .u64 x880001_55) ∧ w'.cell? ⟨gb879, 2, none⟩ = some (.int .u64 x880002_55) ∧ w'.cell? ⟨gb880, 0, none⟩ = some (.bool x881000_55) ∧ w'.cell? ⟨gb880, 1, none⟩ = some (.int .u64 x881001_55) ∧ w'.cell? ⟨gb880, 2, none⟩ = some (.int .u64 x881002_55)) (ds := []) #[false, false, false, false] (by kernel_rfl) rfl rfl (zk3 BK879 (ze3 BK880)) (fun hHeld => ?_)
         generalize wc.drew = w153 at BK863 BK864 BK865 BK866 BK879 BK880 HB hHeld ⊢
         refine ztA 0 80 (h := ?_)
         refine ztA 1 81 (h := ?_)
         refine one_ (i := 2) (N := none) #[true, true, true, false] rfl rfl (by kernel_rfl) (by decide) (fun K hK => ?_)
         have hs154 := zc0 BK865
         have hfs154 := blk_frozen BK865.out 0
         refine zt5 NB863_865 NB864_865 NB865_866 NB865_879 NB865_880 fun _ _ _ _ _ _ _ _ _ _ => ?_
         have hs155 := zc1 BK865
         have hfs155 := blk_frozen BK865.out 1
         refine zt5 NB863_865 NB864_865 NB865_866 NB865_879 NB865_880 fun _ _ _ _ _ _ _ _ _ _ => ?_
         have hs156 := zc2 BK865
         have hfs156 := blk_frozen BK865.out 2
         refine zt5 NB863_865 NB864_865 NB865_866 NB865_879 NB865_880 fun _ _ _ _ _ _ _ _ _ _ => ?_
         refine skip_ (w1 := ?_) (by rfl) rfl ?_ ?_
         rotate_left
         ·go_simp
          rfl
         refine hK.out _ _ ⟨(zff (zks NB865_879) (zff (zks NB865_879) (zff (zks NB865_879) hHeld.1))), (zff (zks NB865_879) (zff (zks NB865_879) (zff (zks NB865_879) hHeld.2.1))), (zff (zks NB865_879) (zff (zks NB865_879) (zff (zks NB865_879) hHeld.2.2.1))), (zff (zks NB865_880) (zff (zks NB865_880) (zff (zks NB865_880) hHeld.2.2.2.1))), (zff (zks NB865_880) (zff (zks NB865_880) (zff (zks NB865_880) hHeld.2.2.2.2.1))), (zff (zks NB865_880) (zff (zks NB865_880) (zff (zks NB865_880) hHeld.2.2.2.2.2)))⟩ (fun hHeld => ?_)
         clear hK K
         refine one_ (i := 3) (N := none) #[true, true, true, true] rfl rfl (by kernel_rfl) (by decide) (fun K hK => ?_)
         have hs157 := zc0 BK866
         have hfs157 := blk_frozen BK866.out 0
         refine zt5 NB863_866 NB864_866 NB865_866 NB866_879 NB866_880 fun _ _ _ _ _ _ _ _ _ _ => ?_
         have hs158 := zc1 BK866
         have hfs158 := blk_frozen BK866.out 1
         refine zt5 NB863_866 NB864_866 NB865_866 NB866_879 NB866_880 fun _ _ _ _ _ _ _ _ _ _ => ?_
         have hs159 := zc2 BK866
         have hfs159 := blk_frozen BK866.out 2
         refine zt5 NB863_866 NB864_866 NB865_866 NB866_879 NB866_880 fun _ _ _ _ _ _ _ _ _ _ => ?_
         refine skip_ (w1 := ?_) (by rfl) rfl ?_ ?_
         rotate_left
         ·go_simp
          rfl
         refine hK.out _ _ ⟨(zff (zks NB866_879) (zff (zks NB866_879) (zff (zks NB866_879) hHeld.1))), (zff (zks NB866_879) (zff (zks NB866_879) (zff (zks NB866_879) hHeld.2.1))), (zff (zks NB866_879) (zff (zks NB866_879) (zff (zks NB866_879) hHeld.2.2.1))), (zff (zks NB866_880) (zff (zks NB866_880) (zff (zks NB866_880) hHeld.2.2.2.1))), (zff (zks NB866_880) (zff (zks NB866_880) (zff (zks NB866_880) hHeld.2.2.2.2.1))), (zff (zks NB866_880) (zff (zks NB866_880) (zff (zks NB866_880) hHeld.2.2.2.2.2)))⟩ (fun hHeld => ?_)
         clear hK K
         refine done_ (by kernel_rfl) ?_
         try go_wp2
         refine bodyPost_ret (results_cc rfl _ _ gb865 gb866 43 43 #[.bool x880000_55, .int .u64 x880001_55, .int .u64 x880002_55] #[.bool x881000_55, .int .u64 x881001_55, .int .u64 x881002_55] (0, 0) (0, 0) _ _ rfl (zkf (zkf (zkf (blk_put (cs := #[.bool x880000_55, .int .u64 x880001_55, .int .u64 0]) (blk_put (cs := #[.bool x880000_55, .int .u64 0, .int .u64 0]) (blk_put (zkq BK865) 0 _ rfl) 1 _ rfl) 2 _ rfl) NB865_866.out _) NB865_866.out _) NB865_866.out _) Try.underlying43 rfl (by kernel_rfl) rfl (blk_put (cs := #[.bool x881000_55, .int .u64 x881001_55, .int .u64 0]) (blk_put (cs := #[.bool x881000_55, .int .u64 0, .int .u64 0]) (blk_put (zkf (zkf (zkf (zkq BK866) (zks NB865_866).out _) (zks NB865_866).out _) (zks NB865_866).out _) 0 _ rfl) 1 _ rfl) 2 _ rfl) Try.underlying43 rfl (by kernel_rfl)) rfl ?_
         exact ⟨zaE, zaB⟩
theorem span_Point.calls (k : Nat) (a0 : Int) (r1 : Bool) (r2 : Int) (r3 : Int) (w : World) (h : span_Point.f k a0 = some (r1, r2, r3)) :
  Calls Try.prog 39 #[.int .u64 a0] w fun e w' => e = .returned (.agg #[.bool r1, .int .u64 r2, .int .u64 r3]) ∧ Below w.heap.size w w' := by
 have hu43 := Try.underlying43
 have HB := Aside0.mk (Below.refl w.heap.size w)
 have H := h
 unfold span_Point.f at H
 clear h
 obtain ⟨⟨t722, t723, t724⟩, A2, H⟩ := zbs H
 try dsimp only at H
 simp only [Option.some.injEq, Prod.mk.injEq] at H
 obtain ⟨rfl, rfl, rfl⟩ := H
 go_enter Try.func39, Try.ntmps39
 go_wp2_with (first | ((with_reducible refine gtd 2 rfl ?_); refine zbx 2 #[.bool false, .int .u64 0, .int .u64 0] 43 (h := ?_); intro gb721 hg w3 hbox hb; have GW721 := zkZ hg (zaB (p := Below w.heap.size w _)); replace HB := Aside0.mk (below_step zaB hb); have BK721 := Aside0.mk (hbox); clear hb hbox hg) | ((with_reducible refine gtc 37 rfl ?_); refine zgL 5 Try.func37 (span_Make.calls k a0 a0 t722 t723 t724 _ A2.out) (h := ?_); rintro w4 hb; replace BK721 := zkb BK721 hb; replace HB := zkB HB hb; (try clear hb); refine zu3 BK721 fun _ _ _ _ _ _ => ?_))
 refine bodyPost_ret (results_cell_row rfl _ _ gb721 43 #[.bool t722, .int .u64 t723, .int .u64 t724] (0, 0) _ rfl (blk_put (cs := #[.bool t722, .int .u64 t723, .int .u64 0]) (blk_put (cs := #[.bool t722, .int .u64 0, .int .u64 0]) (blk_put (zkq BK721) 0 _ rfl) 1 _ rfl) 2 _ rfl) Try.underlying43 rfl (by kernel_rfl)) rfl ?_
 exact ⟨zaE, zaB⟩
theorem span_All.calls (k : Nat)  (r1 : Bool) (r2 : Int) (r3 : Int) (w : World) (h : span_All.f k  = some (r1, r2, r3)) :
  Calls Try.prog 40 #[] w fun e w' => e = .returned (.agg #[.bool r1, .int .u64 r2, .int .u64 r3]) ∧ Below w.heap.size w w' := by
 have hu43 := Try.underlying43
 have HB := Aside0.mk (Below.refl w.heap.size w)
 have H := h
 unfold span_All.f at H
 clear h
 obtain ⟨t726, A1, H⟩ := zbs H
 try dsimp only at H
 obtain ⟨t727, A2, H⟩ := zbs H
 try dsimp only at H
 obtain ⟨⟨t728, t729, t730⟩, A3, H⟩ := zbs H
 try dsimp only at H
 simp only [Option.some.injEq, Prod.mk.injEq] at H
 obtain ⟨rfl, rfl, rfl⟩ := H
 go_enter Try.func40, Try.ntmps40
 go_wp2_with (first | ((with_reducible refine gtd 0 rfl ?_); refine zbx 0 #[.bool false, .int .u64 0, .int .u64 0] 43 (h := ?_); intro gb725 hg w4 hbox hb; have GW725 := zkZ hg (zaB (p := Below w.heap.size w _)); replace HB := Aside0.mk (below_step zaB hb); have BK725 := Aside0.mk (hbox); clear hb hbox hg) | ((with_reducible refine gtc 113 rfl ?_); refine zgL 1 Try.func113 (span_ninf.calls k  t726 _ A1.out) (h := ?_); rintro w' ⟨nd, rfl⟩; (try (rw [drewN_self w4]; generalize hq_ : World.drewN w4 _ = w4; have n0_ : Aside0 (w4.heap[gb725]? = some (.cells #[.bool false, .int .u64 0, .int .u64 0] 43 (0, 0))) := ⟨by rw [← hq_]; exact (zkq BK725)⟩; have n1_ : Aside0 (Below w.heap.size w w4) := ⟨by rw [← hq_]; exact zaB⟩; clear BK725 HB hq_; have BK725 := n0_; have HB := n1_; clear n0_ n1_))) | ((with_reducible refine gtc 114 rfl ?_); refine zgL 2 Try.func114 (span_inf.calls k  t727 _ A2.out) (h := ?_); rintro w' ⟨nd, rfl⟩; (try (rw [drewN_self w4]; generalize hq_ : World.drewN w4 _ = w4; have n0_ : Aside0 (w4.heap[gb725]? = some (.cells #[.bool false, .int .u64 0, .int .u64 0] 43 (0, 0))) := ⟨by rw [← hq_]; exact (zkq BK725)⟩; have n1_ : Aside0 (Below w.heap.size w w4) := ⟨by rw [← hq_]; exact zaB⟩; clear BK725 HB hq_; have BK725 := n0_; have HB := n1_; clear n0_ n1_))) | ((with_reducible refine gtc 37 rfl ?_); refine zgL 3 Try.func37 (span_Make.calls k t726 t727 t728 t729 t730 _ A3.out) (h := ?_); rintro w5 hb; replace BK725 := zkb BK725 hb; replace HB := zkB HB hb; (try clear hb); refine zu3 BK725 fun _ _ _ _ _ _ => ?_))
 refine bodyPost_ret (results_cell_row rfl _ _ gb725 43 #[.bool t728, .int .u64 t729, .int .u64 t730] (0, 0) _ rfl (blk_put (cs := #[.bool t728, .int .u64 t729, .int .u64 0]) (blk_put (cs := #[.bool t728, .int .u64 0, .int .u64 0]) (blk_put (zkq BK725) 0 _ rfl) 1 _ rfl) 2 _ rfl) Try.underlying43 rfl (by kernel_rfl)) rfl ?_
 exact ⟨zaE, zaB⟩
theorem span_Inside.calls (k : Nat) (a0_0 : Bool) (a0_1 : Int) (a0_2 : Int) (a1_0 : Bool) (a1_1 : Int) (a1_2 : Int) (r : Bool) (w : World) (h : span_Inside.f k a0_0 a0_1 a0_2 a1_0 a1_1 a1_2 = some r) :
  Calls Try.prog 43 #[.agg #[.bool a0_0, .int .u64 a0_1, .int .u64 a0_2], .agg #[.bool a1_0, .int .u64 a1_1, .int .u64 a1_2]] w fun e w' => e = .returned (.bool r) ∧ Below w.heap.size w w' := by
 have hu43 := Try.underlying43
 have HB := Aside0.mk (Below.refl w.heap.size w)
 have H := h
 unfold span_Inside.f at H
 clear h
 obtain ⟨⟨t733, t734, t735⟩, A3, H⟩ := zbs H
 try dsimp only at H
 obtain ⟨⟨t736, t737, t738⟩, A4, H⟩ := zbs H
 try dsimp only at H
 by_cases c5 : t733 = true
 ·subst c5
  replace H := zit H
  obtain rfl := Option.some.inj H
  go_enter Try.func43, Try.ntmps43
  try go_wp2_with (first | ((with_reducible refine gtd 2 rfl ?_); refine zbx 2 #[.bool a0_0, .int .u64 a0_1, .int .u64 a0_2] 43 (h := ?_); intro gb731 hg w6 hbox hb; have GW731 := zkZ hg (zaB (p := Below w.heap.size w _)); replace HB := Aside0.mk (below_step zaB hb); have BK731 := Aside0.mk (hbox); clear hb hbox hg) | ((with_reducible refine gtd 3 rfl ?_); refine zbx 3 #[.bool a1_0, .int .u64 a1_1, .int .u64 a1_2] 43 (h := ?_); intro gb732 hg w7 hbox hb; refine zbn1 HB BK731 hg hb hbox (c := ?_); clear HB BK731 hb hbox hg; intro GW732 NB731_732 BK731 HB BK732))
  replace BK731 := Aside0.mk (blk_drew BK731.out)
  replace BK732 := Aside0.mk (blk_drew BK732.out)
  replace HB := Aside0.mk (below_drew1 HB.out)
  refine start_ (n := 6) (S := fun w' => w'.cell? ⟨gb731, 0, none⟩ = some (.bool a0_0) ∧ w'.cell? ⟨gb731, 1, none⟩ = some (.int .u64 a0_1) ∧ w'.cell? ⟨gb731, 2, none⟩ = some (.int .u64 a0_2) ∧ w'.cell? ⟨gb732, 0, none⟩ = some (.bool a1_0) ∧ w'.cell? ⟨gb732, 1, none⟩ = some (.int .u64 a1_1) ∧ w'.cell? ⟨gb732, 2, none⟩ = some (.int .u64 a1_2)) (ds := [4, 5]) #[false, false, false, false, false, false] (by kernel_rfl) rfl rfl (zk3 BK731 (ze3 BK732)) (fun hHeld => ?_)
  generalize w7.drew = w8 at BK731 BK732 HB hHeld ⊢
  refine ztA 0 5 (h := ?_)
  refine ztA 2 7 (h := ?_)
  refine zoA 1 6 (h := fun K hK => ?_)
  refine zgA Try.func112 (span_norm.calls k a0_0 a0_1 a0_2 true t734 t735 _ A3.out) (h := ?_)
  rintro w9 hb
  refine zcn2 HB BK731 BK732 hb (c := ?_)
  clear HB BK731 BK732 hb
  intro BK731 BK732 HB
  refine hK.out _ _ (zk3 BK731 (ze3 BK732)) (fun hHeld => ?_)
  clear hK K
  refine znA 6 (h := ?_)
  refine zoA 3 8 (h := fun K hK => ?_)
  refine zgA Try.func112 (span_norm.calls k a1_0 a1_1 a1_2 t736 t737 t738 _ A4.out) (h := ?_)
  rintro w10 hb
  refine zcn2 HB BK731 BK732 hb (c := ?_)
  clear HB BK731 BK732 hb
  intro BK731 BK732 HB
  refine hK.out _ _ (zk3 BK731 (ze3 BK732)) (fun hHeld => ?_)
  clear hK K
  refine znA 8 (h := ?_)
  refine last_ (i := 4) (N := none) #[true, true, true, true, true, false] rfl rfl (by kernel_rfl) (by decide) (fun K hK => ?_)
  have hs11 := zc0 BK731
  have hfs11 := blk_frozen BK731.out 0
  refine zt1 NB731_732 fun _ _ => ?_
  have hs12 := zc1 BK731
  have hfs12 := blk_frozen BK731.out 1
  refine zt1 NB731_732 fun _ _ => ?_
  have hs13 := zc2 BK731
  have hfs13 := blk_frozen BK731.out 2
  refine zt1 NB731_732 fun _ _ => ?_
  refine skip_ (w1 := ?_) (by rfl) rfl ?_ ?_
  rotate_left
  ·go_simp
   rfl
  refine hK.out _ _ ?_
  clear hK K
  refine last_ (i := 5) (N := none) #[true, true, true, true, true, true] rfl rfl (by kernel_rfl) (by decide) (fun K hK => ?_)
  have hs14 := zc0 BK732
  have hfs14 := blk_frozen BK732.out 0
  refine zt1 NB731_732 fun _ _ => ?_
  have hs15 := zc1 BK732
  have hfs15 := blk_frozen BK732.out 1
  refine zt1 NB731_732 fun _ _ => ?_
  have hs16 := zc2 BK732
  have hfs16 := blk_frozen BK732.out 2
  refine zt1 NB731_732 fun _ _ => ?_
  refine skip_ (w1 := ?_) (by rfl) rfl ?_ ?_
  rotate_left
  ·go_simp
   rfl
  refine hK.out _ _ ?_
  clear hK K
  refine done_ (by kernel_rfl) ?_
  refine zt1 NB731_732 fun _ _ => ?_
  refine zu3 BK731 fun _ _ _ _ _ _ => ?_
  try go_wp2
  go_ret
  exact ⟨zaE, zaB⟩
 replace c5 := Bool.eq_false_iff.mpr c5
 subst c5
 replace H := zif H
 by_cases c19 : t736 = true
 ·subst c19
  replace H := zit H
  obtain rfl := Option.some.inj H
  go_enter Try.func43, Try.ntmps43
  try go_wp2_with (first | ((with_reducible refine gtd 2 rfl ?_); refine zbx 2 #[.bool a0_0, .int .u64 a0_1, .int .u64 a0_2] 43 (h := ?_); intro gb731 hg w20 hbox hb; have GW731 := zkZ hg (zaB (p := Below w.heap.size w _)); replace HB := Aside0.mk (below_step zaB hb); have BK731 := Aside0.mk (hbox); clear hb hbox hg) | ((with_reducible refine gtd 3 rfl ?_); refine zbx 3 #[.bool a1_0, .int .u64 a1_1, .int .u64 a1_2] 43 (h := ?_); intro gb732 hg w21 hbox hb; refine zbn1 HB BK731 hg hb hbox (c := ?_); clear HB BK731 hb hbox hg; intro GW732 NB731_732 BK731 HB BK732))
  replace BK731 := Aside0.mk (blk_drew BK731.out)
  replace BK732 := Aside0.mk (blk_drew BK732.out)
  replace HB := Aside0.mk (below_drew1 HB.out)
  refine start_ (n := 6) (S := fun w' => w'.cell? ⟨gb731, 0, none⟩ = some (.bool a0_0) ∧ w'.cell? ⟨gb731, 1, none⟩ = some (.int .u64 a0_1) ∧ w'.cell? ⟨gb731, 2, none⟩ = some (.int .u64 a0_2) ∧ w'.cell? ⟨gb732, 0, none⟩ = some (.bool a1_0) ∧ w'.cell? ⟨gb732, 1, none⟩ = some (.int .u64 a1_1) ∧ w'.cell? ⟨gb732, 2, none⟩ = some (.int .u64 a1_2)) (ds := [4, 5]) #[false, false, false, false, false, false] (by kernel_rfl) rfl rfl (zk3 BK731 (ze3 BK732)) (fun hHeld => ?_)
  generalize w21.drew = w22 at BK731 BK732 HB hHeld ⊢
  refine ztA 0 5 (h := ?_)
  refine ztA 2 7 (h := ?_)
  refine zoA 1 6 (h := fun K hK => ?_)
  refine zgA Try.func112 (span_norm.calls k a0_0 a0_1 a0_2 false t734 t735 _ A3.out) (h := ?_)
  rintro w23 hb
  refine zcn2 HB BK731 BK732 hb (c := ?_)
  clear HB BK731 BK732 hb
  intro BK731 BK732 HB
  refine hK.out _ _ (zk3 BK731 (ze3 BK732)) (fun hHeld => ?_)
  clear hK K
  refine znA 6 (h := ?_)
  refine zoA 3 8 (h := fun K hK => ?_)
  refine zgA Try.func112 (span_norm.calls k a1_0 a1_1 a1_2 true t737 t738 _ A4.out) (h := ?_)
  rintro w24 hb
  refine zcn2 HB BK731 BK732 hb (c := ?_)
  clear HB BK731 BK732 hb
  intro BK731 BK732 HB
  refine hK.out _ _ (zk3 BK731 (ze3 BK732)) (fun hHeld => ?_)
  clear hK K
  refine znA 8 (h := ?_)
  refine last_ (i := 4) (N := none) #[true, true, true, true, true, false] rfl rfl (by kernel_rfl) (by decide) (fun K hK => ?_)
  have hs25 := zc0 BK731
  have hfs25 := blk_frozen BK731.out 0
  refine zt1 NB731_732 fun _ _ => ?_
  have hs26 := zc1 BK731
  have hfs26 := blk_frozen BK731.out 1
  refine zt1 NB731_732 fun _ _ => ?_
  have hs27 := zc2 BK731
  have hfs27 := blk_frozen BK731.out 2
  refine zt1 NB731_732 fun _ _ => ?_
  refine skip_ (w1 := ?_) (by rfl) rfl ?_ ?_
  rotate_left
  ·go_simp
   rfl
  refine hK.out _ _ ?_
  clear hK K
  refine last_ (i := 5) (N := none) #[true, true, true, true, true, true] rfl rfl (by kernel_rfl) (by decide) (fun K hK => ?_)
  have hs28 := zc0 BK732
  have hfs28 := blk_frozen BK732.out 0
  refine zt1 NB731_732 fun _ _ => ?_
  have hs29 := zc1 BK732
  have hfs29 := blk_frozen BK732.out 1
  refine zt1 NB731_732 fun _ _ => ?_
  have hs30 := zc2 BK732
  have hfs30 := blk_frozen BK732.out 2
  refine zt1 NB731_732 fun _ _ => ?_
  refine skip_ (w1 := ?_) (by rfl) rfl ?_ ?_
  rotate_left
  ·go_simp
   rfl
  refine hK.out _ _ ?_
  clear hK K
  refine done_ (by kernel_rfl) ?_
  refine zt1 NB731_732 fun _ _ => ?_
  refine zu3 BK731 fun _ _ _ _ _ _ => ?_
  refine zu3 BK732 fun _ _ _ _ _ _ => ?_
  try go_wp2
  go_ret
  exact ⟨zaE, zaB⟩
 replace c19 := Bool.eq_false_iff.mpr c19
 subst c19
 replace H := zif H
 obtain ⟨t739, A34, H⟩ := zbs H
 try dsimp only at H
 by_cases c35 : t739 = true
 ·subst c35
  replace H := zit H
  obtain ⟨t740, A36, H⟩ := zbs H
  try dsimp only at H
  obtain rfl := Option.some.inj H
  go_enter Try.func43, Try.ntmps43
  try go_wp2_with (first | ((with_reducible refine gtd 2 rfl ?_); refine zbx 2 #[.bool a0_0, .int .u64 a0_1, .int .u64 a0_2] 43 (h := ?_); intro gb731 hg w37 hbox hb; have GW731 := zkZ hg (zaB (p := Below w.heap.size w _)); replace HB := Aside0.mk (below_step zaB hb); have BK731 := Aside0.mk (hbox); clear hb hbox hg) | ((with_reducible refine gtd 3 rfl ?_); refine zbx 3 #[.bool a1_0, .int .u64 a1_1, .int .u64 a1_2] 43 (h := ?_); intro gb732 hg w38 hbox hb; refine zbn1 HB BK731 hg hb hbox (c := ?_); clear HB BK731 hb hbox hg; intro GW732 NB731_732 BK731 HB BK732))
  replace BK731 := Aside0.mk (blk_drew BK731.out)
  replace BK732 := Aside0.mk (blk_drew BK732.out)
  replace HB := Aside0.mk (below_drew1 HB.out)
  refine start_ (n := 6) (S := fun w' => w'.cell? ⟨gb731, 0, none⟩ = some (.bool a0_0) ∧ w'.cell? ⟨gb731, 1, none⟩ = some (.int .u64 a0_1) ∧ w'.cell? ⟨gb731, 2, none⟩ = some (.int .u64 a0_2) ∧ w'.cell? ⟨gb732, 0, none⟩ = some (.bool a1_0) ∧ w'.cell? ⟨gb732, 1, none⟩ = some (.int .u64 a1_1) ∧ w'.cell? ⟨gb732, 2, none⟩ = some (.int .u64 a1_2)) (ds := [4, 5]) #[false, false, false, false, false, false] (by kernel_rfl) rfl rfl (zk3 BK731 (ze3 BK732)) (fun hHeld => ?_)
  generalize w38.drew = w39 at BK731 BK732 HB hHeld ⊢
  refine ztA 0 5 (h := ?_)
  refine ztA 2 7 (h := ?_)
  refine zoA 1 6 (h := fun K hK => ?_)
  refine zgA Try.func112 (span_norm.calls k a0_0 a0_1 a0_2 false t734 t735 _ A3.out) (h := ?_)
  rintro w40 hb
  refine zcn2 HB BK731 BK732 hb (c := ?_)
  clear HB BK731 BK732 hb
  intro BK731 BK732 HB
  refine hK.out _ _ (zk3 BK731 (ze3 BK732)) (fun hHeld => ?_)
  clear hK K
  refine znA 6 (h := ?_)
  refine zoA 3 8 (h := fun K hK => ?_)
  refine zgA Try.func112 (span_norm.calls k a1_0 a1_1 a1_2 false t737 t738 _ A4.out) (h := ?_)
  rintro w41 hb
  refine zcn2 HB BK731 BK732 hb (c := ?_)
  clear HB BK731 BK732 hb
  intro BK731 BK732 HB
  refine hK.out _ _ (zk3 BK731 (ze3 BK732)) (fun hHeld => ?_)
  clear hK K
  refine znA 8 (h := ?_)
  refine last_ (i := 4) (N := none) #[true, true, true, true, true, false] rfl rfl (by kernel_rfl) (by decide) (fun K hK => ?_)
  have hs42 := zc0 BK731
  have hfs42 := blk_frozen BK731.out 0
  refine zt1 NB731_732 fun _ _ => ?_
  have hs43 := zc1 BK731
  have hfs43 := blk_frozen BK731.out 1
  refine zt1 NB731_732 fun _ _ => ?_
  have hs44 := zc2 BK731
  have hfs44 := blk_frozen BK731.out 2
  refine zt1 NB731_732 fun _ _ => ?_
  refine skip_ (w1 := ?_) (by rfl) rfl ?_ ?_
  rotate_left
  ·go_simp
   rfl
  refine hK.out _ _ ?_
  clear hK K
  refine last_ (i := 5) (N := none) #[true, true, true, true, true, true] rfl rfl (by kernel_rfl) (by decide) (fun K hK => ?_)
  have hs45 := zc0 BK732
  have hfs45 := blk_frozen BK732.out 0
  refine zt1 NB731_732 fun _ _ => ?_
  have hs46 := zc1 BK732
  have hfs46 := blk_frozen BK732.out 1
  refine zt1 NB731_732 fun _ _ => ?_
  have hs47 := zc2 BK732
  have hfs47 := blk_frozen BK732.out 2
  refine zt1 NB731_732 fun _ _ => ?_
  refine skip_ (w1 := ?_) (by rfl) rfl ?_ ?_
  rotate_left
  ·go_simp
   rfl
  refine hK.out _ _ ?_
  clear hK K
  refine done_ (by kernel_rfl) ?_
  refine zt1 NB731_732 fun _ _ => ?_
  refine zu3 BK731 fun _ _ _ _ _ _ => ?_
  refine zu3 BK732 fun _ _ _ _ _ _ => ?_
  try go_wp2_with (first | (go_at_call 117; (with_reducible refine (span_atMost.calls k t737 t734 true _ A34.out).mono ?_); rintro e w' ⟨rfl, ⟨nd, rfl⟩⟩) | (go_at_call 117; (with_reducible refine (span_atMost.calls k t735 t738 t740 _ A36.out).mono ?_); rintro e w' ⟨rfl, ⟨nd, rfl⟩⟩))
  go_ret
  exact ⟨zaE, zaB⟩
 replace c35 := Bool.eq_false_iff.mpr c35
 subst c35
 replace H := zif H
 obtain rfl := Option.some.inj H
 go_enter Try.func43, Try.ntmps43
 try go_wp2_with (first | ((with_reducible refine gtd 2 rfl ?_); refine zbx 2 #[.bool a0_0, .int .u64 a0_1, .int .u64 a0_2] 43 (h := ?_); intro gb731 hg w51 hbox hb; have GW731 := zkZ hg (zaB (p := Below w.heap.size w _)); replace HB := Aside0.mk (below_step zaB hb); have BK731 := Aside0.mk (hbox); clear hb hbox hg) | ((with_reducible refine gtd 3 rfl ?_); refine zbx 3 #[.bool a1_0, .int .u64 a1_1, .int .u64 a1_2] 43 (h := ?_); intro gb732 hg w52 hbox hb; refine zbn1 HB BK731 hg hb hbox (c := ?_); clear HB BK731 hb hbox hg; intro GW732 NB731_732 BK731 HB BK732))
 replace BK731 := Aside0.mk (blk_drew BK731.out)
 replace BK732 := Aside0.mk (blk_drew BK732.out)
 replace HB := Aside0.mk (below_drew1 HB.out)
 refine start_ (n := 6) (S := fun w' => w'.cell? ⟨gb731, 0, none⟩ = some (.bool a0_0) ∧ w'.cell? ⟨gb731, 1, none⟩ = some (.int .u64 a0_1) ∧ w'.cell? ⟨gb731, 2, none⟩ = some (.int .u64 a0_2) ∧ w'.cell? ⟨gb732, 0, none⟩ = some (.bool a1_0) ∧ w'.cell? ⟨gb732, 1, none⟩ = some (.int .u64 a1_1) ∧ w'.cell? ⟨gb732, 2, none⟩ = some (.int .u64 a1_2)) (ds := [4, 5]) #[false, false, false, false, false, false] (by kernel_rfl) rfl rfl (zk3 BK731 (ze3 BK732)) (fun hHeld => ?_)
 generalize w52.drew = w53 at BK731 BK732 HB hHeld ⊢
 refine ztA 0 5 (h := ?_)
 refine ztA 2 7 (h := ?_)
 refine zoA 1 6 (h := fun K hK => ?_)
 refine zgA Try.func112 (span_norm.calls k a0_0 a0_1 a0_2 false t734 t735 _ A3.out) (h := ?_)
 rintro w54 hb
 refine zcn2 HB BK731 BK732 hb (c := ?_)
 clear HB BK731 BK732 hb
 intro BK731 BK732 HB
 refine hK.out _ _ (zk3 BK731 (ze3 BK732)) (fun hHeld => ?_)
 clear hK K
 refine znA 6 (h := ?_)
 refine zoA 3 8 (h := fun K hK => ?_)
 refine zgA Try.func112 (span_norm.calls k a1_0 a1_1 a1_2 false t737 t738 _ A4.out) (h := ?_)
 rintro w55 hb
 refine zcn2 HB BK731 BK732 hb (c := ?_)
 clear HB BK731 BK732 hb
 intro BK731 BK732 HB
 refine hK.out _ _ (zk3 BK731 (ze3 BK732)) (fun hHeld => ?_)
 clear hK K
 refine znA 8 (h := ?_)
 refine last_ (i := 4) (N := none) #[true, true, true, true, true, false] rfl rfl (by kernel_rfl) (by decide) (fun K hK => ?_)
 have hs56 := zc0 BK731
 have hfs56 := blk_frozen BK731.out 0
 refine zt1 NB731_732 fun _ _ => ?_
 have hs57 := zc1 BK731
 have hfs57 := blk_frozen BK731.out 1
 refine zt1 NB731_732 fun _ _ => ?_
 have hs58 := zc2 BK731
 have hfs58 := blk_frozen BK731.out 2
 refine zt1 NB731_732 fun _ _ => ?_
 refine skip_ (w1 := ?_) (by rfl) rfl ?_ ?_
 rotate_left
 ·go_simp
  rfl
 refine hK.out _ _ ?_
 clear hK K
 refine last_ (i := 5) (N := none) #[true, true, true, true, true, true] rfl rfl (by kernel_rfl) (by decide) (fun K hK => ?_)
 have hs59 := zc0 BK732
 have hfs59 := blk_frozen BK732.out 0
 refine zt1 NB731_732 fun _ _ => ?_
 have hs60 := zc1 BK732
 have hfs60 := blk_frozen BK732.out 1
 refine zt1 NB731_732 fun _ _ => ?_
 have hs61 := zc2 BK732
 have hfs61 := blk_frozen BK732.out 2
 refine zt1 NB731_732 fun _ _ => ?_
 refine skip_ (w1 := ?_) (by rfl) rfl ?_ ?_
 rotate_left
 ·go_simp
  rfl
 refine hK.out _ _ ?_
 clear hK K
 refine done_ (by kernel_rfl) ?_
 refine zt1 NB731_732 fun _ _ => ?_
 refine zu3 BK731 fun _ _ _ _ _ _ => ?_
 refine zu3 BK732 fun _ _ _ _ _ _ => ?_
 try go_wp2_with (first | (go_at_call 117; (with_reducible refine (span_atMost.calls k t737 t734 false _ A34.out).mono ?_); rintro e w' ⟨rfl, ⟨nd, rfl⟩⟩))
 go_ret
 exact ⟨zaE, zaB⟩
def span_Has.T1 : Bool × List (List Nat × List Nat) := (true, [([], []), ([0], [0]), ([1], [1]), ([2, 1], [2]), ([3], [3]), ([4, 3, 3], [3, 4]), ([5, 3], [3, 5]), ([6, 3], [3, 6]), ([3, 7], [3, 7]), ([8, 5], [8]), ([9], [9]), ([10, 9, 9], [9, 10]), ([9], [9]), ([11, 12, 11, 9], [9, 11, 12]), ([9, 13], [9, 13]), ([14, 13, 0, 1, 2, 3, 4, 5, 6, 7, 8, 9, 10, 11, 12, 13, 14], [14])])
def span_Has.B1 : List Nat := [0, 1, 3, 7, 15, 31, 63, 127, 255, 511, 1023, 2047, 1023, 8191, 16383, 32767]
theorem span_Has.tab1 : rtab .any (opsOf Try.f41 1) = span_Has.T1 := by kernel_rfl
theorem span_Has.bits1 : waitsOk span_Has.T1.2 span_Has.B1 = true := by kernel_rfl
theorem span_Has.calls (k : Nat) (a0_0 : Bool) (a0_1 : Int) (a0_2 : Int) (a1 : Int) (r : Bool) (w : World) (h : span_Has.f k a0_0 a0_1 a0_2 a1 = some r) :
  Calls Try.prog 41 #[.agg #[.bool a0_0, .int .u64 a0_1, .int .u64 a0_2], .int .u64 a1] w fun e w' => e = .returned (.bool r) ∧ Below w.heap.size w w' := by
 have hu43 := Try.underlying43
 have hfd0_ : ∀ (b : Bool) (x y : Int) (w : World), (Instr.field 43 (.agg #[.bool b, .int .u64 x, .int .u64 y]) 0).run Try.prog w = .ok (.bool b) w := fun _ _ _ _ => by kernel_rfl
 have hfd1_ : ∀ (b : Bool) (x y : Int) (w : World), (Instr.field 43 (.agg #[.bool b, .int .u64 x, .int .u64 y]) 1).run Try.prog w = .ok (.int .u64 x) w := fun _ _ _ _ => by kernel_rfl
 have hfd2_ : ∀ (b : Bool) (x y : Int) (w : World), (Instr.field 43 (.agg #[.bool b, .int .u64 x, .int .u64 y]) 2).run Try.prog w = .ok (.int .u64 y) w := fun _ _ _ _ => by kernel_rfl
 have HB := Aside0.mk (Below.refl w.heap.size w)
 have H := h
 unfold span_Has.f at H
 clear h
 obtain ⟨t742, A3, H⟩ := zbs H
 try dsimp only at H
 by_cases c4 : t742 = 3
 ·rw [if_pos c4] at H
  have c4b0 : (t742 == 3) = true := beq_iff_eq.mpr c4
  have c4b1 : (t742 != 3) = false := bne_eq_false_iff_eq.mpr c4
  clear c4
  obtain rfl := Option.some.inj H
  go_enter Try.func41, Try.ntmps41
  try go_wp2_with (first | ((with_reducible refine gtd 2 rfl ?_); refine zbx 2 #[.bool a0_0, .int .u64 a0_1, .int .u64 a0_2] 43 (h := ?_); intro gb741 hg w5 hbox hb; have GW741 := zkZ hg (zaB (p := Below w.heap.size w _)); replace HB := Aside0.mk (below_step zaB hb); have BK741 := Aside0.mk (hbox); clear hb hbox hg))
  replace BK741 := Aside0.mk (blk_drew BK741.out)
  replace HB := Aside0.mk (below_drew1 HB.out)
  refine start_ (n := 16) (S := fun w' => True) (ds := []) #[false, false, false, false, false, false, false, false, false, false, false, false, false, false, false, false] (by kernel_rfl) rfl rfl trivial (fun hHeld => ?_); refine with_tabW span_Has.tab1 span_Has.bits1 (fun HT_ HW_ => ?_)
  generalize w5.drew = w6 at BK741 HB hHeld ⊢
  refine zpA 0 5 (h := ?_)
  refine zoA 1 6 (h := fun K hK => ?_)
  refine zgA Try.func24 (pattern_Class.calls k a1 t742 _ A3.out) (h := ?_)
  rintro w' ⟨nd, rfl⟩
  refine hK.out _ _ trivial (fun hHeld => ?_)
  clear hK K
  refine znA 6 (h := ?_)
  refine zpA 2 7 (h := ?_)
  refine zpA 3 8 (h := ?_)
  refine zpU 4 9 (h := ?_)
  refine zpU 5 10 (h := ?_)
  refine zpU 6 11 (h := ?_)
  refine zpU 7 12 (h := ?_)
  refine zpA 8 13 (h := ?_)
  refine zpA 9 14 (h := ?_)
  refine zpU 10 15 (h := ?_)
  refine zpU 11 16 (h := ?_)
  refine zpU 12 17 (h := ?_)
  refine zpU 13 18 (h := ?_)
  refine zpA 14 19 (h := ?_)
  refine zpA 15 4 (h := ?_)
  refine done_ (done_of HT_.out (by kernel_rfl)) ?_
  try go_wp2
  go_ret
  exact ⟨zaE, zaB⟩
 rw [if_neg c4] at H
 have c4b0 : (t742 == 3) = false := beq_eq_false_iff_ne.mpr c4
 have c4b1 : (t742 != 3) = true := bne_iff_ne.mpr c4
 obtain ⟨⟨t743, t744, t745⟩, A7, H⟩ := zbs H
 try dsimp only at H
 by_cases c8 : t743 = true
 ·subst c8
  replace H := zit H
  obtain rfl := Option.some.inj H
  go_enter Try.func41, Try.ntmps41
  try go_wp2_with (first | ((with_reducible refine gtd 2 rfl ?_); refine zbx 2 #[.bool a0_0, .int .u64 a0_1, .int .u64 a0_2] 43 (h := ?_); intro gb741 hg w9 hbox hb; have GW741 := zkZ hg (zaB (p := Below w.heap.size w _)); replace HB := Aside0.mk (below_step zaB hb); have BK741 := Aside0.mk (hbox); clear hb hbox hg))
  replace BK741 := Aside0.mk (blk_drew BK741.out)
  replace HB := Aside0.mk (below_drew1 HB.out)
  refine start_ (n := 16) (S := fun w' => True) (ds := []) #[false, false, false, false, false, false, false, false, false, false, false, false, false, false, false, false] (by kernel_rfl) rfl rfl trivial (fun hHeld => ?_); refine with_tabW span_Has.tab1 span_Has.bits1 (fun HT_ HW_ => ?_)
  generalize w9.drew = w10 at BK741 HB hHeld ⊢
  refine zpA 0 5 (h := ?_)
  refine zoA 1 6 (h := fun K hK => ?_)
  refine zgA Try.func24 (pattern_Class.calls k a1 t742 _ A3.out) (h := ?_)
  rintro w' ⟨nd, rfl⟩
  refine hK.out _ _ trivial (fun hHeld => ?_)
  clear hK K
  refine znA 6 (h := ?_)
  refine zpA 2 7 (h := ?_)
  refine zpA 3 8 (h := ?_)
  refine zpA 4 9 (h := ?_)
  refine zoA 5 10 (h := fun K hK => ?_)
  refine zgA Try.func39 (span_Point.calls k a1 true t744 t745 _ A7.out) (h := ?_)
  rintro w11 hb
  replace BK741 := zkb BK741 hb
  replace HB := zkB HB hb
  (try clear hb)
  refine hK.out _ _ trivial (fun hHeld => ?_)
  clear hK K
  refine znA 10 (h := ?_)
  refine zpA 6 11 (h := ?_)
  refine zpA 7 12 (h := ?_)
  refine zpA 8 13 (h := ?_)
  refine zpA 9 14 (h := ?_)
  refine zpU 10 15 (h := ?_)
  refine zpU 11 16 (h := ?_)
  refine zpU 12 17 (h := ?_)
  refine zpU 13 18 (h := ?_)
  refine zpA 14 19 (h := ?_)
  refine zpA 15 4 (h := ?_)
  refine done_ (done_of HT_.out (by kernel_rfl)) ?_
  try go_wp2
  go_ret
  exact ⟨zaE, zaB⟩
 replace c8 := Bool.eq_false_iff.mpr c8
 subst c8
 replace H := zif H
 obtain ⟨⟨t746, t747, t748⟩, A12, H⟩ := zbs H
 try dsimp only at H
 obtain ⟨t749, A13, H⟩ := zbs H
 try dsimp only at H
 obtain rfl := Option.some.inj H
 go_enter Try.func41, Try.ntmps41
 try go_wp2_with (first | ((with_reducible refine gtd 2 rfl ?_); refine zbx 2 #[.bool a0_0, .int .u64 a0_1, .int .u64 a0_2] 43 (h := ?_); intro gb741 hg w14 hbox hb; have GW741 := zkZ hg (zaB (p := Below w.heap.size w _)); replace HB := Aside0.mk (below_step zaB hb); have BK741 := Aside0.mk (hbox); clear hb hbox hg))
 replace BK741 := Aside0.mk (blk_drew BK741.out)
 replace HB := Aside0.mk (below_drew1 HB.out)
 refine start_ (n := 16) (S := fun w' => w'.cell? ⟨gb741, 0, none⟩ = some (.bool a0_0) ∧ w'.cell? ⟨gb741, 1, none⟩ = some (.int .u64 a0_1) ∧ w'.cell? ⟨gb741, 2, none⟩ = some (.int .u64 a0_2)) (ds := []) #[false, false, false, false, false, false, false, false, false, false, false, false, false, false, false, false] (by kernel_rfl) rfl rfl (ze3 BK741) (fun hHeld => ?_); refine with_tabW span_Has.tab1 span_Has.bits1 (fun HT_ HW_ => ?_)
 generalize w14.drew = w15 at BK741 HB hHeld ⊢
 refine zpA 0 5 (h := ?_)
 refine zoA 1 6 (h := fun K hK => ?_)
 refine zgA Try.func24 (pattern_Class.calls k a1 t742 _ A3.out) (h := ?_)
 rintro w' ⟨nd, rfl⟩
 refine hK.out _ _ (ze3 BK741) (fun hHeld => ?_)
 clear hK K
 refine znA 6 (h := ?_)
 refine zpA 2 7 (h := ?_)
 refine zpA 3 8 (h := ?_)
 refine zpA 4 9 (h := ?_)
 refine zoA 5 10 (h := fun K hK => ?_)
 refine zgA Try.func39 (span_Point.calls k a1 false t744 t745 _ A7.out) (h := ?_)
 rintro w16 hb
 replace BK741 := zkb BK741 hb
 replace HB := zkB HB hb
 (try clear hb)
 refine hK.out _ _ (ze3 BK741) (fun hHeld => ?_)
 clear hK K
 refine znA 10 (h := ?_)
 refine zpA 6 11 (h := ?_)
 refine zpA 7 12 (h := ?_)
 refine zpA 8 13 (h := ?_)
 refine zpA 9 14 (h := ?_)
 refine zpA 10 15 (h := ?_)
 refine ztA 12 17 (h := ?_)
 refine zoA 11 16 (h := fun K hK => ?_)
 refine zgA Try.func39 (span_Point.calls k a1 t746 t747 t748 _ A12.out) (h := ?_)
 rintro w17 hb
 replace BK741 := zkb BK741 hb
 replace HB := zkB HB hb
 (try clear hb)
 refine hK.out _ _ (ze3 BK741) (fun hHeld => ?_)
 clear hK K
 refine znA 16 (h := ?_)
 refine zoA 13 18 (h := fun K hK => ?_)
 refine zgA Try.func43 (span_Inside.calls k t746 t747 t748 a0_0 a0_1 a0_2 t749 _ A13.out) (h := ?_)
 rintro w18 hb
 replace BK741 := zkb BK741 hb
 replace HB := zkB HB hb
 (try clear hb)
 refine hK.out _ _ (ze3 BK741) (fun hHeld => ?_)
 clear hK K
 refine znA 18 (h := ?_)
 refine zpA 14 19 (h := ?_)
 refine zpA 15 4 (h := ?_)
 refine done_ (done_of HT_.out (by kernel_rfl)) ?_
 try go_wp2
 go_ret
 exact ⟨zaE, zaB⟩
def span_Join.T6 : Bool × List (List Nat × List Nat) := (true, [([], []), ([0], [0]), ([], []), ([2], [2]), ([1, 3], [1, 3]), ([4], [4]), ([], []), ([6], [6]), ([], []), ([8], [8]), ([7, 9], [7, 9]), ([10, 5], [10]), ([5, 11, 11], [5, 11]), ([12, 12, 0, 1, 2, 3, 4, 5, 6, 7, 8, 9, 10, 11, 12], [12])])
def span_Join.B6 : List Nat := [0, 1, 0, 4, 15, 31, 0, 64, 0, 256, 960, 2047, 4095, 8191]
theorem span_Join.tab6 : rtab .any (opsOf Try.f45 6) = span_Join.T6 := by kernel_rfl
theorem span_Join.bits6 : waitsOk span_Join.T6.2 span_Join.B6 = true := by kernel_rfl
theorem span_Join.calls (k : Nat) (A0 : Option Addr) (c0 : Nat) (l0 : List (S43)) (r1 : Bool) (r2 : Int) (r3 : Int) (w : World) (hr0 : Kd.C k43 w A0 l0.length l0) (hc0 : l0.length ≤ c0) (h : span_Join.f k l0 = some (r1, r2, r3)) :
  Calls Try.prog 45 #[.slice A0 l0.length c0] w fun e w' => e = .returned (.agg #[.bool r1, .int .u64 r2, .int .u64 r3]) ∧ Below w.heap.size w w' := by
 have hu43 := Try.underlying43
 have HR0 := Aside0.mk hr0
 have HC0 := Aside0.mk hc0
 clear hr0 hc0
 have HB := Aside0.mk (Below.refl w.heap.size w)
 have H := h
 unfold span_Join.f at H
 clear h
 obtain ⟨⟨t751, t752, t753⟩, A2, H⟩ := zbs H
 try dsimp only at H
 have H' := Aside0.mk H
 clear H
 go_enter Try.func45, Try.ntmps45
 go_wp2_with (first | ((with_reducible refine gtd 2 rfl ?_); refine zbx 2 #[.bool false, .int .u64 0, .int .u64 0] 43 (h := ?_); intro gb750 hg w3 hbox hb; have GW750 := zkZ hg (zaB (p := Below w.heap.size w _)); replace HB := Aside0.mk (below_step zaB hb); have BK750 := Aside0.mk (hbox); clear hb hbox hg) | ((with_reducible refine gtc 118 rfl ?_); refine zgL 6 Try.func118 (span_none.calls  t751 t752 t753 _ A2.out) (h := ?_); rintro w4 hb; replace BK750 := zkb BK750 hb; replace HB := zkB HB hb; (try clear hb)) | ((with_reducible refine gtd 3 rfl ?_); refine zbx 3 #[.bool false, .int .u64 0, .int .u64 0] 43 (h := ?_); intro gb754 hg w5 hbox hb; refine zbn1 HB BK750 hg hb hbox (c := ?_); clear HB BK750 hb hbox hg; intro GW754 NB750_754 BK750 HB BK754; refine zt1 NB750_754 fun _ _ => ?_; refine zu3 BK754 fun z7_0 z7_1 z7_2 f7_0 f7_1 f7_2 => ?_))
 (try simp only [Act.put, List.setIfInBounds_toArray, List.set_cons_zero, List.set_cons_succ])
 go_loopg [9] k (fun kq v9 w' => ∃ (x9_1 : Int) (x755000_1 : Bool) (x755001_1 : Int) (x755002_1 : Int), v9 = .int .i64 x9_1 ∧ Aside0 (span_Join.l0 kq l0 (l0.length : Int) x9_1 x755000_1 x755001_1 x755002_1 = some (r1, r2, r3)) ∧ Aside0 (kq ≤ k) ∧ Aside0 (w'.heap[gb750]? = some (.cells #[.bool false, .int .u64 0, .int .u64 0] 43 (0, 0))) ∧ Aside0 (w'.heap[gb754]? = some (.cells #[.bool x755000_1, .int .u64 x755001_1, .int .u64 x755002_1] 43 (0, 0))) ∧ Aside0 (Below w.heap.size w w'))
 case atStart => exact ⟨(0), (t751), (t752), (t753), zrl, H', ⟨Nat.le_refl _⟩, ⟨(zkf (zkf (zkf (zkq BK750) NB750_754.out _) NB750_754.out _) NB750_754.out _)⟩, ⟨(blk_put (cs := #[.bool t751, .int .u64 t752, .int .u64 0]) (blk_put (cs := #[.bool t751, .int .u64 0, .int .u64 0]) (blk_put (zkq BK754) 0 _ rfl) 1 _ rfl) 2 _ rfl)⟩, ⟨zaB⟩⟩
 case round =>
  clear H'
  try clear z7_0 z7_1 z7_2 f7_0 f7_1 f7_2
  obtain ⟨x9_1, x755000_1, x755001_1, x755002_1, rfl, HA, HK1, BK750, BK754, HB⟩ := hrel
  cases gk with
  | zero => exact absurd HA.out (by simp [span_Join.l0])
  | succ k1 =>
   have H := HA.out
   clear HA
   simp only [span_Join.l0] at H
   by_cases c8 : x9_1 < (l0.length : Int)
   ·rw [if_pos c8] at H
    have c8b0 : decide (x9_1 < (l0.length : Int)) = true := decide_eq_true c8
    clear c8
    by_cases c9 : 0 ≤ x9_1
    ·rw [if_pos c9] at H
     have c9b0 : decide (0 ≤ x9_1) = true := decide_eq_true c9
     clear c9
     by_cases c10 : x9_1 < (l0.length : Int)
     ·rw [if_pos c10] at H
      have c10b0 : decide (x9_1 < (l0.length : Int)) = true := decide_eq_true c10
      clear c10
      obtain ⟨⟨t757, t758, t759⟩, A11, H⟩ := zbs H
      try dsimp only at H
      by_cases c12 : t757 = true
      ·subst c12
       replace H := zit H
       have H' := Aside0.mk H
       clear H
       have p755 : 0 ≤ (x9_1 : Int) := of_decide_eq_true (by first | (with_reducible assumption) | assumption)
       have q755 : x9_1 < (l0.length : Int) := of_decide_eq_true (by first | (with_reducible assumption) | assumption)
       obtain ⟨ad755, e755, hx755_0, hx755_1, hx755_2⟩ := at_T43 HR0.out x9_1 p755 q755
       cases e755
       replace hx755_0 := (HB.out.cell (World.block_lt_of_cell? w _ hx755_0)).trans hx755_0
       replace hx755_1 := (HB.out.cell (World.block_lt_of_cell? w _ hx755_1)).trans hx755_1
       replace hx755_2 := (HB.out.cell (World.block_lt_of_cell? w _ hx755_2)).trans hx755_2
       replace p755 := eq_true p755
       replace q755 := eq_true q755
       go_wp2_with (first | ((with_reducible refine gtd 5 rfl ?_); refine zbx 5 #[.bool false, .int .u64 0, .int .u64 0] 43 (h := ?_); intro gb756 hg w13 hbox hb; refine zbn2 HB BK750 BK754 hg hb hbox (c := ?_); clear HB BK750 BK754 hb hbox hg; intro GW756 NB750_756 NB754_756 BK750 BK754 HB BK756; refine zt2 NB750_756 NB754_756 fun _ _ _ _ => ?_; refine zu3 BK756 fun _ _ _ _ _ _ => ?_) | ((with_reducible refine gtc 112 rfl ?_); refine zgL 14 Try.func112 (span_norm.calls k1 ((rd_T43 l0 x9_1).f0) ((rd_T43 l0 x9_1).f1) ((rd_T43 l0 x9_1).f2) true t758 t759 _ A11.out) (h := ?_); rintro w17 hb; replace BK750 := Aside0.mk (blk_below (zkf (zkf (zkf BK750.out NB750_756.out _) NB750_756.out _) NB750_756.out _) hb); replace BK754 := Aside0.mk (blk_below (zkf (zkf (zkf BK754.out NB754_756.out _) NB754_756.out _) NB754_756.out _) hb); replace BK756 := Aside0.mk (blk_below (o := .cells #[.bool ((rd_T43 l0 x9_1).f0), .int .u64 ((rd_T43 l0 x9_1).f1), .int .u64 ((rd_T43 l0 x9_1).f2)] 43 (0, 0)) (blk_put (cs := #[.bool ((rd_T43 l0 x9_1).f0), .int .u64 ((rd_T43 l0 x9_1).f1), .int .u64 0]) (blk_put (cs := #[.bool ((rd_T43 l0 x9_1).f0), .int .u64 0, .int .u64 0]) (blk_put BK756.out 0 _ rfl) 1 _ rfl) 2 _ rfl) hb); replace HB := Aside0.mk (below_step (below_set (below_set (below_set HB.out GW756.out) GW756.out) GW756.out) hb); (try clear hb); have z18_0 : w17.cell? ⟨gb756, 0, none⟩ = some (.bool ((rd_T43 l0 x9_1).f0)) := (blk_cell BK756.out 0).trans rfl; have z18_1 : w17.cell? ⟨gb756, 1, none⟩ = some (.int .u64 ((rd_T43 l0 x9_1).f1)) := (blk_cell BK756.out 1).trans rfl; have z18_2 : w17.cell? ⟨gb756, 2, none⟩ = some (.int .u64 ((rd_T43 l0 x9_1).f2)) := (blk_cell BK756.out 2).trans rfl; have f18_0 := blk_frozen BK756.out 0; have f18_1 := blk_frozen BK756.out 1; have f18_2 := blk_frozen BK756.out 2))
       go_roundg k1
       case measure => have := HK1.out; omega
       case rel => exact ⟨(wrap64 (x9_1 + 1)), (x755000_1), (x755001_1), (x755002_1), zrl, H', ⟨by have := HK1.out; omega⟩, ⟨(zkf (zkf (zkf (zkq BK750) NB750_756.out _) NB750_756.out _) NB750_756.out _)⟩, ⟨(zkf (zkf (zkf (zkq BK754) NB754_756.out _) NB754_756.out _) NB754_756.out _)⟩, ⟨zaB⟩⟩
      replace c12 := Bool.eq_false_iff.mpr c12
      subst c12
      replace H := zif H
      by_cases c19 : x755000_1 = true
      ·subst c19
       replace H := zit H
       have H' := Aside0.mk H
       clear H
       have p755 : 0 ≤ (x9_1 : Int) := of_decide_eq_true (by first | (with_reducible assumption) | assumption)
       have q755 : x9_1 < (l0.length : Int) := of_decide_eq_true (by first | (with_reducible assumption) | assumption)
       obtain ⟨ad755, e755, hx755_0, hx755_1, hx755_2⟩ := at_T43 HR0.out x9_1 p755 q755
       cases e755
       replace hx755_0 := (HB.out.cell (World.block_lt_of_cell? w _ hx755_0)).trans hx755_0
       replace hx755_1 := (HB.out.cell (World.block_lt_of_cell? w _ hx755_1)).trans hx755_1
       replace hx755_2 := (HB.out.cell (World.block_lt_of_cell? w _ hx755_2)).trans hx755_2
       replace p755 := eq_true p755
       replace q755 := eq_true q755
       go_wp2_with (first | ((with_reducible refine gtd 5 rfl ?_); refine zbx 5 #[.bool false, .int .u64 0, .int .u64 0] 43 (h := ?_); intro gb756 hg w20 hbox hb; refine zbn2 HB BK750 BK754 hg hb hbox (c := ?_); clear HB BK750 BK754 hb hbox hg; intro GW756 NB750_756 NB754_756 BK750 BK754 HB BK756; refine zt2 NB750_756 NB754_756 fun _ _ _ _ => ?_; refine zu3 BK756 fun _ _ _ _ _ _ => ?_) | ((with_reducible refine gtc 112 rfl ?_); refine zgL 14 Try.func112 (span_norm.calls k1 ((rd_T43 l0 x9_1).f0) ((rd_T43 l0 x9_1).f1) ((rd_T43 l0 x9_1).f2) false t758 t759 _ A11.out) (h := ?_); rintro w24 hb; replace BK750 := Aside0.mk (blk_below (zkf (zkf (zkf BK750.out NB750_756.out _) NB750_756.out _) NB750_756.out _) hb); replace BK754 := Aside0.mk (blk_below (zkf (zkf (zkf BK754.out NB754_756.out _) NB754_756.out _) NB754_756.out _) hb); replace BK756 := Aside0.mk (blk_below (o := .cells #[.bool ((rd_T43 l0 x9_1).f0), .int .u64 ((rd_T43 l0 x9_1).f1), .int .u64 ((rd_T43 l0 x9_1).f2)] 43 (0, 0)) (blk_put (cs := #[.bool ((rd_T43 l0 x9_1).f0), .int .u64 ((rd_T43 l0 x9_1).f1), .int .u64 0]) (blk_put (cs := #[.bool ((rd_T43 l0 x9_1).f0), .int .u64 0, .int .u64 0]) (blk_put BK756.out 0 _ rfl) 1 _ rfl) 2 _ rfl) hb); replace HB := Aside0.mk (below_step (below_set (below_set (below_set HB.out GW756.out) GW756.out) GW756.out) hb); (try clear hb); have z25_0 : w24.cell? ⟨gb756, 0, none⟩ = some (.bool ((rd_T43 l0 x9_1).f0)) := (blk_cell BK756.out 0).trans rfl; have z25_1 : w24.cell? ⟨gb756, 1, none⟩ = some (.int .u64 ((rd_T43 l0 x9_1).f1)) := (blk_cell BK756.out 1).trans rfl; have z25_2 : w24.cell? ⟨gb756, 2, none⟩ = some (.int .u64 ((rd_T43 l0 x9_1).f2)) := (blk_cell BK756.out 2).trans rfl; have f25_0 := blk_frozen BK756.out 0; have f25_1 := blk_frozen BK756.out 1; have f25_2 := blk_frozen BK756.out 2; refine zt1 NB750_754 fun _ _ => ?_; refine zu3 BK754 fun _ _ _ _ _ _ => ?_))
       go_roundg k1
       case measure => have := HK1.out; omega
       case rel => exact ⟨(wrap64 (x9_1 + 1)), (false), (t758), (t759), zrl, H', ⟨by have := HK1.out; omega⟩, ⟨(zkf (zkf (zkf (zkf (zkf (zkf (zkq BK750) NB750_756.out _) NB750_756.out _) NB750_756.out _) NB750_754.out _) NB750_754.out _) NB750_754.out _)⟩, ⟨(blk_put (cs := #[.bool false, .int .u64 t758, .int .u64 x755002_1]) (blk_put (cs := #[.bool false, .int .u64 x755001_1, .int .u64 x755002_1]) (blk_put (zkf (zkf (zkf (zkq BK754) NB754_756.out _) NB754_756.out _) NB754_756.out _) 0 _ rfl) 1 _ rfl) 2 _ rfl)⟩, ⟨zaB⟩⟩
      replace c19 := Bool.eq_false_iff.mpr c19
      subst c19
      replace H := zif H
      obtain ⟨y760, hy760⟩ : ∃ y_ : List Int, y_ = (([x755001_1, t758] : List Int)) := ⟨_, rfl⟩
      replace H : ((pattern_Min.f k1 y760).bind fun t763 => ((pattern_Max.f k1 (([x755002_1, t759] : List Int))).bind fun t767 => ((span_Make.f k1 t763 t767).bind fun bt768 => (span_Join.l0 k1 l0 (l0.length : Int) (wrap64 (x9_1 + 1)) bt768.1 bt768.2.1 bt768.2.2)))) = some (r1, r2, r3) := by first | (rw [hy760]; with_reducible exact H) | (have H2_ := (Option.bind_some _ _).symm.trans H; rw [hy760]; with_reducible exact H2_) | (have H2_ := (Option.bind_some _ _).symm.trans H; with_reducible exact H2_) | with_reducible exact H | (rw [hy760]; exact H) | exact H
      have Ny760 := Aside0.mk hy760
      clear hy760
      obtain ⟨t763, A28, H⟩ := zbs H
      try dsimp only at H
      obtain ⟨y764, hy764⟩ : ∃ y_ : List Int, y_ = (([x755002_1, t759] : List Int)) := ⟨_, rfl⟩
      replace H : ((pattern_Max.f k1 y764).bind fun t767 => ((span_Make.f k1 t763 t767).bind fun bt768 => (span_Join.l0 k1 l0 (l0.length : Int) (wrap64 (x9_1 + 1)) bt768.1 bt768.2.1 bt768.2.2))) = some (r1, r2, r3) := by first | (rw [hy764]; with_reducible exact H) | (have H2_ := (Option.bind_some _ _).symm.trans H; rw [hy764]; with_reducible exact H2_) | (have H2_ := (Option.bind_some _ _).symm.trans H; with_reducible exact H2_) | with_reducible exact H | (rw [hy764]; exact H) | exact H
      have Ny764 := Aside0.mk hy764
      clear hy764
      obtain ⟨t767, A29, H⟩ := zbs H
      try dsimp only at H
      obtain ⟨⟨t768, t769, t770⟩, A30, H⟩ := zbs H
      try dsimp only at H
      have H' := Aside0.mk H
      clear H
      have p755 : 0 ≤ (x9_1 : Int) := of_decide_eq_true (by first | (with_reducible assumption) | assumption)
      have q755 : x9_1 < (l0.length : Int) := of_decide_eq_true (by first | (with_reducible assumption) | assumption)
      obtain ⟨ad755, e755, hx755_0, hx755_1, hx755_2⟩ := at_T43 HR0.out x9_1 p755 q755
      cases e755
      replace hx755_0 := (HB.out.cell (World.block_lt_of_cell? w _ hx755_0)).trans hx755_0
      replace hx755_1 := (HB.out.cell (World.block_lt_of_cell? w _ hx755_1)).trans hx755_1
      replace hx755_2 := (HB.out.cell (World.block_lt_of_cell? w _ hx755_2)).trans hx755_2
      replace p755 := eq_true p755
      replace q755 := eq_true q755
      try go_wp2_with (first | ((with_reducible refine gtd 5 rfl ?_); refine zbx 5 #[.bool false, .int .u64 0, .int .u64 0] 43 (h := ?_); intro gb756 hg w31 hbox hb; refine zbn2 HB BK750 BK754 hg hb hbox (c := ?_); clear HB BK750 BK754 hb hbox hg; intro GW756 NB750_756 NB754_756 BK750 BK754 HB BK756; refine zt2 NB750_756 NB754_756 fun _ _ _ _ => ?_; refine zu3 BK756 fun _ _ _ _ _ _ => ?_) | ((with_reducible refine gtc 112 rfl ?_); refine zgL 14 Try.func112 (span_norm.calls k1 ((rd_T43 l0 x9_1).f0) ((rd_T43 l0 x9_1).f1) ((rd_T43 l0 x9_1).f2) false t758 t759 _ A11.out) (h := ?_); rintro w35 hb; replace BK750 := Aside0.mk (blk_below (zkf (zkf (zkf BK750.out NB750_756.out _) NB750_756.out _) NB750_756.out _) hb); replace BK754 := Aside0.mk (blk_below (zkf (zkf (zkf BK754.out NB754_756.out _) NB754_756.out _) NB754_756.out _) hb); replace BK756 := Aside0.mk (blk_below (o := .cells #[.bool ((rd_T43 l0 x9_1).f0), .int .u64 ((rd_T43 l0 x9_1).f1), .int .u64 ((rd_T43 l0 x9_1).f2)] 43 (0, 0)) (blk_put (cs := #[.bool ((rd_T43 l0 x9_1).f0), .int .u64 ((rd_T43 l0 x9_1).f1), .int .u64 0]) (blk_put (cs := #[.bool ((rd_T43 l0 x9_1).f0), .int .u64 0, .int .u64 0]) (blk_put BK756.out 0 _ rfl) 1 _ rfl) 2 _ rfl) hb); replace HB := Aside0.mk (below_step (below_set (below_set (below_set HB.out GW756.out) GW756.out) GW756.out) hb); (try clear hb); have z36_0 : w35.cell? ⟨gb756, 0, none⟩ = some (.bool ((rd_T43 l0 x9_1).f0)) := (blk_cell BK756.out 0).trans rfl; have z36_1 : w35.cell? ⟨gb756, 1, none⟩ = some (.int .u64 ((rd_T43 l0 x9_1).f1)) := (blk_cell BK756.out 1).trans rfl; have z36_2 : w35.cell? ⟨gb756, 2, none⟩ = some (.int .u64 ((rd_T43 l0 x9_1).f2)) := (blk_cell BK756.out 2).trans rfl; have f36_0 := blk_frozen BK756.out 0; have f36_1 := blk_frozen BK756.out 1; have f36_2 := blk_frozen BK756.out 2; refine zt1 NB750_754 fun _ _ => ?_; refine zu3 BK754 fun _ _ _ _ _ _ => ?_))
      generalize hW_ : (((w35.setCell ⟨gb756, 0, none⟩ (.bool false)).setCell ⟨gb756, 1, none⟩ (.int .u64 t758)).setCell ⟨gb756, 2, none⟩ (.int .u64 t759)) = w39
      replace BK750 := zkg hW_ (zkf (zkf (zkf BK750.out NB750_756.out _) NB750_756.out _) NB750_756.out _)
      replace BK754 := zkg hW_ (zkf (zkf (zkf BK754.out NB754_756.out _) NB754_756.out _) NB754_756.out _)
      replace BK756 := zkg hW_ (ob := .cells #[.bool false, .int .u64 t758, .int .u64 t759] 43 (0, 0)) (blk_put (cs := #[.bool false, .int .u64 t758, .int .u64 ((rd_T43 l0 x9_1).f2)]) (blk_put (cs := #[.bool false, .int .u64 ((rd_T43 l0 x9_1).f1), .int .u64 ((rd_T43 l0 x9_1).f2)]) (blk_put BK756.out 0 _ rfl) 1 _ rfl) 2 _ rfl)
      replace HB := zkG hW_ (below_set (below_set (below_set HB.out GW756.out) GW756.out) GW756.out)
      clear hW_
      replace BK750 := Aside0.mk (blk_drew BK750.out)
      replace BK754 := Aside0.mk (blk_drew BK754.out)
      replace BK756 := Aside0.mk (blk_drew BK756.out)
      replace HB := Aside0.mk (below_drew1 HB.out)
      refine start_ (n := 14) (S := fun w' => w'.cell? ⟨gb754, 0, none⟩ = some (.bool false) ∧ w'.cell? ⟨gb754, 1, none⟩ = some (.int .u64 x755001_1) ∧ w'.cell? ⟨gb754, 2, none⟩ = some (.int .u64 x755002_1) ∧ w'.cell? ⟨gb756, 0, none⟩ = some (.bool false) ∧ w'.cell? ⟨gb756, 1, none⟩ = some (.int .u64 t758) ∧ w'.cell? ⟨gb756, 2, none⟩ = some (.int .u64 t759)) (ds := [13]) #[false, false, false, false, false, false, false, false, false, false, false, false, false, false] (by kernel_rfl) rfl rfl (zk3 BK754 (ze3 BK756)) (fun hHeld => ?_); refine with_tabW span_Join.tab6 span_Join.bits6 (fun HT_ HW_ => ?_)
      generalize w39.drew = w40 at BK750 BK754 BK756 HB hHeld ⊢
      refine zpA 0 15 (h := ?_)
      refine zpA 2 17 (h := ?_)
      refine zpA 6 21 (h := ?_)
      refine zpA 8 23 (h := ?_)
      refine ztA 1 16 (h := ?_)
      refine ztA 3 18 (h := ?_)
      refine ztA 7 22 (h := ?_)
      refine ztA 9 24 (h := ?_)
      refine join_ (σ := Value × Value) 3 #[true, true, true, true, true, true, true, true, true, true, true, false, false, false] (fun s_ => [(19, s_.1), (20, .int .u64 t763), (25, s_.2)]) (fun s_ w' => (w'.cell? ⟨gb754, 0, none⟩ = some (.bool false) ∧ w'.cell? ⟨gb754, 1, none⟩ = some (.int .u64 x755001_1) ∧ w'.cell? ⟨gb754, 2, none⟩ = some (.int .u64 x755002_1) ∧ w'.cell? ⟨gb756, 0, none⟩ = some (.bool false) ∧ w'.cell? ⟨gb756, 1, none⟩ = some (.int .u64 t758) ∧ w'.cell? ⟨gb756, 2, none⟩ = some (.int .u64 t759)) ∧ (Kd.R (Kd.int .u64) 23 w' w.heap.size (fun k_ => some k_ ≠ (s_.2 : Value).ownBlock) s_.1 y760) ∧ (Kd.R (Kd.int .u64) 23 w' w.heap.size (fun k_ => some k_ ≠ (s_.1 : Value).ownBlock) s_.2 y764) ∧ (w'.heap[gb750]? = some (.cells #[.bool false, .int .u64 0, .int .u64 0] 43 (0, 0))) ∧ (w'.heap[gb754]? = some (.cells #[.bool false, .int .u64 x755001_1, .int .u64 x755002_1] 43 (0, 0))) ∧ (w'.heap[gb756]? = some (.cells #[.bool false, .int .u64 t758, .int .u64 t759] 43 (0, 0))) ∧ (Below w.heap.size w w')) ?_ ?_
      rotate_left
      ·intro hCont
       refine two_ (i := 4) (j := 10) (Ni := some 19) (Nj := some 25) #[true, true, true, true, true, false, true, true, true, true, false, false, false, false] #[true, true, true, true, false, false, true, true, true, true, true, false, false, false] rfl rfl rfl rfl (two_of HT_.out (by kernel_rfl)) (by decide) (by decide) (fun K hK => ?_) (fun K hK => ?_)
       ·skip
        refine Kd.R_lit_step (Kd.int .u64) _ 23 ?hg (N := 19) ?hd (xs := ([x755001_1, t758] : List Int)) (inner := [.int .u64 x755001_1, .int .u64 t758]) (ok := fun _ => True) (okp := fun _ => True) ?hr ?hp (fun _ hk => hk) trivial (Below.refl _ _) (Nat.le_refl _) (by simp) ?_; (case hd => rfl); (case hg => rfl); (case hr => first | (go_simp; done) | (go_simp; rfl)); (case hp => exact (Reps.one (show Kd.M (Kd.int .u64) _ _ _ x755001_1 [.int .u64 x755001_1] from rfl) (Reps.one (show Kd.M (Kd.int .u64) _ _ _ t758 [.int .u64 t758] from rfl) (Reps.none _ _))))
        intro v761 w41 ho42 hb hg_ hnew_
        clear hg_ hnew_
        (first | rw [← Ny760.out] at ho42 | (simp only [Int.reduceToNat] at ho42; rw [← Ny760.out] at ho42))
        have HO762 := Aside0.mk (Kd.R_lower ho42 (below_size zaB))
        replace BK750 := zkb BK750 hb
        replace BK754 := zkb BK754 hb
        replace BK756 := zkb BK756 hb
        replace HB := zkB HB hb
        clear hb ho42
        obtain ⟨Ao43, co43, eo43⟩ := Kd.R_slice HO762.out
        (first | subst eo43 | (injection eo43 with f1_ f2_ f3_; have f4_ := f1_.symm; have f5_ := f3_.symm; clear f1_ f2_ f3_; subst f4_; subst f5_))
        refine hK.out _ _ (zk3 BK754 (ze3 BK756)) (fun hHeld => ?_)
        clear hK K
        refine znA 19 (h := ?_)
        refine two_ (i := 5) (j := 10) (Ni := some 20) (Nj := some 25) #[true, true, true, true, true, true, true, true, true, true, false, false, false, false] #[true, true, true, true, true, false, true, true, true, true, true, false, false, false] rfl rfl rfl rfl (two_of HT_.out (by kernel_rfl)) (by decide) (by decide) (fun K hK => ?_) (fun K hK => ?_)
        ·skip
         refine goes_ Try.func119 (by kernel_rfl) rfl #[.slice Ao43 y760.length co43] (by rfl) rfl rfl (by (try simp only [List.map_toArray, List.map_cons, List.map_nil]); first | done | rfl | (simp only [List.length_drop, List.length_take]; rfl)) ?_
         with_reducible refine (pattern_Min.calls k1 _ _ y760 t763 _ ?side1 ?side2 A28.out).mono ?_
         (case side1 => repeat (first | exact (Kd.R_reads' HO762.out).2.2 | (with_reducible refine Kd.C_alloc ?_ _) | (with_reducible refine Kd.C_drewN ?_ _) | (with_reducible refine Kd.C_drew ?_)))
         (case side2 => exact (Kd.R_reads' HO762.out).2.1)
         rintro e w44 ⟨rfl, hb⟩
         refine ⟨_, rfl, ?_⟩
         replace HO762 := Aside0.mk (Kd.R_below (zRW HO762.out) hb)
         refine zcn3 HB BK750 BK754 BK756 hb (c := ?_)
         clear HB BK750 BK754 BK756 hb
         intro BK750 BK754 BK756 HB
         refine hK.out _ _ (zk3 BK754 (ze3 BK756)) (fun hHeld => ?_)
         clear hK K
         refine znA 20 (h := ?_)
         refine zoA 10 25 (h := fun K hK => ?_)
         refine Kd.R_lit_step (Kd.int .u64) _ 23 ?hg (N := 25) ?hd (xs := ([x755002_1, t759] : List Int)) (inner := [.int .u64 x755002_1, .int .u64 t759]) (ok := fun _ => True) (okp := fun _ => True) ?hr ?hp (fun _ hk => hk) trivial (Below.refl _ _) (Nat.le_refl _) (by simp) ?_; (case hd => rfl); (case hg => rfl); (case hr => first | (go_simp; done) | (go_simp; rfl)); (case hp => exact (Reps.one (show Kd.M (Kd.int .u64) _ _ _ x755002_1 [.int .u64 x755002_1] from rfl) (Reps.one (show Kd.M (Kd.int .u64) _ _ _ t759 [.int .u64 t759] from rfl) (Reps.none _ _))))
         intro v765 w45 ho46 hb hg_ hnew_
         clear hg_ hnew_
         (first | rw [← Ny764.out] at ho46 | (simp only [Int.reduceToNat] at ho46; rw [← Ny764.out] at ho46))
         have HO766 := Aside0.mk (Kd.R_lower (Kd.R_new' ho46 (Kd.R_lt (zRW HO762.out))) (below_size zaB))
         replace HO762 := Aside0.mk (Kd.R_elder' (zRW HO762.out) (Kd.R_base ho46) hb)
         replace BK750 := zkb BK750 hb
         replace BK754 := zkb BK754 hb
         replace BK756 := zkb BK756 hb
         replace HB := zkB HB hb
         clear hb ho46
         refine hK.out _ _ (zk3 BK754 (ze3 BK756)) (fun hHeld => ?_)
         clear hK K
         refine znA 25 (h := ?_)
         exact norm_ (by simp only [putAll, Act.put, List.setIfInBounds_toArray, List.set_cons_zero, List.set_cons_succ]) (hCont (.slice Ao43 y760.length co43, v765) _ ⟨hHeld, (by (with_reducible repeat (first | apply Kd.R_alloc | apply Kd.R_drewN | apply Kd.R_drew)); exact Kd.R_mono HO762.out (fun _ hk => hk.2)), (by (with_reducible repeat (first | apply Kd.R_alloc | apply Kd.R_drewN | apply Kd.R_drew)); exact Kd.R_mono HO766.out (fun _ hk => hk.2)), (zkq BK750), (zkq BK754), (zkq BK756), zaB⟩)
        skip
        refine Kd.R_lit_step (Kd.int .u64) _ 23 ?hg (N := 25) ?hd (xs := ([x755002_1, t759] : List Int)) (inner := [.int .u64 x755002_1, .int .u64 t759]) (ok := fun _ => True) (okp := fun _ => True) ?hr ?hp (fun _ hk => hk) trivial (Below.refl _ _) (Nat.le_refl _) (by simp) ?_; (case hd => rfl); (case hg => rfl); (case hr => first | (go_simp; done) | (go_simp; rfl)); (case hp => exact (Reps.one (show Kd.M (Kd.int .u64) _ _ _ x755002_1 [.int .u64 x755002_1] from rfl) (Reps.one (show Kd.M (Kd.int .u64) _ _ _ t759 [.int .u64 t759] from rfl) (Reps.none _ _))))
        intro v765 w43 ho44 hb hg_ hnew_
        clear hg_ hnew_
        (first | rw [← Ny764.out] at ho44 | (simp only [Int.reduceToNat] at ho44; rw [← Ny764.out] at ho44))
        have HO766 := Aside0.mk (Kd.R_lower (Kd.R_new' ho44 (Kd.R_lt (zRW HO762.out))) (below_size zaB))
        replace HO762 := Aside0.mk (Kd.R_elder' (zRW HO762.out) (Kd.R_base ho44) hb)
        replace BK750 := zkb BK750 hb
        replace BK754 := zkb BK754 hb
        replace BK756 := zkb BK756 hb
        replace HB := zkB HB hb
        clear hb ho44
        obtain ⟨Ao45, co45, eo45⟩ := Kd.R_slice HO762.out
        (first | subst eo45 | (injection eo45 with f1_ f2_ f3_; have f4_ := f1_.symm; have f5_ := f3_.symm; clear f1_ f2_ f3_; subst f4_; subst f5_))
        refine hK.out _ _ (zk3 BK754 (ze3 BK756)) (fun hHeld => ?_)
        clear hK K
        refine znA 25 (h := ?_)
        refine zoA 5 20 (h := fun K hK => ?_)
        refine goes_ Try.func119 (by kernel_rfl) rfl #[.slice Ao45 y760.length co45] (by rfl) rfl rfl (by (try simp only [List.map_toArray, List.map_cons, List.map_nil]); first | done | rfl | (simp only [List.length_drop, List.length_take]; rfl)) ?_
        with_reducible refine (pattern_Min.calls k1 _ _ y760 t763 _ ?side1 ?side2 A28.out).mono ?_
        (case side1 => repeat (first | exact (Kd.R_reads' HO762.out).2.2 | (with_reducible refine Kd.C_alloc ?_ _) | (with_reducible refine Kd.C_drewN ?_ _) | (with_reducible refine Kd.C_drew ?_)))
        (case side2 => exact (Kd.R_reads' HO762.out).2.1)
        rintro e w46 ⟨rfl, hb⟩
        refine ⟨_, rfl, ?_⟩
        replace HO762 := Aside0.mk (Kd.R_below (zRW HO762.out) hb)
        replace HO766 := Aside0.mk (Kd.R_below (zRW HO766.out) hb)
        refine zcn3 HB BK750 BK754 BK756 hb (c := ?_)
        clear HB BK750 BK754 BK756 hb
        intro BK750 BK754 BK756 HB
        refine hK.out _ _ (zk3 BK754 (ze3 BK756)) (fun hHeld => ?_)
        clear hK K
        refine znA 20 (h := ?_)
        exact norm_ (by simp only [putAll, Act.put, List.setIfInBounds_toArray, List.set_cons_zero, List.set_cons_succ]) (hCont (.slice Ao45 y760.length co45, v765) _ ⟨hHeld, (by (with_reducible repeat (first | apply Kd.R_alloc | apply Kd.R_drewN | apply Kd.R_drew)); exact Kd.R_mono HO762.out (fun _ hk => hk.2)), (by (with_reducible repeat (first | apply Kd.R_alloc | apply Kd.R_drewN | apply Kd.R_drew)); exact Kd.R_mono HO766.out (fun _ hk => hk.2)), (zkq BK750), (zkq BK754), (zkq BK756), zaB⟩)
       skip
       refine Kd.R_lit_step (Kd.int .u64) _ 23 ?hg (N := 25) ?hd (xs := ([x755002_1, t759] : List Int)) (inner := [.int .u64 x755002_1, .int .u64 t759]) (ok := fun _ => True) (okp := fun _ => True) ?hr ?hp (fun _ hk => hk) trivial (Below.refl _ _) (Nat.le_refl _) (by simp) ?_; (case hd => rfl); (case hg => rfl); (case hr => first | (go_simp; done) | (go_simp; rfl)); (case hp => exact (Reps.one (show Kd.M (Kd.int .u64) _ _ _ x755002_1 [.int .u64 x755002_1] from rfl) (Reps.one (show Kd.M (Kd.int .u64) _ _ _ t759 [.int .u64 t759] from rfl) (Reps.none _ _))))
       intro v765 w41 ho42 hb hg_ hnew_
       clear hg_ hnew_
       (first | rw [← Ny764.out] at ho42 | (simp only [Int.reduceToNat] at ho42; rw [← Ny764.out] at ho42))
       have HO766 := Aside0.mk (Kd.R_lower ho42 (below_size zaB))
       replace BK750 := zkb BK750 hb
       replace BK754 := zkb BK754 hb
       replace BK756 := zkb BK756 hb
       replace HB := zkB HB hb
       clear hb ho42
       refine hK.out _ _ (zk3 BK754 (ze3 BK756)) (fun hHeld => ?_)
       clear hK K
       refine znA 25 (h := ?_)
       refine zoA 4 19 (h := fun K hK => ?_)
       refine Kd.R_lit_step (Kd.int .u64) _ 23 ?hg (N := 19) ?hd (xs := ([x755001_1, t758] : List Int)) (inner := [.int .u64 x755001_1, .int .u64 t758]) (ok := fun _ => True) (okp := fun _ => True) ?hr ?hp (fun _ hk => hk) trivial (Below.refl _ _) (Nat.le_refl _) (by simp) ?_; (case hd => rfl); (case hg => rfl); (case hr => first | (go_simp; done) | (go_simp; rfl)); (case hp => exact (Reps.one (show Kd.M (Kd.int .u64) _ _ _ x755001_1 [.int .u64 x755001_1] from rfl) (Reps.one (show Kd.M (Kd.int .u64) _ _ _ t758 [.int .u64 t758] from rfl) (Reps.none _ _))))
       intro v761 w43 ho44 hb hg_ hnew_
       clear hg_ hnew_
       (first | rw [← Ny760.out] at ho44 | (simp only [Int.reduceToNat] at ho44; rw [← Ny760.out] at ho44))
       have HO762 := Aside0.mk (Kd.R_lower (Kd.R_new' ho44 (Kd.R_lt (zRW HO766.out))) (below_size zaB))
       replace HO766 := Aside0.mk (Kd.R_elder' (zRW HO766.out) (Kd.R_base ho44) hb)
       replace BK750 := zkb BK750 hb
       replace BK754 := zkb BK754 hb
       replace BK756 := zkb BK756 hb
       replace HB := zkB HB hb
       clear hb ho44
       obtain ⟨Ao45, co45, eo45⟩ := Kd.R_slice HO762.out
       (first | subst eo45 | (injection eo45 with f1_ f2_ f3_; have f4_ := f1_.symm; have f5_ := f3_.symm; clear f1_ f2_ f3_; subst f4_; subst f5_))
       refine hK.out _ _ (zk3 BK754 (ze3 BK756)) (fun hHeld => ?_)
       clear hK K
       refine znA 19 (h := ?_)
       refine zoA 5 20 (h := fun K hK => ?_)
       refine goes_ Try.func119 (by kernel_rfl) rfl #[.slice Ao45 y760.length co45] (by rfl) rfl rfl (by (try simp only [List.map_toArray, List.map_cons, List.map_nil]); first | done | rfl | (simp only [List.length_drop, List.length_take]; rfl)) ?_
       with_reducible refine (pattern_Min.calls k1 _ _ y760 t763 _ ?side1 ?side2 A28.out).mono ?_
       (case side1 => repeat (first | exact (Kd.R_reads' HO762.out).2.2 | (with_reducible refine Kd.C_alloc ?_ _) | (with_reducible refine Kd.C_drewN ?_ _) | (with_reducible refine Kd.C_drew ?_)))
       (case side2 => exact (Kd.R_reads' HO762.out).2.1)
       rintro e w46 ⟨rfl, hb⟩
       refine ⟨_, rfl, ?_⟩
       replace HO766 := Aside0.mk (Kd.R_below (zRW HO766.out) hb)
       replace HO762 := Aside0.mk (Kd.R_below (zRW HO762.out) hb)
       refine zcn3 HB BK750 BK754 BK756 hb (c := ?_)
       clear HB BK750 BK754 BK756 hb
       intro BK750 BK754 BK756 HB
       refine hK.out _ _ (zk3 BK754 (ze3 BK756)) (fun hHeld => ?_)
       clear hK K
       refine znA 20 (h := ?_)
       exact norm_ (by simp only [putAll, Act.put, List.setIfInBounds_toArray, List.set_cons_zero, List.set_cons_succ]) (hCont (.slice Ao45 y760.length co45, v765) _ ⟨hHeld, (by (with_reducible repeat (first | apply Kd.R_alloc | apply Kd.R_drewN | apply Kd.R_drew)); exact Kd.R_mono HO762.out (fun _ hk => hk.2)), (by (with_reducible repeat (first | apply Kd.R_alloc | apply Kd.R_drewN | apply Kd.R_drew)); exact Kd.R_mono HO766.out (fun _ hk => hk.2)), (zkq BK750), (zkq BK754), (zkq BK756), zaB⟩)
      rintro ⟨v761, v765⟩ w47 ⟨hS_, h0_, h1_, h2_, h3_, h4_, h5_⟩
      have n0_ : Aside0 (Kd.R (Kd.int .u64) 23 w47 w.heap.size (fun k_ => some k_ ≠ (v765 : Value).ownBlock) v761 y760) := ⟨h0_⟩
      have n1_ : Aside0 (Kd.R (Kd.int .u64) 23 w47 w.heap.size (fun k_ => some k_ ≠ (v761 : Value).ownBlock) v765 y764) := ⟨h1_⟩
      have n2_ : Aside0 (w47.heap[gb750]? = some (.cells #[.bool false, .int .u64 0, .int .u64 0] 43 (0, 0))) := ⟨h2_⟩
      have n3_ : Aside0 (w47.heap[gb754]? = some (.cells #[.bool false, .int .u64 x755001_1, .int .u64 x755002_1] 43 (0, 0))) := ⟨h3_⟩
      have n4_ : Aside0 (w47.heap[gb756]? = some (.cells #[.bool false, .int .u64 t758, .int .u64 t759] 43 (0, 0))) := ⟨h4_⟩
      have n5_ : Aside0 (Below w.heap.size w w47) := ⟨h5_⟩
      clear BK750
      clear BK754
      clear BK756
      clear HB
      clear h0_ h1_ h2_ h3_ h4_ h5_
      have HO762 := n0_
      have HO766 := n1_
      have BK750 := n2_
      have BK754 := n3_
      have BK756 := n4_
      have HB := n5_
      clear n0_ n1_ n2_ n3_ n4_ n5_
      have hHeld : w47.cell? ⟨gb754, 0, none⟩ = some (.bool false) ∧ w47.cell? ⟨gb754, 1, none⟩ = some (.int .u64 x755001_1) ∧ w47.cell? ⟨gb754, 2, none⟩ = some (.int .u64 x755002_1) ∧ w47.cell? ⟨gb756, 0, none⟩ = some (.bool false) ∧ w47.cell? ⟨gb756, 1, none⟩ = some (.int .u64 t758) ∧ w47.cell? ⟨gb756, 2, none⟩ = some (.int .u64 t759) := hS_
      obtain ⟨Ao48, co48, eo48⟩ := Kd.R_slice HO766.out
      (first | subst eo48 | (injection eo48 with f1_ f2_ f3_; have f4_ := f1_.symm; have f5_ := f3_.symm; clear f1_ f2_ f3_; subst f4_; subst f5_))
      refine norm_ (a' := ?_) ?_ ?_
      rotate_left
      ·simp only [putAll, Act.put, List.setIfInBounds_toArray, List.set_cons_zero, List.set_cons_succ]
       rfl
      refine zoA 11 26 (h := fun K hK => ?_)
      refine goes_ Try.func120 (by kernel_rfl) rfl #[.slice Ao48 y764.length co48] (by rfl) rfl rfl (by (try simp only [List.map_toArray, List.map_cons, List.map_nil]); first | done | rfl | (simp only [List.length_drop, List.length_take]; rfl)) ?_
      with_reducible refine (pattern_Max.calls k1 _ _ y764 t767 _ ?side1 ?side2 A29.out).mono ?_
      (case side1 => repeat (first | exact (Kd.R_reads' HO766.out).2.2 | (with_reducible refine Kd.C_alloc ?_ _) | (with_reducible refine Kd.C_drewN ?_ _) | (with_reducible refine Kd.C_drew ?_)))
      (case side2 => exact (Kd.R_reads' HO766.out).2.1)
      rintro e w49 ⟨rfl, hb⟩
      refine ⟨_, rfl, ?_⟩
      replace HO762 := Aside0.mk (Kd.R_below (zRW HO762.out) hb)
      replace HO766 := Aside0.mk (Kd.R_below (zRW HO766.out) hb)
      refine zcn3 HB BK750 BK754 BK756 hb (c := ?_)
      clear HB BK750 BK754 BK756 hb
      intro BK750 BK754 BK756 HB
      refine hK.out _ _ (zk3 BK754 (ze3 BK756)) (fun hHeld => ?_)
      clear hK K
      refine znA 26 (h := ?_)
      refine zoA 12 27 (h := fun K hK => ?_)
      refine zgA Try.func37 (span_Make.calls k1 t763 t767 t768 t769 t770 _ A30.out) (h := ?_)
      rintro w50 hb
      replace HO762 := Aside0.mk (Kd.R_below (zRW HO762.out) hb)
      replace HO766 := Aside0.mk (Kd.R_below (zRW HO766.out) hb)
      refine zcn3 HB BK750 BK754 BK756 hb (c := ?_)
      clear HB BK750 BK754 BK756 hb
      intro BK750 BK754 BK756 HB
      refine hK.out _ _ (zk3 BK754 (ze3 BK756)) (fun hHeld => ?_)
      clear hK K
      refine znA 27 (h := ?_)
      refine last_ (i := 13) (N := none) #[true, true, true, true, true, true, true, true, true, true, true, true, true, true] rfl rfl (one_of HT_.out (by kernel_rfl)) (by decide) (fun K hK => ?_)
      have hs51 := zc0 BK754
      have hfs51 := blk_frozen BK754.out 0
      refine zt2 NB750_754 NB754_756 fun _ _ _ _ => ?_
      have hs52 := zc1 BK754
      have hfs52 := blk_frozen BK754.out 1
      refine zt2 NB750_754 NB754_756 fun _ _ _ _ => ?_
      have hs53 := zc2 BK754
      have hfs53 := blk_frozen BK754.out 2
      refine zt2 NB750_754 NB754_756 fun _ _ _ _ => ?_
      refine skip_ (w1 := ?_) (by rfl) rfl ?_ ?_
      rotate_left
      ·go_simp
       rfl
      refine hK.out _ _ ?_
      clear hK K
      refine done_ (done_of HT_.out (by kernel_rfl)) ?_
      try go_wp2
      go_roundg k1
      case measure => have := HK1.out; omega
      case rel => exact ⟨(wrap64 (x9_1 + 1)), (t768), (t769), (t770), zrl, H', ⟨by have := HK1.out; omega⟩, ⟨(zkf (zkf (zkf (zkq BK750) NB750_754.out _) NB750_754.out _) NB750_754.out _)⟩, ⟨(blk_put (cs := #[.bool t768, .int .u64 t769, .int .u64 x755002_1]) (blk_put (cs := #[.bool t768, .int .u64 x755001_1, .int .u64 x755002_1]) (blk_put (zkq BK754) 0 _ rfl) 1 _ rfl) 2 _ rfl)⟩, ⟨zaB⟩⟩
     rw [if_neg c10] at H
     exact absurd H (by simp)
    rw [if_neg c9] at H
    exact absurd H (by simp)
   rw [if_neg c8] at H
   have c8b0 : decide (x9_1 < (l0.length : Int)) = false := decide_eq_false c8
   clear c8
   simp only [Option.some.injEq, Prod.mk.injEq] at H
   obtain ⟨rfl, rfl, rfl⟩ := H
   refine zt1 NB750_754 fun _ _ => ?_
   refine zu3 BK754 fun _ _ _ _ _ _ => ?_
   refine zu3 BK750 fun _ _ _ _ _ _ => ?_
   go_wp2
   refine bodyPost_ret (results_cell_row rfl _ _ gb750 43 #[.bool x755000_1, .int .u64 x755001_1, .int .u64 x755002_1] (0, 0) _ rfl (blk_put (cs := #[.bool x755000_1, .int .u64 x755001_1, .int .u64 0]) (blk_put (cs := #[.bool x755000_1, .int .u64 0, .int .u64 0]) (blk_put (zkq BK750) 0 _ rfl) 1 _ rfl) 2 _ rfl) Try.underlying43 rfl (by kernel_rfl)) rfl ?_
   exact ⟨zaE, zaB⟩
def span_Neg.T4 : Bool × List (List Nat × List Nat) := (true, [([], []), ([0], [0]), ([1], [1]), ([], []), ([3], [3]), ([4, 2], [4]), ([2, 5, 5], [2, 5]), ([6, 6, 0, 1, 2, 3, 4, 5, 6], [6])])
def span_Neg.B4 : List Nat := [0, 1, 3, 0, 8, 31, 63, 127]
theorem span_Neg.tab4 : rtab .any (opsOf Try.f111 4) = span_Neg.T4 := by kernel_rfl
theorem span_Neg.bits4 : waitsOk span_Neg.T4.2 span_Neg.B4 = true := by kernel_rfl
theorem span_Neg.calls (k : Nat) (a0_0 : Bool) (a0_1 : Int) (a0_2 : Int) (r1 : Bool) (r2 : Int) (r3 : Int) (w : World) (h : span_Neg.f k a0_0 a0_1 a0_2 = some (r1, r2, r3)) :
  Calls Try.prog 111 #[.agg #[.bool a0_0, .int .u64 a0_1, .int .u64 a0_2]] w fun e w' => e = .returned (.agg #[.bool r1, .int .u64 r2, .int .u64 r3]) ∧ Below w.heap.size w w' := by
 have hu43 := Try.underlying43
 have HB := Aside0.mk (Below.refl w.heap.size w)
 have H := h
 unfold span_Neg.f at H
 clear h
 obtain ⟨⟨t796, t797, t798⟩, A2, H⟩ := zbs H
 try dsimp only at H
 by_cases c3 : t796 = true
 ·subst c3
  replace H := zit H
  simp only [Option.some.injEq, Prod.mk.injEq] at H
  obtain ⟨rfl, rfl, rfl⟩ := H
  go_enter Try.func111, Try.ntmps111
  go_wp2_with (first | ((with_reducible refine gtd 1 rfl ?_); refine zbx 1 #[.bool a0_0, .int .u64 a0_1, .int .u64 a0_2] 43 (h := ?_); intro gb794 hg w4 hbox hb; have GW794 := zkZ hg (zaB (p := Below w.heap.size w _)); replace HB := Aside0.mk (below_step zaB hb); have BK794 := Aside0.mk (hbox); clear hb hbox hg) | ((with_reducible refine gtd 2 rfl ?_); refine zbx 2 #[.bool false, .int .u64 0, .int .u64 0] 43 (h := ?_); intro gb795 hg w5 hbox hb; refine zbn1 HB BK794 hg hb hbox (c := ?_); clear HB BK794 hb hbox hg; intro GW795 NB794_795 BK794 HB BK795; refine zt1 NB794_795 fun _ _ => ?_; refine zu3 BK794 fun _ _ _ _ _ _ => ?_) | ((with_reducible refine gtc 112 rfl ?_); refine zgL 4 Try.func112 (span_norm.calls k a0_0 a0_1 a0_2 true t797 t798 _ A2.out) (h := ?_); rintro w8 hb; refine zcn2 HB BK794 BK795 hb (c := ?_); clear HB BK794 BK795 hb; intro BK794 BK795 HB; refine zu3 BK794 fun _ _ _ _ _ _ => ?_; refine zu3 BK795 fun _ _ _ _ _ _ => ?_))
  refine bodyPost_ret (results_cell_row rfl _ _ gb795 43 #[.bool true, .int .u64 t797, .int .u64 t798] (0, 0) _ rfl (blk_put (cs := #[.bool true, .int .u64 t797, .int .u64 0]) (blk_put (cs := #[.bool true, .int .u64 0, .int .u64 0]) (blk_put (zkf (zkf (zkf (zkq BK795) (zks NB794_795).out _) (zks NB794_795).out _) (zks NB794_795).out _) 0 _ rfl) 1 _ rfl) 2 _ rfl) Try.underlying43 rfl (by kernel_rfl)) rfl ?_
  exact ⟨zaE, zaB⟩
 replace c3 := Bool.eq_false_iff.mpr c3
 subst c3
 replace H := zif H
 obtain ⟨t799, A11, H⟩ := zbs H
 try dsimp only at H
 obtain ⟨t800, A12, H⟩ := zbs H
 try dsimp only at H
 obtain ⟨⟨t801, t802, t803⟩, A13, H⟩ := zbs H
 try dsimp only at H
 simp only [Option.some.injEq, Prod.mk.injEq] at H
 obtain ⟨rfl, rfl, rfl⟩ := H
 go_enter Try.func111, Try.ntmps111
 try go_wp2_with (first | ((with_reducible refine gtd 1 rfl ?_); refine zbx 1 #[.bool a0_0, .int .u64 a0_1, .int .u64 a0_2] 43 (h := ?_); intro gb794 hg w14 hbox hb; have GW794 := zkZ hg (zaB (p := Below w.heap.size w _)); replace HB := Aside0.mk (below_step zaB hb); have BK794 := Aside0.mk (hbox); clear hb hbox hg) | ((with_reducible refine gtd 2 rfl ?_); refine zbx 2 #[.bool false, .int .u64 0, .int .u64 0] 43 (h := ?_); intro gb795 hg w15 hbox hb; refine zbn1 HB BK794 hg hb hbox (c := ?_); clear HB BK794 hb hbox hg; intro GW795 NB794_795 BK794 HB BK795; refine zt1 NB794_795 fun _ _ => ?_; refine zu3 BK794 fun _ _ _ _ _ _ => ?_) | ((with_reducible refine gtc 112 rfl ?_); refine zgL 4 Try.func112 (span_norm.calls k a0_0 a0_1 a0_2 false t797 t798 _ A2.out) (h := ?_); rintro w18 hb; refine zcn2 HB BK794 BK795 hb (c := ?_); clear HB BK794 BK795 hb; intro BK794 BK795 HB; refine zu3 BK794 fun _ _ _ _ _ _ => ?_))
 generalize hW_ : (((w18.setCell ⟨gb794, 0, none⟩ (.bool false)).setCell ⟨gb794, 1, none⟩ (.int .u64 t797)).setCell ⟨gb794, 2, none⟩ (.int .u64 t798)) = w20
 replace BK794 := zkg hW_ (ob := .cells #[.bool false, .int .u64 t797, .int .u64 t798] 43 (0, 0)) (blk_put (cs := #[.bool false, .int .u64 t797, .int .u64 a0_2]) (blk_put (cs := #[.bool false, .int .u64 a0_1, .int .u64 a0_2]) (blk_put BK794.out 0 _ rfl) 1 _ rfl) 2 _ rfl)
 replace BK795 := zkg hW_ (zkf (zkf (zkf BK795.out (zks NB794_795).out _) (zks NB794_795).out _) (zks NB794_795).out _)
 replace HB := zkG hW_ (below_set (below_set (below_set HB.out GW794.out) GW794.out) GW794.out)
 clear hW_
 replace BK794 := Aside0.mk (blk_drew BK794.out)
 replace BK795 := Aside0.mk (blk_drew BK795.out)
 replace HB := Aside0.mk (below_drew1 HB.out)
 refine start_ (n := 8) (S := fun w' => w'.cell? ⟨gb794, 0, none⟩ = some (.bool false) ∧ w'.cell? ⟨gb794, 1, none⟩ = some (.int .u64 t797) ∧ w'.cell? ⟨gb794, 2, none⟩ = some (.int .u64 t798)) (ds := []) #[false, false, false, false, false, false, false, false] (by kernel_rfl) rfl rfl (ze3 BK794) (fun hHeld => ?_); refine with_tabW span_Neg.tab4 span_Neg.bits4 (fun HT_ HW_ => ?_)
 generalize w20.drew = w21 at BK794 BK795 HB hHeld ⊢
 refine zpA 0 8 (h := ?_)
 refine zpA 3 11 (h := ?_)
 refine ztA 1 9 (h := ?_)
 refine ztA 4 12 (h := ?_)
 refine zoA 2 10 (h := fun K hK => ?_)
 refine zgA Try.func32 (pattern_Neg.calls k t798 t799 _ A11.out) (h := ?_)
 rintro w' ⟨nd, rfl⟩
 refine hK.out _ _ (ze3 BK794) (fun hHeld => ?_)
 clear hK K
 refine znA 10 (h := ?_)
 refine zoA 5 13 (h := fun K hK => ?_)
 refine zgA Try.func32 (pattern_Neg.calls k t797 t800 _ A12.out) (h := ?_)
 rintro w' ⟨nd, rfl⟩
 refine hK.out _ _ (ze3 BK794) (fun hHeld => ?_)
 clear hK K
 refine znA 13 (h := ?_)
 refine zoA 6 14 (h := fun K hK => ?_)
 refine zgA Try.func37 (span_Make.calls k t799 t800 t801 t802 t803 _ A13.out) (h := ?_)
 rintro w22 hb
 refine zcn2 HB BK794 BK795 hb (c := ?_)
 clear HB BK794 BK795 hb
 intro BK794 BK795 HB
 refine hK.out _ _ (ze3 BK794) (fun hHeld => ?_)
 clear hK K
 refine znA 14 (h := ?_)
 refine one_ (i := 7) (N := none) #[true, true, true, true, true, true, true, true] rfl rfl (one_of HT_.out (by kernel_rfl)) (by decide) (fun K hK => ?_)
 have hs23 := zc0 BK795
 have hfs23 := blk_frozen BK795.out 0
 refine zt1 NB794_795 fun _ _ => ?_
 have hs24 := zc1 BK795
 have hfs24 := blk_frozen BK795.out 1
 refine zt1 NB794_795 fun _ _ => ?_
 have hs25 := zc2 BK795
 have hfs25 := blk_frozen BK795.out 2
 refine zt1 NB794_795 fun _ _ => ?_
 refine skip_ (w1 := ?_) (by rfl) rfl ?_ ?_
 rotate_left
 ·go_simp
  rfl
 refine hK.out _ _ ⟨(zff NB794_795 (zff NB794_795 (zff NB794_795 hHeld.1))), (zff NB794_795 (zff NB794_795 (zff NB794_795 hHeld.2.1))), (zff NB794_795 (zff NB794_795 (zff NB794_795 hHeld.2.2)))⟩ (fun hHeld => ?_)
 clear hK K
 refine done_ (done_of HT_.out (by kernel_rfl)) ?_
 try go_wp2
 refine bodyPost_ret (results_cell_row rfl _ _ gb795 43 #[.bool t801, .int .u64 t802, .int .u64 t803] (0, 0) _ rfl (blk_put (cs := #[.bool t801, .int .u64 t802, .int .u64 0]) (blk_put (cs := #[.bool t801, .int .u64 0, .int .u64 0]) (blk_put (zkq BK795) 0 _ rfl) 1 _ rfl) 2 _ rfl) Try.underlying43 rfl (by kernel_rfl)) rfl ?_
 exact ⟨zaE, zaB⟩
def span_Abs.T7 : Bool × List (List Nat × List Nat) := (true, [([], []), ([0], [0]), ([1], [1]), ([], []), ([3], [3]), ([2, 4], [2, 4]), ([5, 2], [5]), ([6, 6], [6]), ([7, 7, 0, 1, 2, 3, 4, 5, 6, 7], [7])])
def span_Abs.B7 : List Nat := [0, 1, 3, 0, 8, 31, 63, 127, 255]
theorem span_Abs.tab7 : rtab .any (opsOf Try.f69 7) = span_Abs.T7 := by kernel_rfl
theorem span_Abs.bits7 : waitsOk span_Abs.T7.2 span_Abs.B7 = true := by kernel_rfl
theorem span_Abs.calls (k : Nat) (a0_0 : Bool) (a0_1 : Int) (a0_2 : Int) (r1 : Bool) (r2 : Int) (r3 : Int) (w : World) (h : span_Abs.f k a0_0 a0_1 a0_2 = some (r1, r2, r3)) :
  Calls Try.prog 69 #[.agg #[.bool a0_0, .int .u64 a0_1, .int .u64 a0_2]] w fun e w' => e = .returned (.agg #[.bool r1, .int .u64 r2, .int .u64 r3]) ∧ Below w.heap.size w w' := by
 have hu43 := Try.underlying43
 have HB := Aside0.mk (Below.refl w.heap.size w)
 have H := h
 unfold span_Abs.f at H
 clear h
 obtain ⟨⟨t806, t807, t808⟩, A2, H⟩ := zbs H
 try dsimp only at H
 have HC3 := Aside0.mk H
 clear H
 go_enter Try.func69, Try.ntmps69
 go_upto_if 5 with (first | ((with_reducible refine gtd 1 rfl ?_); refine zbx 1 #[.bool a0_0, .int .u64 a0_1, .int .u64 a0_2] 43 (h := ?_); intro gb804 hg w4 hbox hb; have GW804 := zkZ hg (zaB (p := Below w.heap.size w _)); replace HB := Aside0.mk (below_step zaB hb); have BK804 := Aside0.mk (hbox); clear hb hbox hg) | ((with_reducible refine gtd 2 rfl ?_); refine zbx 2 #[.bool false, .int .u64 0, .int .u64 0] 43 (h := ?_); intro gb805 hg w5 hbox hb; refine zbn1 HB BK804 hg hb hbox (c := ?_); clear HB BK804 hb hbox hg; intro GW805 NB804_805 BK804 HB BK805; refine zt1 NB804_805 fun _ _ => ?_; refine zu3 BK804 fun z7_0 z7_1 z7_2 f7_0 f7_1 f7_2 => ?_) | ((with_reducible refine gtc 112 rfl ?_); refine zgL 4 Try.func112 (span_norm.calls k a0_0 a0_1 a0_2 t806 t807 t808 _ A2.out) (h := ?_); rintro w8 hb; refine zcn2 HB BK804 BK805 hb (c := ?_); clear HB BK804 BK805 hb; intro BK804 BK805 HB; refine zu3 BK804 fun z9_0 z9_1 z9_2 f9_0 f9_1 f9_2 => ?_))
 (try simp only [Act.put, List.setIfInBounds_toArray, List.set_cons_zero, List.set_cons_succ])
 go_cut [5] (fun v5 wc => ∃ (kq : Nat) (x5_2 : Bool), v5 = .bool x5_2 ∧ Aside0 (span_Abs.j0 kq x5_2 t806 t807 t808 = some (r1, r2, r3)) ∧ Aside0 (kq ≤ k) ∧ Aside0 (wc.heap[gb804]? = some (.cells #[.bool t806, .int .u64 t807, .int .u64 t808] 43 (0, 0))) ∧ Aside0 (wc.heap[gb805]? = some (.cells #[.bool false, .int .u64 0, .int .u64 0] 43 (0, 0))) ∧ Aside0 (Below w.heap.size w wc))
 case first =>
  have H := HC3.out
  clear HC3
  by_cases c10 : t806 = true
  ·subst c10
   replace H := zit H
   have H' := Aside0.mk H
   clear H
   go_wp2
   go_meet
   case rel => exact ⟨_, (true), zrl, H', ⟨zle⟩, ⟨(blk_put (cs := #[.bool true, .int .u64 t807, .int .u64 a0_2]) (blk_put (cs := #[.bool true, .int .u64 a0_1, .int .u64 a0_2]) (blk_put (zkq BK804) 0 _ rfl) 1 _ rfl) 2 _ rfl)⟩, ⟨(zkf (zkf (zkf (zkq BK805) (zks NB804_805).out _) (zks NB804_805).out _) (zks NB804_805).out _)⟩, ⟨zaB⟩⟩
  replace c10 := Bool.eq_false_iff.mpr c10
  subst c10
  replace H := zif H
  obtain ⟨t809, A11, H⟩ := zbs H
  try dsimp only at H
  have H' := Aside0.mk H
  clear H
  refine zt1 NB804_805 fun _ _ => ?_
  refine zu3 BK804 fun z13_0 z13_1 z13_2 f13_0 f13_1 f13_2 => ?_
  go_wp2_with (first | ((with_reducible refine gtc 117 rfl ?_); refine zgL 10 Try.func117 (span_atMost.calls k 0 t807 t809 _ A11.out) (h := ?_); rintro w' ⟨nd, rfl⟩))
  go_meet
  case rel => exact ⟨_, (t809), zrl, H', ⟨zle⟩, ⟨(blk_put (cs := #[.bool false, .int .u64 t807, .int .u64 a0_2]) (blk_put (cs := #[.bool false, .int .u64 a0_1, .int .u64 a0_2]) (blk_put (zkq BK804) 0 _ rfl) 1 _ rfl) 2 _ rfl)⟩, ⟨(zkf (zkf (zkf (zkq BK805) (zks NB804_805).out _) (zks NB804_805).out _) (zks NB804_805).out _)⟩, ⟨zaB⟩⟩
 case rest =>
  clear HC3
  try clear z13_0 z13_1 z13_2 f13_0 f13_1 f13_2
  try clear z7_0 z7_1 z7_2 f7_0 f7_1 f7_2
  try clear z9_0 z9_1 z9_2 f9_0 f9_1 f9_2
  obtain ⟨kq, x5_2, rfl, HA, HJ2, BK804, BK805, HB⟩ := hcut
  cases kq with
  | zero => exact absurd HA.out (by simp [span_Abs.j0])
  | succ kj2 =>
   have H := HA.out
   clear HA
   simp only [span_Abs.j0] at H
   by_cases c14 : x5_2 = true
   ·subst c14
    replace H := zit H
    simp only [Option.some.injEq, Prod.mk.injEq] at H
    obtain ⟨rfl, rfl, rfl⟩ := H
    refine zt1 NB804_805 fun _ _ => ?_
    refine zu3 BK804 fun _ _ _ _ _ _ => ?_
    refine zu3 BK805 fun _ _ _ _ _ _ => ?_
    go_wp2
    refine bodyPost_ret (results_cell_row rfl _ _ gb805 43 #[.bool t806, .int .u64 t807, .int .u64 t808] (0, 0) _ rfl (blk_put (cs := #[.bool t806, .int .u64 t807, .int .u64 0]) (blk_put (cs := #[.bool t806, .int .u64 0, .int .u64 0]) (blk_put (zkq BK805) 0 _ rfl) 1 _ rfl) 2 _ rfl) Try.underlying43 rfl (by kernel_rfl)) rfl ?_
    exact ⟨zaE, zaB⟩
   replace c14 := Bool.eq_false_iff.mpr c14
   subst c14
   replace H := zif H
   obtain ⟨t810, A18, H⟩ := zbs H
   try dsimp only at H
   by_cases c19 : t810 = true
   ·subst c19
    replace H := zit H
    obtain ⟨⟨t811, t812, t813⟩, A20, H⟩ := zbs H
    try dsimp only at H
    simp only [Option.some.injEq, Prod.mk.injEq] at H
    obtain ⟨rfl, rfl, rfl⟩ := H
    refine zt1 NB804_805 fun _ _ => ?_
    refine zu3 BK804 fun _ _ _ _ _ _ => ?_
    go_wp2_with (first | ((with_reducible refine gtc 117 rfl ?_); refine zgL 15 Try.func117 (span_atMost.calls kj2 t808 0 true _ A18.out) (h := ?_); rintro w' ⟨nd, rfl⟩; (try (rw [drewN_self wc]; generalize hq_ : World.drewN wc _ = wc; have n0_ : Aside0 (wc.heap[gb804]? = some (.cells #[.bool t806, .int .u64 t807, .int .u64 t808] 43 (0, 0))) := ⟨by rw [← hq_]; exact (zkq BK804)⟩; have n1_ : Aside0 (wc.heap[gb805]? = some (.cells #[.bool false, .int .u64 0, .int .u64 0] 43 (0, 0))) := ⟨by rw [← hq_]; exact (zkq BK805)⟩; have n2_ : Aside0 (Below w.heap.size w wc) := ⟨by rw [← hq_]; exact zaB⟩; clear BK804 BK805 HB hq_; have BK804 := n0_; have BK805 := n1_; have HB := n2_; clear n0_ n1_ n2_; have hdq804_0 := zc0 BK804; have hdq804_1 := zc1 BK804; have hdq804_2 := zc2 BK804; have hdq804_f := zfz BK804; have hdq805_0 := zc0 BK805; have hdq805_1 := zc1 BK805; have hdq805_2 := zc2 BK805; have hdq805_f := zfz BK805))) | ((with_reducible refine gtc 111 rfl ?_); refine zgL 17 Try.func111 (span_Neg.calls kj2 t806 t807 t808 t811 t812 t813 _ A20.out) (h := ?_); rintro w23 hb; refine zcn2 HB BK804 BK805 hb (c := ?_); clear HB BK804 BK805 hb; intro BK804 BK805 HB; refine zu3 BK805 fun _ _ _ _ _ _ => ?_))
    refine bodyPost_ret (results_cell_row rfl _ _ gb805 43 #[.bool t811, .int .u64 t812, .int .u64 t813] (0, 0) _ rfl (blk_put (cs := #[.bool t811, .int .u64 t812, .int .u64 0]) (blk_put (cs := #[.bool t811, .int .u64 0, .int .u64 0]) (blk_put (zkq BK805) 0 _ rfl) 1 _ rfl) 2 _ rfl) Try.underlying43 rfl (by kernel_rfl)) rfl ?_
    exact ⟨zaE, zaB⟩
   replace c19 := Bool.eq_false_iff.mpr c19
   subst c19
   replace H := zif H
   obtain ⟨t814, A25, H⟩ := zbs H
   try dsimp only at H
   obtain ⟨y815, hy815⟩ : ∃ y_ : List Int, y_ = (([t814, t808] : List Int)) := ⟨_, rfl⟩
   replace H : ((pattern_Max.f kj2 y815).bind fun t818 => ((span_Make.f kj2 0 t818).bind fun bt819 => (some (bt819.1, bt819.2.1, bt819.2.2)))) = some (r1, r2, r3) := by first | (rw [hy815]; with_reducible exact H) | (have H2_ := (Option.bind_some _ _).symm.trans H; rw [hy815]; with_reducible exact H2_) | (have H2_ := (Option.bind_some _ _).symm.trans H; with_reducible exact H2_) | with_reducible exact H | (rw [hy815]; exact H) | exact H
   have Ny815 := Aside0.mk hy815
   clear hy815
   obtain ⟨t818, A26, H⟩ := zbs H
   try dsimp only at H
   obtain ⟨⟨t819, t820, t821⟩, A27, H⟩ := zbs H
   try dsimp only at H
   simp only [Option.some.injEq, Prod.mk.injEq] at H
   obtain ⟨rfl, rfl, rfl⟩ := H
   refine zt1 NB804_805 fun _ _ => ?_
   refine zu3 BK804 fun _ _ _ _ _ _ => ?_
   try go_wp2_with (first | ((with_reducible refine gtc 117 rfl ?_); refine zgL 15 Try.func117 (span_atMost.calls kj2 t808 0 false _ A18.out) (h := ?_); rintro w' ⟨nd, rfl⟩; (try (rw [drewN_self wc]; generalize hq_ : World.drewN wc _ = wc; have n0_ : Aside0 (wc.heap[gb804]? = some (.cells #[.bool t806, .int .u64 t807, .int .u64 t808] 43 (0, 0))) := ⟨by rw [← hq_]; exact (zkq BK804)⟩; have n1_ : Aside0 (wc.heap[gb805]? = some (.cells #[.bool false, .int .u64 0, .int .u64 0] 43 (0, 0))) := ⟨by rw [← hq_]; exact (zkq BK805)⟩; have n2_ : Aside0 (Below w.heap.size w wc) := ⟨by rw [← hq_]; exact zaB⟩; clear BK804 BK805 HB hq_; have BK804 := n0_; have BK805 := n1_; have HB := n2_; clear n0_ n1_ n2_; have hdq804_0 := zc0 BK804; have hdq804_1 := zc1 BK804; have hdq804_2 := zc2 BK804; have hdq804_f := zfz BK804; have hdq805_0 := zc0 BK805; have hdq805_1 := zc1 BK805; have hdq805_2 := zc2 BK805; have hdq805_f := zfz BK805))))
   (try (rw [drewN_self wc]; generalize hq_ : World.drewN wc _ = wc; replace BK804 := zkg hq_ (zkq BK804); replace BK805 := zkg hq_ (zkq BK805); replace HB := zkG hq_ (pw_below_drewN HB.out _); clear hq_))
   replace BK804 := Aside0.mk (blk_drew BK804.out)
   replace BK805 := Aside0.mk (blk_drew BK805.out)
   replace HB := Aside0.mk (below_drew1 HB.out)
   refine start_ (n := 9) (S := fun w' => w'.cell? ⟨gb804, 0, none⟩ = some (.bool t806) ∧ w'.cell? ⟨gb804, 1, none⟩ = some (.int .u64 t807) ∧ w'.cell? ⟨gb804, 2, none⟩ = some (.int .u64 t808)) (ds := []) #[false, false, false, false, false, false, false, false, false] (by kernel_rfl) rfl rfl (ze3 BK804) (fun hHeld => ?_); refine with_tabW span_Abs.tab7 span_Abs.bits7 (fun HT_ HW_ => ?_)
   generalize wc.drew = w30 at BK804 BK805 HB hHeld ⊢
   refine zpA 0 18 (h := ?_)
   refine zpA 3 21 (h := ?_)
   refine ztA 1 19 (h := ?_)
   refine ztA 4 22 (h := ?_)
   refine zoA 2 20 (h := fun K hK => ?_)
   refine zgA Try.func32 (pattern_Neg.calls kj2 t807 t814 _ A25.out) (h := ?_)
   rintro w' ⟨nd, rfl⟩
   refine hK.out _ _ (ze3 BK804) (fun hHeld => ?_)
   clear hK K
   refine znA 20 (h := ?_)
   refine zoA 5 23 (h := fun K hK => ?_)
   refine Kd.R_lit_step (Kd.int .u64) _ 23 ?hg (N := 23) ?hd (xs := ([t814, t808] : List Int)) (inner := [.int .u64 t814, .int .u64 t808]) (ok := fun _ => True) (okp := fun _ => True) ?hr ?hp (fun _ hk => hk) trivial (Below.refl _ _) (Nat.le_refl _) (by simp) ?_; (case hd => rfl); (case hg => rfl); (case hr => first | (go_simp; done) | (go_simp; rfl)); (case hp => exact (Reps.one (show Kd.M (Kd.int .u64) _ _ _ t814 [.int .u64 t814] from rfl) (Reps.one (show Kd.M (Kd.int .u64) _ _ _ t808 [.int .u64 t808] from rfl) (Reps.none _ _))))
   intro v816 w31 ho32 hb hg_ hnew_
   clear hg_ hnew_
   (first | rw [← Ny815.out] at ho32 | (simp only [Int.reduceToNat] at ho32; rw [← Ny815.out] at ho32))
   have HO817 := Aside0.mk (Kd.R_lower ho32 (below_size zaB))
   replace BK804 := zkb BK804 hb
   replace BK805 := zkb BK805 hb
   replace HB := zkB HB hb
   clear hb ho32
   obtain ⟨Ao33, co33, eo33⟩ := Kd.R_slice HO817.out
   (first | subst eo33 | (injection eo33 with f1_ f2_ f3_; have f4_ := f1_.symm; have f5_ := f3_.symm; clear f1_ f2_ f3_; subst f4_; subst f5_))
   refine hK.out _ _ (ze3 BK804) (fun hHeld => ?_)
   clear hK K
   refine znA 23 (h := ?_)
   refine zoA 6 24 (h := fun K hK => ?_)
   refine goes_ Try.func120 (by kernel_rfl) rfl #[.slice Ao33 y815.length co33] (by rfl) rfl rfl (by (try simp only [List.map_toArray, List.map_cons, List.map_nil]); first | done | rfl | (simp only [List.length_drop, List.length_take]; rfl)) ?_
   with_reducible refine (pattern_Max.calls kj2 _ _ y815 t818 _ ?side1 ?side2 A26.out).mono ?_
   (case side1 => repeat (first | exact (Kd.R_reads' HO817.out).2.2 | (with_reducible refine Kd.C_alloc ?_ _) | (with_reducible refine Kd.C_drewN ?_ _) | (with_reducible refine Kd.C_drew ?_)))
   (case side2 => exact (Kd.R_reads' HO817.out).2.1)
   rintro e w34 ⟨rfl, hb⟩
   refine ⟨_, rfl, ?_⟩
   replace HO817 := Aside0.mk (Kd.R_below (zRW HO817.out) hb)
   refine zcn2 HB BK804 BK805 hb (c := ?_)
   clear HB BK804 BK805 hb
   intro BK804 BK805 HB
   refine hK.out _ _ (ze3 BK804) (fun hHeld => ?_)
   clear hK K
   refine znA 24 (h := ?_)
   refine zoA 7 25 (h := fun K hK => ?_)
   refine zgA Try.func37 (span_Make.calls kj2 0 t818 t819 t820 t821 _ A27.out) (h := ?_)
   rintro w35 hb
   replace HO817 := Aside0.mk (Kd.R_below (zRW HO817.out) hb)
   refine zcn2 HB BK804 BK805 hb (c := ?_)
   clear HB BK804 BK805 hb
   intro BK804 BK805 HB
   refine hK.out _ _ (ze3 BK804) (fun hHeld => ?_)
   clear hK K
   refine znA 25 (h := ?_)
   refine one_ (i := 8) (N := none) #[true, true, true, true, true, true, true, true, true] rfl rfl (one_of HT_.out (by kernel_rfl)) (by decide) (fun K hK => ?_)
   have hs36 := zc0 BK805
   have hfs36 := blk_frozen BK805.out 0
   refine zt1 NB804_805 fun _ _ => ?_
   have hs37 := zc1 BK805
   have hfs37 := blk_frozen BK805.out 1
   refine zt1 NB804_805 fun _ _ => ?_
   have hs38 := zc2 BK805
   have hfs38 := blk_frozen BK805.out 2
   refine zt1 NB804_805 fun _ _ => ?_
   refine skip_ (w1 := ?_) (by rfl) rfl ?_ ?_
   rotate_left
   ·go_simp
    rfl
   refine hK.out _ _ ⟨(zff NB804_805 (zff NB804_805 (zff NB804_805 hHeld.1))), (zff NB804_805 (zff NB804_805 (zff NB804_805 hHeld.2.1))), (zff NB804_805 (zff NB804_805 (zff NB804_805 hHeld.2.2)))⟩ (fun hHeld => ?_)
   clear hK K
   refine done_ (done_of HT_.out (by kernel_rfl)) ?_
   try go_wp2
   refine bodyPost_ret (results_cell_row rfl _ _ gb805 43 #[.bool t819, .int .u64 t820, .int .u64 t821] (0, 0) _ rfl (blk_put (cs := #[.bool t819, .int .u64 t820, .int .u64 0]) (blk_put (cs := #[.bool t819, .int .u64 0, .int .u64 0]) (blk_put (zkq BK805) 0 _ rfl) 1 _ rfl) 2 _ rfl) Try.underlying43 rfl (by kernel_rfl)) rfl ?_
   exact ⟨zaE, zaB⟩
theorem span_Most.calls (k : Nat) (a0_0 : Bool) (a0_1 : Int) (a0_2 : Int) (r : Int) (w : World) (h : span_Most.f k a0_0 a0_1 a0_2 = some r) :
  Calls Try.prog 50 #[.agg #[.bool a0_0, .int .u64 a0_1, .int .u64 a0_2]] w fun e w' => e = .returned (.int .u64 r) ∧ Below w.heap.size w w' := by
 have hu43 := Try.underlying43
 have hfd0_ : ∀ (b : Bool) (x y : Int) (w : World), (Instr.field 43 (.agg #[.bool b, .int .u64 x, .int .u64 y]) 0).run Try.prog w = .ok (.bool b) w := fun _ _ _ _ => by kernel_rfl
 have hfd1_ : ∀ (b : Bool) (x y : Int) (w : World), (Instr.field 43 (.agg #[.bool b, .int .u64 x, .int .u64 y]) 1).run Try.prog w = .ok (.int .u64 x) w := fun _ _ _ _ => by kernel_rfl
 have hfd2_ : ∀ (b : Bool) (x y : Int) (w : World), (Instr.field 43 (.agg #[.bool b, .int .u64 x, .int .u64 y]) 2).run Try.prog w = .ok (.int .u64 y) w := fun _ _ _ _ => by kernel_rfl
 have HB := Aside0.mk (Below.refl w.heap.size w)
 have H : ((span_Abs.f k a0_0 a0_1 a0_2).bind fun bt823 => (some bt823.2.2)) = some r := h
 clear h
 obtain ⟨⟨t823, t824, t825⟩, A2, H⟩ := zbs H
 try dsimp only at H
 obtain rfl := Option.some.inj H
 go_enter Try.func50, Try.ntmps50
 go_wp2_with (first | ((with_reducible refine gtd 1 rfl ?_); refine zbx 1 #[.bool a0_0, .int .u64 a0_1, .int .u64 a0_2] 43 (h := ?_); intro gb822 hg w3 hbox hb; have GW822 := zkZ hg (zaB (p := Below w.heap.size w _)); replace HB := Aside0.mk (below_step zaB hb); have BK822 := Aside0.mk (hbox); clear hb hbox hg; refine zu3 BK822 fun _ _ _ _ _ _ => ?_) | ((with_reducible refine gtc 69 rfl ?_); refine zgL 4 Try.func69 (span_Abs.calls k a0_0 a0_1 a0_2 t823 t824 t825 _ A2.out) (h := ?_); rintro w5 hb; replace BK822 := zkb BK822 hb; replace HB := zkB HB hb; (try clear hb)))
 go_ret
 exact ⟨zaE, zaB⟩
theorem span_outer.calls (k : Nat) (a0 : Int) (a1 : Int) (r1 : Bool) (r2 : Int) (r3 : Int) (w : World) (h : span_outer.f k a0 a1 = some (r1, r2, r3)) :
  Calls Try.prog 172 #[.int .u64 a0, .int .u64 a1] w fun e w' => e = .returned (.agg #[.bool r1, .int .u64 r2, .int .u64 r3]) ∧ Below w.heap.size w w' := by
 have hu43 := Try.underlying43
 have HB := Aside0.mk (Below.refl w.heap.size w)
 have H := h
 unfold span_outer.f at H
 clear h
 obtain ⟨t909, A3, H⟩ := zbs H
 try dsimp only at H
 by_cases c4 : a0 = t909
 ·rw [if_pos c4] at H
  have c4b0 : (a0 == t909) = true := beq_iff_eq.mpr c4
  have c4b1 : (a0 != t909) = false := bne_eq_false_iff_eq.mpr c4
  clear c4
  obtain ⟨t910, A5, H⟩ := zbs H
  try dsimp only at H
  obtain ⟨⟨t911, t912, t913⟩, A6, H⟩ := zbs H
  try dsimp only at H
  simp only [Option.some.injEq, Prod.mk.injEq] at H
  obtain ⟨rfl, rfl, rfl⟩ := H
  go_enter Try.func172, Try.ntmps172
  go_wp2_with (first | ((with_reducible refine gtd 4 rfl ?_); refine zbx 4 #[.bool false, .int .u64 0, .int .u64 0] 43 (h := ?_); intro gb908 hg w7 hbox hb; have GW908 := zkZ hg (zaB (p := Below w.heap.size w _)); replace HB := Aside0.mk (below_step zaB hb); have BK908 := Aside0.mk (hbox); clear hb hbox hg) | ((with_reducible refine gtc 114 rfl ?_); refine zgL 7 Try.func114 (span_inf.calls k  t909 _ A3.out) (h := ?_); rintro w' ⟨nd, rfl⟩; (try (rw [drewN_self w7]; generalize hq_ : World.drewN w7 _ = w7; have n0_ : Aside0 (w7.heap[gb908]? = some (.cells #[.bool false, .int .u64 0, .int .u64 0] 43 (0, 0))) := ⟨by rw [← hq_]; exact (zkq BK908)⟩; have n1_ : Aside0 (Below w.heap.size w w7) := ⟨by rw [← hq_]; exact zaB⟩; clear BK908 HB hq_; have BK908 := n0_; have HB := n1_; clear n0_ n1_))) | ((with_reducible refine gtc 168 rfl ?_); refine zgL 10 Try.func168 (pattern_Prev.calls k a0 t910 _ A5.out) (h := ?_); rintro w' ⟨nd, rfl⟩; (try (rw [drewN_self w7]; generalize hq_ : World.drewN w7 _ = w7; have n0_ : Aside0 (w7.heap[gb908]? = some (.cells #[.bool false, .int .u64 0, .int .u64 0] 43 (0, 0))) := ⟨by rw [← hq_]; exact (zkq BK908)⟩; have n1_ : Aside0 (Below w.heap.size w w7) := ⟨by rw [← hq_]; exact zaB⟩; clear BK908 HB hq_; have BK908 := n0_; have HB := n1_; clear n0_ n1_))) | ((with_reducible refine gtc 37 rfl ?_); refine zgL 19 Try.func37 (span_Make.calls k t910 a1 t911 t912 t913 _ A6.out) (h := ?_); rintro w8 hb; replace BK908 := zkb BK908 hb; replace HB := zkB HB hb; (try clear hb); refine zu3 BK908 fun _ _ _ _ _ _ => ?_))
  refine bodyPost_ret (results_cell_row rfl _ _ gb908 43 #[.bool t911, .int .u64 t912, .int .u64 t913] (0, 0) _ rfl (blk_put (cs := #[.bool t911, .int .u64 t912, .int .u64 0]) (blk_put (cs := #[.bool t911, .int .u64 0, .int .u64 0]) (blk_put (zkq BK908) 0 _ rfl) 1 _ rfl) 2 _ rfl) Try.underlying43 rfl (by kernel_rfl)) rfl ?_
  exact ⟨zaE, zaB⟩
 rw [if_neg c4] at H
 have c4b0 : (a0 == t909) = false := beq_eq_false_iff_ne.mpr c4
 have c4b1 : (a0 != t909) = true := bne_iff_ne.mpr c4
 obtain ⟨t914, A10, H⟩ := zbs H
 try dsimp only at H
 by_cases c11 : a1 = t914
 ·rw [if_pos c11] at H
  have c11b0 : (a1 == t914) = true := beq_iff_eq.mpr c11
  have c11b1 : (a1 != t914) = false := bne_eq_false_iff_eq.mpr c11
  clear c11
  obtain ⟨t915, A12, H⟩ := zbs H
  try dsimp only at H
  obtain ⟨⟨t916, t917, t918⟩, A13, H⟩ := zbs H
  try dsimp only at H
  simp only [Option.some.injEq, Prod.mk.injEq] at H
  obtain ⟨rfl, rfl, rfl⟩ := H
  go_enter Try.func172, Try.ntmps172
  go_wp2_with (first | ((with_reducible refine gtd 4 rfl ?_); refine zbx 4 #[.bool false, .int .u64 0, .int .u64 0] 43 (h := ?_); intro gb908 hg w14 hbox hb; have GW908 := zkZ hg (zaB (p := Below w.heap.size w _)); replace HB := Aside0.mk (below_step zaB hb); have BK908 := Aside0.mk (hbox); clear hb hbox hg) | ((with_reducible refine gtc 114 rfl ?_); refine zgL 7 Try.func114 (span_inf.calls k  t909 _ A3.out) (h := ?_); rintro w' ⟨nd, rfl⟩; (try (rw [drewN_self w14]; generalize hq_ : World.drewN w14 _ = w14; have n0_ : Aside0 (w14.heap[gb908]? = some (.cells #[.bool false, .int .u64 0, .int .u64 0] 43 (0, 0))) := ⟨by rw [← hq_]; exact (zkq BK908)⟩; have n1_ : Aside0 (Below w.heap.size w w14) := ⟨by rw [← hq_]; exact zaB⟩; clear BK908 HB hq_; have BK908 := n0_; have HB := n1_; clear n0_ n1_))) | ((with_reducible refine gtc 113 rfl ?_); refine zgL 13 Try.func113 (span_ninf.calls k  t914 _ A10.out) (h := ?_); rintro w' ⟨nd, rfl⟩; (try (rw [drewN_self w14]; generalize hq_ : World.drewN w14 _ = w14; have n0_ : Aside0 (w14.heap[gb908]? = some (.cells #[.bool false, .int .u64 0, .int .u64 0] 43 (0, 0))) := ⟨by rw [← hq_]; exact (zkq BK908)⟩; have n1_ : Aside0 (Below w.heap.size w w14) := ⟨by rw [← hq_]; exact zaB⟩; clear BK908 HB hq_; have BK908 := n0_; have HB := n1_; clear n0_ n1_))) | ((with_reducible refine gtc 72 rfl ?_); refine zgL 16 Try.func72 (pattern_Next.calls k a1 t915 _ A12.out) (h := ?_); rintro w' ⟨nd, rfl⟩; (try (rw [drewN_self w14]; generalize hq_ : World.drewN w14 _ = w14; have n0_ : Aside0 (w14.heap[gb908]? = some (.cells #[.bool false, .int .u64 0, .int .u64 0] 43 (0, 0))) := ⟨by rw [← hq_]; exact (zkq BK908)⟩; have n1_ : Aside0 (Below w.heap.size w w14) := ⟨by rw [← hq_]; exact zaB⟩; clear BK908 HB hq_; have BK908 := n0_; have HB := n1_; clear n0_ n1_))) | ((with_reducible refine gtc 37 rfl ?_); refine zgL 19 Try.func37 (span_Make.calls k a0 t915 t916 t917 t918 _ A13.out) (h := ?_); rintro w15 hb; replace BK908 := zkb BK908 hb; replace HB := zkB HB hb; (try clear hb); refine zu3 BK908 fun _ _ _ _ _ _ => ?_))
  refine bodyPost_ret (results_cell_row rfl _ _ gb908 43 #[.bool t916, .int .u64 t917, .int .u64 t918] (0, 0) _ rfl (blk_put (cs := #[.bool t916, .int .u64 t917, .int .u64 0]) (blk_put (cs := #[.bool t916, .int .u64 0, .int .u64 0]) (blk_put (zkq BK908) 0 _ rfl) 1 _ rfl) 2 _ rfl) Try.underlying43 rfl (by kernel_rfl)) rfl ?_
  exact ⟨zaE, zaB⟩
 rw [if_neg c11] at H
 have c11b0 : (a1 == t914) = false := beq_eq_false_iff_ne.mpr c11
 have c11b1 : (a1 != t914) = true := bne_iff_ne.mpr c11
 obtain ⟨⟨t919, t920, t921⟩, A17, H⟩ := zbs H
 try dsimp only at H
 simp only [Option.some.injEq, Prod.mk.injEq] at H
 obtain ⟨rfl, rfl, rfl⟩ := H
 go_enter Try.func172, Try.ntmps172
 go_wp2_with (first | ((with_reducible refine gtd 4 rfl ?_); refine zbx 4 #[.bool false, .int .u64 0, .int .u64 0] 43 (h := ?_); intro gb908 hg w18 hbox hb; have GW908 := zkZ hg (zaB (p := Below w.heap.size w _)); replace HB := Aside0.mk (below_step zaB hb); have BK908 := Aside0.mk (hbox); clear hb hbox hg) | ((with_reducible refine gtc 114 rfl ?_); refine zgL 7 Try.func114 (span_inf.calls k  t909 _ A3.out) (h := ?_); rintro w' ⟨nd, rfl⟩; (try (rw [drewN_self w18]; generalize hq_ : World.drewN w18 _ = w18; have n0_ : Aside0 (w18.heap[gb908]? = some (.cells #[.bool false, .int .u64 0, .int .u64 0] 43 (0, 0))) := ⟨by rw [← hq_]; exact (zkq BK908)⟩; have n1_ : Aside0 (Below w.heap.size w w18) := ⟨by rw [← hq_]; exact zaB⟩; clear BK908 HB hq_; have BK908 := n0_; have HB := n1_; clear n0_ n1_))) | ((with_reducible refine gtc 113 rfl ?_); refine zgL 13 Try.func113 (span_ninf.calls k  t914 _ A10.out) (h := ?_); rintro w' ⟨nd, rfl⟩; (try (rw [drewN_self w18]; generalize hq_ : World.drewN w18 _ = w18; have n0_ : Aside0 (w18.heap[gb908]? = some (.cells #[.bool false, .int .u64 0, .int .u64 0] 43 (0, 0))) := ⟨by rw [← hq_]; exact (zkq BK908)⟩; have n1_ : Aside0 (Below w.heap.size w w18) := ⟨by rw [← hq_]; exact zaB⟩; clear BK908 HB hq_; have BK908 := n0_; have HB := n1_; clear n0_ n1_))) | ((with_reducible refine gtc 37 rfl ?_); refine zgL 19 Try.func37 (span_Make.calls k a0 a1 t919 t920 t921 _ A17.out) (h := ?_); rintro w19 hb; replace BK908 := zkb BK908 hb; replace HB := zkB HB hb; (try clear hb); refine zu3 BK908 fun _ _ _ _ _ _ => ?_))
 refine bodyPost_ret (results_cell_row rfl _ _ gb908 43 #[.bool t919, .int .u64 t920, .int .u64 t921] (0, 0) _ rfl (blk_put (cs := #[.bool t919, .int .u64 t920, .int .u64 0]) (blk_put (cs := #[.bool t919, .int .u64 0, .int .u64 0]) (blk_put (zkq BK908) 0 _ rfl) 1 _ rfl) 2 _ rfl) Try.underlying43 rfl (by kernel_rfl)) rfl ?_
 exact ⟨zaE, zaB⟩
theorem pattern_Quiet.calls  (r : Int) (w : World) (h : pattern_Quiet.f  = some r) :
  Calls Try.prog 81 #[] w fun e w' => e = .returned (.int .u64 r) ∧ Drawn0 w w' := by
 have H : (some 9221120237041090560) = some r := h
 clear h
 obtain rfl := Option.some.inj H
 go_enter Try.func81, Try.ntmps81
 go_wp2
 go_ret
 exact ⟨by first | rfl | (simp; done) | (simp [*]; done), by repeat (first | exact Drawn0.refl _ | apply Drawn0.step)⟩
theorem pattern_Split.calls (k : Nat) (a0 : Int) (r1 : Int) (r2 : Int) (w : World) (h : pattern_Split.f k a0 = some (r1, r2)) :
  Calls Try.prog 140 #[.int .u64 a0] w fun e w' => e = .returned (.tuple #[.int .u64 r1, .int .i64 r2]) ∧ Drawn0 w w' := by
 have H := h
 unfold pattern_Split.f at H
 clear h
 obtain ⟨⟨t104, t105, t106⟩, A2, H⟩ := zbs H
 try dsimp only at H
 obtain ⟨t107, A3, H⟩ := zbs H
 try dsimp only at H
 by_cases c4 : t107 = 2
 ·rw [if_pos c4] at H
  have c4b0 : (t107 == 2) = true := beq_iff_eq.mpr c4
  have c4b1 : (t107 != 2) = false := bne_eq_false_iff_eq.mpr c4
  clear c4
  simp only [Option.some.injEq, Prod.mk.injEq] at H
  obtain ⟨rfl, rfl⟩ := H
  go_enter Try.func140, Try.ntmps140
  go_wp2_with (first | ((with_reducible refine gtc 98 rfl ?_); refine zgL 9 Try.func98 (pattern_Parts.calls a0 t104 t105 t106 _ A2.out) (h := ?_); rintro w' ⟨nd, rfl⟩) | ((with_reducible refine gtc 24 rfl ?_); refine zgL 14 Try.func24 (pattern_Class.calls k a0 t107 _ A3.out) (h := ?_); rintro w' ⟨nd, rfl⟩))
  go_ret2
  exact ⟨by first | rfl | (simp; done) | (simp [*]; done), by repeat (first | exact Drawn0.refl _ | apply Drawn0.step)⟩
 rw [if_neg c4] at H
 have c4b0 : (t107 == 2) = false := beq_eq_false_iff_ne.mpr c4
 have c4b1 : (t107 != 2) = true := bne_iff_ne.mpr c4
 by_cases c5 : t107 = 1
 ·rw [if_pos c5] at H
  have c5b0 : (t107 == 1) = true := beq_iff_eq.mpr c5
  have c5b1 : (t107 != 1) = false := bne_eq_false_iff_eq.mpr c5
  clear c5
  simp only [Option.some.injEq, Prod.mk.injEq] at H
  obtain ⟨rfl, rfl⟩ := H
  go_enter Try.func140, Try.ntmps140
  go_wp2_with (first | ((with_reducible refine gtc 98 rfl ?_); refine zgL 9 Try.func98 (pattern_Parts.calls a0 t104 t105 t106 _ A2.out) (h := ?_); rintro w' ⟨nd, rfl⟩) | ((with_reducible refine gtc 24 rfl ?_); refine zgL 14 Try.func24 (pattern_Class.calls k a0 t107 _ A3.out) (h := ?_); rintro w' ⟨nd, rfl⟩))
  go_ret2
  exact ⟨by first | rfl | (simp; done) | (simp [*]; done), by repeat (first | exact Drawn0.refl _ | apply Drawn0.step)⟩
 rw [if_neg c5] at H
 have c5b0 : (t107 == 1) = false := beq_eq_false_iff_ne.mpr c5
 have c5b1 : (t107 != 1) = true := bne_iff_ne.mpr c5
 simp only [Option.some.injEq, Prod.mk.injEq] at H
 obtain ⟨rfl, rfl⟩ := H
 go_enter Try.func140, Try.ntmps140
 go_wp2_with (first | ((with_reducible refine gtc 98 rfl ?_); refine zgL 9 Try.func98 (pattern_Parts.calls a0 t104 t105 t106 _ A2.out) (h := ?_); rintro w' ⟨nd, rfl⟩) | ((with_reducible refine gtc 24 rfl ?_); refine zgL 14 Try.func24 (pattern_Class.calls k a0 t107 _ A3.out) (h := ?_); rintro w' ⟨nd, rfl⟩))
 go_ret2
 exact ⟨by first | rfl | (simp; done) | (simp [*]; done), by repeat (first | exact Drawn0.refl _ | apply Drawn0.step)⟩
theorem soft_of.calls (k : Nat) (a0 : Int) (r1 : Int) (r2 : Int) (r3 : Bool) (r4 : Int) (r5 : Int) (w : World) (h : soft_of.f k a0 = some (r1, r2, r3, r4, r5)) :
  Calls Try.prog 82 #[.int .u64 a0] w fun e w' => e = .returned (.agg #[.int .u64 r1, .int .u8 r2, .bool r3, .int .u64 r4, .int .i64 r5]) ∧ Below w.heap.size w w' := by
 have hu88 := Try.underlying88
 have HB := Aside0.mk (Below.refl w.heap.size w)
 have H := h
 unfold soft_of.f at H
 clear h
 obtain ⟨⟨t109, t110⟩, A2, H⟩ := zbs H
 try dsimp only at H
 obtain ⟨t111, A3, H⟩ := zbs H
 try dsimp only at H
 simp only [Option.some.injEq, Prod.mk.injEq] at H
 obtain ⟨rfl, rfl, rfl, rfl, rfl⟩ := H
 go_enter Try.func82, Try.ntmps82
 go_wp2_with (first | ((with_reducible refine gtd 2 rfl ?_); refine zbx 2 #[.int .u64 0, .int .u8 0, .bool false, .int .u64 0, .int .i64 0] 88 (h := ?_); intro gb108 hg w4 hbox hb; have GW108 := zkZ hg (zaB (p := Below w.heap.size w _)); replace HB := Aside0.mk (below_step zaB hb); have BK108 := Aside0.mk (hbox); clear hb hbox hg) | ((with_reducible refine gtc 140 rfl ?_); refine zgL 7 Try.func140 (pattern_Split.calls k a0 t109 t110 _ A2.out) (h := ?_); rintro w' ⟨nd, rfl⟩; (try (rw [drewN_self w4]; generalize hq_ : World.drewN w4 _ = w4; have n0_ : Aside0 (w4.heap[gb108]? = some (.cells #[.int .u64 0, .int .u8 0, .bool false, .int .u64 0, .int .i64 0] 88 (0, 0))) := ⟨by rw [← hq_]; exact (zkq BK108)⟩; have n1_ : Aside0 (Below w.heap.size w w4) := ⟨by rw [← hq_]; exact zaB⟩; clear BK108 HB hq_; have BK108 := n0_; have HB := n1_; clear n0_ n1_))) | ((with_reducible refine gtc 24 rfl ?_); refine zgL 12 Try.func24 (pattern_Class.calls k a0 t111 _ A3.out) (h := ?_); rintro w' ⟨nd, rfl⟩; (try (rw [drewN_self w4]; generalize hq_ : World.drewN w4 _ = w4; have n0_ : Aside0 (w4.heap[gb108]? = some (.cells #[.int .u64 0, .int .u8 0, .bool false, .int .u64 0, .int .i64 0] 88 (0, 0))) := ⟨by rw [← hq_]; exact (zkq BK108)⟩; have n1_ : Aside0 (Below w.heap.size w w4) := ⟨by rw [← hq_]; exact zaB⟩; clear BK108 HB hq_; have BK108 := n0_; have HB := n1_; clear n0_ n1_)); refine zu5 BK108 fun _ _ _ _ _ _ _ _ _ _ => ?_))
 refine bodyPost_ret (results_cell_row rfl _ _ gb108 88 #[.int .u64 a0, .int .u8 t111, .bool ((a0 / 9223372036854775808) == 1), .int .u64 t109, .int .i64 t110] (0, 0) _ rfl (blk_put (cs := #[.int .u64 a0, .int .u8 t111, .bool ((a0 / 9223372036854775808) == 1), .int .u64 t109, .int .i64 0]) (blk_put (cs := #[.int .u64 a0, .int .u8 t111, .bool ((a0 / 9223372036854775808) == 1), .int .u64 0, .int .i64 0]) (blk_put (cs := #[.int .u64 a0, .int .u8 t111, .bool false, .int .u64 0, .int .i64 0]) (blk_put (cs := #[.int .u64 a0, .int .u8 0, .bool false, .int .u64 0, .int .i64 0]) (blk_put (zkq BK108) 0 _ rfl) 1 _ rfl) 2 _ rfl) 3 _ rfl) 4 _ rfl) Try.underlying88 rfl (by kernel_rfl)) rfl ?_
 exact ⟨zaE, zaB⟩
theorem soft_either.calls (a0_0 : Int) (a0_1 : Int) (a0_2 : Bool) (a0_3 : Int) (a0_4 : Int) (a1_0 : Int) (a1_1 : Int) (a1_2 : Bool) (a1_3 : Int) (a1_4 : Int) (a2 : Int) (r : Bool) (w : World) (h : soft_either.f a0_0 a0_1 a0_2 a0_3 a0_4 a1_0 a1_1 a1_2 a1_3 a1_4 a2 = some r) :
  Calls Try.prog 83 #[.agg #[.int .u64 a0_0, .int .u8 a0_1, .bool a0_2, .int .u64 a0_3, .int .i64 a0_4], .agg #[.int .u64 a1_0, .int .u8 a1_1, .bool a1_2, .int .u64 a1_3, .int .i64 a1_4], .int .u8 a2] w fun e w' => e = .returned (.bool r) ∧ Below w.heap.size w w' := by
 have hu88 := Try.underlying88
 have HB := Aside0.mk (Below.refl w.heap.size w)
 have H : (if a0_1 = a2 then (some true) else (some (a1_1 == a2))) = some r := h
 clear h
 by_cases c4 : a0_1 = a2
 ·rw [if_pos c4] at H
  have c4b0 : (a0_1 == a2) = true := beq_iff_eq.mpr c4
  have c4b1 : (a0_1 != a2) = false := bne_eq_false_iff_eq.mpr c4
  clear c4
  obtain rfl := Option.some.inj H
  go_enter Try.func83, Try.ntmps83
  go_wp2_with (first | ((with_reducible refine gtd 3 rfl ?_); refine zbx 3 #[.int .u64 a0_0, .int .u8 a0_1, .bool a0_2, .int .u64 a0_3, .int .i64 a0_4] 88 (h := ?_); intro gb112 hg w5 hbox hb; have GW112 := zkZ hg (zaB (p := Below w.heap.size w _)); replace HB := Aside0.mk (below_step zaB hb); have BK112 := Aside0.mk (hbox); clear hb hbox hg) | ((with_reducible refine gtd 4 rfl ?_); refine zbx 4 #[.int .u64 a1_0, .int .u8 a1_1, .bool a1_2, .int .u64 a1_3, .int .i64 a1_4] 88 (h := ?_); intro gb113 hg w6 hbox hb; refine zbn1 HB BK112 hg hb hbox (c := ?_); clear HB BK112 hb hbox hg; intro GW113 NB112_113 BK112 HB BK113; refine zt1 NB112_113 fun _ _ => ?_; refine zu5 BK112 fun _ _ _ _ _ _ _ _ _ _ => ?_))
  go_ret
  exact ⟨zaE, zaB⟩
 rw [if_neg c4] at H
 have c4b0 : (a0_1 == a2) = false := beq_eq_false_iff_ne.mpr c4
 have c4b1 : (a0_1 != a2) = true := bne_iff_ne.mpr c4
 obtain rfl := Option.some.inj H
 go_enter Try.func83, Try.ntmps83
 go_wp2_with (first | ((with_reducible refine gtd 3 rfl ?_); refine zbx 3 #[.int .u64 a0_0, .int .u8 a0_1, .bool a0_2, .int .u64 a0_3, .int .i64 a0_4] 88 (h := ?_); intro gb112 hg w9 hbox hb; have GW112 := zkZ hg (zaB (p := Below w.heap.size w _)); replace HB := Aside0.mk (below_step zaB hb); have BK112 := Aside0.mk (hbox); clear hb hbox hg) | ((with_reducible refine gtd 4 rfl ?_); refine zbx 4 #[.int .u64 a1_0, .int .u8 a1_1, .bool a1_2, .int .u64 a1_3, .int .i64 a1_4] 88 (h := ?_); intro gb113 hg w10 hbox hb; refine zbn1 HB BK112 hg hb hbox (c := ?_); clear HB BK112 hb hbox hg; intro GW113 NB112_113 BK112 HB BK113; refine zt1 NB112_113 fun _ _ => ?_; refine zu5 BK112 fun _ _ _ _ _ _ _ _ _ _ => ?_; refine zu5 BK113 fun _ _ _ _ _ _ _ _ _ _ => ?_))
 go_ret
 exact ⟨zaE, zaB⟩
theorem soft_invalid.calls  (r1 : Int) (r2 : Int) (w : World) (h : soft_invalid.f  = some (r1, r2)) :
  Calls Try.prog 84 #[] w fun e w' => e = .returned (.tuple #[.int .u64 r1, .int .u8 r2]) ∧ Drawn0 w w' := by
 have H : ((pattern_Quiet.f).bind fun t114 => (some (t114, 16))) = some (r1, r2) := h
 clear h
 obtain ⟨t114, A1, H⟩ := zbs H
 try dsimp only at H
 simp only [Option.some.injEq, Prod.mk.injEq] at H
 obtain ⟨rfl, rfl⟩ := H
 go_enter Try.func84, Try.ntmps84
 go_wp2_with (first | ((with_reducible refine gtc 81 rfl ?_); refine zgL 2 Try.func81 (pattern_Quiet.calls  t114 _ A1.out) (h := ?_); rintro w' ⟨nd, rfl⟩))
 go_ret2
 exact ⟨by first | rfl | (simp; done) | (simp [*]; done), by repeat (first | exact Drawn0.refl _ | apply Drawn0.step)⟩
theorem bits_Len64.calls (a0 : Int) (r : Int) (w : World) (h : bits_Len64.f a0 = some r) :
  Calls Try.prog 161 #[.int .u64 a0] w fun e w' => e = .returned (.int .i64 r) ∧ Drawn0 w w' := by
 unfold bits_Len64.f at h
 split at h
 ·rename_i g
  obtain rfl := Option.some.inj h
  exact (Try.bits_Len64 a0 w g.1 g.2).mono fun e w' ⟨h1, h2⟩ => ⟨h1, h2 ▸ Drawn0.refl _⟩
 cases h
theorem wide_U128_Len.calls (a0_0 : Int) (a0_1 : Int) (r : Int) (w : World) (h : wide_U128_Len.f a0_0 a0_1 = some r) :
  Calls Try.prog 103 #[.agg #[.int .u64 a0_0, .int .u64 a0_1]] w fun e w' => e = .returned (.int .i64 r) ∧ Below w.heap.size w w' := by
 have hu109 := Try.underlying109
 have HB := Aside0.mk (Below.refl w.heap.size w)
 have H := h
 unfold wide_U128_Len.f at H
 clear h
 by_cases c2 : a0_0 > 0
 ·rw [if_pos c2] at H
  have c2b0 : decide (0 < a0_0) = true := decide_eq_true c2
  clear c2
  obtain ⟨t118, A3, H⟩ := zbs H
  try dsimp only at H
  obtain rfl := Option.some.inj H
  go_enter Try.func103, Try.ntmps103
  go_wp2_with (first | ((with_reducible refine gtd 1 rfl ?_); refine zbx 1 #[.int .u64 a0_0, .int .u64 a0_1] 109 (h := ?_); intro gb117 hg w4 hbox hb; have GW117 := zkZ hg (zaB (p := Below w.heap.size w _)); replace HB := Aside0.mk (below_step zaB hb); have BK117 := Aside0.mk (hbox); clear hb hbox hg; refine zu2 BK117 fun _ _ _ _ => ?_) | ((with_reducible refine gtc 161 rfl ?_); refine zgL 8 Try.func161 (bits_Len64.calls a0_0 t118 _ A3.out) (h := ?_); rintro w' ⟨nd, rfl⟩))
  go_ret
  exact ⟨zaE, zaB⟩
 rw [if_neg c2] at H
 have c2b0 : decide (0 < a0_0) = false := decide_eq_false c2
 clear c2
 obtain ⟨t119, A6, H⟩ := zbs H
 try dsimp only at H
 obtain rfl := Option.some.inj H
 go_enter Try.func103, Try.ntmps103
 go_wp2_with (first | ((with_reducible refine gtd 1 rfl ?_); refine zbx 1 #[.int .u64 a0_0, .int .u64 a0_1] 109 (h := ?_); intro gb117 hg w7 hbox hb; have GW117 := zkZ hg (zaB (p := Below w.heap.size w _)); replace HB := Aside0.mk (below_step zaB hb); have BK117 := Aside0.mk (hbox); clear hb hbox hg; refine zu2 BK117 fun _ _ _ _ => ?_) | ((with_reducible refine gtc 161 rfl ?_); refine zgL 12 Try.func161 (bits_Len64.calls a0_1 t119 _ A6.out) (h := ?_); rintro w' ⟨nd, rfl⟩))
 go_ret
 exact ⟨zaE, zaB⟩
theorem eqA109 (d : Nat) (w : World) (x0 y0 : Int) (x1 y1 : Int) :
  (Op.equalIn (d + 2) 109 (.agg #[.int .u64 x0, .int .u64 x1]) (.agg #[.int .u64 y0, .int .u64 y1])).run Try.prog w = .ok (x0 == y0 && (x1 == y1)) w := by
 refine eqA_of Try.underlying109 (by kernel_rfl) ?_
 refine eqf_cons (by rfl) (by go_simp; rfl) (by go_simp; rfl) (by go_simp) ?_
 exact eqf_last (by rfl) (by go_simp; rfl) (by go_simp; rfl) (by go_simp)
end Go.Proofs.Ytmadjhmecfbcmaa.F
end
section
namespace Go.Proofs.Ytmadjhmecfbcmaa.F
open Go.RowKit Go.Proofs.YtmadjhmecfbcmaaW.PrintWords Go.Proofs.YtmadjhmecfbcmaaW.PrintLast Go.Proofs.YtmadjhmecfbcmaaW.PrintMore
attribute [local go_sem] max2_int min2_int max_two min_two max_three min_three max_four min_four
set_option linter.unusedVariables false
set_option linter.unusedSimpArgs false
set_option maxHeartbeats 8000000
set_option maxRecDepth 100000
attribute [local go_sem high] eqA109
def wide_U128_Shl.T8 : Bool × List (List Nat × List Nat) := (true, [([], []), ([0], [0]), ([], []), ([1, 2], [1, 2]), ([], []), ([4], [4]), ([], []), ([6], [6]), ([5, 7], [5, 7]), ([3, 8], [3, 8]), ([], []), ([10], [10]), ([], []), ([11, 12], [11, 12]), ([9, 13], [9, 13]), ([14, 0, 1, 2, 3, 4, 5, 6, 7, 8, 9, 10, 11, 12, 13, 14], [14])])
def wide_U128_Shl.B8 : List Nat := [0, 1, 0, 7, 0, 16, 0, 64, 240, 511, 0, 1024, 0, 7168, 16383, 32767]
theorem wide_U128_Shl.tab8 : rtab .any (opsOf Try.f106 8) = wide_U128_Shl.T8 := by kernel_rfl
theorem wide_U128_Shl.bits8 : waitsOk wide_U128_Shl.T8.2 wide_U128_Shl.B8 = true := by kernel_rfl
theorem wide_U128_Shl.calls (k : Nat) (a0_0 : Int) (a0_1 : Int) (a1 : Int) (r1 : Int) (r2 : Int) (w : World) (h : wide_U128_Shl.f k a0_0 a0_1 a1 = some (r1, r2)) :
  Calls Try.prog 106 #[.agg #[.int .u64 a0_0, .int .u64 a0_1], .int .i64 a1] w fun e w' => e = .returned (.agg #[.int .u64 r1, .int .u64 r2]) ∧ Below w.heap.size w w' := by
 have hu109 := Try.underlying109
 have HB := Aside0.mk (Below.refl w.heap.size w)
 have H : (wide_U128_Shl.l0 k a1 a0_0 a0_1) = some (r1, r2) := h
 clear h
 have H' := Aside0.mk H
 clear H
 go_enter Try.func106, Try.ntmps106
 go_wp2_with (first | ((with_reducible refine gtd 2 rfl ?_); refine zbx 2 #[.int .u64 a0_0, .int .u64 a0_1] 109 (h := ?_); intro gb120 hg w3 hbox hb; have GW120 := zkZ hg (zaB (p := Below w.heap.size w _)); replace HB := Aside0.mk (below_step zaB hb); have BK120 := Aside0.mk (hbox); clear hb hbox hg) | ((with_reducible refine gtd 4 rfl ?_); refine zbx 4 #[.int .u64 0, .int .u64 0] 109 (h := ?_); intro gb121 hg w4 hbox hb; refine zbn1 HB BK120 hg hb hbox (c := ?_); clear HB BK120 hb hbox hg; intro GW121 NB120_121 BK120 HB BK121))
 (try simp only [Act.put, List.setIfInBounds_toArray, List.set_cons_zero, List.set_cons_succ])
 go_loopg [1] k (fun kq v1 w' => ∃ (x1_1 : Int) (x121000_1 : Int) (x121001_1 : Int) (x122000_1 : Int) (x122001_1 : Int), v1 = .int .i64 x1_1 ∧ Aside0 (wide_U128_Shl.l0 kq x1_1 x121000_1 x121001_1 = some (r1, r2)) ∧ Aside0 (kq ≤ k) ∧ Aside0 (w'.heap[gb120]? = some (.cells #[.int .u64 x121000_1, .int .u64 x121001_1] 109 (0, 0))) ∧ Aside0 (w'.heap[gb121]? = some (.cells #[.int .u64 x122000_1, .int .u64 x122001_1] 109 (0, 0))) ∧ Aside0 (Below w.heap.size w w'))
 case atStart => exact ⟨(a1), (a0_0), (a0_1), (0), (0), zrl, H', ⟨Nat.le_refl _⟩, ⟨zkq BK120⟩, ⟨zkq BK121⟩, ⟨zaB⟩⟩
 case round =>
  clear H'
  obtain ⟨x1_1, x121000_1, x121001_1, x122000_1, x122001_1, rfl, HA, HK1, BK120, BK121, HB⟩ := hrel
  cases gk with
  | zero => exact absurd HA.out (by simp [wide_U128_Shl.l0])
  | succ k1 =>
   have H := HA.out
   clear HA
   simp only [wide_U128_Shl.l0] at H
   by_cases c5 : x1_1 ≥ 64
   ·rw [if_pos c5] at H
    have c5b0 : decide (64 ≤ x1_1) = true := decide_eq_true c5
    clear c5
    by_cases c6 : (x121001_1 == 0) = true
    ·rw [if_pos c6] at H
     have c6b0 : (x121001_1 == 0) = true := c6
     (try (have c6b1 : decide (x121001_1 = 0) = true := by simpa using c6))
     (try (have c6b2 : (x121001_1 == 0) = true := by simpa using c6))
     clear c6
     simp only [Option.some.injEq, Prod.mk.injEq] at H
     obtain ⟨rfl, rfl⟩ := H
     refine zt1 NB120_121 fun _ _ => ?_
     refine zu2 BK120 fun _ _ _ _ => ?_
     refine zu2 BK121 fun _ _ _ _ => ?_
     go_wp2
     refine bodyPost_ret (results_cell_row rfl _ _ gb121 109 #[.int .u64 x121001_1, .int .u64 0] (0, 0) _ rfl (blk_put (cs := #[.int .u64 x121001_1, .int .u64 x122001_1]) (blk_put (zkf (zkf (zkq BK121) (zks NB120_121).out _) (zks NB120_121).out _) 0 _ rfl) 1 _ rfl) Try.underlying109 rfl (by kernel_rfl)) rfl ?_
     exact ⟨zaE, zaB⟩
    rw [if_neg c6] at H
    have c6b0 : (x121001_1 == 0) = false := by simpa using c6
    (try (have c6b1 : decide (x121001_1 = 0) = false := by simpa using c6))
    (try (have c6b2 : (x121001_1 == 0) = false := by simpa using c6))
    (try (have c6b3 : ¬ (x121001_1 = 0) := by simpa using c6))
    clear c6
    have H' := Aside0.mk H
    clear H
    refine zt1 NB120_121 fun _ _ => ?_
    refine zu2 BK120 fun _ _ _ _ => ?_
    go_wp2
    go_roundg k1
    case measure => have := HK1.out; omega
    case rel => exact ⟨(wrap64 (x1_1 - 64)), (x121001_1), (0), (x122000_1), (x122001_1), zrl, H', ⟨by have := HK1.out; omega⟩, ⟨(blk_put (cs := #[.int .u64 x121001_1, .int .u64 x121001_1]) (blk_put (zkq BK120) 0 _ rfl) 1 _ rfl)⟩, ⟨(zkf (zkf (zkq BK121) (zks NB120_121).out _) (zks NB120_121).out _)⟩, ⟨zaB⟩⟩
   rw [if_neg c5] at H
   have c5b0 : decide (64 ≤ x1_1) = false := decide_eq_false c5
   clear c5
   by_cases c12 : x1_1 ≤ 0
   ·rw [if_pos c12] at H
    have c12b0 : decide (x1_1 ≤ 0) = true := decide_eq_true c12
    clear c12
    simp only [Option.some.injEq, Prod.mk.injEq] at H
    obtain ⟨rfl, rfl⟩ := H
    refine zt1 NB120_121 fun _ _ => ?_
    refine zu2 BK120 fun _ _ _ _ => ?_
    refine zu2 BK121 fun _ _ _ _ => ?_
    go_wp2
    refine bodyPost_ret (results_cell_row rfl _ _ gb121 109 #[.int .u64 x121000_1, .int .u64 x121001_1] (0, 0) _ rfl (blk_put (cs := #[.int .u64 x121000_1, .int .u64 x122001_1]) (blk_put (zkq BK121) 0 _ rfl) 1 _ rfl) Try.underlying109 rfl (by kernel_rfl)) rfl ?_
    exact ⟨zaE, zaB⟩
   rw [if_neg c12] at H
   have c12b0 : decide (x1_1 ≤ 0) = false := decide_eq_false c12
   clear c12
   by_cases c16 : 0 ≤ x1_1
   ·rw [if_pos c16] at H
    have c16b0 := eq_true c16
    have c16b1 : decide (0 ≤ x1_1) = true := decide_eq_true c16
    clear c16
    obtain ⟨ji17, hji17⟩ : ∃ j_ : Int, (shl .u64 x121000_1 x1_1) = j_ := ⟨_, rfl⟩
    replace H : (if 0 ≤ (wrap64 (64 - x1_1)) then (some (Go.bits .or .u64 (ji17) (shr .u64 x121001_1 (wrap64 (64 - x1_1))), shl .u64 x121001_1 x1_1)) else (none)) = some (r1, r2) := by first | (rw [hji17] at H; exact H) | (simp only [hji17] at H ⊢; exact H)
    have hji17_ : (IntKind.u64.wrap (x121000_1 * 2 ^ min x1_1.toNat 64)) = ji17 := hji17
    have hji17z : x1_1 ≤ 64 → (IntKind.u64.wrap (x121000_1 * 2 ^ x1_1.toNat)) = ji17 := shl_small hji17
    obtain ⟨ji18, hji18⟩ : ∃ j_ : Int, (wrap64 (64 - x1_1)) = j_ := ⟨_, rfl⟩
    replace H : (if 0 ≤ (ji18) then (some (Go.bits .or .u64 (ji17) (shr .u64 x121001_1 (ji18)), shl .u64 x121001_1 x1_1)) else (none)) = some (r1, r2) := by first | (rw [hji18] at H; exact H) | (simp only [hji18] at H ⊢; exact H)
    have hji18w : (IntKind.i64.wrap (64 - x1_1)) = ji18 := (i64_w _).trans hji18
    by_cases c19 : 0 ≤ (ji18)
    ·rw [if_pos c19] at H
     have c19b0 := eq_true c19
     have c19b1 : decide (0 ≤ (ji18)) = true := decide_eq_true c19
     clear c19
     obtain ⟨ji20, hji20⟩ : ∃ j_ : Int, (shr .u64 x121001_1 (ji18)) = j_ := ⟨_, rfl⟩
     replace H : (some (Go.bits .or .u64 (ji17) (ji20), shl .u64 x121001_1 x1_1)) = some (r1, r2) := by first | (rw [hji20] at H; exact H) | (simp only [hji20] at H ⊢; exact H)
     have hji20_ : (x121001_1 / 2 ^ min (ji18).toNat 64) = ji20 := hji20
     have hji20z : (ji18) ≤ 64 → (x121001_1 / 2 ^ (ji18).toNat) = ji20 := shr_small hji20
     have c21b0 := eq_true (of_decide_eq_true (by first | (with_reducible assumption) | assumption) : 0 ≤ x1_1)
     obtain ⟨ji22, hji22⟩ : ∃ j_ : Int, (shl .u64 x121001_1 x1_1) = j_ := ⟨_, rfl⟩
     replace H : (some (Go.bits .or .u64 (ji17) (ji20), ji22)) = some (r1, r2) := by first | (rw [hji22] at H; exact H) | (simp only [hji22] at H ⊢; exact H)
     have hji22_ : (IntKind.u64.wrap (x121001_1 * 2 ^ min x1_1.toNat 64)) = ji22 := hji22
     have hji22z : x1_1 ≤ 64 → (IntKind.u64.wrap (x121001_1 * 2 ^ x1_1.toNat)) = ji22 := shl_small hji22
     simp only [Option.some.injEq, Prod.mk.injEq] at H
     obtain ⟨rfl, rfl⟩ := H
     try go_wp2
     replace BK120 := Aside0.mk (blk_drew BK120.out)
     replace BK121 := Aside0.mk (blk_drew BK121.out)
     replace HB := Aside0.mk (below_drew1 HB.out)
     refine start_ (n := 16) (S := fun w' => w'.cell? ⟨gb120, 0, none⟩ = some (.int .u64 x121000_1) ∧ w'.cell? ⟨gb120, 1, none⟩ = some (.int .u64 x121001_1)) (ds := []) #[false, false, false, false, false, false, false, false, false, false, false, false, false, false, false, false] (by kernel_rfl) rfl rfl (ze2 BK120) (fun hHeld => ?_); refine with_tabW wide_U128_Shl.tab8 wide_U128_Shl.bits8 (fun HT_ HW_ => ?_)
     generalize wr.drew = w23 at BK120 BK121 HB hHeld ⊢
     refine zpA 0 19 (h := ?_)
     refine zpA 2 21 (h := ?_)
     refine zpA 4 23 (h := ?_)
     refine zpA 6 25 (h := ?_)
     refine zpA 7 26 (h := ?_)
     refine zpA 10 29 (h := ?_)
     refine zpA 12 31 (h := ?_)
     refine ztA 1 20 (h := ?_)
     refine zpA 3 22 (h := ?_)
     refine ztA 5 24 (h := ?_)
     refine zpA 8 27 (h := ?_)
     refine zpA 9 28 (h := ?_)
     refine ztA 11 30 (h := ?_)
     refine zpA 13 32 (h := ?_)
     refine zpA 14 33 (h := ?_)
     refine one_ (i := 15) (N := none) #[true, true, true, true, true, true, true, true, true, true, true, true, true, true, true, true] rfl rfl (one_of HT_.out (by kernel_rfl)) (by decide) (fun K hK => ?_)
     have hs24 := zc0 BK121
     have hfs24 := blk_frozen BK121.out 0
     refine zt1 NB120_121 fun _ _ => ?_
     have hs25 := zc1 BK121
     have hfs25 := blk_frozen BK121.out 1
     refine zt1 NB120_121 fun _ _ => ?_
     refine skip_ (w1 := ?_) (by rfl) rfl ?_ ?_
     rotate_left
     ·go_simp
      rfl
     refine hK.out _ _ ⟨(zff NB120_121 (zff NB120_121 hHeld.1)), (zff NB120_121 (zff NB120_121 hHeld.2))⟩ (fun hHeld => ?_)
     clear hK K
     refine done_ (done_of HT_.out (by kernel_rfl)) ?_
     try go_wp2
     refine bodyPost_ret (results_cell_row rfl _ _ gb121 109 #[.int .u64 (Go.bits .or .u64 (ji17) (ji20)), .int .u64 ji22] (0, 0) _ rfl (blk_put (cs := #[.int .u64 (Go.bits .or .u64 (ji17) (ji20)), .int .u64 x122001_1]) (blk_put (zkq BK121) 0 _ rfl) 1 _ rfl) Try.underlying109 rfl (by kernel_rfl)) rfl ?_
     exact ⟨by first | rfl | (simp [errW_none, errW_some] <;> rfl) | (simp only [← hji17, ← hji18, ← hji20, ← hji22]; first | rfl | (simp [errW_none, errW_some] <;> rfl)) | (simp [*, errW_none, errW_some] <;> rfl), zaB⟩
    rw [if_neg c19] at H
    exact absurd H (by simp)
   rw [if_neg c16] at H
   exact absurd H (by simp)
def wide_U128_Shr.T10 : Bool × List (List Nat × List Nat) := (true, [([], []), ([0], [0]), ([], []), ([1, 2], [1, 2]), ([], []), ([4], [4]), ([], []), ([5, 6], [5, 6]), ([], []), ([8], [8]), ([], []), ([10], [10]), ([9, 11], [9, 11]), ([7, 12], [7, 12]), ([3, 13], [3, 13]), ([], []), ([15], [15]), ([16], [16]), ([17, 16], [16, 17]), ([16], [16]), ([19, 16], [16, 19]), ([18, 20, 16], [16, 18, 20]), ([21, 16], [16, 21]), ([16, 22], [16, 22]), ([14, 16, 0, 1, 2, 3, 4, 5, 6, 7, 8, 9, 10, 11, 12, 13, 14], [14]), ([23, 24, 0, 1, 2, 3, 4, 5, 6, 7, 8, 9, 10, 11, 12, 13, 14, 15, 16, 17, 18, 19, 20, 21, 22, 23, 24], [23])])
def wide_U128_Shr.B10 : List Nat := [0, 1, 0, 7, 0, 16, 0, 112, 0, 256, 0, 1024, 3840, 8176, 16383, 0, 32768, 98304, 229376, 98304, 622592, 2064384, 4161536, 8355840, 131071, 33554431]
theorem wide_U128_Shr.tab10 : rtab .any (opsOf Try.f151 10) = wide_U128_Shr.T10 := by kernel_rfl
theorem wide_U128_Shr.bits10 : waitsOk wide_U128_Shr.T10.2 wide_U128_Shr.B10 = true := by kernel_rfl
theorem wide_U128_Shr.calls (k : Nat) (a0_0 : Int) (a0_1 : Int) (a1 : Int) (r1 : Int) (r2 : Int) (r3 : Bool) (w : World) (h : wide_U128_Shr.f k a0_0 a0_1 a1 = some (r1, r2, r3)) :
  Calls Try.prog 151 #[.agg #[.int .u64 a0_0, .int .u64 a0_1], .int .i64 a1] w fun e w' => e = .returned (.tuple #[.agg #[.int .u64 r1, .int .u64 r2], .bool r3]) ∧ Below w.heap.size w w' := by
 have hu109 := Try.underlying109
 have HB := Aside0.mk (Below.refl w.heap.size w)
 have H : (wide_U128_Shr.l0 k a1 false a0_0 a0_1) = some (r1, r2, r3) := h
 clear h
 have H' := Aside0.mk H
 clear H
 go_enter Try.func151, Try.ntmps151
 go_wp2_with (first | ((with_reducible refine gtd 2 rfl ?_); refine zbx 2 #[.int .u64 a0_0, .int .u64 a0_1] 109 (h := ?_); intro gb122 hg w3 hbox hb; have GW122 := zkZ hg (zaB (p := Below w.heap.size w _)); replace HB := Aside0.mk (below_step zaB hb); have BK122 := Aside0.mk (hbox); clear hb hbox hg) | ((with_reducible refine gtd 4 rfl ?_); refine zbx 4 #[.int .u64 0, .int .u64 0] 109 (h := ?_); intro gb123 hg w4 hbox hb; refine zbn1 HB BK122 hg hb hbox (c := ?_); clear HB BK122 hb hbox hg; intro GW123 NB122_123 BK122 HB BK123))
 (try simp only [Act.put, List.setIfInBounds_toArray, List.set_cons_zero, List.set_cons_succ])
 go_loopg [1, 6] k (fun kq v1 v6 w' => ∃ (x1_1 : Int) (x6_1 : Bool) (x123000_1 : Int) (x123001_1 : Int) (x124000_1 : Int) (x124001_1 : Int), v1 = .int .i64 x1_1 ∧ v6 = .bool x6_1 ∧ Aside0 (wide_U128_Shr.l0 kq x1_1 x6_1 x123000_1 x123001_1 = some (r1, r2, r3)) ∧ Aside0 (kq ≤ k) ∧ Aside0 (w'.heap[gb122]? = some (.cells #[.int .u64 x123000_1, .int .u64 x123001_1] 109 (0, 0))) ∧ Aside0 (w'.heap[gb123]? = some (.cells #[.int .u64 x124000_1, .int .u64 x124001_1] 109 (0, 0))) ∧ Aside0 (Below w.heap.size w w'))
 case atStart => exact ⟨(a1), (false), (a0_0), (a0_1), (0), (0), zrl, zrl, H', ⟨Nat.le_refl _⟩, ⟨zkq BK122⟩, ⟨zkq BK123⟩, ⟨zaB⟩⟩
 case round =>
  clear H'
  obtain ⟨x1_1, x6_1, x123000_1, x123001_1, x124000_1, x124001_1, rfl, rfl, HA, HK1, BK122, BK123, HB⟩ := hrel
  cases gk with
  | zero => exact absurd HA.out (by simp [wide_U128_Shr.l0])
  | succ k1 =>
   have H := HA.out
   clear HA
   simp only [wide_U128_Shr.l0] at H
   by_cases c5 : x1_1 ≥ 64
   ·rw [if_pos c5] at H
    have c5b0 : decide (64 ≤ x1_1) = true := decide_eq_true c5
    clear c5
    by_cases c6 : x6_1 = true
    ·subst c6
     replace H := zit H
     by_cases c7 : (x123000_1 == 0) = true
     ·rw [if_pos c7] at H
      have c7b0 : (x123000_1 == 0) = true := c7
      (try (have c7b1 : decide (x123000_1 = 0) = true := by simpa using c7))
      (try (have c7b2 : (x123000_1 == 0) = true := by simpa using c7))
      clear c7
      simp only [Option.some.injEq, Prod.mk.injEq] at H
      obtain ⟨rfl, rfl, rfl⟩ := H
      refine zt1 NB122_123 fun _ _ => ?_
      refine zu2 BK122 fun _ _ _ _ => ?_
      refine zu2 BK123 fun _ _ _ _ => ?_
      go_wp2
      refine bodyPost_ret (results_ct rfl _ _ gb123 109 #[.int .u64 0, .int .u64 x123000_1] (0, 0) _ rfl (blk_put (cs := #[.int .u64 0, .int .u64 x124001_1]) (blk_put (zkf (zkf (zkq BK123) (zks NB122_123).out _) (zks NB122_123).out _) 0 _ rfl) 1 _ rfl) Try.underlying109 rfl (by kernel_rfl)) rfl ?_
      exact ⟨zaE, zaB⟩
     rw [if_neg c7] at H
     have c7b0 : (x123000_1 == 0) = false := by simpa using c7
     (try (have c7b1 : decide (x123000_1 = 0) = false := by simpa using c7))
     (try (have c7b2 : (x123000_1 == 0) = false := by simpa using c7))
     (try (have c7b3 : ¬ (x123000_1 = 0) := by simpa using c7))
     clear c7
     have H' := Aside0.mk H
     clear H
     refine zt1 NB122_123 fun _ _ => ?_
     refine zu2 BK122 fun _ _ _ _ => ?_
     go_wp2
     go_roundg k1
     case measure => have := HK1.out; omega
     case rel => exact ⟨(wrap64 (x1_1 - 64)), (true), (0), (x123000_1), (x124000_1), (x124001_1), zrl, zrl, H', ⟨by have := HK1.out; omega⟩, ⟨(blk_put (cs := #[.int .u64 0, .int .u64 x123001_1]) (blk_put (zkq BK122) 0 _ rfl) 1 _ rfl)⟩, ⟨(zkf (zkf (zkq BK123) (zks NB122_123).out _) (zks NB122_123).out _)⟩, ⟨zaB⟩⟩
    replace c6 := Bool.eq_false_iff.mpr c6
    subst c6
    replace H := zif H
    by_cases c13 : (x123000_1 == 0) = true
    ·rw [if_pos c13] at H
     have c13b0 : (x123000_1 == 0) = true := c13
     (try (have c13b1 : decide (x123000_1 = 0) = true := by simpa using c13))
     (try (have c13b2 : (x123000_1 == 0) = true := by simpa using c13))
     clear c13
     simp only [Option.some.injEq, Prod.mk.injEq] at H
     obtain ⟨rfl, rfl, rfl⟩ := H
     refine zt1 NB122_123 fun _ _ => ?_
     refine zu2 BK122 fun _ _ _ _ => ?_
     refine zu2 BK123 fun _ _ _ _ => ?_
     go_wp2
     refine bodyPost_ret (results_ct rfl _ _ gb123 109 #[.int .u64 0, .int .u64 x123000_1] (0, 0) _ rfl (blk_put (cs := #[.int .u64 0, .int .u64 x124001_1]) (blk_put (zkf (zkf (zkq BK123) (zks NB122_123).out _) (zks NB122_123).out _) 0 _ rfl) 1 _ rfl) Try.underlying109 rfl (by kernel_rfl)) rfl ?_
     exact ⟨zaE, zaB⟩
    rw [if_neg c13] at H
    have c13b0 : (x123000_1 == 0) = false := by simpa using c13
    (try (have c13b1 : decide (x123000_1 = 0) = false := by simpa using c13))
    (try (have c13b2 : (x123000_1 == 0) = false := by simpa using c13))
    (try (have c13b3 : ¬ (x123000_1 = 0) := by simpa using c13))
    clear c13
    have H' := Aside0.mk H
    clear H
    refine zt1 NB122_123 fun _ _ => ?_
    refine zu2 BK122 fun _ _ _ _ => ?_
    go_wp2
    go_roundg k1
    case measure => have := HK1.out; omega
    case rel => exact ⟨(wrap64 (x1_1 - 64)), ((x123001_1 != 0)), (0), (x123000_1), (x124000_1), (x124001_1), zrl, zrl, H', ⟨by have := HK1.out; omega⟩, ⟨(blk_put (cs := #[.int .u64 0, .int .u64 x123001_1]) (blk_put (zkq BK122) 0 _ rfl) 1 _ rfl)⟩, ⟨(zkf (zkf (zkq BK123) (zks NB122_123).out _) (zks NB122_123).out _)⟩, ⟨zaB⟩⟩
   rw [if_neg c5] at H
   have c5b0 : decide (64 ≤ x1_1) = false := decide_eq_false c5
   clear c5
   by_cases c19 : x1_1 ≤ 0
   ·rw [if_pos c19] at H
    have c19b0 : decide (x1_1 ≤ 0) = true := decide_eq_true c19
    clear c19
    simp only [Option.some.injEq, Prod.mk.injEq] at H
    obtain ⟨rfl, rfl, rfl⟩ := H
    refine zt1 NB122_123 fun _ _ => ?_
    refine zu2 BK122 fun _ _ _ _ => ?_
    refine zu2 BK123 fun _ _ _ _ => ?_
    go_wp2
    refine bodyPost_ret (results_ct rfl _ _ gb123 109 #[.int .u64 x123000_1, .int .u64 x123001_1] (0, 0) _ rfl (blk_put (cs := #[.int .u64 x123000_1, .int .u64 x124001_1]) (blk_put (zkq BK123) 0 _ rfl) 1 _ rfl) Try.underlying109 rfl (by kernel_rfl)) rfl ?_
    exact ⟨zaE, zaB⟩
   rw [if_neg c19] at H
   have c19b0 : decide (x1_1 ≤ 0) = false := decide_eq_false c19
   clear c19
   by_cases c23 : 0 ≤ x1_1
   ·rw [if_pos c23] at H
    have c23b0 := eq_true c23
    have c23b1 : decide (0 ≤ x1_1) = true := decide_eq_true c23
    clear c23
    obtain ⟨ji24, hji24⟩ : ∃ j_ : Int, (shr .u64 x123000_1 x1_1) = j_ := ⟨_, rfl⟩
    replace H : (if 0 ≤ (wrap64 (64 - x1_1)) then (if x6_1 = true then (some (ji24, Go.bits .or .u64 (shr .u64 x123001_1 x1_1) (shl .u64 x123000_1 (wrap64 (64 - x1_1))), true)) else (some (ji24, Go.bits .or .u64 (shr .u64 x123001_1 x1_1) (shl .u64 x123000_1 (wrap64 (64 - x1_1))), ((shl .u64 x123001_1 (wrap64 (64 - x1_1))) != 0)))) else (none)) = some (r1, r2, r3) := by first | (rw [hji24] at H; exact H) | (simp only [hji24] at H ⊢; exact H)
    have hji24_ : (x123000_1 / 2 ^ min x1_1.toNat 64) = ji24 := hji24
    have hji24z : x1_1 ≤ 64 → (x123000_1 / 2 ^ x1_1.toNat) = ji24 := shr_small hji24
    have c25b0 := eq_true (of_decide_eq_true (by first | (with_reducible assumption) | assumption) : 0 ≤ x1_1)
    obtain ⟨ji26, hji26⟩ : ∃ j_ : Int, (shr .u64 x123001_1 x1_1) = j_ := ⟨_, rfl⟩
    replace H : (if 0 ≤ (wrap64 (64 - x1_1)) then (if x6_1 = true then (some (ji24, Go.bits .or .u64 (ji26) (shl .u64 x123000_1 (wrap64 (64 - x1_1))), true)) else (some (ji24, Go.bits .or .u64 (ji26) (shl .u64 x123000_1 (wrap64 (64 - x1_1))), ((shl .u64 x123001_1 (wrap64 (64 - x1_1))) != 0)))) else (none)) = some (r1, r2, r3) := by first | (rw [hji26] at H; exact H) | (simp only [hji26] at H ⊢; exact H)
    have hji26_ : (x123001_1 / 2 ^ min x1_1.toNat 64) = ji26 := hji26
    have hji26z : x1_1 ≤ 64 → (x123001_1 / 2 ^ x1_1.toNat) = ji26 := shr_small hji26
    obtain ⟨ji27, hji27⟩ : ∃ j_ : Int, (wrap64 (64 - x1_1)) = j_ := ⟨_, rfl⟩
    replace H : (if 0 ≤ (ji27) then (if x6_1 = true then (some (ji24, Go.bits .or .u64 (ji26) (shl .u64 x123000_1 (ji27)), true)) else (some (ji24, Go.bits .or .u64 (ji26) (shl .u64 x123000_1 (ji27)), ((shl .u64 x123001_1 (ji27)) != 0)))) else (none)) = some (r1, r2, r3) := by first | (rw [hji27] at H; exact H) | (simp only [hji27] at H ⊢; exact H)
    have hji27w : (IntKind.i64.wrap (64 - x1_1)) = ji27 := (i64_w _).trans hji27
    by_cases c28 : 0 ≤ (ji27)
    ·rw [if_pos c28] at H
     have c28b0 := eq_true c28
     have c28b1 : decide (0 ≤ (ji27)) = true := decide_eq_true c28
     clear c28
     obtain ⟨ji29, hji29⟩ : ∃ j_ : Int, (shl .u64 x123000_1 (ji27)) = j_ := ⟨_, rfl⟩
     replace H : (if x6_1 = true then (some (ji24, Go.bits .or .u64 (ji26) (ji29), true)) else (some (ji24, Go.bits .or .u64 (ji26) (ji29), ((shl .u64 x123001_1 (ji27)) != 0)))) = some (r1, r2, r3) := by first | (rw [hji29] at H; exact H) | (simp only [hji29] at H ⊢; exact H)
     have hji29_ : (IntKind.u64.wrap (x123000_1 * 2 ^ min (ji27).toNat 64)) = ji29 := hji29
     have hji29z : (ji27) ≤ 64 → (IntKind.u64.wrap (x123000_1 * 2 ^ (ji27).toNat)) = ji29 := shl_small hji29
     by_cases c30 : x6_1 = true
     ·subst c30
      replace H := zit H
      simp only [Option.some.injEq, Prod.mk.injEq] at H
      obtain ⟨rfl, rfl, rfl⟩ := H
      try go_wp2
      replace BK122 := Aside0.mk (blk_drew BK122.out)
      replace BK123 := Aside0.mk (blk_drew BK123.out)
      replace HB := Aside0.mk (below_drew1 HB.out)
      refine start_ (n := 26) (S := fun w' => w'.cell? ⟨gb122, 0, none⟩ = some (.int .u64 x123000_1) ∧ w'.cell? ⟨gb122, 1, none⟩ = some (.int .u64 x123001_1)) (ds := []) #[false, false, false, false, false, false, false, false, false, false, false, false, false, false, false, false, false, false, false, false, false, false, false, false, false, false] (by kernel_rfl) rfl rfl (ze2 BK122) (fun hHeld => ?_); refine with_tabW wide_U128_Shr.tab10 wide_U128_Shr.bits10 (fun HT_ HW_ => ?_)
      generalize wr.drew = w31 at BK122 BK123 HB hHeld ⊢
      refine zpA 0 29 (h := ?_)
      refine zpA 2 31 (h := ?_)
      refine zpA 4 33 (h := ?_)
      refine zpA 6 35 (h := ?_)
      refine zpA 8 37 (h := ?_)
      refine zpA 10 39 (h := ?_)
      refine zpA 11 40 (h := ?_)
      refine zpA 15 44 (h := ?_)
      refine zpA 16 45 (h := ?_)
      refine zpU 17 46 (h := ?_)
      refine zpU 18 47 (h := ?_)
      refine zpU 19 48 (h := ?_)
      refine zpU 20 49 (h := ?_)
      refine zpU 21 50 (h := ?_)
      refine zpU 22 51 (h := ?_)
      refine zpA 23 52 (h := ?_)
      refine ztA 1 30 (h := ?_)
      refine zpA 3 32 (h := ?_)
      refine ztA 5 34 (h := ?_)
      refine zpA 7 36 (h := ?_)
      refine ztA 9 38 (h := ?_)
      refine zpA 12 41 (h := ?_)
      refine zpA 13 42 (h := ?_)
      refine zpA 14 43 (h := ?_)
      refine one_ (i := 24) (N := none) #[true, true, true, true, true, true, true, true, true, true, true, true, true, true, true, true, true, true, true, true, true, true, true, true, true, false] rfl rfl (one_of HT_.out (by kernel_rfl)) (by decide) (fun K hK => ?_)
      have hs32 := zc0 BK123
      have hfs32 := blk_frozen BK123.out 0
      refine zt1 NB122_123 fun _ _ => ?_
      have hs33 := zc1 BK123
      have hfs33 := blk_frozen BK123.out 1
      refine zt1 NB122_123 fun _ _ => ?_
      refine skip_ (w1 := ?_) (by rfl) rfl ?_ ?_
      rotate_left
      ·go_simp
       rfl
      refine hK.out _ _ ⟨(zff NB122_123 (zff NB122_123 hHeld.1)), (zff NB122_123 (zff NB122_123 hHeld.2))⟩ (fun hHeld => ?_)
      clear hK K
      refine zpA 25 5 (h := ?_)
      refine done_ (done_of HT_.out (by kernel_rfl)) ?_
      try go_wp2
      refine bodyPost_ret (results_ct rfl _ _ gb123 109 #[.int .u64 ji24, .int .u64 (Go.bits .or .u64 (ji26) (ji29))] (0, 0) _ rfl (blk_put (cs := #[.int .u64 ji24, .int .u64 x124001_1]) (blk_put (zkq BK123) 0 _ rfl) 1 _ rfl) Try.underlying109 rfl (by kernel_rfl)) rfl ?_
      exact ⟨by first | rfl | (simp [errW_none, errW_some] <;> rfl) | (simp only [← hji24, ← hji26, ← hji27, ← hji29]; first | rfl | (simp [errW_none, errW_some] <;> rfl)) | (simp [*, errW_none, errW_some] <;> rfl), zaB⟩
     replace c30 := Bool.eq_false_iff.mpr c30
     subst c30
     replace H := zif H
     have c34b0 := eq_true (of_decide_eq_true (by first | (with_reducible assumption) | assumption) : 0 ≤ (ji27))
     obtain ⟨ji35, hji35⟩ : ∃ j_ : Int, (shl .u64 x123001_1 (ji27)) = j_ := ⟨_, rfl⟩
     replace H : (some (ji24, Go.bits .or .u64 (ji26) (ji29), ((ji35) != 0))) = some (r1, r2, r3) := by first | (rw [hji35] at H; exact H) | (simp only [hji35] at H ⊢; exact H)
     have hji35_ : (IntKind.u64.wrap (x123001_1 * 2 ^ min (ji27).toNat 64)) = ji35 := hji35
     have hji35z : (ji27) ≤ 64 → (IntKind.u64.wrap (x123001_1 * 2 ^ (ji27).toNat)) = ji35 := shl_small hji35
     simp only [Option.some.injEq, Prod.mk.injEq] at H
     obtain ⟨rfl, rfl, rfl⟩ := H
     try go_wp2
     replace BK122 := Aside0.mk (blk_drew BK122.out)
     replace BK123 := Aside0.mk (blk_drew BK123.out)
     replace HB := Aside0.mk (below_drew1 HB.out)
     refine start_ (n := 26) (S := fun w' => w'.cell? ⟨gb122, 0, none⟩ = some (.int .u64 x123000_1) ∧ w'.cell? ⟨gb122, 1, none⟩ = some (.int .u64 x123001_1)) (ds := []) #[false, false, false, false, false, false, false, false, false, false, false, false, false, false, false, false, false, false, false, false, false, false, false, false, false, false] (by kernel_rfl) rfl rfl (ze2 BK122) (fun hHeld => ?_); refine with_tabW wide_U128_Shr.tab10 wide_U128_Shr.bits10 (fun HT_ HW_ => ?_)
     generalize wr.drew = w36 at BK122 BK123 HB hHeld ⊢
     refine zpA 0 29 (h := ?_)
     refine zpA 2 31 (h := ?_)
     refine zpA 4 33 (h := ?_)
     refine zpA 6 35 (h := ?_)
     refine zpA 8 37 (h := ?_)
     refine zpA 10 39 (h := ?_)
     refine zpA 11 40 (h := ?_)
     refine zpA 15 44 (h := ?_)
     refine zpA 16 45 (h := ?_)
     refine zpA 17 46 (h := ?_)
     refine zpA 19 48 (h := ?_)
     refine zpA 20 49 (h := ?_)
     refine ztA 1 30 (h := ?_)
     refine zpA 3 32 (h := ?_)
     refine ztA 5 34 (h := ?_)
     refine zpA 7 36 (h := ?_)
     refine ztA 9 38 (h := ?_)
     refine zpA 12 41 (h := ?_)
     refine zpA 13 42 (h := ?_)
     refine zpA 14 43 (h := ?_)
     refine ztA 18 47 (h := ?_)
     refine zpA 21 50 (h := ?_)
     refine zpA 22 51 (h := ?_)
     refine zpA 23 52 (h := ?_)
     refine one_ (i := 24) (N := none) #[true, true, true, true, true, true, true, true, true, true, true, true, true, true, true, true, true, true, true, true, true, true, true, true, true, false] rfl rfl (one_of HT_.out (by kernel_rfl)) (by decide) (fun K hK => ?_)
     have hs37 := zc0 BK123
     have hfs37 := blk_frozen BK123.out 0
     refine zt1 NB122_123 fun _ _ => ?_
     have hs38 := zc1 BK123
     have hfs38 := blk_frozen BK123.out 1
     refine zt1 NB122_123 fun _ _ => ?_
     refine skip_ (w1 := ?_) (by rfl) rfl ?_ ?_
     rotate_left
     ·go_simp
      rfl
     refine hK.out _ _ ⟨(zff NB122_123 (zff NB122_123 hHeld.1)), (zff NB122_123 (zff NB122_123 hHeld.2))⟩ (fun hHeld => ?_)
     clear hK K
     refine zpA 25 5 (h := ?_)
     refine done_ (done_of HT_.out (by kernel_rfl)) ?_
     try go_wp2
     refine bodyPost_ret (results_ct rfl _ _ gb123 109 #[.int .u64 ji24, .int .u64 (Go.bits .or .u64 (ji26) (ji29))] (0, 0) _ rfl (blk_put (cs := #[.int .u64 ji24, .int .u64 x124001_1]) (blk_put (zkq BK123) 0 _ rfl) 1 _ rfl) Try.underlying109 rfl (by kernel_rfl)) rfl ?_
     exact ⟨by first | rfl | (simp [errW_none, errW_some] <;> rfl) | (simp only [← hji24, ← hji26, ← hji27, ← hji29, ← hji35]; first | rfl | (simp [errW_none, errW_some] <;> rfl)) | (simp [*, errW_none, errW_some] <;> rfl), zaB⟩
    rw [if_neg c28] at H
    exact absurd H (by simp)
   rw [if_neg c23] at H
   exact absurd H (by simp)
end Go.Proofs.Ytmadjhmecfbcmaa.F
end
section
namespace Go.Proofs.Ytmadjhmecfbcmaa.F
open Go.RowKit Go.Proofs.YtmadjhmecfbcmaaW.PrintWords Go.Proofs.YtmadjhmecfbcmaaW.PrintLast Go.Proofs.YtmadjhmecfbcmaaW.PrintMore
attribute [local go_sem] max2_int min2_int max_two min_two max_three min_three max_four min_four
set_option linter.unusedVariables false
set_option linter.unusedSimpArgs false
set_option maxHeartbeats 8000000
set_option maxRecDepth 100000
theorem round_number_away.calls (a0_0 : Bool) (a0_1 : Int) (a0_2 : Int) (a0_3 : Int) (a0_4 : Bool) (a1 : Int) (r : Bool) (w : World) (h : round_number_away.f a0_0 a0_1 a0_2 a0_3 a0_4 a1 = some r) :
  Calls Try.prog 200 #[.agg #[.bool a0_0, .int .u64 a0_1, .int .u64 a0_2, .int .i64 a0_3, .bool a0_4], .int .u8 a1] w fun e w' => e = .returned (.bool r) ∧ Below w.heap.size w w' := by
 have hu151 := Try.underlying151
 have HB := Aside0.mk (Below.refl w.heap.size w)
 have H := h
 unfold round_number_away.f at H
 clear h
 by_cases c3 : a1 = 1
 ·rw [if_pos c3] at H
  have c3b0 : (a1 == 1) = true := beq_iff_eq.mpr c3
  have c3b1 : (a1 != 1) = false := bne_eq_false_iff_eq.mpr c3
  clear c3
  by_cases c4 : a0_0 = true
  ·subst c4
   replace H := zit H
   by_cases c5 : a1 = 2
   ·rw [if_pos c5] at H
    have c5b0 : (a1 == 2) = true := beq_iff_eq.mpr c5
    have c5b1 : (a1 != 2) = false := bne_eq_false_iff_eq.mpr c5
    clear c5
    obtain rfl := Option.some.inj H
    go_enter Try.func200, Try.ntmps200
    go_wp2_with (first | ((with_reducible refine gtd 2 rfl ?_); refine zbx 2 #[.bool true, .int .u64 a0_1, .int .u64 a0_2, .int .i64 a0_3, .bool a0_4] 151 (h := ?_); intro gb124 hg w6 hbox hb; have GW124 := zkZ hg (zaB (p := Below w.heap.size w _)); replace HB := Aside0.mk (below_step zaB hb); have BK124 := Aside0.mk (hbox); clear hb hbox hg; refine zu5 BK124 fun _ _ _ _ _ _ _ _ _ _ => ?_))
    go_ret
    exact ⟨zaE, zaB⟩
   rw [if_neg c5] at H
   have c5b0 : (a1 == 2) = false := beq_eq_false_iff_ne.mpr c5
   have c5b1 : (a1 != 2) = true := bne_iff_ne.mpr c5
   obtain rfl := Option.some.inj H
   go_enter Try.func200, Try.ntmps200
   go_wp2_with (first | ((with_reducible refine gtd 2 rfl ?_); refine zbx 2 #[.bool true, .int .u64 a0_1, .int .u64 a0_2, .int .i64 a0_3, .bool a0_4] 151 (h := ?_); intro gb124 hg w8 hbox hb; have GW124 := zkZ hg (zaB (p := Below w.heap.size w _)); replace HB := Aside0.mk (below_step zaB hb); have BK124 := Aside0.mk (hbox); clear hb hbox hg; refine zu5 BK124 fun _ _ _ _ _ _ _ _ _ _ => ?_))
   go_ret
   exact ⟨zaE, zaB⟩
  replace c4 := Bool.eq_false_iff.mpr c4
  subst c4
  replace H := zif H
  obtain rfl := Option.some.inj H
  go_enter Try.func200, Try.ntmps200
  go_wp2_with (first | ((with_reducible refine gtd 2 rfl ?_); refine zbx 2 #[.bool false, .int .u64 a0_1, .int .u64 a0_2, .int .i64 a0_3, .bool a0_4] 151 (h := ?_); intro gb124 hg w10 hbox hb; have GW124 := zkZ hg (zaB (p := Below w.heap.size w _)); replace HB := Aside0.mk (below_step zaB hb); have BK124 := Aside0.mk (hbox); clear hb hbox hg; refine zu5 BK124 fun _ _ _ _ _ _ _ _ _ _ => ?_))
  go_ret
  exact ⟨zaE, zaB⟩
 rw [if_neg c3] at H
 have c3b0 : (a1 == 1) = false := beq_eq_false_iff_ne.mpr c3
 have c3b1 : (a1 != 1) = true := bne_iff_ne.mpr c3
 by_cases c12 : a1 = 2
 ·rw [if_pos c12] at H
  have c12b0 : (a1 == 2) = true := beq_iff_eq.mpr c12
  have c12b1 : (a1 != 2) = false := bne_eq_false_iff_eq.mpr c12
  clear c12
  obtain rfl := Option.some.inj H
  go_enter Try.func200, Try.ntmps200
  go_wp2_with (first | ((with_reducible refine gtd 2 rfl ?_); refine zbx 2 #[.bool a0_0, .int .u64 a0_1, .int .u64 a0_2, .int .i64 a0_3, .bool a0_4] 151 (h := ?_); intro gb124 hg w13 hbox hb; have GW124 := zkZ hg (zaB (p := Below w.heap.size w _)); replace HB := Aside0.mk (below_step zaB hb); have BK124 := Aside0.mk (hbox); clear hb hbox hg; refine zu5 BK124 fun _ _ _ _ _ _ _ _ _ _ => ?_))
  go_ret
  exact ⟨zaE, zaB⟩
 rw [if_neg c12] at H
 have c12b0 : (a1 == 2) = false := beq_eq_false_iff_ne.mpr c12
 have c12b1 : (a1 != 2) = true := bne_iff_ne.mpr c12
 obtain rfl := Option.some.inj H
 go_enter Try.func200, Try.ntmps200
 go_wp2_with (first | ((with_reducible refine gtd 2 rfl ?_); refine zbx 2 #[.bool a0_0, .int .u64 a0_1, .int .u64 a0_2, .int .i64 a0_3, .bool a0_4] 151 (h := ?_); intro gb124 hg w15 hbox hb; have GW124 := zkZ hg (zaB (p := Below w.heap.size w _)); replace HB := Aside0.mk (below_step zaB hb); have BK124 := Aside0.mk (hbox); clear hb hbox hg))
 go_ret
 exact ⟨zaE, zaB⟩
theorem round_number_towards.calls (a0_0 : Bool) (a0_1 : Int) (a0_2 : Int) (a0_3 : Int) (a0_4 : Bool) (a1 : Int) (r : Bool) (w : World) (h : round_number_towards.f a0_0 a0_1 a0_2 a0_3 a0_4 a1 = some r) :
  Calls Try.prog 201 #[.agg #[.bool a0_0, .int .u64 a0_1, .int .u64 a0_2, .int .i64 a0_3, .bool a0_4], .int .u8 a1] w fun e w' => e = .returned (.bool r) ∧ Below w.heap.size w w' := by
 have hu151 := Try.underlying151
 have HB := Aside0.mk (Below.refl w.heap.size w)
 have H := h
 unfold round_number_towards.f at H
 clear h
 by_cases c3 : a1 = 1
 ·rw [if_pos c3] at H
  have c3b0 : (a1 == 1) = true := beq_iff_eq.mpr c3
  have c3b1 : (a1 != 1) = false := bne_eq_false_iff_eq.mpr c3
  clear c3
  by_cases c4 : a0_0 = true
  ·subst c4
   replace H := zit H
   obtain rfl := Option.some.inj H
   go_enter Try.func201, Try.ntmps201
   go_wp2_with (first | ((with_reducible refine gtd 2 rfl ?_); refine zbx 2 #[.bool true, .int .u64 a0_1, .int .u64 a0_2, .int .i64 a0_3, .bool a0_4] 151 (h := ?_); intro gb125 hg w5 hbox hb; have GW125 := zkZ hg (zaB (p := Below w.heap.size w _)); replace HB := Aside0.mk (below_step zaB hb); have BK125 := Aside0.mk (hbox); clear hb hbox hg; refine zu5 BK125 fun _ _ _ _ _ _ _ _ _ _ => ?_))
   go_ret
   exact ⟨zaE, zaB⟩
  replace c4 := Bool.eq_false_iff.mpr c4
  subst c4
  replace H := zif H
  by_cases c7 : a1 = 2
  ·rw [if_pos c7] at H
   have c7b0 : (a1 == 2) = true := beq_iff_eq.mpr c7
   have c7b1 : (a1 != 2) = false := bne_eq_false_iff_eq.mpr c7
   clear c7
   obtain rfl := Option.some.inj H
   go_enter Try.func201, Try.ntmps201
   go_wp2_with (first | ((with_reducible refine gtd 2 rfl ?_); refine zbx 2 #[.bool false, .int .u64 a0_1, .int .u64 a0_2, .int .i64 a0_3, .bool a0_4] 151 (h := ?_); intro gb125 hg w8 hbox hb; have GW125 := zkZ hg (zaB (p := Below w.heap.size w _)); replace HB := Aside0.mk (below_step zaB hb); have BK125 := Aside0.mk (hbox); clear hb hbox hg; refine zu5 BK125 fun _ _ _ _ _ _ _ _ _ _ => ?_))
   go_ret
   exact ⟨zaE, zaB⟩
  rw [if_neg c7] at H
  have c7b0 : (a1 == 2) = false := beq_eq_false_iff_ne.mpr c7
  have c7b1 : (a1 != 2) = true := bne_iff_ne.mpr c7
  obtain rfl := Option.some.inj H
  go_enter Try.func201, Try.ntmps201
  go_wp2_with (first | ((with_reducible refine gtd 2 rfl ?_); refine zbx 2 #[.bool false, .int .u64 a0_1, .int .u64 a0_2, .int .i64 a0_3, .bool a0_4] 151 (h := ?_); intro gb125 hg w10 hbox hb; have GW125 := zkZ hg (zaB (p := Below w.heap.size w _)); replace HB := Aside0.mk (below_step zaB hb); have BK125 := Aside0.mk (hbox); clear hb hbox hg; refine zu5 BK125 fun _ _ _ _ _ _ _ _ _ _ => ?_))
  go_ret
  exact ⟨zaE, zaB⟩
 rw [if_neg c3] at H
 have c3b0 : (a1 == 1) = false := beq_eq_false_iff_ne.mpr c3
 have c3b1 : (a1 != 1) = true := bne_iff_ne.mpr c3
 by_cases c12 : a1 = 2
 ·rw [if_pos c12] at H
  have c12b0 : (a1 == 2) = true := beq_iff_eq.mpr c12
  have c12b1 : (a1 != 2) = false := bne_eq_false_iff_eq.mpr c12
  clear c12
  obtain rfl := Option.some.inj H
  go_enter Try.func201, Try.ntmps201
  go_wp2_with (first | ((with_reducible refine gtd 2 rfl ?_); refine zbx 2 #[.bool a0_0, .int .u64 a0_1, .int .u64 a0_2, .int .i64 a0_3, .bool a0_4] 151 (h := ?_); intro gb125 hg w13 hbox hb; have GW125 := zkZ hg (zaB (p := Below w.heap.size w _)); replace HB := Aside0.mk (below_step zaB hb); have BK125 := Aside0.mk (hbox); clear hb hbox hg; refine zu5 BK125 fun _ _ _ _ _ _ _ _ _ _ => ?_))
  go_ret
  exact ⟨zaE, zaB⟩
 rw [if_neg c12] at H
 have c12b0 : (a1 == 2) = false := beq_eq_false_iff_ne.mpr c12
 have c12b1 : (a1 != 2) = true := bne_iff_ne.mpr c12
 obtain rfl := Option.some.inj H
 go_enter Try.func201, Try.ntmps201
 go_wp2_with (first | ((with_reducible refine gtd 2 rfl ?_); refine zbx 2 #[.bool a0_0, .int .u64 a0_1, .int .u64 a0_2, .int .i64 a0_3, .bool a0_4] 151 (h := ?_); intro gb125 hg w15 hbox hb; have GW125 := zkZ hg (zaB (p := Below w.heap.size w _)); replace HB := Aside0.mk (below_step zaB hb); have BK125 := Aside0.mk (hbox); clear hb hbox hg))
 go_ret
 exact ⟨zaE, zaB⟩
theorem round_number_up.calls (a0_0 : Bool) (a0_1 : Int) (a0_2 : Int) (a0_3 : Int) (a0_4 : Bool) (a1 : Int) (a2 : Bool) (a3 : Bool) (a4 : Bool) (r : Bool) (w : World) (h : round_number_up.f a0_0 a0_1 a0_2 a0_3 a0_4 a1 a2 a3 a4 = some r) :
  Calls Try.prog 184 #[.agg #[.bool a0_0, .int .u64 a0_1, .int .u64 a0_2, .int .i64 a0_3, .bool a0_4], .int .u8 a1, .bool a2, .bool a3, .bool a4] w fun e w' => e = .returned (.bool r) ∧ Below w.heap.size w w' := by
 have hu151 := Try.underlying151
 have HB := Aside0.mk (Below.refl w.heap.size w)
 have H := h
 unfold round_number_up.f at H
 clear h
 obtain ⟨t127, A6, H⟩ := zbs H
 try dsimp only at H
 by_cases c7 : t127 = true
 ·subst c7
  replace H := zit H
  by_cases c8 : a3 = true
  ·subst c8
   replace H := zit H
   obtain rfl := Option.some.inj H
   go_enter Try.func184, Try.ntmps184
   go_wp2_with (first | ((with_reducible refine gtd 5 rfl ?_); refine zbx 5 #[.bool a0_0, .int .u64 a0_1, .int .u64 a0_2, .int .i64 a0_3, .bool a0_4] 151 (h := ?_); intro gb126 hg w9 hbox hb; have GW126 := zkZ hg (zaB (p := Below w.heap.size w _)); replace HB := Aside0.mk (below_step zaB hb); have BK126 := Aside0.mk (hbox); clear hb hbox hg; refine zu5 BK126 fun _ _ _ _ _ _ _ _ _ _ => ?_) | ((with_reducible refine gtc 200 rfl ?_); refine zgL 14 Try.func200 (round_number_away.calls a0_0 a0_1 a0_2 a0_3 a0_4 a1 true _ A6.out) (h := ?_); rintro w11 hb; replace BK126 := zkb BK126 hb; replace HB := zkB HB hb; (try clear hb)))
   go_ret
   exact ⟨zaE, zaB⟩
  replace c8 := Bool.eq_false_iff.mpr c8
  subst c8
  replace H := zif H
  obtain rfl := Option.some.inj H
  go_enter Try.func184, Try.ntmps184
  go_wp2_with (first | ((with_reducible refine gtd 5 rfl ?_); refine zbx 5 #[.bool a0_0, .int .u64 a0_1, .int .u64 a0_2, .int .i64 a0_3, .bool a0_4] 151 (h := ?_); intro gb126 hg w12 hbox hb; have GW126 := zkZ hg (zaB (p := Below w.heap.size w _)); replace HB := Aside0.mk (below_step zaB hb); have BK126 := Aside0.mk (hbox); clear hb hbox hg; refine zu5 BK126 fun _ _ _ _ _ _ _ _ _ _ => ?_) | ((with_reducible refine gtc 200 rfl ?_); refine zgL 14 Try.func200 (round_number_away.calls a0_0 a0_1 a0_2 a0_3 a0_4 a1 true _ A6.out) (h := ?_); rintro w14 hb; replace BK126 := zkb BK126 hb; replace HB := zkB HB hb; (try clear hb)))
  go_ret
  exact ⟨zaE, zaB⟩
 replace c7 := Bool.eq_false_iff.mpr c7
 subst c7
 replace H := zif H
 obtain ⟨t128, A15, H⟩ := zbs H
 try dsimp only at H
 by_cases c16 : t128 = true
 ·subst c16
  replace H := zit H
  obtain rfl := Option.some.inj H
  go_enter Try.func184, Try.ntmps184
  go_wp2_with (first | ((with_reducible refine gtd 5 rfl ?_); refine zbx 5 #[.bool a0_0, .int .u64 a0_1, .int .u64 a0_2, .int .i64 a0_3, .bool a0_4] 151 (h := ?_); intro gb126 hg w17 hbox hb; have GW126 := zkZ hg (zaB (p := Below w.heap.size w _)); replace HB := Aside0.mk (below_step zaB hb); have BK126 := Aside0.mk (hbox); clear hb hbox hg; refine zu5 BK126 fun _ _ _ _ _ _ _ _ _ _ => ?_) | ((with_reducible refine gtc 200 rfl ?_); refine zgL 14 Try.func200 (round_number_away.calls a0_0 a0_1 a0_2 a0_3 a0_4 a1 false _ A6.out) (h := ?_); rintro w19 hb; replace BK126 := zkb BK126 hb; replace HB := zkB HB hb; (try clear hb); refine zu5 BK126 fun _ _ _ _ _ _ _ _ _ _ => ?_) | ((with_reducible refine gtc 201 rfl ?_); refine zgL 22 Try.func201 (round_number_towards.calls a0_0 a0_1 a0_2 a0_3 a0_4 a1 true _ A15.out) (h := ?_); rintro w21 hb; replace BK126 := zkb BK126 hb; replace HB := zkB HB hb; (try clear hb)))
  go_ret
  exact ⟨zaE, zaB⟩
 replace c16 := Bool.eq_false_iff.mpr c16
 subst c16
 replace H := zif H
 by_cases c22 : a3 = true
 ·subst c22
  replace H := zit H
  by_cases c23 : a4 = true
  ·subst c23
   replace H := zit H
   obtain rfl := Option.some.inj H
   go_enter Try.func184, Try.ntmps184
   go_wp2_with (first | ((with_reducible refine gtd 5 rfl ?_); refine zbx 5 #[.bool a0_0, .int .u64 a0_1, .int .u64 a0_2, .int .i64 a0_3, .bool a0_4] 151 (h := ?_); intro gb126 hg w24 hbox hb; have GW126 := zkZ hg (zaB (p := Below w.heap.size w _)); replace HB := Aside0.mk (below_step zaB hb); have BK126 := Aside0.mk (hbox); clear hb hbox hg; refine zu5 BK126 fun _ _ _ _ _ _ _ _ _ _ => ?_) | ((with_reducible refine gtc 200 rfl ?_); refine zgL 14 Try.func200 (round_number_away.calls a0_0 a0_1 a0_2 a0_3 a0_4 a1 false _ A6.out) (h := ?_); rintro w26 hb; replace BK126 := zkb BK126 hb; replace HB := zkB HB hb; (try clear hb); refine zu5 BK126 fun _ _ _ _ _ _ _ _ _ _ => ?_) | ((with_reducible refine gtc 201 rfl ?_); refine zgL 22 Try.func201 (round_number_towards.calls a0_0 a0_1 a0_2 a0_3 a0_4 a1 false _ A15.out) (h := ?_); rintro w28 hb; replace BK126 := zkb BK126 hb; replace HB := zkB HB hb; (try clear hb)))
   go_ret
   exact ⟨zaE, zaB⟩
  replace c23 := Bool.eq_false_iff.mpr c23
  subst c23
  replace H := zif H
  obtain rfl := Option.some.inj H
  go_enter Try.func184, Try.ntmps184
  go_wp2_with (first | ((with_reducible refine gtd 5 rfl ?_); refine zbx 5 #[.bool a0_0, .int .u64 a0_1, .int .u64 a0_2, .int .i64 a0_3, .bool a0_4] 151 (h := ?_); intro gb126 hg w29 hbox hb; have GW126 := zkZ hg (zaB (p := Below w.heap.size w _)); replace HB := Aside0.mk (below_step zaB hb); have BK126 := Aside0.mk (hbox); clear hb hbox hg; refine zu5 BK126 fun _ _ _ _ _ _ _ _ _ _ => ?_) | ((with_reducible refine gtc 200 rfl ?_); refine zgL 14 Try.func200 (round_number_away.calls a0_0 a0_1 a0_2 a0_3 a0_4 a1 false _ A6.out) (h := ?_); rintro w31 hb; replace BK126 := zkb BK126 hb; replace HB := zkB HB hb; (try clear hb); refine zu5 BK126 fun _ _ _ _ _ _ _ _ _ _ => ?_) | ((with_reducible refine gtc 201 rfl ?_); refine zgL 22 Try.func201 (round_number_towards.calls a0_0 a0_1 a0_2 a0_3 a0_4 a1 false _ A15.out) (h := ?_); rintro w33 hb; replace BK126 := zkb BK126 hb; replace HB := zkB HB hb; (try clear hb)))
  go_ret
  exact ⟨zaE, zaB⟩
 replace c22 := Bool.eq_false_iff.mpr c22
 subst c22
 replace H := zif H
 obtain rfl := Option.some.inj H
 go_enter Try.func184, Try.ntmps184
 go_wp2_with (first | ((with_reducible refine gtd 5 rfl ?_); refine zbx 5 #[.bool a0_0, .int .u64 a0_1, .int .u64 a0_2, .int .i64 a0_3, .bool a0_4] 151 (h := ?_); intro gb126 hg w34 hbox hb; have GW126 := zkZ hg (zaB (p := Below w.heap.size w _)); replace HB := Aside0.mk (below_step zaB hb); have BK126 := Aside0.mk (hbox); clear hb hbox hg; refine zu5 BK126 fun _ _ _ _ _ _ _ _ _ _ => ?_) | ((with_reducible refine gtc 200 rfl ?_); refine zgL 14 Try.func200 (round_number_away.calls a0_0 a0_1 a0_2 a0_3 a0_4 a1 false _ A6.out) (h := ?_); rintro w36 hb; replace BK126 := zkb BK126 hb; replace HB := zkB HB hb; (try clear hb); refine zu5 BK126 fun _ _ _ _ _ _ _ _ _ _ => ?_) | ((with_reducible refine gtc 201 rfl ?_); refine zgL 22 Try.func201 (round_number_towards.calls a0_0 a0_1 a0_2 a0_3 a0_4 a1 false _ A15.out) (h := ?_); rintro w38 hb; replace BK126 := zkb BK126 hb; replace HB := zkB HB hb; (try clear hb)))
 go_ret
 exact ⟨zaE, zaB⟩
theorem round_number_over.calls (k : Nat) (a0_0 : Bool) (a0_1 : Int) (a0_2 : Int) (a0_3 : Int) (a0_4 : Bool) (a1 : Int) (r1 : Int) (r2 : Int) (w : World) (h : round_number_over.f k a0_0 a0_1 a0_2 a0_3 a0_4 a1 = some (r1, r2)) :
  Calls Try.prog 185 #[.agg #[.bool a0_0, .int .u64 a0_1, .int .u64 a0_2, .int .i64 a0_3, .bool a0_4], .int .u8 a1] w fun e w' => e = .returned (.tuple #[.int .u64 r1, .int .u8 r2]) ∧ Below w.heap.size w w' := by
 have hu151 := Try.underlying151
 have HB := Aside0.mk (Below.refl w.heap.size w)
 have H := h
 unfold round_number_over.f at H
 clear h
 obtain ⟨t132, A3, H⟩ := zbs H
 try dsimp only at H
 obtain ⟨t133, A4, H⟩ := zbs H
 try dsimp only at H
 by_cases c5 : t133 = true
 ·subst c5
  replace H := zit H
  simp only [Option.some.injEq, Prod.mk.injEq] at H
  obtain ⟨rfl, rfl⟩ := H
  go_enter Try.func185, Try.ntmps185
  go_wp2_with (first | ((with_reducible refine gtd 2 rfl ?_); refine zbx 2 #[.bool a0_0, .int .u64 a0_1, .int .u64 a0_2, .int .i64 a0_3, .bool a0_4] 151 (h := ?_); intro gb131 hg w6 hbox hb; have GW131 := zkZ hg (zaB (p := Below w.heap.size w _)); replace HB := Aside0.mk (below_step zaB hb); have BK131 := Aside0.mk (hbox); clear hb hbox hg; refine zu5 BK131 fun _ _ _ _ _ _ _ _ _ _ => ?_) | ((with_reducible refine gtc 79 rfl ?_); refine zgL 9 Try.func79 (pattern_Inf.calls k a0_0 t132 _ A3.out) (h := ?_); rintro w' ⟨nd, rfl⟩) | ((with_reducible refine gtc 201 rfl ?_); refine zgL 12 Try.func201 (round_number_towards.calls a0_0 a0_1 a0_2 a0_3 a0_4 a1 true _ A4.out) (h := ?_); rintro w8 hb; replace BK131 := zkb BK131 hb; replace HB := zkB HB hb; (try clear hb)))
  go_ret2
  exact ⟨zaE, zaB⟩
 replace c5 := Bool.eq_false_iff.mpr c5
 subst c5
 replace H := zif H
 simp only [Option.some.injEq, Prod.mk.injEq] at H
 obtain ⟨rfl, rfl⟩ := H
 go_enter Try.func185, Try.ntmps185
 go_wp2_with (first | ((with_reducible refine gtd 2 rfl ?_); refine zbx 2 #[.bool a0_0, .int .u64 a0_1, .int .u64 a0_2, .int .i64 a0_3, .bool a0_4] 151 (h := ?_); intro gb131 hg w9 hbox hb; have GW131 := zkZ hg (zaB (p := Below w.heap.size w _)); replace HB := Aside0.mk (below_step zaB hb); have BK131 := Aside0.mk (hbox); clear hb hbox hg; refine zu5 BK131 fun _ _ _ _ _ _ _ _ _ _ => ?_) | ((with_reducible refine gtc 79 rfl ?_); refine zgL 9 Try.func79 (pattern_Inf.calls k a0_0 t132 _ A3.out) (h := ?_); rintro w' ⟨nd, rfl⟩) | ((with_reducible refine gtc 201 rfl ?_); refine zgL 12 Try.func201 (round_number_towards.calls a0_0 a0_1 a0_2 a0_3 a0_4 a1 false _ A4.out) (h := ?_); rintro w11 hb; replace BK131 := zkb BK131 hb; replace HB := zkB HB hb; (try clear hb)))
 go_ret2
 exact ⟨zaE, zaB⟩
def round_number_float.T3 : Bool × List (List Nat × List Nat) := (true, [([], []), ([0], [0]), ([], []), ([2], [2]), ([], []), ([4, 1, 0, 1, 4], [1, 4]), ([5, 0, 1, 4, 5], []), ([3, 6, 0, 1, 2, 3, 4, 5, 6], [3])])
def round_number_float.B3 : List Nat := [0, 1, 0, 4, 0, 19, 51, 127]
theorem round_number_float.tab3 : rtab .any (opsOf Try.f159 3) = round_number_float.T3 := by kernel_rfl
theorem round_number_float.bits3 : waitsOk round_number_float.T3.2 round_number_float.B3 = true := by kernel_rfl
theorem round_number_float.calls (k : Nat) (a0_0 : Bool) (a0_1 : Int) (a0_2 : Int) (a0_3 : Int) (a0_4 : Bool) (a1 : Int) (r1 : Int) (r2 : Int) (w : World) (h : round_number_float.f k a0_0 a0_1 a0_2 a0_3 a0_4 a1 = some (r1, r2)) :
  Calls Try.prog 159 #[.agg #[.bool a0_0, .int .u64 a0_1, .int .u64 a0_2, .int .i64 a0_3, .bool a0_4], .int .u8 a1] w fun e w' => e = .returned (.tuple #[.int .u64 r1, .int .u8 r2]) ∧ Below w.heap.size w w' := by
 have hu151 := Try.underlying151
 have hu109 := Try.underlying109
 have HB := Aside0.mk (Below.refl w.heap.size w)
 have H := h
 unfold round_number_float.f at H
 clear h
 obtain ⟨t135, A3, H⟩ := zbs H
 try dsimp only at H
 obtain ⟨ji4, hji4⟩ : ∃ j_ : Int, (mx (wrap64 ((wrap64 (t135 - 53)) + a0_3)) (-1074)) = j_ := ⟨_, rfl⟩
 replace H : (if (wrap64 ((ji4) - a0_3)) > 0 then ((wide_U128_Shr.f k a0_1 a0_2 (wrap64 ((wrap64 ((ji4) - a0_3)) - 1))).bind fun bt137 => (if a0_4 = true then ((wide_U128_Shr.f k bt137.1 bt137.2.1 1).bind fun bt140 => (round_number_float.j0 k a1 t135 ji4 ((Go.bits .and .u64 bt137.2.1 1) == 1) true a0_0 a0_1 a0_2 a0_3 a0_4 bt140.1 bt140.2.1)) else ((wide_U128_Shr.f k bt137.1 bt137.2.1 1).bind fun bt143 => (round_number_float.j0 k a1 t135 ji4 ((Go.bits .and .u64 bt137.2.1 1) == 1) bt137.2.2 a0_0 a0_1 a0_2 a0_3 a0_4 bt143.1 bt143.2.1)))) else ((wide_U128_Shl.f k a0_1 a0_2 (wrap64 (-(wrap64 ((ji4) - a0_3))))).bind fun bt146 => (round_number_float.j0 k a1 t135 ji4 false a0_4 a0_0 a0_1 a0_2 a0_3 a0_4 bt146.1 bt146.2))) = some (r1, r2) := by first | (rw [hji4] at H; exact H) | (simp only [hji4] at H ⊢; exact H)
 (try rw [hji4] at A3)
 have hji4_ : (if (wrap64 ((wrap64 (t135 - 53)) + a0_3)) < (-1074) then (-1074) else (wrap64 ((wrap64 (t135 - 53)) + a0_3))) = ji4 := hji4
 (try (have hji4n := hji4_; simp only [Int.ofNat_lt] at hji4n))
 have HC5 := Aside0.mk H
 clear H
 go_enter Try.func159, Try.ntmps159
 try go_wp2_with (first | ((with_reducible refine gtd 2 rfl ?_); refine zbx 2 #[.bool a0_0, .int .u64 a0_1, .int .u64 a0_2, .int .i64 a0_3, .bool a0_4] 151 (h := ?_); intro gb134 hg w6 hbox hb; have GW134 := zkZ hg (zaB (p := Below w.heap.size w _)); replace HB := Aside0.mk (below_step zaB hb); have BK134 := Aside0.mk (hbox); clear hb hbox hg; refine zu5 BK134 fun z7_0 z7_1 z7_2 z7_3 z7_4 f7_0 f7_1 f7_2 f7_3 f7_4 => ?_) | ((with_reducible refine gtc 103 rfl ?_); refine zgL 20 Try.func103 (wide_U128_Len.calls a0_1 a0_2 t135 _ A3.out) (h := ?_); rintro w8 hb; replace BK134 := zkb BK134 hb; replace HB := zkB HB hb; (try clear hb); refine zu5 BK134 fun z9_0 z9_1 z9_2 z9_3 z9_4 f9_0 f9_1 f9_2 f9_3 f9_4 => ?_))
 replace BK134 := Aside0.mk (blk_drew BK134.out)
 replace HB := Aside0.mk (below_drew1 HB.out)
 refine start_ (n := 8) (S := fun w' => w'.cell? ⟨gb134, 0, none⟩ = some (.bool a0_0) ∧ w'.cell? ⟨gb134, 1, none⟩ = some (.int .u64 a0_1) ∧ w'.cell? ⟨gb134, 2, none⟩ = some (.int .u64 a0_2) ∧ w'.cell? ⟨gb134, 3, none⟩ = some (.int .i64 a0_3) ∧ w'.cell? ⟨gb134, 4, none⟩ = some (.bool a0_4)) (ds := []) #[false, false, false, false, false, false, false, false] (by kernel_rfl) rfl rfl (ze5 BK134) (fun hHeld => ?_); refine with_tabW round_number_float.tab3 round_number_float.bits3 (fun HT_ HW_ => ?_)
 generalize w8.drew = w10 at BK134 HB hHeld ⊢
 refine zpA 0 27 (h := ?_)
 refine zpA 2 29 (h := ?_)
 refine ztA 1 28 (h := ?_)
 refine ztA 3 30 (h := ?_)
 refine zoA 4 8 (h := fun K hK => ?_)
 refine box_step ?hg (N := 8) ?hd (cs := #[.int .u64 0, .int .u64 0]) (t := 109) ?hr ?_; (case hd => rfl); (case hg => rfl); (case hr => first | (go_simp; done) | (go_simp; rfl))
 intro gb136 hg w11 hbox hb
 refine zbn1 HB BK134 hg hb hbox (c := ?_)
 clear HB BK134 hb hbox hg
 intro GW136 NB134_136 BK134 HB BK136
 refine hK.out _ _ (ze5 BK134) (fun hHeld => ?_)
 clear hK K
 refine znA 8 (h := ?_)
 refine one_ (i := 5) (N := none) #[true, true, true, true, true, true, false, false] rfl rfl (one_of HT_.out (by kernel_rfl)) (by decide) (fun K hK => ?_)
 have hs12 := zc0 BK136
 have hfs12 := blk_frozen BK136.out 0
 refine zt1 NB134_136 fun _ _ => ?_
 have hs13 := zc1 BK136
 have hfs13 := blk_frozen BK136.out 1
 refine zt1 NB134_136 fun _ _ => ?_
 refine skip_ (w1 := ?_) (by rfl) rfl ?_ ?_
 rotate_left
 ·go_simp
  rfl
 refine hK.out _ _ ⟨(zff NB134_136 (zff NB134_136 hHeld.1)), (zff NB134_136 (zff NB134_136 hHeld.2.1)), (zff NB134_136 (zff NB134_136 hHeld.2.2.1)), (zff NB134_136 (zff NB134_136 hHeld.2.2.2.1)), (zff NB134_136 (zff NB134_136 hHeld.2.2.2.2))⟩ (fun hHeld => ?_)
 clear hK K
 refine zpA 6 9 (h := ?_)
 refine zpA 7 10 (h := ?_)
 refine done_ (done_of HT_.out (by kernel_rfl)) ?_
 refine zt1 NB134_136 fun _ _ => ?_
 refine zu5 BK134 fun z15_0 z15_1 z15_2 z15_3 z15_4 f15_0 f15_1 f15_2 f15_3 f15_4 => ?_
 go_upto_if 36 with (fail)
 go_cut [9, 10] (fun v9 v10 wc => ∃ (kq : Nat) (x9_4 : Bool) (x10_4 : Bool) (x137000_4 : Int) (x137001_4 : Int), v9 = .bool x9_4 ∧ v10 = .bool x10_4 ∧ Aside0 (round_number_float.j0 kq a1 t135 ji4 x9_4 x10_4 a0_0 a0_1 a0_2 a0_3 a0_4 x137000_4 x137001_4 = some (r1, r2)) ∧ Aside0 (kq ≤ k) ∧ Aside0 (wc.heap[gb134]? = some (.cells #[.bool a0_0, .int .u64 a0_1, .int .u64 a0_2, .int .i64 a0_3, .bool a0_4] 151 (0, 0))) ∧ Aside0 (wc.heap[gb136]? = some (.cells #[.int .u64 x137000_4, .int .u64 x137001_4] 109 (0, 0))) ∧ Aside0 (Below w.heap.size w wc))
 case first =>
  have H := HC5.out
  clear HC5
  by_cases c16 : (wrap64 ((ji4) - a0_3)) > 0
  ·rw [if_pos c16] at H
   have c16b0 : decide (0 < (wrap64 ((ji4) - a0_3))) = true := decide_eq_true c16
   clear c16
   (first | rw [c16b0] | (simp only [i64_w, i32_w]; rw [c16b0]) | skip)
   obtain ⟨⟨t137, t138, t139⟩, A17, H⟩ := zbs H
   try dsimp only at H
   by_cases c18 : a0_4 = true
   ·subst c18
    replace H := zit H
    obtain ⟨⟨t140, t141, t142⟩, A19, H⟩ := zbs H
    try dsimp only at H
    have H' := Aside0.mk H
    clear H
    refine zt1 NB134_136 fun _ _ => ?_
    refine zu5 BK134 fun z21_0 z21_1 z21_2 z21_3 z21_4 f21_0 f21_1 f21_2 f21_3 f21_4 => ?_
    go_wp2_with (first | ((with_reducible refine gtc 151 rfl ?_); refine goesL_ (some 42) rfl rfl Try.func151 (by kernel_rfl) rfl #[.agg #[.int .u64 a0_1, .int .u64 a0_2], .int .i64 (wrap64 ((wrap64 ((ji4) - a0_3)) - 1))] rfl (by (try simp only [List.map_toArray, List.map_cons, List.map_nil]); first | done | (simp only [hji4]; rfl) | rfl | (simp only [List.length_drop, List.length_take]; rfl)) ?_; (with_reducible refine (wide_U128_Shr.calls k a0_1 a0_2 (wrap64 ((wrap64 ((ji4) - a0_3)) - 1)) t137 t138 t139 _ A17.out).mono ?_); rintro e w22 ⟨rfl, hb⟩; refine ⟨_, rfl, ?_⟩; replace BK134 := Aside0.mk (blk_below (zkf (zkf BK134.out NB134_136.out _) NB134_136.out _) hb); replace BK136 := Aside0.mk (blk_below (o := .cells #[.int .u64 a0_1, .int .u64 a0_2] 109 (0, 0)) (blk_put (cs := #[.int .u64 a0_1, .int .u64 0]) (blk_put BK136.out 0 _ rfl) 1 _ rfl) hb); replace HB := Aside0.mk (below_step (below_set (below_set HB.out GW136.out) GW136.out) hb); (try clear hb); refine zu2 BK136 fun z23_0 z23_1 f23_0 f23_1 => ?_) | ((with_reducible refine gtc 151 rfl ?_); refine zgL 55 Try.func151 (wide_U128_Shr.calls k t137 t138 1 t140 t141 t142 _ A19.out) (h := ?_); rintro w24 hb; replace BK134 := Aside0.mk (blk_below (zkf (zkf BK134.out NB134_136.out _) NB134_136.out _) hb); replace BK136 := Aside0.mk (blk_below (o := .cells #[.int .u64 t137, .int .u64 t138] 109 (0, 0)) (blk_put (cs := #[.int .u64 t137, .int .u64 a0_2]) (blk_put BK136.out 0 _ rfl) 1 _ rfl) hb); replace HB := Aside0.mk (below_step (below_set (below_set HB.out GW136.out) GW136.out) hb); (try clear hb); refine zu2 BK136 fun z25_0 z25_1 f25_0 f25_1 => ?_))
    go_meet
    case rel => exact ⟨_, (((Go.bits .and .u64 t138 1) == 1)), (true), (t140), (t141), zrl, zrl, H', ⟨zle⟩, ⟨(zkf (zkf (zkq BK134) NB134_136.out _) NB134_136.out _)⟩, ⟨(blk_put (cs := #[.int .u64 t140, .int .u64 t138]) (blk_put (zkq BK136) 0 _ rfl) 1 _ rfl)⟩, ⟨zaB⟩⟩
   replace c18 := Bool.eq_false_iff.mpr c18
   subst c18
   replace H := zif H
   obtain ⟨⟨t143, t144, t145⟩, A26, H⟩ := zbs H
   try dsimp only at H
   have H' := Aside0.mk H
   clear H
   refine zt1 NB134_136 fun _ _ => ?_
   refine zu5 BK134 fun z28_0 z28_1 z28_2 z28_3 z28_4 f28_0 f28_1 f28_2 f28_3 f28_4 => ?_
   go_wp2_with (first | ((with_reducible refine gtc 151 rfl ?_); refine goesL_ (some 42) rfl rfl Try.func151 (by kernel_rfl) rfl #[.agg #[.int .u64 a0_1, .int .u64 a0_2], .int .i64 (wrap64 ((wrap64 ((ji4) - a0_3)) - 1))] rfl (by (try simp only [List.map_toArray, List.map_cons, List.map_nil]); first | done | (simp only [hji4]; rfl) | rfl | (simp only [List.length_drop, List.length_take]; rfl)) ?_; (with_reducible refine (wide_U128_Shr.calls k a0_1 a0_2 (wrap64 ((wrap64 ((ji4) - a0_3)) - 1)) t137 t138 t139 _ A17.out).mono ?_); rintro e w29 ⟨rfl, hb⟩; refine ⟨_, rfl, ?_⟩; replace BK134 := Aside0.mk (blk_below (zkf (zkf BK134.out NB134_136.out _) NB134_136.out _) hb); replace BK136 := Aside0.mk (blk_below (o := .cells #[.int .u64 a0_1, .int .u64 a0_2] 109 (0, 0)) (blk_put (cs := #[.int .u64 a0_1, .int .u64 0]) (blk_put BK136.out 0 _ rfl) 1 _ rfl) hb); replace HB := Aside0.mk (below_step (below_set (below_set HB.out GW136.out) GW136.out) hb); (try clear hb); refine zu2 BK136 fun z30_0 z30_1 f30_0 f30_1 => ?_) | ((with_reducible refine gtc 151 rfl ?_); refine zgL 55 Try.func151 (wide_U128_Shr.calls k t137 t138 1 t143 t144 t145 _ A26.out) (h := ?_); rintro w31 hb; replace BK134 := Aside0.mk (blk_below (zkf (zkf BK134.out NB134_136.out _) NB134_136.out _) hb); replace BK136 := Aside0.mk (blk_below (o := .cells #[.int .u64 t137, .int .u64 t138] 109 (0, 0)) (blk_put (cs := #[.int .u64 t137, .int .u64 a0_2]) (blk_put BK136.out 0 _ rfl) 1 _ rfl) hb); replace HB := Aside0.mk (below_step (below_set (below_set HB.out GW136.out) GW136.out) hb); (try clear hb); refine zu2 BK136 fun z32_0 z32_1 f32_0 f32_1 => ?_))
   go_meet
   case rel => exact ⟨_, (((Go.bits .and .u64 t138 1) == 1)), (t139), (t143), (t144), zrl, zrl, H', ⟨zle⟩, ⟨(zkf (zkf (zkq BK134) NB134_136.out _) NB134_136.out _)⟩, ⟨(blk_put (cs := #[.int .u64 t143, .int .u64 t138]) (blk_put (zkq BK136) 0 _ rfl) 1 _ rfl)⟩, ⟨zaB⟩⟩
  rw [if_neg c16] at H
  have c16b0 : decide (0 < (wrap64 ((ji4) - a0_3))) = false := decide_eq_false c16
  clear c16
  (first | rw [c16b0] | (simp only [i64_w, i32_w]; rw [c16b0]) | skip)
  obtain ⟨⟨t146, t147⟩, A33, H⟩ := zbs H
  try dsimp only at H
  have H' := Aside0.mk H
  clear H
  refine zt1 NB134_136 fun _ _ => ?_
  refine zu2 BK136 fun z35_0 z35_1 f35_0 f35_1 => ?_
  go_wp2_with (first | ((with_reducible refine gtc 106 rfl ?_); refine goesL_ (some 61) rfl rfl Try.func106 (by kernel_rfl) rfl #[.agg #[.int .u64 a0_1, .int .u64 a0_2], .int .i64 (wrap64 (-(wrap64 ((ji4) - a0_3))))] rfl (by (try simp only [List.map_toArray, List.map_cons, List.map_nil]); first | done | (simp only [hji4]; rfl) | rfl | (simp only [List.length_drop, List.length_take]; rfl)) ?_; (with_reducible refine (wide_U128_Shl.calls k a0_1 a0_2 (wrap64 (-(wrap64 ((ji4) - a0_3)))) t146 t147 _ A33.out).mono ?_); rintro e w36 ⟨rfl, hb⟩; refine ⟨_, rfl, ?_⟩; replace BK134 := Aside0.mk (blk_below (zkf (zkf BK134.out NB134_136.out _) NB134_136.out _) hb); replace BK136 := Aside0.mk (blk_below (o := .cells #[.int .u64 a0_1, .int .u64 a0_2] 109 (0, 0)) (blk_put (cs := #[.int .u64 a0_1, .int .u64 0]) (blk_put BK136.out 0 _ rfl) 1 _ rfl) hb); replace HB := Aside0.mk (below_step (below_set (below_set HB.out GW136.out) GW136.out) hb); (try clear hb); refine zu2 BK136 fun z37_0 z37_1 f37_0 f37_1 => ?_))
  go_meet
  case rel => exact ⟨_, (false), (a0_4), (t146), (t147), zrl, zrl, H', ⟨zle⟩, ⟨(zkf (zkf (zkq BK134) NB134_136.out _) NB134_136.out _)⟩, ⟨(blk_put (cs := #[.int .u64 t146, .int .u64 a0_2]) (blk_put (zkq BK136) 0 _ rfl) 1 _ rfl)⟩, ⟨zaB⟩⟩
 case rest =>
  clear HC5
  try clear c16b0
  try clear z15_0 z15_1 z15_2 z15_3 z15_4 f15_0 f15_1 f15_2 f15_3 f15_4
  try clear z21_0 z21_1 z21_2 z21_3 z21_4 f21_0 f21_1 f21_2 f21_3 f21_4
  try clear z23_0 z23_1 f23_0 f23_1
  try clear z25_0 z25_1 f25_0 f25_1
  try clear z28_0 z28_1 z28_2 z28_3 z28_4 f28_0 f28_1 f28_2 f28_3 f28_4
  try clear z30_0 z30_1 f30_0 f30_1
  try clear z32_0 z32_1 f32_0 f32_1
  try clear z35_0 z35_1 f35_0 f35_1
  try clear z37_0 z37_1 f37_0 f37_1
  try clear z7_0 z7_1 z7_2 z7_3 z7_4 f7_0 f7_1 f7_2 f7_3 f7_4
  try clear z9_0 z9_1 z9_2 z9_3 z9_4 f9_0 f9_1 f9_2 f9_3 f9_4
  obtain ⟨kq, x9_4, x10_4, x137000_4, x137001_4, rfl, rfl, HA, HJ4, BK134, BK136, HB⟩ := hcut
  cases kq with
  | zero => exact absurd HA.out (by simp [round_number_float.j0])
  | succ kj4 =>
   have H := HA.out
   clear HA
   simp only [round_number_float.j0] at H
   obtain ⟨t148, A38, H⟩ := zbs H
   try dsimp only at H
   have HC39 := Aside0.mk H
   clear H
   refine zt1 NB134_136 fun _ _ => ?_
   refine zu2 BK136 fun z41_0 z41_1 f41_0 f41_1 => ?_
   refine zu5 BK134 fun z42_0 z42_1 z42_2 z42_3 z42_4 f42_0 f42_1 f42_2 f42_3 f42_4 => ?_
   go_upto_if 71 with (first | ((with_reducible refine gtc 184 rfl ?_); refine zgL 71 Try.func184 (round_number_up.calls a0_0 a0_1 a0_2 a0_3 a0_4 a1 ((Go.bits .and .u64 x137001_4 1) == 1) x9_4 x10_4 t148 _ A38.out) (h := ?_); rintro w43 hb; refine zcn2 HB BK134 BK136 hb (c := ?_); clear HB BK134 BK136 hb; intro BK134 BK136 HB))
   (try simp only [Act.put, List.setIfInBounds_toArray, List.set_cons_zero, List.set_cons_succ])
   go_cut [13] (fun v13 wc => ∃ (kq : Nat) (x13_38 : Int), v13 = .int .u64 x13_38 ∧ Aside0 (round_number_float.j1 kq a1 t135 ji4 x9_4 x10_4 x13_38 a0_0 a0_1 a0_2 a0_3 a0_4 = some (r1, r2)) ∧ Aside0 (kq ≤ kj4) ∧ Aside0 (wc.heap[gb134]? = some (.cells #[.bool a0_0, .int .u64 a0_1, .int .u64 a0_2, .int .i64 a0_3, .bool a0_4] 151 (0, 0))) ∧ Aside0 (wc.heap[gb136]? = some (.cells #[.int .u64 x137000_4, .int .u64 x137001_4] 109 (0, 0))) ∧ Aside0 (Below w.heap.size w wc))
   case first =>
    have H := HC39.out
    clear HC39
    by_cases c44 : t148 = true
    ·subst c44
     replace H := zit H
     have H' := Aside0.mk H
     clear H
     go_wp2
     go_meet
     case rel => exact ⟨_, (IntKind.u64.wrap (x137001_4 + 1)), zrl, H', ⟨by have := HJ4.out; first | omega | exact Nat.le_refl _⟩, ⟨zkq BK134⟩, ⟨zkq BK136⟩, ⟨zaB⟩⟩
    replace c44 := Bool.eq_false_iff.mpr c44
    subst c44
    replace H := zif H
    have H' := Aside0.mk H
    clear H
    go_wp2
    go_meet
    case rel => exact ⟨_, (x137001_4), zrl, H', ⟨by have := HJ4.out; first | omega | exact Nat.le_refl _⟩, ⟨zkq BK134⟩, ⟨zkq BK136⟩, ⟨zaB⟩⟩
   case rest =>
    clear HC39
    try clear c16b0
    try clear z15_0 z15_1 z15_2 z15_3 z15_4 f15_0 f15_1 f15_2 f15_3 f15_4
    try clear z21_0 z21_1 z21_2 z21_3 z21_4 f21_0 f21_1 f21_2 f21_3 f21_4
    try clear z23_0 z23_1 f23_0 f23_1
    try clear z25_0 z25_1 f25_0 f25_1
    try clear z28_0 z28_1 z28_2 z28_3 z28_4 f28_0 f28_1 f28_2 f28_3 f28_4
    try clear z30_0 z30_1 f30_0 f30_1
    try clear z32_0 z32_1 f32_0 f32_1
    try clear z35_0 z35_1 f35_0 f35_1
    try clear z37_0 z37_1 f37_0 f37_1
    try clear z41_0 z41_1 f41_0 f41_1
    try clear z42_0 z42_1 z42_2 z42_3 z42_4 f42_0 f42_1 f42_2 f42_3 f42_4
    try clear z7_0 z7_1 z7_2 z7_3 z7_4 f7_0 f7_1 f7_2 f7_3 f7_4
    try clear z9_0 z9_1 z9_2 z9_3 z9_4 f9_0 f9_1 f9_2 f9_3 f9_4
    obtain ⟨kq, x13_38, rfl, HA, HJ38, BK134, BK136, HB⟩ := hcut
    cases kq with
    | zero => exact absurd HA.out (by simp [round_number_float.j1])
    | succ kj38 =>
     have H := HA.out
     clear HA
     simp only [round_number_float.j1] at H
     have HC45 := Aside0.mk H
     clear H
     go_upto_if 75 with (fail)
     go_cut [7, 13] (fun v7 v13 wc => ∃ (kq : Nat) (x7_44 : Int) (x13_44 : Int), v7 = .int .i64 x7_44 ∧ v13 = .int .u64 x13_44 ∧ Aside0 (round_number_float.j2 kq a1 t135 x7_44 x9_4 x10_4 x13_44 a0_0 a0_1 a0_2 a0_3 a0_4 = some (r1, r2)) ∧ Aside0 (kq ≤ kj38) ∧ Aside0 (wc.heap[gb134]? = some (.cells #[.bool a0_0, .int .u64 a0_1, .int .u64 a0_2, .int .i64 a0_3, .bool a0_4] 151 (0, 0))) ∧ Aside0 (wc.heap[gb136]? = some (.cells #[.int .u64 x137000_4, .int .u64 x137001_4] 109 (0, 0))) ∧ Aside0 (Below w.heap.size w wc))
     case first =>
      have H := HC45.out
      clear HC45
      by_cases c46 : x13_38 = 9007199254740992
      ·rw [if_pos c46] at H
       have c46b0 : (x13_38 == 9007199254740992) = true := beq_iff_eq.mpr c46
       have c46b1 : (x13_38 != 9007199254740992) = false := bne_eq_false_iff_eq.mpr c46
       clear c46
       (first | rw [c46b0] | (simp only [i64_w, i32_w]; rw [c46b0]) | skip)
       have H' := Aside0.mk H
       clear H
       go_wp2
       go_meet
       case rel => exact ⟨_, (wrap64 (ji4 + 1)), (x13_38 / 2), (by first | rfl | (simp; done) | (simp only [← hji4] <;> (first | rfl | simp)) | (simp [*]; done)), zrl, H', ⟨by have := HJ4.out; have := HJ38.out; first | omega | exact Nat.le_refl _⟩, ⟨zkq BK134⟩, ⟨zkq BK136⟩, ⟨zaB⟩⟩
      rw [if_neg c46] at H
      have c46b0 : (x13_38 == 9007199254740992) = false := beq_eq_false_iff_ne.mpr c46
      have c46b1 : (x13_38 != 9007199254740992) = true := bne_iff_ne.mpr c46
      (first | rw [c46b0] | (simp only [i64_w, i32_w]; rw [c46b0]) | skip)
      have H' := Aside0.mk H
      clear H
      go_wp2
      go_meet
      case rel => exact ⟨_, (ji4), (x13_38), (by first | rfl | (simp; done) | (simp only [← hji4] <;> (first | rfl | simp)) | (simp [*]; done)), zrl, H', ⟨by have := HJ4.out; have := HJ38.out; first | omega | exact Nat.le_refl _⟩, ⟨zkq BK134⟩, ⟨zkq BK136⟩, ⟨zaB⟩⟩
     case rest =>
      clear HC45
      try clear c16b0
      try clear c46b0
      try clear c46b1
      try clear z15_0 z15_1 z15_2 z15_3 z15_4 f15_0 f15_1 f15_2 f15_3 f15_4
      try clear z21_0 z21_1 z21_2 z21_3 z21_4 f21_0 f21_1 f21_2 f21_3 f21_4
      try clear z23_0 z23_1 f23_0 f23_1
      try clear z25_0 z25_1 f25_0 f25_1
      try clear z28_0 z28_1 z28_2 z28_3 z28_4 f28_0 f28_1 f28_2 f28_3 f28_4
      try clear z30_0 z30_1 f30_0 f30_1
      try clear z32_0 z32_1 f32_0 f32_1
      try clear z35_0 z35_1 f35_0 f35_1
      try clear z37_0 z37_1 f37_0 f37_1
      try clear z41_0 z41_1 f41_0 f41_1
      try clear z42_0 z42_1 z42_2 z42_3 z42_4 f42_0 f42_1 f42_2 f42_3 f42_4
      try clear z7_0 z7_1 z7_2 z7_3 z7_4 f7_0 f7_1 f7_2 f7_3 f7_4
      try clear z9_0 z9_1 z9_2 z9_3 z9_4 f9_0 f9_1 f9_2 f9_3 f9_4
      obtain ⟨kq, x7_44, x13_44, rfl, rfl, HA, HJ44, BK134, BK136, HB⟩ := hcut
      cases kq with
      | zero => exact absurd HA.out (by simp [round_number_float.j2])
      | succ kj44 =>
       have H := HA.out
       clear HA
       simp only [round_number_float.j2] at H
       by_cases c47 : x7_44 > 971
       ·rw [if_pos c47] at H
        have c47b0 : decide (971 < x7_44) = true := decide_eq_true c47
        clear c47
        obtain ⟨⟨t149, t150⟩, A48, H⟩ := zbs H
        try dsimp only at H
        simp only [Option.some.injEq, Prod.mk.injEq] at H
        obtain ⟨rfl, rfl⟩ := H
        refine zt1 NB134_136 fun _ _ => ?_
        refine zu5 BK134 fun z50_0 z50_1 z50_2 z50_3 z50_4 f50_0 f50_1 f50_2 f50_3 f50_4 => ?_
        go_wp2_with (first | ((with_reducible refine gtc 185 rfl ?_); refine zgL 84 Try.func185 (round_number_over.calls kj44 a0_0 a0_1 a0_2 a0_3 a0_4 a1 t149 t150 _ A48.out) (h := ?_); rintro w51 hb; refine zcn2 HB BK134 BK136 hb (c := ?_); clear HB BK134 BK136 hb; intro BK134 BK136 HB))
        go_ret2
        exact ⟨by first | rfl | (simp [errW_none, errW_some] <;> rfl) | (simp only [← hji4]; first | rfl | (simp [errW_none, errW_some] <;> rfl)) | (simp [*, errW_none, errW_some] <;> rfl), zaB⟩
       rw [if_neg c47] at H
       have c47b0 : decide (971 < x7_44) = false := decide_eq_false c47
       clear c47
       have HC52 := Aside0.mk H
       clear H
       go_upto_region 19 with (fail)
       go_cut [90] (fun v90 wc => ∃ (kq : Nat) (x90_51 : Bool), v90 = .bool x90_51 ∧ Aside0 (round_number_float.j3 kq t135 x7_44 x13_44 0 x90_51 a0_0 a0_1 a0_2 a0_3 a0_4 = some (r1, r2)) ∧ Aside0 (kq ≤ kj44) ∧ Aside0 (wc.heap[gb134]? = some (.cells #[.bool a0_0, .int .u64 a0_1, .int .u64 a0_2, .int .i64 a0_3, .bool a0_4] 151 (0, 0))) ∧ Aside0 (wc.heap[gb136]? = some (.cells #[.int .u64 x137000_4, .int .u64 x137001_4] 109 (0, 0))) ∧ Aside0 (Below w.heap.size w wc))
       case first =>
        have H := HC52.out
        clear HC52
        by_cases c53 : x9_4 = true
        ·subst c53
         replace H := zit H
         have H' := Aside0.mk H
         clear H
         go_wp2
         go_meet
         case rel => exact ⟨_, (true), zrl, H', ⟨by have := HJ4.out; have := HJ38.out; have := HJ44.out; first | omega | exact Nat.le_refl _⟩, ⟨zkq BK134⟩, ⟨zkq BK136⟩, ⟨zaB⟩⟩
        replace c53 := Bool.eq_false_iff.mpr c53
        subst c53
        replace H := zif H
        have H' := Aside0.mk H
        clear H
        go_wp2
        go_meet
        case rel => exact ⟨_, (x10_4), zrl, H', ⟨by have := HJ4.out; have := HJ38.out; have := HJ44.out; first | omega | exact Nat.le_refl _⟩, ⟨zkq BK134⟩, ⟨zkq BK136⟩, ⟨zaB⟩⟩
       case rest =>
        clear HC52
        try clear c16b0
        try clear c46b0
        try clear c46b1
        try clear c47b0
        try clear z15_0 z15_1 z15_2 z15_3 z15_4 f15_0 f15_1 f15_2 f15_3 f15_4
        try clear z21_0 z21_1 z21_2 z21_3 z21_4 f21_0 f21_1 f21_2 f21_3 f21_4
        try clear z23_0 z23_1 f23_0 f23_1
        try clear z25_0 z25_1 f25_0 f25_1
        try clear z28_0 z28_1 z28_2 z28_3 z28_4 f28_0 f28_1 f28_2 f28_3 f28_4
        try clear z30_0 z30_1 f30_0 f30_1
        try clear z32_0 z32_1 f32_0 f32_1
        try clear z35_0 z35_1 f35_0 f35_1
        try clear z37_0 z37_1 f37_0 f37_1
        try clear z41_0 z41_1 f41_0 f41_1
        try clear z42_0 z42_1 z42_2 z42_3 z42_4 f42_0 f42_1 f42_2 f42_3 f42_4
        try clear z50_0 z50_1 z50_2 z50_3 z50_4 f50_0 f50_1 f50_2 f50_3 f50_4
        try clear z7_0 z7_1 z7_2 z7_3 z7_4 f7_0 f7_1 f7_2 f7_3 f7_4
        try clear z9_0 z9_1 z9_2 z9_3 z9_4 f9_0 f9_1 f9_2 f9_3 f9_4
        obtain ⟨kq, x90_51, rfl, HA, HJ51, BK134, BK136, HB⟩ := hcut
        cases kq with
        | zero => exact absurd HA.out (by simp [round_number_float.j3])
        | succ kj51 =>
         have H := HA.out
         clear HA
         simp only [round_number_float.j3] at H
         by_cases c54 : x90_51 = true
         ·subst c54
          replace H := zit H
          by_cases c55 : (wrap64 (t135 + a0_3)) ≤ (-1022)
          ·rw [if_pos c55] at H
           have c55b0 : decide ((wrap64 (t135 + a0_3)) ≤ (-1022)) = true := decide_eq_true c55
           clear c55
           by_cases c56 : (x13_44 / 4503599627370496) = 1
           ·rw [if_pos c56] at H
            have c56b0 : ((x13_44 / 4503599627370496) == 1) = true := beq_iff_eq.mpr c56
            have c56b1 : ((x13_44 / 4503599627370496) != 1) = false := bne_eq_false_iff_eq.mpr c56
            clear c56
            obtain ⟨⟨t151, t152⟩, A57, H⟩ := zbs H
            try dsimp only at H
            simp only [Option.some.injEq, Prod.mk.injEq] at H
            obtain ⟨rfl, rfl⟩ := H
            refine zt1 NB134_136 fun _ _ => ?_
            refine zu5 BK134 fun _ _ _ _ _ _ _ _ _ _ => ?_
            go_wp2_with (first | ((with_reducible refine gtc 150 rfl ?_); refine zgL 110 Try.func150 (pattern_Make.calls kj51 a0_0 (wrap64 ((wrap64 (x7_44 - (-1074))) + 1)) (Go.bits .and .u64 x13_44 4503599627370495) t151 t152 _ A57.out) (h := ?_); rintro w' ⟨nd, rfl⟩))
            go_ret2
            exact ⟨by first | rfl | (simp [errW_none, errW_some] <;> rfl) | (simp only [← hji4]; first | rfl | (simp [errW_none, errW_some] <;> rfl)) | (simp [*, errW_none, errW_some] <;> rfl), zaB⟩
           rw [if_neg c56] at H
           have c56b0 : ((x13_44 / 4503599627370496) == 1) = false := beq_eq_false_iff_ne.mpr c56
           have c56b1 : ((x13_44 / 4503599627370496) != 1) = true := bne_iff_ne.mpr c56
           obtain ⟨⟨t153, t154⟩, A60, H⟩ := zbs H
           try dsimp only at H
           simp only [Option.some.injEq, Prod.mk.injEq] at H
           obtain ⟨rfl, rfl⟩ := H
           refine zt1 NB134_136 fun _ _ => ?_
           refine zu5 BK134 fun _ _ _ _ _ _ _ _ _ _ => ?_
           go_wp2_with (first | ((with_reducible refine gtc 150 rfl ?_); refine zgL 110 Try.func150 (pattern_Make.calls kj51 a0_0 0 (Go.bits .and .u64 x13_44 4503599627370495) t153 t154 _ A60.out) (h := ?_); rintro w' ⟨nd, rfl⟩))
           go_ret2
           exact ⟨by first | rfl | (simp [errW_none, errW_some] <;> rfl) | (simp only [← hji4]; first | rfl | (simp [errW_none, errW_some] <;> rfl)) | (simp [*, errW_none, errW_some] <;> rfl), zaB⟩
          rw [if_neg c55] at H
          have c55b0 : decide ((wrap64 (t135 + a0_3)) ≤ (-1022)) = false := decide_eq_false c55
          clear c55
          by_cases c63 : (x13_44 / 4503599627370496) = 1
          ·rw [if_pos c63] at H
           have c63b0 : ((x13_44 / 4503599627370496) == 1) = true := beq_iff_eq.mpr c63
           have c63b1 : ((x13_44 / 4503599627370496) != 1) = false := bne_eq_false_iff_eq.mpr c63
           clear c63
           obtain ⟨⟨t155, t156⟩, A64, H⟩ := zbs H
           try dsimp only at H
           simp only [Option.some.injEq, Prod.mk.injEq] at H
           obtain ⟨rfl, rfl⟩ := H
           refine zt1 NB134_136 fun _ _ => ?_
           refine zu5 BK134 fun _ _ _ _ _ _ _ _ _ _ => ?_
           go_wp2_with (first | ((with_reducible refine gtc 150 rfl ?_); refine zgL 110 Try.func150 (pattern_Make.calls kj51 a0_0 (wrap64 ((wrap64 (x7_44 - (-1074))) + 1)) (Go.bits .and .u64 x13_44 4503599627370495) t155 t156 _ A64.out) (h := ?_); rintro w' ⟨nd, rfl⟩))
           go_ret2
           exact ⟨by first | rfl | (simp [errW_none, errW_some] <;> rfl) | (simp only [← hji4]; first | rfl | (simp [errW_none, errW_some] <;> rfl)) | (simp [*, errW_none, errW_some] <;> rfl), zaB⟩
          rw [if_neg c63] at H
          have c63b0 : ((x13_44 / 4503599627370496) == 1) = false := beq_eq_false_iff_ne.mpr c63
          have c63b1 : ((x13_44 / 4503599627370496) != 1) = true := bne_iff_ne.mpr c63
          obtain ⟨⟨t157, t158⟩, A67, H⟩ := zbs H
          try dsimp only at H
          simp only [Option.some.injEq, Prod.mk.injEq] at H
          obtain ⟨rfl, rfl⟩ := H
          refine zt1 NB134_136 fun _ _ => ?_
          refine zu5 BK134 fun _ _ _ _ _ _ _ _ _ _ => ?_
          go_wp2_with (first | ((with_reducible refine gtc 150 rfl ?_); refine zgL 110 Try.func150 (pattern_Make.calls kj51 a0_0 0 (Go.bits .and .u64 x13_44 4503599627370495) t157 t158 _ A67.out) (h := ?_); rintro w' ⟨nd, rfl⟩))
          go_ret2
          exact ⟨by first | rfl | (simp [errW_none, errW_some] <;> rfl) | (simp only [← hji4]; first | rfl | (simp [errW_none, errW_some] <;> rfl)) | (simp [*, errW_none, errW_some] <;> rfl), zaB⟩
         replace c54 := Bool.eq_false_iff.mpr c54
         subst c54
         replace H := zif H
         by_cases c70 : (x13_44 / 4503599627370496) = 1
         ·rw [if_pos c70] at H
          have c70b0 : ((x13_44 / 4503599627370496) == 1) = true := beq_iff_eq.mpr c70
          have c70b1 : ((x13_44 / 4503599627370496) != 1) = false := bne_eq_false_iff_eq.mpr c70
          clear c70
          obtain ⟨⟨t159, t160⟩, A71, H⟩ := zbs H
          try dsimp only at H
          simp only [Option.some.injEq, Prod.mk.injEq] at H
          obtain ⟨rfl, rfl⟩ := H
          refine zt1 NB134_136 fun _ _ => ?_
          refine zu5 BK134 fun _ _ _ _ _ _ _ _ _ _ => ?_
          go_wp2_with (first | ((with_reducible refine gtc 150 rfl ?_); refine zgL 110 Try.func150 (pattern_Make.calls kj51 a0_0 (wrap64 ((wrap64 (x7_44 - (-1074))) + 1)) (Go.bits .and .u64 x13_44 4503599627370495) t159 t160 _ A71.out) (h := ?_); rintro w' ⟨nd, rfl⟩))
          go_ret2
          exact ⟨by first | rfl | (simp [errW_none, errW_some] <;> rfl) | (simp only [← hji4]; first | rfl | (simp [errW_none, errW_some] <;> rfl)) | (simp [*, errW_none, errW_some] <;> rfl), zaB⟩
         rw [if_neg c70] at H
         have c70b0 : ((x13_44 / 4503599627370496) == 1) = false := beq_eq_false_iff_ne.mpr c70
         have c70b1 : ((x13_44 / 4503599627370496) != 1) = true := bne_iff_ne.mpr c70
         obtain ⟨⟨t161, t162⟩, A74, H⟩ := zbs H
         try dsimp only at H
         simp only [Option.some.injEq, Prod.mk.injEq] at H
         obtain ⟨rfl, rfl⟩ := H
         refine zt1 NB134_136 fun _ _ => ?_
         refine zu5 BK134 fun _ _ _ _ _ _ _ _ _ _ => ?_
         go_wp2_with (first | ((with_reducible refine gtc 150 rfl ?_); refine zgL 110 Try.func150 (pattern_Make.calls kj51 a0_0 0 (Go.bits .and .u64 x13_44 4503599627370495) t161 t162 _ A74.out) (h := ?_); rintro w' ⟨nd, rfl⟩))
         go_ret2
         exact ⟨by first | rfl | (simp [errW_none, errW_some] <;> rfl) | (simp only [← hji4]; first | rfl | (simp [errW_none, errW_some] <;> rfl)) | (simp [*, errW_none, errW_some] <;> rfl), zaB⟩
theorem round_Round.calls (k : Nat) (a0 : Bool) (a1_0 : Int) (a1_1 : Int) (a2 : Int) (a3 : Bool) (a4 : Int) (r1 : Int) (r2 : Int) (w : World) (h : round_Round.f k a0 a1_0 a1_1 a2 a3 a4 = some (r1, r2)) :
  Calls Try.prog 99 #[.bool a0, .agg #[.int .u64 a1_0, .int .u64 a1_1], .int .i64 a2, .bool a3, .int .u8 a4] w fun e w' => e = .returned (.tuple #[.int .u64 r1, .int .u8 r2]) ∧ Below w.heap.size w w' := by
 have hu109 := Try.underlying109
 have hu151 := Try.underlying151
 have HB := Aside0.mk (Below.refl w.heap.size w)
 have H := h
 unfold round_Round.f at H
 clear h
 obtain ⟨t164, A6, H⟩ := zbs H
 try dsimp only at H
 by_cases c7 : t164 = 0
 ·rw [if_pos c7] at H
  have c7b0 : (t164 == 0) = true := beq_iff_eq.mpr c7
  have c7b1 : (t164 != 0) = false := bne_eq_false_iff_eq.mpr c7
  clear c7
  obtain ⟨⟨t165, t166⟩, A8, H⟩ := zbs H
  try dsimp only at H
  simp only [Option.some.injEq, Prod.mk.injEq] at H
  obtain ⟨rfl, rfl⟩ := H
  go_enter Try.func99, Try.ntmps99
  go_wp2_with (first | ((with_reducible refine gtd 6 rfl ?_); refine zbx 6 #[.int .u64 a1_0, .int .u64 a1_1] 109 (h := ?_); intro gb163 hg w9 hbox hb; have GW163 := zkZ hg (zaB (p := Below w.heap.size w _)); replace HB := Aside0.mk (below_step zaB hb); have BK163 := Aside0.mk (hbox); clear hb hbox hg; refine zu2 BK163 fun _ _ _ _ => ?_) | ((with_reducible refine gtc 103 rfl ?_); refine zgL 16 Try.func103 (wide_U128_Len.calls a1_0 a1_1 t164 _ A6.out) (h := ?_); rintro w11 hb; replace BK163 := zkb BK163 hb; replace HB := zkB HB hb; (try clear hb)) | ((with_reducible refine gtc 150 rfl ?_); refine zgL 21 Try.func150 (pattern_Make.calls k a0 0 0 t165 t166 _ A8.out) (h := ?_); rintro w' ⟨nd, rfl⟩))
  go_ret2
  exact ⟨zaE, zaB⟩
 rw [if_neg c7] at H
 have c7b0 : (t164 == 0) = false := beq_eq_false_iff_ne.mpr c7
 have c7b1 : (t164 != 0) = true := bne_iff_ne.mpr c7
 obtain ⟨ji12, hji12⟩ : ∃ j_ : Int, (mx a2 (-5000)) = j_ := ⟨_, rfl⟩
 replace H : (if a3 = true then ((round_number_float.f k a0 a1_0 a1_1 (mn (ji12) 5000) (decide (t164 > 53)) a4).bind fun bt167 => (some (bt167.1, bt167.2))) else ((round_number_float.f k a0 a1_0 a1_1 (mn (ji12) 5000) false a4).bind fun bt169 => (some (bt169.1, bt169.2)))) = some (r1, r2) := by first | (rw [hji12] at H; exact H) | (simp only [hji12] at H ⊢; exact H)
 (try rw [hji12] at A6)
 have hji12_ : (if a2 < (-5000) then (-5000) else a2) = ji12 := hji12
 (try (have hji12n := hji12_; simp only [Int.ofNat_lt] at hji12n))
 obtain ⟨ji13, hji13⟩ : ∃ j_ : Int, (mn (ji12) 5000) = j_ := ⟨_, rfl⟩
 replace H : (if a3 = true then ((round_number_float.f k a0 a1_0 a1_1 (ji13) (decide (t164 > 53)) a4).bind fun bt167 => (some (bt167.1, bt167.2))) else ((round_number_float.f k a0 a1_0 a1_1 (ji13) false a4).bind fun bt169 => (some (bt169.1, bt169.2)))) = some (r1, r2) := by first | (rw [hji13] at H; exact H) | (simp only [hji13] at H ⊢; exact H)
 (try rw [hji13] at A6)
 have hji13_ : (if 5000 < (ji12) then 5000 else (ji12)) = ji13 := hji13
 (try (have hji13n := hji13_; simp only [Int.ofNat_lt] at hji13n))
 by_cases c14 : a3 = true
 ·subst c14
  replace H := zit H
  obtain ⟨⟨t167, t168⟩, A15, H⟩ := zbs H
  try dsimp only at H
  simp only [Option.some.injEq, Prod.mk.injEq] at H
  obtain ⟨rfl, rfl⟩ := H
  go_enter Try.func99, Try.ntmps99
  go_wp2_with (first | ((with_reducible refine gtd 6 rfl ?_); refine zbx 6 #[.int .u64 a1_0, .int .u64 a1_1] 109 (h := ?_); intro gb163 hg w16 hbox hb; have GW163 := zkZ hg (zaB (p := Below w.heap.size w _)); replace HB := Aside0.mk (below_step zaB hb); have BK163 := Aside0.mk (hbox); clear hb hbox hg; refine zu2 BK163 fun _ _ _ _ => ?_) | ((with_reducible refine gtc 103 rfl ?_); refine zgL 16 Try.func103 (wide_U128_Len.calls a1_0 a1_1 t164 _ A6.out) (h := ?_); rintro w18 hb; replace BK163 := zkb BK163 hb; replace HB := zkB HB hb; (try clear hb); refine zu2 BK163 fun _ _ _ _ => ?_) | ((with_reducible refine gtc 159 rfl ?_); refine goesL_ (some 37) rfl rfl Try.func159 (by kernel_rfl) rfl #[.agg #[.bool a0, .int .u64 a1_0, .int .u64 a1_1, .int .i64 ji13, .bool (decide (t164 > 53))], .int .u8 a4] rfl (by (try simp only [List.map_toArray, List.map_cons, List.map_nil]); first | done | (simp only [hji13]; rfl) | rfl | (simp only [List.length_drop, List.length_take]; rfl)) ?_; (with_reducible refine (round_number_float.calls k a0 a1_0 a1_1 ji13 (decide (t164 > 53)) a4 t167 t168 _ A15.out).mono ?_); rintro e w20 ⟨rfl, hb⟩; refine ⟨_, rfl, ?_⟩; replace BK163 := zkb BK163 hb; replace HB := zkB HB hb; (try clear hb)))
  go_ret2
  exact ⟨by first | rfl | (simp [errW_none, errW_some] <;> rfl) | (simp only [← hji12, ← hji13]; first | rfl | (simp [errW_none, errW_some] <;> rfl)) | (simp [*, errW_none, errW_some] <;> rfl), zaB⟩
 replace c14 := Bool.eq_false_iff.mpr c14
 subst c14
 replace H := zif H
 obtain ⟨⟨t169, t170⟩, A21, H⟩ := zbs H
 try dsimp only at H
 simp only [Option.some.injEq, Prod.mk.injEq] at H
 obtain ⟨rfl, rfl⟩ := H
 go_enter Try.func99, Try.ntmps99
 go_wp2_with (first | ((with_reducible refine gtd 6 rfl ?_); refine zbx 6 #[.int .u64 a1_0, .int .u64 a1_1] 109 (h := ?_); intro gb163 hg w22 hbox hb; have GW163 := zkZ hg (zaB (p := Below w.heap.size w _)); replace HB := Aside0.mk (below_step zaB hb); have BK163 := Aside0.mk (hbox); clear hb hbox hg; refine zu2 BK163 fun _ _ _ _ => ?_) | ((with_reducible refine gtc 103 rfl ?_); refine zgL 16 Try.func103 (wide_U128_Len.calls a1_0 a1_1 t164 _ A6.out) (h := ?_); rintro w24 hb; replace BK163 := zkb BK163 hb; replace HB := zkB HB hb; (try clear hb); refine zu2 BK163 fun _ _ _ _ => ?_) | ((with_reducible refine gtc 159 rfl ?_); refine goesL_ (some 37) rfl rfl Try.func159 (by kernel_rfl) rfl #[.agg #[.bool a0, .int .u64 a1_0, .int .u64 a1_1, .int .i64 ji13, .bool false], .int .u8 a4] rfl (by (try simp only [List.map_toArray, List.map_cons, List.map_nil]); first | done | (simp only [hji13]; rfl) | rfl | (simp only [List.length_drop, List.length_take]; rfl)) ?_; (with_reducible refine (round_number_float.calls k a0 a1_0 a1_1 ji13 false a4 t169 t170 _ A21.out).mono ?_); rintro e w26 ⟨rfl, hb⟩; refine ⟨_, rfl, ?_⟩; replace BK163 := zkb BK163 hb; replace HB := zkB HB hb; (try clear hb)))
 go_ret2
 exact ⟨by first | rfl | (simp [errW_none, errW_some] <;> rfl) | (simp only [← hji12, ← hji13]; first | rfl | (simp [errW_none, errW_some] <;> rfl)) | (simp [*, errW_none, errW_some] <;> rfl), zaB⟩
theorem bits_Mul64.calls (a0 : Int) (a1 : Int) (r1 : Int) (r2 : Int) (w : World) (h : bits_Mul64.f a0 a1 = some (r1, r2)) :
  Calls Try.prog 160 #[.int .u64 a0, .int .u64 a1] w fun e w' => e = .returned (.tuple #[.int .u64 r1, .int .u64 r2]) ∧ Drawn0 w w' := by
 unfold bits_Mul64.f at h
 split at h
 ·rename_i g
  obtain ⟨x, rfl⟩ := Int.eq_ofNat_of_zero_le g.1
  obtain ⟨y, rfl⟩ := Int.eq_ofNat_of_zero_le g.2.1
  simp only [Option.some.injEq, Prod.mk.injEq] at h
  obtain ⟨rfl, rfl⟩ := h
  exact (Try.bits_Mul64 x y (by omega) (by omega) w).mono fun e w' ⟨h1, h2⟩ => ⟨by rw [h1]; rfl, h2 ▸ Drawn0.refl _⟩
 cases h
theorem wide_Mul.calls (a0 : Int) (a1 : Int) (r1 : Int) (r2 : Int) (w : World) (h : wide_Mul.f a0 a1 = some (r1, r2)) :
  Calls Try.prog 100 #[.int .u64 a0, .int .u64 a1] w fun e w' => e = .returned (.agg #[.int .u64 r1, .int .u64 r2]) ∧ Below w.heap.size w w' := by
 have hu109 := Try.underlying109
 have HB := Aside0.mk (Below.refl w.heap.size w)
 have H : ((bits_Mul64.f a0 a1).bind fun bt230 => (some (bt230.1, bt230.2))) = some (r1, r2) := h
 clear h
 obtain ⟨⟨t230, t231⟩, A3, H⟩ := zbs H
 try dsimp only at H
 simp only [Option.some.injEq, Prod.mk.injEq] at H
 obtain ⟨rfl, rfl⟩ := H
 go_enter Try.func100, Try.ntmps100
 go_wp2_with (first | ((with_reducible refine gtd 4 rfl ?_); refine zbx 4 #[.int .u64 0, .int .u64 0] 109 (h := ?_); intro gb229 hg w4 hbox hb; have GW229 := zkZ hg (zaB (p := Below w.heap.size w _)); replace HB := Aside0.mk (below_step zaB hb); have BK229 := Aside0.mk (hbox); clear hb hbox hg) | ((with_reducible refine gtc 160 rfl ?_); refine zgL 10 Try.func160 (bits_Mul64.calls a0 a1 t230 t231 _ A3.out) (h := ?_); rintro w' ⟨nd, rfl⟩; (try (rw [drewN_self w4]; generalize hq_ : World.drewN w4 _ = w4; have n0_ : Aside0 (w4.heap[gb229]? = some (.cells #[.int .u64 0, .int .u64 0] 109 (0, 0))) := ⟨by rw [← hq_]; exact (zkq BK229)⟩; have n1_ : Aside0 (Below w.heap.size w w4) := ⟨by rw [← hq_]; exact zaB⟩; clear BK229 HB hq_; have BK229 := n0_; have HB := n1_; clear n0_ n1_)); refine zu2 BK229 fun _ _ _ _ => ?_))
 refine bodyPost_ret (results_cell_row rfl _ _ gb229 109 #[.int .u64 t230, .int .u64 t231] (0, 0) _ rfl (blk_put (cs := #[.int .u64 t230, .int .u64 0]) (blk_put (zkq BK229) 0 _ rfl) 1 _ rfl) Try.underlying109 rfl (by kernel_rfl)) rfl ?_
 exact ⟨zaE, zaB⟩
def soft_Mul.T9 : Bool × List (List Nat × List Nat) := (true, [([], []), ([], []), ([1], [1]), ([], []), ([3], [3]), ([2, 4], [2, 4]), ([], []), ([6], [6]), ([], []), ([8], [8]), ([7, 9], [7, 9]), ([], []), ([0, 5, 10, 11, 5], [0, 5, 10, 11]), ([12], [12]), ([12], [12]), ([13, 12, 0, 1, 2, 3, 4, 5, 6, 7, 8, 9, 10, 11, 12, 13, 14], [13]), ([14, 15, 0, 1, 2, 3, 4, 5, 6, 7, 8, 9, 10, 11, 12, 13, 14, 15], [14])])
def soft_Mul.B9 : List Nat := [0, 0, 2, 0, 8, 30, 0, 64, 0, 256, 960, 0, 4095, 8191, 8191, 32767, 65535]
theorem soft_Mul.tab9 : rtab .any (opsOf Try.f25 9) = soft_Mul.T9 := by kernel_rfl
theorem soft_Mul.bits9 : waitsOk soft_Mul.T9.2 soft_Mul.B9 = true := by kernel_rfl
theorem soft_Mul.calls (k : Nat) (a0 : Int) (a1 : Int) (a2 : Int) (r1 : Int) (r2 : Int) (w : World) (h : soft_Mul.f k a0 a1 a2 = some (r1, r2)) :
  Calls Try.prog 25 #[.int .u64 a0, .int .u64 a1, .int .u8 a2] w fun e w' => e = .returned (.tuple #[.int .u64 r1, .int .u8 r2]) ∧ Below w.heap.size w w' := by
 have hu88 := Try.underlying88
 have HB := Aside0.mk (Below.refl w.heap.size w)
 have H := h
 unfold soft_Mul.f at H
 clear h
 obtain ⟨⟨t232, t233, t234, t235, t236⟩, A4, H⟩ := zbs H
 try dsimp only at H
 obtain ⟨⟨t237, t238, t239, t240, t241⟩, A5, H⟩ := zbs H
 try dsimp only at H
 obtain ⟨t244, A6, H⟩ := zbs H
 try dsimp only at H
 by_cases c7 : t244 = true
 ·subst c7
  replace H := zit H
  obtain ⟨t245, A8, H⟩ := zbs H
  try dsimp only at H
  simp only [Option.some.injEq, Prod.mk.injEq] at H
  obtain ⟨rfl, rfl⟩ := H
  go_enter Try.func25, Try.ntmps25
  go_wp2_with (first | ((with_reducible refine gtc 82 rfl ?_); refine zgL 12 Try.func82 (soft_of.calls k a0 t232 t233 t234 t235 t236 _ A4.out) (h := ?_); rintro w9 hb; replace HB := Aside0.mk (below_step zaB hb); (try clear hb)) | ((with_reducible refine gtc 82 rfl ?_); refine zgL 14 Try.func82 (soft_of.calls k a1 t237 t238 t239 t240 t241 _ A5.out) (h := ?_); rintro w10 hb; replace HB := Aside0.mk (below_step zaB hb); (try clear hb)) | ((with_reducible refine gtd 8 rfl ?_); refine zbx 8 #[.int .u64 0, .int .u8 0, .bool false, .int .u64 0, .int .i64 0] 88 (h := ?_); intro gb242 hg w11 hbox hb; have GW242 := zkZ hg (zaB (p := Below w.heap.size w _)); replace HB := Aside0.mk (below_step zaB hb); have BK242 := Aside0.mk (hbox); clear hb hbox hg) | ((with_reducible refine gtd 9 rfl ?_); refine zbx 9 #[.int .u64 0, .int .u8 0, .bool false, .int .u64 0, .int .i64 0] 88 (h := ?_); intro gb243 hg w12 hbox hb; refine zbn1 HB BK242 hg hb hbox (c := ?_); clear HB BK242 hb hbox hg; intro GW243 NB242_243 BK242 HB BK243; refine zt1 NB242_243 fun _ _ => ?_; refine zu5 BK242 fun z14_0 z14_1 z14_2 z14_3 z14_4 f14_0 f14_1 f14_2 f14_3 f14_4 => ?_; refine zu5 BK243 fun z15_0 z15_1 z15_2 z15_3 z15_4 f15_0 f15_1 f15_2 f15_3 f15_4 => ?_) | ((with_reducible refine gtc 83 rfl ?_); refine zgL 23 Try.func83 (soft_either.calls t232 t233 t234 t235 t236 t237 t238 t239 t240 t241 4 true _ A6.out) (h := ?_); rintro w16 hb; replace BK242 := Aside0.mk (blk_below (o := .cells #[.int .u64 t232, .int .u8 t233, .bool t234, .int .u64 t235, .int .i64 t236] 88 (0, 0)) (zkf (zkf (zkf (zkf (zkf (blk_put (cs := #[.int .u64 t232, .int .u8 t233, .bool t234, .int .u64 t235, .int .i64 0]) (blk_put (cs := #[.int .u64 t232, .int .u8 t233, .bool t234, .int .u64 0, .int .i64 0]) (blk_put (cs := #[.int .u64 t232, .int .u8 t233, .bool false, .int .u64 0, .int .i64 0]) (blk_put (cs := #[.int .u64 t232, .int .u8 0, .bool false, .int .u64 0, .int .i64 0]) (blk_put BK242.out 0 _ rfl) 1 _ rfl) 2 _ rfl) 3 _ rfl) 4 _ rfl) NB242_243.out _) NB242_243.out _) NB242_243.out _) NB242_243.out _) NB242_243.out _) hb); replace BK243 := Aside0.mk (blk_below (o := .cells #[.int .u64 t237, .int .u8 t238, .bool t239, .int .u64 t240, .int .i64 t241] 88 (0, 0)) (blk_put (cs := #[.int .u64 t237, .int .u8 t238, .bool t239, .int .u64 t240, .int .i64 0]) (blk_put (cs := #[.int .u64 t237, .int .u8 t238, .bool t239, .int .u64 0, .int .i64 0]) (blk_put (cs := #[.int .u64 t237, .int .u8 t238, .bool false, .int .u64 0, .int .i64 0]) (blk_put (cs := #[.int .u64 t237, .int .u8 0, .bool false, .int .u64 0, .int .i64 0]) (blk_put (zkf (zkf (zkf (zkf (zkf BK243.out (zks NB242_243).out _) (zks NB242_243).out _) (zks NB242_243).out _) (zks NB242_243).out _) (zks NB242_243).out _) 0 _ rfl) 1 _ rfl) 2 _ rfl) 3 _ rfl) 4 _ rfl) hb); replace HB := Aside0.mk (below_step (below_set (below_set (below_set (below_set (below_set (below_set (below_set (below_set (below_set (below_set HB.out GW242.out) GW242.out) GW242.out) GW242.out) GW242.out) GW243.out) GW243.out) GW243.out) GW243.out) GW243.out) hb); (try clear hb)) | ((with_reducible refine gtc 81 rfl ?_); refine zgL 24 Try.func81 (pattern_Quiet.calls  t245 _ A8.out) (h := ?_); rintro w' ⟨nd, rfl⟩))
  go_ret2
  exact ⟨zaE, zaB⟩
 replace c7 := Bool.eq_false_iff.mpr c7
 subst c7
 replace H := zif H
 have HC17 := Aside0.mk H
 clear H
 go_enter Try.func25, Try.ntmps25
 go_upto_region 5 with (first | ((with_reducible refine gtc 82 rfl ?_); refine zgL 12 Try.func82 (soft_of.calls k a0 t232 t233 t234 t235 t236 _ A4.out) (h := ?_); rintro w18 hb; replace HB := Aside0.mk (below_step zaB hb); (try clear hb)) | ((with_reducible refine gtc 82 rfl ?_); refine zgL 14 Try.func82 (soft_of.calls k a1 t237 t238 t239 t240 t241 _ A5.out) (h := ?_); rintro w19 hb; replace HB := Aside0.mk (below_step zaB hb); (try clear hb)) | ((with_reducible refine gtd 8 rfl ?_); refine zbx 8 #[.int .u64 0, .int .u8 0, .bool false, .int .u64 0, .int .i64 0] 88 (h := ?_); intro gb242 hg w20 hbox hb; have GW242 := zkZ hg (zaB (p := Below w.heap.size w _)); replace HB := Aside0.mk (below_step zaB hb); have BK242 := Aside0.mk (hbox); clear hb hbox hg) | ((with_reducible refine gtd 9 rfl ?_); refine zbx 9 #[.int .u64 0, .int .u8 0, .bool false, .int .u64 0, .int .i64 0] 88 (h := ?_); intro gb243 hg w21 hbox hb; refine zbn1 HB BK242 hg hb hbox (c := ?_); clear HB BK242 hb hbox hg; intro GW243 NB242_243 BK242 HB BK243; refine zt1 NB242_243 fun _ _ => ?_; refine zu5 BK242 fun z23_0 z23_1 z23_2 z23_3 z23_4 f23_0 f23_1 f23_2 f23_3 f23_4 => ?_; refine zu5 BK243 fun z24_0 z24_1 z24_2 z24_3 z24_4 f24_0 f24_1 f24_2 f24_3 f24_4 => ?_) | ((with_reducible refine gtc 83 rfl ?_); refine zgL 23 Try.func83 (soft_either.calls t232 t233 t234 t235 t236 t237 t238 t239 t240 t241 4 false _ A6.out) (h := ?_); rintro w25 hb; replace BK242 := Aside0.mk (blk_below (o := .cells #[.int .u64 t232, .int .u8 t233, .bool t234, .int .u64 t235, .int .i64 t236] 88 (0, 0)) (zkf (zkf (zkf (zkf (zkf (blk_put (cs := #[.int .u64 t232, .int .u8 t233, .bool t234, .int .u64 t235, .int .i64 0]) (blk_put (cs := #[.int .u64 t232, .int .u8 t233, .bool t234, .int .u64 0, .int .i64 0]) (blk_put (cs := #[.int .u64 t232, .int .u8 t233, .bool false, .int .u64 0, .int .i64 0]) (blk_put (cs := #[.int .u64 t232, .int .u8 0, .bool false, .int .u64 0, .int .i64 0]) (blk_put BK242.out 0 _ rfl) 1 _ rfl) 2 _ rfl) 3 _ rfl) 4 _ rfl) NB242_243.out _) NB242_243.out _) NB242_243.out _) NB242_243.out _) NB242_243.out _) hb); replace BK243 := Aside0.mk (blk_below (o := .cells #[.int .u64 t237, .int .u8 t238, .bool t239, .int .u64 t240, .int .i64 t241] 88 (0, 0)) (blk_put (cs := #[.int .u64 t237, .int .u8 t238, .bool t239, .int .u64 t240, .int .i64 0]) (blk_put (cs := #[.int .u64 t237, .int .u8 t238, .bool t239, .int .u64 0, .int .i64 0]) (blk_put (cs := #[.int .u64 t237, .int .u8 t238, .bool false, .int .u64 0, .int .i64 0]) (blk_put (cs := #[.int .u64 t237, .int .u8 0, .bool false, .int .u64 0, .int .i64 0]) (blk_put (zkf (zkf (zkf (zkf (zkf BK243.out (zks NB242_243).out _) (zks NB242_243).out _) (zks NB242_243).out _) (zks NB242_243).out _) (zks NB242_243).out _) 0 _ rfl) 1 _ rfl) 2 _ rfl) 3 _ rfl) 4 _ rfl) hb); replace HB := Aside0.mk (below_step (below_set (below_set (below_set (below_set (below_set (below_set (below_set (below_set (below_set (below_set HB.out GW242.out) GW242.out) GW242.out) GW242.out) GW242.out) GW243.out) GW243.out) GW243.out) GW243.out) GW243.out) hb); (try clear hb)))
 (try simp only [Act.put, List.setIfInBounds_toArray, List.set_cons_zero, List.set_cons_succ])
 go_cut [25] (fun v25 wc => ∃ (kq : Nat) (x25_16 : Bool), v25 = .bool x25_16 ∧ Aside0 (soft_Mul.j0 kq a2 (t234 != t239) x25_16 t232 t233 t234 t235 t236 t237 t238 t239 t240 t241 = some (r1, r2)) ∧ Aside0 (kq ≤ k) ∧ Aside0 (wc.heap[gb242]? = some (.cells #[.int .u64 t232, .int .u8 t233, .bool t234, .int .u64 t235, .int .i64 t236] 88 (0, 0))) ∧ Aside0 (wc.heap[gb243]? = some (.cells #[.int .u64 t237, .int .u8 t238, .bool t239, .int .u64 t240, .int .i64 t241] 88 (0, 0))) ∧ Aside0 (Below w.heap.size w wc))
 case first =>
  have H := HC17.out
  clear HC17
  obtain ⟨t246, A26, H⟩ := zbs H
  try dsimp only at H
  by_cases c27 : t246 = true
  ·subst c27
   replace H := zit H
   obtain ⟨t247, A28, H⟩ := zbs H
   try dsimp only at H
   have H' := Aside0.mk H
   clear H
   refine zt1 NB242_243 fun _ _ => ?_
   refine zu5 BK242 fun z30_0 z30_1 z30_2 z30_3 z30_4 f30_0 f30_1 f30_2 f30_3 f30_4 => ?_
   refine zu5 BK243 fun z31_0 z31_1 z31_2 z31_3 z31_4 f31_0 f31_1 f31_2 f31_3 f31_4 => ?_
   go_wp2_with (first | ((with_reducible refine gtc 83 rfl ?_); refine zgL 28 Try.func83 (soft_either.calls t232 t233 t234 t235 t236 t237 t238 t239 t240 t241 3 true _ A26.out) (h := ?_); rintro w32 hb; refine zcn2 HB BK242 BK243 hb (c := ?_); clear HB BK242 BK243 hb; intro BK242 BK243 HB; refine zu5 BK242 fun z33_0 z33_1 z33_2 z33_3 z33_4 f33_0 f33_1 f33_2 f33_3 f33_4 => ?_; refine zu5 BK243 fun z34_0 z34_1 z34_2 z34_3 z34_4 f34_0 f34_1 f34_2 f34_3 f34_4 => ?_) | (go_at_call 83; (with_reducible refine (soft_either.calls t232 t233 t234 t235 t236 t237 t238 t239 t240 t241 0 t247 _ A28.out).mono ?_); rintro e w35 ⟨rfl, hb⟩; refine zcn2 HB BK242 BK243 hb (c := ?_); clear HB BK242 BK243 hb; intro BK242 BK243 HB))
   go_meet
   case rel => exact ⟨_, (t247), zrl, H', ⟨zle⟩, ⟨zkq BK242⟩, ⟨zkq BK243⟩, ⟨zaB⟩⟩
  replace c27 := Bool.eq_false_iff.mpr c27
  subst c27
  replace H := zif H
  have H' := Aside0.mk H
  clear H
  refine zt1 NB242_243 fun _ _ => ?_
  refine zu5 BK242 fun z37_0 z37_1 z37_2 z37_3 z37_4 f37_0 f37_1 f37_2 f37_3 f37_4 => ?_
  refine zu5 BK243 fun z38_0 z38_1 z38_2 z38_3 z38_4 f38_0 f38_1 f38_2 f38_3 f38_4 => ?_
  go_wp2_with (first | ((with_reducible refine gtc 83 rfl ?_); refine zgL 28 Try.func83 (soft_either.calls t232 t233 t234 t235 t236 t237 t238 t239 t240 t241 3 false _ A26.out) (h := ?_); rintro w39 hb; refine zcn2 HB BK242 BK243 hb (c := ?_); clear HB BK242 BK243 hb; intro BK242 BK243 HB))
  go_meet
  case rel => exact ⟨_, (false), zrl, H', ⟨zle⟩, ⟨zkq BK242⟩, ⟨zkq BK243⟩, ⟨zaB⟩⟩
 case rest =>
  clear HC17
  try clear z14_0 z14_1 z14_2 z14_3 z14_4 f14_0 f14_1 f14_2 f14_3 f14_4
  try clear z15_0 z15_1 z15_2 z15_3 z15_4 f15_0 f15_1 f15_2 f15_3 f15_4
  try clear z23_0 z23_1 z23_2 z23_3 z23_4 f23_0 f23_1 f23_2 f23_3 f23_4
  try clear z24_0 z24_1 z24_2 z24_3 z24_4 f24_0 f24_1 f24_2 f24_3 f24_4
  try clear z30_0 z30_1 z30_2 z30_3 z30_4 f30_0 f30_1 f30_2 f30_3 f30_4
  try clear z31_0 z31_1 z31_2 z31_3 z31_4 f31_0 f31_1 f31_2 f31_3 f31_4
  try clear z33_0 z33_1 z33_2 z33_3 z33_4 f33_0 f33_1 f33_2 f33_3 f33_4
  try clear z34_0 z34_1 z34_2 z34_3 z34_4 f34_0 f34_1 f34_2 f34_3 f34_4
  try clear z37_0 z37_1 z37_2 z37_3 z37_4 f37_0 f37_1 f37_2 f37_3 f37_4
  try clear z38_0 z38_1 z38_2 z38_3 z38_4 f38_0 f38_1 f38_2 f38_3 f38_4
  obtain ⟨kq, x25_16, rfl, HA, HJ16, BK242, BK243, HB⟩ := hcut
  cases kq with
  | zero => exact absurd HA.out (by simp [soft_Mul.j0])
  | succ kj16 =>
   have H := HA.out
   clear HA
   simp only [soft_Mul.j0] at H
   by_cases c40 : x25_16 = true
   ·subst c40
    replace H := zit H
    obtain ⟨⟨t248, t249⟩, A41, H⟩ := zbs H
    try dsimp only at H
    simp only [Option.some.injEq, Prod.mk.injEq] at H
    obtain ⟨rfl, rfl⟩ := H
    go_wp2_with (first | ((with_reducible refine gtc 84 rfl ?_); refine zgL 34 Try.func84 (soft_invalid.calls  t248 t249 _ A41.out) (h := ?_); rintro w' ⟨nd, rfl⟩))
    go_ret2
    exact ⟨zaE, zaB⟩
   replace c40 := Bool.eq_false_iff.mpr c40
   subst c40
   replace H := zif H
   obtain ⟨t250, A42, H⟩ := zbs H
   try dsimp only at H
   by_cases c43 : t250 = true
   ·subst c43
    replace H := zit H
    obtain ⟨t251, A44, H⟩ := zbs H
    try dsimp only at H
    simp only [Option.some.injEq, Prod.mk.injEq] at H
    obtain ⟨rfl, rfl⟩ := H
    refine zt1 NB242_243 fun _ _ => ?_
    refine zu5 BK242 fun _ _ _ _ _ _ _ _ _ _ => ?_
    refine zu5 BK243 fun _ _ _ _ _ _ _ _ _ _ => ?_
    go_wp2_with (first | ((with_reducible refine gtc 83 rfl ?_); refine zgL 40 Try.func83 (soft_either.calls t232 t233 t234 t235 t236 t237 t238 t239 t240 t241 3 true _ A42.out) (h := ?_); rintro w48 hb; refine zcn2 HB BK242 BK243 hb (c := ?_); clear HB BK242 BK243 hb; intro BK242 BK243 HB) | ((with_reducible refine gtc 79 rfl ?_); refine zgL 42 Try.func79 (pattern_Inf.calls kj16 (t234 != t239) t251 _ A44.out) (h := ?_); rintro w' ⟨nd, rfl⟩))
    go_ret2
    exact ⟨zaE, zaB⟩
   replace c43 := Bool.eq_false_iff.mpr c43
   subst c43
   replace H := zif H
   obtain ⟨⟨t252, t253⟩, A49, H⟩ := zbs H
   try dsimp only at H
   obtain ⟨⟨t254, t255⟩, A50, H⟩ := zbs H
   try dsimp only at H
   simp only [Option.some.injEq, Prod.mk.injEq] at H
   obtain ⟨rfl, rfl⟩ := H
   refine zt1 NB242_243 fun _ _ => ?_
   refine zu5 BK242 fun _ _ _ _ _ _ _ _ _ _ => ?_
   refine zu5 BK243 fun _ _ _ _ _ _ _ _ _ _ => ?_
   try go_wp2_with (first | ((with_reducible refine gtc 83 rfl ?_); refine zgL 40 Try.func83 (soft_either.calls t232 t233 t234 t235 t236 t237 t238 t239 t240 t241 3 false _ A42.out) (h := ?_); rintro w54 hb; refine zcn2 HB BK242 BK243 hb (c := ?_); clear HB BK242 BK243 hb; intro BK242 BK243 HB))
   replace BK242 := Aside0.mk (blk_drew BK242.out)
   replace BK243 := Aside0.mk (blk_drew BK243.out)
   replace HB := Aside0.mk (below_drew1 HB.out)
   refine start_ (n := 17) (S := fun w' => w'.cell? ⟨gb242, 0, none⟩ = some (.int .u64 t232) ∧ w'.cell? ⟨gb242, 1, none⟩ = some (.int .u8 t233) ∧ w'.cell? ⟨gb242, 2, none⟩ = some (.bool t234) ∧ w'.cell? ⟨gb242, 3, none⟩ = some (.int .u64 t235) ∧ w'.cell? ⟨gb242, 4, none⟩ = some (.int .i64 t236) ∧ w'.cell? ⟨gb243, 0, none⟩ = some (.int .u64 t237) ∧ w'.cell? ⟨gb243, 1, none⟩ = some (.int .u8 t238) ∧ w'.cell? ⟨gb243, 2, none⟩ = some (.bool t239) ∧ w'.cell? ⟨gb243, 3, none⟩ = some (.int .u64 t240) ∧ w'.cell? ⟨gb243, 4, none⟩ = some (.int .i64 t241)) (ds := []) #[false, false, false, false, false, false, false, false, false, false, false, false, false, false, false, false, false] (by kernel_rfl) rfl rfl (zk5 BK242 (ze5 BK243)) (fun hHeld => ?_); refine with_tabW soft_Mul.tab9 soft_Mul.bits9 (fun HT_ HW_ => ?_)
   generalize w54.drew = w55 at BK242 BK243 HB hHeld ⊢
   refine zpA 0 43 (h := ?_)
   refine zpA 1 44 (h := ?_)
   refine zpA 3 46 (h := ?_)
   refine zpA 6 49 (h := ?_)
   refine zpA 8 51 (h := ?_)
   refine zpA 11 54 (h := ?_)
   refine ztA 2 45 (h := ?_)
   refine ztA 4 47 (h := ?_)
   refine ztA 7 50 (h := ?_)
   refine ztA 9 52 (h := ?_)
   refine zpA 10 53 (h := ?_)
   refine zoA 5 48 (h := fun K hK => ?_)
   refine zgA Try.func100 (wide_Mul.calls t235 t240 t252 t253 _ A49.out) (h := ?_)
   rintro w56 hb
   refine zcn2 HB BK242 BK243 hb (c := ?_)
   clear HB BK242 BK243 hb
   intro BK242 BK243 HB
   refine hK.out _ _ (zk5 BK242 (ze5 BK243)) (fun hHeld => ?_)
   clear hK K
   refine znA 48 (h := ?_)
   refine zoA 12 55 (h := fun K hK => ?_)
   refine zgA Try.func99 (round_Round.calls kj16 (t234 != t239) t252 t253 (wrap64 (t236 + t241)) false a2 t254 t255 _ A50.out) (h := ?_)
   rintro w57 hb
   refine zcn2 HB BK242 BK243 hb (c := ?_)
   clear HB BK242 BK243 hb
   intro BK242 BK243 HB
   refine hK.out _ _ (zk5 BK242 (ze5 BK243)) (fun hHeld => ?_)
   clear hK K
   refine znA 55 (h := ?_)
   refine zpA 13 56 (h := ?_)
   refine zpA 14 57 (h := ?_)
   refine zpA 15 6 (h := ?_)
   refine zpA 16 7 (h := ?_)
   refine done_ (done_of HT_.out (by kernel_rfl)) ?_
   try go_wp2
   go_ret2
   exact ⟨zaE, zaB⟩
theorem span_zero.calls (k : Nat) (a0 : Int) (r : Bool) (w : World) (h : span_zero.f k a0 = some r) :
  Calls Try.prog 138 #[.int .u64 a0] w fun e w' => e = .returned (.bool r) ∧ Drawn0 w w' := by
 have H : ((pattern_Class.f k a0).bind fun t922 => (some (t922 == 0))) = some r := h
 clear h
 obtain ⟨t922, A2, H⟩ := zbs H
 try dsimp only at H
 obtain rfl := Option.some.inj H
 go_enter Try.func138, Try.ntmps138
 go_wp2_with (first | ((with_reducible refine gtc 24 rfl ?_); refine zgL 4 Try.func24 (pattern_Class.calls k a0 t922 _ A2.out) (h := ?_); rintro w' ⟨nd, rfl⟩))
 go_ret
 exact ⟨by first | rfl | (simp; done) | (simp [*]; done), by repeat (first | exact Drawn0.refl _ | apply Drawn0.step)⟩
theorem span_Mul_1.calls (k : Nat) (a0 : Int) (a1 : Int) (a2 : Int) (r : Int) (w : World) (h : span_Mul_1.f k a0 a1 a2 = some r) :
  Calls Try.prog 137 #[.int .u64 a0, .int .u64 a1, .int .u8 a2] w fun e w' => e = .returned (.int .u64 r) ∧ Below w.heap.size w w' := by
 have HB := Aside0.mk (Below.refl w.heap.size w)
 have H := h
 unfold span_Mul_1.f at H
 clear h
 obtain ⟨t923, A4, H⟩ := zbs H
 try dsimp only at H
 by_cases c5 : t923 = true
 ·subst c5
  replace H := zit H
  obtain rfl := Option.some.inj H
  go_enter Try.func137, Try.ntmps137
  go_wp2_with (first | ((with_reducible refine gtc 138 rfl ?_); refine zgL 10 Try.func138 (span_zero.calls k a0 true _ A4.out) (h := ?_); rintro w' ⟨nd, rfl⟩))
  go_ret
  exact ⟨zaE, zaB⟩
 replace c5 := Bool.eq_false_iff.mpr c5
 subst c5
 replace H := zif H
 obtain ⟨t924, A6, H⟩ := zbs H
 try dsimp only at H
 by_cases c7 : t924 = true
 ·subst c7
  replace H := zit H
  obtain rfl := Option.some.inj H
  go_enter Try.func137, Try.ntmps137
  go_wp2_with (first | ((with_reducible refine gtc 138 rfl ?_); refine zgL 10 Try.func138 (span_zero.calls k a0 false _ A4.out) (h := ?_); rintro w' ⟨nd, rfl⟩) | (go_at_call 138; (with_reducible refine (span_zero.calls k a1 true _ A6.out).mono ?_); rintro e w' ⟨rfl, ⟨nd, rfl⟩⟩))
  go_ret
  exact ⟨zaE, zaB⟩
 replace c7 := Bool.eq_false_iff.mpr c7
 subst c7
 replace H := zif H
 obtain ⟨⟨t925, t926⟩, A8, H⟩ := zbs H
 try dsimp only at H
 obtain rfl := Option.some.inj H
 go_enter Try.func137, Try.ntmps137
 go_wp2_with (first | ((with_reducible refine gtc 138 rfl ?_); refine zgL 10 Try.func138 (span_zero.calls k a0 false _ A4.out) (h := ?_); rintro w' ⟨nd, rfl⟩) | (go_at_call 138; (with_reducible refine (span_zero.calls k a1 false _ A6.out).mono ?_); rintro e w' ⟨rfl, ⟨nd, rfl⟩⟩) | ((with_reducible refine gtc 25 rfl ?_); refine zgL 19 Try.func25 (soft_Mul.calls k a0 a1 a2 t925 t926 _ A8.out) (h := ?_); rintro w9 hb; replace HB := Aside0.mk (below_step zaB hb); (try clear hb)))
 go_ret
 exact ⟨zaE, zaB⟩
end Go.Proofs.Ytmadjhmecfbcmaa.F
end
